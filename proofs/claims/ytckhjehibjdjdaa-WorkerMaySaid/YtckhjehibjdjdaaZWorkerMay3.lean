/- WorkerMay: part 3 of the walk and of the plain law that it comes to. No condition. -/
import Derived.Test.YtckhjehibjdjdaaZWorkerMay2
import Derived.ArgAppend
import Derived.Below
import Derived.BigQuiet
import Derived.BigRegion
import Derived.Carry
import Derived.Deep.AppendLies
import Derived.Deep.CutBlock
import Derived.Deep.DeepCutAuto
import Derived.Deep.Draws
import Derived.Deep.LoopGhost
import Derived.Deep.OwnRows
import Derived.Deep.QuietTactic
import Derived.Deep.RegionHeld3
import Derived.DeepKeys3
import Derived.KernelRfl
import Derived.Laws.Bits64
import Derived.Laws.Bits64b
import Derived.Laws.BitsLemmas
import Derived.Laws.BytesArg
import Derived.Laws.Externs
import Derived.Laws.IdiomCopy
import Derived.Laws.MakeOwn
import Derived.Laws.OwnMore
import Derived.Laws.Rows
import Derived.Laws.Slices
import Derived.Lib.AppendStr
import Derived.Lib.ConvBytes
import Derived.Lib.ReflectliteSlice
import Derived.Lib.ReflectliteSwap
import Derived.Lib.SliceRun
import Derived.LoopIn
import Derived.LoopN
import Derived.LoopNIn
import Derived.LoopTactic
import Derived.Maps.AppendAt
import Derived.Maps.Keyed
import Derived.Maps.Own
import Derived.Maps.OwnOps
import Derived.Maps.OwnSet
import Derived.Maps.Views
import Derived.OrdersHeld
import Derived.Outline
import Derived.OwnWalk
import Derived.OwnWalkIn
import Derived.RangeFuncBound
import Derived.RangeFuncBox
import Derived.RangeFuncCalls
import Derived.RangeFuncFrom
import Derived.RangeFuncLeaves
import Derived.RangeFuncNested
import Derived.RowKit
import Derived.RowKit3
import Derived.Shelf.Abstract
import Derived.Shelf.RegionOpen
import Derived.StillTailTactics
import Derived.Tactics
import Derived.TacticsInMore
import Derived.WalkKit
import Derived.WideLaws
set_option linter.unusedVariables false
set_option linter.unusedSimpArgs false
namespace Go.Proofs.Ytckhjehibjdjdaa.P
open Go.RowKit Go.Proofs.YtckhjehibjdjdaaW.PrintWords Go.Proofs.YtckhjehibjdjdaaW.PrintLast Go.Proofs.YtckhjehibjdjdaaW.PrintMore
open Go.Proofs.Ytckhjehibjdjdaa.Bits Go.Proofs.Ytckhjehibjdjdaa.Mp
theorem u64_id {x : Int} (h0 : 0 ≤ x) (h1 : x < 18446744073709551616) : IntKind.u64.wrap x = x := by
 obtain ⟨n, rfl⟩ := Int.eq_ofNat_of_zero_le h0
 rw [wrapN, Nat.mod_eq_of_lt (by omega)]
theorem half_nat (M j : Nat) (hM : M < 18446744073709551616) : IntKind.u64.wrap (Int.tdiv ((M / 2 ^ j : Nat) : Int) 2) = ((M / 2 ^ (j + 1) : Nat) : Int) := by
 have h1 : M / 2 ^ (j + 1) = M / 2 ^ j / 2 := by rw [Nat.pow_succ, Nat.div_div_eq_div_mul]
 have h2 : M / 2 ^ j ≤ M := Nat.div_le_self _ _
 generalize M / 2 ^ j = a at *
 rw [h1, Int.tdiv_eq_ediv_of_nonneg (by omega), u64_id (by omega) (by omega)]
 omega
theorem has_l (M : Nat) (hM : M < 18446744073709551616) (n : Nat) : ∀ j i : Nat, j ≤ i → i - j = n → i < 64 → Ev (fun k => ensembleref01_Has.l0 k ((M / 2 ^ j : Nat) : Int) (i : Int) (j : Int)) (M.testBit i) := by
 induction n with
 | zero =>
  intro j i hj hn hi
  obtain rfl : j = i := by omega
  refine Ev.step (f := fun _ => some (M.testBit j)) (fun k => ?_) (Ev.now _)
  rw [ensembleref01_Has.l0, if_neg (by omega), if_pos (by omega), if_pos (by omega), Nat.testBit_eq_decide_div_mod_eq]
  generalize M / 2 ^ j = a
  rw [Int.tmod_eq_emod_of_nonneg (by omega)]
  congr 1
  rw [Bool.eq_iff_iff]
  simp
  omega
 | succ n ih =>
  intro j i hj hn hi
  refine Ev.step (f := fun k => ensembleref01_Has.l0 k ((M / 2 ^ (j + 1) : Nat) : Int) (i : Int) ((j + 1 : Nat) : Int)) (fun k => ?_) (ih (j + 1) i (by omega) (by omega) hi)
  rw [ensembleref01_Has.l0, if_pos (by omega), half_nat M j hM, w_id (by omega)]
  congr 1
theorem has_ev (M i : Nat) (hM : M < 18446744073709551616) (hi : i < 64) : Ev (fun k => ensembleref01_Has.f k (M : Int) (i : Int)) (M.testBit i) := by
 have := has_l M hM i 0 i (by omega) (by omega) hi
 rw [Nat.pow_zero, Nat.div_one] at this
 exact this
def posI (M : Nat) : List Int := (pos M).map fun (i : Nat) => (i : Int)
def posTo (M i : Nat) : List Int := ((List.range i).filter fun j => M.testBit j).map fun (i : Nat) => (i : Int)
theorem posTo_len (M i : Nat) : (posTo M i).length ≤ i := by
 unfold posTo; rw [List.length_map]
 exact Nat.le_trans (List.length_filter_le _ _) (by simp)
theorem units_l (M : Nat) (hM : M < 18446744073709551616) (n : Nat) : ∀ i : Nat, i ≤ 64 → 64 - i = n → Ev (fun k => ensembleref01_Units.l0 k (M : Int) (posTo M i) (i : Int)) (posI M) := by
 induction n with
 | zero =>
  intro i hi hn
  obtain rfl : i = 64 := by omega
  refine Ev.step (f := fun _ => some (posI M)) (fun k => ?_) (Ev.now _)
  rw [ensembleref01_Units.l0, if_neg (by omega)]; rfl
 | succ n ih =>
  intro i hi hn
  refine Ev.step (fun k => by rw [ensembleref01_Units.l0, if_pos (by omega)]) (Ev.bind (has_ev M i hM (by omega)) ?_)
  have I := ih (i + 1) (by omega) (by omega)
  have hl := posTo_len M i
  refine Ev.congr (fun k => ?_) I
  have e1 : wrap64 ((i : Int) + 1) = ((i + 1 : Nat) : Int) := by rw [w_id (by omega)]; omega
  have e2 : posTo M (i + 1) = if M.testBit i = true then posTo M i ++ [(i : Int)] else posTo M i := by
   unfold posTo
   rw [List.range_succ, List.filter_append, List.map_append]
   split
   ·rename_i h; simp [h]
   ·rename_i h; simp [h]
  rw [e1, e2]
  split
  ·rw [if_pos (by omega)]
  ·rfl
theorem units_ev (M : Nat) (hM : M < 18446744073709551616) : Ev (fun k => ensembleref01_Units.f k (M : Int)) (posI M) := units_l M hM 64 0 (by omega) (by omega)
theorem posI_len (M : Nat) : ((posI M).length : Int) = popI (M : Int) := by
 unfold posI popI popN; simp
theorem posI_get (M i : Nat) (h : i < (posI M).length) : rd (posI M) (i : Int) = (((pos M)[i]'(by unfold posI at h; simpa using h) : Nat) : Int) := by
 simp [rd, posI, List.getD_eq_getElem?_getD] at h ⊢
 rw [List.getElem?_eq_getElem h]; rfl
def sumP (l : List Nat) : Nat := (l.map fun i => 2 ^ i).sum
theorem sumP_append (a b : List Nat) : sumP (a ++ b) = sumP a + sumP b := by simp [sumP]
theorem orAll_lt_n {l : List Nat} {n : Nat} (h : ∀ i ∈ l, i < n) : orAll l < 2 ^ n := by
 refine Nat.lt_pow_two_of_testBit _ fun j hj => ?_
 rw [testBit_orAll, decide_eq_false]
 intro hm
 have := h j hm
 omega
theorem sumP_orAll (l : List Nat) (hp : l.Pairwise (· < ·)) : ∀ n : Nat, n ≤ l.length → sumP (l.take n) = orAll (l.take n) := by
 intro n
 induction n with
 | zero => intro _; simp [sumP, orAll]
 | succ n ih =>
  intro hn
  have hlt : n < l.length := by omega
  have hb : orAll (l.take n) < 2 ^ l[n] := orAll_lt_n fun i hi => by
   obtain ⟨j, hj, rfl⟩ := List.mem_iff_getElem.1 hi
   rw [List.getElem_take]
   rw [List.length_take] at hj
   exact List.pairwise_iff_getElem.1 hp j n (by omega) hlt (by omega)
  have h1 := Nat.two_pow_add_eq_or_of_lt hb 1
  rw [Nat.mul_one, Nat.or_comm] at h1
  rw [List.take_succ_eq_append_getElem hlt, sumP_append, orAll_snoc, ih (by omega), ← h1]
  simp [sumP]
  omega
theorem and_lt64 {a b : Nat} (ha : a < 18446744073709551616) : a &&& b < 18446744073709551616 := Nat.lt_of_le_of_lt Nat.and_le_left ha
def comm (A B : Nat) (l : List Nat) : Nat := (l.filter fun i => B.testBit i).length
theorem masks_l (A B : Nat) (hA : A < 18446744073709551616) (hB : B < 18446744073709551616) (d : Nat) : ∀ j : Nat, j ≤ (pos A).length → (pos A).length - j = d → Ev (fun k => ensembleref05_masks.l0 k (B : Int) ((comm A B ((pos A).take j) : Nat) : Int) (posI A) (j : Int)) ((comm A B (pos A) : Nat) : Int) := by
 have h64 : popN A ≤ 64 := popN_le A
 have hb64 : ∀ i ∈ pos A, i < 64 := fun i hi => (mem_pos.1 hi).1
 have hlen : (posI A).length = (pos A).length := by unfold posI; simp
 unfold popN at h64
 induction d with
 | zero =>
  intro j hj hd
  obtain rfl : j = (pos A).length := by omega
  refine Ev.step (f := fun _ => some ((comm A B (pos A) : Nat) : Int)) (fun k => ?_) (Ev.now _)
  rw [ensembleref05_masks.l0, if_neg (by omega), List.take_length]
 | succ d ih =>
  intro j hj hd
  have hjl : j < (pos A).length := by omega
  have hji : j < (posI A).length := by omega
  refine Ev.step (fun k => by rw [ensembleref05_masks.l0, if_pos (by omega), if_pos (by omega), posI_get A j hji]) (Ev.bind (has_ev B _ hB (hb64 _ (List.getElem_mem hjl))) ?_)
  refine Ev.congr (fun k => ?_) (ih (j + 1) (by omega) (by omega))
  have hc : comm A B ((pos A).take j) ≤ 64 := by
   unfold comm
   refine Nat.le_trans (List.length_filter_le _ _) ?_
   rw [List.length_take]; omega
  have e2 : comm A B ((pos A).take (j + 1)) = comm A B ((pos A).take j) + if B.testBit (pos A)[j] = true then 1 else 0 := by
   unfold comm
   rw [List.take_succ_eq_append_getElem hjl, List.filter_append, List.length_append]
   split
   ·rename_i h; simp [h]
   ·rename_i h; simp [h]
  rw [e2]
  split
  ·rw [w_id (by omega), w_id (by omega)]; congr 1
  ·rw [w_id (by omega)]; congr 1
theorem comm_pos (A B : Nat) : comm A B (pos A) = popN (A &&& B) := by
 unfold comm popN pos
 rw [List.filter_filter]
 congr 2
 funext i
 rw [Nat.testBit_and, Bool.and_comm]
theorem masks_ev (A B : Nat) (hA : A < 18446744073709551616) (hB : B < 18446744073709551616) : Ev (fun k => ensembleref05_masks.f k (A : Int) (B : Int)) ((popN (A &&& B) : Nat) : Int) := by
 unfold ensembleref05_masks.f
 refine Ev.bind (units_ev A hA) ?_
 have := masks_l A B hA hB (pos A).length 0 (by omega) (by omega)
 rw [comm_pos, List.take_zero] at this
 exact this
theorem popN_zero_iff (A : Nat) (hA : A < 18446744073709551616) : popN A = 0 ↔ A = 0 := by
 unfold popN
 constructor
 ·intro h
  have := orAll_pos (m := A) (by simpa using hA)
  rw [List.eq_nil_of_length_eq_zero h] at this
  rw [← this]; rfl
 ·rintro rfl
  rw [pos_zero]; rfl
end Go.Proofs.Ytckhjehibjdjdaa.P
namespace Go.Proofs.Ytckhjehibjdjdaa.P
open Go.RowKit Go.Proofs.YtckhjehibjdjdaaW.PrintWords Go.Proofs.YtckhjehibjdjdaaW.PrintLast Go.Proofs.YtckhjehibjdjdaaW.PrintMore
attribute [local go_sem] max2_int min2_int max_two min_two max_three min_three max_four min_four
def ensembleref04_Piece.T4 : Bool × List (List Nat × List Nat) := (true, [([], []), ([0], [0]), ([], []), ([], []), ([3], [3]), ([1, 2, 4], [1, 2, 4]), ([], []), ([6], [6]), ([], []), ([8], [8]), ([], []), ([9, 10], [9, 10]), ([], []), ([12], [12]), ([], []), ([14], [14]), ([13, 15], [13, 15]), ([7, 11, 16], [7, 11, 16]), ([5, 0, 1, 2, 3, 4, 5], [5]), ([17, 18, 0, 1, 2, 3, 4, 5, 6, 7, 8, 9, 10, 11, 12, 13, 14, 15, 16, 17, 18], [17]), ([19, 0, 1, 2, 3, 4, 5, 6, 7, 8, 9, 10, 11, 12, 13, 14, 15, 16, 17, 18, 19], [])])
def ensembleref04_Piece.B4 : List Nat := [0, 1, 0, 0, 8, 31, 0, 64, 0, 256, 0, 1792, 0, 4096, 0, 16384, 61440, 131008, 63, 524287, 1048575]
theorem ensembleref04_Piece.bits4 : waitsOk ensembleref04_Piece.T4.2 ensembleref04_Piece.B4 = true := by kernel_rfl


def ensembleref05_Room.T5 : Bool × List (List Nat × List Nat) := (true, [([], []), ([], []), ([], []), ([], []), ([2, 3], [2, 3]), ([4], [4]), ([1, 5], [1, 5]), ([0, 6], [0, 6]), ([7, 6, 0, 1, 2, 3, 4, 5, 6, 7], [0, 7])])
def ensembleref05_Room.B5 : List Nat := [0, 0, 0, 0, 12, 28, 62, 127, 255]
theorem ensembleref05_Room.bits5 : waitsOk ensembleref05_Room.T5.2 ensembleref05_Room.B5 = true := by kernel_rfl


def ensembleref12_Fits.T4 : Bool × List (List Nat × List Nat) := (true, [([], []), ([0], [0]), ([], []), ([2], [2]), ([1, 3], [1, 3]), ([4], [4]), ([5], [5]), ([6, 5], [5, 6]), ([5], [5]), ([8, 5], [5, 8]), ([7, 9, 5], [5, 7, 9]), ([5, 10], [5, 10]), ([11, 5], [11]), ([12], [12]), ([12], [12]), ([14, 12], [12, 14]), ([13, 15, 12, 12], [12, 13, 15]), ([12], [12]), ([17, 12], [12, 17]), ([16, 18, 12], [12, 16, 18]), ([12, 19], [12, 19]), ([20, 16, 0, 1, 2, 3, 4, 5, 6, 7, 8, 9, 10, 11, 12, 13, 14, 15, 16, 17, 18, 19, 20], [20])])
def ensembleref12_Fits.B4 : List Nat := [0, 1, 0, 4, 15, 31, 63, 127, 63, 319, 1023, 2047, 4095, 8191, 8191, 24575, 65535, 8191, 139263, 524287, 1048575, 2097151]
theorem ensembleref12_Fits.bits4 : waitsOk ensembleref12_Fits.T4.2 ensembleref12_Fits.B4 = true := by kernel_rfl
end Go.Proofs.Ytckhjehibjdjdaa.P
namespace Go.Proofs.Ytckhjehibjdjdaa.P
open Go.RowKit Go.Proofs.YtckhjehibjdjdaaW.PrintWords Go.Proofs.YtckhjehibjdjdaaW.PrintLast Go.Proofs.YtckhjehibjdjdaaW.PrintMore
open Go.Proofs.Ytckhjehibjdjdaa.Bits Go.Proofs.Ytckhjehibjdjdaa.Mp
theorem pos_orAll (l : List Nat) (hp : l.Pairwise (· < ·)) (h : ∀ i ∈ l, i < 64) : pos (orAll l) = l := by
 refine List.Perm.eq_of_pairwise (le := (· < ·)) (fun a b _ _ h1 h2 => absurd h1 (by omega)) (pos_sorted _) hp ?_
 have n1 : (pos (orAll l)).Nodup := (pos_sorted _).imp (fun h => by omega)
 have n2 : l.Nodup := hp.imp (fun h => by omega)
 refine (List.perm_ext_iff_of_nodup n1 n2).2 fun j => ?_
 rw [mem_pos, testBit_orAll, decide_eq_true_eq]
 exact ⟨fun h => h.2, fun hj => ⟨h j hj, hj⟩⟩
theorem sub_low (M n : Nat) (hM : M < 18446744073709551616) : M = lowN M n + orAll ((pos M).drop n) := by
 have e0 := orAll_pos (m := M) (by simpa using hM)
 have e1 := sumP_orAll (pos M) (pos_sorted M) (pos M).length (Nat.le_refl _)
 rw [List.take_length] at e1
 have hd : ((pos M).drop n).Pairwise (· < ·) := (pos_sorted M).sublist (List.drop_sublist _ _)
 have e2 := sumP_orAll ((pos M).drop n) hd _ (Nat.le_refl _)
 rw [List.take_length] at e2
 have e3 := sumP_append ((pos M).take n) ((pos M).drop n)
 rw [List.take_append_drop] at e3
 have e4 : sumP ((pos M).take n) = lowN M n := by
  unfold lowN
  by_cases h : n ≤ (pos M).length
  ·exact sumP_orAll (pos M) (pos_sorted M) n h
  ·rw [List.take_of_length_le (by omega), e1]
 omega
theorem pop_sub_low (M n : Nat) (hM : M < 18446744073709551616) : popN (M - lowN M n) = popN M - n := by
 have h := sub_low M n hM
 have e : M - lowN M n = orAll ((pos M).drop n) := by omega
 have hd : ((pos M).drop n).Pairwise (· < ·) := (pos_sorted M).sublist (List.drop_sublist _ _)
 unfold popN
 rw [e, pos_orAll _ hd (fun i hi => (mem_pos.1 (List.mem_of_mem_drop hi)).1), List.length_drop]
theorem low_le (M n : Nat) (hM : M < 18446744073709551616) : lowN M n ≤ M := by have := sub_low M n hM; omega
theorem pop_sub (m g : Int) (hm : 0 ≤ m ∧ m < 18446744073709551616) (hg : 0 ≤ g) (hgp : g ≤ popI m) : popI (m - lowI m g) = popI m - g ∧ 0 ≤ m - lowI m g ∧ m - lowI m g < 18446744073709551616 := by
 obtain ⟨M, rfl⟩ := Int.eq_ofNat_of_zero_le hm.1
 obtain ⟨G, rfl⟩ := Int.eq_ofNat_of_zero_le hg
 have hM : M < 18446744073709551616 := by omega
 have h1 := low_le M G hM
 have h2 := pop_sub_low M G hM
 have e3 : lowI (M : Int) (G : Int) = ((lowN M G : Nat) : Int) := by unfold lowI; simp
 have e4 : popI (M : Int) = ((popN M : Nat) : Int) := by unfold popI; simp
 rw [e3]
 rw [e4] at hgp ⊢
 have e5 : ((M : Int) - ((lowN M G : Nat) : Int)) = ((M - lowN M G : Nat) : Int) := by omega
 rw [e5]
 have e6 : popI ((M - lowN M G : Nat) : Int) = ((popN (M - lowN M G) : Nat) : Int) := by unfold popI; simp
 rw [e6, h2]
 omega
theorem each_sub (a b : Int) (hb : 0 ≤ b) (h : b ≤ a) (n : Nat) (hn : n < 16) (X : Int) : 1 ≤ eachI a b ∧ (min (16 - (n : Int)) (min (eachI a b) X)) = 1 + min (16 - ((n : Int) + 1)) (min (eachI (a - b) b) (X - 1)) := by
 unfold eachI
 by_cases h0 : b = 0
 ·rw [if_pos h0, if_pos h0]; omega
 ·rw [if_neg h0, if_neg h0, show (a - b) / b = a / b - 1 from by
   rw [Int.sub_ediv_of_dvd _ (Int.dvd_refl b), Int.ediv_self h0]]
  have : 1 ≤ a / b := (Int.le_ediv_iff_mul_le (by omega)).2 (by omega)
  omega
end Go.Proofs.Ytckhjehibjdjdaa.P
namespace Go.Proofs.Ytckhjehibjdjdaa.P
open Go.RowKit Go.Proofs.YtckhjehibjdjdaaW.PrintWords Go.Proofs.YtckhjehibjdjdaaW.PrintLast Go.Proofs.YtckhjehibjdjdaaW.PrintMore
class Bx (W : World) (g : Nat) (cs : outParam (Array Value)) (t : outParam TypeId) : Prop where
 out : W.heap[g]? = some (.cells cs t (0, 0))
class Bl (W : outParam World) (W' : World) : Prop where
 out : Below W.heap.size W W'
class Be (w : outParam World) (W : World) : Prop where
 out : Below w.heap.size w W
class Fr (W : outParam World) (g : Nat) : Prop where
 out : g = W.heap.size
class Nq (a b : Nat) : Prop where
 out : a ≠ b
class Ge (w : outParam World) (g : Nat) : Prop where
 out : w.heap.size ≤ g
section
variable {w W W' : World} {g g' i n : Nat} {cs : Array Value} {t : TypeId} {o : Obj} {v : Value}
instance bxDrew [h : Bx W g cs t] : Bx W.drew g cs t := ⟨d7_ h.out⟩
instance bxDrewN [h : Bx W g cs t] : Bx (W.drewN n) g cs t := ⟨d8_ h.out n⟩
instance bxAlloc [h : Bx W g cs t] : Bx (W.alloc o) g cs t := ⟨b9_ h.out o⟩
instance bxNew : Bx (W.alloc (.cells cs t)) W.heap.size cs t := ⟨blk_new W _⟩
instance bxSetS [h : Bx W g cs t] : Bx (W.setCell ⟨g, i, none⟩ v) g (cs.setIfInBounds i v) t := ⟨blk_set h.out i v⟩
instance bxSetF [e : Nq g g'] [h : Bx W g cs t] : Bx (W.setCell ⟨g', i, none⟩ v) g cs t := ⟨c7_ h.out (p := ⟨g', i, none⟩) e.out v⟩
instance bxBl [b : Bl W W'] [h : Bx W g cs t] : Bx W' g cs t := ⟨a1_ h.out b.out⟩
instance nq1 [f : Fr W g'] [h : Bx W g cs t] : Nq g g' := ⟨by rw [f.out]; exact Nat.ne_of_lt (c6_ h.out)⟩
instance nq2 [f : Fr W g'] [h : Bx W g cs t] : Nq g' g := ⟨by rw [f.out]; exact Nat.ne_of_gt (c6_ h.out)⟩
instance ge1 [f : Fr W g] [b : Be w W] : Ge w g := ⟨by rw [f.out]; exact b.out.size⟩
instance beDrew [b : Be w W] : Be w W.drew := ⟨b8_ b.out⟩
instance beDrewN [b : Be w W] : Be w (W.drewN n) := ⟨e0_ b.out n⟩
instance beAlloc [b : Be w W] : Be w (W.alloc o) := ⟨b5_ b.out o⟩
instance beSet [e : Ge w g] [b : Be w W] : Be w (W.setCell ⟨g, i, none⟩ v) := ⟨b6_ b.out e.out⟩
instance beBl [c : Bl W W'] [b : Be w W] : Be w W' := ⟨b0_ b.out c.out⟩
class Rw {α : Type} (k : Kd α) (W : World) (A : Option Addr) (c : outParam Nat) (l : List α) : Prop where
 out : Kd.C k W A l.length l
 le : l.length ≤ c
instance rwBe {α : Type} {k : Kd α} {A : Option Addr} {c : Nat} {l : List α} [b : Be w W] [r : Rw k w A c l] : Rw k W A c l := ⟨Kd.C_below r.out b.out, r.le⟩
instance rwBl {α : Type} {k : Kd α} {A : Option Addr} {c : Nat} {l : List α} [b : Bl W W'] [r : Rw k W A c l] : Rw k W' A c l := ⟨Kd.C_below r.out b.out, r.le⟩
instance rwAlloc {α : Type} {k : Kd α} {A : Option Addr} {c : Nat} {l : List α} [r : Rw k W A c l] : Rw k (W.alloc o) A c l := ⟨Kd.C_alloc r.out o, r.le⟩
instance rwDrew {α : Type} {k : Kd α} {A : Option Addr} {c : Nat} {l : List α} [r : Rw k W A c l] : Rw k W.drew A c l := ⟨Kd.C_drew r.out, r.le⟩
instance rwDrewN {α : Type} {k : Kd α} {A : Option Addr} {c : Nat} {l : List α} [r : Rw k W A c l] : Rw k (W.drewN n) A c l := ⟨Kd.C_drewN r.out n, r.le⟩
class Ro {α : Type} (k : Kd α) (e : TypeId) (base : Nat) (W : World) (v : Value) (xs : List α) : Prop where
 out : Kd.R k e W base (fun _ => True) v xs
instance roBl {α : Type} {k : Kd α} {e base : Nat} {xs : List α} [b : Bl W W'] [r : Ro k e base W v xs] : Ro k e base W' v xs := ⟨Kd.R_below r.out b.out⟩
instance roDrew {α : Type} {k : Kd α} {e base : Nat} {xs : List α} [r : Ro k e base W v xs] : Ro k e base W.drew v xs := ⟨Kd.R_drew r.out⟩
theorem nqGt [f : Fr W g] (h : g' < W.heap.size) : Nq g g' := ⟨by rw [f.out]; omega⟩
theorem cellBx [h : Bx W g cs t] (i : Nat) : W.cell? ⟨g, i, none⟩ = cs[i]? := a0_ h.out i
theorem frozBx [h : Bx W g cs t] (i : Nat) : W.frozen? ⟨g, i, none⟩ = false := a2_ h.out i
end
theorem nameA (W : World) (cs : Array Value) (t : TypeId) : ∃ g w1, Fr W g ∧ Bx w1 g cs t ∧ Bl W w1 ∧ W.heap.size = g ∧ W.alloc (.cells cs t) = w1 := ⟨_, _, ⟨rfl⟩, ⟨blk_new W _⟩, ⟨b5_ (Below.refl _ _) _⟩, rfl, rfl⟩
theorem roFar {α : Type} {d : Kd α} {e base : Nat} {W : World} {v u : Value} {xs : List α} {ok : Nat → Prop} {g j t : Nat} {cs : Array Value} (h : Kd.R d e W base ok v xs) [b : Bx W g cs t] (ht : ∀ q, q ∈ e :: d.E → q ≠ t) : Kd.R d e (W.setCell ⟨g, j, none⟩ u) base ok v xs :=
 Kd.R_mono (Kd.R_far (Kd.R_types h b.out ht) (p := ⟨g, j, none⟩) (fun k hk => hk.2) u) (fun k hk => hk.1)
section
variable {P : Program} {ops : Array Oper} {rest : List Oper} {o : Oper} {a : Act} {Q : Exit → Act → World → Prop}
theorem bxT {W : World} (N : Tmp) (cs : Array Value) (t : TypeId)
  (h : ∀ g w1, Fr W g → Bx w1 g cs t → Bl W w1 → wpList P ops Q rest (a.put o.dst (.pointer (some ⟨g, 0, none⟩))) w1)
  (hg : o.guard = none := by exact rfl) (hd : o.dst = some N := by exact rfl)
  (hr : (execOp a.eval o).run P W = .ok (.value (.pointer (some ⟨W.heap.size, 0, none⟩))) (W.alloc (.cells cs t (0, 0))) := by first | (go_simp; done) | (go_simp; rfl)) : wpList P ops Q (o :: rest) a W :=
 box_event hg hd hr fun g hg w1 hb hw => h g w1 ⟨hg⟩ ⟨hb⟩ ⟨hw⟩
end
theorem bindS {α β : Type} {x : Option α} {f : α → Option β} {r : β} (H : x.bind f = some r) : ∃ a, x = some a ∧ f a = some r := Option.bind_eq_some_iff.1 H
end Go.Proofs.Ytckhjehibjdjdaa.P
namespace Go.Proofs.Ytckhjehibjdjdaa.P
open Go.RowKit Go.Proofs.YtckhjehibjdjdaaW.PrintWords Go.Proofs.YtckhjehibjdjdaaW.PrintLast Go.Proofs.YtckhjehibjdjdaaW.PrintMore
attribute [local go_sem] max2_int min2_int max_two min_two max_three min_three max_four min_four
attribute [local go_sem] cellBx frozBx
def elastic_left.f (a0_0 a0_1 a0_2 a0_3 : Int) (l0_4 : List (S51)) (l0_5 : List (S24)) (l0_6 : List (S41)) (l0_7 : List (S105)) (l0_8 : List (S149)) (a1_0 a1_1 a1_2 a1_3 a1_4 a1_5 a1_6 a1_7 : Int) : Option (Int × Int × Int) := (shape_Check.f a1_4 a1_5 a1_6 a1_7).bind fun t873 => (if t873 = 0 then (if a1_1 < 0 then (some (0, 0, 3)) else (if a1_1 ≥ (l0_5.length : Int) then (some (0, 0, 3)) else (if 0 ≤ a1_1 then (if a1_1 < (l0_5.length : Int) then (some ((a7_ l0_5 a1_1).f0, (a7_ l0_5 a1_1).f1, 0)) else (none)) else (none)))) else (some (0, 0, t873)))
set_option maxHeartbeats 8000000 in
set_option maxRecDepth 100000 in
theorem elastic_left.calls (a0_0 a0_1 a0_2 a0_3 : Int) (A0_4 : Option Addr) (c0_4 : Nat) (l0_4 : List (S51)) (A0_5 : Option Addr) (c0_5 : Nat) (l0_5 : List (S24)) (A0_6 : Option Addr) (c0_6 : Nat) (l0_6 : List (S41)) (A0_7 : Option Addr) (c0_7 : Nat) (l0_7 : List (S105)) (A0_8 : Option Addr) (c0_8 : Nat) (l0_8 : List (S149)) (a1_0 a1_1 a1_2 a1_3 a1_4 a1_5 a1_6 a1_7 r1 r2 r3 : Int) (w : World) (hr0_4 : Kd.C k51 w A0_4 l0_4.length l0_4) (hc0_4 : l0_4.length ≤ c0_4) (hr0_5 : Kd.C k24 w A0_5 l0_5.length l0_5) (hc0_5 : l0_5.length ≤ c0_5) (hr0_6 : Kd.C k41 w A0_6 l0_6.length l0_6) (hc0_6 : l0_6.length ≤ c0_6) (hr0_7 : Kd.C k105 w A0_7 l0_7.length l0_7) (hc0_7 : l0_7.length ≤ c0_7) (hr0_8 : Kd.C k149 w A0_8 l0_8.length l0_8) (hc0_8 : l0_8.length ≤ c0_8) (h : elastic_left.f a0_0 a0_1 a0_2 a0_3 l0_4 l0_5 l0_6 l0_7 l0_8 a1_0 a1_1 a1_2 a1_3 a1_4 a1_5 a1_6 a1_7 = some (r1, r2, r3)) :
  Calls Try.prog 93 #[.agg #[.int .i64 a0_0, .int .i64 a0_1, .int .i64 a0_2, .int .i64 a0_3, .slice A0_4 l0_4.length c0_4, .slice A0_5 l0_5.length c0_5, .slice A0_6 l0_6.length c0_6, .slice A0_7 l0_7.length c0_7, .slice A0_8 l0_8.length c0_8], .agg #[.int .i64 a1_0, .int .i64 a1_1, .int .i64 a1_2, .int .i64 a1_3, .int .i64 a1_4, .int .i64 a1_5, .int .i64 a1_6, .int .i64 a1_7]] w fun e w' => e = .returned (.tuple #[.agg #[.int .i64 r1, .int .i64 r2], .int .i64 r3]) ∧ Below w.heap.size w w' := by
 have hu86 := Try.underlying86
 have hu88 := Try.underlying88
 have hu24 := Try.underlying24
 have hu27 := Try.underlying27
 have : Be w w := ⟨Below.refl _ _⟩
 unfold elastic_left.f at h
 replace h := bindS h
 obtain ⟨c, hC, h⟩ := h
 have HC := m_ hC
 have H := m_ h
 clear hC h
 go_enter Try.func93, Try.ntmps93
 go_upto_region 2 with (first | ((with_reducible refine a3_ (N := 2) rfl ?_); refine bxT 2 #[.int .i64 a0_0, .int .i64 a0_1, .int .i64 a0_2, .int .i64 a0_3, .slice A0_4 l0_4.length c0_4, .slice A0_5 l0_5.length c0_5, .slice A0_6 l0_6.length c0_6, .slice A0_7 l0_7.length c0_7, .slice A0_8 l0_8.length c0_8] 86 ?_; intro g2 w2 _ _ _) | ((with_reducible refine a3_ (N := 3) rfl ?_); refine bxT 3 #[.int .i64 a1_0, .int .i64 a1_1, .int .i64 a1_2, .int .i64 a1_3, .int .i64 a1_4, .int .i64 a1_5, .int .i64 a1_6, .int .i64 a1_7] 88 ?_; intro g3 w3 _ _ _) | ((with_reducible refine a3_ (N := 4) rfl ?_); refine bxT 4 #[.int .i64 0, .int .i64 0] 24 ?_; intro g4 w4 _ _ _) | (go_at_call 83; refine (shape_Check.calls _ _ _ _ _ _ HC.out).mono ?_; rintro e wc ⟨rfl, hb⟩; have := Bl.mk hb; clear hb))
 have hh := H.out
 clear H HC
 by_cases h0 : c = 0
 ·rw [if_pos h0] at hh
  have t : (c != 0) = false := by rw [h0]; rfl
  by_cases c1 : a1_1 < 0
  ·rw [if_pos c1] at hh
   simp only [Option.some.injEq, Prod.mk.injEq] at hh
   obtain ⟨rfl, rfl, rfl⟩ := hh
   have q1 := decide_eq_true c1
   clear c1 h0
   go_wp2
   refine bodyPost_ret (results_ct rfl _ _ g4 24 _ (0, 0) _ rfl Bx.out Try.underlying24 rfl (by kernel_rfl)) rfl ?_
   exact ⟨rfl, Be.out⟩
  rw [if_neg c1] at hh
  by_cases c2 : a1_1 ≥ (l0_5.length : Int)
  ·rw [if_pos c2] at hh
   simp only [Option.some.injEq, Prod.mk.injEq] at hh
   obtain ⟨rfl, rfl, rfl⟩ := hh
   have q1 := decide_eq_false c1
   have q2 := decide_eq_true c2
   clear c1 c2 h0
   go_wp2
   refine bodyPost_ret (results_ct rfl _ _ g4 24 _ (0, 0) _ rfl Bx.out Try.underlying24 rfl (by kernel_rfl)) rfl ?_
   exact ⟨rfl, Be.out⟩
  clear h0
  rw [if_neg c2, if_pos (by omega), if_pos (by omega)] at hh
  simp only [Option.some.injEq, Prod.mk.injEq] at hh
  obtain ⟨rfl, rfl, rfl⟩ := hh
  have p1 := decide_eq_false c1
  have p2 := decide_eq_false c2
  have p3 : (0 ≤ a1_1) = True := eq_true (by omega)
  have p4 : (a1_1 < (l0_5.length : Int)) = True := eq_true (by omega)
  obtain ⟨ad, hea, y0, y1⟩ := at_T24 (Kd.C_below hr0_5 (Be.out (W := wc))) a1_1 (by omega) (by omega)
  subst hea
  clear c1 c2
  go_wp2
  refine bodyPost_ret (results_ct rfl _ _ g4 24 _ (0, 0) _ rfl Bx.out Try.underlying24 rfl (by kernel_rfl)) rfl ?_
  exact ⟨rfl, Be.out⟩
 ·rw [if_neg h0] at hh
  simp only [Option.some.injEq, Prod.mk.injEq] at hh
  obtain ⟨rfl, rfl, rfl⟩ := hh
  have t : (c != 0) = true := bne_iff_ne.2 h0
  clear h0
  go_wp2
  refine bodyPost_ret (results_ct rfl _ _ g4 24 _ (0, 0) _ rfl Bx.out Try.underlying24 rfl (by kernel_rfl)) rfl ?_
  exact ⟨rfl, Be.out⟩
end Go.Proofs.Ytckhjehibjdjdaa.P
namespace Go.Proofs.Ytckhjehibjdjdaa.P
open Go.RowKit Go.Proofs.YtckhjehibjdjdaaW.PrintWords Go.Proofs.YtckhjehibjdjdaaW.PrintLast Go.Proofs.YtckhjehibjdjdaaW.PrintMore
attribute [local go_sem] max2_int min2_int max_two min_two max_three min_three max_four min_four
def elastic_within.f (a0_0 a0_1 a0_2 a0_3 a1 a2_0 a2_1 : Int) : Option (Bool) := (shape_Units.f a0_0 a0_1 a0_2 a0_3 a1).bind fun bt877 => (if bt877.1 ≤ a2_0 then (some (decide (bt877.2.1 ≤ a2_1))) else (some false))
set_option maxHeartbeats 8000000 in
set_option maxRecDepth 100000 in
theorem elastic_within.calls (a0_0 a0_1 a0_2 a0_3 a1 a2_0 a2_1 : Int) (r : Bool) (w : World) (h : elastic_within.f a0_0 a0_1 a0_2 a0_3 a1 a2_0 a2_1 = some r) :
  Calls Try.prog 116 #[.agg #[.int .i64 a0_0, .int .i64 a0_1, .int .i64 a0_2, .int .i64 a0_3], .int .i64 a1, .agg #[.int .i64 a2_0, .int .i64 a2_1]] w fun e w' => e = .returned (.bool r) ∧ Below w.heap.size w w' := by
 have hu27 := Try.underlying27
 have hu24 := Try.underlying24
 have HB := m_ (Below.refl w.heap.size w)
 have H := h
 unfold elastic_within.f at H
 clear h
 replace H := Option.bind_eq_some_iff.mp H
 obtain ⟨⟨t877, t878, t879⟩, A40, H⟩ := H
 try dsimp only at H
 have A4 := m_ A40
 clear A40
 by_cases c5 : t877 ≤ a2_0
 ·rw [if_pos c5] at H
  have c5b0 : decide (t877 ≤ a2_0) = true := decide_eq_true c5
  clear c5
  obtain rfl := Option.some.inj H
  go_enter Try.func116, Try.ntmps116
  go_wp2_with (first | ((with_reducible refine a3_ (N := 3) rfl ?_); refine bx 3 #[.int .i64 a0_0, .int .i64 a0_1, .int .i64 a0_2, .int .i64 a0_3] 27 ?_; intro gb875 hg w6 hbox hb; have BK875 := m_ (hbox); have GW875 := ge_ hg; have GE875 := ge_ hg; replace HB := hs_ hb; clear hb hbox hg) | ((with_reducible refine a3_ (N := 5) rfl ?_); refine bx 5 #[.int .i64 a2_0, .int .i64 a2_1] 24 ?_; intro gb876 hg w7 hbox hb; have BK876 := m_ (hbox); have GW876 := ge_ hg; have GE876 := ge_ hg; have NB875_876 := nl_ BK875 hg; have NB876_875 := nr_ BK875 hg; replace BK875 := bk_ BK875 hb; replace HB := hs_ hb; clear hb hbox hg; have hnb8 := NB875_876.out; have hnc8 := NB876_875.out; obtain ⟨hcz9_0, hcz9_1, hcz9_2, hcz9_3, hfz9_0, hfz9_1, hfz9_2, hfz9_3⟩ := bz4_ BK875) | ((with_reducible refine b3_ (f := 76) rfl ?_); refine goesL_ (some 12) rfl rfl Try.func76 (by kernel_rfl) rfl #[.agg #[.int .i64 a0_0, .int .i64 a0_1, .int .i64 a0_2, .int .i64 a0_3], .int .i64 a1] rfl Z0 ?_; (with_reducible refine (shape_Units.calls a0_0 a0_1 a0_2 a0_3 a1 t877 t878 t879 _ A4.out).mono ?_); rintro e w10 ⟨rfl, hb⟩; refine ⟨_, rfl, ?_⟩; replace BK875 := bk_ BK875 hb; replace BK876 := bk_ BK876 hb; replace HB := hs_ hb; (try clear hb); (try clear hb2); (try clear hk); (try clear hi)) | ((with_reducible refine a3_ (N := 7) rfl ?_); refine bx 7 #[.int .i64 0, .int .i64 0] 24 ?_; intro gb880 hg w11 hbox hb; have BK880 := m_ (hbox); have GW880 := ge_ hg; have GE880 := ge_ hg; have NB875_880 := nl_ BK875 hg; have NB880_875 := nr_ BK875 hg; have NB876_880 := nl_ BK876 hg; have NB880_876 := nr_ BK876 hg; replace BK875 := bk_ BK875 hb; replace BK876 := bk_ BK876 hb; replace HB := hs_ hb; clear hb hbox hg; have hnb12 := NB880_875.out; have hnc12 := NB875_880.out; have hnb13 := NB880_876.out; have hnc13 := NB876_880.out; obtain ⟨hcz14_0, hcz14_1, hfz14_0, hfz14_1⟩ := bz2_ BK880; obtain ⟨hcz15_0, hcz15_1, hfz15_0, hfz15_1⟩ := bz2_ BK876))
  go_ret
  exact ⟨by first | rfl | (simp [b2_, b1_] <;> rfl) | (simp [*, b2_, b1_] <;> rfl), hb_⟩
 ·rw [if_neg c5] at H
  have c5b0 : decide (t877 ≤ a2_0) = false := decide_eq_false c5
  clear c5
  obtain rfl := Option.some.inj H
  go_enter Try.func116, Try.ntmps116
  go_wp2_with (first | ((with_reducible refine a3_ (N := 3) rfl ?_); refine bx 3 #[.int .i64 a0_0, .int .i64 a0_1, .int .i64 a0_2, .int .i64 a0_3] 27 ?_; intro gb875 hg w16 hbox hb; have BK875 := m_ (hbox); have GW875 := ge_ hg; have GE875 := ge_ hg; replace HB := hs_ hb; clear hb hbox hg) | ((with_reducible refine a3_ (N := 5) rfl ?_); refine bx 5 #[.int .i64 a2_0, .int .i64 a2_1] 24 ?_; intro gb876 hg w17 hbox hb; have BK876 := m_ (hbox); have GW876 := ge_ hg; have GE876 := ge_ hg; have NB875_876 := nl_ BK875 hg; have NB876_875 := nr_ BK875 hg; replace BK875 := bk_ BK875 hb; replace HB := hs_ hb; clear hb hbox hg; have hnb18 := NB875_876.out; have hnc18 := NB876_875.out; obtain ⟨hcz19_0, hcz19_1, hcz19_2, hcz19_3, hfz19_0, hfz19_1, hfz19_2, hfz19_3⟩ := bz4_ BK875) | ((with_reducible refine b3_ (f := 76) rfl ?_); refine goesL_ (some 12) rfl rfl Try.func76 (by kernel_rfl) rfl #[.agg #[.int .i64 a0_0, .int .i64 a0_1, .int .i64 a0_2, .int .i64 a0_3], .int .i64 a1] rfl Z0 ?_; (with_reducible refine (shape_Units.calls a0_0 a0_1 a0_2 a0_3 a1 t877 t878 t879 _ A4.out).mono ?_); rintro e w20 ⟨rfl, hb⟩; refine ⟨_, rfl, ?_⟩; replace BK875 := bk_ BK875 hb; replace BK876 := bk_ BK876 hb; replace HB := hs_ hb; (try clear hb); (try clear hb2); (try clear hk); (try clear hi)) | ((with_reducible refine a3_ (N := 7) rfl ?_); refine bx 7 #[.int .i64 0, .int .i64 0] 24 ?_; intro gb880 hg w21 hbox hb; have BK880 := m_ (hbox); have GW880 := ge_ hg; have GE880 := ge_ hg; have NB875_880 := nl_ BK875 hg; have NB880_875 := nr_ BK875 hg; have NB876_880 := nl_ BK876 hg; have NB880_876 := nr_ BK876 hg; replace BK875 := bk_ BK875 hb; replace BK876 := bk_ BK876 hb; replace HB := hs_ hb; clear hb hbox hg; have hnb22 := NB880_875.out; have hnc22 := NB875_880.out; have hnb23 := NB880_876.out; have hnc23 := NB876_880.out; obtain ⟨hcz24_0, hcz24_1, hfz24_0, hfz24_1⟩ := bz2_ BK880; obtain ⟨hcz25_0, hcz25_1, hfz25_0, hfz25_1⟩ := bz2_ BK876))
  go_ret
  exact ⟨by first | rfl | (simp [b2_, b1_] <;> rfl) | (simp [*, b2_, b1_] <;> rfl), hb_⟩
def elastic_can.f (k : Nat) (a0_0 a0_1 a0_2 a0_3 : Int) (l0_4 : List (S51)) (l0_5 : List (S24)) (l0_6 : List (S41)) (l0_7 : List (S105)) (l0_8 : List (S149)) (a1_0 a1_1 a1_2 a1_3 a2 a3_0 a3_1 : Int) : Option (Int) := (pack_Room.f k l0_4 a1_0 a1_1 a1_2 a1_3).bind fun t884 => (if t884 < a2 then (some 7) else ((elastic_within.f a1_0 a1_1 a1_2 a1_3 a2 a3_0 a3_1).bind fun t885 => (if t885 = true then (some 0) else (some 6))))
set_option maxHeartbeats 8000000 in
set_option maxRecDepth 100000 in
theorem elastic_can.calls (k : Nat) (a0_0 a0_1 a0_2 a0_3 : Int) (A0_4 : Option Addr) (c0_4 : Nat) (l0_4 : List (S51)) (A0_5 : Option Addr) (c0_5 : Nat) (l0_5 : List (S24)) (A0_6 : Option Addr) (c0_6 : Nat) (l0_6 : List (S41)) (A0_7 : Option Addr) (c0_7 : Nat) (l0_7 : List (S105)) (A0_8 : Option Addr) (c0_8 : Nat) (l0_8 : List (S149)) (a1_0 a1_1 a1_2 a1_3 a2 a3_0 a3_1 r : Int) (w : World) (hr0_4 : Kd.C k51 w A0_4 l0_4.length l0_4) (hc0_4 : l0_4.length ≤ c0_4) (hr0_5 : Kd.C k24 w A0_5 l0_5.length l0_5) (hc0_5 : l0_5.length ≤ c0_5) (hr0_6 : Kd.C k41 w A0_6 l0_6.length l0_6) (hc0_6 : l0_6.length ≤ c0_6) (hr0_7 : Kd.C k105 w A0_7 l0_7.length l0_7) (hc0_7 : l0_7.length ≤ c0_7) (hr0_8 : Kd.C k149 w A0_8 l0_8.length l0_8) (hc0_8 : l0_8.length ≤ c0_8) (h : elastic_can.f k a0_0 a0_1 a0_2 a0_3 l0_4 l0_5 l0_6 l0_7 l0_8 a1_0 a1_1 a1_2 a1_3 a2 a3_0 a3_1 = some r) :
  Calls Try.prog 94 #[.agg #[.int .i64 a0_0, .int .i64 a0_1, .int .i64 a0_2, .int .i64 a0_3, .slice A0_4 l0_4.length c0_4, .slice A0_5 l0_5.length c0_5, .slice A0_6 l0_6.length c0_6, .slice A0_7 l0_7.length c0_7, .slice A0_8 l0_8.length c0_8], .agg #[.int .i64 a1_0, .int .i64 a1_1, .int .i64 a1_2, .int .i64 a1_3], .int .i64 a2, .agg #[.int .i64 a3_0, .int .i64 a3_1]] w fun e w' => e = .returned (.int .i64 r) ∧ Below w.heap.size w w' := by
 have hu86 := Try.underlying86
 have hu27 := Try.underlying27
 have hu24 := Try.underlying24
 have HR0_4 := m_ hr0_4
 have HC0_4 := m_ hc0_4
 clear hr0_4 hc0_4
 have HR0_5 := m_ hr0_5
 have HC0_5 := m_ hc0_5
 clear hr0_5 hc0_5
 have HR0_6 := m_ hr0_6
 have HC0_6 := m_ hc0_6
 clear hr0_6 hc0_6
 have HR0_7 := m_ hr0_7
 have HC0_7 := m_ hc0_7
 clear hr0_7 hc0_7
 have HR0_8 := m_ hr0_8
 have HC0_8 := m_ hc0_8
 clear hr0_8 hc0_8
 have HB := m_ (Below.refl w.heap.size w)
 have H := h
 unfold elastic_can.f at H
 clear h
 replace H := Option.bind_eq_some_iff.mp H
 obtain ⟨t884, A50, H⟩ := H
 try dsimp only at H
 have A5 := m_ A50
 clear A50
 by_cases c6 : t884 < a2
 ·rw [if_pos c6] at H
  have c6b0 : decide (t884 < a2) = true := decide_eq_true c6
  clear c6
  obtain rfl := Option.some.inj H
  go_enter Try.func94, Try.ntmps94
  go_wp2_with (first | ((with_reducible refine a3_ (N := 4) rfl ?_); refine bx 4 #[.int .i64 a0_0, .int .i64 a0_1, .int .i64 a0_2, .int .i64 a0_3, .slice A0_4 l0_4.length c0_4, .slice A0_5 l0_5.length c0_5, .slice A0_6 l0_6.length c0_6, .slice A0_7 l0_7.length c0_7, .slice A0_8 l0_8.length c0_8] 86 ?_; intro gb881 hg w7 hbox hb; have BK881 := m_ (hbox); have GW881 := ge_ hg; have GE881 := ge_ hg; replace HB := hs_ hb; clear hb hbox hg) | ((with_reducible refine a3_ (N := 5) rfl ?_); refine bx 5 #[.int .i64 a1_0, .int .i64 a1_1, .int .i64 a1_2, .int .i64 a1_3] 27 ?_; intro gb882 hg w8 hbox hb; have BK882 := m_ (hbox); have GW882 := ge_ hg; have GE882 := ge_ hg; have NB881_882 := nl_ BK881 hg; have NB882_881 := nr_ BK881 hg; replace BK881 := bk_ BK881 hb; replace HB := hs_ hb; clear hb hbox hg) | ((with_reducible refine a3_ (N := 7) rfl ?_); refine bx 7 #[.int .i64 a3_0, .int .i64 a3_1] 24 ?_; intro gb883 hg w9 hbox hb; have BK883 := m_ (hbox); have GW883 := ge_ hg; have GE883 := ge_ hg; have NB881_883 := nl_ BK881 hg; have NB883_881 := nr_ BK881 hg; have NB882_883 := nl_ BK882 hg; have NB883_882 := nr_ BK882 hg; replace BK881 := bk_ BK881 hb; replace BK882 := bk_ BK882 hb; replace HB := hs_ hb; clear hb hbox hg; have hnb10 := NB881_882.out; have hnc10 := NB882_881.out; have hnb11 := NB881_883.out; have hnc11 := NB883_881.out; obtain ⟨hcz12_0, hcz12_1, hcz12_2, hcz12_3, hcz12_4, hcz12_5, hcz12_6, hcz12_7, hcz12_8, hfz12_0, hfz12_1, hfz12_2, hfz12_3, hfz12_4, hfz12_5, hfz12_6, hfz12_7, hfz12_8⟩ := bz9_ BK881; have hnb13 := NB882_883.out; have hnc13 := NB883_882.out; obtain ⟨hcz14_0, hcz14_1, hcz14_2, hcz14_3, hfz14_0, hfz14_1, hfz14_2, hfz14_3⟩ := bz4_ BK882) | ((with_reducible refine b3_ (f := 50) rfl ?_); refine goesL_ (some 13) rfl rfl Try.func50 (by kernel_rfl) rfl #[.slice A0_4 l0_4.length c0_4, .agg #[.int .i64 a1_0, .int .i64 a1_1, .int .i64 a1_2, .int .i64 a1_3]] rfl Z0 ?_; (with_reducible refine (pack_Room.calls k _ _ l0_4 a1_0 a1_1 a1_2 a1_3 t884 _ ?side1 ?side2 A5.out).mono ?_); (case side1 => exact cs_ HR0_4); (case side2 => exact HC0_4.out); rintro e w15 ⟨rfl, hb⟩; refine ⟨_, rfl, ?_⟩; replace BK881 := bk_ BK881 hb; replace BK882 := bk_ BK882 hb; replace BK883 := bk_ BK883 hb; replace HB := hs_ hb; (try clear hb); (try clear hb2); (try clear hk); (try clear hi)))
  go_ret
  exact ⟨by first | rfl | (simp [b2_, b1_] <;> rfl) | (simp [*, b2_, b1_] <;> rfl), hb_⟩
 ·rw [if_neg c6] at H
  have c6b0 : decide (t884 < a2) = false := decide_eq_false c6
  clear c6
  replace H := Option.bind_eq_some_iff.mp H
  obtain ⟨t885, A160, H⟩ := H
  try dsimp only at H
  have A16 := m_ A160
  clear A160
  by_cases c17 : t885 = true
  ·subst c17
   have H1 : (some 0) = some r := by rw [if_pos rfl] at H; exact H
   clear H
   have H := H1
   clear H1
   obtain rfl := Option.some.inj H
   go_enter Try.func94, Try.ntmps94
   go_wp2_with (first | ((with_reducible refine a3_ (N := 4) rfl ?_); refine bx 4 #[.int .i64 a0_0, .int .i64 a0_1, .int .i64 a0_2, .int .i64 a0_3, .slice A0_4 l0_4.length c0_4, .slice A0_5 l0_5.length c0_5, .slice A0_6 l0_6.length c0_6, .slice A0_7 l0_7.length c0_7, .slice A0_8 l0_8.length c0_8] 86 ?_; intro gb881 hg w18 hbox hb; have BK881 := m_ (hbox); have GW881 := ge_ hg; have GE881 := ge_ hg; replace HB := hs_ hb; clear hb hbox hg) | ((with_reducible refine a3_ (N := 5) rfl ?_); refine bx 5 #[.int .i64 a1_0, .int .i64 a1_1, .int .i64 a1_2, .int .i64 a1_3] 27 ?_; intro gb882 hg w19 hbox hb; have BK882 := m_ (hbox); have GW882 := ge_ hg; have GE882 := ge_ hg; have NB881_882 := nl_ BK881 hg; have NB882_881 := nr_ BK881 hg; replace BK881 := bk_ BK881 hb; replace HB := hs_ hb; clear hb hbox hg) | ((with_reducible refine a3_ (N := 7) rfl ?_); refine bx 7 #[.int .i64 a3_0, .int .i64 a3_1] 24 ?_; intro gb883 hg w20 hbox hb; have BK883 := m_ (hbox); have GW883 := ge_ hg; have GE883 := ge_ hg; have NB881_883 := nl_ BK881 hg; have NB883_881 := nr_ BK881 hg; have NB882_883 := nl_ BK882 hg; have NB883_882 := nr_ BK882 hg; replace BK881 := bk_ BK881 hb; replace BK882 := bk_ BK882 hb; replace HB := hs_ hb; clear hb hbox hg; have hnb21 := NB881_882.out; have hnc21 := NB882_881.out; have hnb22 := NB881_883.out; have hnc22 := NB883_881.out; obtain ⟨hcz23_0, hcz23_1, hcz23_2, hcz23_3, hcz23_4, hcz23_5, hcz23_6, hcz23_7, hcz23_8, hfz23_0, hfz23_1, hfz23_2, hfz23_3, hfz23_4, hfz23_5, hfz23_6, hfz23_7, hfz23_8⟩ := bz9_ BK881; have hnb24 := NB882_883.out; have hnc24 := NB883_882.out; obtain ⟨hcz25_0, hcz25_1, hcz25_2, hcz25_3, hfz25_0, hfz25_1, hfz25_2, hfz25_3⟩ := bz4_ BK882) | ((with_reducible refine b3_ (f := 50) rfl ?_); refine goesL_ (some 13) rfl rfl Try.func50 (by kernel_rfl) rfl #[.slice A0_4 l0_4.length c0_4, .agg #[.int .i64 a1_0, .int .i64 a1_1, .int .i64 a1_2, .int .i64 a1_3]] rfl Z0 ?_; (with_reducible refine (pack_Room.calls k _ _ l0_4 a1_0 a1_1 a1_2 a1_3 t884 _ ?side1 ?side2 A5.out).mono ?_); (case side1 => exact cs_ HR0_4); (case side2 => exact HC0_4.out); rintro e w26 ⟨rfl, hb⟩; refine ⟨_, rfl, ?_⟩; replace BK881 := bk_ BK881 hb; replace BK882 := bk_ BK882 hb; replace BK883 := bk_ BK883 hb; replace HB := hs_ hb; (try clear hb); (try clear hb2); (try clear hk); (try clear hi); obtain ⟨hcz27_0, hcz27_1, hcz27_2, hcz27_3, hfz27_0, hfz27_1, hfz27_2, hfz27_3⟩ := bz4_ BK882; obtain ⟨hcz28_0, hcz28_1, hfz28_0, hfz28_1⟩ := bz2_ BK883) | ((with_reducible refine b3_ (f := 116) rfl ?_); refine goesL_ (some 20) rfl rfl Try.func116 (by kernel_rfl) rfl #[.agg #[.int .i64 a1_0, .int .i64 a1_1, .int .i64 a1_2, .int .i64 a1_3], .int .i64 a2, .agg #[.int .i64 a3_0, .int .i64 a3_1]] rfl Z0 ?_; (with_reducible refine (elastic_within.calls a1_0 a1_1 a1_2 a1_3 a2 a3_0 a3_1 true _ A16.out).mono ?_); rintro e w29 ⟨rfl, hb⟩; refine ⟨_, rfl, ?_⟩; replace BK881 := bk_ BK881 hb; replace BK882 := bk_ BK882 hb; replace BK883 := bk_ BK883 hb; replace HB := hs_ hb; (try clear hb); (try clear hb2); (try clear hk); (try clear hi)))
   go_ret
   exact ⟨by first | rfl | (simp [b2_, b1_] <;> rfl) | (simp [*, b2_, b1_] <;> rfl), hb_⟩
  ·replace c17 := Bool.eq_false_iff.mpr c17
   subst c17
   have H1 : (some 6) = some r := by rw [if_neg (show ¬ (false = true) by decide)] at H; exact H
   clear H
   have H := H1
   clear H1
   obtain rfl := Option.some.inj H
   go_enter Try.func94, Try.ntmps94
   go_wp2_with (first | ((with_reducible refine a3_ (N := 4) rfl ?_); refine bx 4 #[.int .i64 a0_0, .int .i64 a0_1, .int .i64 a0_2, .int .i64 a0_3, .slice A0_4 l0_4.length c0_4, .slice A0_5 l0_5.length c0_5, .slice A0_6 l0_6.length c0_6, .slice A0_7 l0_7.length c0_7, .slice A0_8 l0_8.length c0_8] 86 ?_; intro gb881 hg w30 hbox hb; have BK881 := m_ (hbox); have GW881 := ge_ hg; have GE881 := ge_ hg; replace HB := hs_ hb; clear hb hbox hg) | ((with_reducible refine a3_ (N := 5) rfl ?_); refine bx 5 #[.int .i64 a1_0, .int .i64 a1_1, .int .i64 a1_2, .int .i64 a1_3] 27 ?_; intro gb882 hg w31 hbox hb; have BK882 := m_ (hbox); have GW882 := ge_ hg; have GE882 := ge_ hg; have NB881_882 := nl_ BK881 hg; have NB882_881 := nr_ BK881 hg; replace BK881 := bk_ BK881 hb; replace HB := hs_ hb; clear hb hbox hg) | ((with_reducible refine a3_ (N := 7) rfl ?_); refine bx 7 #[.int .i64 a3_0, .int .i64 a3_1] 24 ?_; intro gb883 hg w32 hbox hb; have BK883 := m_ (hbox); have GW883 := ge_ hg; have GE883 := ge_ hg; have NB881_883 := nl_ BK881 hg; have NB883_881 := nr_ BK881 hg; have NB882_883 := nl_ BK882 hg; have NB883_882 := nr_ BK882 hg; replace BK881 := bk_ BK881 hb; replace BK882 := bk_ BK882 hb; replace HB := hs_ hb; clear hb hbox hg; have hnb33 := NB881_882.out; have hnc33 := NB882_881.out; have hnb34 := NB881_883.out; have hnc34 := NB883_881.out; obtain ⟨hcz35_0, hcz35_1, hcz35_2, hcz35_3, hcz35_4, hcz35_5, hcz35_6, hcz35_7, hcz35_8, hfz35_0, hfz35_1, hfz35_2, hfz35_3, hfz35_4, hfz35_5, hfz35_6, hfz35_7, hfz35_8⟩ := bz9_ BK881; have hnb36 := NB882_883.out; have hnc36 := NB883_882.out; obtain ⟨hcz37_0, hcz37_1, hcz37_2, hcz37_3, hfz37_0, hfz37_1, hfz37_2, hfz37_3⟩ := bz4_ BK882) | ((with_reducible refine b3_ (f := 50) rfl ?_); refine goesL_ (some 13) rfl rfl Try.func50 (by kernel_rfl) rfl #[.slice A0_4 l0_4.length c0_4, .agg #[.int .i64 a1_0, .int .i64 a1_1, .int .i64 a1_2, .int .i64 a1_3]] rfl Z0 ?_; (with_reducible refine (pack_Room.calls k _ _ l0_4 a1_0 a1_1 a1_2 a1_3 t884 _ ?side1 ?side2 A5.out).mono ?_); (case side1 => exact cs_ HR0_4); (case side2 => exact HC0_4.out); rintro e w38 ⟨rfl, hb⟩; refine ⟨_, rfl, ?_⟩; replace BK881 := bk_ BK881 hb; replace BK882 := bk_ BK882 hb; replace BK883 := bk_ BK883 hb; replace HB := hs_ hb; (try clear hb); (try clear hb2); (try clear hk); (try clear hi); obtain ⟨hcz39_0, hcz39_1, hcz39_2, hcz39_3, hfz39_0, hfz39_1, hfz39_2, hfz39_3⟩ := bz4_ BK882; obtain ⟨hcz40_0, hcz40_1, hfz40_0, hfz40_1⟩ := bz2_ BK883) | ((with_reducible refine b3_ (f := 116) rfl ?_); refine goesL_ (some 20) rfl rfl Try.func116 (by kernel_rfl) rfl #[.agg #[.int .i64 a1_0, .int .i64 a1_1, .int .i64 a1_2, .int .i64 a1_3], .int .i64 a2, .agg #[.int .i64 a3_0, .int .i64 a3_1]] rfl Z0 ?_; (with_reducible refine (elastic_within.calls a1_0 a1_1 a1_2 a1_3 a2 a3_0 a3_1 false _ A16.out).mono ?_); rintro e w41 ⟨rfl, hb⟩; refine ⟨_, rfl, ?_⟩; replace BK881 := bk_ BK881 hb; replace BK882 := bk_ BK882 hb; replace BK883 := bk_ BK883 hb; replace HB := hs_ hb; (try clear hb); (try clear hb2); (try clear hk); (try clear hi)))
   go_ret
   exact ⟨by first | rfl | (simp [b2_, b1_] <;> rfl) | (simp [*, b2_, b1_] <;> rfl), hb_⟩
end Go.Proofs.Ytckhjehibjdjdaa.P
namespace Go.Proofs.Ytckhjehibjdjdaa.P
open Go.RowKit Go.Shelf Go.Proofs.YtckhjehibjdjdaaW.PrintWords Go.Proofs.YtckhjehibjdjdaaW.PrintLast Go.Proofs.YtckhjehibjdjdaaW.PrintMore
open Go.Proofs.Ytckhjehibjdjdaa.RF
attribute [local go_sem] Oper.semAt_some
def withB (g c n lg lc : Int) : Bool := decide (g * n ≤ lg) && decide (c * n ≤ lc)
def canB (view : List S51) (g c mn mx n lg lc : Int) : Int := if roomS g c mn mx view < n then 7 else if withB g c n lg lc = true then 0 else 6
theorem can_eq (k : Nat) (a0 a1 a2 a3 : Int) (view : List S51) (l5 : List S24) (l6 : List S41) (l7 : List S105) (l8 : List S149) (g c mn mx n lg lc : Int) (hk : view.length + 1 ≤ k) (hl : view.length ≤ 1000000) (hv : ∀ f ∈ view, freeOk f = true)
  (hg : c9_ g c mn mx = true) (h0 : 0 ≤ n) (h1 : n ≤ 16) : elastic_can.f k a0 a1 a2 a3 view l5 l6 l7 l8 g c mn mx n lg lc = some (canB view g c mn mx n lg lc) := by
 have hb := good_out0 hg
 have e1 : wrap64 (g * n) = g * n := by
  have : 0 ≤ g * n := Int.mul_nonneg hb.1 h0
  have : g * n ≤ 16 * 16 := Int.mul_le_mul hb.2.1 h1 h0 (by decide)
  unfold wrap64; omega
 have e2 : wrap64 (c * n) = c * n := by
  have : 0 ≤ c * n := Int.mul_nonneg hb.2.2.1 h0
  have : c * n ≤ 1024 * 16 := Int.mul_le_mul hb.2.2.2 h1 h0 (by decide)
  unfold wrap64; omega
 unfold elastic_can.f
 rw [room_eq k view g c mn mx hk (by omega) hv, Option.bind_some]
 unfold canB
 by_cases hr : roomS g c mn mx view < n
 ·rw [if_pos hr, if_pos hr]
 rw [if_neg hr, if_neg hr]
 unfold elastic_within.f shape_Units.f shape_Check.f
 rw [if_pos hg, Option.bind_some, if_pos rfl, if_neg (by omega), if_neg (by omega), Option.bind_some]
 simp only [e1, e2]
 unfold withB
 by_cases h2 : g * n ≤ lg
 ·rw [if_pos h2, Option.bind_some, decide_eq_true h2, Bool.true_and]
  by_cases h3 : c * n ≤ lc
  ·rw [decide_eq_true h3, if_pos rfl, if_pos rfl]
  ·rw [decide_eq_false h3, if_neg (by decide), if_neg (by decide)]
 ·rw [if_neg h2, Option.bind_some, decide_eq_false h2, Bool.false_and, if_neg (by decide), if_neg (by decide)]
def leftB (left : List S24) (q g c mn mx : Int) : Int × Int × Int :=
 if c9_ g c mn mx = true then (if 0 ≤ q ∧ q < left.length then ((a7_ left q).f0, (a7_ left q).f1, 0) else (0, 0, 3)) else (0, 0, 1)
theorem left_eq0 (a0 a1 a2 a3 : Int) (view : List S51) (l5 : List S24) (l6 : List S41) (l7 : List S105) (l8 : List S149) (b0 q b2 b3 g c mn mx : Int) :
  elastic_left.f a0 a1 a2 a3 view l5 l6 l7 l8 b0 q b2 b3 g c mn mx = some (leftB l5 q g c mn mx) := by
 unfold elastic_left.f shape_Check.f leftB
 by_cases hg : c9_ g c mn mx = true
 ·rw [if_pos hg, Option.bind_some, if_pos rfl, if_pos hg]
  by_cases h0 : q < 0
  ·rw [if_pos h0, if_neg (by omega)]
  ·rw [if_neg h0]
   by_cases h1 : q ≥ (l5.length : Int)
   ·rw [if_pos h1, if_neg (by omega)]
   ·rw [if_neg h1, if_pos (by omega), if_pos (by omega), if_pos ⟨by omega, by omega⟩]
 ·rw [if_neg hg, Option.bind_some, if_neg (by decide), if_neg hg]
def firstGo (view : List S51) (g c mn mx lg lc : Int) : Option Int := (downL mx mn).find? fun n => canB view g c mn mx n lg lc == 0
def mostB (view : List S51) (left : List S24) (q g c mn mx : Int) : List S52 × Int :=
 if (leftB left q g c mn mx).2.2 ≠ 0 then ([], (leftB left q g c mn mx).2.2) else
 if canB view g c mn mx mn (leftB left q g c mn mx).1 (leftB left q g c mn mx).2.1 ≠ 0 then ([], canB view g c mn mx mn (leftB left q g c mn mx).1 (leftB left q g c mn mx).2.1) else
 match firstGo view g c mn mx (leftB left q g c mn mx).1 (leftB left q g c mn mx).2.1 with
 | some n => placeB view g c mn mx n
 | none => ([], 7)
def elastic_Most.f (a0_0 a0_1 a0_2 a0_3 : Int) (l0_4 : List (S51)) (l0_5 : List (S24)) (l0_6 : List (S41)) (l0_7 : List (S105)) (l0_8 : List (S149)) (a1_0 a1_1 a1_2 a1_3 a1_4 a1_5 a1_6 a1_7 : Int) : Option ((List (S52)) × Int) :=
 if placeOk l0_4 = true then some (mostB l0_4 l0_5 a1_1 a1_4 a1_5 a1_6 a1_7) else none
theorem good_out1 {g c mn mx : Int} (h : c9_ g c mn mx = true) : 1 ≤ mn ∧ mn ≤ mx ∧ mx ≤ 16 := by
 simp only [c9_, Bool.and_eq_true, decide_eq_true_eq] at h
 omega
theorem R_own {α : Type} {d : Kd α} {e base : Nat} {ok : Nat → Prop} {W W' : World} {v : Value} {xs : List α} (h : d.R e W base ok v xs) {row : Option Nat} (hg : W.grownBy W' row) (hr : ∀ r, row = some r → ∃ o : Obj, W.heap[r]? = some o ∧ o.isCells = false) : d.R e W' base ok v xs := by
 refine Kd.R_mono (Kd.R_move (Kd.R_bound h) (fun k hk => hg.block k hk.2.2.1 (fun he => ?_))) (fun _ hk => hk.1)
 obtain ⟨_, _, _, q, hq, cells, hc⟩ := hk
 obtain ⟨o, ho, hn⟩ := hr k he.symm
 rw [hc] at ho; cases ho; cases hn
theorem blk_own {W W' : World} {g : Nat} {cs : Array Value} {t : TypeId} (h : W.heap[g]? = some (.cells cs t (0, 0))) {row : Option Nat} (hg : W.grownBy W' row) (hr : ∀ r, row = some r → ∃ o : Obj, W.heap[r]? = some o ∧ o.isCells = false) : W'.heap[g]? = some (.cells cs t (0, 0)) := by
 refine (hg.block g (c6_ h) (fun he => ?_)).trans h
 obtain ⟨o, ho, hn⟩ := hr g he.symm
 rw [h] at ho; cases ho; cases hn
def Stands (w : World) (g4 g5 : Nat) (r : List S52 × Int) (W : World) : Prop :=
 ∃ v, W.heap[g4]? = some (.cells #[v] 39 (0, 0)) ∧ W.heap[g5]? = some (.cells #[.int .i64 r.2] 32 (0, 0)) ∧ Kd.R k52 52 W w.heap.size (fun _ => True) v r.1 ∧ Below w.heap.size w W
theorem Stands.own {w : World} {g4 g5 : Nat} {r : List S52 × Int} {B : Nat} (hB : w.heap.size ≤ B) : OwnFrom B (fun (_ : Unit) W => Stands w g4 g5 r W) := by
 rintro _ A C row ⟨v, h1, h2, h3, h4⟩ hg hr
 have hr' : ∀ r, row = some r → ∃ o : Obj, A.heap[r]? = some o ∧ o.isCells = false := fun r e => (hr r e).2
 exact ⟨v, blk_own h1 hg hr', blk_own h2 hg hr', R_own h3 hg hr', h4.grown hg h4.size (fun k e => Nat.le_trans hB (hr k e).1)⟩
theorem Stands.mark {w : World} {g4 g5 : Nat} {r : List S52 × Int} {W : World} {D : Nat} (h : Stands w g4 g5 r W) (hD : w.heap.size ≤ D) (hK : W.heap[D]? = some (.deferred (some []))) : Stands w g4 g5 r (W.putObj D (.deferred none)) :=
 Stands.own (Nat.le_refl _) () _ _ (some D) h (grownBy_putObj' W D _) (fun r e => by cases e; exact ⟨hD, _, hK, rfl⟩)
theorem results57 {tmps : Array Value} {w : World} {g4 g5 : Nat} {v u : Value} {t t' : TypeId} (h4 : tmps.getD 4 undef = .pointer (some ⟨g4, 0, none⟩)) (h5 : tmps.getD 5 undef = .pointer (some ⟨g5, 0, none⟩))
  (b4 : w.heap[g4]? = some (.cells #[v] t (0, 0))) (b5 : w.heap[g5]? = some (.cells #[u] t' (0, 0))) : (results Try.f57 tmps).run Try.prog w = .ok (.tuple #[v, u]) w := by
 have h4' : tmps[4]?.getD undef = .pointer (some ⟨g4, 0, none⟩) := by simpa using h4
 have h5' : tmps[5]?.getD undef = .pointer (some ⟨g5, 0, none⟩) := by simpa using h5
 have c4 : w.cell? ⟨g4, 0, none⟩ = some v := (a0_ b4 0).trans rfl
 have c5 : w.cell? ⟨g5, 0, none⟩ = some u := (a0_ b5 0).trans rfl
 have hu39 := Try.underlying39
 have hu32 := Try.underlying32
 simp [results, Try.f57, go_sem, h4', h5', c4, c5, hu39, hu32]
set_option maxHeartbeats 8000000 in
set_option maxRecDepth 100000 in
theorem most_left (a0_0 a0_1 a0_2 a0_3 : Int) (A0_4 : Option Addr) (c0_4 : Nat) (l0_4 : List (S51)) (A0_5 : Option Addr) (c0_5 : Nat) (l0_5 : List (S24)) (A0_6 : Option Addr) (c0_6 : Nat) (l0_6 : List (S41)) (A0_7 : Option Addr) (c0_7 : Nat) (l0_7 : List (S105)) (A0_8 : Option Addr) (c0_8 : Nat) (l0_8 : List (S149)) (a1_0 a1_1 a1_2 a1_3 a1_4 a1_5 a1_6 a1_7 lg lc e0 : Int) (w : World) (hr0_4 : Kd.C k51 w A0_4 l0_4.length l0_4) (hc0_4 : l0_4.length ≤ c0_4) (hr0_5 : Kd.C k24 w A0_5 l0_5.length l0_5) (hc0_5 : l0_5.length ≤ c0_5) (hr0_6 : Kd.C k41 w A0_6 l0_6.length l0_6) (hc0_6 : l0_6.length ≤ c0_6) (hr0_7 : Kd.C k105 w A0_7 l0_7.length l0_7) (hc0_7 : l0_7.length ≤ c0_7) (hr0_8 : Kd.C k149 w A0_8 l0_8.length l0_8) (hc0_8 : l0_8.length ≤ c0_8) (hL : elastic_left.f a0_0 a0_1 a0_2 a0_3 l0_4 l0_5 l0_6 l0_7 l0_8 a1_0 a1_1 a1_2 a1_3 a1_4 a1_5 a1_6 a1_7 = some (lg, lc, e0)) (he : e0 ≠ 0) :
  Calls Try.prog 57 #[.agg #[.int .i64 a0_0, .int .i64 a0_1, .int .i64 a0_2, .int .i64 a0_3, .slice A0_4 l0_4.length c0_4, .slice A0_5 l0_5.length c0_5, .slice A0_6 l0_6.length c0_6, .slice A0_7 l0_7.length c0_7, .slice A0_8 l0_8.length c0_8], .agg #[.int .i64 a1_0, .int .i64 a1_1, .int .i64 a1_2, .int .i64 a1_3, .int .i64 a1_4, .int .i64 a1_5, .int .i64 a1_6, .int .i64 a1_7]] w fun e w' => ∃ v0_ : Value, e = .returned (.tuple #[v0_, .int .i64 e0]) ∧ Kd.R k52 52 w' w.heap.size (fun _ => True) v0_ [] ∧ Below w.heap.size w w' := by
 have hu86 := Try.underlying86
 have hu88 := Try.underlying88
 have hu24 := Try.underlying24
 have hu39 := Try.underlying39
 have hu32 := Try.underlying32
 have HR0_4 := m_ hr0_4
 have HC0_4 := m_ hc0_4
 clear hr0_4 hc0_4
 have HR0_5 := m_ hr0_5
 have HC0_5 := m_ hc0_5
 clear hr0_5 hc0_5
 have HR0_6 := m_ hr0_6
 have HC0_6 := m_ hc0_6
 clear hr0_6 hc0_6
 have HR0_7 := m_ hr0_7
 have HC0_7 := m_ hc0_7
 clear hr0_7 hc0_7
 have HR0_8 := m_ hr0_8
 have HC0_8 := m_ hc0_8
 clear hr0_8 hc0_8
 have HL := m_ hL
 have HB := m_ (Below.refl w.heap.size w)
 have t0 : (e0 != 0) = true := by simpa using he
 clear hL he
 refine calls_marks Try.func57 rfl ?_
 simp only [Try.ntmps57, List.size_toArray, List.length_cons, List.length_nil, Nat.reduceAdd, Nat.reduceSub, Array.replicate_succ, Array.replicate_zero, List.push_toArray, List.append_toArray, List.nil_append, List.cons_append]
 go_upto_region 2 with (first | ((with_reducible refine a3_ (N := 2) rfl ?_); refine bx 2 #[.int .i64 a0_0, .int .i64 a0_1, .int .i64 a0_2, .int .i64 a0_3, .slice A0_4 l0_4.length c0_4, .slice A0_5 l0_5.length c0_5, .slice A0_6 l0_6.length c0_6, .slice A0_7 l0_7.length c0_7, .slice A0_8 l0_8.length c0_8] 86 ?_; intro g2 hgg2 wg2 hxg2 hbg2; have Gg2 : w.heap.size ≤ g2 := Z5; replace HB := m_ (b0_ HB.out hbg2); have HXg2 := m_ hxg2; clear hgg2 hxg2 hbg2) | ((with_reducible refine a3_ (N := 3) rfl ?_); refine bx 3 #[.int .i64 a1_0, .int .i64 a1_1, .int .i64 a1_2, .int .i64 a1_3, .int .i64 a1_4, .int .i64 a1_5, .int .i64 a1_6, .int .i64 a1_7] 88 ?_; intro g3 hgg3 wg3 hxg3 hbg3; have Ng2_g3 := m_ (show g2 ≠ g3 from by have := c6_ HXg2.out; omega); replace HXg2 := m_ (a1_ HXg2.out hbg3); have Gg3 : w.heap.size ≤ g3 := Z5; replace HB := m_ (b0_ HB.out hbg3); have HXg3 := m_ hxg3; clear hgg3 hxg3 hbg3) | ((with_reducible refine a3_ (N := 4) rfl ?_); refine bx 4 #[.slice none 0 0] 39 ?_; intro g4 hgg4 wg4 hxg4 hbg4; have Ng2_g4 := m_ (show g2 ≠ g4 from by have := c6_ HXg2.out; omega); have Ng3_g4 := m_ (show g3 ≠ g4 from by have := c6_ HXg3.out; omega); replace HXg2 := m_ (a1_ HXg2.out hbg4); replace HXg3 := m_ (a1_ HXg3.out hbg4); have Gg4 : w.heap.size ≤ g4 := Z5; replace HB := m_ (b0_ HB.out hbg4); have HXg4 := m_ hxg4; clear hgg4 hxg4 hbg4) | ((with_reducible refine a3_ (N := 5) rfl ?_); refine bx 5 #[.int .i64 0] 32 ?_; intro g5 hgg5 wg5 hxg5 hbg5; have Ng2_g5 := m_ (show g2 ≠ g5 from by have := c6_ HXg2.out; omega); have Ng3_g5 := m_ (show g3 ≠ g5 from by have := c6_ HXg3.out; omega); have Ng4_g5 := m_ (show g4 ≠ g5 from by have := c6_ HXg4.out; omega); replace HXg2 := m_ (a1_ HXg2.out hbg5); replace HXg3 := m_ (a1_ HXg3.out hbg5); replace HXg4 := m_ (a1_ HXg4.out hbg5); have Gg5 : w.heap.size ≤ g5 := Z5; replace HB := m_ (b0_ HB.out hbg5); have HXg5 := m_ hxg5; clear hgg5 hxg5 hbg5; obtain ⟨cg2_0, cg2_1, cg2_2, cg2_3, cg2_4, cg2_5, cg2_6, cg2_7, cg2_8⟩ := cz9_ HXg2; obtain ⟨cg3_0, cg3_1, cg3_2, cg3_3, cg3_4, cg3_5, cg3_6, cg3_7⟩ := cz8_ HXg3) | (go_at_call 93; refine (elastic_left.calls a0_0 a0_1 a0_2 a0_3 _ _ l0_4 _ _ l0_5 _ _ l0_6 _ _ l0_7 _ _ l0_8 a1_0 a1_1 a1_2 a1_3 a1_4 a1_5 a1_6 a1_7 lg lc e0 _ (Kd.C_below HR0_4.out (HB.out)) HC0_4.out (Kd.C_below HR0_5.out (HB.out)) HC0_5.out (Kd.C_below HR0_6.out (HB.out)) HC0_6.out (Kd.C_below HR0_7.out (HB.out)) HC0_7.out (Kd.C_below HR0_8.out (HB.out)) HC0_8.out HL.out).mono ?_; rintro e w7 ⟨rfl, hb7⟩; clear cg2_0 cg2_1 cg2_2 cg2_3 cg2_4 cg2_5 cg2_6 cg2_7 cg2_8 cg3_0 cg3_1 cg3_2 cg3_3 cg3_4 cg3_5 cg3_6 cg3_7; replace HXg2 := m_ (a1_ HXg2.out hb7); replace HXg3 := m_ (a1_ HXg3.out hb7); replace HXg4 := m_ (a1_ HXg4.out hb7); replace HXg5 := m_ (a1_ HXg5.out hb7); replace HB := m_ (b0_ HB.out hb7); clear hb7) | ((with_reducible refine a3_ (N := 6) rfl ?_); refine bx 6 #[.int .i64 0, .int .i64 0] 24 ?_; intro g6 hgg6 wg6 hxg6 hbg6; have Ng2_g6 := m_ (show g2 ≠ g6 from by have := c6_ HXg2.out; omega); have Ng3_g6 := m_ (show g3 ≠ g6 from by have := c6_ HXg3.out; omega); have Ng4_g6 := m_ (show g4 ≠ g6 from by have := c6_ HXg4.out; omega); have Ng5_g6 := m_ (show g5 ≠ g6 from by have := c6_ HXg5.out; omega); replace HXg2 := m_ (a1_ HXg2.out hbg6); replace HXg3 := m_ (a1_ HXg3.out hbg6); replace HXg4 := m_ (a1_ HXg4.out hbg6); replace HXg5 := m_ (a1_ HXg5.out hbg6); have Gg6 : w.heap.size ≤ g6 := Z5; replace HB := m_ (b0_ HB.out hbg6); have HXg6 := m_ hxg6; clear hgg6 hxg6 hbg6; have zg6_0 : wg6.frozen? ⟨g6, 0, none⟩ = false := a2_ HXg6.out 0; have zg6_1 : wg6.frozen? ⟨g6, 1, none⟩ = false := a2_ HXg6.out 1; obtain ⟨cg6_0, cg6_1⟩ := cz2_ HXg6))
 obtain ⟨wB, hwB⟩ : ∃ wB, wB = (wg6.setCell ⟨g6, 0, none⟩ (.int .i64 lg)).setCell ⟨g6, 1, none⟩ (.int .i64 lc) := ⟨_, rfl⟩
 rw [← hwB]
 have hxg2 : wB.heap[g2]? = some (.cells #[.int .i64 a0_0, .int .i64 a0_1, .int .i64 a0_2, .int .i64 a0_3, .slice A0_4 l0_4.length c0_4, .slice A0_5 l0_5.length c0_5, .slice A0_6 l0_6.length c0_6, .slice A0_7 l0_7.length c0_7, .slice A0_8 l0_8.length c0_8] 86 (0, 0)) := by rw [hwB]; exact c7_ (c7_ HXg2.out (Ng2_g6.out) _) (Ng2_g6.out) _
 have hxg3 : wB.heap[g3]? = some (.cells #[.int .i64 a1_0, .int .i64 a1_1, .int .i64 a1_2, .int .i64 a1_3, .int .i64 a1_4, .int .i64 a1_5, .int .i64 a1_6, .int .i64 a1_7] 88 (0, 0)) := by rw [hwB]; exact c7_ (c7_ HXg3.out (Ng3_g6.out) _) (Ng3_g6.out) _
 have hxg4 : wB.heap[g4]? = some (.cells #[.slice none 0 0] 39 (0, 0)) := by rw [hwB]; exact c7_ (c7_ HXg4.out (Ng4_g6.out) _) (Ng4_g6.out) _
 have hxg5 : wB.heap[g5]? = some (.cells #[.int .i64 0] 32 (0, 0)) := by rw [hwB]; exact c7_ (c7_ HXg5.out (Ng5_g6.out) _) (Ng5_g6.out) _
 have hxg6 : wB.heap[g6]? = some (.cells #[.int .i64 lg, .int .i64 lc] 24 (0, 0)) := by rw [hwB]; exact d4_ (d4_ HXg6.out 0 _ rfl) 1 _ rfl
 have hbB : Below w.heap.size w wB := by rw [hwB]; exact b6_ (b6_ HB.out Gg6) Gg6
 replace HXg2 := m_ hxg2
 replace HXg3 := m_ hxg3
 replace HXg4 := m_ hxg4
 replace HXg5 := m_ hxg5
 replace HXg6 := m_ hxg6
 replace HB := m_ hbB
 clear hwB hxg2 hxg3 hxg4 hxg5 hxg6 hbB zg6_0 zg6_1 cg6_0 cg6_1
 have z4 : wB.frozen? ⟨g4, 0, none⟩ = false := a2_ HXg4.out 0
 have z5 : wB.frozen? ⟨g5, 0, none⟩ = false := a2_ HXg5.out 0
 have c4 : wB.cell? ⟨g4, 0, none⟩ = some (.slice none 0 0) := (a0_ HXg4.out 0).trans rfl
 have c5 : wB.cell? ⟨g5, 0, none⟩ = some (.int .i64 0) := (a0_ HXg5.out 0).trans rfl
 have n45 := Ng4_g5.out
 go_wp2
 have h4 : ((wB.setCell ⟨g4, 0, none⟩ (.slice none 0 0)).setCell ⟨g5, 0, none⟩ (.int .i64 e0)).heap[g4]? = some (.cells #[.slice none 0 0] 39 (0, 0)) := c7_ (d4_ HXg4.out 0 _ rfl) n45 _
 have h5 : ((wB.setCell ⟨g4, 0, none⟩ (.slice none 0 0)).setCell ⟨g5, 0, none⟩ (.int .i64 e0)).heap[g5]? = some (.cells #[.int .i64 e0] 32 (0, 0)) := d4_ (c7_ HXg5.out n45.symm _) 0 _ rfl
 exact marks_ret0 (results57 rfl rfl h4 h5) ⟨_, rfl, Kd.R_nil _ _ _ _ _, b6_ (b6_ HB.out Gg4) Gg5⟩
set_option maxHeartbeats 8000000 in
set_option maxRecDepth 100000 in
theorem most_can (kc : Nat) (a0_0 a0_1 a0_2 a0_3 : Int) (A0_4 : Option Addr) (c0_4 : Nat) (l0_4 : List (S51)) (A0_5 : Option Addr) (c0_5 : Nat) (l0_5 : List (S24)) (A0_6 : Option Addr) (c0_6 : Nat) (l0_6 : List (S41)) (A0_7 : Option Addr) (c0_7 : Nat) (l0_7 : List (S105)) (A0_8 : Option Addr) (c0_8 : Nat) (l0_8 : List (S149)) (a1_0 a1_1 a1_2 a1_3 a1_4 a1_5 a1_6 a1_7 lg lc r0 : Int) (cn : Int → Int) (pl : Int → List S52 × Int) (w : World) (hr0_4 : Kd.C k51 w A0_4 l0_4.length l0_4) (hc0_4 : l0_4.length ≤ c0_4) (hr0_5 : Kd.C k24 w A0_5 l0_5.length l0_5) (hc0_5 : l0_5.length ≤ c0_5) (hr0_6 : Kd.C k41 w A0_6 l0_6.length l0_6) (hc0_6 : l0_6.length ≤ c0_6) (hr0_7 : Kd.C k105 w A0_7 l0_7.length l0_7) (hc0_7 : l0_7.length ≤ c0_7) (hr0_8 : Kd.C k149 w A0_8 l0_8.length l0_8) (hc0_8 : l0_8.length ≤ c0_8) (hL : elastic_left.f a0_0 a0_1 a0_2 a0_3 l0_4 l0_5 l0_6 l0_7 l0_8 a1_0 a1_1 a1_2 a1_3 a1_4 a1_5 a1_6 a1_7 = some (lg, lc, 0))
  (hmx : a1_6 ≤ a1_7 ∧ a1_7 ≤ 16) (hmn : 1 ≤ a1_6)
  (hc0 : elastic_can.f kc a0_0 a0_1 a0_2 a0_3 l0_4 l0_5 l0_6 l0_7 l0_8 a1_4 a1_5 a1_6 a1_7 a1_6 lg lc = some r0) (hcn : ∀ n, a1_6 ≤ n → n ≤ a1_7 → elastic_can.f kc a0_0 a0_1 a0_2 a0_3 l0_4 l0_5 l0_6 l0_7 l0_8 a1_4 a1_5 a1_6 a1_7 n lg lc = some (cn n))
  (hpl : ∀ n, a1_6 ≤ n → n ≤ a1_7 → pack_Place.f l0_4 a1_4 a1_5 a1_6 a1_7 n = some (pl n)) (rr : List S52 × Int)
  (hrr : rr = if r0 ≠ 0 then ([], r0) else match (downL a1_7 a1_6).find? (fun n => cn n == 0) with | some n => pl n | none => ([], 7)) :
  Calls Try.prog 57 #[.agg #[.int .i64 a0_0, .int .i64 a0_1, .int .i64 a0_2, .int .i64 a0_3, .slice A0_4 l0_4.length c0_4, .slice A0_5 l0_5.length c0_5, .slice A0_6 l0_6.length c0_6, .slice A0_7 l0_7.length c0_7, .slice A0_8 l0_8.length c0_8], .agg #[.int .i64 a1_0, .int .i64 a1_1, .int .i64 a1_2, .int .i64 a1_3, .int .i64 a1_4, .int .i64 a1_5, .int .i64 a1_6, .int .i64 a1_7]] w fun e w' => ∃ v0_ : Value, e = .returned (.tuple #[v0_, .int .i64 rr.2]) ∧ Kd.R k52 52 w' w.heap.size (fun _ => True) v0_ rr.1 ∧ Below w.heap.size w w' := by
 have hu86 := Try.underlying86
 have hu88 := Try.underlying88
 have hu24 := Try.underlying24
 have hu27 := Try.underlying27
 have hu39 := Try.underlying39
 have hu32 := Try.underlying32
 have HR0_4 := m_ hr0_4
 have HC0_4 := m_ hc0_4
 clear hr0_4 hc0_4
 have HR0_5 := m_ hr0_5
 have HC0_5 := m_ hc0_5
 clear hr0_5 hc0_5
 have HR0_6 := m_ hr0_6
 have HC0_6 := m_ hc0_6
 clear hr0_6 hc0_6
 have HR0_7 := m_ hr0_7
 have HC0_7 := m_ hc0_7
 clear hr0_7 hc0_7
 have HR0_8 := m_ hr0_8
 have HC0_8 := m_ hc0_8
 clear hr0_8 hc0_8
 have HL := m_ hL
 have HC0 := m_ hc0
 have HCN := m_ hcn
 have HPL := m_ hpl
 have HRR := m_ hrr
 have HMX := m_ (And.intro hmx hmn)
 have HB := m_ (Below.refl w.heap.size w)
 clear hL hc0 hcn hpl hrr hmx hmn
 refine calls_marks Try.func57 rfl ?_
 simp only [Try.ntmps57, List.size_toArray, List.length_cons, List.length_nil, Nat.reduceAdd, Nat.reduceSub, Array.replicate_succ, Array.replicate_zero, List.push_toArray, List.append_toArray, List.nil_append, List.cons_append]
 go_upto_region 2 with (first | ((with_reducible refine a3_ (N := 2) rfl ?_); refine bx 2 #[.int .i64 a0_0, .int .i64 a0_1, .int .i64 a0_2, .int .i64 a0_3, .slice A0_4 l0_4.length c0_4, .slice A0_5 l0_5.length c0_5, .slice A0_6 l0_6.length c0_6, .slice A0_7 l0_7.length c0_7, .slice A0_8 l0_8.length c0_8] 86 ?_; intro g2 hgg2 wg2 hxg2 hbg2; have Gg2 : w.heap.size ≤ g2 := Z5; replace HB := m_ (b0_ HB.out hbg2); have HXg2 := m_ hxg2; clear hgg2 hxg2 hbg2) | ((with_reducible refine a3_ (N := 3) rfl ?_); refine bx 3 #[.int .i64 a1_0, .int .i64 a1_1, .int .i64 a1_2, .int .i64 a1_3, .int .i64 a1_4, .int .i64 a1_5, .int .i64 a1_6, .int .i64 a1_7] 88 ?_; intro g3 hgg3 wg3 hxg3 hbg3; have Ng2_g3 := m_ (show g2 ≠ g3 from by have := c6_ HXg2.out; omega); replace HXg2 := m_ (a1_ HXg2.out hbg3); have Gg3 : w.heap.size ≤ g3 := Z5; replace HB := m_ (b0_ HB.out hbg3); have HXg3 := m_ hxg3; clear hgg3 hxg3 hbg3) | ((with_reducible refine a3_ (N := 4) rfl ?_); refine bx 4 #[.slice none 0 0] 39 ?_; intro g4 hgg4 wg4 hxg4 hbg4; have Ng2_g4 := m_ (show g2 ≠ g4 from by have := c6_ HXg2.out; omega); have Ng3_g4 := m_ (show g3 ≠ g4 from by have := c6_ HXg3.out; omega); replace HXg2 := m_ (a1_ HXg2.out hbg4); replace HXg3 := m_ (a1_ HXg3.out hbg4); have Gg4 : w.heap.size ≤ g4 := Z5; replace HB := m_ (b0_ HB.out hbg4); have HXg4 := m_ hxg4; clear hgg4 hxg4 hbg4) | ((with_reducible refine a3_ (N := 5) rfl ?_); refine bx 5 #[.int .i64 0] 32 ?_; intro g5 hgg5 wg5 hxg5 hbg5; have Ng2_g5 := m_ (show g2 ≠ g5 from by have := c6_ HXg2.out; omega); have Ng3_g5 := m_ (show g3 ≠ g5 from by have := c6_ HXg3.out; omega); have Ng4_g5 := m_ (show g4 ≠ g5 from by have := c6_ HXg4.out; omega); replace HXg2 := m_ (a1_ HXg2.out hbg5); replace HXg3 := m_ (a1_ HXg3.out hbg5); replace HXg4 := m_ (a1_ HXg4.out hbg5); have Gg5 : w.heap.size ≤ g5 := Z5; replace HB := m_ (b0_ HB.out hbg5); have HXg5 := m_ hxg5; clear hgg5 hxg5 hbg5; obtain ⟨cg2_0, cg2_1, cg2_2, cg2_3, cg2_4, cg2_5, cg2_6, cg2_7, cg2_8⟩ := cz9_ HXg2; obtain ⟨cg3_0, cg3_1, cg3_2, cg3_3, cg3_4, cg3_5, cg3_6, cg3_7⟩ := cz8_ HXg3) | (go_at_call 93; refine (elastic_left.calls a0_0 a0_1 a0_2 a0_3 _ _ l0_4 _ _ l0_5 _ _ l0_6 _ _ l0_7 _ _ l0_8 a1_0 a1_1 a1_2 a1_3 a1_4 a1_5 a1_6 a1_7 lg lc 0 _ (Kd.C_below HR0_4.out (HB.out)) HC0_4.out (Kd.C_below HR0_5.out (HB.out)) HC0_5.out (Kd.C_below HR0_6.out (HB.out)) HC0_6.out (Kd.C_below HR0_7.out (HB.out)) HC0_7.out (Kd.C_below HR0_8.out (HB.out)) HC0_8.out HL.out).mono ?_; rintro e w7 ⟨rfl, hb7⟩; clear cg2_0 cg2_1 cg2_2 cg2_3 cg2_4 cg2_5 cg2_6 cg2_7 cg2_8 cg3_0 cg3_1 cg3_2 cg3_3 cg3_4 cg3_5 cg3_6 cg3_7; replace HXg2 := m_ (a1_ HXg2.out hb7); replace HXg3 := m_ (a1_ HXg3.out hb7); replace HXg4 := m_ (a1_ HXg4.out hb7); replace HXg5 := m_ (a1_ HXg5.out hb7); replace HB := m_ (b0_ HB.out hb7); clear hb7) | ((with_reducible refine a3_ (N := 6) rfl ?_); refine bx 6 #[.int .i64 0, .int .i64 0] 24 ?_; intro g6 hgg6 wg6 hxg6 hbg6; have Ng2_g6 := m_ (show g2 ≠ g6 from by have := c6_ HXg2.out; omega); have Ng3_g6 := m_ (show g3 ≠ g6 from by have := c6_ HXg3.out; omega); have Ng4_g6 := m_ (show g4 ≠ g6 from by have := c6_ HXg4.out; omega); have Ng5_g6 := m_ (show g5 ≠ g6 from by have := c6_ HXg5.out; omega); replace HXg2 := m_ (a1_ HXg2.out hbg6); replace HXg3 := m_ (a1_ HXg3.out hbg6); replace HXg4 := m_ (a1_ HXg4.out hbg6); replace HXg5 := m_ (a1_ HXg5.out hbg6); have Gg6 : w.heap.size ≤ g6 := Z5; replace HB := m_ (b0_ HB.out hbg6); have HXg6 := m_ hxg6; clear hgg6 hxg6 hbg6; have zg6_0 : wg6.frozen? ⟨g6, 0, none⟩ = false := a2_ HXg6.out 0; have zg6_1 : wg6.frozen? ⟨g6, 1, none⟩ = false := a2_ HXg6.out 1; obtain ⟨cg6_0, cg6_1⟩ := cz2_ HXg6))
 obtain ⟨wB, hwB⟩ : ∃ wB, wB = (wg6.setCell ⟨g6, 0, none⟩ (.int .i64 lg)).setCell ⟨g6, 1, none⟩ (.int .i64 lc) := ⟨_, rfl⟩
 rw [← hwB]
 have hxg2 : wB.heap[g2]? = some (.cells #[.int .i64 a0_0, .int .i64 a0_1, .int .i64 a0_2, .int .i64 a0_3, .slice A0_4 l0_4.length c0_4, .slice A0_5 l0_5.length c0_5, .slice A0_6 l0_6.length c0_6, .slice A0_7 l0_7.length c0_7, .slice A0_8 l0_8.length c0_8] 86 (0, 0)) := by rw [hwB]; exact c7_ (c7_ HXg2.out (Ng2_g6.out) _) (Ng2_g6.out) _
 have hxg3 : wB.heap[g3]? = some (.cells #[.int .i64 a1_0, .int .i64 a1_1, .int .i64 a1_2, .int .i64 a1_3, .int .i64 a1_4, .int .i64 a1_5, .int .i64 a1_6, .int .i64 a1_7] 88 (0, 0)) := by rw [hwB]; exact c7_ (c7_ HXg3.out (Ng3_g6.out) _) (Ng3_g6.out) _
 have hxg4 : wB.heap[g4]? = some (.cells #[.slice none 0 0] 39 (0, 0)) := by rw [hwB]; exact c7_ (c7_ HXg4.out (Ng4_g6.out) _) (Ng4_g6.out) _
 have hxg5 : wB.heap[g5]? = some (.cells #[.int .i64 0] 32 (0, 0)) := by rw [hwB]; exact c7_ (c7_ HXg5.out (Ng5_g6.out) _) (Ng5_g6.out) _
 have hxg6 : wB.heap[g6]? = some (.cells #[.int .i64 lg, .int .i64 lc] 24 (0, 0)) := by rw [hwB]; exact d4_ (d4_ HXg6.out 0 _ rfl) 1 _ rfl
 have hbB : Below w.heap.size w wB := by rw [hwB]; exact b6_ (b6_ HB.out Gg6) Gg6
 replace HXg2 := m_ hxg2
 replace HXg3 := m_ hxg3
 replace HXg4 := m_ hxg4
 replace HXg5 := m_ hxg5
 replace HXg6 := m_ hxg6
 replace HB := m_ hbB
 clear hwB hxg2 hxg3 hxg4 hxg5 hxg6 hbB zg6_0 zg6_1 cg6_0 cg6_1
 obtain ⟨cg2_0, cg2_1, cg2_2, cg2_3, cg2_4, cg2_5, cg2_6, cg2_7, cg2_8⟩ := cz9_ HXg2
 obtain ⟨cg3_0, cg3_1, cg3_2, cg3_3, cg3_4, cg3_5, cg3_6, cg3_7⟩ := cz8_ HXg3
 obtain ⟨cg6_0, cg6_1⟩ := cz2_ HXg6
 go_upto_region 5 with (first | (go_at_call 94; refine (elastic_can.calls kc a0_0 a0_1 a0_2 a0_3 _ _ l0_4 _ _ l0_5 _ _ l0_6 _ _ l0_7 _ _ l0_8 a1_4 a1_5 a1_6 a1_7 a1_6 lg lc r0 _ (Kd.C_below HR0_4.out (HB.out)) HC0_4.out (Kd.C_below HR0_5.out (HB.out)) HC0_5.out (Kd.C_below HR0_6.out (HB.out)) HC0_6.out (Kd.C_below HR0_7.out (HB.out)) HC0_7.out (Kd.C_below HR0_8.out (HB.out)) HC0_8.out (HC0.out)).mono ?_; rintro e w8 ⟨rfl, hb8⟩; clear cg2_0 cg2_1 cg2_2 cg2_3 cg2_4 cg2_5 cg2_6 cg2_7 cg2_8 cg3_0 cg3_1 cg3_2 cg3_3 cg3_4 cg3_5 cg3_6 cg3_7 cg6_0 cg6_1; replace HXg2 := m_ (a1_ HXg2.out hb8); replace HXg3 := m_ (a1_ HXg3.out hb8); replace HXg4 := m_ (a1_ HXg4.out hb8); replace HXg5 := m_ (a1_ HXg5.out hb8); replace HXg6 := m_ (a1_ HXg6.out hb8); replace HB := m_ (b0_ HB.out hb8); clear hb8))
 by_cases hr0 : r0 = 0
 ·subst hr0
  have hrr := HRR.out
  rw [if_neg (by decide)] at hrr
  clear HRR
  have HRR := m_ hrr
  clear hrr
  obtain ⟨cg3_0, cg3_1, cg3_2, cg3_3, cg3_4, cg3_5, cg3_6, cg3_7⟩ := cz8_ HXg3
  go_wp2_with (first | (go_at_call 95; refine (down_calls a1_7 a1_6 _).mono ?_; rintro e w9 ⟨rfl, hd1, hd2, hb9⟩; have HD1 := m_ hd1; have HD2 := m_ hd2; have HBL := m_ (HB.out.size); clear cg3_0 cg3_1 cg3_2 cg3_3 cg3_4 cg3_5 cg3_6 cg3_7; replace HXg2 := m_ (a1_ HXg2.out hb9); replace HXg3 := m_ (a1_ HXg3.out hb9); replace HXg4 := m_ (a1_ HXg4.out hb9); replace HXg5 := m_ (a1_ HXg5.out hb9); replace HXg6 := m_ (a1_ HXg6.out hb9); replace HB := m_ (b0_ HB.out hb9); clear hb9 hd1 hd2))
  have hlt9 := HBL.out
  have hz8 := HBL.out
  refine range_try (gf := 117) (lb := #[.pointer (some ⟨w8.heap.size, 0, none⟩), .pointer (some ⟨w8.heap.size + 1, 0, none⟩)]) rfl (enters_of Try.func117 (by kernel_rfl) rfl)
   (enc := fun x : Int => #[.int .i64 x]) (down_goes _ _ a1_7 a1_6 _ HD1.out HD2.out (by have := HMX.out; omega) (by have := HMX.out; omega)) (fun _ => rfl)
   (fun x => cn x ≠ 0) (fun x W => cn x = 0 ∧ Stands w g4 g5 (pl x) W) ?hRx
   (fun x a' _ => a' = { tmps := #[.agg #[.int .i64 a0_0, .int .i64 a0_1, .int .i64 a0_2, .int .i64 a0_3, .slice A0_4 l0_4.length c0_4, .slice A0_5 l0_5.length c0_5, .slice A0_6 l0_6.length c0_6, .slice A0_7 l0_7.length c0_7, .slice A0_8 l0_8.length c0_8], .agg #[.int .i64 a1_0, .int .i64 a1_1, .int .i64 a1_2, .int .i64 a1_3, .int .i64 a1_4, .int .i64 a1_5, .int .i64 a1_6, .int .i64 a1_7], .pointer (some ⟨g2, 0, none⟩), .pointer (some ⟨g3, 0, none⟩), .pointer (some ⟨g4, 0, none⟩), .pointer (some ⟨g5, 0, none⟩), .pointer (some ⟨g6, 0, none⟩), .int .i64 0, .int .i64 0, .int .i64 x, .tuple #[.agg #[.int .i64 lg, .int .i64 lc], .int .i64 0], .agg #[.int .i64 a0_0, .int .i64 a0_1, .int .i64 a0_2, .int .i64 a0_3, .slice A0_4 l0_4.length c0_4, .slice A0_5 l0_5.length c0_5, .slice A0_6 l0_6.length c0_6, .slice A0_7 l0_7.length c0_7, .slice A0_8 l0_8.length c0_8], .agg #[.int .i64 a1_0, .int .i64 a1_1, .int .i64 a1_2, .int .i64 a1_3, .int .i64 a1_4, .int .i64 a1_5, .int .i64 a1_6, .int .i64 a1_7], .tuple #[.agg #[.int .i64 lg, .int .i64 lc], .int .i64 0], .agg #[.int .i64 lg, .int .i64 lc], .int .i64 0, .int .i64 0, .bool false, undef, .agg #[.int .i64 a0_0, .int .i64 a0_1, .int .i64 a0_2, .int .i64 a0_3, .slice A0_4 l0_4.length c0_4, .slice A0_5 l0_5.length c0_5, .slice A0_6 l0_6.length c0_6, .slice A0_7 l0_7.length c0_7, .slice A0_8 l0_8.length c0_8], .pointer (some ⟨g3, 4, none⟩), .agg #[.int .i64 a1_4, .int .i64 a1_5, .int .i64 a1_6, .int .i64 a1_7], .pointer (some ⟨g3, 4, none⟩), .pointer (some ⟨g3, 6, none⟩), .int .i64 a1_6, .agg #[.int .i64 lg, .int .i64 lc], .int .i64 0, .int .i64 0, .bool false, undef, .pointer (some ⟨g3, 4, none⟩), .pointer (some ⟨g3, 7, none⟩), .int .i64 a1_7, .pointer (some ⟨g3, 4, none⟩), .pointer (some ⟨g3, 6, none⟩), .int .i64 a1_6, .func (.func 117) #[] #[.pointer (some ⟨w8.heap.size, 0, none⟩), .pointer (some ⟨w8.heap.size + 1, 0, none⟩)], .int .i64 x, undef, undef, undef, undef, undef, undef, undef, undef, undef, undef, undef, undef, undef, undef, undef], defers := [] }) (fun _ _ => ownFrom_pure (β := Unit) _ _) ?assign ?body ?done ?stop
  case hRx => exact fun y => OwnFrom.and (ownFrom_pure _ _) (Stands.own HB.out.size)
  case assign =>
   intro l x W K hx hB hK
   gi_wp2
   exact hK _ _ (Below.refl _ _) rfl
  case body =>
   rintro l x a' W hx hBW rfl
   have hmem := downL_mem hx
   have HC := m_ (HCN.out x hmem.1 hmem.2)
   have HP := m_ (HPL.out x hmem.1 hmem.2)
   have hBw := b0_ HB.out hBW
   have HBW := m_ hBw
   have hy2 := a1_ HXg2.out hBW
   have hy3 := a1_ HXg3.out hBW
   have hy4 := a1_ HXg4.out hBW
   have hy5 := a1_ HXg5.out hBW
   have hy6 := a1_ HXg6.out hBW
   have HS9 := m_ hBW.size
   have HBQ := m_ HB.out.size
   clear HXg2 HXg3 HXg4 HXg5 HXg6 HB hBW hBw hx hmem HD1 HD2 HL HC0 HCN HPL HRR
   have HB := HBW
   clear HBW
   have HXg2 := m_ hy2
   have HXg3 := m_ hy3
   have HXg4 := m_ hy4
   have HXg5 := m_ hy5
   have HXg6 := m_ hy6
   clear hy2 hy3 hy4 hy5 hy6
   obtain ⟨cx, hce⟩ : ∃ cx, cx = cn x := ⟨_, rfl⟩
   obtain ⟨px, hpe⟩ : ∃ px, px = pl x := ⟨_, rfl⟩
   rw [← hce] at HC
   rw [← hpe] at HP
   have HCE := m_ hce
   have HPE := m_ hpe
   clear hce hpe
   obtain ⟨cg2_0, cg2_1, cg2_2, cg2_3, cg2_4, cg2_5, cg2_6, cg2_7, cg2_8⟩ := cz9_ HXg2
   obtain ⟨cg3_0, cg3_1, cg3_2, cg3_3, cg3_4, cg3_5, cg3_6, cg3_7⟩ := cz8_ HXg3
   obtain ⟨cg6_0, cg6_1⟩ := cz2_ HXg6
   by_cases hcx : cx = 0
   ·subst hcx
    gi_wp2_with (first | ((try refine ⟨trivial, ?_⟩); gi_at_call 94; refine (CallsIn.inRound l (callsIn_wide.2 (elastic_can.calls kc a0_0 a0_1 a0_2 a0_3 _ _ l0_4 _ _ l0_5 _ _ l0_6 _ _ l0_7 _ _ l0_8 a1_4 a1_5 a1_6 a1_7 x lg lc _ _ (Kd.C_below HR0_4.out (HB.out)) HC0_4.out (Kd.C_below HR0_5.out (HB.out)) HC0_5.out (Kd.C_below HR0_6.out (HB.out)) HC0_6.out (Kd.C_below HR0_7.out (HB.out)) HC0_7.out (Kd.C_below HR0_8.out (HB.out)) HC0_8.out (HC.out)))).mono ?_; rintro e wc ⟨rfl, hbc⟩; have HBC := m_ hbc; clear cg2_0 cg2_1 cg2_2 cg2_3 cg2_4 cg2_5 cg2_6 cg2_7 cg2_8 cg3_0 cg3_1 cg3_2 cg3_3 cg3_4 cg3_5 cg3_6 cg3_7 cg6_0 cg6_1; replace HXg2 := m_ (a1_ HXg2.out hbc); replace HXg3 := m_ (a1_ HXg3.out hbc); replace HXg4 := m_ (a1_ HXg4.out hbc); replace HXg5 := m_ (a1_ HXg5.out hbc); replace HXg6 := m_ (a1_ HXg6.out hbc); replace HB := m_ (b0_ HB.out hbc); clear hbc; obtain ⟨cg2_0, cg2_1, cg2_2, cg2_3, cg2_4, cg2_5, cg2_6, cg2_7, cg2_8⟩ := cz9_ HXg2; obtain ⟨cg3_0, cg3_1, cg3_2, cg3_3, cg3_4, cg3_5, cg3_6, cg3_7⟩ := cz8_ HXg3) | ((try refine ⟨trivial, ?_⟩); gi_at_call 46; refine (CallsIn.inRound l (callsIn_wide.2 (pack_Place.calls _ _ l0_4 a1_4 a1_5 a1_6 a1_7 x _ _ _ (Kd.C_below HR0_4.out HB.out) HC0_4.out HP.out))).mono ?_; rintro e wp ⟨vp, rfl, hrp, hbp⟩; obtain ⟨Ap, cp, rfl⟩ := Kd.R_slice hrp; have HBP := m_ hbp; have HRP := m_ hrp; clear cg2_0 cg2_1 cg2_2 cg2_3 cg2_4 cg2_5 cg2_6 cg2_7 cg2_8 cg3_0 cg3_1 cg3_2 cg3_3 cg3_4 cg3_5 cg3_6 cg3_7; replace HXg2 := m_ (a1_ HXg2.out hbp); replace HXg3 := m_ (a1_ HXg3.out hbp); replace HXg4 := m_ (a1_ HXg4.out hbp); replace HXg5 := m_ (a1_ HXg5.out hbp); replace HXg6 := m_ (a1_ HXg6.out hbp); replace HB := m_ (b0_ HB.out hbp); clear hbp hrp; have z4 : wp.frozen? ⟨g4, 0, none⟩ = false := a2_ HXg4.out 0; have z5 : wp.frozen? ⟨g5, 0, none⟩ = false := a2_ HXg5.out 0; have cg4_0 : wp.cell? ⟨g4, 0, none⟩ = some (.slice none 0 0) := (a0_ HXg4.out 0).trans rfl; have cg5_0 : wp.cell? ⟨g5, 0, none⟩ = some (.int .i64 0) := (a0_ HXg5.out 0).trans rfl; have n45 := Ng4_g5.out))
    have n45 := Ng4_g5.out
    have h4 : ((wp.setCell ⟨g4, 0, none⟩ (.slice Ap px.1.length cp)).setCell ⟨g5, 0, none⟩ (.int .i64 px.2)).heap[g4]? = some (.cells #[.slice Ap px.1.length cp] 39 (0, 0)) := c7_ (d4_ HXg4.out 0 _ rfl) n45 _
    have h5 : ((wp.setCell ⟨g4, 0, none⟩ (.slice Ap px.1.length cp)).setCell ⟨g5, 0, none⟩ (.int .i64 px.2)).heap[g5]? = some (.cells #[.int .i64 px.2] 32 (0, 0)) := d4_ (c7_ HXg5.out n45.symm _) 0 _ rfl
    have hr1 := Kd.R_grown2 HRP.out rfl (grown_set (j := 0) (v := .slice Ap px.1.length cp) (d6_ wp (some g4))) (fun k hk => by injection hk with hk; subst hk; exact Kd.R_ne HRP.out HXg4.out (by decide))
    have hx5 : (wp.setCell ⟨g4, 0, none⟩ (.slice Ap px.1.length cp)).heap[g5]? = some (.cells #[.int .i64 0] 32 (0, 0)) := c7_ HXg5.out n45.symm _
    have hr2 := Kd.R_grown2 hr1 rfl (grown_set (j := 0) (v := .int .i64 px.2) (d6_ _ (some g5))) (fun k hk => by injection hk with hk; subst hk; exact Kd.R_ne hr1 hx5 (by decide))
    show KeepsFrom _ _ _ ∧ cn x = 0 ∧ Stands w g4 g5 (pl x) _
    rw [← HCE.out, ← HPE.out]
    refine ⟨((keepsFrom_below HBC.out).trans (keepsFrom_below HBP.out)).trans (((KeepsOthers.setCell _ _ _).trans (KeepsOthers.setCell _ _ _)).from _), rfl, _, h4, h5, Kd.R_lower hr2 ?_, b6_ (b6_ HB.out Gg4) Gg5⟩
    have h1 := HBC.out.size
    have h2 := HS9.out
    have h3 := HBL.out
    have h6 := HBQ.out
    omega
   ·have t0 : (cx == 0) = false := by simpa using hcx
    have HCX := m_ hcx
    clear hcx
    gi_wp2_with (first | ((try refine ⟨trivial, ?_⟩); gi_at_call 94; refine (CallsIn.inRound l (callsIn_wide.2 (elastic_can.calls kc a0_0 a0_1 a0_2 a0_3 _ _ l0_4 _ _ l0_5 _ _ l0_6 _ _ l0_7 _ _ l0_8 a1_4 a1_5 a1_6 a1_7 x lg lc _ _ (Kd.C_below HR0_4.out (HB.out)) HC0_4.out (Kd.C_below HR0_5.out (HB.out)) HC0_5.out (Kd.C_below HR0_6.out (HB.out)) HC0_6.out (Kd.C_below HR0_7.out (HB.out)) HC0_7.out (Kd.C_below HR0_8.out (HB.out)) HC0_8.out (HC.out)))).mono ?_; rintro e wc ⟨rfl, hbc⟩; have HBC := m_ hbc; clear cg2_0 cg2_1 cg2_2 cg2_3 cg2_4 cg2_5 cg2_6 cg2_7 cg2_8 cg3_0 cg3_1 cg3_2 cg3_3 cg3_4 cg3_5 cg3_6 cg3_7 cg6_0 cg6_1; replace HXg2 := m_ (a1_ HXg2.out hbc); replace HXg3 := m_ (a1_ HXg3.out hbc); replace HXg4 := m_ (a1_ HXg4.out hbc); replace HXg5 := m_ (a1_ HXg5.out hbc); replace HXg6 := m_ (a1_ HXg6.out hbc); replace HB := m_ (b0_ HB.out hbc); clear hbc; obtain ⟨cg2_0, cg2_1, cg2_2, cg2_3, cg2_4, cg2_5, cg2_6, cg2_7, cg2_8⟩ := cz9_ HXg2; obtain ⟨cg3_0, cg3_1, cg3_2, cg3_3, cg3_4, cg3_5, cg3_6, cg3_7⟩ := cz8_ HXg3))
    exact ⟨HBC.out, by show cn x ≠ 0; rw [← HCE.out]; exact HCX.out⟩
  case done =>
   intro D W hD hf hBW hK
   have hrr : rr = ([], 7) := by
    rw [HRR.out]
    have : (downL a1_7 a1_6).find? (fun n => cn n == 0) = none := List.find?_eq_none.2 fun x hx => by simpa using hf x hx
    rw [this]
   subst hrr
   have hy4 := a1_ HXg4.out hBW
   have hy5 := a1_ HXg5.out hBW
   have HBW := m_ (b0_ HB.out hBW)
   have HD := m_ hD
   have HK := m_ hK
   have HW9 := m_ HB.out.size
   clear HXg2 HXg3 HXg4 HXg5 HXg6 HB hBW hK hD hf HRR HD1 HD2
   have HXg4 := m_ hy4
   have HXg5 := m_ hy5
   clear hy4 hy5
   have z4 : W.frozen? ⟨g4, 0, none⟩ = false := a2_ HXg4.out 0
   have z5 : W.frozen? ⟨g5, 0, none⟩ = false := a2_ HXg5.out 0
   have c4 : W.cell? ⟨g4, 0, none⟩ = some (.slice none 0 0) := (a0_ HXg4.out 0).trans rfl
   have c5 : W.cell? ⟨g5, 0, none⟩ = some (.int .i64 0) := (a0_ HXg5.out 0).trans rfl
   have n45 := Ng4_g5.out
   go_wp2
   have h4 : ((W.setCell ⟨g4, 0, none⟩ (.slice none 0 0)).setCell ⟨g5, 0, none⟩ (.int .i64 7)).heap[g4]? = some (.cells #[.slice none 0 0] 39 (0, 0)) := c7_ (d4_ HXg4.out 0 _ rfl) n45 _
   have h5 : ((W.setCell ⟨g4, 0, none⟩ (.slice none 0 0)).setCell ⟨g5, 0, none⟩ (.int .i64 7)).heap[g5]? = some (.cells #[.int .i64 7] 32 (0, 0)) := d4_ (c7_ HXg5.out n45.symm _) 0 _ rfl
   have hk := ((KeepsOthers.setCell W ⟨g4, 0, none⟩ (.slice none 0 0)).trans (KeepsOthers.setCell _ ⟨g5, 0, none⟩ (.int .i64 7))).same D _ HK.out rfl
   have hs : Stands w g4 g5 ([], 7) ((W.setCell ⟨g4, 0, none⟩ (.slice none 0 0)).setCell ⟨g5, 0, none⟩ (.int .i64 7)) := ⟨_, h4, h5, Kd.R_nil _ _ _ _ _, b6_ (b6_ HBW.out Gg4) Gg5⟩
   obtain ⟨v, k4, k5, kr, kb⟩ := hs.mark (by have := HD.out; have := HW9.out; omega) hk
   exact marks_ret1 hk (results57 rfl rfl k4 k5) ⟨v, rfl, kr, kb⟩
  case stop =>
   intro D k x W hD hx hf ⟨hcx, hs⟩ hK
   have hrr : rr = pl x := by
    rw [HRR.out]
    have : (downL a1_7 a1_6).find? (fun n => cn n == 0) = some x := by
     rw [List.find?_eq_some_iff_getElem]
     obtain ⟨hk, he⟩ := List.getElem?_eq_some_iff.1 hx
     refine ⟨by simpa using hcx, k, hk, he, fun j hj => ?_⟩
     have := hf (downL a1_7 a1_6)[j] (List.mem_take_iff_getElem.2 ⟨j, by omega, rfl⟩)
     simpa using this
    rw [this]
   subst hrr
   have hw := HB.out.size
   obtain ⟨v, k4, k5, kr, kb⟩ := hs.mark (by omega) hK
   exact marks_ret1 hK (results57 rfl rfl k4 k5) ⟨v, rfl, kr, kb⟩
 ·have t0 : (r0 != 0) = true := by simpa using hr0
  have hrr := HRR.out
  rw [if_pos hr0] at hrr
  subst hrr
  clear HRR hr0
  have z4 : w8.frozen? ⟨g4, 0, none⟩ = false := a2_ HXg4.out 0
  have z5 : w8.frozen? ⟨g5, 0, none⟩ = false := a2_ HXg5.out 0
  have c4 : w8.cell? ⟨g4, 0, none⟩ = some (.slice none 0 0) := (a0_ HXg4.out 0).trans rfl
  have c5 : w8.cell? ⟨g5, 0, none⟩ = some (.int .i64 0) := (a0_ HXg5.out 0).trans rfl
  have n45 := Ng4_g5.out
  go_wp2
  have h4 : ((w8.setCell ⟨g4, 0, none⟩ (.slice none 0 0)).setCell ⟨g5, 0, none⟩ (.int .i64 r0)).heap[g4]? = some (.cells #[.slice none 0 0] 39 (0, 0)) := c7_ (d4_ HXg4.out 0 _ rfl) n45 _
  have h5 : ((w8.setCell ⟨g4, 0, none⟩ (.slice none 0 0)).setCell ⟨g5, 0, none⟩ (.int .i64 r0)).heap[g5]? = some (.cells #[.int .i64 r0] 32 (0, 0)) := d4_ (c7_ HXg5.out n45.symm _) 0 _ rfl
  exact marks_ret0 (results57 rfl rfl h4 h5) ⟨_, rfl, Kd.R_nil _ _ _ _ _, b6_ (b6_ HB.out Gg4) Gg5⟩
theorem leftB_ok {left : List S24} {q g c mn mx : Int} (h : (leftB left q g c mn mx).2.2 = 0) : c9_ g c mn mx = true ∧ (0 ≤ q ∧ q < left.length) ∧ leftB left q g c mn mx = ((a7_ left q).f0, (a7_ left q).f1, 0) := by
 unfold leftB at h ⊢
 by_cases hg : c9_ g c mn mx = true
 ·rw [if_pos hg] at h ⊢
  by_cases hq : 0 ≤ q ∧ q < (left.length : Int)
  ·rw [if_pos hq]; exact ⟨hg, hq, rfl⟩
  ·rw [if_neg hq] at h; cases h
 ·rw [if_neg hg] at h; cases h
theorem elastic_Most.calls (a0_0 a0_1 a0_2 a0_3 : Int) (A0_4 : Option Addr) (c0_4 : Nat) (l0_4 : List (S51)) (A0_5 : Option Addr) (c0_5 : Nat) (l0_5 : List (S24)) (A0_6 : Option Addr) (c0_6 : Nat) (l0_6 : List (S41)) (A0_7 : Option Addr) (c0_7 : Nat) (l0_7 : List (S105)) (A0_8 : Option Addr) (c0_8 : Nat) (l0_8 : List (S149)) (a1_0 a1_1 a1_2 a1_3 a1_4 a1_5 a1_6 a1_7 : Int) (r1 : List (S52)) (r2 : Int) (w : World) (hr0_4 : Kd.C k51 w A0_4 l0_4.length l0_4) (hc0_4 : l0_4.length ≤ c0_4) (hr0_5 : Kd.C k24 w A0_5 l0_5.length l0_5) (hc0_5 : l0_5.length ≤ c0_5) (hr0_6 : Kd.C k41 w A0_6 l0_6.length l0_6) (hc0_6 : l0_6.length ≤ c0_6) (hr0_7 : Kd.C k105 w A0_7 l0_7.length l0_7) (hc0_7 : l0_7.length ≤ c0_7) (hr0_8 : Kd.C k149 w A0_8 l0_8.length l0_8) (hc0_8 : l0_8.length ≤ c0_8) (h : elastic_Most.f a0_0 a0_1 a0_2 a0_3 l0_4 l0_5 l0_6 l0_7 l0_8 a1_0 a1_1 a1_2 a1_3 a1_4 a1_5 a1_6 a1_7 = some (r1, r2)) :
  Calls Try.prog 57 #[.agg #[.int .i64 a0_0, .int .i64 a0_1, .int .i64 a0_2, .int .i64 a0_3, .slice A0_4 l0_4.length c0_4, .slice A0_5 l0_5.length c0_5, .slice A0_6 l0_6.length c0_6, .slice A0_7 l0_7.length c0_7, .slice A0_8 l0_8.length c0_8], .agg #[.int .i64 a1_0, .int .i64 a1_1, .int .i64 a1_2, .int .i64 a1_3, .int .i64 a1_4, .int .i64 a1_5, .int .i64 a1_6, .int .i64 a1_7]] w fun e w' => ∃ v0_ : Value, e = .returned (.tuple #[v0_, .int .i64 r2]) ∧ Kd.R k52 52 w' w.heap.size (fun _ => True) v0_ r1 ∧ Below w.heap.size w w' := by
 unfold elastic_Most.f at h
 by_cases hok : placeOk l0_4 = true
 case neg => rw [if_neg hok] at h; cases h
 rw [if_pos hok] at h
 injection h with h
 have hok' := hok
 unfold placeOk at hok'
 simp only [Bool.and_eq_true, List.all_eq_true, decide_eq_true_eq] at hok'
 have hL := left_eq0 a0_0 a0_1 a0_2 a0_3 l0_4 l0_5 l0_6 l0_7 l0_8 a1_0 a1_1 a1_2 a1_3 a1_4 a1_5 a1_6 a1_7
 unfold mostB at h
 by_cases he : (leftB l0_5 a1_1 a1_4 a1_5 a1_6 a1_7).2.2 = 0
 ·rw [if_neg (by simpa using he)] at h
  obtain ⟨hg, hq, e3⟩ := leftB_ok he
  rw [e3] at h hL
  have hb := good_out1 hg
  have hcan : ∀ n, a1_6 ≤ n → n ≤ a1_7 → elastic_can.f (l0_4.length + 1) a0_0 a0_1 a0_2 a0_3 l0_4 l0_5 l0_6 l0_7 l0_8 a1_4 a1_5 a1_6 a1_7 n (a7_ l0_5 a1_1).f0 (a7_ l0_5 a1_1).f1 = some (canB l0_4 a1_4 a1_5 a1_6 a1_7 n (a7_ l0_5 a1_1).f0 (a7_ l0_5 a1_1).f1) :=
   fun n h1 h2 => can_eq _ _ _ _ _ _ _ _ _ _ _ _ _ _ _ _ _ (Nat.le_refl _) hok'.2 hok'.1 hg (by omega) (by omega)
  have := most_can (l0_4.length + 1) a0_0 a0_1 a0_2 a0_3 A0_4 c0_4 l0_4 A0_5 c0_5 l0_5 A0_6 c0_6 l0_6 A0_7 c0_7 l0_7 A0_8 c0_8 l0_8 a1_0 a1_1 a1_2 a1_3 a1_4 a1_5 a1_6 a1_7 _ _ _ (fun n => canB l0_4 a1_4 a1_5 a1_6 a1_7 n (a7_ l0_5 a1_1).f0 (a7_ l0_5 a1_1).f1) (fun n => placeB l0_4 a1_4 a1_5 a1_6 a1_7 n) w hr0_4 hc0_4 hr0_5 hc0_5 hr0_6 hc0_6 hr0_7 hc0_7 hr0_8 hc0_8 hL ⟨hb.2.1, hb.2.2⟩ hb.1
   (hcan a1_6 (Int.le_refl _) hb.2.1) hcan (fun n _ _ => by unfold pack_Place.f; rw [if_pos hok]) (r1, r2) h.symm
  exact this
 ·rw [if_pos (by simpa using he)] at h
  injection h with h1 h2
  subst h1 h2
  exact most_left a0_0 a0_1 a0_2 a0_3 A0_4 c0_4 l0_4 A0_5 c0_5 l0_5 A0_6 c0_6 l0_6 A0_7 c0_7 l0_7 A0_8 c0_8 l0_8 a1_0 a1_1 a1_2 a1_3 a1_4 a1_5 a1_6 a1_7 (leftB l0_5 a1_1 a1_4 a1_5 a1_6 a1_7).1 (leftB l0_5 a1_1 a1_4 a1_5 a1_6 a1_7).2.1 _ w hr0_4 hc0_4 hr0_5 hc0_5 hr0_6 hc0_6 hr0_7 hc0_7 hr0_8 hc0_8 hL he
end Go.Proofs.Ytckhjehibjdjdaa.P
namespace Go.Proofs.Ytckhjehibjdjdaa.P
open Go.RowKit Go.Shelf Go.Proofs.YtckhjehibjdjdaaW.PrintWords Go.Proofs.YtckhjehibjdjdaaW.PrintLast Go.Proofs.YtckhjehibjdjdaaW.PrintMore
attribute [local go_sem] Oper.semAt_some
theorem srt_le {V : List HV} (hV : Srt hkey V) {i j : Nat} {x y : HV} (hij : i ≤ j) (hx : V[i]? = some x) (hy : V[j]? = some y) : hkey x ≤ hkey y := by
 obtain ⟨hi, rfl⟩ := List.getElem?_eq_some_iff.1 hx
 obtain ⟨hj, rfl⟩ := List.getElem?_eq_some_iff.1 hy
 by_cases e : i = j
 ·subst e; exact Int.le_refl _
 ·exact List.pairwise_iff_getElem.1 hV i j hi hj (by omega)
theorem split12 {U V : List HV} (hU : Srt hkey U) (hV : Srt hkey V) {p q : Nat} (hp : p ≤ U.length) (h : p = 0 ∨ V.length ≤ q ∨ ∀ x y, U[p - 1]? = some x → V[q]? = some y → hkey x ≤ hkey y) : ∀ x ∈ U.take p, ∀ y ∈ V.drop q, hkey x ≤ hkey y := fun x hx y hy => by
 obtain ⟨i, hi, rfl⟩ := List.mem_iff_getElem.1 hx
 obtain ⟨j, hj, rfl⟩ := List.mem_iff_getElem.1 hy
 rw [List.length_take] at hi
 rw [List.length_drop] at hj
 rw [List.getElem_take, List.getElem_drop]
 rcases h with h | h | h
 ·omega
 ·omega
 ·have h1 := srt_le hU (i := i) (j := p - 1) (by omega) (List.getElem?_eq_getElem (by omega)) (List.getElem?_eq_getElem (by omega))
  have h2 := srt_le hV (i := q) (j := q + j) (by omega) (List.getElem?_eq_getElem (by omega)) (List.getElem?_eq_getElem (by omega))
  have h3 := h _ _ (List.getElem?_eq_getElem (show p - 1 < U.length by omega)) (List.getElem?_eq_getElem (show q < V.length by omega))
  omega
theorem split21 {U V : List HV} (hU : Srt hkey U) (hV : Srt hkey V) {p q : Nat} (hq : q ≤ V.length) (h : U.length ≤ p ∨ q = 0 ∨ ∀ x y, U[p]? = some x → V[q - 1]? = some y → hkey y < hkey x) : ∀ x ∈ U.drop p, ∀ y ∈ V.take q, hkey y < hkey x := fun x hx y hy => by
 obtain ⟨i, hi, rfl⟩ := List.mem_iff_getElem.1 hx
 obtain ⟨j, hj, rfl⟩ := List.mem_iff_getElem.1 hy
 rw [List.length_drop] at hi
 rw [List.length_take] at hj
 rw [List.getElem_take, List.getElem_drop]
 rcases h with h | h | h
 ·omega
 ·omega
 ·have h1 := srt_le hU (i := p) (j := p + i) (by omega) (List.getElem?_eq_getElem (by omega)) (List.getElem?_eq_getElem (by omega))
  have h2 := srt_le hV (i := j) (j := q - 1) (by omega) (List.getElem?_eq_getElem (by omega)) (List.getElem?_eq_getElem (by omega))
  have h3 := h _ _ (List.getElem?_eq_getElem (show p < U.length by omega)) (List.getElem?_eq_getElem (show q - 1 < V.length by omega))
  omega
def SymC (sz : Nat) : Prop := ∀ (g n cap base a m b : Nat) (ok : Nat → Prop) (X U V Z : List HV) (w : World), U.length + V.length = sz → Kd.R kh 41 w base ok (.slice (some ⟨g, 0, none⟩) n cap) (X ++ (U ++ (V ++ Z))) → a = X.length → m = X.length + U.length → b = X.length + U.length + V.length → 0 < U.length → 0 < V.length → Srt hkey U → Srt hkey V → n ≤ 1000000000000 → (∀ k, ok k → k < w.heap.size) →
  Calls Try.prog 121 #[.slice (some ⟨g, 0, none⟩) n cap, .int .i64 a, .int .i64 m, .int .i64 b, .func (.func 72) #[] #[]] w fun e w' => e = .returned (.tuple #[]) ∧ Kd.R kh 41 w' base ok (.slice (some ⟨g, 0, none⟩) n cap) (X ++ (mrg hkey U V ++ Z)) ∧ w.grownBy w' (some g)
set_option maxHeartbeats 16000000 in
set_option maxRecDepth 100000 in
theorem symMerge_gen (sz : Nat) (IH : ∀ s, s < sz → SymC s) (g n cap base a m b : Nat) (ok : Nat → Prop) (X U V Z : List HV) (w : World) (hsz : U.length + V.length = sz) (hr : Kd.R kh 41 w base ok (.slice (some ⟨g, 0, none⟩) n cap) (X ++ (U ++ (V ++ Z)))) (ha : a = X.length) (hm : m = X.length + U.length) (hb : b = X.length + U.length + V.length) (hU2 : 1 < U.length) (hV2 : 1 < V.length) (hU : Srt hkey U) (hV : Srt hkey V) (hn : n ≤ 1000000000000) (hok : ∀ k, ok k → k < w.heap.size) :
  Calls Try.prog 121 #[.slice (some ⟨g, 0, none⟩) n cap, .int .i64 a, .int .i64 m, .int .i64 b, .func (.func 72) #[] #[]] w fun e w' => e = .returned (.tuple #[]) ∧ Kd.R kh 41 w' base ok (.slice (some ⟨g, 0, none⟩) n cap) (X ++ (mrg hkey U V ++ Z)) ∧ w.grownBy w' (some g) := by
 have hu41 := Try.underlying41
 have HR := m_ hr
 have HOK := m_ hok
 have HS := m_ (And.intro hU hV)
 have HIH := m_ IH
 have hxl := (Kd.R_reads' hr).1
 simp only [List.length_append] at hxl
 obtain ⟨mid, hmid⟩ : ∃ mid, mid = (a + b) / 2 := ⟨_, rfl⟩
 have bm : a + 1 < m ∧ m + 1 < b ∧ b ≤ n ∧ a < mid ∧ mid < b ∧ 2 * mid ≤ a + b ∧ a + b ≤ 2 * mid + 1 := by omega
 obtain ⟨b1, b2, b3, b4, b5, b6, b7⟩ := bm
 obtain ⟨lo, hi, hlh⟩ : ∃ lo hi : Nat, (mid < m ∧ lo + b = mid + m ∧ hi = mid) ∨ (¬ mid < m ∧ lo = a ∧ hi = m) := by
  by_cases h : mid < m
  ·exact ⟨mid + m - b, mid, .inl ⟨h, by omega, rfl⟩⟩
  ·exact ⟨a, m, .inr ⟨h, rfl, rfl⟩⟩
 have bl : a ≤ lo ∧ lo ≤ hi ∧ hi ≤ m ∧ hi ≤ mid ∧ mid + m ≤ lo + b := by omega
 obtain ⟨l1, l2, l3, l4, l5⟩ := bl
 have HLH := m_ hlh
 have hma : ((m : Int) - (a : Int) == 1) = false := by simp; omega
 have hbm : ((b : Int) - (m : Int) == 1) = false := by simp; omega
 have hmd : ((a : Int) + (b : Int)) / 2 = (mid : Int) := by omega
 have HLN := m_ (show X.length = a ∧ U.length = m - a ∧ V.length = b - m ∧ U.length + V.length = sz from by omega)
 clear hr hok hU hV hxl hm ha hb hU2 hV2 IH hsz hmid
 rcases hlh with ⟨q1, q2, q3⟩ | ⟨q1, q2, q3⟩
 ·have t1 : decide ((mid : Int) < (m : Int)) = true := by simp; omega
  have t2 : (mid : Int) + (m : Int) - (b : Int) = (lo : Int) := by omega
  have t3 : (mid : Int) < (m : Int) := by omega
  subst q3
  clear q2 t1
  go_enter Try.func121, Try.ntmps121
  go_wp2
  go_loopw [20, 21] (fun v20 v21 wr => ∃ (s r : Nat), v20 = .int .i64 (s : Int) ∧ v21 = .int .i64 (r : Int) ∧ lo ≤ s ∧ s ≤ r ∧ r ≤ hi ∧ A_ (∀ c x y, lo ≤ c → c < s → U[c - a]? = some x → V[hi + m - 1 - c - m]? = some y → hkey x ≤ hkey y) ∧ A_ (∀ c x y, r ≤ c → c < hi → U[c - a]? = some x → V[hi + m - 1 - c - m]? = some y → hkey y < hkey x) ∧
   A_ (Kd.R kh 41 wr base ok (.slice (some ⟨g, 0, none⟩) n cap) (X ++ (U ++ (V ++ Z)))) ∧ A_ (w.grownBy wr (some g))) (fun v20 v21 _ => (intOf v21).toNat - (intOf v20).toNat)
  case atStart => exact ⟨lo, hi, rfl, rfl, Nat.le_refl _, l2, Nat.le_refl _, ⟨fun c x y h1 h2 => by omega⟩, ⟨fun c x y h1 h2 => by omega⟩, HR, ⟨d6_ _ _⟩⟩
  case round =>
   clear HR
   obtain ⟨s, r, rfl, rfl, hls, hsr, hrh, HT, HD, HA, HG⟩ := hrel
   by_cases hlt : s < r
   ·have hlt' : (s : Int) < r := by omega
    obtain ⟨c, hc⟩ : ∃ c, c = (s + r) / 2 := ⟨_, rfl⟩
    have hc1 : s ≤ c ∧ c < r := by omega
    obtain ⟨hc2, hc3⟩ := hc1
    obtain ⟨d, hd⟩ : ∃ d, d = hi + m - 1 - c := ⟨_, rfl⟩
    have hd1 : m ≤ d ∧ d < b := by omega
    have hxu : U[c - a]? = some _ := List.getElem?_eq_getElem (show c - a < U.length by have := HLN.out; omega)
    have hyv : V[d - m]? = some _ := List.getElem?_eq_getElem (show d - m < V.length by have := HLN.out; omega)
    generalize U[c - a]'_ = x at *
    generalize V[d - m]'_ = y at *
    have hrx : (X ++ (U ++ (V ++ Z)))[c]? = some x := by rw [List.getElem?_append_right Z6, List.getElem?_append_left Z6, show c - X.length = c - a by have := HLN.out; omega]; exact hxu
    have hry : (X ++ (U ++ (V ++ Z)))[d]? = some y := by rw [List.getElem?_append_right Z6, List.getElem?_append_right Z6, List.getElem?_append_left Z6, show d - X.length - U.length = d - m by have := HLN.out; omega]; exact hyv
    obtain ⟨x0, x1, x2, x3, x4⟩ := at_kh HA.out c x hrx
    obtain ⟨y0, y1, y2, y3, y4⟩ := at_kh HA.out d y hry
    have HXU := m_ hxu
    have HYV := m_ hyv
    have HDD := m_ hd
    have hcc : ((s : Int) + (r : Int)) / 2 = (c : Int) := by omega
    have hdd : (hi : Int) + (m : Int) - 1 - (c : Int) = (d : Int) := by omega
    have hdw : IntKind.i64.wrap ((hi : Int) + (m : Int) - 1 - (c : Int)) = (d : Int) := by rw [IntKind.wrap_i64]; omega
    have hdw2 : IntKind.i64.wrap (d : Int) = (d : Int) := by rw [IntKind.wrap_i64]; omega
    have j0 : (c : Int) < n := by omega
    have j1 : (d : Int) < n := by omega
    have c0 : (0 : Int) ≤ (s : Int) + (r : Int) := by omega
    have c1 : (s : Int) + (r : Int) ≤ 2000000000000 := by omega
    clear hxu hyv hrx hry hd hc
    go_wp2
    go_still_tail 11, (by kernel_rfl)
    change wpList _ _ _ _ _ wr.drew
    have hAd := Kd.R_drew HA.out
    have hGd := grown_drew HG.out
    clear x0 x1 x2 x3 x4 y0 y1 y2 y3 y4
    generalize wr.drew = w3 at *
    have HA3 := m_ hAd
    have HG3 := m_ hGd
    clear hAd hGd HA HG
    have hcl := cmpI_lt y.1.f2 x.1.f2
    by_cases hlt2 : hkey y < hkey x
    ·rw [decide_eq_true (show y.1.f2 < x.1.f2 from hlt2)] at hcl
     have HLT := m_ hlt2
     clear hlt2
     go_wp2_with (go_at_call 72; refine (cmpH_any y x _).mono ?_; rintro e w4 ⟨rfl, hb4⟩; have HA4 := m_ (Kd.R_below HA3.out hb4); have HG4 := m_ (e5_ HG3.out hb4); clear hb4)
     go_roundw
     case rel => exact ⟨s, c, rfl, by first | rfl | exact int_i64 (by omega), hls, hc2, by omega, HT, ⟨fun c' x' y' h1 h2 h3 h4 => by
      by_cases e : r ≤ c'
      ·exact HD.out c' x' y' e h2 h3 h4
      ·have k1 := srt_le HS.out.1 (i := c - a) (j := c' - a) (by omega) HXU.out h3
       have k2 := srt_le HS.out.2 (i := hi + m - 1 - c' - m) (j := d - m) (by have := HDD.out; omega) h4 HYV.out
       have := HLT.out
       omega⟩, HA4, HG4⟩
     case measure => simp [intOf]; omega
    ·rw [decide_eq_false (show ¬ y.1.f2 < x.1.f2 from hlt2)] at hcl
     have HLT := m_ (show hkey x ≤ hkey y by omega)
     clear hlt2
     go_wp2_with (go_at_call 72; refine (cmpH_any y x _).mono ?_; rintro e w4 ⟨rfl, hb4⟩; have HA4 := m_ (Kd.R_below HA3.out hb4); have HG4 := m_ (e5_ HG3.out hb4); clear hb4)
     go_roundw
     case rel => exact ⟨c + 1, r, by first | exact int_i64 (by omega) | go_num, rfl, by omega, by omega, hrh, ⟨fun c' x' y' h1 h2 h3 h4 => by
      by_cases e : c' < s
      ·exact HT.out c' x' y' h1 e h3 h4
      ·have k1 := srt_le HS.out.1 (i := c' - a) (j := c - a) (by omega) h3 HXU.out
       have k2 := srt_le HS.out.2 (i := d - m) (j := hi + m - 1 - c' - m) (by have := HDD.out; omega) HYV.out h4
       have := HLT.out
       omega⟩, HD, HA4, HG4⟩
     case measure => simp [intOf]; omega
   ·obtain rfl : s = r := by omega
    obtain ⟨e, he⟩ : ∃ e, e = hi + m - s := ⟨_, rfl⟩
    have he1 : m ≤ e ∧ e ≤ b ∧ e + s = hi + m := by omega
    obtain ⟨e1, e2, e3⟩ := he1
    have h12 := split12 HS.out.1 HS.out.2 (p := s - a) (q := e - m) Z6 (by
     by_cases h1 : s = a
     ·exact .inl (by omega)
     ·by_cases h2 : e = b
      ·exact .inr (.inl Z6)
      ·exact .inr (.inr fun x y hx hy => HT.out (s - 1) x y (by have := HLH.out; omega) (by omega) (by rw [show s - 1 - a = s - a - 1 by omega]; exact hx) (by rw [show hi + m - 1 - (s - 1) - m = e - m by omega]; exact hy)))
    have h21 := split21 HS.out.1 HS.out.2 (p := s - a) (q := e - m) Z6 (by
     by_cases h1 : s = m
     ·exact .inl Z6
     ·by_cases h2 : e = m
      ·exact .inr (.inl (by omega))
      ·exact .inr (.inr fun x y hx hy => HD.out s x y (by omega) (by have := HLH.out; omega) hx (by rw [show hi + m - 1 - s - m = e - m - 1 by omega]; exact hy)))
    have hU1 : U.take (s - a) ++ U.drop (s - a) = U := List.take_append_drop _ U
    have hV1 : V.take (e - m) ++ V.drop (e - m) = V := List.take_append_drop _ V
    have hml := mrg_split hkey _ _ _ _ h12 h21
    rw [hU1, hV1] at hml
    have hS1 : Srt hkey (U.take (s - a)) ∧ Srt hkey (U.drop (s - a)) ∧ Srt hkey (V.take (e - m)) ∧ Srt hkey (V.drop (e - m)) := ⟨HS.out.1.sublist (List.take_sublist _ _), HS.out.1.sublist (List.drop_sublist _ _), HS.out.2.sublist (List.take_sublist _ _), HS.out.2.sublist (List.drop_sublist _ _)⟩
    have hl1 : (U.take (s - a)).length = s - a ∧ (U.drop (s - a)).length = m - s ∧ (V.take (e - m)).length = e - m ∧ (V.drop (e - m)).length = b - e := by
     rw [List.length_take, List.length_drop, List.length_take, List.length_drop]; have := HLN.out; omega
    have hA0 := HA.out
    rw [← hU1, ← hV1] at hA0
    have HML := m_ hml
    generalize U.take (s - a) = U1 at *
    generalize U.drop (s - a) = U2 at *
    generalize V.take (e - m) = V1 at *
    generalize V.drop (e - m) = V2 at *
    have HS1 := m_ hS1
    have HL1 := m_ hl1
    have HA0 := m_ (show Kd.R kh 41 wr base ok (.slice (some ⟨g, 0, none⟩) n cap) (X ++ (U1 ++ (U2 ++ (V1 ++ (V2 ++ Z))))) from by simpa using hA0)
    have hok1 : ∀ k, ok k → k < wr.heap.size := fun k hk => Nat.lt_of_lt_of_le (HOK.out k hk) HG.out.size
    have HOK1 := m_ hok1
    have hen : (hi : Int) + (m : Int) - (s : Int) = (e : Int) := by omega
    have hbnd : a ≤ s ∧ s ≤ m ∧ s ≤ hi := by omega
    obtain ⟨n1, n2, n3⟩ := hbnd
    clear h12 h21 hU1 hV1 hml hS1 hl1 hA0 HA HT HD hok1 he
    have hcs : (a < s ∧ m < e ∧ s < m ∧ e < b) ∨ (a < s ∧ m < e ∧ s < m ∧ b ≤ e) ∨ (a < s ∧ m < e ∧ m ≤ s ∧ e < b) ∨ (a < s ∧ e ≤ m ∧ s < m ∧ e < b) ∨ (a < s ∧ e ≤ m ∧ m ≤ s ∧ e < b) ∨ (s ≤ a ∧ m < e ∧ s < m ∧ e < b) ∨ (s ≤ a ∧ m < e ∧ s < m ∧ b ≤ e) := by omega
    rcases hcs with ⟨k1, k2, k3, k4⟩ | ⟨k1, k2, k3, k4⟩ | ⟨k1, k2, k3, k4⟩ | ⟨k1, k2, k3, k4⟩ | ⟨k1, k2, k3, k4⟩ | ⟨k1, k2, k3, k4⟩ | ⟨k1, k2, k3, k4⟩
    ·have z1 : (s : Int) < (m : Int) := by omega
     have z2 : (m : Int) < (e : Int) := by omega
     have z3 : (a : Int) < (s : Int) := by omega
     have z4 : (s : Int) < (hi : Int) := by omega
     have z5 : (hi : Int) < (e : Int) := by omega
     have z6 : (e : Int) < (b : Int) := by omega
     have HRB := m_ (show Kd.R kh 41 wr base ok (.slice (some ⟨g, 0, none⟩) n cap) ((X ++ U1) ++ (U2 ++ (V1 ++ (V2 ++ Z)))) from by simpa using HA0.out)
     go_wp2_with (go_at_call 136; refine (rotate_any g n cap base s m e ok (X ++ U1) U2 V1 (V2 ++ Z) wr HRB.out Z2 Z2 Z2 Z4 Z4 hn HOK1.out).mono ?_; rintro e' w5 ⟨rfl, hr5, hg5⟩; have HR5 := m_ (show Kd.R kh 41 w5 base ok (.slice (some ⟨g, 0, none⟩) n cap) (X ++ (U1 ++ (V1 ++ (U2 ++ (V2 ++ Z))))) from by simpa using hr5); have HG5 := m_ (b4_ HG.out hg5); have HOK5 := m_ (fun k hk => Nat.lt_of_lt_of_le (HOK1.out k hk) hg5.size); clear hr5 hg5)
     refine (HIH.out (U1.length + V1.length) Z9 g n cap base a s hi ok X U1 V1 (U2 ++ (V2 ++ Z)) w5 rfl HR5.out Z6 Z8 Z8 Z4 Z4 HS1.out.1 HS1.out.2.2.1 hn HOK5.out).mono ?_
     rintro e' w6 ⟨rfl, hr6, hg6⟩
     have HR6 := m_ hr6
     have HG6 := m_ (b4_ HG5.out hg6)
     have HOK6 := m_ (fun k hk => Nat.lt_of_lt_of_le (HOK5.out k hk) hg6.size)
     clear hr6 hg6
     go_wp2_with fail
     have HML1 := m_ (show (X ++ mrg hkey U1 V1).length = hi from by rw [List.length_append, mrg_length]; have := HLN.out; have := HL1.out; omega)
     have HR7 := m_ (show Kd.R kh 41 w6 base ok (.slice (some ⟨g, 0, none⟩) n cap) ((X ++ mrg hkey U1 V1) ++ (U2 ++ (V2 ++ Z))) from by rw [List.append_assoc]; exact HR6.out)
     refine (HIH.out (U2.length + V2.length) Z9 g n cap base hi e b ok (X ++ mrg hkey U1 V1) U2 V2 Z w6 rfl HR7.out (by have := HML1.out; omega) Z7 Z7 Z4 Z4 HS1.out.2.1 HS1.out.2.2.2 hn HOK6.out).mono ?_
     rintro e' w7 ⟨rfl, hr7, hg7⟩
     have HR8 := m_ hr7
     have HG8 := m_ (b4_ HG6.out hg7)
     clear hr7 hg7
     go_wp2_with fail
     go_end0
     exact ⟨rfl, by rw [HML.out]; have := HR8.out; simpa using this, HG8.out⟩
    ·have z1 : (s : Int) < (m : Int) := by omega
     have z2 : (m : Int) < (e : Int) := by omega
     have z3 : (a : Int) < (s : Int) := by omega
     have z4 : (s : Int) < (hi : Int) := by omega
     have z5 : (hi : Int) < (e : Int) := by omega
     have z6 : decide ((e : Int) < (b : Int)) = false := by simp; omega
     have HRB := m_ (show Kd.R kh 41 wr base ok (.slice (some ⟨g, 0, none⟩) n cap) ((X ++ U1) ++ (U2 ++ (V1 ++ (V2 ++ Z)))) from by simpa using HA0.out)
     go_wp2_with (go_at_call 136; refine (rotate_any g n cap base s m e ok (X ++ U1) U2 V1 (V2 ++ Z) wr HRB.out Z2 Z2 Z2 Z4 Z4 hn HOK1.out).mono ?_; rintro e' w5 ⟨rfl, hr5, hg5⟩; have HR5 := m_ (show Kd.R kh 41 w5 base ok (.slice (some ⟨g, 0, none⟩) n cap) (X ++ (U1 ++ (V1 ++ (U2 ++ (V2 ++ Z))))) from by simpa using hr5); have HG5 := m_ (b4_ HG.out hg5); have HOK5 := m_ (fun k hk => Nat.lt_of_lt_of_le (HOK1.out k hk) hg5.size); clear hr5 hg5)
     refine (HIH.out (U1.length + V1.length) Z9 g n cap base a s hi ok X U1 V1 (U2 ++ (V2 ++ Z)) w5 rfl HR5.out Z6 Z8 Z8 Z4 Z4 HS1.out.1 HS1.out.2.2.1 hn HOK5.out).mono ?_
     rintro e' w6 ⟨rfl, hr6, hg6⟩
     have HR6 := m_ hr6
     have HG6 := m_ (b4_ HG5.out hg6)
     have HOK6 := m_ (fun k hk => Nat.lt_of_lt_of_le (HOK5.out k hk) hg6.size)
     clear hr6 hg6
     go_wp2_with fail
     have HML1 := m_ (show (X ++ mrg hkey U1 V1).length = hi from by rw [List.length_append, mrg_length]; have := HLN.out; have := HL1.out; omega)
     have HR7 := m_ (show Kd.R kh 41 w6 base ok (.slice (some ⟨g, 0, none⟩) n cap) ((X ++ mrg hkey U1 V1) ++ (U2 ++ (V2 ++ Z))) from by rw [List.append_assoc]; exact HR6.out)
     have hem : V2 = [] := List.eq_nil_of_length_eq_zero Z4
     have HR8 := m_ (show Kd.R kh 41 w6 base ok (.slice (some ⟨g, 0, none⟩) n cap) ((X ++ mrg hkey U1 V1) ++ (mrg hkey U2 V2 ++ Z)) from by have := HR7.out; rw [hem] at this ⊢; rw [mrg_nil_right]; simpa using this)
     have HG8 := HG6
     clear hem
     go_end0
     exact ⟨rfl, by rw [HML.out]; have := HR8.out; simpa using this, HG8.out⟩
    ·exfalso; omega
    ·have z1 : (s : Int) < (m : Int) := by omega
     have z2 : decide ((m : Int) < (e : Int)) = false := by simp; omega
     have z3 : (a : Int) < (s : Int) := by omega
     have z4 : decide ((s : Int) < (hi : Int)) = false := by simp; omega
     have z5 : (hi : Int) < (e : Int) := by omega
     have z6 : (e : Int) < (b : Int) := by omega
     have hem : V1 = [] := List.eq_nil_of_length_eq_zero Z4
     have HR5 := m_ (show Kd.R kh 41 wr base ok (.slice (some ⟨g, 0, none⟩) n cap) (X ++ (U1 ++ (V1 ++ (U2 ++ (V2 ++ Z))))) from by have := HA0.out; rw [hem] at this ⊢; simpa using this)
     have HG5 := HG
     have HOK5 := HOK1
     clear hem
     go_wp2_with fail
     have hem : V1 = [] := List.eq_nil_of_length_eq_zero Z4
     have HR6 := m_ (show Kd.R kh 41 wr base ok (.slice (some ⟨g, 0, none⟩) n cap) (X ++ (mrg hkey U1 V1 ++ (U2 ++ (V2 ++ Z)))) from by have := HR5.out; rw [hem] at this ⊢; rw [mrg_nil_right]; simpa using this)
     have HG6 := HG5
     have HOK6 := HOK5
     clear hem
     have HML1 := m_ (show (X ++ mrg hkey U1 V1).length = hi from by rw [List.length_append, mrg_length]; have := HLN.out; have := HL1.out; omega)
     have HR7 := m_ (show Kd.R kh 41 wr base ok (.slice (some ⟨g, 0, none⟩) n cap) ((X ++ mrg hkey U1 V1) ++ (U2 ++ (V2 ++ Z))) from by rw [List.append_assoc]; exact HR6.out)
     refine (HIH.out (U2.length + V2.length) Z9 g n cap base hi e b ok (X ++ mrg hkey U1 V1) U2 V2 Z wr rfl HR7.out (by have := HML1.out; omega) Z7 Z7 Z4 Z4 HS1.out.2.1 HS1.out.2.2.2 hn HOK6.out).mono ?_
     rintro e' w7 ⟨rfl, hr7, hg7⟩
     have HR8 := m_ hr7
     have HG8 := m_ (b4_ HG6.out hg7)
     clear hr7 hg7
     go_wp2_with fail
     go_end0
     exact ⟨rfl, by rw [HML.out]; have := HR8.out; simpa using this, HG8.out⟩
    ·exfalso; omega
    ·exfalso; omega
    ·have z1 : (s : Int) < (m : Int) := by omega
     have z2 : (m : Int) < (e : Int) := by omega
     have z3 : decide ((a : Int) < (s : Int)) = false := by simp; omega
     have z4 : (s : Int) < (hi : Int) := by omega
     have z5 : (hi : Int) < (e : Int) := by omega
     have z6 : decide ((e : Int) < (b : Int)) = false := by simp; omega
     have HRB := m_ (show Kd.R kh 41 wr base ok (.slice (some ⟨g, 0, none⟩) n cap) ((X ++ U1) ++ (U2 ++ (V1 ++ (V2 ++ Z)))) from by simpa using HA0.out)
     go_wp2_with (go_at_call 136; refine (rotate_any g n cap base s m e ok (X ++ U1) U2 V1 (V2 ++ Z) wr HRB.out Z2 Z2 Z2 Z4 Z4 hn HOK1.out).mono ?_; rintro e' w5 ⟨rfl, hr5, hg5⟩; have HR5 := m_ (show Kd.R kh 41 w5 base ok (.slice (some ⟨g, 0, none⟩) n cap) (X ++ (U1 ++ (V1 ++ (U2 ++ (V2 ++ Z))))) from by simpa using hr5); have HG5 := m_ (b4_ HG.out hg5); have HOK5 := m_ (fun k hk => Nat.lt_of_lt_of_le (HOK1.out k hk) hg5.size); clear hr5 hg5)
     have hem : U1 = [] := List.eq_nil_of_length_eq_zero Z4
     have HR6 := m_ (show Kd.R kh 41 w5 base ok (.slice (some ⟨g, 0, none⟩) n cap) (X ++ (mrg hkey U1 V1 ++ (U2 ++ (V2 ++ Z)))) from by have := HR5.out; rw [hem] at this ⊢; rw [mrg_nil_left]; simpa using this)
     have HG6 := HG5
     have HOK6 := HOK5
     clear hem
     have HML1 := m_ (show (X ++ mrg hkey U1 V1).length = hi from by rw [List.length_append, mrg_length]; have := HLN.out; have := HL1.out; omega)
     have HR7 := m_ (show Kd.R kh 41 w5 base ok (.slice (some ⟨g, 0, none⟩) n cap) ((X ++ mrg hkey U1 V1) ++ (U2 ++ (V2 ++ Z))) from by rw [List.append_assoc]; exact HR6.out)
     have hem : V2 = [] := List.eq_nil_of_length_eq_zero Z4
     have HR8 := m_ (show Kd.R kh 41 w5 base ok (.slice (some ⟨g, 0, none⟩) n cap) ((X ++ mrg hkey U1 V1) ++ (mrg hkey U2 V2 ++ Z)) from by have := HR7.out; rw [hem] at this ⊢; rw [mrg_nil_right]; simpa using this)
     have HG8 := HG6
     clear hem
     go_end0
     exact ⟨rfl, by rw [HML.out]; have := HR8.out; simpa using this, HG8.out⟩
 ·have t1 : decide ((mid : Int) < (m : Int)) = false := by simp; omega
  subst q2 q3
  go_enter Try.func121, Try.ntmps121
  go_wp2
  go_loopw [20, 21] (fun v20 v21 wr => ∃ (s r : Nat), v20 = .int .i64 (s : Int) ∧ v21 = .int .i64 (r : Int) ∧ lo ≤ s ∧ s ≤ r ∧ r ≤ hi ∧ A_ (∀ c x y, lo ≤ c → c < s → U[c - lo]? = some x → V[mid + hi - 1 - c - hi]? = some y → hkey x ≤ hkey y) ∧ A_ (∀ c x y, r ≤ c → c < hi → U[c - lo]? = some x → V[mid + hi - 1 - c - hi]? = some y → hkey y < hkey x) ∧
   A_ (Kd.R kh 41 wr base ok (.slice (some ⟨g, 0, none⟩) n cap) (X ++ (U ++ (V ++ Z)))) ∧ A_ (w.grownBy wr (some g))) (fun v20 v21 _ => (intOf v21).toNat - (intOf v20).toNat)
  case atStart => exact ⟨lo, hi, rfl, rfl, Nat.le_refl _, l2, Nat.le_refl _, ⟨fun c x y h1 h2 => by omega⟩, ⟨fun c x y h1 h2 => by omega⟩, HR, ⟨d6_ _ _⟩⟩
  case round =>
   clear HR
   obtain ⟨s, r, rfl, rfl, hls, hsr, hrh, HT, HD, HA, HG⟩ := hrel
   by_cases hlt : s < r
   ·have hlt' : (s : Int) < r := by omega
    obtain ⟨c, hc⟩ : ∃ c, c = (s + r) / 2 := ⟨_, rfl⟩
    have hc1 : s ≤ c ∧ c < r := by omega
    obtain ⟨hc2, hc3⟩ := hc1
    obtain ⟨d, hd⟩ : ∃ d, d = mid + hi - 1 - c := ⟨_, rfl⟩
    have hd1 : hi ≤ d ∧ d < b := by omega
    have hxu : U[c - lo]? = some _ := List.getElem?_eq_getElem (show c - lo < U.length by have := HLN.out; omega)
    have hyv : V[d - hi]? = some _ := List.getElem?_eq_getElem (show d - hi < V.length by have := HLN.out; omega)
    generalize U[c - lo]'_ = x at *
    generalize V[d - hi]'_ = y at *
    have hrx : (X ++ (U ++ (V ++ Z)))[c]? = some x := by rw [List.getElem?_append_right Z6, List.getElem?_append_left Z6, show c - X.length = c - lo by have := HLN.out; omega]; exact hxu
    have hry : (X ++ (U ++ (V ++ Z)))[d]? = some y := by rw [List.getElem?_append_right Z6, List.getElem?_append_right Z6, List.getElem?_append_left Z6, show d - X.length - U.length = d - hi by have := HLN.out; omega]; exact hyv
    obtain ⟨x0, x1, x2, x3, x4⟩ := at_kh HA.out c x hrx
    obtain ⟨y0, y1, y2, y3, y4⟩ := at_kh HA.out d y hry
    have HXU := m_ hxu
    have HYV := m_ hyv
    have HDD := m_ hd
    have hcc : ((s : Int) + (r : Int)) / 2 = (c : Int) := by omega
    have hdd : (mid : Int) + (hi : Int) - 1 - (c : Int) = (d : Int) := by omega
    have hdw : IntKind.i64.wrap ((mid : Int) + (hi : Int) - 1 - (c : Int)) = (d : Int) := by rw [IntKind.wrap_i64]; omega
    have hdw2 : IntKind.i64.wrap (d : Int) = (d : Int) := by rw [IntKind.wrap_i64]; omega
    have j0 : (c : Int) < n := by omega
    have j1 : (d : Int) < n := by omega
    have c0 : (0 : Int) ≤ (s : Int) + (r : Int) := by omega
    have c1 : (s : Int) + (r : Int) ≤ 2000000000000 := by omega
    clear hxu hyv hrx hry hd hc
    go_wp2
    go_still_tail 11, (by kernel_rfl)
    change wpList _ _ _ _ _ wr.drew
    have hAd := Kd.R_drew HA.out
    have hGd := grown_drew HG.out
    clear x0 x1 x2 x3 x4 y0 y1 y2 y3 y4
    generalize wr.drew = w3 at *
    have HA3 := m_ hAd
    have HG3 := m_ hGd
    clear hAd hGd HA HG
    have hcl := cmpI_lt y.1.f2 x.1.f2
    by_cases hlt2 : hkey y < hkey x
    ·rw [decide_eq_true (show y.1.f2 < x.1.f2 from hlt2)] at hcl
     have HLT := m_ hlt2
     clear hlt2
     go_wp2_with (go_at_call 72; refine (cmpH_any y x _).mono ?_; rintro e w4 ⟨rfl, hb4⟩; have HA4 := m_ (Kd.R_below HA3.out hb4); have HG4 := m_ (e5_ HG3.out hb4); clear hb4)
     go_roundw
     case rel => exact ⟨s, c, rfl, by first | rfl | exact int_i64 (by omega), hls, hc2, by omega, HT, ⟨fun c' x' y' h1 h2 h3 h4 => by
      by_cases e : r ≤ c'
      ·exact HD.out c' x' y' e h2 h3 h4
      ·have k1 := srt_le HS.out.1 (i := c - lo) (j := c' - lo) (by omega) HXU.out h3
       have k2 := srt_le HS.out.2 (i := mid + hi - 1 - c' - hi) (j := d - hi) (by have := HDD.out; omega) h4 HYV.out
       have := HLT.out
       omega⟩, HA4, HG4⟩
     case measure => simp [intOf]; omega
    ·rw [decide_eq_false (show ¬ y.1.f2 < x.1.f2 from hlt2)] at hcl
     have HLT := m_ (show hkey x ≤ hkey y by omega)
     clear hlt2
     go_wp2_with (go_at_call 72; refine (cmpH_any y x _).mono ?_; rintro e w4 ⟨rfl, hb4⟩; have HA4 := m_ (Kd.R_below HA3.out hb4); have HG4 := m_ (e5_ HG3.out hb4); clear hb4)
     go_roundw
     case rel => exact ⟨c + 1, r, by first | exact int_i64 (by omega) | go_num, rfl, by omega, by omega, hrh, ⟨fun c' x' y' h1 h2 h3 h4 => by
      by_cases e : c' < s
      ·exact HT.out c' x' y' h1 e h3 h4
      ·have k1 := srt_le HS.out.1 (i := c' - lo) (j := c - lo) (by omega) h3 HXU.out
       have k2 := srt_le HS.out.2 (i := d - hi) (j := mid + hi - 1 - c' - hi) (by have := HDD.out; omega) HYV.out h4
       have := HLT.out
       omega⟩, HD, HA4, HG4⟩
     case measure => simp [intOf]; omega
   ·obtain rfl : s = r := by omega
    obtain ⟨e, he⟩ : ∃ e, e = mid + hi - s := ⟨_, rfl⟩
    have he1 : hi ≤ e ∧ e ≤ b ∧ e + s = mid + hi := by omega
    obtain ⟨e1, e2, e3⟩ := he1
    have h12 := split12 HS.out.1 HS.out.2 (p := s - lo) (q := e - hi) Z6 (by
     by_cases h1 : s = lo
     ·exact .inl (by omega)
     ·by_cases h2 : e = b
      ·exact .inr (.inl Z6)
      ·exact .inr (.inr fun x y hx hy => HT.out (s - 1) x y (by have := HLH.out; omega) (by omega) (by rw [show s - 1 - lo = s - lo - 1 by omega]; exact hx) (by rw [show mid + hi - 1 - (s - 1) - hi = e - hi by omega]; exact hy)))
    have h21 := split21 HS.out.1 HS.out.2 (p := s - lo) (q := e - hi) Z6 (by
     by_cases h1 : s = hi
     ·exact .inl Z6
     ·by_cases h2 : e = hi
      ·exact .inr (.inl (by omega))
      ·exact .inr (.inr fun x y hx hy => HD.out s x y (by omega) (by have := HLH.out; omega) hx (by rw [show mid + hi - 1 - s - hi = e - hi - 1 by omega]; exact hy)))
    have hU1 : U.take (s - lo) ++ U.drop (s - lo) = U := List.take_append_drop _ U
    have hV1 : V.take (e - hi) ++ V.drop (e - hi) = V := List.take_append_drop _ V
    have hml := mrg_split hkey _ _ _ _ h12 h21
    rw [hU1, hV1] at hml
    have hS1 : Srt hkey (U.take (s - lo)) ∧ Srt hkey (U.drop (s - lo)) ∧ Srt hkey (V.take (e - hi)) ∧ Srt hkey (V.drop (e - hi)) := ⟨HS.out.1.sublist (List.take_sublist _ _), HS.out.1.sublist (List.drop_sublist _ _), HS.out.2.sublist (List.take_sublist _ _), HS.out.2.sublist (List.drop_sublist _ _)⟩
    have hl1 : (U.take (s - lo)).length = s - lo ∧ (U.drop (s - lo)).length = hi - s ∧ (V.take (e - hi)).length = e - hi ∧ (V.drop (e - hi)).length = b - e := by
     rw [List.length_take, List.length_drop, List.length_take, List.length_drop]; have := HLN.out; omega
    have hA0 := HA.out
    rw [← hU1, ← hV1] at hA0
    have HML := m_ hml
    generalize U.take (s - lo) = U1 at *
    generalize U.drop (s - lo) = U2 at *
    generalize V.take (e - hi) = V1 at *
    generalize V.drop (e - hi) = V2 at *
    have HS1 := m_ hS1
    have HL1 := m_ hl1
    have HA0 := m_ (show Kd.R kh 41 wr base ok (.slice (some ⟨g, 0, none⟩) n cap) (X ++ (U1 ++ (U2 ++ (V1 ++ (V2 ++ Z))))) from by simpa using hA0)
    have hok1 : ∀ k, ok k → k < wr.heap.size := fun k hk => Nat.lt_of_lt_of_le (HOK.out k hk) HG.out.size
    have HOK1 := m_ hok1
    have hen : (mid : Int) + (hi : Int) - (s : Int) = (e : Int) := by omega
    have hbnd : lo ≤ s ∧ s ≤ hi ∧ s ≤ mid := by omega
    obtain ⟨n1, n2, n3⟩ := hbnd
    clear h12 h21 hU1 hV1 hml hS1 hl1 hA0 HA HT HD hok1 he
    have hcs : (lo < s ∧ hi < e ∧ s < hi ∧ e < b) ∨ (lo < s ∧ hi < e ∧ s < hi ∧ b ≤ e) ∨ (lo < s ∧ hi < e ∧ hi ≤ s ∧ e < b) ∨ (lo < s ∧ e ≤ hi ∧ s < hi ∧ e < b) ∨ (lo < s ∧ e ≤ hi ∧ hi ≤ s ∧ e < b) ∨ (s ≤ lo ∧ hi < e ∧ s < hi ∧ e < b) ∨ (s ≤ lo ∧ hi < e ∧ s < hi ∧ b ≤ e) := by omega
    rcases hcs with ⟨k1, k2, k3, k4⟩ | ⟨k1, k2, k3, k4⟩ | ⟨k1, k2, k3, k4⟩ | ⟨k1, k2, k3, k4⟩ | ⟨k1, k2, k3, k4⟩ | ⟨k1, k2, k3, k4⟩ | ⟨k1, k2, k3, k4⟩
    ·have z1 : (s : Int) < (hi : Int) := by omega
     have z2 : (hi : Int) < (e : Int) := by omega
     have z3 : (lo : Int) < (s : Int) := by omega
     have z4 : (s : Int) < (mid : Int) := by omega
     have z5 : (mid : Int) < (e : Int) := by omega
     have z6 : (e : Int) < (b : Int) := by omega
     have HRB := m_ (show Kd.R kh 41 wr base ok (.slice (some ⟨g, 0, none⟩) n cap) ((X ++ U1) ++ (U2 ++ (V1 ++ (V2 ++ Z)))) from by simpa using HA0.out)
     go_wp2_with (go_at_call 136; refine (rotate_any g n cap base s hi e ok (X ++ U1) U2 V1 (V2 ++ Z) wr HRB.out Z2 Z2 Z2 Z4 Z4 hn HOK1.out).mono ?_; rintro e' w5 ⟨rfl, hr5, hg5⟩; have HR5 := m_ (show Kd.R kh 41 w5 base ok (.slice (some ⟨g, 0, none⟩) n cap) (X ++ (U1 ++ (V1 ++ (U2 ++ (V2 ++ Z))))) from by simpa using hr5); have HG5 := m_ (b4_ HG.out hg5); have HOK5 := m_ (fun k hk => Nat.lt_of_lt_of_le (HOK1.out k hk) hg5.size); clear hr5 hg5)
     refine (HIH.out (U1.length + V1.length) Z9 g n cap base lo s mid ok X U1 V1 (U2 ++ (V2 ++ Z)) w5 rfl HR5.out Z6 Z8 Z8 Z4 Z4 HS1.out.1 HS1.out.2.2.1 hn HOK5.out).mono ?_
     rintro e' w6 ⟨rfl, hr6, hg6⟩
     have HR6 := m_ hr6
     have HG6 := m_ (b4_ HG5.out hg6)
     have HOK6 := m_ (fun k hk => Nat.lt_of_lt_of_le (HOK5.out k hk) hg6.size)
     clear hr6 hg6
     go_wp2_with fail
     have HML1 := m_ (show (X ++ mrg hkey U1 V1).length = mid from by rw [List.length_append, mrg_length]; have := HLN.out; have := HL1.out; omega)
     have HR7 := m_ (show Kd.R kh 41 w6 base ok (.slice (some ⟨g, 0, none⟩) n cap) ((X ++ mrg hkey U1 V1) ++ (U2 ++ (V2 ++ Z))) from by rw [List.append_assoc]; exact HR6.out)
     refine (HIH.out (U2.length + V2.length) Z9 g n cap base mid e b ok (X ++ mrg hkey U1 V1) U2 V2 Z w6 rfl HR7.out (by have := HML1.out; omega) Z7 Z7 Z4 Z4 HS1.out.2.1 HS1.out.2.2.2 hn HOK6.out).mono ?_
     rintro e' w7 ⟨rfl, hr7, hg7⟩
     have HR8 := m_ hr7
     have HG8 := m_ (b4_ HG6.out hg7)
     clear hr7 hg7
     go_wp2_with fail
     go_end0
     exact ⟨rfl, by rw [HML.out]; have := HR8.out; simpa using this, HG8.out⟩
    ·exfalso; omega
    ·have z1 : decide ((s : Int) < (hi : Int)) = false := by simp; omega
     have z2 : (hi : Int) < (e : Int) := by omega
     have z3 : (lo : Int) < (s : Int) := by omega
     have z4 : (s : Int) < (mid : Int) := by omega
     have z5 : decide ((mid : Int) < (e : Int)) = false := by simp; omega
     have z6 : (e : Int) < (b : Int) := by omega
     have hem : U2 = [] := List.eq_nil_of_length_eq_zero Z4
     have HR5 := m_ (show Kd.R kh 41 wr base ok (.slice (some ⟨g, 0, none⟩) n cap) (X ++ (U1 ++ (V1 ++ (U2 ++ (V2 ++ Z))))) from by have := HA0.out; rw [hem] at this ⊢; simpa using this)
     have HG5 := HG
     have HOK5 := HOK1
     clear hem
     go_wp2_with fail
     refine (HIH.out (U1.length + V1.length) Z9 g n cap base lo s mid ok X U1 V1 (U2 ++ (V2 ++ Z)) wr rfl HR5.out Z6 Z8 Z8 Z4 Z4 HS1.out.1 HS1.out.2.2.1 hn HOK5.out).mono ?_
     rintro e' w6 ⟨rfl, hr6, hg6⟩
     have HR6 := m_ hr6
     have HG6 := m_ (b4_ HG5.out hg6)
     have HOK6 := m_ (fun k hk => Nat.lt_of_lt_of_le (HOK5.out k hk) hg6.size)
     clear hr6 hg6
     go_wp2_with fail
     have HML1 := m_ (show (X ++ mrg hkey U1 V1).length = mid from by rw [List.length_append, mrg_length]; have := HLN.out; have := HL1.out; omega)
     have HR7 := m_ (show Kd.R kh 41 w6 base ok (.slice (some ⟨g, 0, none⟩) n cap) ((X ++ mrg hkey U1 V1) ++ (U2 ++ (V2 ++ Z))) from by rw [List.append_assoc]; exact HR6.out)
     have hem : U2 = [] := List.eq_nil_of_length_eq_zero Z4
     have HR8 := m_ (show Kd.R kh 41 w6 base ok (.slice (some ⟨g, 0, none⟩) n cap) ((X ++ mrg hkey U1 V1) ++ (mrg hkey U2 V2 ++ Z)) from by have := HR7.out; rw [hem] at this ⊢; rw [mrg_nil_left]; simpa using this)
     have HG8 := HG6
     clear hem
     go_end0
     exact ⟨rfl, by rw [HML.out]; have := HR8.out; simpa using this, HG8.out⟩
    ·exfalso; omega
    ·have z1 : decide ((s : Int) < (hi : Int)) = false := by simp; omega
     have z2 : decide ((hi : Int) < (e : Int)) = false := by simp; omega
     have z3 : (lo : Int) < (s : Int) := by omega
     have z4 : decide ((s : Int) < (mid : Int)) = false := by simp; omega
     have z5 : decide ((mid : Int) < (e : Int)) = false := by simp; omega
     have z6 : (e : Int) < (b : Int) := by omega
     have hem : U2 = [] := List.eq_nil_of_length_eq_zero Z4
     have HR5 := m_ (show Kd.R kh 41 wr base ok (.slice (some ⟨g, 0, none⟩) n cap) (X ++ (U1 ++ (V1 ++ (U2 ++ (V2 ++ Z))))) from by have := HA0.out; rw [hem] at this ⊢; simpa using this)
     have HG5 := HG
     have HOK5 := HOK1
     clear hem
     go_wp2_with fail
     have hem : V1 = [] := List.eq_nil_of_length_eq_zero Z4
     have HR6 := m_ (show Kd.R kh 41 wr base ok (.slice (some ⟨g, 0, none⟩) n cap) (X ++ (mrg hkey U1 V1 ++ (U2 ++ (V2 ++ Z)))) from by have := HR5.out; rw [hem] at this ⊢; rw [mrg_nil_right]; simpa using this)
     have HG6 := HG5
     have HOK6 := HOK5
     clear hem
     have HML1 := m_ (show (X ++ mrg hkey U1 V1).length = mid from by rw [List.length_append, mrg_length]; have := HLN.out; have := HL1.out; omega)
     have HR7 := m_ (show Kd.R kh 41 wr base ok (.slice (some ⟨g, 0, none⟩) n cap) ((X ++ mrg hkey U1 V1) ++ (U2 ++ (V2 ++ Z))) from by rw [List.append_assoc]; exact HR6.out)
     have hem : U2 = [] := List.eq_nil_of_length_eq_zero Z4
     have HR8 := m_ (show Kd.R kh 41 wr base ok (.slice (some ⟨g, 0, none⟩) n cap) ((X ++ mrg hkey U1 V1) ++ (mrg hkey U2 V2 ++ Z)) from by have := HR7.out; rw [hem] at this ⊢; rw [mrg_nil_left]; simpa using this)
     have HG8 := HG6
     clear hem
     go_end0
     exact ⟨rfl, by rw [HML.out]; have := HR8.out; simpa using this, HG8.out⟩
    ·have z1 : (s : Int) < (hi : Int) := by omega
     have z2 : (hi : Int) < (e : Int) := by omega
     have z3 : decide ((lo : Int) < (s : Int)) = false := by simp; omega
     have z4 : (s : Int) < (mid : Int) := by omega
     have z5 : (mid : Int) < (e : Int) := by omega
     have z6 : (e : Int) < (b : Int) := by omega
     have HRB := m_ (show Kd.R kh 41 wr base ok (.slice (some ⟨g, 0, none⟩) n cap) ((X ++ U1) ++ (U2 ++ (V1 ++ (V2 ++ Z)))) from by simpa using HA0.out)
     go_wp2_with (go_at_call 136; refine (rotate_any g n cap base s hi e ok (X ++ U1) U2 V1 (V2 ++ Z) wr HRB.out Z2 Z2 Z2 Z4 Z4 hn HOK1.out).mono ?_; rintro e' w5 ⟨rfl, hr5, hg5⟩; have HR5 := m_ (show Kd.R kh 41 w5 base ok (.slice (some ⟨g, 0, none⟩) n cap) (X ++ (U1 ++ (V1 ++ (U2 ++ (V2 ++ Z))))) from by simpa using hr5); have HG5 := m_ (b4_ HG.out hg5); have HOK5 := m_ (fun k hk => Nat.lt_of_lt_of_le (HOK1.out k hk) hg5.size); clear hr5 hg5)
     have hem : U1 = [] := List.eq_nil_of_length_eq_zero Z4
     have HR6 := m_ (show Kd.R kh 41 w5 base ok (.slice (some ⟨g, 0, none⟩) n cap) (X ++ (mrg hkey U1 V1 ++ (U2 ++ (V2 ++ Z)))) from by have := HR5.out; rw [hem] at this ⊢; rw [mrg_nil_left]; simpa using this)
     have HG6 := HG5
     have HOK6 := HOK5
     clear hem
     have HML1 := m_ (show (X ++ mrg hkey U1 V1).length = mid from by rw [List.length_append, mrg_length]; have := HLN.out; have := HL1.out; omega)
     have HR7 := m_ (show Kd.R kh 41 w5 base ok (.slice (some ⟨g, 0, none⟩) n cap) ((X ++ mrg hkey U1 V1) ++ (U2 ++ (V2 ++ Z))) from by rw [List.append_assoc]; exact HR6.out)
     refine (HIH.out (U2.length + V2.length) Z9 g n cap base mid e b ok (X ++ mrg hkey U1 V1) U2 V2 Z w5 rfl HR7.out (by have := HML1.out; omega) Z7 Z7 Z4 Z4 HS1.out.2.1 HS1.out.2.2.2 hn HOK6.out).mono ?_
     rintro e' w7 ⟨rfl, hr7, hg7⟩
     have HR8 := m_ hr7
     have HG8 := m_ (b4_ HG6.out hg7)
     clear hr7 hg7
     go_wp2_with fail
     go_end0
     exact ⟨rfl, by rw [HML.out]; have := HR8.out; simpa using this, HG8.out⟩
    ·have z1 : (s : Int) < (hi : Int) := by omega
     have z2 : (hi : Int) < (e : Int) := by omega
     have z3 : decide ((lo : Int) < (s : Int)) = false := by simp; omega
     have z4 : (s : Int) < (mid : Int) := by omega
     have z5 : (mid : Int) < (e : Int) := by omega
     have z6 : decide ((e : Int) < (b : Int)) = false := by simp; omega
     have HRB := m_ (show Kd.R kh 41 wr base ok (.slice (some ⟨g, 0, none⟩) n cap) ((X ++ U1) ++ (U2 ++ (V1 ++ (V2 ++ Z)))) from by simpa using HA0.out)
     go_wp2_with (go_at_call 136; refine (rotate_any g n cap base s hi e ok (X ++ U1) U2 V1 (V2 ++ Z) wr HRB.out Z2 Z2 Z2 Z4 Z4 hn HOK1.out).mono ?_; rintro e' w5 ⟨rfl, hr5, hg5⟩; have HR5 := m_ (show Kd.R kh 41 w5 base ok (.slice (some ⟨g, 0, none⟩) n cap) (X ++ (U1 ++ (V1 ++ (U2 ++ (V2 ++ Z))))) from by simpa using hr5); have HG5 := m_ (b4_ HG.out hg5); have HOK5 := m_ (fun k hk => Nat.lt_of_lt_of_le (HOK1.out k hk) hg5.size); clear hr5 hg5)
     have hem : U1 = [] := List.eq_nil_of_length_eq_zero Z4
     have HR6 := m_ (show Kd.R kh 41 w5 base ok (.slice (some ⟨g, 0, none⟩) n cap) (X ++ (mrg hkey U1 V1 ++ (U2 ++ (V2 ++ Z)))) from by have := HR5.out; rw [hem] at this ⊢; rw [mrg_nil_left]; simpa using this)
     have HG6 := HG5
     have HOK6 := HOK5
     clear hem
     have HML1 := m_ (show (X ++ mrg hkey U1 V1).length = mid from by rw [List.length_append, mrg_length]; have := HLN.out; have := HL1.out; omega)
     have HR7 := m_ (show Kd.R kh 41 w5 base ok (.slice (some ⟨g, 0, none⟩) n cap) ((X ++ mrg hkey U1 V1) ++ (U2 ++ (V2 ++ Z))) from by rw [List.append_assoc]; exact HR6.out)
     have hem : V2 = [] := List.eq_nil_of_length_eq_zero Z4
     have HR8 := m_ (show Kd.R kh 41 w5 base ok (.slice (some ⟨g, 0, none⟩) n cap) ((X ++ mrg hkey U1 V1) ++ (mrg hkey U2 V2 ++ Z)) from by have := HR7.out; rw [hem] at this ⊢; rw [mrg_nil_right]; simpa using this)
     have HG8 := HG6
     clear hem
     go_end0
     exact ⟨rfl, by rw [HML.out]; have := HR8.out; simpa using this, HG8.out⟩
theorem symMerge_any : ∀ sz, SymC sz := fun sz => by
 induction sz using Nat.strongRecOn with
 | ind sz IH =>
  intro g n cap base a m b ok X U V Z w hsz hr ha hm hb hU0 hV0 hU hV hn hok
  by_cases h1 : U.length = 1
  ·obtain ⟨u, rfl⟩ := List.length_eq_one_iff.1 h1
   exact symMerge_left g n cap base a m b ok X V Z u w hr ha (by simpa using hm) (by simpa using hb) hV hn hok
  ·by_cases h2 : V.length = 1
   ·obtain ⟨v, rfl⟩ := List.length_eq_one_iff.1 h2
    exact symMerge_right g n cap base a m b ok X U Z v w hr ha hm (by simpa using hb) (by omega) hU hn hok
   ·exact symMerge_gen sz IH g n cap base a m b ok X U V Z w hsz hr ha hm hb (by omega) (by omega) hU hV hn hok
theorem pre_get (X l : List HV) {a i : Nat} (ha : a = X.length) (h : a ≤ i) : (X ++ l)[i]? = l[i - a]? := by
 rw [List.getElem?_append_right (by omega), ha]
theorem pre_set (X l : List HV) {a i : Nat} (ha : a = X.length) (h : a ≤ i) (v : HV) : (X ++ l).set i v = X ++ l.set (i - a) v := by
 rw [List.set_append_right _ _ (by omega), ha]
set_option maxHeartbeats 8000000 in
set_option maxRecDepth 100000 in
theorem insert_gen (g n cap base a b c : Nat) (ok : Nat → Prop) (X xs : List (HV)) (w : World) (hr : Kd.R kh 41 w base ok (.slice (some ⟨g, 0, none⟩) n cap) (X ++ xs)) (ha : a = X.length) (hb : b = a + c) (hc : c ≤ xs.length) (hn : n ≤ 1000000000000) (h2 : 2 ≤ c) (hok : ∀ k, ok k → k < w.heap.size) :
  Calls Try.prog 120 #[.slice (some ⟨g, 0, none⟩) n cap, .int .i64 a, .int .i64 b, .func (.func 72) #[] #[]] w fun e w' => e = .returned (.tuple #[]) ∧ Kd.R kh 41 w' base ok (.slice (some ⟨g, 0, none⟩) n cap) (X ++ (isort hkey (xs.take c) ++ xs.drop c)) ∧ w.grownBy w' (some g) := by
 have hu41 := Try.underlying41
 have HR := m_ hr
 have hxl := (Kd.R_reads' hr).1
 rw [List.length_append] at hxl
 have bb : a + 2 ≤ b ∧ b ≤ n := by omega
 obtain ⟨bb1, bb2⟩ := bb
 have HXL := m_ (show X.length = a ∧ a + xs.length = n ∧ b = a + c ∧ c ≤ xs.length from by omega)
 clear hr hxl ha hb hc h2
 go_enter Try.func120, Try.ntmps120
 go_wp2
 go_loopw [8] (fun v8 wr => ∃ p : Nat, a + 1 ≤ p ∧ p ≤ b ∧ v8 = .int .i64 (p : Int) ∧ A_ (Kd.R kh 41 wr base ok (.slice (some ⟨g, 0, none⟩) n cap) (X ++ (isort hkey (xs.take (p - a)) ++ xs.drop (p - a)))) ∧ A_ (w.grownBy wr (some g))) (fun v8 _ => b - (intOf v8).toNat)
 case atStart => exact ⟨a + 1, Nat.le_refl _, by omega, by go_num, ⟨by
  have : isort hkey (xs.take (a + 1 - a)) ++ xs.drop (a + 1 - a) = xs := by
   rw [show a + 1 - a = 1 by omega]
   cases xs with
   | nil => rfl
   | cons x xs => simp [isort, insK]
  rw [this]; exact HR.out⟩, ⟨d6_ _ _⟩⟩
 case round =>
  obtain ⟨p, hi1, hib, rfl, HA, HG⟩ := hrel
  by_cases hlt : p < b
  ·have hlt' : (p : Int) < b := by omega
   obtain ⟨i, hpi⟩ : ∃ i, i = p - a := ⟨_, rfl⟩
   have hix : i < xs.length := by have := HXL.out; omega
   have hLl : (isort hkey (xs.take i)).length = i := by rw [(isort_perm hkey _).length_eq, List.length_take]; omega
   have hz : isort hkey (xs.take i) ++ xs.drop i = zAt (isort hkey (xs.take i)) xs[i] (xs.drop (i + 1)) i := by
    unfold zAt
    have t1 : (isort hkey (xs.take i)).take i = isort hkey (xs.take i) := List.take_of_length_le (by omega)
    have t2 : (isort hkey (xs.take i)).drop i = [] := List.drop_eq_nil_of_le (by omega)
    rw [t1, t2, List.nil_append, List.drop_eq_getElem_cons hix]
   have hstep := isort_take hkey xs i hix
   have hsrt := isort_sorted hkey (xs.take i)
   rw [← hpi, hz] at HA
   have hrl : (xs.drop (i + 1)).length = xs.length - (i + 1) := List.length_drop
   clear hz
   have HST := m_ hstep
   have HPI := m_ (And.intro hpi (show p + 1 - a = i + 1 by omega))
   clear hstep
   generalize hL : isort hkey (xs.take i) = L at *
   generalize hx : xs[i] = x at *
   generalize hre : xs.drop (i + 1) = rest at *
   have HSRT := m_ hsrt
   have HRE := m_ hre
   have HLL := m_ (show L.length = i ∧ a + i + 1 + rest.length = n ∧ i + a = p from by have := HXL.out; omega)
   clear hsrt hL hx hre hpi hLl hrl
   go_wp2
   obtain ⟨wo, hwo⟩ : ∃ wo : World, wo = wr := ⟨_, rfl⟩
   subst hwo
   go_loopg [9] p (fun kq v9 w2 => ∃ q : Nat, a ≤ q ∧ q ≤ p ∧ v9 = .int .i64 (q : Int) ∧ A_ (kq = q) ∧ A_ (∀ y ∈ L.drop (q - a), hkey x < hkey y) ∧ A_ (Kd.R kh 41 w2 base ok (.slice (some ⟨g, 0, none⟩) n cap) (X ++ zAt L x rest (q - a))) ∧ A_ (w.grownBy w2 (some g)))
   case atStart => exact ⟨p, by omega, Nat.le_refl _, rfl, ⟨rfl⟩, ⟨fun y hy => by rw [List.drop_eq_nil_of_le (by have := HLL.out; omega)] at hy; cases hy⟩, ⟨by rw [← HPI.out.1]; exact HA.out⟩, HG⟩
   case round =>
    clear HA HG
    obtain ⟨q, hqa, hj, rfl, HQ, HD, HA, HG⟩ := hrel
    by_cases hq0 : q ≤ a
    ·have hqe : q - a = 0 := by omega
     have hdone : X ++ (isort hkey (xs.take (p + 1 - a)) ++ xs.drop (p + 1 - a)) = X ++ zAt L x rest (q - a) := by
      have hd := HD.out
      rw [hqe] at hd ⊢
      rw [HPI.out.2, HST.out, HRE.out, insK_at hkey x L 0 (by simp) hd]
      simp [zAt]
     rw [← hdone] at HA
     have hd1 : decide ((a : Int) < (q : Int)) = false := by simp; omega
     have hd2 : decide (a < q) = false := by simp; omega
     clear hdone hqe
     go_wp2
     go_quiet (fail)
     go_wp2
     go_roundw
     case rel => exact ⟨p + 1, by omega, by omega, by go_num, HA, ⟨e5_ HG.out (e0_ (Below.refl _ _) _)⟩⟩
     case measure => simp [intOf]; omega
    ·obtain ⟨m, rfl⟩ : ∃ m, q = m + 1 := ⟨q - 1, by omega⟩
     have hm : m - a < L.length := by have := HLL.out; omega
     have hxp : (X ++ zAt L x rest (m + 1 - a))[m + 1]? = some x := by
      rw [pre_get X _ HXL.out.1.symm (by omega)]; exact zAt_get L x rest (m + 1 - a) (by omega)
     have hyp : (X ++ zAt L x rest (m + 1 - a))[m]? = some L[m - a] := by
      rw [pre_get X _ HXL.out.1.symm (by omega), show m + 1 - a = m - a + 1 by omega]; exact zAt_get1 L x rest (m - a) hm
     obtain ⟨x0, x1, x2, x3, x4⟩ := at_kh HA.out (m + 1) x hxp
     obtain ⟨y0, y1, y2, y3, y4⟩ := at_kh HA.out m L[m - a] hyp
     have hzs : ((X ++ zAt L x rest (m + 1 - a)).set (m + 1) L[m - a]).set m x = X ++ zAt L x rest (m - a) := by
      rw [pre_set X _ HXL.out.1.symm (by omega), pre_set X _ HXL.out.1.symm (by omega), show m + 1 - a = m - a + 1 by omega, zAt_step L x rest (m - a) hm]
     have hd := List.drop_eq_getElem_cons hm
     have ht := List.take_succ_eq_append_getElem hm
     generalize L[m - a] = y at *
     have HZS := m_ hzs
     have HXP := m_ hxp
     have HYP := m_ hyp
     have HDR := m_ hd
     have HTK := m_ ht
     clear hzs hd ht hxp hyp
     have e1 : IntKind.i64.wrap (m : Int) = (m : Int) := by rw [IntKind.wrap_i64]; omega
     have i0 : (0 : Int) ≤ (m : Int) + 1 := by omega
     have i1 : (a : Int) < (m : Int) + 1 := by omega
     have i2 : (m : Int) + 1 < n := by omega
     have i3 : (m : Int) < n := by omega
     have i4 : ((m : Int) + 1).toNat = m + 1 := by omega
     go_wp2
     go_still_tail 14, (by kernel_rfl)
     change wpList _ _ _ _ _ wr.drew
     have hAd := Kd.R_drew HA.out
     have hGd := grown_drew HG.out
     clear x0 x1 x2 x3 x4 y0 y1 y2 y3 y4
     generalize wr.drew = w3 at *
     have HA3 := m_ hAd
     have HG3 := m_ hGd
     clear hAd hGd HA HG
     by_cases hlt2 : hkey x < hkey y
     ·have hcmp : cmpI x.1.f2 y.1.f2 = -1 := by unfold hkey at hlt2; unfold cmpI; rw [if_pos hlt2]
      have HLT := m_ hlt2
      clear hlt2
      go_wp2_with (go_at_call 72; refine (cmpH_any x y _).mono ?_; rintro e w4 ⟨rfl, hb4⟩; rw [hcmp]; have HA4 := m_ (Kd.R_below HA3.out hb4); have HG4 := m_ (e5_ HG3.out hb4); clear hb4)
      obtain ⟨x0, x1, x2, x3, x4⟩ := at_kh HA4.out (m + 1) x HXP.out
      obtain ⟨y0, y1, y2, y3, y4⟩ := at_kh HA4.out m y HYP.out
      obtain ⟨g', cap', cur, hv, _, _, hh⟩ := ownh HA4.out (by rw [List.length_append, zAt_len _ _ _ _ (by omega)]; omega)
      injection hv with ha hn1 hc1
      injection ha with ha
      injection ha with ha
      subst ha
      clear hn1 hc1
      have z0 := a2_ hh ((m + 1) * 5)
      have z1 := a2_ hh ((m + 1) * 5 + 1)
      have z2 := a2_ hh ((m + 1) * 5 + 2)
      have z3 := a2_ hh ((m + 1) * 5 + 3)
      have z4 := a2_ hh ((m + 1) * 5 + 4)
      have v0 := a2_ hh (m * 5)
      have v1 := a2_ hh (m * 5 + 1)
      have v2 := a2_ hh (m * 5 + 2)
      have v3 := a2_ hh (m * 5 + 3)
      have v4 := a2_ hh (m * 5 + 4)
      clear hh
      have p1 := put_kh HA4.out (m + 1) (by omega) y
      have p2 := put_kh p1.1 m (by omega) x
      have hR5 := Kd.R_drew p2.1
      have hG5 := grown_drew (b4_ (b4_ HG4.out p1.2) p2.2)
      rw [HZS.out] at hR5
      simp only [hc, World.setCells, Nat.add_assoc, Nat.reduceAdd] at hR5 hG5
      have HR5 := m_ hR5
      have HG5 := m_ hG5
      clear hR5 hG5 p1 p2
      go_region
      revert HR5 HG5
      generalize World.drew _ = w5
      intro HR5 HG5
      go_wp2
      go_roundg m
      case rel => exact ⟨m, by omega, by omega, rfl, ⟨rfl⟩, ⟨fun z hz => by
       rw [HDR.out] at hz
       rcases List.mem_cons.1 hz with rfl | hz
       ·exact HLT.out
       ·exact HD.out z (by rw [show m + 1 - a = m - a + 1 by omega]; exact hz)⟩, HR5, HG5⟩
      case measure => have := HQ.out; omega
     ·have hcmp : decide (cmpI x.1.f2 y.1.f2 < 0) = false := by
       unfold hkey at hlt2; unfold cmpI; rw [if_neg hlt2]; split <;> simp
      have HLT := m_ hlt2
      clear hlt2
      go_wp2_with (go_at_call 72; refine (cmpH_any x y _).mono ?_; rintro e w4 ⟨rfl, hb4⟩; have HA4 := m_ (Kd.R_below HA3.out hb4); have HG4 := m_ (e5_ HG3.out hb4); clear hb4)
      have hdone : X ++ (isort hkey (xs.take (p + 1 - a)) ++ xs.drop (p + 1 - a)) = X ++ zAt L x rest (m + 1 - a) := by
       have hd := HD.out
       rw [show m + 1 - a = m - a + 1 by omega] at hd ⊢
       rw [HPI.out.2, HST.out, HRE.out, insK_at hkey x L (m - a + 1) (fun z hz => by
        rw [HTK.out] at hz
        have hp := HSRT.out
        rw [← List.take_append_drop (m - a) L, List.pairwise_append] at hp
        rcases List.mem_append.1 hz with hz | hz
        ·have := hp.2.2 z hz y (by rw [HDR.out]; simp)
         have := HLT.out
         omega
        ·obtain rfl := List.mem_singleton.1 hz
         have := HLT.out
         omega) hd]
       simp [zAt]
      rw [← hdone] at HA4
      clear hdone
      go_roundw
      case rel => exact ⟨p + 1, by omega, by omega, by go_num, HA4, HG4⟩
      case measure => simp [intOf]; omega
  ·have hlt' : ¬ (p : Int) < b := by omega
   obtain rfl : p = b := by omega
   have hpc : p - a = c := by have := HXL.out; omega
   rw [hpc] at HA
   go_wp2
   go_end0
   exact ⟨rfl, HA.out, HG.out⟩
theorem insert_part (g n cap base a b c : Nat) (ok : Nat → Prop) (X xs : List (HV)) (w : World) (hr : Kd.R kh 41 w base ok (.slice (some ⟨g, 0, none⟩) n cap) (X ++ xs)) (ha : a = X.length) (hb : b = a + c) (hc : c ≤ xs.length) (hn : n ≤ 1000000000000) (hok : ∀ k, ok k → k < w.heap.size) :
  Calls Try.prog 120 #[.slice (some ⟨g, 0, none⟩) n cap, .int .i64 a, .int .i64 b, .func (.func 72) #[] #[]] w fun e w' => e = .returned (.tuple #[]) ∧ Kd.R kh 41 w' base ok (.slice (some ⟨g, 0, none⟩) n cap) (X ++ (isort hkey (xs.take c) ++ xs.drop c)) ∧ w.grownBy w' (some g) := by
 by_cases h2 : 2 ≤ c
 ·exact insert_gen g n cap base a b c ok X xs w hr ha hb hc hn h2 hok
 ·have hl := (Kd.R_reads' hr).1
  rw [List.length_append] at hl
  refine (insert_none (.slice (some ⟨g, 0, none⟩) n cap) a b (by omega) (by omega) w).mono ?_
  rintro e w' ⟨rfl, rfl⟩
  rw [isort_one hkey (xs.take c) (by rw [List.length_take]; omega), List.take_append_drop]
  exact ⟨rfl, hr, d6_ _ _⟩
set_option maxHeartbeats 16000000 in
set_option maxRecDepth 100000 in
theorem stable_gen (g n cap base : Nat) (ok : Nat → Prop) (xs : List HV) (w : World) (hr : Kd.R kh 41 w base ok (.slice (some ⟨g, 0, none⟩) n cap) xs) (hn : n ≤ 100000000000) (hok : ∀ k, ok k → k < w.heap.size) :
  Calls Try.prog 103 #[.slice (some ⟨g, 0, none⟩) n cap, .int .i64 n, .func (.func 72) #[] #[]] w fun e w' => e = .returned (.tuple #[]) ∧ Kd.R kh 41 w' base ok (.slice (some ⟨g, 0, none⟩) n cap) (isort hkey xs) ∧ w.grownBy w' (some g) := by
 have hxl := (Kd.R_reads' hr).1
 have HR := m_ hr
 have HOK := m_ hok
 have HXL := m_ hxl
 clear hr hok hxl
 go_enter Try.func103, Try.ntmps103
 go_wp2
 go_loopw [7, 8] (fun v7 v8 wr => ∃ (i a b : Nat), v7 = .int .i64 (a : Int) ∧ v8 = .int .i64 (b : Int) ∧ A_ (a = 20 * i ∧ b = 20 * i + 20) ∧ a ≤ n ∧ A_ (Kd.R kh 41 wr base ok (.slice (some ⟨g, 0, none⟩) n cap) (sp hkey 20 i xs ++ xs.drop (20 * i))) ∧ A_ (w.grownBy wr (some g))) (fun v7 _ _ => n - (intOf v7).toNat)
 case atStart => exact ⟨0, 0, 20, rfl, rfl, ⟨by omega⟩, Nat.zero_le _, ⟨by simpa [sp] using HR.out⟩, ⟨d6_ _ _⟩⟩
 case round =>
  clear HR
  obtain ⟨i, a, b, rfl, rfl, HI, han, HA, HG⟩ := hrel
  have hok1 : ∀ k, ok k → k < wr.heap.size := fun k hk => Nat.lt_of_lt_of_le (HOK.out k hk) HG.out.size
  by_cases hlt : b ≤ n
  ·have hlt' : (b : Int) ≤ n := by omega
   have HC := m_ (insert_part g n cap base a b 20 ok (sp hkey 20 i xs) (xs.drop (20 * i)) wr HA.out (by rw [sp_len hkey 20 i xs (by have := HI.out; have := HXL.out; omega)]; exact HI.out.1) (by have := HI.out; omega) Z10 (by omega) hok1)
   have HE := m_ (show sp hkey 20 i xs ++ (isort hkey ((xs.drop (20 * i)).take 20) ++ (xs.drop (20 * i)).drop 20) = sp hkey 20 (i + 1) xs ++ xs.drop (20 * (i + 1)) from by
    rw [sp_snoc, List.append_assoc, List.drop_drop, Nat.mul_succ])
   clear hok1 HA
   go_wp2_with (go_at_call 120; refine HC.out.mono ?_; rintro e w5 ⟨rfl, hr5, hg5⟩; rw [HE.out] at hr5; have HR5 := m_ hr5; have HG5 := m_ (b4_ HG.out hg5); clear hr5 hg5)
   go_roundw
   case rel => exact ⟨i + 1, b, b + 20, rfl, by go_num, ⟨by have := HI.out; omega⟩, hlt, HR5, HG5⟩
   case measure => simp [intOf]; have := HI.out; omega
  ·have hlt' : ¬ (b : Int) ≤ n := by omega
   have hdiv : n / 20 = i := by have := HI.out; omega
   have hC := insert_part g n cap base a n (n - a) ok (sp hkey 20 i xs) (xs.drop (20 * i)) wr HA.out (by rw [sp_len hkey 20 i xs (by have := HI.out; have := HXL.out; omega)]; exact HI.out.1) (by omega) Z10 (by omega) hok1
   have HE := m_ (show sp hkey 20 i xs ++ (isort hkey ((xs.drop (20 * i)).take (n - a)) ++ (xs.drop (20 * i)).drop (n - a)) = sc hkey 20 xs from by
    unfold sc
    rw [← HXL.out, hdiv, List.take_of_length_le Z10, show (xs.drop (20 * i)).drop (n - a) = [] from List.drop_eq_nil_of_le Z10, List.append_nil])
   have HC := m_ hC
   clear hok1 HA hC hdiv
   go_wp2_with (go_at_call 120; refine HC.out.mono ?_; rintro e w5 ⟨rfl, hr5, hg5⟩; rw [HE.out] at hr5; have HR5 := m_ hr5; have HG5 := m_ (b4_ HG.out hg5); clear hr5 hg5)
   clear HC HE HG HI hlt hlt' han
   go_loopw [6, 7, 8, 9] (fun v6 v7 v8 v9 wr => ∃ bs : Nat, v6 = .int .i64 (bs : Int) ∧ 20 ≤ bs ∧ bs ≤ 200000000000 ∧ A_ (Kd.R kh 41 wr base ok (.slice (some ⟨g, 0, none⟩) n cap) (sc hkey bs xs)) ∧ A_ (w.grownBy wr (some g))) (fun v6 _ _ _ _ => n - (intOf v6).toNat)
   case atStart => exact ⟨20, rfl, by omega, by omega, HR5, HG5⟩
   case round =>
    clear HR5 HG5
    obtain ⟨bs, rfl, hb20, hbM, HA, HG⟩ := hrel
    by_cases hbn : bs < n
    ·have hbn' : (bs : Int) < n := by omega
     go_wp2
     obtain ⟨wo, hwo⟩ : ∃ wo : World, wo = wr := ⟨_, rfl⟩
     subst hwo
     go_loopw [7, 8] (fun v7 v8 wr => ∃ (i a b : Nat), v7 = .int .i64 (a : Int) ∧ v8 = .int .i64 (b : Int) ∧ A_ (a = 2 * bs * i ∧ b = 2 * bs * i + 2 * bs) ∧ a ≤ n ∧ b ≤ n + 2 * bs ∧ A_ (Kd.R kh 41 wr base ok (.slice (some ⟨g, 0, none⟩) n cap) (sp hkey (2 * bs) i xs ++ sc hkey bs (xs.drop (2 * bs * i)))) ∧ A_ (w.grownBy wr (some g))) (fun v7 _ _ => n - (intOf v7).toNat)
     case atStart => exact ⟨0, 0, 2 * bs, rfl, by go_num, ⟨by omega⟩, Nat.zero_le _, by omega, ⟨by simpa [sp] using HA.out⟩, HG⟩
     case round =>
      clear HA HG
      obtain ⟨i, a, b, rfl, rfl, HI, han, hbb, HA, HG⟩ := hrel
      have hok1 : ∀ k, ok k → k < wr.heap.size := fun k hk => Nat.lt_of_lt_of_le (HOK.out k hk) HG.out.size
      have hspl : (sp hkey (2 * bs) i xs).length = a := by rw [sp_len hkey (2 * bs) i xs (by have := HI.out; have := HXL.out; omega)]; exact HI.out.1.symm
      by_cases hlt : b ≤ n
      ·have hlt' : (b : Int) ≤ n := by omega
       have hll : 2 * bs ≤ (xs.drop (2 * bs * i)).length := by rw [List.length_drop]; have := HI.out; have := HXL.out; omega
       have h2 := sc_two hkey bs (xs.drop (2 * bs * i)) (by omega) hll
       have hAr := HA.out
       rw [h2] at hAr
       have l1 : (isort hkey ((xs.drop (2 * bs * i)).take bs)).length = bs := by rw [isort_len, List.length_take]; omega
       have l2 : (isort hkey (((xs.drop (2 * bs * i)).drop bs).take bs)).length = bs := by rw [isort_len, List.length_take, List.length_drop]; omega
       have HC := m_ (symMerge_any _ g n cap base a (a + bs) b ok _ _ _ _ wr rfl hAr hspl.symm (by omega) (by have := HI.out; omega) (by omega) (by omega) (isort_sorted hkey _) (isort_sorted hkey _) (by omega) hok1)
       have HE := m_ (show sp hkey (2 * bs) i xs ++ (mrg hkey (isort hkey ((xs.drop (2 * bs * i)).take bs)) (isort hkey (((xs.drop (2 * bs * i)).drop bs).take bs)) ++ sc hkey bs ((xs.drop (2 * bs * i)).drop (2 * bs))) = sp hkey (2 * bs) (i + 1) xs ++ sc hkey bs (xs.drop (2 * bs * (i + 1))) from by
        rw [← isort_append, ← take_two, sp_snoc, List.append_assoc, List.drop_drop, Nat.mul_succ])
       have e2 : IntKind.i64.wrap ((a : Int) + (bs : Int)) = ((a + bs : Nat) : Int) := by rw [IntKind.wrap_i64]; omega
       have e3 : IntKind.i64.wrap ((a + bs : Nat) : Int) = ((a + bs : Nat) : Int) := by rw [IntKind.wrap_i64]; omega
       clear hok1 HA hAr l1 l2 h2 hll hspl
       go_wp2_with (go_at_call 121; refine HC.out.mono ?_; rintro e w5 ⟨rfl, hr5, hg5⟩; rw [HE.out] at hr5; have HR5 := m_ hr5; have HG5 := m_ (b4_ HG.out hg5); clear hr5 hg5)
       go_roundw
       case rel => exact ⟨i + 1, b, b + 2 * bs, rfl, by first | go_num | exact int_i64 (by omega), ⟨by have := HI.out; rw [Nat.mul_succ]; omega⟩, hlt, by omega, HR5, HG5⟩
       case measure => simp [intOf]; have := HI.out; omega
      ·have hlt' : ¬ (b : Int) ≤ n := by omega
       have hll : (xs.drop (2 * bs * i)).length = n - a ∧ n - a < 2 * bs := by rw [List.length_drop]; have := HI.out; have := HXL.out; omega
       have hdiv : n / (2 * bs) = i := by
        have h1 := HI.out
        exact Nat.div_eq_of_lt_le (by rw [Nat.mul_comm]; omega) (by rw [Nat.mul_comm, Nat.mul_succ]; omega)
       have HSC := m_ (show sc hkey (2 * bs) xs = sp hkey (2 * bs) i xs ++ isort hkey (xs.drop (2 * bs * i)) from by unfold sc; rw [← HXL.out, hdiv])
       by_cases hm : a + bs < n
       ·have hm' : (a : Int) + (bs : Int) < n := by omega
        have hm2 : ((a + bs : Nat) : Int) < n := by omega
        have h2 := sc_part hkey bs (xs.drop (2 * bs * i)) (by omega) (by omega) (by omega)
        have hAr := HA.out
        rw [h2, ← List.append_nil (isort hkey ((xs.drop (2 * bs * i)).drop bs))] at hAr
        have l1 : (isort hkey ((xs.drop (2 * bs * i)).take bs)).length = bs := by rw [isort_len, List.length_take]; omega
        have l2 : (isort hkey ((xs.drop (2 * bs * i)).drop bs)).length = n - a - bs := by rw [isort_len, List.length_drop]; omega
        have HC := m_ (symMerge_any _ g n cap base a (a + bs) n ok _ _ _ _ wr rfl hAr hspl.symm (by omega) (by omega) (by omega) (by omega) (isort_sorted hkey _) (isort_sorted hkey _) (by omega) hok1)
        have HE := m_ (show sp hkey (2 * bs) i xs ++ (mrg hkey (isort hkey ((xs.drop (2 * bs * i)).take bs)) (isort hkey ((xs.drop (2 * bs * i)).drop bs)) ++ []) = sc hkey (2 * bs) xs from by
         rw [← isort_append, List.take_append_drop, List.append_nil, HSC.out])
        have e2 : IntKind.i64.wrap ((a : Int) + (bs : Int)) = ((a + bs : Nat) : Int) := by rw [IntKind.wrap_i64]; omega
        have e3 : IntKind.i64.wrap ((a + bs : Nat) : Int) = ((a + bs : Nat) : Int) := by rw [IntKind.wrap_i64]; omega
        clear hok1 HA hAr l1 l2 h2 hll hspl hdiv
        go_wp2_with (go_at_call 121; refine HC.out.mono ?_; rintro e w5 ⟨rfl, hr5, hg5⟩; rw [HE.out] at hr5; have HR5 := m_ hr5; have HG5 := m_ (b4_ HG.out hg5); clear hr5 hg5)
        go_roundw
        case rel => exact ⟨2 * bs, by first | go_num | exact int_i64 (by omega), by omega, by omega, HR5, HG5⟩
        case measure => simp [intOf]; omega
       ·have hm' : ¬ (a : Int) + (bs : Int) < n := by omega
        have hAr := HA.out
        rw [sc_small hkey bs (xs.drop (2 * bs * i)) (by omega) (by omega), ← HSC.out] at hAr
        have HR5 := m_ hAr
        clear hok1 HA hAr hll hspl hdiv
        go_wp2
        go_roundw
        case rel => exact ⟨2 * bs, by first | go_num | exact int_i64 (by omega), by omega, by omega, HR5, HG⟩
        case measure => simp [intOf]; omega
    ·have hbn' : ¬ (bs : Int) < n := by omega
     have hfin := HA.out
     rw [sc_small hkey bs xs (by omega) (by have := HXL.out; omega)] at hfin
     have HF := m_ hfin
     clear hfin HA
     go_wp2
     go_end0
     exact ⟨rfl, HF.out, HG.out⟩
theorem stable_big (A : Option Addr) (n cap base : Nat) (ok : Nat → Prop) (xs : List HV) (w : World) (hr : Kd.R kh 41 w base ok (.slice A n cap) xs) (hn : n ≤ 100000000000) (hok : ∀ k, ok k → k < w.heap.size) (g : Nat) (hg : ∀ a, A = some a → a.block = g) :
  Calls Try.prog 103 #[.slice A n cap, .int .i64 n, .func (.func 72) #[] #[]] w fun e w' => e = .returned (.tuple #[]) ∧ Kd.R kh 41 w' base ok (.slice A n cap) (isort hkey xs) ∧ w.grownBy w' (some g) := by
 by_cases h2 : n ≤ 20
 ·exact stable_any A n cap base ok xs w hr h2 hok g hg
 ·have hl := (Kd.R_reads' hr).1
  obtain ⟨g', cap', cur, hv, _, _, _⟩ := ownh hr (by omega)
  injection hv with ha hn1 hc1
  subst ha
  obtain rfl : g' = g := hg _ rfl
  exact stable_gen g' n cap base ok xs w hr hn hok
set_option maxHeartbeats 8000000 in
set_option maxRecDepth 100000 in
theorem sort_big (A : Option Addr) (n cap base : Nat) (ok : Nat → Prop) (xs : List HV) (w : World) (hr : Kd.R kh 41 w base ok (.slice A n cap) xs) (hn : n ≤ 100000000000) (hok : ∀ k, ok k → k < w.heap.size) (g : Nat) (hg : ∀ a, A = some a → a.block = g) :
  Calls Try.prog 71 #[.slice A n cap, .func (.func 72) #[] #[]] w fun e w' => e = .returned (.tuple #[]) ∧ Kd.R kh 41 w' base ok (.slice A n cap) (isort hkey xs) ∧ w.grownBy w' (some g) := by
 have HI := m_ (stable_big A n cap base ok xs w hr hn hok g hg)
 clear hr hok hg
 go_enter Try.func71, Try.ntmps71
 go_wp2_with (go_at_call 103; refine HI.out.mono ?_; rintro e w1 ⟨rfl, hr1, hg1⟩; have HR1 := m_ hr1; have HG1 := m_ hg1; clear hr1 hg1)
 go_end0
 exact ⟨rfl, HR1.out, HG1.out⟩
theorem sort_n2 (A : Option Addr) (n cap base : Nat) (xs : List HV) (w : World) (hr : Kd.R kh 41 w base (fun _ => True) (.slice A n cap) xs) (hn : n ≤ 100000) :
  Calls Try.prog 71 #[.slice A n cap, .func (.func 72) #[] #[]] w fun e w' => e = .returned (.tuple #[]) ∧ Kd.R kh 41 w' base (fun k => base ≤ k ∧ k < w.heap.size) (.slice A n cap) (isort hkey xs) ∧ w.grownBy w' (some (blkOf A w.heap.size)) :=
 sort_big A n cap base _ xs w (Kd.R_mono (Kd.R_bound hr) (fun k hk => ⟨hk.2.1, hk.2.2.1⟩)) (Nat.le_trans hn (by decide)) (fun k hk => hk.2) (blkOf A w.heap.size) (fun a ha => by rw [ha]; rfl)
theorem KP.under {w W W' : World} {S : Nat → Prop} (h : KP W W' S) (hb : Below w.heap.size w W) (hs : ∀ k, S k → w.heap.size ≤ k) : Below w.heap.size w W' :=
 ⟨h.os.trans hb.os, h.tape.trans hb.tape, h.output.trans hb.output, Nat.le_trans hb.size h.kept.1, fun k hk => (h.kept.2 k (Nat.lt_of_lt_of_le hk hb.size) (fun hh => by have := hs k hh; omega)).trans (hb.block k hk)⟩
theorem KP.trans {w W W' : World} {S : Nat → Prop} (h : KP w W S) (h' : KP W W' S) : KP w W' S :=
 ⟨⟨Nat.le_trans h.kept.1 h'.kept.1, fun i hi hs => (h'.kept.2 i (Nat.lt_of_lt_of_le hi h.kept.1) hs).trans (h.kept.2 i hi hs)⟩, h'.os.trans h.os, h'.tape.trans h.tape, h'.output.trans h.output⟩
set_option maxHeartbeats 8000000 in
set_option maxRecDepth 100000 in
theorem early_any (now : Int) (A1 : Option Addr) (c1 : Nat) (l1 : List S51) (lg lc : Int) (A3 : Option Addr) (c3 : Nat) (l3 : List S41) (q m g c mn mx : Int) (w : World) (hr1 : Kd.C k51 w A1 l1.length l1) (hc1 : l1.length ≤ c1) (hr3 : Kd.C k41 w A3 l3.length l3) (hc3 : l3.length ≤ c3)
  (hn : l3.length ≤ 1000) (hv : viewOk l1) (hs : ∀ s ∈ l3.flatMap (fun h => h.f4), maskOk s = true ∧ (w64B s.f0.f0 && w64B s.f0.f1) = true) (hlen : (l3.flatMap fun h => h.f4).length < 4000000000) :
  Calls Try.prog 27 #[.int .i64 now, .slice A1 l1.length c1, .agg #[.int .i64 lg, .int .i64 lc], .slice A3 l3.length c3, .agg #[.int .i64 q, .int .i64 m, .int .i64 g, .int .i64 c, .int .i64 mn, .int .i64 mx]] w fun e w' => e = .returned (.tuple #[.int .i64 (earliestB now l1 lg lc l3 q m g c mn mx).1, .int .i64 (earliestB now l1 lg lc l3 q m g c mn mx).2]) ∧ Below w.heap.size w w' := by
 have hu22 := Try.underlying22
 have hu24 := Try.underlying24
 have hu25 := Try.underlying25
 have hu29 := Try.underlying29
 have hu41 := Try.underlying41
 have HR1 := m_ hr1
 have HR3 := m_ hr3
 have HC1 := m_ hc1
 have HC3 := m_ hc3
 have HN := m_ hn
 have HVO := m_ hv
 have HS := m_ hs
 have HLEN := m_ hlen
 have HRT := m_ (fun w => promise_right.calls q m g c mn mx _ w (right_eq q m g c mn mx))
 clear hr1 hr3 hc1 hc3 hn hv hs hlen
 by_cases hbad : now < 0 ∨ now > 1073741824 ∨ rightB m g c mn mx = false
 ·have HE : earliestB now l1 lg lc l3 q m g c mn mx = (0, 1) := by unfold earliestB; rw [if_pos hbad]
  rw [HE]
  clear HE
  have hRT0 := right_eq q m g c mn mx
  by_cases h0 : now < 0
  ·have d0 : decide (now < 0) = true := by simpa using h0
   clear h0 hbad hRT0
   go_enter Try.func27, Try.ntmps27
   go_wp2_with (first | ((with_reducible refine a3_ (N := 6) rfl ?_); refine bx 6 #[.slice A1 l1.length c1] 22 ?_; intro gv hgv w1 hx1 hb1; have wgv : w.heap.size ≤ gv := (by omega); have hgv2 := c6_ hx1; have HX1 := m_ hx1; have HB1 := m_ hb1; clear hx1 hb1) | ((with_reducible refine a3_ (N := 7) rfl ?_); refine bx 7 #[.int .i64 lg, .int .i64 lc] 24 ?_; intro gl hgl w2 hx2 hb2; have wgl : w.heap.size ≤ gl := (by have := HB1.out.size; omega); have hgl2 := c6_ hx2; have HX1b := m_ (a1_ HX1.out hb2); have HX2 := m_ hx2; have HB2 := m_ (b0_ HB1.out hb2); have hs2 := hb2.size; have nvl : gv ≠ gl := (by omega); clear hx2 hb2) | ((with_reducible refine a3_ (N := 9) rfl ?_); refine bx 9 #[.int .i64 q, .int .i64 m, .int .i64 g, .int .i64 c, .int .i64 mn, .int .i64 mx] 29 ?_; intro gw hgw w3 hx3 hb3; have HX1c := m_ (a1_ HX1b.out hb3); have HX2b := m_ (a1_ HX2.out hb3); have HX3 := m_ hx3; have HB3 := m_ (b0_ HB2.out hb3); have nvw : gv ≠ gw := (by omega); have nlw : gl ≠ gw := (by omega); obtain ⟨f0, f1, f2, f3, f4, f5⟩ := cz6_ ⟨hx3⟩; clear hx3 hb3 hgv hgl hgw hgv2 hgl2 hs2 HX1 HX1b HX2 HB1 HB2) | (go_at_call 68; refine (HRT.out _).mono ?_; rintro e w4 ⟨rfl, hb4⟩; have HX4v := m_ (a1_ HX1c.out hb4); have HX4l := m_ (a1_ HX2b.out hb4); have HX4w := m_ (a1_ HX3.out hb4); have HB4 := m_ (b0_ HB3.out hb4); clear hb4 f0 f1 f2 f3 f4 f5 HX1c HX2b HX3 HB3))
   all_goals go_ret2
   all_goals exact ⟨rfl, HB3.out⟩
  ·have d0 : decide (now < 0) = false := by simpa using h0
   by_cases h1 : now > 1073741824
   ·have d1 : decide (1073741824 < now) = true := by simpa using h1
    clear h0 h1 hbad hRT0
    go_enter Try.func27, Try.ntmps27
    go_wp2_with (first | ((with_reducible refine a3_ (N := 6) rfl ?_); refine bx 6 #[.slice A1 l1.length c1] 22 ?_; intro gv hgv w1 hx1 hb1; have wgv : w.heap.size ≤ gv := (by omega); have hgv2 := c6_ hx1; have HX1 := m_ hx1; have HB1 := m_ hb1; clear hx1 hb1) | ((with_reducible refine a3_ (N := 7) rfl ?_); refine bx 7 #[.int .i64 lg, .int .i64 lc] 24 ?_; intro gl hgl w2 hx2 hb2; have wgl : w.heap.size ≤ gl := (by have := HB1.out.size; omega); have hgl2 := c6_ hx2; have HX1b := m_ (a1_ HX1.out hb2); have HX2 := m_ hx2; have HB2 := m_ (b0_ HB1.out hb2); have hs2 := hb2.size; have nvl : gv ≠ gl := (by omega); clear hx2 hb2) | ((with_reducible refine a3_ (N := 9) rfl ?_); refine bx 9 #[.int .i64 q, .int .i64 m, .int .i64 g, .int .i64 c, .int .i64 mn, .int .i64 mx] 29 ?_; intro gw hgw w3 hx3 hb3; have HX1c := m_ (a1_ HX1b.out hb3); have HX2b := m_ (a1_ HX2.out hb3); have HX3 := m_ hx3; have HB3 := m_ (b0_ HB2.out hb3); have nvw : gv ≠ gw := (by omega); have nlw : gl ≠ gw := (by omega); obtain ⟨f0, f1, f2, f3, f4, f5⟩ := cz6_ ⟨hx3⟩; clear hx3 hb3 hgv hgl hgw hgv2 hgl2 hs2 HX1 HX1b HX2 HB1 HB2) | (go_at_call 68; refine (HRT.out _).mono ?_; rintro e w4 ⟨rfl, hb4⟩; have HX4v := m_ (a1_ HX1c.out hb4); have HX4l := m_ (a1_ HX2b.out hb4); have HX4w := m_ (a1_ HX3.out hb4); have HB4 := m_ (b0_ HB3.out hb4); clear hb4 f0 f1 f2 f3 f4 f5 HX1c HX2b HX3 HB3))
    all_goals go_ret2
    all_goals exact ⟨rfl, HB3.out⟩
   ·have d1 : decide (1073741824 < now) = false := by simpa using h1
    have hr : rightB m g c mn mx = false := by
     rcases hbad with h | h | h
     ·exact absurd h h0
     ·exact absurd h h1
     ·exact h
    rw [hr] at HRT
    clear h0 h1 hbad hRT0 hr
    go_enter Try.func27, Try.ntmps27
    go_wp2_with (first | ((with_reducible refine a3_ (N := 6) rfl ?_); refine bx 6 #[.slice A1 l1.length c1] 22 ?_; intro gv hgv w1 hx1 hb1; have wgv : w.heap.size ≤ gv := (by omega); have hgv2 := c6_ hx1; have HX1 := m_ hx1; have HB1 := m_ hb1; clear hx1 hb1) | ((with_reducible refine a3_ (N := 7) rfl ?_); refine bx 7 #[.int .i64 lg, .int .i64 lc] 24 ?_; intro gl hgl w2 hx2 hb2; have wgl : w.heap.size ≤ gl := (by have := HB1.out.size; omega); have hgl2 := c6_ hx2; have HX1b := m_ (a1_ HX1.out hb2); have HX2 := m_ hx2; have HB2 := m_ (b0_ HB1.out hb2); have hs2 := hb2.size; have nvl : gv ≠ gl := (by omega); clear hx2 hb2) | ((with_reducible refine a3_ (N := 9) rfl ?_); refine bx 9 #[.int .i64 q, .int .i64 m, .int .i64 g, .int .i64 c, .int .i64 mn, .int .i64 mx] 29 ?_; intro gw hgw w3 hx3 hb3; have HX1c := m_ (a1_ HX1b.out hb3); have HX2b := m_ (a1_ HX2.out hb3); have HX3 := m_ hx3; have HB3 := m_ (b0_ HB2.out hb3); have nvw : gv ≠ gw := (by omega); have nlw : gl ≠ gw := (by omega); obtain ⟨f0, f1, f2, f3, f4, f5⟩ := cz6_ ⟨hx3⟩; clear hx3 hb3 hgv hgl hgw hgv2 hgl2 hs2 HX1 HX1b HX2 HB1 HB2) | (go_at_call 68; refine (HRT.out _).mono ?_; rintro e w4 ⟨rfl, hb4⟩; have HX4v := m_ (a1_ HX1c.out hb4); have HX4l := m_ (a1_ HX2b.out hb4); have HX4w := m_ (a1_ HX3.out hb4); have HB4 := m_ (b0_ HB3.out hb4); clear hb4 f0 f1 f2 f3 f4 f5 HX1c HX2b HX3 HB3))
    all_goals go_ret2
    all_goals exact ⟨rfl, HB4.out⟩
 ·have hn0 : ¬ now < 0 := fun h => hbad (.inl h)
  have hn1 : ¬ now > 1073741824 := fun h => hbad (.inr (.inl h))
  have hrt : rightB m g c mn mx = true := by
   cases h : rightB m g c mn mx with
   | true => rfl
   | false => exact absurd (.inr (.inr h)) hbad
  have HE : earliestB now l1 lg lc l3 q m g c mn mx = (if (turned51 moreE moreF l1 (l3.flatMap fun h => h.f4)).2 ≠ 0 then (0, (turned51 moreE moreF l1 (l3.flatMap fun h => h.f4)).2)
   else (goE q m g c mn mx (isort skey41 l3) now l1 (lg, lc), 0)) := by unfold earliestB; rw [if_neg hbad]
  rw [HE]
  rw [hrt] at HRT
  have hm0 := more_eq HVO.out (fun s hs => (HS.out s hs).2)
  have ha0 := all_eq (l3.length + 1) l3 (Nat.le_refl _) (by have := HN.out; omega) (by have := HLEN.out; omega)
  generalize hall : l3.flatMap (fun h => h.f4) = al at *
  generalize hmr : turned51 moreE moreF l1 al = mr at *
  obtain ⟨mv, me⟩ := mr
  have HM := m_ hm0
  have HA := m_ ha0
  have HALL := m_ hall
  clear hm0 ha0 hmr hall
  obtain ⟨ps, hmap, hpC, hsl⟩ := holds_of HR3.out
  have hpl : ps.length = l3.length := by rw [← hmap, List.length_map]
  have hsm : (isort hkey ps).map (fun x => x.1) = isort skey41 l3 := by
   have := isort_map skey41 (fun x : HV => x.1) ps []
   rw [hmap] at this
   exact this
  have HMAP := m_ hmap
  have HPC := m_ hpC
  have HSL := m_ hsl
  have HPL := m_ hpl
  have hwl : wrap64 ((ps.length : Int) + 1) = (ps.length : Int) + 1 := w_id (by have := HN.out; omega)
  rw [← hsm]
  have hperm := isort_perm hkey ps
  obtain ⟨SP, hSP⟩ : ∃ SP, isort hkey ps = SP := ⟨_, rfl⟩
  rw [hSP] at hperm ⊢
  have HSPE := m_ hSP
  have HPERM := m_ hperm
  clear hmap hpC hsl hpl hsm hSP hperm
  have d0 : decide (now < 0) = false := by simpa using hn0
  have d1 : decide (1073741824 < now) = false := by simpa using hn1
  clear HE hbad hrt hn0 hn1
  go_enter Try.func27, Try.ntmps27
  go_wp2_with (first | ((with_reducible refine a3_ (N := 6) rfl ?_); refine bx 6 #[.slice A1 l1.length c1] 22 ?_; intro gv hgv w1 hx1 hb1; have wgv : w.heap.size ≤ gv := (by omega); have hgv2 := c6_ hx1; have HX1 := m_ hx1; have HB1 := m_ hb1; clear hx1 hb1) | ((with_reducible refine a3_ (N := 7) rfl ?_); refine bx 7 #[.int .i64 lg, .int .i64 lc] 24 ?_; intro gl hgl w2 hx2 hb2; have wgl : w.heap.size ≤ gl := (by have := HB1.out.size; omega); have hgl2 := c6_ hx2; have HX1b := m_ (a1_ HX1.out hb2); have HX2 := m_ hx2; have HB2 := m_ (b0_ HB1.out hb2); have hs2 := hb2.size; have nvl : gv ≠ gl := (by omega); clear hx2 hb2) | ((with_reducible refine a3_ (N := 9) rfl ?_); refine bx 9 #[.int .i64 q, .int .i64 m, .int .i64 g, .int .i64 c, .int .i64 mn, .int .i64 mx] 29 ?_; intro gw hgw w3 hx3 hb3; have HX1c := m_ (a1_ HX1b.out hb3); have HX2b := m_ (a1_ HX2.out hb3); have HX3 := m_ hx3; have HB3 := m_ (b0_ HB2.out hb3); have nvw : gv ≠ gw := (by omega); have nlw : gl ≠ gw := (by omega); obtain ⟨f0, f1, f2, f3, f4, f5⟩ := cz6_ ⟨hx3⟩; clear hx3 hb3 hgv hgl hgw hgv2 hgl2 hs2 HX1 HX1b HX2 HB1 HB2) | (go_at_call 68; refine (HRT.out _).mono ?_; rintro e w4 ⟨rfl, hb4⟩; have HX4v := m_ (a1_ HX1c.out hb4); have HX4l := m_ (a1_ HX2b.out hb4); have HX4w := m_ (a1_ HX3.out hb4); have HB4 := m_ (b0_ HB3.out hb4); clear hb4 f0 f1 f2 f3 f4 f5 HX1c HX2b HX3 HB3))
  have k4 : w4.cell? ⟨gv, 0, none⟩ = some (.slice A1 l1.length c1) := (a0_ HX4v.out 0).trans rfl
  go_region_held3 (fun w' => w'.cell? ⟨gv, 0, none⟩ = some (.slice A1 l1.length c1)) (first | exact k4 | assumption) (first | (go_at_call 69; refine (promise_all.calls (l3.length + 1) A3 c3 l3 _ _ (Kd.C_below HR3.out (b8_ HB4.out)) HC3.out HA.out).mono ?_; rintro e w5 ⟨v5, rfl, ho5, hb5⟩; obtain ⟨A5, c5, rfl, hc5, hr5⟩ := Kd.R_reads ho5; have k5 : w5.cell? ⟨gv, 0, none⟩ = some (.slice A1 l1.length c1) := e1_ hb5 k4; have HB5 := m_ (b0_ (b8_ (Below.refl w4.heap.size w4)) hb5); have HR5 := m_ (And.intro hc5 hr5); clear ho5 hb5 hc5 hr5) | (go_at_call 52; refine (pack_More.calls A1 c1 l1 A5 c5 al mv me _ (Kd.C_below HR1.out (b0_ HB4.out HB5.out)) HC1.out HR5.out.2 HR5.out.1 HM.out).mono ?_; rintro e w6 ⟨v6, rfl, ho6, hb6⟩; have k6 : w6.cell? ⟨gv, 0, none⟩ = some (.slice A1 l1.length c1) := e1_ hb6 k5; have HB6 := m_ (b0_ HB5.out hb6); clear ho6 hb6))
  clear k4 k5 k6
  by_cases hme : me = 0
  ·subst hme
   go_wp2_with (first | (go_at_call 70; refine (clone70_n A3 c3 l3.length ps _ HPL.out (Kd.C_below HPC.out (b0_ HB4.out HB6.out)) (by have := HPL.out; have := HN.out; omega)).mono ?_; rintro e w7 ⟨v7, rfl, ho7, hb7⟩; obtain ⟨A7, c7, rfl, hc7, _⟩ := Kd.R_reads ho7; have HO7 := m_ ho7; have HB7 := m_ hb7; clear ho7 hb7 hc7) | (go_at_call 71; refine (sort_n2 A7 ps.length c7 w6.heap.size ps _ HO7.out (by have := HPL.out; have := HN.out; omega)).mono ?_; rintro e w8 ⟨rfl, ho8, hg8⟩; rw [HSPE.out] at ho8; have HO8 := m_ ho8; have HG8 := m_ hg8; clear ho8 hg8))
   have hB6 := b0_ HB4.out HB6.out
   have hB7 := b0_ hB6 HB7.out
   have hbb := blkOf_base HO7.out HB7.out.size
   have hs46 := HB6.out.size
   have gv4 := c6_ HX4v.out
   have gl4 := c6_ HX4l.out
   have gw4 := c6_ HX4w.out
   have hB8 : Below w.heap.size w w8 := hB7.grown HG8.out hB7.size (fun k e => by cases e; have := HB4.out.size; omega)
   have hmv : ∀ k, k < w4.heap.size → w8.heap[k]? = w4.heap[k]? := fun k hk => by
    rw [HG8.out.block k (by have := HB7.out.size; omega) (fun e => by cases e; omega), HB7.out.block k (by omega), HB6.out.block k hk]
   have HXv := m_ ((hmv gv gv4).trans HX4v.out)
   have HXl := m_ ((hmv gl gl4).trans HX4l.out)
   have HXw := m_ ((hmv gw gw4).trans HX4w.out)
   have HFv := m_ (Kd.F_mono (ok' := fun k => k ≠ gv ∧ k ≠ gl) (Foot.step (Kd.C_F k51_heap HR1.out) (fun k hk _ => hB8.block k hk)) (fun k hk => ⟨by omega, by omega⟩))
   have HSO := m_ (fun (x : HV) (hx : x ∈ SP) => (show SlotsOk w8 (fun k => k ≠ gv ∧ k ≠ gl) x from
    let h0 := HSL.out x (HPERM.out.mem_iff.1 hx)
    ⟨h0.1, h0.2.1, Kd.F_mono (Foot.step h0.2.2 (fun k hk _ => hB8.block k hk)) (fun k hk => ⟨by omega, by omega⟩)⟩))
   have HMK := m_ (fun (x : HV) (hx : x ∈ SP) (s : S52) (hs : s ∈ x.1.f4) => HS.out s (by
    rw [← HALL.out]
    refine List.mem_flatMap.2 ⟨x.1, ?_, hs⟩
    rw [← HMAP.out]
    exact List.mem_map.2 ⟨x, HPERM.out.mem_iff.1 hx, rfl⟩))
   have HLS := m_ (HPERM.out.length_eq)
   have HPN := m_ (show ps.length ≤ 1000 by have := HPL.out; have := HN.out; omega)
   have HB8 := m_ hB8
   have HBS := m_ (show gv < w6.heap.size ∧ gl < w6.heap.size ∧ gw < w6.heap.size by omega)
   clear hB6 hB7 hbb hs46 gv4 gl4 gw4 hB8 hmv HO7 HB7 HG8 HX4v HX4l HX4w
   rw [hwl]
   go_loopw [48, 16] (fun v48 v16 wr => ∃ (k : Nat) (t : Int) (view : List S51) (left : Int × Int) (Av : Option Addr) (cv : Nat), k ≤ SP.length ∧ v48 = .int .i64 (k : Int) ∧ v16 = .int .i64 t ∧
    A_ (goE q m g c mn mx (SP.map (fun x => x.1)) now l1 (lg, lc) = goE q m g c mn mx ((SP.drop k).map (fun x => x.1)) t view left) ∧
    A_ (wr.heap[gv]? = some (.cells #[.slice Av view.length cv] 22 (0, 0))) ∧ A_ (wr.heap[gl]? = some (.cells #[.int .i64 left.1, .int .i64 left.2] 24 (0, 0))) ∧ A_ (wr.heap[gw]? = some (.cells #[.int .i64 q, .int .i64 m, .int .i64 g, .int .i64 c, .int .i64 mn, .int .i64 mx] 29 (0, 0))) ∧
    A_ (Kd.F k51 wr (fun k => k ≠ gv ∧ k ≠ gl) Av view.length view) ∧ A_ (view.length ≤ cv) ∧ A_ (viewOk view) ∧ A_ (∀ x ∈ SP, SlotsOk wr (fun k => k ≠ gv ∧ k ≠ gl) x) ∧
    A_ (Kd.R kh 41 wr w6.heap.size (fun k => w6.heap.size ≤ k) (.slice A7 ps.length c7) SP) ∧ A_ (Below w.heap.size w wr)) (fun v48 _ _ => SP.length + 1 - (intOf v48).toNat)
   case atStart => exact ⟨0, now, l1, (lg, lc), A1, c1, Nat.zero_le _, rfl, rfl, ⟨rfl⟩, HXv, HXl, HXw, HFv, HC1, HVO, HSO, ⟨Kd.R_mono HO8.out (fun _ hk => hk.1)⟩, HB8⟩
   case round =>
    clear HXv HXl HXw HFv HSO HO8 HB8
    obtain ⟨k, t, view, ⟨lg', lc'⟩, Av, cv, hk, rfl, rfl, HG, HXV, HXL, HXW, HFV, HCV, HVW, HSP, HRW, HBW⟩ := hrel
    have hspl : SP.length = ps.length := HLS.out
    have hpn := HPN.out
    have HFit := fits_eq (view.length + 1) view lg' lc' q m g c mn mx (Nat.le_refl _) (by have := HVW.out.1; omega) HVW.out.2.1
    have HCF := m_ (promise_Fits.calls (view.length + 1) Av cv view lg' lc' q m g c mn mx _ wr (Kd.F_now HFV.out) HCV.out HFit)
    have fv : wr.cell? ⟨gv, 0, none⟩ = some (.slice Av view.length cv) := (a0_ HXV.out 0).trans rfl
    obtain ⟨fl0, fl1⟩ := cz2_ HXL
    obtain ⟨fw0, fw1, fw2, fw3, fw4, fw5⟩ := cz6_ HXW
    clear HFit
    by_cases hkn : k = SP.length
    ·have h1 : (k : Int) < (ps.length : Int) + 1 := by omega
     have h2 : ((k : Int) == (ps.length : Int)) = true := by simp; omega
     rw [List.drop_eq_nil_of_le (by omega)] at HG
     simp only [List.map_nil, goE] at HG
     cases hf : fitsB view lg' lc' m g c mn mx with
     | true =>
      rw [hf] at HCF
      rw [hf, if_pos rfl] at HG
      clear hf hkn
      go_wp2_with (go_at_call 29; refine HCF.out.mono ?_; rintro e w9 ⟨rfl, hb9⟩; have HB9 := m_ (b0_ HBW.out hb9); clear hb9)
      all_goals go_ret2
      all_goals exact ⟨by rw [HG.out]; rfl, HB9.out⟩
     | false =>
      rw [hf] at HCF
      rw [hf, if_neg (by decide)] at HG
      clear hf hkn
      go_wp2_with (go_at_call 29; refine HCF.out.mono ?_; rintro e w9 ⟨rfl, hb9⟩; have HB9 := m_ (b0_ HBW.out hb9); clear hb9)
      all_goals go_ret2
      all_goals exact ⟨by rw [HG.out]; rfl, HB9.out⟩
    ·have hkl : k < SP.length := by omega
     have h1 : (k : Int) < (ps.length : Int) + 1 := by omega
     have h2 : ((k : Int) == (ps.length : Int)) = false := by simp; omega
     have h3 : (k : Int) < (ps.length : Int) := by omega
     have h4 : (0 : Int) ≤ (k : Int) := by omega
     obtain ⟨g7, cap7, cur7, hv7, hok7, _, hh7⟩ := ownh HRW.out (by omega)
     injection hv7 with ha7 hn7 hc7
     subst ha7
     clear hn7 hc7
     have hget := List.getElem?_eq_getElem hkl
     obtain ⟨y0, y1, y2, y3, y4⟩ := at_kh HRW.out k SP[k] hget
     have hSx := HSP.out SP[k] (List.getElem_mem hkl)
     have hMx := HMK.out SP[k] (List.getElem_mem hkl)
     rw [List.drop_eq_getElem_cons hkl, List.map_cons, goE] at HG
     generalize SP[k] = x at *
     have HSX := m_ hSx
     have HMX := m_ hMx
     clear hget hSx hMx hkn
     have hmv1 := more_eq HVW.out (fun s hs => (HMX.out s hs).2)
     have hvok := turned51_ok HVW.out (fun s hs => (HMX.out s hs).1)
     generalize turned51 moreE moreF view x.1.f4 = mr2 at *
     obtain ⟨v2, e2⟩ := mr2
     have HMV := m_ hmv1
     have HVOK := m_ hvok
     clear hmv1 hvok
     have hwk : ∀ k, (k = gv ∨ k = gl) → w.heap.size ≤ k := fun k hk => by rcases hk with rfl | rfl <;> omega
     by_cases hgt : x.1.f2 > t
     ·have b3 : decide (t < x.1.f2) = true := by simpa using hgt
      rw [if_pos hgt] at HG
      clear hgt
      cases hf : fitsB view lg' lc' m g c mn mx with
      | true =>
       rw [hf] at HCF
       rw [hf, if_pos rfl] at HG
       clear hf
       go_wp2_with (go_at_call 29; refine HCF.out.mono ?_; rintro e w9 ⟨rfl, hb9⟩; have HB9 := m_ (b0_ HBW.out hb9); clear hb9)
       all_goals go_ret2
       all_goals exact ⟨by rw [HG.out]; rfl, HB9.out⟩
      | false =>
       rw [hf] at HCF
       rw [hf, if_neg (by decide)] at HG
       clear hf
       by_cases hge : x.1.f2 ≥ 1073741825
       ·have b4 : decide ((1073741825 : Int) ≤ x.1.f2) = true := by simpa using hge
        rw [if_pos hge] at HG
        clear hge
        go_wp2_with (go_at_call 29; refine HCF.out.mono ?_; rintro e w9 ⟨rfl, hb9⟩; have z2 := e1_ hb9 y2; have HB9 := m_ (b0_ HBW.out hb9); clear hb9)
        all_goals go_ret2
        all_goals exact ⟨by rw [HG.out]; rfl, HB9.out⟩
       ·have b4 : decide ((1073741825 : Int) ≤ x.1.f2) = false := by simpa using hge
        rw [if_neg hge] at HG
        clear hge
        go_wp2_with (first | (go_at_call 29; refine HCF.out.mono ?_; rintro e w8b ⟨rfl, hb8⟩; have z0 := e1_ hb8 y0; have z1 := e1_ hb8 y1; have z2 := e1_ hb8 y2; have z3 := e1_ hb8 y3; have z4 := e1_ hb8 y4; have HK8 := m_ (KP.below (KP.refl wr (fun k => k = gv ∨ k = gl)) hb8); have HXV8 := m_ (a1_ HXV.out hb8); have HXW8 := m_ (a1_ HXW.out hb8); have HXL8 := m_ (a1_ HXL.out hb8); have HFV8 := m_ (Kd.F_below HFV.out hb8); have HSX8 := m_ (show SlotsOk w8b (fun k => k ≠ gv ∧ k ≠ gl) x from ⟨HSX.out.1, HSX.out.2.1, Kd.F_below HSX.out.2.2 hb8⟩); clear hb8) | (go_at_call 74; refine (end_any gv gw gl x view Av cv q m g c mn mx lg' lc' v2 e2 w8b HXV8.out HXW8.out HXL8.out nvw nvl (fun e => nlw e.symm) HFV8.out HCV.out HSX8.out (fun s hs => (HMX.out s hs).1) HMV.out).mono ?_; rintro e w9 ⟨rfl, hk9, ⟨A9, c9, hv9, hc9, hf9⟩, hl9⟩; have HK9b := m_ hk9; have HV9 := m_ hv9; have HC9 := m_ hc9; have HF9 := m_ hf9; have HL9 := m_ hl9; clear hk9 hv9 hc9 hf9 hl9))
        have HK9 := m_ (HK8.out.trans HK9b.out)
        have HB9 := m_ (HK9.out.under HBW.out hwk)
        have HW9 := m_ (blk_kept HXW.out HK9.out.kept (fun h => by rcases h with h | h; exact nvw h.symm; exact nlw h.symm))
        have HS9 := m_ (fun (z : HV) (hz : z ∈ SP) => (show SlotsOk w9 (fun k => k ≠ gv ∧ k ≠ gl) z from ⟨(HSP.out z hz).1, (HSP.out z hz).2.1, Kd.F_kept (HSP.out z hz).2.2 HK9.out.kept (fun k hk hs => by rcases hs with h | h; exact hk.1 h; exact hk.2 h)⟩))
        have HR9 := m_ (Kd.R_kept HRW.out HK9.out.kept (fun k hk hs => by have := HBS.out; rcases hs with h | h <;> omega))
        go_roundw
        case rel => exact ⟨k + 1, x.1.f2, v2, _, A9, c9, by omega, by go_num, rfl, HG, HV9, HL9, HW9, HF9, HC9, HVOK, HS9, HR9, HB9⟩
        case measure => simp [intOf]; omega
     ·have b3 : decide (t < x.1.f2) = false := by simpa using hgt
      rw [if_neg hgt] at HG
      clear hgt
      go_wp2_with (first | (go_at_call 74; refine (end_any gv gw gl x view Av cv q m g c mn mx lg' lc' v2 e2 wr HXV.out HXW.out HXL.out nvw nvl (fun e => nlw e.symm) HFV.out HCV.out HSX.out (fun s hs => (HMX.out s hs).1) HMV.out).mono ?_; rintro e w9 ⟨rfl, hk9, ⟨A9, c9, hv9, hc9, hf9⟩, hl9⟩; have HK9 := m_ hk9; have HV9 := m_ hv9; have HC9 := m_ hc9; have HF9 := m_ hf9; have HL9 := m_ hl9; clear hk9 hv9 hc9 hf9 hl9))
      have HB9 := m_ (HK9.out.under HBW.out hwk)
      have HW9 := m_ (blk_kept HXW.out HK9.out.kept (fun h => by rcases h with h | h; exact nvw h.symm; exact nlw h.symm))
      have HS9 := m_ (fun (z : HV) (hz : z ∈ SP) => (show SlotsOk w9 (fun k => k ≠ gv ∧ k ≠ gl) z from ⟨(HSP.out z hz).1, (HSP.out z hz).2.1, Kd.F_kept (HSP.out z hz).2.2 HK9.out.kept (fun k hk hs => by rcases hs with h | h; exact hk.1 h; exact hk.2 h)⟩))
      have HR9 := m_ (Kd.R_kept HRW.out HK9.out.kept (fun k hk hs => by have := HBS.out; rcases hs with h | h <;> omega))
      go_roundw
      case rel => exact ⟨k + 1, t, v2, _, A9, c9, by omega, by go_num, rfl, HG, HV9, HL9, HW9, HF9, HC9, HVOK, HS9, HR9, HB9⟩
      case measure => simp [intOf]; omega
  ·have bme : (me == 0) = false := by simpa using hme
   go_wp2
   go_ret2
   exact ⟨by simp [hme], b0_ HB4.out HB6.out⟩
theorem okE_out {view : List S51} {ends : List S41} (h : okE view ends = true) : ends.length ≤ 1000 ∧ viewOk view ∧ (∀ s ∈ ends.flatMap (fun h => h.f4), maskOk s = true ∧ (w64B s.f0.f0 && w64B s.f0.f1) = true) ∧ (ends.flatMap fun h => h.f4).length < 4000000000 := by
 unfold okE spotsOk at h
 rw [Bool.and_eq_true, Bool.and_eq_true, Bool.and_eq_true, Bool.and_eq_true, Bool.and_eq_true, Bool.and_eq_true] at h
 obtain ⟨⟨⟨⟨h1, ⟨h2, h3⟩, h4⟩, h5⟩, h6⟩, h7⟩ := h
 exact ⟨of_decide_eq_true h1, ⟨of_decide_eq_true h2, fun f hf => List.all_eq_true.1 h5 f hf, fun f hf => List.all_eq_true.1 h3 f hf⟩, fun s hs => ⟨List.all_eq_true.1 h6 s hs, List.all_eq_true.1 h4 s hs⟩, of_decide_eq_true h7⟩
theorem promise_Earliest.calls (a0 : Int) (A1 : Option Addr) (c1 : Nat) (l1 : List (S51)) (a2_0 a2_1 : Int) (A3 : Option Addr) (c3 : Nat) (l3 : List (S41)) (a4_0 a4_1 a4_2 a4_3 a4_4 a4_5 r1 r2 : Int) (w : World) (hr1 : Kd.C k51 w A1 l1.length l1) (hc1 : l1.length ≤ c1) (hr3 : Kd.C k41 w A3 l3.length l3) (hc3 : l3.length ≤ c3) (h : promise_Earliest.f a0 l1 a2_0 a2_1 l3 a4_0 a4_1 a4_2 a4_3 a4_4 a4_5 = some (r1, r2)) :
  Calls Try.prog 27 #[.int .i64 a0, .slice A1 l1.length c1, .agg #[.int .i64 a2_0, .int .i64 a2_1], .slice A3 l3.length c3, .agg #[.int .i64 a4_0, .int .i64 a4_1, .int .i64 a4_2, .int .i64 a4_3, .int .i64 a4_4, .int .i64 a4_5]] w fun e w' => e = .returned (.tuple #[.int .i64 r1, .int .i64 r2]) ∧ Below w.heap.size w w' := by
 unfold promise_Earliest.f at h
 by_cases ho : okE l1 l3 = true
 ·rw [if_pos ho] at h
  obtain ⟨h1, h2, h3, h4⟩ := okE_out ho
  have e := Option.some.inj h
  have e1 : r1 = (earliestB a0 l1 a2_0 a2_1 l3 a4_0 a4_1 a4_2 a4_3 a4_4 a4_5).1 := by rw [e]
  have e2 : r2 = (earliestB a0 l1 a2_0 a2_1 l3 a4_0 a4_1 a4_2 a4_3 a4_4 a4_5).2 := by rw [e]
  rw [e1, e2]
  exact early_any a0 A1 c1 l1 a2_0 a2_1 A3 c3 l3 a4_0 a4_1 a4_2 a4_3 a4_4 a4_5 w hr1 hc1 hr3 hc3 h1 h2 h3 h4
 ·rw [if_neg ho] at h; cases h
end Go.Proofs.Ytckhjehibjdjdaa.P
namespace Go.Proofs.Ytckhjehibjdjdaa.P
open Go.RowKit Go.Shelf Go.Proofs.YtckhjehibjdjdaaW.PrintWords Go.Proofs.YtckhjehibjdjdaaW.PrintLast Go.Proofs.YtckhjehibjdjdaaW.PrintMore
open Go.Proofs.Ytckhjehibjdjdaa.Bits
attribute [local go_sem] Oper.semAt_some
def subU (a : Int × Int) (s : S52) : Int × Int := (wrap64 (a.1 - popI s.f1), wrap64 (a.2 - s.f2))
def subL (a : Int × Int) (l : List S52) : Int × Int := l.foldl subU a
theorem subL_step (a : Int × Int) (l : List S52) (j : Nat) (h : j < l.length) : subL a (l.take (j + 1)) = subU (subL a (l.take j)) (a5_ l (j : Int)) := by
 have e : a5_ l (j : Int) = l[j] := by simp [a5_, List.getD_eq_getElem?_getD, List.getElem?_eq_getElem h]
 unfold subL
 rw [List.take_succ_eq_append_getElem h, List.foldl_append, e]; rfl
set_option maxHeartbeats 8000000 in
set_option maxRecDepth 100000 in
theorem take1 (gl : Nat) (t0 t1 sm sc lg lc : Int) (w : World) (hl : w.heap[gl]? = some (.cells #[.int .i64 lg, .int .i64 lc] 24 (0, 0))) (hm : 0 ≤ sm ∧ sm < 18446744073709551616) :
  Calls Try.prog 107 #[.agg #[.int .i64 t0, .int .i64 t1, .int .u64 sm, .int .i64 sc], .pointer (some ⟨gl, 0, none⟩)] w fun e w' => e = .returned (.tuple #[]) ∧ KP w w' (fun k => k = gl) ∧
   w'.heap[gl]? = some (.cells #[.int .i64 (wrap64 (lg - popI sm)), .int .i64 (wrap64 (lc - sc))] 24 (0, 0)) := by
 have hu52 := Try.underlying52
 have hu24 := Try.underlying24
 have gll := c6_ hl
 have HL0 := m_ hl
 have HMK := m_ hm
 clear hl hm
 go_enter Try.func107, Try.ntmps107
 go_wp2_with (first | ((with_reducible refine a3_ (N := 2) rfl ?_); refine bx 2 #[.int .i64 t0, .int .i64 t1, .int .u64 sm, .int .i64 sc] 52 ?_; intro g4 hg4 w4 hx4 hb4; have HX4 := m_ hx4; have HB4 := m_ hb4; have n3 : gl ≠ g4 := (by omega); have HL4 := m_ (a1_ HL0.out hb4); have l0 : w4.cell? ⟨gl, 0, none⟩ = some (.int .i64 lg) := (a0_ (a1_ HL0.out hb4) 0).trans rfl; have b2 : w4.cell? ⟨g4, 1 + 1, none⟩ = some (.int .u64 sm) := (a0_ hx4 2).trans rfl; clear hg4 hx4 hb4))
 go_still_tail 7, (by kernel_rfl)
 still_call ((count_any _ HMK.out.1 HMK.out.2 _))
 repeat still_step
 refine wpStill_nil ?_
 change wpList _ _ _ _ _ w4.drew
 clear l0 b2
 have l0 : w4.drew.cell? ⟨gl, 0, none⟩ = some (.int .i64 lg) := (a0_ HL4.out 0).trans rfl
 have z0 : w4.drew.frozen? ⟨gl, 0, none⟩ = false := a2_ HL4.out 0
 have z1 : w4.frozen? ⟨gl, 1, none⟩ = false := a2_ HL4.out 1
 have l1 : w4.cell? ⟨gl, 1, none⟩ = some (.int .i64 lc) := (a0_ HL4.out 1).trans rfl
 have b3 : w4.cell? ⟨g4, 3, none⟩ = some (.int .i64 sc) := (a0_ HX4.out 3).trans rfl
 go_wp2
 go_end0
 exact ⟨rfl, (((KP.below (KP.refl w (fun k => k = gl)) HB4.out).set (g := gl) (j := 0) (Or.inl rfl) _).set (g := gl) (j := 1) (Or.inl rfl) _).drew, blk_set (blk_set HL4.out 0 _) 1 _⟩
def maskAll (l : List S52) : Bool := l.all maskOk && decide (l.length < 1000000000)
def fill_take.f (a0_0 a0_1 : Int) (l1 : List (S52)) : Option (Int × Int) := if maskAll l1 = true then some (subL (a0_0, a0_1) l1) else none
set_option maxHeartbeats 8000000 in
set_option maxRecDepth 100000 in
theorem take_any (a0_0 a0_1 : Int) (A1 : Option Addr) (c1 : Nat) (l1 : List (S52)) (w : World) (hr1 : Kd.C k52 w A1 l1.length l1) (hm : ∀ s ∈ l1, maskOk s = true) (hl : l1.length < 1000000000) :
  Calls Try.prog 81 #[.agg #[.int .i64 a0_0, .int .i64 a0_1], .slice A1 l1.length c1] w fun e w' => e = .returned (.agg #[.int .i64 (subL (a0_0, a0_1) l1).1, .int .i64 (subL (a0_0, a0_1) l1).2]) ∧ Below w.heap.size w w' := by
 have hu52 := Try.underlying52
 have hu24 := Try.underlying24
 have HR := m_ hr1
 have HM := m_ hm
 have HL := m_ hl
 clear hr1 hm hl
 go_enter Try.func81, Try.ntmps81
 go_wp2_with (first | ((with_reducible refine a3_ (N := 2) rfl ?_); refine bx 2 #[.int .i64 a0_0, .int .i64 a0_1] 24 ?_; intro gb hgb wb hxb hbb; have HXB := m_ hxb; have HBB := m_ hbb; have hgb2 : w.heap.size ≤ gb := (by omega); clear hgb hxb hbb))
 have hB1 := b5_ HBB.out (.cells #[.int .i64 0, .int .i64 0] 24)
 have hG1 := b9_ HXB.out (.cells #[.int .i64 0, .int .i64 0] 24)
 have hR1 := heap_alloc_new wb (.cells #[.int .i64 0, .int .i64 0] 24)
 have hne : wb.heap.size ≠ gb := by have := c6_ HXB.out; omega
 have hrs : w.heap.size ≤ wb.heap.size := HBB.out.size
 have HB1 := m_ hB1
 have HG1 := m_ hG1
 have HR1 := m_ hR1
 obtain ⟨gr, hgr⟩ : ∃ gr, gr = wb.heap.size := ⟨_, rfl⟩
 rw [← hgr] at HR1 hne hrs ⊢
 clear hB1 hG1 hR1 hgr HXB HBB
 go_loopw [11] (fun v11 wr => ∃ j : Nat, j ≤ l1.length ∧ v11 = .int .i64 (j : Int) ∧ A_ (Below w.heap.size w wr) ∧ A_ (wr.heap[gb]? = some (.cells #[.int .i64 (subL (a0_0, a0_1) (l1.take j)).1, .int .i64 (subL (a0_0, a0_1) (l1.take j)).2] 24 (0, 0))) ∧ A_ (wr.heap[gr]? = some (.cells #[.int .i64 0, .int .i64 0] 24 (0, 0)))) (fun v11 _ => l1.length - (intOf v11).toNat)
 case atStart => exact ⟨0, Nat.zero_le _, rfl, HB1, HG1, HR1⟩
 case round =>
  clear HB1 HG1 HR1
  obtain ⟨j, hj, rfl, HB, HG, HE⟩ := hrel
  have hC := Kd.C_below HR.out HB.out
  have hlm := HL.out
  by_cases hlt : j < l1.length
  ·have h0 : 0 ≤ (j : Int) := by omega
   have h1' : (j : Int) < l1.length := by omega
   obtain ⟨ad1, ee, y0, y1, y2, y3⟩ := at_T52 hC (j : Int) h0 h1'
   cases ee
   simp only [Int.toNat_natCast] at y0 y1 y2 y3
   have hstep := subL_step (a0_0, a0_1) l1 j hlt
   have hmk := HM.out (a5_ l1 (j : Int)) (by simp [a5_, List.getD_eq_getElem?_getD, List.getElem?_eq_getElem hlt])
   generalize a5_ l1 (j : Int) = s at *
   generalize subL (a0_0, a0_1) (l1.take j) = acc at *
   obtain ⟨⟨t0, t1⟩, sm, sc⟩ := s
   simp only [maskOk, Bool.and_eq_true, decide_eq_true_eq] at hmk
   have HMK := m_ hmk
   have HST := m_ hstep
   clear hmk hstep hC
   simp only at y0 y1 y2 y3
   have HBA := m_ (b5_ HB.out (.cells #[.int .i64 t0, .int .i64 t1, .int .u64 sm, .int .i64 sc] 52))
   have HGA := m_ (b9_ HG.out (.cells #[.int .i64 t0, .int .i64 t1, .int .u64 sm, .int .i64 sc] 52))
   have HEA := m_ (b9_ HE.out (.cells #[.int .i64 t0, .int .i64 t1, .int .u64 sm, .int .i64 sc] 52))
   clear HB HG HE
   go_wp2_with (go_at_call 107; refine (take1 gb t0 t1 sm sc acc.1 acc.2 _ HGA.out HMK.out).mono ?_; rintro e w5 ⟨rfl, hk5, hg5⟩; have HB5 := m_ (hk5.under HBA.out (fun k hk => by omega)); have HG5 := m_ hg5; have HE5 := m_ ((hk5.kept.2 gr (c6_ HEA.out) hne).trans HEA.out); clear hk5 hg5)
   go_roundw
   case rel => exact ⟨j + 1, by omega, by go_num, HB5, ⟨by rw [HST.out]; exact HG5.out⟩, HE5⟩
   case measure => simp [intOf]; omega
  ·obtain rfl : j = l1.length := by omega
   have hg := HG.out
   rw [List.take_length] at hg
   obtain ⟨p0, p1⟩ := cz2_ ⟨hg⟩
   have e0 : wr.cell? ⟨gr, 0, none⟩ = some (.int .i64 0) := (a0_ HE.out 0).trans rfl
   have e1 : wr.cell? ⟨gr, 1, none⟩ = some (.int .i64 0) := (a0_ HE.out 1).trans rfl
   have z0 := a2_ HE.out 0
   have z1 := a2_ HE.out 1
   clear hg hC
   go_wp2
   refine bodyPost_ret (results_cell_row rfl _ _ gr 24 #[.int .i64 (subL (a0_0, a0_1) l1).1, .int .i64 (subL (a0_0, a0_1) l1).2] (0, 0) _ rfl (blk_set (blk_set HE.out 0 _) 1 _) Try.underlying24 rfl rfl) rfl ?_
   exact ⟨rfl, b6_ (b6_ HB.out hrs) hrs⟩
theorem fill_take.calls (a0_0 a0_1 : Int) (A1 : Option Addr) (c1 : Nat) (l1 : List (S52)) (r1 r2 : Int) (w : World) (hr1 : Kd.C k52 w A1 l1.length l1) (hc1 : l1.length ≤ c1) (h : fill_take.f a0_0 a0_1 l1 = some (r1, r2)) :
  Calls Try.prog 81 #[.agg #[.int .i64 a0_0, .int .i64 a0_1], .slice A1 l1.length c1] w fun e w' => e = .returned (.agg #[.int .i64 r1, .int .i64 r2]) ∧ Below w.heap.size w w' := by
 unfold fill_take.f at h
 by_cases ho : maskAll l1 = true
 ·rw [if_pos ho] at h
  unfold maskAll at ho
  rw [Bool.and_eq_true] at ho
  have e := Option.some.inj h
  have e1 : r1 = (subL (a0_0, a0_1) l1).1 := by rw [e]
  have e2 : r2 = (subL (a0_0, a0_1) l1).2 := by rw [e]
  rw [e1, e2]
  exact take_any a0_0 a0_1 A1 c1 l1 w hr1 (fun s hs => List.all_eq_true.1 ho.1 s hs) (of_decide_eq_true ho.2)
 ·rw [if_neg ho] at h; cases h
end Go.Proofs.Ytckhjehibjdjdaa.P
namespace Go.Proofs.Ytckhjehibjdjdaa.P
open Go.RowKit Go.Proofs.YtckhjehibjdjdaaW.PrintWords Go.Proofs.YtckhjehibjdjdaaW.PrintLast Go.Proofs.YtckhjehibjdjdaaW.PrintMore
def Sh {α : Type} (k : Kd α) (e : TypeId) (w W : World) (base : Nat) (v : Value) (l : List α) : Prop :=
 ∃ rows : List (List Value), rows.length = l.length ∧ (Kd.raw k.sz).R e W base (fun _ => True) v rows ∧ ∀ (j : Nat) (y : α) (c : List Value), l[j]? = some y → rows[j]? = some c → k.K w y c
section
variable {α : Type} {k : Kd α} {e base : Nat} {w W W' : World} {v : Value} {l : List α}
theorem Sh.nil : Sh k e w W base (.slice none 0 0) [] := ⟨[], rfl, Kd.R_nil _ _ _ _ _, fun j y c h => by simp at h⟩
theorem rowIn {A : Option Addr} {n : Nat} (h : k.C w A n l) (hb : Below w.heap.size w W) : ReadsRow (k.K w) k.sz W A n l := ReadsRow.imp_ h hb (fun _ _ h => h)
theorem rowBx {g t : Nat} {cs : Array Value} {x : α} [b : Bx W g cs t] (hk : k.K w x cs.toList) : ReadsRow (k.K w) k.sz W (some ⟨g, 0, none⟩) [x].length [x] :=
 ⟨rfl, by simp, fun _ => ⟨_, rfl, fun j p hj => by
  cases j with
  | succ j => simp at hj
  | zero =>
   obtain rfl : x = p := by simpa using hj
   refine ⟨cs.toList, k.K_len hk, hk, fun i u hu => ?_⟩
   rw [Nat.zero_mul, Nat.zero_add, e2_, cellBx]
   simpa using hu⟩⟩
theorem Sh.step (h : Sh k e w W base v l) (hb : Below W.heap.size W W') : Sh k e w W' base v l :=
 let ⟨r, a, b, c⟩ := h; ⟨r, a, Kd.R_below b hb, c⟩
theorem Sh.drew (h : Sh k e w W base v l) : Sh k e w W.drew base v l := let ⟨r, a, b, c⟩ := h; ⟨r, a, Kd.R_drew b, c⟩
theorem Sh.read (h : Sh k e w W base v l) (hw : Below w.heap.size w W) : ∃ A c, v = .slice A l.length c ∧ Rw k W A c l := by
 obtain ⟨rows, hl, hR, hk⟩ := h
 obtain ⟨A, c, rfl, hc, hC⟩ := Kd.R_reads hR
 refine ⟨A, c, by rw [hl], ⟨?_, by omega⟩⟩
 refine ⟨rfl, by have := hC.2.1; omega, fun hn => ?_⟩
 obtain ⟨ad, ea, hh⟩ := hC.2.2 (by omega)
 refine ⟨ad, ea, fun j p hj => ?_⟩
 have hjl := (List.getElem?_eq_some_iff.1 hj).1
 have hr : rows[j]? = some (rows[j]'(by omega)) := List.getElem?_eq_getElem (by omega)
 obtain ⟨c', h1, h2, h3⟩ := hh j _ hr
 obtain ⟨rfl, _, _⟩ := h2
 exact ⟨_, h1, k.K_below hw (hk j p _ hj hr), h3⟩
theorem Sh.elem {g n cap i : Nat} {y : α} (h : Sh k e w W base (.slice (some ⟨g, 0, none⟩) n cap) l) (hy : l[i]? = some y) :
  ∃ c, k.K w y c ∧ (∀ (j : Nat) (u : Value), c[j]? = some u → W.cell? ⟨g, i * k.sz + j, none⟩ = some u) ∧ (∀ j, W.frozen? ⟨g, i * k.sz + j, none⟩ = false) ∧
   ∀ (j : Nat) (u : Value) (y' : α), j < k.sz → k.K w y' (c.set j u) → Sh k e w (W.setCell ⟨g, i * k.sz + j, none⟩ u) base (.slice (some ⟨g, 0, none⟩) n cap) (l.set i y') := by
 obtain ⟨rows, hl, hR, hk⟩ := h
 have hil := (List.getElem?_eq_some_iff.1 hy).1
 have hn := (Kd.R_reads' hR).1
 obtain ⟨c, hcl, hM, hcc, hfr⟩ := Kd.R_elem hR [] (i : Int) (by omega) (by omega)
 have hr : rows[i]? = some (rows[i]'(by omega)) := List.getElem?_eq_getElem (by omega)
 have ec : c = rows[i]'(by omega) := by
  have := hM.1
  simpa [List.getD_eq_getElem?_getD, hr] using this
 have hK := hk i y _ hy hr
 rw [← ec] at hK
 refine ⟨c, hK, fun j u hu => by simpa [Kd.raw] using hcc j u hu, fun j => by simpa [Kd.raw] using hfr j, fun j u y' hj hK' => ?_⟩
 have hone := k.K_one hK'
 have hlen := k.K_len hK'
 have e1 : c.take j ++ [u] ++ c.drop (j + [u].length) = c.set j u := by
  rw [List.set_eq_take_append_cons_drop, if_pos (by rw [hcl]; exact hj)]
  simp
 have := (Kd.R_seg hR (i : Int) (by omega) (by omega) (seg := [u]) (j := j) (x' := c.set j u) (okp := fun _ => False) hcl hcc (by show j + 1 ≤ k.sz; omega) (by rw [e1]; exact ⟨rfl, hlen, hone⟩) (fun _ hk => hk.elim)).1
 refine ⟨rows.set i (c.set j u), by rw [List.length_set, List.length_set, hl], by simpa [World.setCells, Kd.raw] using this, fun j2 y2 c2 h1 h2 => ?_⟩
 by_cases hij : i = j2
 ·subst hij
  rw [List.getElem?_set_self hil] at h1
  rw [List.getElem?_set_self (by omega)] at h2
  obtain rfl := Option.some.inj h1
  obtain rfl := Option.some.inj h2
  exact hK'
 ·rw [List.getElem?_set_ne hij] at h1 h2
  exact hk j2 y2 c2 h1 h2
theorem Sh.joined {rows news : List (List Value)} {xs ys : List α} (hl : rows.length = xs.length) (hk : ∀ (j : Nat) (y : α) (c : List Value), xs[j]? = some y → rows[j]? = some c → k.K w y c) (hnl : news.length = ys.length) (hn : ∀ (j : Nat) (y : α) (c : List Value), ys[j]? = some y → news[j]? = some c → k.K w y c)
  (hR : (Kd.raw k.sz).R e W base (fun _ => True) v (rows ++ news)) : Sh k e w W base v (xs ++ ys) := by
 refine ⟨rows ++ news, by rw [List.length_append, List.length_append, hl, hnl], hR, fun j y c h1 h2 => ?_⟩
 by_cases hj : j < xs.length
 ·rw [List.getElem?_append_left hj] at h1
  rw [List.getElem?_append_left (by omega)] at h2
  exact hk j y c h1 h2
 ·rw [List.getElem?_append_right (by omega)] at h1
  rw [List.getElem?_append_right (by omega), hl] at h2
  exact hn _ y c h1 h2
end
section
variable {P : Program} {ops : Array Oper} {rest : List Oper} {o : Oper} {a : Act} {Q : Exit → Act → World → Prop} {Kc : Act → World → Prop} {α : Type}
theorem litS {w W : World} (N : Tmp) (k : Kd α) (e : TypeId) (h : ∀ v w1, Sh k e w w1 W.heap.size v [] → Bl W w1 → wpList P ops Q rest (a.put o.dst v) w1)
  (hg : o.guard = none := by exact rfl) (hd : o.dst = some N := by exact rfl)
  (hr : (execOp a.eval o).run P W = .ok (.value (.slice (some ⟨W.heap.size, 0, none⟩) 0 0)) (W.alloc (.cells #[] e)) := by first | (go_simp; done) | (go_simp; rfl)) : wpList P ops Q (o :: rest) a W :=
 Kd.R_lit (Kd.raw k.sz) (w0 := W) W.heap.size e hg hd (xs := []) (inner := []) (ok := fun _ => True) (okp := fun _ => True) hr (Reps.none _ _) (fun _ hk => hk) trivial (Below.refl _ _) (Nat.le_refl _) (by simp)
  fun v1 w1 ho hb _ _ => h v1 w1 ⟨[], rfl, ho, fun j y c h1 => by simp at h1⟩ ⟨hb⟩
theorem appS (k : Kd α) {w W0 W : World} (hgd : o.guard = none) (s x : Operand) (t e : TypeId) (z : Value) (bytes : Nat)
  (ho : o.op = .call { callee := .builtin .append, args := #[s, x], argTypes := #[t, t] })
  (ht : P.underlying t = some (.slice e)) (hinfo : (P.info? e).map (fun i => (i.zero, i.size, i.bytes)) = some (some z, k.sz, bytes)) (hz : z.cells.size = k.sz) (hs0 : 0 < k.sz) (hb0 : 0 < bytes)
  {v : Value} {xs ys : List α} {A : Option Addr} {c : Nat} (hs : a.eval s = v) (hx : a.eval x = .slice A ys.length c)
  (HO : Sh k e w W W0.heap.size v xs) (HR : ReadsRow (k.K w) k.sz W A ys.length ys) (HB : Below W0.heap.size W0 W) (hl : (xs.length + ys.length) * bytes ≤ 140737488355328)
  (h : ∀ v1 w1, Sh k e w w1 W0.heap.size v1 (xs ++ ys) → Bl W0 w1 → wpList P ops Q rest (a.put o.dst v1) w1) :
  wpList P ops Q (o :: rest) a W := by
 obtain ⟨rows, hrl, hR, hk⟩ := HO
 obtain ⟨news, hnl, hnr, hnf⟩ := Kd.reads_raw HR (fun y c hk => ⟨k.K_len hk, k.K_one hk⟩)
 refine Kd.R_append_rows (Kd.raw k.sz) W0.heap.size hgd s x t e z bytes ho ht hinfo hz hs0 hb0 v rows news A ys.length c (fun _ => True) (fun _ => False) hs hx hR hnr (fun _ _ hk => hk) (fun _ hk => hk.elim) (fun _ _ => trivial) HB HB.size (by rw [hrl]; exact hl) ?_
 intro v1 w1 h1 h2 _ _
 exact h v1 w1 (Sh.joined hrl hk hnl hnf h1) ⟨h2⟩
theorem appS_step (k : Kd α) {w W0 W : World} (hw' : Region.wanted o (yielded ops a.tmps) = true) (s x : Operand) (t e : TypeId) (z : Value) (bytes : Nat)
  (ho : o.op = .call { callee := .builtin .append, args := #[s, x], argTypes := #[t, t] })
  (ht : P.underlying t = some (.slice e)) (hinfo : (P.info? e).map (fun i => (i.zero, i.size, i.bytes)) = some (some z, k.sz, bytes)) (hz : z.cells.size = k.sz) (hs0 : 0 < k.sz) (hb0 : 0 < bytes)
  {v : Value} {xs ys : List α} {A : Option Addr} {c : Nat} (hs : a.eval s = v) (hx : a.eval x = .slice A ys.length c)
  (HO : Sh k e w W W0.heap.size v xs) (HR : ReadsRow (k.K w) k.sz W A ys.length ys) (HB : Below W0.heap.size W0 W) (hl : (xs.length + ys.length) * bytes ≤ 140737488355328)
  (h : ∀ v1 w1, Sh k e w w1 W0.heap.size v1 (xs ++ ys) → Bl W0 w1 → Kc (a.put o.dst v1) w1) :
  if Region.wanted o (yielded ops a.tmps) = true then Oper.wp P o a W Kc Q else Kc (a.put o.dst undef) W := by
 obtain ⟨rows, hrl, hR, hk⟩ := HO
 obtain ⟨news, hnl, hnr, hnf⟩ := Kd.reads_raw HR (fun y c hk => ⟨k.K_len hk, k.K_one hk⟩)
 refine Kd.R_append_rows_step (Kd.raw k.sz) W0.heap.size hw' s x t e z bytes ho ht hinfo hz hs0 hb0 v rows news A ys.length c (fun _ => True) (fun _ => False) hs hx hR hnr (fun _ _ hk => hk) (fun _ hk => hk.elim) (fun _ _ => trivial) HB HB.size (by rw [hrl]; exact hl) ?_
 intro v1 w1 h1 h2 _ _
 exact h v1 w1 (Sh.joined hrl hk hnl hnf h1) ⟨h2⟩
end
end Go.Proofs.Ytckhjehibjdjdaa.P
namespace Go.Proofs.Ytckhjehibjdjdaa.P
open Go.RowKit Go.Shelf Go.Proofs.YtckhjehibjdjdaaW.PrintWords Go.Proofs.YtckhjehibjdjdaaW.PrintLast Go.Proofs.YtckhjehibjdjdaaW.PrintMore
attribute [local go_sem] Oper.semAt_some
def api_Hold.f (l0 : List (S41)) : Option ((List (S41))) := if l0.length < 1000000 then some l0 else none
end Go.Proofs.Ytckhjehibjdjdaa.P
namespace Go.Proofs.Ytckhjehibjdjdaa.P
open Go.RowKit Go.Proofs.YtckhjehibjdjdaaW.PrintWords Go.Proofs.YtckhjehibjdjdaaW.PrintLast Go.Proofs.YtckhjehibjdjdaaW.PrintMore
attribute [local go_sem] Oper.semAt_some
set_option maxHeartbeats 4000000 in
set_option maxRecDepth 100000 in
theorem cloneS {A0 : Option Addr} {c0 : Nat} {l0 l1 : List S41} {w W : World} (hr0 : Kd.C k41 w A0 l0.length l0) (hw : Below w.heap.size w W) (h : A_ (api_Hold.f l0 = some l1)) :
  Calls Try.prog 70 #[.slice A0 l0.length c0] W fun e w' => ∃ v0_ : Value, e = .returned v0_ ∧ Sh k41 41 w w' W.heap.size v0_ l1 ∧ Below W.heap.size W w' := by
 have hu25 := Try.underlying25
 have q25 : ∀ (w : World) (a : Option Addr) (n c n' c' : Nat), (binOp .eql 25 (.slice a n c) (.slice none n' c')).run Try.prog w = .ok (.bool a.isNone) w := fun w a n c n' c' => Lib.run_eql_slice_nil w _ _ a n c n' c' Try.underlying25
 have h := h.out
 unfold api_Hold.f at h
 by_cases hl : l0.length < 1000000
 case neg => rw [if_neg hl] at h; cases h
 rw [if_pos hl] at h
 obtain rfl := Option.some.inj h
 clear h
 have HR := m_ (rowIn hr0 hw)
 have HL := m_ hl
 cases A0 with
 | none =>
  obtain rfl : l0 = [] := by
   rcases Nat.eq_zero_or_pos l0.length with h | h
   ·exact List.eq_nil_of_length_eq_zero h
   ·obtain ⟨ad, hA, _⟩ := hr0.2.2 h
    cases hA
  clear hr0 hw hl
  go_enter Try.func70, Try.ntmps70
  go_wp2
  all_goals go_ret
  all_goals exact ⟨_, rfl, Sh.nil, Below.refl _ _⟩
 | some ad =>
  clear hr0 hw hl
  go_enter Try.func70, Try.ntmps70
  go_wp2_with (first | ((with_reducible refine a3_ (N := 5) rfl ?_); refine litS (w := w) 5 k41 41 ?_; intro v5 w5 hs hb; have HS := m_ hs; clear hs) | ((with_reducible refine gate_builtin (b := .append) (xs := #[.tmp 5, .tmp 6]) rfl ?_); at_builtin; refine appS k41 (w := w) (W0 := W) rfl (.tmp 5) (.tmp 6) 25 41 (.agg #[(.int .i64 0), (.int .i64 0), (.int .i64 0), (.bool false), (.slice none 0 0)]) 56 rfl Try.underlying25 info41 rfl (by decide) (by omega) rfl rfl HS.out (ReadsRow.imp_ HR.out hb.out (fun _ _ h => h)) hb.out (by have := HL.out; simp; omega) ?_; intro v7 w7 hs7 hb7; have HS7 := m_ hs7; clear hs7 HS))
  all_goals go_ret
  all_goals exact ⟨_, rfl, HS7.out, hb7.out⟩
end Go.Proofs.Ytckhjehibjdjdaa.P
namespace Go.Proofs.Ytckhjehibjdjdaa.P
open Go.RowKit Go.Proofs.YtckhjehibjdjdaaW.PrintWords Go.Proofs.YtckhjehibjdjdaaW.PrintLast Go.Proofs.YtckhjehibjdjdaaW.PrintMore
attribute [local go_sem] cellBx frozBx
def fill_After.f (a0 : Int) (l1 : List (S51)) (a2_0 a2_1 : Int) (l3 : List (S41)) (a4_0 a4_1 a4_2 a4_3 a4_4 a4_5 a5_0 a5_1 a5_2 : Int) (a5_3 : Bool) (l5_4 : List (S52)) : Option (Int × Int) := (pack_Less.f l1 l5_4).bind fun bt329 => (if bt329.2 = 0 then (if a5_1 = a4_0 then ((fill_take.f a2_0 a2_1 l5_4).bind fun bt333 => ((api_Hold.f l3).bind fun t335 => ((some (([(⟨a5_0, a5_1, a5_2, a5_3, l5_4⟩ : S41)] : List (S41)) : List (S41))).bind fun y338 => (if t335.length + y338.length < 2513169434916 then ((promise_Earliest.f a0 bt329.1 bt333.1 bt333.2 (t335 ++ y338) a4_0 a4_1 a4_2 a4_3 a4_4 a4_5).bind fun bt344 => (some (bt344.1, bt344.2))) else (none))))) else ((api_Hold.f l3).bind fun t346 => ((some (([(⟨a5_0, a5_1, a5_2, a5_3, l5_4⟩ : S41)] : List (S41)) : List (S41))).bind fun y349 => (if t346.length + y349.length < 2513169434916 then ((promise_Earliest.f a0 bt329.1 a2_0 a2_1 (t346 ++ y349) a4_0 a4_1 a4_2 a4_3 a4_4 a4_5).bind fun bt355 => (some (bt355.1, bt355.2))) else (none))))) else (some (0, bt329.2)))
set_option maxHeartbeats 8000000 in
set_option maxRecDepth 100000 in
theorem fill_After.calls (a0 : Int) (A1 : Option Addr) (c1 : Nat) (l1 : List (S51)) (a2_0 a2_1 : Int) (A3 : Option Addr) (c3 : Nat) (l3 : List (S41)) (a4_0 a4_1 a4_2 a4_3 a4_4 a4_5 a5_0 a5_1 a5_2 : Int) (a5_3 : Bool) (A5_4 : Option Addr) (c5_4 : Nat) (l5_4 : List (S52)) (r1 r2 : Int) (w : World) (hr1 : Kd.C k51 w A1 l1.length l1) (hc1 : l1.length ≤ c1) (hr3 : Kd.C k41 w A3 l3.length l3) (hc3 : l3.length ≤ c3) (hr5_4 : Kd.C k52 w A5_4 l5_4.length l5_4) (hc5_4 : l5_4.length ≤ c5_4) (h : fill_After.f a0 l1 a2_0 a2_1 l3 a4_0 a4_1 a4_2 a4_3 a4_4 a4_5 a5_0 a5_1 a5_2 a5_3 l5_4 = some (r1, r2)) :
  Calls Try.prog 39 #[.int .i64 a0, .slice A1 l1.length c1, .agg #[.int .i64 a2_0, .int .i64 a2_1], .slice A3 l3.length c3, .agg #[.int .i64 a4_0, .int .i64 a4_1, .int .i64 a4_2, .int .i64 a4_3, .int .i64 a4_4, .int .i64 a4_5], .agg #[.int .i64 a5_0, .int .i64 a5_1, .int .i64 a5_2, .bool a5_3, .slice A5_4 l5_4.length c5_4]] w fun e w' => e = .returned (.tuple #[.int .i64 r1, .int .i64 r2]) ∧ Below w.heap.size w w' := by
 have hu24 := Try.underlying24
 have hu29 := Try.underlying29
 have hu41 := Try.underlying41
 have hu25 := Try.underlying25
 have : Be w w := ⟨Below.refl _ _⟩
 unfold fill_After.f at h
 replace h := bindS h
 obtain ⟨⟨less, e⟩, hL, h⟩ := h
 simp only at h
 have HL := m_ hL
 have H := m_ h
 clear hL h
 go_enter Try.func39, Try.ntmps39
 go_upto_region 2 with (first | ((with_reducible refine a3_ (N := 8) rfl ?_); refine bxT 8 #[.int .i64 a2_0, .int .i64 a2_1] 24 ?_; intro g8 w8 _ _ _) | ((with_reducible refine a3_ (N := 10) rfl ?_); refine bxT 10 #[.int .i64 a4_0, .int .i64 a4_1, .int .i64 a4_2, .int .i64 a4_3, .int .i64 a4_4, .int .i64 a4_5] 29 ?_; intro g10 w10 _ _ _) | ((with_reducible refine a3_ (N := 11) rfl ?_); refine bxT 11 #[.int .i64 a5_0, .int .i64 a5_1, .int .i64 a5_2, .bool a5_3, .slice A5_4 l5_4.length c5_4] 41 ?_; intro g11 w11 _ _ _) | (go_at_call 51; refine (pack_Less.calls _ _ _ _ _ _ _ _ _ (Kd.C_below hr1 Be.out) hc1 (Kd.C_below hr5_4 Be.out) hc5_4 HL.out).mono ?_; rintro e wl ⟨vl, rfl, hv, hb⟩; have := Bl.mk hb; obtain ⟨Al, cl, hvl⟩ := Kd.R_slice hv; subst hvl; have HV := m_ hv; clear hb hv))
 have hh := H.out
 clear H HL
 by_cases c8 : e = 0
 ·rw [if_pos c8] at hh
  have t : (e != 0) = false := by rw [c8]; rfl
  clear c8
  go_upto_region 4 with (fail)
  clear t
  by_cases c9 : a5_1 = a4_0
  case' pos =>
   rw [if_pos c9] at hh
   have t : (a5_1 == a4_0) = true := beq_iff_eq.2 c9
   clear c9
   replace hh := bindS hh
   obtain ⟨⟨lg, lc⟩, hT, hh⟩ := hh
   simp only at hh
   have HT := m_ hT
   have H := m_ hh
   clear hT hh
   go_upto_region 6 with (first | (go_at_call 81; refine (fill_take.calls _ _ _ _ _ _ _ _ (Kd.C_below hr5_4 Be.out) hc5_4 HT.out).mono ?_; rintro e wt ⟨rfl, hb⟩; have := Bl.mk hb; clear hb))
   have b8 : Bx ((wt.setCell ⟨g8, 0, none⟩ (.int .i64 lg)).setCell ⟨g8, 1, none⟩ (.int .i64 lc)) g8 #[.int .i64 lg, .int .i64 lc] 24 := bxSetS (h := bxSetS (cs := #[.int .i64 a2_0, .int .i64 a2_1]))
   have b10 : Bx ((wt.setCell ⟨g8, 0, none⟩ (.int .i64 lg)).setCell ⟨g8, 1, none⟩ (.int .i64 lc)) g10 #[.int .i64 a4_0, .int .i64 a4_1, .int .i64 a4_2, .int .i64 a4_3, .int .i64 a4_4, .int .i64 a4_5] 29 := inferInstance
   have b11 : Bx ((wt.setCell ⟨g8, 0, none⟩ (.int .i64 lg)).setCell ⟨g8, 1, none⟩ (.int .i64 lc)) g11 #[.int .i64 a5_0, .int .i64 a5_1, .int .i64 a5_2, .bool a5_3, .slice A5_4 l5_4.length c5_4] 41 := inferInstance
   have be : Be w ((wt.setCell ⟨g8, 0, none⟩ (.int .i64 lg)).setCell ⟨g8, 1, none⟩ (.int .i64 lc)) := inferInstance
   have HV2 := m_ (roFar (g := g8) (j := 1) (u := .int .i64 lc) (roFar (g := g8) (j := 0) (u := .int .i64 lg) (Kd.R_below HV.out (Bl.out (W' := wt))) (by decide)) (by decide))
   generalize (wt.setCell ⟨g8, 0, none⟩ (.int .i64 lg)).setCell ⟨g8, 1, none⟩ (.int .i64 lc) = wq at *
   clear HT HV t
  case' neg =>
   rw [if_neg c9] at hh
   have t : (a5_1 == a4_0) = false := beq_eq_false_iff_ne.2 c9
   clear c9
   obtain ⟨lg, hlg⟩ : ∃ x, x = a2_0 := ⟨_, rfl⟩
   obtain ⟨lc, hlc⟩ : ∃ x, x = a2_1 := ⟨_, rfl⟩
   subst hlg
   subst hlc
   have H := m_ hh
   clear hh
   go_upto_region 6 with (fail)
   obtain ⟨wq, hwq⟩ : ∃ x, x = wl := ⟨_, rfl⟩
   subst hwq
   have b8 : Bx wq g8 #[.int .i64 lg, .int .i64 lc] 24 := inferInstance
   have b10 : Bx wq g10 #[.int .i64 a4_0, .int .i64 a4_1, .int .i64 a4_2, .int .i64 a4_3, .int .i64 a4_4, .int .i64 a4_5] 29 := inferInstance
   have b11 : Bx wq g11 #[.int .i64 a5_0, .int .i64 a5_1, .int .i64 a5_2, .bool a5_3, .slice A5_4 l5_4.length c5_4] 41 := inferInstance
   have be : Be w wq := inferInstance
   have HV2 := HV
   clear HV t
  all_goals
   have hh := H.out
   clear H
   replace hh := bindS hh
   obtain ⟨cl2, hC, hh⟩ := hh
   rw [Option.bind_some] at hh
   by_cases c12 : cl2.length + ([(⟨a5_0, a5_1, a5_2, a5_3, l5_4⟩ : S41)] : List S41).length < 2513169434916
   case neg => rw [if_neg c12] at hh; cases hh
   rw [if_pos c12] at hh
   replace hh := bindS hh
   obtain ⟨⟨t1, t2⟩, hE, hh⟩ := hh
   simp only [Option.some.injEq, Prod.mk.injEq] at hh
   obtain ⟨rfl, rfl⟩ := hh
   obtain ⟨lx, hlx⟩ : ∃ x, x = cl2 ++ [(⟨a5_0, a5_1, a5_2, a5_3, l5_4⟩ : S41)] := ⟨_, rfl⟩
   rw [← hlx] at hE
   have HLX := m_ hlx
   clear hlx
   have HC := m_ hC
   have HE := m_ hE
   clear hC hE
   have HN := m_ c12
   have : Rw k51 wq Al cl less := ⟨(Kd.R_reads' HV2.out).2.2, (Kd.R_reads' HV2.out).2.1⟩
   clear c12
   have HX := m_ (k41_mk w (⟨a5_0, a5_1, a5_2, a5_3, l5_4⟩ : S41) hc5_4 hr5_4)
   go_region_held3 (fun w' => w'.cell? ⟨g8, 0, none⟩ = some (.int .i64 lg) ∧ w'.cell? ⟨g8, 1, none⟩ = some (.int .i64 lc) ∧ w'.cell? ⟨g10, 0, none⟩ = some (.int .i64 a4_0) ∧ w'.cell? ⟨g10, 1, none⟩ = some (.int .i64 a4_1) ∧ w'.cell? ⟨g10, 2, none⟩ = some (.int .i64 a4_2) ∧ w'.cell? ⟨g10, 3, none⟩ = some (.int .i64 a4_3) ∧ w'.cell? ⟨g10, 4, none⟩ = some (.int .i64 a4_4) ∧ w'.cell? ⟨g10, 5, none⟩ = some (.int .i64 a4_5) ∧ w'.cell? ⟨g11, 0, none⟩ = some (.int .i64 a5_0) ∧ w'.cell? ⟨g11, 1, none⟩ = some (.int .i64 a5_1) ∧ w'.cell? ⟨g11, 2, none⟩ = some (.int .i64 a5_2) ∧ w'.cell? ⟨g11, 3, none⟩ = some (.bool a5_3) ∧ w'.cell? ⟨g11, 4, none⟩ = some (.slice A5_4 l5_4.length c5_4)) (((repeat' (refine And.intro ?_ ?_)) <;> first | exact (cellBx _).trans rfl | exact e1_ hb1.out (by first | exact (cellBx _).trans rfl))) (first | ((go_at_call 70); refine (cloneS hr3 Be.out HC).mono ?_; rintro e wc ⟨vc, rfl, hs, hb⟩; have := Bl.mk hb; have HSc := m_ hs; have HBc := m_ hb; clear hs hb) | (refine appS_step k41 (w := w) (by rfl) (.tmp 39) (.tmp 41) 25 41 (.agg #[(.int .i64 0), (.int .i64 0), (.int .i64 0), (.bool false), (.slice none 0 0)]) 56 (by rfl) Try.underlying25 info41 rfl (by decide) (by omega) (by rfl) (by rfl) (by first | exact HSc.out | exact HSc.out.step (b5_ (Below.refl _ _) _)) (rowBx HX.out) (by first | exact HBc.out | exact b5_ HBc.out _) (by have := HN.out; simp at this ⊢; omega) ?_; intro v1 w1 hs1 hb1; rw [← HLX.out] at hs1; obtain ⟨Ae, ce, hve, hq⟩ := hs1.read Be.out; subst hve; have HQ := m_ hq; clear hs1) | (go_at_call 27; refine (promise_Earliest.calls _ _ _ _ _ _ _ _ _ _ _ _ _ _ _ _ _ _ (Rw.out (k := k51) (A := Al) (l := less)) (Rw.le (k := k51) (W := w1) (A := Al) (l := less)) HQ.out.out HQ.out.le HE.out).mono ?_; rintro e we ⟨rfl, hb⟩; have := Bl.mk hb; clear hb))
   all_goals go_wp2
   all_goals go_ret2
   all_goals exact ⟨rfl, Be.out⟩
 ·rw [if_neg c8] at hh
  simp only [Option.some.injEq, Prod.mk.injEq] at hh
  obtain ⟨rfl, rfl⟩ := hh
  have t : (e != 0) = true := bne_iff_ne.2 c8
  clear c8
  go_wp2
  go_ret2
  exact ⟨rfl, Be.out⟩
end Go.Proofs.Ytckhjehibjdjdaa.P
namespace Go.Proofs.Ytckhjehibjdjdaa.P
open Go.RowKit Go.Proofs.YtckhjehibjdjdaaW.PrintWords Go.Proofs.YtckhjehibjdjdaaW.PrintLast Go.Proofs.YtckhjehibjdjdaaW.PrintMore
attribute [local go_sem] max2_int min2_int max_two min_two max_three min_three max_four min_four
def fill_Safe.f (a0 : Int) (l1 : List (S51)) (a2_0 a2_1 : Int) (l3 : List (S41)) (a4_0 a4_1 a4_2 a4_3 a4_4 a4_5 a5 a6_0 a6_1 a6_2 : Int) (a6_3 : Bool) (l6_4 : List (S52)) : Option (Bool × Int) := (fill_After.f a0 l1 a2_0 a2_1 l3 a4_0 a4_1 a4_2 a4_3 a4_4 a4_5 a6_0 a6_1 a6_2 a6_3 l6_4).bind fun bt329 => (if bt329.2 = 0 then (some (decide (bt329.1 ≤ (mx a0 a5)), bt329.2)) else (some (false, bt329.2)))
set_option maxHeartbeats 8000000 in
set_option maxRecDepth 100000 in
theorem fill_Safe.calls (a0 : Int) (A1 : Option Addr) (c1 : Nat) (l1 : List (S51)) (a2_0 a2_1 : Int) (A3 : Option Addr) (c3 : Nat) (l3 : List (S41)) (a4_0 a4_1 a4_2 a4_3 a4_4 a4_5 a5 a6_0 a6_1 a6_2 : Int) (a6_3 : Bool) (A6_4 : Option Addr) (c6_4 : Nat) (l6_4 : List (S52)) (r1 : Bool) (r2 : Int) (w : World) (hr1 : Kd.C k51 w A1 l1.length l1) (hc1 : l1.length ≤ c1) (hr3 : Kd.C k41 w A3 l3.length l3) (hc3 : l3.length ≤ c3) (hr6_4 : Kd.C k52 w A6_4 l6_4.length l6_4) (hc6_4 : l6_4.length ≤ c6_4) (h : fill_Safe.f a0 l1 a2_0 a2_1 l3 a4_0 a4_1 a4_2 a4_3 a4_4 a4_5 a5 a6_0 a6_1 a6_2 a6_3 l6_4 = some (r1, r2)) :
  Calls Try.prog 37 #[.int .i64 a0, .slice A1 l1.length c1, .agg #[.int .i64 a2_0, .int .i64 a2_1], .slice A3 l3.length c3, .agg #[.int .i64 a4_0, .int .i64 a4_1, .int .i64 a4_2, .int .i64 a4_3, .int .i64 a4_4, .int .i64 a4_5], .int .i64 a5, .agg #[.int .i64 a6_0, .int .i64 a6_1, .int .i64 a6_2, .bool a6_3, .slice A6_4 l6_4.length c6_4]] w fun e w' => e = .returned (.tuple #[.bool r1, .int .i64 r2]) ∧ Below w.heap.size w w' := by
 have hu24 := Try.underlying24
 have hu29 := Try.underlying29
 have hu41 := Try.underlying41
 have HR1 := m_ hr1
 have HC1 := m_ hc1
 clear hr1 hc1
 have HR3 := m_ hr3
 have HC3 := m_ hc3
 clear hr3 hc3
 have HR6_4 := m_ hr6_4
 have HC6_4 := m_ hc6_4
 clear hr6_4 hc6_4
 have HB := m_ (Below.refl w.heap.size w)
 have H := h
 unfold fill_Safe.f at H
 clear h
 replace H := Option.bind_eq_some_iff.mp H
 obtain ⟨⟨t329, t330⟩, A80, H⟩ := H
 try dsimp only at H
 have A8 := m_ A80
 clear A80
 by_cases c9 : t330 = 0
 ·rw [if_pos c9] at H
  have c9b0 : (t330 == 0) = true := beq_iff_eq.mpr c9
  have c9b1 : (t330 != 0) = false := bne_eq_false_iff_eq.mpr c9
  clear c9
  obtain ⟨ji10, hji10⟩ : ∃ j_ : Int, (mx a0 a5) = j_ := ⟨_, rfl⟩
  replace H : (some (decide (t329 ≤ (ji10)), t330)) = some (r1, r2) := by first | (rw [hji10] at H; exact H) | (simp only [hji10] at H ⊢; exact H)
  (try rw [hji10] at A8)
  have hji10_ : (if a0 < a5 then a5 else a0) = ji10 := hji10
  simp only [Option.some.injEq, Prod.mk.injEq] at H
  obtain ⟨rfl, rfl⟩ := H
  go_enter Try.func37, Try.ntmps37
  go_wp2_with (first | ((with_reducible refine a3_ (N := 9) rfl ?_); (try (refine gate_guard (by rfl) ?_; dsimp only)); refine bx 9 #[.int .i64 a2_0, .int .i64 a2_1] 24 ?_; intro gb326 hg w11 hbox hb; have BK326 := m_ (hbox); have GW326 := ge_ hg; have GE326 := ge_ hg; replace HB := hs_ hb; clear hb hbox hg) | ((with_reducible refine a3_ (N := 11) rfl ?_); (try (refine gate_guard (by rfl) ?_; dsimp only)); refine bx 11 #[.int .i64 a4_0, .int .i64 a4_1, .int .i64 a4_2, .int .i64 a4_3, .int .i64 a4_4, .int .i64 a4_5] 29 ?_; intro gb327 hg w12 hbox hb; have BK327 := m_ (hbox); have GW327 := ge_ hg; have GE327 := ge_ hg; have NB326_327 := nl_ BK326 hg; have NB327_326 := nr_ BK326 hg; replace BK326 := bk_ BK326 hb; replace HB := hs_ hb; clear hb hbox hg) | ((with_reducible refine a3_ (N := 13) rfl ?_); (try (refine gate_guard (by rfl) ?_; dsimp only)); refine bx 13 #[.int .i64 a6_0, .int .i64 a6_1, .int .i64 a6_2, .bool a6_3, .slice A6_4 l6_4.length c6_4] 41 ?_; intro gb328 hg w13 hbox hb; have BK328 := m_ (hbox); have GW328 := ge_ hg; have GE328 := ge_ hg; have NB326_328 := nl_ BK326 hg; have NB328_326 := nr_ BK326 hg; have NB327_328 := nl_ BK327 hg; have NB328_327 := nr_ BK327 hg; replace BK326 := bk_ BK326 hb; replace BK327 := bk_ BK327 hb; replace HB := hs_ hb; clear hb hbox hg; have hnb14 := NB326_327.out; have hnc14 := NB327_326.out; have hnb15 := NB326_328.out; have hnc15 := NB328_326.out; obtain ⟨hcz16_0, hcz16_1, hfz16_0, hfz16_1⟩ := bz2_ BK326; have hnb17 := NB327_328.out; have hnc17 := NB328_327.out; obtain ⟨hcz18_0, hcz18_1, hcz18_2, hcz18_3, hcz18_4, hcz18_5, hfz18_0, hfz18_1, hfz18_2, hfz18_3, hfz18_4, hfz18_5⟩ := bz6_ BK327; obtain ⟨hcz19_0, hcz19_1, hcz19_2, hcz19_3, hcz19_4, hfz19_0, hfz19_1, hfz19_2, hfz19_3, hfz19_4⟩ := bz5_ BK328) | ((with_reducible refine b3_ (f := 39) rfl ?_); refine goesL_ (some 25) rfl rfl Try.func39 (by kernel_rfl) rfl #[.int .i64 a0, .slice A1 l1.length c1, .agg #[.int .i64 a2_0, .int .i64 a2_1], .slice A3 l3.length c3, .agg #[.int .i64 a4_0, .int .i64 a4_1, .int .i64 a4_2, .int .i64 a4_3, .int .i64 a4_4, .int .i64 a4_5], .agg #[.int .i64 a6_0, .int .i64 a6_1, .int .i64 a6_2, .bool a6_3, .slice A6_4 l6_4.length c6_4]] rfl Z0 ?_; (with_reducible refine (fill_After.calls a0 _ _ l1 a2_0 a2_1 _ _ l3 a4_0 a4_1 a4_2 a4_3 a4_4 a4_5 a6_0 a6_1 a6_2 a6_3 _ _ l6_4 t329 t330 _ ?side1 ?side2 ?side3 ?side4 ?side5 ?side6 A8.out).mono ?_); (case side1 => exact cs_ HR1); (case side2 => exact HC1.out); (case side3 => exact cs_ HR3); (case side4 => exact HC3.out); (case side5 => exact cs_ HR6_4); (case side6 => exact HC6_4.out); rintro e w20 ⟨rfl, hb⟩; refine ⟨_, rfl, ?_⟩; replace BK326 := bk_ BK326 hb; replace BK327 := bk_ BK327 hb; replace BK328 := bk_ BK328 hb; replace HB := hs_ hb; (try clear hb); (try clear hb2); (try clear hk); (try clear hi)))
  go_ret2
  exact ⟨by first | rfl | (simp [b2_, b1_] <;> rfl) | (simp only [← hji10]; first | rfl | (simp [b2_, b1_] <;> rfl)) | (simp [*, b2_, b1_] <;> rfl), hb_⟩
 ·rw [if_neg c9] at H
  have c9b0 : (t330 == 0) = false := beq_eq_false_iff_ne.mpr c9
  have c9b1 : (t330 != 0) = true := bne_iff_ne.mpr c9
  simp only [Option.some.injEq, Prod.mk.injEq] at H
  obtain ⟨rfl, rfl⟩ := H
  go_enter Try.func37, Try.ntmps37
  go_wp2_with (first | ((with_reducible refine a3_ (N := 9) rfl ?_); (try (refine gate_guard (by rfl) ?_; dsimp only)); refine bx 9 #[.int .i64 a2_0, .int .i64 a2_1] 24 ?_; intro gb326 hg w21 hbox hb; have BK326 := m_ (hbox); have GW326 := ge_ hg; have GE326 := ge_ hg; replace HB := hs_ hb; clear hb hbox hg) | ((with_reducible refine a3_ (N := 11) rfl ?_); (try (refine gate_guard (by rfl) ?_; dsimp only)); refine bx 11 #[.int .i64 a4_0, .int .i64 a4_1, .int .i64 a4_2, .int .i64 a4_3, .int .i64 a4_4, .int .i64 a4_5] 29 ?_; intro gb327 hg w22 hbox hb; have BK327 := m_ (hbox); have GW327 := ge_ hg; have GE327 := ge_ hg; have NB326_327 := nl_ BK326 hg; have NB327_326 := nr_ BK326 hg; replace BK326 := bk_ BK326 hb; replace HB := hs_ hb; clear hb hbox hg) | ((with_reducible refine a3_ (N := 13) rfl ?_); (try (refine gate_guard (by rfl) ?_; dsimp only)); refine bx 13 #[.int .i64 a6_0, .int .i64 a6_1, .int .i64 a6_2, .bool a6_3, .slice A6_4 l6_4.length c6_4] 41 ?_; intro gb328 hg w23 hbox hb; have BK328 := m_ (hbox); have GW328 := ge_ hg; have GE328 := ge_ hg; have NB326_328 := nl_ BK326 hg; have NB328_326 := nr_ BK326 hg; have NB327_328 := nl_ BK327 hg; have NB328_327 := nr_ BK327 hg; replace BK326 := bk_ BK326 hb; replace BK327 := bk_ BK327 hb; replace HB := hs_ hb; clear hb hbox hg; have hnb24 := NB326_327.out; have hnc24 := NB327_326.out; have hnb25 := NB326_328.out; have hnc25 := NB328_326.out; obtain ⟨hcz26_0, hcz26_1, hfz26_0, hfz26_1⟩ := bz2_ BK326; have hnb27 := NB327_328.out; have hnc27 := NB328_327.out; obtain ⟨hcz28_0, hcz28_1, hcz28_2, hcz28_3, hcz28_4, hcz28_5, hfz28_0, hfz28_1, hfz28_2, hfz28_3, hfz28_4, hfz28_5⟩ := bz6_ BK327; obtain ⟨hcz29_0, hcz29_1, hcz29_2, hcz29_3, hcz29_4, hfz29_0, hfz29_1, hfz29_2, hfz29_3, hfz29_4⟩ := bz5_ BK328) | ((with_reducible refine b3_ (f := 39) rfl ?_); refine goesL_ (some 25) rfl rfl Try.func39 (by kernel_rfl) rfl #[.int .i64 a0, .slice A1 l1.length c1, .agg #[.int .i64 a2_0, .int .i64 a2_1], .slice A3 l3.length c3, .agg #[.int .i64 a4_0, .int .i64 a4_1, .int .i64 a4_2, .int .i64 a4_3, .int .i64 a4_4, .int .i64 a4_5], .agg #[.int .i64 a6_0, .int .i64 a6_1, .int .i64 a6_2, .bool a6_3, .slice A6_4 l6_4.length c6_4]] rfl Z0 ?_; (with_reducible refine (fill_After.calls a0 _ _ l1 a2_0 a2_1 _ _ l3 a4_0 a4_1 a4_2 a4_3 a4_4 a4_5 a6_0 a6_1 a6_2 a6_3 _ _ l6_4 t329 t330 _ ?side1 ?side2 ?side3 ?side4 ?side5 ?side6 A8.out).mono ?_); (case side1 => exact cs_ HR1); (case side2 => exact HC1.out); (case side3 => exact cs_ HR3); (case side4 => exact HC3.out); (case side5 => exact cs_ HR6_4); (case side6 => exact HC6_4.out); rintro e w30 ⟨rfl, hb⟩; refine ⟨_, rfl, ?_⟩; replace BK326 := bk_ BK326 hb; replace BK327 := bk_ BK327 hb; replace BK328 := bk_ BK328 hb; replace HB := hs_ hb; (try clear hb); (try clear hb2); (try clear hk); (try clear hi)))
  go_ret2
  exact ⟨by first | rfl | (simp [b2_, b1_] <;> rfl) | (simp [*, b2_, b1_] <;> rfl), hb_⟩
end Go.Proofs.Ytckhjehibjdjdaa.P
namespace Go.Proofs.Ytckhjehibjdjdaa.P
open Go.RowKit Go.Proofs.YtckhjehibjdjdaaW.PrintWords Go.Proofs.YtckhjehibjdjdaaW.PrintLast Go.Proofs.YtckhjehibjdjdaaW.PrintMore
attribute [local go_sem] cellBx frozBx
def headL (h : Int) : List S105 → Int × Int × Int × Int × Int × Int × Bool
 | [] => (0, 0, 0, 0, 0, 0, false)
 | x :: r => if h ≠ 0 ∧ x.f0.f0 = h then (x.f0.f1, x.f0.f4.f2, x.f0.f4.f0, x.f0.f4.f1, x.f0.f4.f2, x.f0.f4.f3, true) else headL h r
def elastic_Head.f (a0_0 a0_1 a0_2 a0_3 : Int) (l0_4 : List S51) (l0_5 : List S24) (l0_6 : List S41) (l0_7 : List S105) (l0_8 : List S149) : Option (Int × Int × Int × Int × Int × Int × Bool) := if l0_7.length ≤ 1000000 then some (headL a0_1 l0_7) else none
set_option maxHeartbeats 8000000 in
set_option maxRecDepth 100000 in
theorem elastic_Head.calls (a0_0 a0_1 a0_2 a0_3 : Int) (A0_4 : Option Addr) (c0_4 : Nat) (l0_4 : List (S51)) (A0_5 : Option Addr) (c0_5 : Nat) (l0_5 : List (S24)) (A0_6 : Option Addr) (c0_6 : Nat) (l0_6 : List (S41)) (A0_7 : Option Addr) (c0_7 : Nat) (l0_7 : List (S105)) (A0_8 : Option Addr) (c0_8 : Nat) (l0_8 : List (S149)) (r1 r2 r3 r4 r5 r6 : Int) (r7 : Bool) (w : World) (hr0_4 : Kd.C k51 w A0_4 l0_4.length l0_4) (hc0_4 : l0_4.length ≤ c0_4) (hr0_5 : Kd.C k24 w A0_5 l0_5.length l0_5) (hc0_5 : l0_5.length ≤ c0_5) (hr0_6 : Kd.C k41 w A0_6 l0_6.length l0_6) (hc0_6 : l0_6.length ≤ c0_6) (hr0_7 : Kd.C k105 w A0_7 l0_7.length l0_7) (hc0_7 : l0_7.length ≤ c0_7) (hr0_8 : Kd.C k149 w A0_8 l0_8.length l0_8) (hc0_8 : l0_8.length ≤ c0_8) (h : elastic_Head.f a0_0 a0_1 a0_2 a0_3 l0_4 l0_5 l0_6 l0_7 l0_8 = some (r1, r2, r3, r4, r5, r6, r7)) :
  Calls Try.prog 60 #[.agg #[.int .i64 a0_0, .int .i64 a0_1, .int .i64 a0_2, .int .i64 a0_3, .slice A0_4 l0_4.length c0_4, .slice A0_5 l0_5.length c0_5, .slice A0_6 l0_6.length c0_6, .slice A0_7 l0_7.length c0_7, .slice A0_8 l0_8.length c0_8]] w fun e w' => e = .returned (.tuple #[.agg #[.int .i64 r1, .int .i64 r2, .int .i64 r3, .int .i64 r4, .int .i64 r5, .int .i64 r6], .bool r7]) ∧ Below w.heap.size w w' := by
 have hu86 := Try.underlying86
 have hu29 := Try.underlying29
 have hu105 := Try.underlying105
 have hu88 := Try.underlying88
 have hu27 := Try.underlying27
 have HR0_7 := m_ hr0_7
 clear hr0_4 hc0_4 hr0_5 hc0_5 hr0_6 hc0_6 hr0_7 hc0_7 hr0_8 hc0_8
 have : Be w w := ⟨Below.refl _ _⟩
 unfold elastic_Head.f at h
 by_cases hn : l0_7.length ≤ 1000000
 case neg => rw [if_neg hn] at h; cases h
 rw [if_pos hn] at h
 have HN := m_ hn
 have HA0 := m_ (show headL a0_1 (l0_7.drop 0) = (r1, r2, r3, r4, r5, r6, r7) from Option.some.inj h)
 clear h hn
 go_enter Try.func60, Try.ntmps60
 go_wp2_with (first | ((with_reducible refine a3_ (N := 1) rfl ?_); refine bxT 1 #[.int .i64 a0_0, .int .i64 a0_1, .int .i64 a0_2, .int .i64 a0_3, .slice A0_4 l0_4.length c0_4, .slice A0_5 l0_5.length c0_5, .slice A0_6 l0_6.length c0_6, .slice A0_7 l0_7.length c0_7, .slice A0_8 l0_8.length c0_8] 86 ?_; intro g1 w1 _ _ _) | ((with_reducible refine a3_ (N := 2) rfl ?_); refine bxT 2 #[.int .i64 0, .int .i64 0, .int .i64 0, .int .i64 0, .int .i64 0, .int .i64 0] 29 ?_; intro g2 w2 _ _ _))
 go_loopw [10] (fun v10 wr => ∃ i : Nat, i ≤ l0_7.length ∧ v10 = .int .i64 (i : Int) ∧ A_ (headL a0_1 (l0_7.drop i) = (r1, r2, r3, r4, r5, r6, r7)) ∧ Bx wr g1 #[.int .i64 a0_0, .int .i64 a0_1, .int .i64 a0_2, .int .i64 a0_3, .slice A0_4 l0_4.length c0_4, .slice A0_5 l0_5.length c0_5, .slice A0_6 l0_6.length c0_6, .slice A0_7 l0_7.length c0_7, .slice A0_8 l0_8.length c0_8] 86 ∧ Bx wr g2 #[.int .i64 0, .int .i64 0, .int .i64 0, .int .i64 0, .int .i64 0, .int .i64 0] 29 ∧ Be w wr) (fun v10 _ => l0_7.length - (intOf v10).toNat)
 case atStart => exact ⟨0, Nat.zero_le _, rfl, HA0, inferInstance, inferInstance, inferInstance⟩
 case round =>
  clear HA0
  obtain ⟨i, hi, rfl, HA, b1, b2, be⟩ := hrel
  by_cases hlt : i < l0_7.length
  ·have hib : (i : Int) ≤ 1000000 := by have := HN.out; omega
   have hrC := Kd.C_below HR0_7.out be.out
   obtain ⟨ad1, ee, y0, y1, y2, y3, y4, y5, y6, y7, y8, y9⟩ := at_T105 hrC (i : Int) (by omega) (by omega)
   cases ee
   clear hrC
   simp only [Int.toNat_natCast] at y0 y1 y2 y3 y4 y5 y6 y7 y8 y9
   have hx : a6_ l0_7 (i : Int) = l0_7[i] := by simp [a6_, List.getD_eq_getElem?_getD, List.getElem?_eq_getElem hlt]
   have ha := HA.out
   rw [List.drop_eq_getElem_cons hlt] at ha
   rw [hx] at y0 y1 y2 y3 y4 y5 y6 y7 y8 y9
   generalize l0_7[i] = x at *
   rw [headL] at ha
   have HA2 := m_ ha
   have HLT := m_ hlt
   have hlt' : (i : Int) < l0_7.length := by omega
   have h0i : 0 ≤ (i : Int) := by omega
   clear HA ha hx hlt
   have ha := HA2.out
   clear HA2
   by_cases h0 : a0_1 ≠ 0 ∧ x.f0.f0 = a0_1
   ·rw [if_pos h0] at ha
    simp only [Prod.mk.injEq] at ha
    obtain ⟨rfl, rfl, rfl, rfl, rfl, rfl, rfl⟩ := ha
    have t0 : (a0_1 != 0) = true := bne_iff_ne.2 h0.1
    have t1 : (x.f0.f0 == a0_1) = true := beq_iff_eq.2 h0.2
    clear h0
    go_wp2
    refine bodyPost_ret (results_ct rfl _ _ g2 29 _ (0, 0) _ rfl Bx.out Try.underlying29 rfl (by kernel_rfl)) rfl ?_
    exact ⟨rfl, Be.out⟩
   ·rw [if_neg h0] at ha
    have HA3 := m_ ha
    clear ha
    by_cases h1 : a0_1 = 0
    ·have t0 : (a0_1 != 0) = false := by simpa using h1
     clear h0 h1
     go_wp2
     go_roundw
     case rel => exact ⟨i + 1, HLT.out, by go_num, HA3, inferInstance, inferInstance, inferInstance⟩
     case measure => have := HLT.out; simp [intOf]; omega
    ·have t0 : (a0_1 != 0) = true := bne_iff_ne.2 h1
     have t1 : (x.f0.f0 == a0_1) = false := beq_eq_false_iff_ne.2 fun h => h0 ⟨h1, h⟩
     clear h0 h1
     go_wp2
     go_roundw
     case rel => exact ⟨i + 1, HLT.out, by go_num, HA3, inferInstance, inferInstance, inferInstance⟩
     case measure => have := HLT.out; simp [intOf]; omega
  ·obtain rfl : i = l0_7.length := by omega
   have ha := HA.out
   rw [List.drop_length, headL] at ha
   simp only [Prod.mk.injEq] at ha
   obtain ⟨rfl, rfl, rfl, rfl, rfl, rfl, rfl⟩ := ha
   clear HA
   go_wp2
   refine bodyPost_ret (results_ct rfl _ _ g2 29 _ (0, 0) _ rfl Bx.out Try.underlying29 rfl (by kernel_rfl)) rfl ?_
   exact ⟨rfl, Be.out⟩
end Go.Proofs.Ytckhjehibjdjdaa.P
namespace Go.Proofs.Ytckhjehibjdjdaa.P
open Go.RowKit Go.Proofs.YtckhjehibjdjdaaW.PrintWords Go.Proofs.YtckhjehibjdjdaaW.PrintLast Go.Proofs.YtckhjehibjdjdaaW.PrintMore
attribute [local go_sem] max2_int min2_int max_two min_two max_three min_three max_four min_four
attribute [local go_sem] cellBx frozBx
def elastic_safe.j0 : Nat → Bool → Int → Int → Int → Int → List (S51) → List (S24) → List (S41) → List (S105) → List (S149) → Int → Int → Int → Bool → List (S52) → Int → Int → Int → Int → Int → Int → Option (Bool)
 | 0, _, _, _, _, _, _, _, _, _, _, _, _, _, _, _, _, _, _, _, _, _ => none
 | k + 1, x22, x887000, x887001, x887002, x887003, x887004, x887005, x887006, x887007, x887008, x888000, x888001, x888002, x888003, x888004, x896000, x896001, x896002, x896003, x896004, x896005 => if x22 = true then (some true) else (if x896000 < 0 then (some false) else (if x896000 ≥ (x887005.length : Int) then (some false) else (if 0 ≤ x896000 then (if x896000 < (x887005.length : Int) then ((fill_Safe.f x887000 x887004 ((a7_ x887005 x896000).f0) ((a7_ x887005 x896000).f1) x887006 x896000 x896001 x896002 x896003 x896004 x896005 x887002 x888000 x888001 x888002 x888003 x888004).bind fun bt897 => (some bt897.1)) else (none)) else (none))))
def elastic_safe.f (k : Nat) (a0_0 a0_1 a0_2 a0_3 : Int) (l0_4 : List (S51)) (l0_5 : List (S24)) (l0_6 : List (S41)) (l0_7 : List (S105)) (l0_8 : List (S149)) (a1_0 a1_1 a1_2 : Int) (a1_3 : Bool) (l1_4 : List (S52)) : Option (Bool) := (elastic_Head.f a0_0 a0_1 a0_2 a0_3 l0_4 l0_5 l0_6 l0_7 l0_8).bind fun bt888 => (if bt888.2.2.2.2.2.2 = true then (elastic_safe.j0 k (a1_0 == a0_1) a0_0 a0_1 a0_2 a0_3 l0_4 l0_5 l0_6 l0_7 l0_8 a1_0 a1_1 a1_2 a1_3 l1_4 bt888.1 bt888.2.1 bt888.2.2.1 bt888.2.2.2.1 bt888.2.2.2.2.1 bt888.2.2.2.2.2.1) else (elastic_safe.j0 k true a0_0 a0_1 a0_2 a0_3 l0_4 l0_5 l0_6 l0_7 l0_8 a1_0 a1_1 a1_2 a1_3 l1_4 bt888.1 bt888.2.1 bt888.2.2.1 bt888.2.2.2.1 bt888.2.2.2.2.1 bt888.2.2.2.2.2.1))
set_option maxHeartbeats 8000000 in
set_option maxRecDepth 100000 in
theorem elastic_safe.calls (k : Nat) (a0_0 a0_1 a0_2 a0_3 : Int) (A0_4 : Option Addr) (c0_4 : Nat) (l0_4 : List (S51)) (A0_5 : Option Addr) (c0_5 : Nat) (l0_5 : List (S24)) (A0_6 : Option Addr) (c0_6 : Nat) (l0_6 : List (S41)) (A0_7 : Option Addr) (c0_7 : Nat) (l0_7 : List (S105)) (A0_8 : Option Addr) (c0_8 : Nat) (l0_8 : List (S149)) (a1_0 a1_1 a1_2 : Int) (a1_3 : Bool) (A1_4 : Option Addr) (c1_4 : Nat) (l1_4 : List (S52)) (r : Bool) (w : World) (hr0_4 : Kd.C k51 w A0_4 l0_4.length l0_4) (hc0_4 : l0_4.length ≤ c0_4) (hr0_5 : Kd.C k24 w A0_5 l0_5.length l0_5) (hc0_5 : l0_5.length ≤ c0_5) (hr0_6 : Kd.C k41 w A0_6 l0_6.length l0_6) (hc0_6 : l0_6.length ≤ c0_6) (hr0_7 : Kd.C k105 w A0_7 l0_7.length l0_7) (hc0_7 : l0_7.length ≤ c0_7) (hr0_8 : Kd.C k149 w A0_8 l0_8.length l0_8) (hc0_8 : l0_8.length ≤ c0_8) (hr1_4 : Kd.C k52 w A1_4 l1_4.length l1_4) (hc1_4 : l1_4.length ≤ c1_4) (h : elastic_safe.f k a0_0 a0_1 a0_2 a0_3 l0_4 l0_5 l0_6 l0_7 l0_8 a1_0 a1_1 a1_2 a1_3 l1_4 = some r) :
  Calls Try.prog 97 #[.agg #[.int .i64 a0_0, .int .i64 a0_1, .int .i64 a0_2, .int .i64 a0_3, .slice A0_4 l0_4.length c0_4, .slice A0_5 l0_5.length c0_5, .slice A0_6 l0_6.length c0_6, .slice A0_7 l0_7.length c0_7, .slice A0_8 l0_8.length c0_8], .agg #[.int .i64 a1_0, .int .i64 a1_1, .int .i64 a1_2, .bool a1_3, .slice A1_4 l1_4.length c1_4]] w fun e w' => e = .returned (.bool r) ∧ Below w.heap.size w w' := by
 have hu86 := Try.underlying86
 have hu41 := Try.underlying41
 have hu29 := Try.underlying29
 have hu24 := Try.underlying24
 have hu27 := Try.underlying27
 have : Be w w := ⟨Below.refl _ _⟩
 unfold elastic_safe.f at h
 replace h := bindS h
 obtain ⟨⟨q, m, s1, s2, s3, s4, ok⟩, hH, h⟩ := h
 simp only at h
 have HH := m_ hH
 have H := m_ h
 clear hH h
 go_enter Try.func97, Try.ntmps97
 go_upto_region 2 with (first | ((with_reducible refine a3_ (N := 2) rfl ?_); refine bxT 2 #[.int .i64 a0_0, .int .i64 a0_1, .int .i64 a0_2, .int .i64 a0_3, .slice A0_4 l0_4.length c0_4, .slice A0_5 l0_5.length c0_5, .slice A0_6 l0_6.length c0_6, .slice A0_7 l0_7.length c0_7, .slice A0_8 l0_8.length c0_8] 86 ?_; intro g2 w2 _ _ _) | ((with_reducible refine a3_ (N := 3) rfl ?_); refine bxT 3 #[.int .i64 a1_0, .int .i64 a1_1, .int .i64 a1_2, .bool a1_3, .slice A1_4 l1_4.length c1_4] 41 ?_; intro g3 w3 _ _ _) | (go_at_call 60; refine (elastic_Head.calls _ _ _ _ _ _ _ _ _ _ _ _ _ _ _ _ _ _ _ _ _ _ _ _ _ _ _ (Kd.C_below hr0_4 Be.out) hc0_4 (Kd.C_below hr0_5 Be.out) hc0_5 (Kd.C_below hr0_6 Be.out) hc0_6 (Kd.C_below hr0_7 Be.out) hc0_7 (Kd.C_below hr0_8 Be.out) hc0_8 HH.out).mono ?_; rintro e wh ⟨rfl, hb⟩; have := Bl.mk hb; clear hb))
 obtain ⟨g5, w5, _, _, _, e1, e2⟩ := nameA wh #[.int .i64 q, .int .i64 m, .int .i64 s1, .int .i64 s2, .int .i64 s3, .int .i64 s4] 29
 rw [e1, e2]
 clear e1 e2
 have hh := H.out
 clear H HH
 cases ok with
 | false =>
  rw [if_neg (by decide)] at hh
  cases k with
  | zero => exact absurd hh (by simp [elastic_safe.j0])
  | succ k =>
   rw [elastic_safe.j0, if_pos rfl] at hh
   obtain rfl := Option.some.inj hh
   clear hh
   go_wp2
   go_ret
   exact ⟨rfl, Be.out⟩
 | true =>
  rw [if_pos rfl] at hh
  cases k with
  | zero => exact absurd hh (by simp [elastic_safe.j0])
  | succ k =>
   rw [elastic_safe.j0] at hh
   by_cases hi : a1_0 = a0_1
   ·have t : (a1_0 == a0_1) = true := beq_iff_eq.2 hi
    rw [t, if_pos rfl] at hh
    obtain rfl := Option.some.inj hh
    clear hh
    clear hi
    go_wp2
    go_ret
    exact ⟨rfl, Be.out⟩
   ·have t : (a1_0 == a0_1) = false := beq_eq_false_iff_ne.2 hi
    rw [t, if_neg (by decide)] at hh
    by_cases c1 : q < 0
    ·rw [if_pos c1] at hh
     obtain rfl := Option.some.inj hh
     clear hh
     have q1 := decide_eq_true c1
     clear c1 hi
     go_wp2
     go_ret
     exact ⟨rfl, Be.out⟩
    rw [if_neg c1] at hh
    by_cases c2 : q ≥ (l0_5.length : Int)
    ·rw [if_pos c2] at hh
     obtain rfl := Option.some.inj hh
     clear hh
     have q1 := decide_eq_false c1
     have q2 := decide_eq_true c2
     clear c1 c2 hi
     go_wp2
     go_ret
     exact ⟨rfl, Be.out⟩
    rw [if_neg c2, if_pos (by omega), if_pos (by omega)] at hh
    replace hh := bindS hh
    obtain ⟨⟨r1, r2⟩, hS, hh⟩ := hh
    simp only at hh
    obtain rfl := Option.some.inj hh
    clear hh
    have HS := m_ hS
    clear hS
    have p1 : decide (q < 0) = false := decide_eq_false c1
    have p2 : decide (q ≥ (l0_5.length : Int)) = false := decide_eq_false c2
    have p3 : (0 ≤ q) = True := eq_true (by omega)
    have p4 : (q < (l0_5.length : Int)) = True := eq_true (by omega)
    obtain ⟨ad, hea, y0, y1⟩ := at_T24 hr0_5 q (by omega) (by omega)
    subst hea
    clear c1 c2
    go_upto_region 6 with (fail)
    clear p1 p2
    go_region_held3 (fun w' => w'.cell? ⟨g2, 0, none⟩ = some (.int .i64 a0_0) ∧ w'.cell? ⟨g2, 4, none⟩ = some (.slice A0_4 l0_4.length c0_4) ∧ w'.cell? ⟨g2, 5, none⟩ = some (.slice (some ad) l0_5.length c0_5) ∧ w'.cell? ⟨g2, 6, none⟩ = some (.slice A0_6 l0_6.length c0_6) ∧ w'.cell? ⟨g2, 2, none⟩ = some (.int .i64 a0_2) ∧ w'.cell? ⟨g5, 0, none⟩ = some (.int .i64 q) ∧ w'.cell? ⟨g5, 1, none⟩ = some (.int .i64 m) ∧ w'.cell? ⟨g5, 2, none⟩ = some (.int .i64 s1) ∧ w'.cell? ⟨g5, 3, none⟩ = some (.int .i64 s2) ∧ w'.cell? ⟨g5, 4, none⟩ = some (.int .i64 s3) ∧ w'.cell? ⟨g5, 5, none⟩ = some (.int .i64 s4) ∧ w'.cell? ⟨g3, 0, none⟩ = some (.int .i64 a1_0) ∧ w'.cell? ⟨g3, 1, none⟩ = some (.int .i64 a1_1) ∧ w'.cell? ⟨g3, 2, none⟩ = some (.int .i64 a1_2) ∧ w'.cell? ⟨g3, 3, none⟩ = some (.bool a1_3) ∧ w'.cell? ⟨g3, 4, none⟩ = some (.slice A1_4 l1_4.length c1_4) ∧ w'.cell? (ad.add (q.toNat * 2)) = some (.int .i64 (a7_ l0_5 q).f0) ∧ w'.cell? ⟨(ad.add (q.toNat * 2)).block, (ad.add (q.toNat * 2)).off + 1, none⟩ = some (.int .i64 (a7_ l0_5 q).f1)) (((repeat' (refine And.intro ?_ ?_)) <;> first | exact (cellBx _).trans rfl | exact e1_ Be.out y0 | exact e1_ Be.out y1)) ((go_at_call 37; refine (fill_Safe.calls _ _ _ _ _ _ _ _ _ _ _ _ _ _ _ _ _ _ _ _ _ _ _ _ _ _ (Kd.C_below hr0_4 Be.out) hc0_4 (Kd.C_below hr0_6 Be.out) hc0_6 (Kd.C_below hr1_4 Be.out) hc1_4 HS.out).mono ?_; rintro e ws ⟨rfl, hb⟩; have := Bl.mk hb; clear hb))
    go_wp2
    go_ret
    exact ⟨rfl, Be.out⟩
end Go.Proofs.Ytckhjehibjdjdaa.P
