/- WorkerRests: part 3 of the walk and of the plain law that it comes to. No condition. -/
import Derived.Test.YtckhjehibjdjdaaZWorkerRests2
import Derived.ArgAppend
import Derived.Below
import Derived.BigQuiet
import Derived.BigRegion
import Derived.Carry
import Derived.Deep.AppendLies
import Derived.Deep.CutBlock
import Derived.Deep.DeepCutAuto
import Derived.Deep.Draws
import Derived.Deep.LoopGhost
import Derived.Deep.OwnRows
import Derived.Deep.QuietTactic
import Derived.Deep.RegionHeld3
import Derived.DeepKeys3
import Derived.KernelRfl
import Derived.Laws.Bits64
import Derived.Laws.Bits64b
import Derived.Laws.BitsLemmas
import Derived.Laws.BytesArg
import Derived.Laws.Externs
import Derived.Laws.IdiomCopy
import Derived.Laws.MakeOwn
import Derived.Laws.OwnMore
import Derived.Laws.Rows
import Derived.Laws.Slices
import Derived.Lib.AppendStr
import Derived.Lib.ConvBytes
import Derived.Lib.ReflectliteSlice
import Derived.Lib.ReflectliteSwap
import Derived.Lib.SliceRun
import Derived.LoopIn
import Derived.LoopN
import Derived.LoopNIn
import Derived.Maps.AppendAt
import Derived.Maps.Keyed
import Derived.Maps.Own
import Derived.Maps.OwnOps
import Derived.Maps.OwnSet
import Derived.Maps.Views
import Derived.OrdersHeld
import Derived.Outline
import Derived.OwnWalk
import Derived.OwnWalkIn
import Derived.RangeFuncBound
import Derived.RangeFuncBox
import Derived.RangeFuncCalls
import Derived.RangeFuncFrom
import Derived.RangeFuncLeaves
import Derived.RangeFuncNested
import Derived.RowKit
import Derived.RowKit3
import Derived.Shelf.Abstract
import Derived.Shelf.RegionOpen
import Derived.StillTailTactics
import Derived.Tactics
import Derived.TacticsInMore
import Derived.WalkKit
import Derived.WideLaws
set_option linter.unusedVariables false
set_option linter.unusedSimpArgs false
namespace Go.Proofs.Ytckhjehibjdjdaa.P
open Go.RowKit Go.Proofs.YtckhjehibjdjdaaW.PrintWords Go.Proofs.YtckhjehibjdjdaaW.PrintLast Go.Proofs.YtckhjehibjdjdaaW.PrintMore
attribute [local go_sem] max2_int min2_int max_two min_two max_three min_three max_four min_four
def ensembleref05_masks.l0 : Nat → Int → Int → List Int → Int → Option (Int)
 | 0, _, _, _, _ => none
 | k + 1, x1, x5, x6, x7 => if x7 < (x6.length : Int) then (if 0 ≤ x7 then ((ensembleref01_Has.f k x1 (rd x6 x7)).bind fun t180 => (if t180 = true then (ensembleref05_masks.l0 k x1 (wrap64 (x5 + 1)) x6 (wrap64 (x7 + 1))) else (ensembleref05_masks.l0 k x1 x5 x6 (wrap64 (x7 + 1))))) else (none)) else (some x5)
def ensembleref05_masks.f (k : Nat) (a0 a1 : Int) : Option (Int) := (ensembleref01_Units.f k a0).bind fun t176 => (ensembleref05_masks.l0 k a1 0 t176 0)
set_option maxHeartbeats 8000000 in
set_option maxRecDepth 100000 in
theorem ensembleref05_masks.calls (k : Nat) (a0 a1 r : Int) (w : World) (h : ensembleref05_masks.f k a0 a1 = some r) :
  Calls Try.prog 80 #[.int .u64 a0, .int .u64 a1] w fun e w' => e = .returned (.int .i64 r) ∧ Below w.heap.size w w' := by
 have HB := m_ (Below.refl w.heap.size w)
 have H := h
 unfold ensembleref05_masks.f at H
 clear h
 replace H := Option.bind_eq_some_iff.mp H
 obtain ⟨t176, A30, H⟩ := H
 try dsimp only at H
 have A3 := m_ A30
 clear A30
 have H' := m_ H
 clear H
 go_enter Try.func80, Try.ntmps80
 go_wp2_with (first | ((with_reducible refine b3_ (f := 82) rfl ?_); refine goesL_ (some 9) rfl rfl Try.func82 (by kernel_rfl) rfl #[.int .u64 a0] rfl Z0 ?_; (with_reducible refine (ensembleref01_Units.calls k a0 t176 _ A3.out).mono ?_); rintro e w4 ⟨v177, rfl, ho0, hb⟩; refine ⟨_, rfl, ?_⟩; have HO178 := m_ (Kd.R_lower ho0 (b7_ hb_)); replace HB := hs_ hb; (try clear hb); (try clear hb2); (try clear hk); (try clear hi); (try clear ho0)))
 go_loopg [5, 7] k (fun kq v5 v7 w' => ∃ (x5_1 : Int) (x7_1 : Int), v5 = .int .i64 x5_1 ∧ v7 = .int .i64 x7_1 ∧ A_ (ensembleref05_masks.l0 kq a1 x5_1 t176 x7_1 = some r) ∧ A_ (kq ≤ k) ∧ A_ (Kd.R (Kd.int .i64) 3 w' w.heap.size (fun _ => True) v177 t176) ∧ A_ (Below w.heap.size w w'))
 case atStart => exact ⟨(0), (0), Z1, Z1, H', ⟨Nat.le_refl _⟩, ⟨by (with_reducible repeat (first | apply Kd.R_alloc | apply Kd.R_drewN | apply Kd.R_drew)); exact HO178.out⟩, ⟨hb_⟩⟩
 case round =>
  clear H'
  try clear p2
  obtain ⟨x5_1, x7_1, rfl, rfl, HA, HK1, HO_6, HB⟩ := hrel
  cases gk with
  | zero => exact absurd HA.out (by simp [ensembleref05_masks.l0])
  | succ k1 =>
   have H := HA.out
   clear HA
   simp only [ensembleref05_masks.l0] at H
   by_cases c5 : x7_1 < (t176.length : Int)
   ·rw [if_pos c5] at H
    have c5b0 : decide (x7_1 < (t176.length : Int)) = true := decide_eq_true c5
    clear c5
    by_cases c6 : 0 ≤ x7_1
    ·rw [if_pos c6] at H
     have c6b0 : decide (0 ≤ x7_1) = true := decide_eq_true c6
     clear c6
     replace H := Option.bind_eq_some_iff.mp H
     obtain ⟨t180, A70, H⟩ := H
     try dsimp only at H
     have A7 := m_ A70
     clear A70
     by_cases c8 : t180 = true
     ·subst c8
      have H1 : (ensembleref05_masks.l0 k1 a1 (wrap64 (x5_1 + 1)) t176 (wrap64 (x7_1 + 1))) = some r := by rw [if_pos rfl] at H; exact H
      clear H
      have H := H1
      clear H1
      have H' := m_ H
      clear H
      obtain ⟨Ao9, co9, eo9⟩ := Kd.R_slice HO_6.out
      subst eo9
      have p179 : 0 ≤ (x7_1 : Int) := of_decide_eq_true Z4
      have q179 : x7_1 < (t176.length : Int) := of_decide_eq_true Z4
      obtain ⟨ad179, e179, hx179_0⟩ := Kd.at_int (Kd.R_reads' HO_6.out).2.2 x7_1 p179 q179
      cases e179
      replace p179 := eq_true p179
      replace q179 := eq_true q179
      go_wp2_with (first | ((with_reducible refine b3_ (f := 106) rfl ?_); refine goesL_ (some 21) rfl rfl Try.func106 (by kernel_rfl) rfl #[.int .u64 a1, .int .i64 (rd t176 x7_1)] rfl Z0 ?_; (with_reducible refine (ensembleref01_Has.calls k1 a1 (rd t176 x7_1) true _ A7.out).mono ?_); rintro e w' ⟨rfl, ⟨nd, rfl⟩⟩; refine ⟨_, rfl, ?_⟩))
      go_roundg k1
      case measure => have := HK1.out; omega
      case rel => exact ⟨(wrap64 (x5_1 + 1)), (wrap64 (x7_1 + 1)), Z1, Z1, H', ⟨by have := HK1.out; omega⟩, ⟨by (with_reducible repeat (first | apply Kd.R_alloc | apply Kd.R_drewN | apply Kd.R_drew)); exact HO_6.out⟩, ⟨hb_⟩⟩
     ·replace c8 := Bool.eq_false_iff.mpr c8
      subst c8
      have H1 : (ensembleref05_masks.l0 k1 a1 x5_1 t176 (wrap64 (x7_1 + 1))) = some r := by rw [if_neg (show ¬ (false = true) by decide)] at H; exact H
      clear H
      have H := H1
      clear H1
      have H' := m_ H
      clear H
      obtain ⟨Ao10, co10, eo10⟩ := Kd.R_slice HO_6.out
      subst eo10
      have p179 : 0 ≤ (x7_1 : Int) := of_decide_eq_true Z4
      have q179 : x7_1 < (t176.length : Int) := of_decide_eq_true Z4
      obtain ⟨ad179, e179, hx179_0⟩ := Kd.at_int (Kd.R_reads' HO_6.out).2.2 x7_1 p179 q179
      cases e179
      replace p179 := eq_true p179
      replace q179 := eq_true q179
      go_wp2_with (first | ((with_reducible refine b3_ (f := 106) rfl ?_); refine goesL_ (some 21) rfl rfl Try.func106 (by kernel_rfl) rfl #[.int .u64 a1, .int .i64 (rd t176 x7_1)] rfl Z0 ?_; (with_reducible refine (ensembleref01_Has.calls k1 a1 (rd t176 x7_1) false _ A7.out).mono ?_); rintro e w' ⟨rfl, ⟨nd, rfl⟩⟩; refine ⟨_, rfl, ?_⟩))
      go_roundg k1
      case measure => have := HK1.out; omega
      case rel => exact ⟨(x5_1), (wrap64 (x7_1 + 1)), Z1, Z1, H', ⟨by have := HK1.out; omega⟩, ⟨by (with_reducible repeat (first | apply Kd.R_alloc | apply Kd.R_drewN | apply Kd.R_drew)); exact HO_6.out⟩, ⟨hb_⟩⟩
    ·rw [if_neg c6] at H
     exact absurd H (by simp)
   ·rw [if_neg c5] at H
    have c5b0 : decide (x7_1 < (t176.length : Int)) = false := decide_eq_false c5
    clear c5
    obtain rfl := Option.some.inj H
    obtain ⟨Ao11, co11, eo11⟩ := Kd.R_slice HO_6.out
    subst eo11
    go_wp2
    go_ret
    exact ⟨by first | rfl | (simp [b2_, b1_] <;> rfl) | (simp [*, b2_, b1_] <;> rfl), hb_⟩
end Go.Proofs.Ytckhjehibjdjdaa.P
namespace Go.Proofs.Ytckhjehibjdjdaa.P
open Go.RowKit Go.Proofs.YtckhjehibjdjdaaW.PrintWords Go.Proofs.YtckhjehibjdjdaaW.PrintLast Go.Proofs.YtckhjehibjdjdaaW.PrintMore
open Go.Proofs.Ytckhjehibjdjdaa.Bits Go.Proofs.Ytckhjehibjdjdaa.Mp
theorem u64_id {x : Int} (h0 : 0 ≤ x) (h1 : x < 18446744073709551616) : IntKind.u64.wrap x = x := by
 obtain ⟨n, rfl⟩ := Int.eq_ofNat_of_zero_le h0
 rw [wrapN, Nat.mod_eq_of_lt (by omega)]
theorem half_nat (M j : Nat) (hM : M < 18446744073709551616) : IntKind.u64.wrap (Int.tdiv ((M / 2 ^ j : Nat) : Int) 2) = ((M / 2 ^ (j + 1) : Nat) : Int) := by
 have h1 : M / 2 ^ (j + 1) = M / 2 ^ j / 2 := by rw [Nat.pow_succ, Nat.div_div_eq_div_mul]
 have h2 : M / 2 ^ j ≤ M := Nat.div_le_self _ _
 generalize M / 2 ^ j = a at *
 rw [h1, Int.tdiv_eq_ediv_of_nonneg (by omega), u64_id (by omega) (by omega)]
 omega
theorem has_l (M : Nat) (hM : M < 18446744073709551616) (n : Nat) : ∀ j i : Nat, j ≤ i → i - j = n → i < 64 → Ev (fun k => ensembleref01_Has.l0 k ((M / 2 ^ j : Nat) : Int) (i : Int) (j : Int)) (M.testBit i) := by
 induction n with
 | zero =>
  intro j i hj hn hi
  obtain rfl : j = i := by omega
  refine Ev.step (f := fun _ => some (M.testBit j)) (fun k => ?_) (Ev.now _)
  rw [ensembleref01_Has.l0, if_neg (by omega), if_pos (by omega), if_pos (by omega), Nat.testBit_eq_decide_div_mod_eq]
  generalize M / 2 ^ j = a
  rw [Int.tmod_eq_emod_of_nonneg (by omega)]
  congr 1
  rw [Bool.eq_iff_iff]
  simp
  omega
 | succ n ih =>
  intro j i hj hn hi
  refine Ev.step (f := fun k => ensembleref01_Has.l0 k ((M / 2 ^ (j + 1) : Nat) : Int) (i : Int) ((j + 1 : Nat) : Int)) (fun k => ?_) (ih (j + 1) i (by omega) (by omega) hi)
  rw [ensembleref01_Has.l0, if_pos (by omega), half_nat M j hM, w_id (by omega)]
  congr 1
theorem has_ev (M i : Nat) (hM : M < 18446744073709551616) (hi : i < 64) : Ev (fun k => ensembleref01_Has.f k (M : Int) (i : Int)) (M.testBit i) := by
 have := has_l M hM i 0 i (by omega) (by omega) hi
 rw [Nat.pow_zero, Nat.div_one] at this
 exact this
def posI (M : Nat) : List Int := (pos M).map fun (i : Nat) => (i : Int)
def posTo (M i : Nat) : List Int := ((List.range i).filter fun j => M.testBit j).map fun (i : Nat) => (i : Int)
theorem posTo_len (M i : Nat) : (posTo M i).length ≤ i := by
 unfold posTo; rw [List.length_map]
 exact Nat.le_trans (List.length_filter_le _ _) (by simp)
theorem units_l (M : Nat) (hM : M < 18446744073709551616) (n : Nat) : ∀ i : Nat, i ≤ 64 → 64 - i = n → Ev (fun k => ensembleref01_Units.l0 k (M : Int) (posTo M i) (i : Int)) (posI M) := by
 induction n with
 | zero =>
  intro i hi hn
  obtain rfl : i = 64 := by omega
  refine Ev.step (f := fun _ => some (posI M)) (fun k => ?_) (Ev.now _)
  rw [ensembleref01_Units.l0, if_neg (by omega)]; rfl
 | succ n ih =>
  intro i hi hn
  refine Ev.step (fun k => by rw [ensembleref01_Units.l0, if_pos (by omega)]) (Ev.bind (has_ev M i hM (by omega)) ?_)
  have I := ih (i + 1) (by omega) (by omega)
  have hl := posTo_len M i
  refine Ev.congr (fun k => ?_) I
  have e1 : wrap64 ((i : Int) + 1) = ((i + 1 : Nat) : Int) := by rw [w_id (by omega)]; omega
  have e2 : posTo M (i + 1) = if M.testBit i = true then posTo M i ++ [(i : Int)] else posTo M i := by
   unfold posTo
   rw [List.range_succ, List.filter_append, List.map_append]
   split
   ·rename_i h; simp [h]
   ·rename_i h; simp [h]
  rw [e1, e2]
  split
  ·rw [if_pos (by omega)]
  ·rfl
theorem units_ev (M : Nat) (hM : M < 18446744073709551616) : Ev (fun k => ensembleref01_Units.f k (M : Int)) (posI M) := units_l M hM 64 0 (by omega) (by omega)
theorem posI_len (M : Nat) : ((posI M).length : Int) = popI (M : Int) := by
 unfold posI popI popN; simp
theorem posI_get (M i : Nat) (h : i < (posI M).length) : rd (posI M) (i : Int) = (((pos M)[i]'(by unfold posI at h; simpa using h) : Nat) : Int) := by
 simp [rd, posI, List.getD_eq_getElem?_getD] at h ⊢
 rw [List.getElem?_eq_getElem h]; rfl
theorem bit_l (u : Nat) (hu : u < 64) (n : Nat) : ∀ j : Nat, j ≤ u → u - j = n → Ev (fun k => ensembleref01_bit.l0 k (u : Int) ((2 ^ j : Nat) : Int) (j : Int)) ((2 ^ u : Nat) : Int) := by
 induction n with
 | zero =>
  intro j hj hn
  obtain rfl : j = u := by omega
  refine Ev.step (f := fun _ => some ((2 ^ j : Nat) : Int)) (fun k => ?_) (Ev.now _)
  rw [ensembleref01_bit.l0, if_neg (by omega)]
 | succ n ih =>
  intro j hj hn
  refine Ev.step (f := fun k => ensembleref01_bit.l0 k (u : Int) ((2 ^ (j + 1) : Nat) : Int) ((j + 1 : Nat) : Int)) (fun k => ?_) (ih (j + 1) (by omega) (by omega))
  have h2 : 2 ^ (j + 1) ≤ 2 ^ 63 := Nat.pow_le_pow_right (by omega) (by omega)
  rw [Nat.pow_succ] at h2 ⊢
  rw [ensembleref01_bit.l0, if_pos (by omega), u64_id (by omega) (by omega), w_id (by omega)]
  congr 1
theorem bit_ev (u : Nat) (hu : u < 64) : Ev (fun k => ensembleref01_bit.f k (u : Int)) ((2 ^ u : Nat) : Int) := bit_l u hu u 0 (by omega) (by omega)
def sumP (l : List Nat) : Nat := (l.map fun i => 2 ^ i).sum
theorem sumP_append (a b : List Nat) : sumP (a ++ b) = sumP a + sumP b := by simp [sumP]
theorem orAll_lt_n {l : List Nat} {n : Nat} (h : ∀ i ∈ l, i < n) : orAll l < 2 ^ n := by
 refine Nat.lt_pow_two_of_testBit _ fun j hj => ?_
 rw [testBit_orAll, decide_eq_false]
 intro hm
 have := h j hm
 omega
theorem sumP_orAll (l : List Nat) (hp : l.Pairwise (· < ·)) : ∀ n : Nat, n ≤ l.length → sumP (l.take n) = orAll (l.take n) := by
 intro n
 induction n with
 | zero => intro _; simp [sumP, orAll]
 | succ n ih =>
  intro hn
  have hlt : n < l.length := by omega
  have hb : orAll (l.take n) < 2 ^ l[n] := orAll_lt_n fun i hi => by
   obtain ⟨j, hj, rfl⟩ := List.mem_iff_getElem.1 hi
   rw [List.getElem_take]
   rw [List.length_take] at hj
   exact List.pairwise_iff_getElem.1 hp j n (by omega) hlt (by omega)
  have h1 := Nat.two_pow_add_eq_or_of_lt hb 1
  rw [Nat.mul_one, Nat.or_comm] at h1
  rw [List.take_succ_eq_append_getElem hlt, sumP_append, orAll_snoc, ih (by omega), ← h1]
  simp [sumP]
  omega
theorem sumP_lt (l : List Nat) (hp : l.Pairwise (· < ·)) (h : ∀ i ∈ l, i < 64) (n : Nat) (hn : n ≤ l.length) : sumP (l.take n) < 18446744073709551616 := by
 rw [sumP_orAll l hp n hn]
 exact orAll_lt_n (n := 64) fun i hi => h i (List.mem_of_mem_take hi)
theorem lowest_l (M n : Nat) (hM : M < 18446744073709551616) (hn : n ≤ popN M) (d : Nat) : ∀ j : Nat, j ≤ n → n - j = d → Ev (fun k => ensembleref01_Lowest.l0 k (n : Int) (posI M) ((sumP ((pos M).take j) : Nat) : Int) (j : Int)) ((lowN M n : Nat), 0) := by
 have h64 : popN M ≤ 64 := popN_le M
 have hb64 : ∀ i ∈ pos M, i < 64 := fun i hi => (mem_pos.1 hi).1
 induction d with
 | zero =>
  intro j hj hd
  obtain rfl : j = n := by omega
  refine Ev.step (f := fun _ => some (((lowN M j : Nat) : Int), (0 : Int))) (fun k => ?_) (Ev.now _)
  rw [ensembleref01_Lowest.l0, if_neg (by omega), sumP_orAll (pos M) (pos_sorted M) j (by unfold popN at hn; omega)]; rfl
 | succ d ih =>
  intro j hj hd
  have hjl : j < (pos M).length := by unfold popN at hn; omega
  have hji : j < (posI M).length := by unfold posI; simpa using hjl
  refine Ev.step (fun k => by rw [ensembleref01_Lowest.l0, if_pos (by omega), if_pos (by omega), if_pos (by omega), posI_get M j hji]) (Ev.bind (bit_ev _ (hb64 _ (List.getElem_mem hjl))) ?_)
  refine Ev.congr (fun k => ?_) (ih (j + 1) (by omega) (by omega))
  have hs := sumP_lt (pos M) (pos_sorted M) hb64 (j + 1) (by omega)
  rw [List.take_succ_eq_append_getElem hjl, sumP_append] at hs ⊢
  have e : sumP [(pos M)[j]] = 2 ^ (pos M)[j] := by simp [sumP]
  rw [e] at hs ⊢
  rw [u64_id (by omega) (by omega), w_id (by omega)]
  congr 1
theorem lowest_ev (M : Nat) (n : Int) (hM : M < 18446744073709551616) : Ev (fun k => ensembleref01_Lowest.f k (M : Int) n) (if n < 0 then (0, 1) else if n > popI (M : Int) then (0, 2) else (lowI (M : Int) n, 0)) := by
 by_cases h0 : n < 0
 ·rw [if_pos h0]
  exact Ev.congr (fun k => by rw [ensembleref01_Lowest.f, if_pos h0]) (Ev.now _)
 ·rw [if_neg h0]
  obtain ⟨n, rfl⟩ := Int.eq_ofNat_of_zero_le (show 0 ≤ n by omega)
  refine Ev.congr (fun k => by rw [ensembleref01_Lowest.f, if_neg h0]) (Ev.bind (units_ev M hM) ?_)
  have hl := posI_len M
  by_cases h1 : (n : Int) > popI (M : Int)
  ·rw [if_pos h1]
   exact Ev.congr (fun k => by rw [if_pos (by omega)]) (Ev.now _)
  ·rw [if_neg h1]
   have h2 : n ≤ popN M := by unfold popI at h1; rw [Int.toNat_natCast] at h1; omega
   refine Ev.congr (fun k => by rw [if_neg (by omega)]) ?_
   have := lowest_l M n hM h2 n 0 (by omega) (by omega)
   simp only [List.take_zero] at this
   exact this
theorem and_lt64 {a b : Nat} (ha : a < 18446744073709551616) : a &&& b < 18446744073709551616 := Nat.lt_of_le_of_lt Nat.and_le_left ha
def comm (A B : Nat) (l : List Nat) : Nat := (l.filter fun i => B.testBit i).length
theorem masks_l (A B : Nat) (hA : A < 18446744073709551616) (hB : B < 18446744073709551616) (d : Nat) : ∀ j : Nat, j ≤ (pos A).length → (pos A).length - j = d → Ev (fun k => ensembleref05_masks.l0 k (B : Int) ((comm A B ((pos A).take j) : Nat) : Int) (posI A) (j : Int)) ((comm A B (pos A) : Nat) : Int) := by
 have h64 : popN A ≤ 64 := popN_le A
 have hb64 : ∀ i ∈ pos A, i < 64 := fun i hi => (mem_pos.1 hi).1
 have hlen : (posI A).length = (pos A).length := by unfold posI; simp
 unfold popN at h64
 induction d with
 | zero =>
  intro j hj hd
  obtain rfl : j = (pos A).length := by omega
  refine Ev.step (f := fun _ => some ((comm A B (pos A) : Nat) : Int)) (fun k => ?_) (Ev.now _)
  rw [ensembleref05_masks.l0, if_neg (by omega), List.take_length]
 | succ d ih =>
  intro j hj hd
  have hjl : j < (pos A).length := by omega
  have hji : j < (posI A).length := by omega
  refine Ev.step (fun k => by rw [ensembleref05_masks.l0, if_pos (by omega), if_pos (by omega), posI_get A j hji]) (Ev.bind (has_ev B _ hB (hb64 _ (List.getElem_mem hjl))) ?_)
  refine Ev.congr (fun k => ?_) (ih (j + 1) (by omega) (by omega))
  have hc : comm A B ((pos A).take j) ≤ 64 := by
   unfold comm
   refine Nat.le_trans (List.length_filter_le _ _) ?_
   rw [List.length_take]; omega
  have e2 : comm A B ((pos A).take (j + 1)) = comm A B ((pos A).take j) + if B.testBit (pos A)[j] = true then 1 else 0 := by
   unfold comm
   rw [List.take_succ_eq_append_getElem hjl, List.filter_append, List.length_append]
   split
   ·rename_i h; simp [h]
   ·rename_i h; simp [h]
  rw [e2]
  split
  ·rw [w_id (by omega), w_id (by omega)]; congr 1
  ·rw [w_id (by omega)]; congr 1
theorem comm_pos (A B : Nat) : comm A B (pos A) = popN (A &&& B) := by
 unfold comm popN pos
 rw [List.filter_filter]
 congr 2
 funext i
 rw [Nat.testBit_and, Bool.and_comm]
theorem masks_ev (A B : Nat) (hA : A < 18446744073709551616) (hB : B < 18446744073709551616) : Ev (fun k => ensembleref05_masks.f k (A : Int) (B : Int)) ((popN (A &&& B) : Nat) : Int) := by
 unfold ensembleref05_masks.f
 refine Ev.bind (units_ev A hA) ?_
 have := masks_l A B hA hB (pos A).length 0 (by omega) (by omega)
 rw [comm_pos, List.take_zero] at this
 exact this
theorem popN_zero_iff (A : Nat) (hA : A < 18446744073709551616) : popN A = 0 ↔ A = 0 := by
 unfold popN
 constructor
 ·intro h
  have := orAll_pos (m := A) (by simpa using hA)
  rw [List.eq_nil_of_length_eq_zero h] at this
  rw [← this]; rfl
 ·rintro rfl
  rw [pos_zero]; rfl
end Go.Proofs.Ytckhjehibjdjdaa.P
namespace Go.Proofs.Ytckhjehibjdjdaa.P
open Go.RowKit Go.Proofs.YtckhjehibjdjdaaW.PrintWords Go.Proofs.YtckhjehibjdjdaaW.PrintLast Go.Proofs.YtckhjehibjdjdaaW.PrintMore
attribute [local go_sem] max2_int min2_int max_two min_two max_three min_three max_four min_four
def ensembleref04_Piece.f (k : Nat) (a0_0 a0_1 a0_2 a0_3 a1_0 a1_1 a1_2 a1_3 : Int) : Option (Int × Int × Int × Int × Int × Int × Int × Int × Int) := (ensembleref01_Lowest.f k a1_2 a0_0).bind fun bt147 => (if bt147.2 = 0 then (if a1_3 < 0 then (some (0, 0, 0, 0, 0, 0, 0, 0, 7)) else (if a1_3 < a0_1 then (some (0, 0, 0, 0, 0, 0, 0, 0, 7)) else (some (a1_0, a1_1, bt147.1, a0_1, a1_0, a1_1, IntKind.u64.wrap (a1_2 - bt147.1), wrap64 (a1_3 - a0_1), 0)))) else (some (0, 0, 0, 0, 0, 0, 0, 0, 7)))
def ensembleref04_Piece.T4 : Bool × List (List Nat × List Nat) := (true, [([], []), ([0], [0]), ([], []), ([], []), ([3], [3]), ([1, 2, 4], [1, 2, 4]), ([], []), ([6], [6]), ([], []), ([8], [8]), ([], []), ([9, 10], [9, 10]), ([], []), ([12], [12]), ([], []), ([14], [14]), ([13, 15], [13, 15]), ([7, 11, 16], [7, 11, 16]), ([5, 0, 1, 2, 3, 4, 5], [5]), ([17, 18, 0, 1, 2, 3, 4, 5, 6, 7, 8, 9, 10, 11, 12, 13, 14, 15, 16, 17, 18], [17]), ([19, 0, 1, 2, 3, 4, 5, 6, 7, 8, 9, 10, 11, 12, 13, 14, 15, 16, 17, 18, 19], [])])
def ensembleref04_Piece.B4 : List Nat := [0, 1, 0, 0, 8, 31, 0, 64, 0, 256, 0, 1792, 0, 4096, 0, 16384, 61440, 131008, 63, 524287, 1048575]
theorem ensembleref04_Piece.tab4 : rtab .any (opsOf Try.f89 4) = ensembleref04_Piece.T4 := by kernel_rfl
theorem ensembleref04_Piece.bits4 : waitsOk ensembleref04_Piece.T4.2 ensembleref04_Piece.B4 = true := by kernel_rfl
set_option maxHeartbeats 8000000 in
set_option maxRecDepth 100000 in
theorem ensembleref04_Piece.calls (k : Nat) (a0_0 a0_1 a0_2 a0_3 a1_0 a1_1 a1_2 a1_3 r1 r2 r3 r4 r5 r6 r7 r8 r9 : Int) (w : World) (h : ensembleref04_Piece.f k a0_0 a0_1 a0_2 a0_3 a1_0 a1_1 a1_2 a1_3 = some (r1, r2, r3, r4, r5, r6, r7, r8, r9)) :
  Calls Try.prog 89 #[.agg #[.int .i64 a0_0, .int .i64 a0_1, .int .i64 a0_2, .int .i64 a0_3], .agg #[.int .i64 a1_0, .int .i64 a1_1, .int .u64 a1_2, .int .i64 a1_3]] w fun e w' => e = .returned (.tuple #[.agg #[.int .i64 r1, .int .i64 r2, .int .u64 r3, .int .i64 r4], .agg #[.int .i64 r5, .int .i64 r6, .int .u64 r7, .int .i64 r8], .int .i64 r9]) ∧ Below w.heap.size w w' := by
 have hu27 := Try.underlying27
 have hu51 := Try.underlying51
 have hu52 := Try.underlying52
 have hu48 := Try.underlying48
 have HB := m_ (Below.refl w.heap.size w)
 have H := h
 unfold ensembleref04_Piece.f at H
 clear h
 replace H := Option.bind_eq_some_iff.mp H
 obtain ⟨⟨t147, t148⟩, A30, H⟩ := H
 try dsimp only at H
 have A3 := m_ A30
 clear A30
 by_cases c4 : t148 = 0
 ·rw [if_pos c4] at H
  have c4b0 : (t148 == 0) = true := beq_iff_eq.mpr c4
  have c4b1 : (t148 != 0) = false := bne_eq_false_iff_eq.mpr c4
  clear c4
  by_cases c5 : a1_3 < 0
  ·rw [if_pos c5] at H
   have c5b0 : decide (a1_3 < 0) = true := decide_eq_true c5
   clear c5
   simp only [Option.some.injEq, Prod.mk.injEq] at H
   obtain ⟨rfl, rfl, rfl, rfl, rfl, rfl, rfl, rfl, rfl⟩ := H
   go_enter Try.func89, Try.ntmps89
   go_wp2_with (first | ((with_reducible refine a3_ (N := 2) rfl ?_); refine bx 2 #[.int .i64 a0_0, .int .i64 a0_1, .int .i64 a0_2, .int .i64 a0_3] 27 ?_; intro gb143 hg w6 hbox hb; have BK143 := m_ (hbox); have GW143 := ge_ hg; have GE143 := ge_ hg; replace HB := hs_ hb; clear hb hbox hg) | ((with_reducible refine a3_ (N := 3) rfl ?_); refine bx 3 #[.int .i64 a1_0, .int .i64 a1_1, .int .u64 a1_2, .int .i64 a1_3] 51 ?_; intro gb144 hg w7 hbox hb; have BK144 := m_ (hbox); have GW144 := ge_ hg; have GE144 := ge_ hg; have NB143_144 := nl_ BK143 hg; have NB144_143 := nr_ BK143 hg; replace BK143 := bk_ BK143 hb; replace HB := hs_ hb; clear hb hbox hg) | ((with_reducible refine a3_ (N := 4) rfl ?_); refine bx 4 #[.int .i64 0, .int .i64 0, .int .u64 0, .int .i64 0] 52 ?_; intro gb145 hg w8 hbox hb; have BK145 := m_ (hbox); have GW145 := ge_ hg; have GE145 := ge_ hg; have NB143_145 := nl_ BK143 hg; have NB145_143 := nr_ BK143 hg; have NB144_145 := nl_ BK144 hg; have NB145_144 := nr_ BK144 hg; replace BK143 := bk_ BK143 hb; replace BK144 := bk_ BK144 hb; replace HB := hs_ hb; clear hb hbox hg) | ((with_reducible refine a3_ (N := 5) rfl ?_); refine bx 5 #[.int .i64 0, .int .i64 0, .int .u64 0, .int .i64 0] 51 ?_; intro gb146 hg w9 hbox hb; have BK146 := m_ (hbox); have GW146 := ge_ hg; have GE146 := ge_ hg; have NB143_146 := nl_ BK143 hg; have NB146_143 := nr_ BK143 hg; have NB144_146 := nl_ BK144 hg; have NB146_144 := nr_ BK144 hg; have NB145_146 := nl_ BK145 hg; have NB146_145 := nr_ BK145 hg; replace BK143 := bk_ BK143 hb; replace BK144 := bk_ BK144 hb; replace BK145 := bk_ BK145 hb; replace HB := hs_ hb; clear hb hbox hg; have hnb10 := NB144_143.out; have hnc10 := NB143_144.out; have hnb11 := NB144_145.out; have hnc11 := NB145_144.out; have hnb12 := NB144_146.out; have hnc12 := NB146_144.out; obtain ⟨hcz13_0, hcz13_1, hcz13_2, hcz13_3, hfz13_0, hfz13_1, hfz13_2, hfz13_3⟩ := bz4_ BK144; have hnb14 := NB143_145.out; have hnc14 := NB145_143.out; have hnb15 := NB143_146.out; have hnc15 := NB146_143.out; obtain ⟨hcz16_0, hcz16_1, hcz16_2, hcz16_3, hfz16_0, hfz16_1, hfz16_2, hfz16_3⟩ := bz4_ BK143) | ((with_reducible refine b3_ (f := 115) rfl ?_); refine goesL_ (some 14) rfl rfl Try.func115 (by kernel_rfl) rfl #[.int .u64 a1_2, .int .i64 a0_0] rfl Z0 ?_; (with_reducible refine (ensembleref01_Lowest.calls k a1_2 a0_0 t147 t148 _ A3.out).mono ?_); rintro e w17 ⟨rfl, hb⟩; refine ⟨_, rfl, ?_⟩; replace BK143 := bk_ BK143 hb; replace BK144 := bk_ BK144 hb; replace BK145 := bk_ BK145 hb; replace BK146 := bk_ BK146 hb; replace HB := hs_ hb; (try clear hb); (try clear hb2); (try clear hk); (try clear hi); obtain ⟨hcz18_0, hcz18_1, hcz18_2, hcz18_3, hfz18_0, hfz18_1, hfz18_2, hfz18_3⟩ := bz4_ BK144; have hnb19 := NB145_146.out; have hnc19 := NB146_145.out; obtain ⟨hcz20_0, hcz20_1, hcz20_2, hcz20_3, hfz20_0, hfz20_1, hfz20_2, hfz20_3⟩ := bz4_ BK145; obtain ⟨hcz21_0, hcz21_1, hcz21_2, hcz21_3, hfz21_0, hfz21_1, hfz21_2, hfz21_3⟩ := bz4_ BK146))
   refine bodyPost_ret (results_list (rs := [.cell 4 52, .cell 5 51, .tmp 6]) rfl (by simp) (.cell gb145 52 #[.int .i64 0, .int .i64 0, .int .u64 0, .int .i64 0] (0, 0) _ rfl (bt_ BK145) Try.underlying52 rfl (by kernel_rfl) (.cell gb146 51 #[.int .i64 0, .int .i64 0, .int .u64 0, .int .i64 0] (0, 0) _ rfl (bt_ BK146) Try.underlying51 rfl (by kernel_rfl) (.tmp .nil)))) rfl ?_
   exact ⟨by first | rfl | (simp [b2_, b1_] <;> rfl) | (simp [*, b2_, b1_] <;> rfl), hb_⟩
  ·rw [if_neg c5] at H
   have c5b0 : decide (a1_3 < 0) = false := decide_eq_false c5
   clear c5
   by_cases c22 : a1_3 < a0_1
   ·rw [if_pos c22] at H
    have c22b0 : decide (a1_3 < a0_1) = true := decide_eq_true c22
    clear c22
    simp only [Option.some.injEq, Prod.mk.injEq] at H
    obtain ⟨rfl, rfl, rfl, rfl, rfl, rfl, rfl, rfl, rfl⟩ := H
    go_enter Try.func89, Try.ntmps89
    go_wp2_with (first | ((with_reducible refine a3_ (N := 2) rfl ?_); refine bx 2 #[.int .i64 a0_0, .int .i64 a0_1, .int .i64 a0_2, .int .i64 a0_3] 27 ?_; intro gb143 hg w23 hbox hb; have BK143 := m_ (hbox); have GW143 := ge_ hg; have GE143 := ge_ hg; replace HB := hs_ hb; clear hb hbox hg) | ((with_reducible refine a3_ (N := 3) rfl ?_); refine bx 3 #[.int .i64 a1_0, .int .i64 a1_1, .int .u64 a1_2, .int .i64 a1_3] 51 ?_; intro gb144 hg w24 hbox hb; have BK144 := m_ (hbox); have GW144 := ge_ hg; have GE144 := ge_ hg; have NB143_144 := nl_ BK143 hg; have NB144_143 := nr_ BK143 hg; replace BK143 := bk_ BK143 hb; replace HB := hs_ hb; clear hb hbox hg) | ((with_reducible refine a3_ (N := 4) rfl ?_); refine bx 4 #[.int .i64 0, .int .i64 0, .int .u64 0, .int .i64 0] 52 ?_; intro gb145 hg w25 hbox hb; have BK145 := m_ (hbox); have GW145 := ge_ hg; have GE145 := ge_ hg; have NB143_145 := nl_ BK143 hg; have NB145_143 := nr_ BK143 hg; have NB144_145 := nl_ BK144 hg; have NB145_144 := nr_ BK144 hg; replace BK143 := bk_ BK143 hb; replace BK144 := bk_ BK144 hb; replace HB := hs_ hb; clear hb hbox hg) | ((with_reducible refine a3_ (N := 5) rfl ?_); refine bx 5 #[.int .i64 0, .int .i64 0, .int .u64 0, .int .i64 0] 51 ?_; intro gb146 hg w26 hbox hb; have BK146 := m_ (hbox); have GW146 := ge_ hg; have GE146 := ge_ hg; have NB143_146 := nl_ BK143 hg; have NB146_143 := nr_ BK143 hg; have NB144_146 := nl_ BK144 hg; have NB146_144 := nr_ BK144 hg; have NB145_146 := nl_ BK145 hg; have NB146_145 := nr_ BK145 hg; replace BK143 := bk_ BK143 hb; replace BK144 := bk_ BK144 hb; replace BK145 := bk_ BK145 hb; replace HB := hs_ hb; clear hb hbox hg; have hnb27 := NB144_143.out; have hnc27 := NB143_144.out; have hnb28 := NB144_145.out; have hnc28 := NB145_144.out; have hnb29 := NB144_146.out; have hnc29 := NB146_144.out; obtain ⟨hcz30_0, hcz30_1, hcz30_2, hcz30_3, hfz30_0, hfz30_1, hfz30_2, hfz30_3⟩ := bz4_ BK144; have hnb31 := NB143_145.out; have hnc31 := NB145_143.out; have hnb32 := NB143_146.out; have hnc32 := NB146_143.out; obtain ⟨hcz33_0, hcz33_1, hcz33_2, hcz33_3, hfz33_0, hfz33_1, hfz33_2, hfz33_3⟩ := bz4_ BK143) | ((with_reducible refine b3_ (f := 115) rfl ?_); refine goesL_ (some 14) rfl rfl Try.func115 (by kernel_rfl) rfl #[.int .u64 a1_2, .int .i64 a0_0] rfl Z0 ?_; (with_reducible refine (ensembleref01_Lowest.calls k a1_2 a0_0 t147 t148 _ A3.out).mono ?_); rintro e w34 ⟨rfl, hb⟩; refine ⟨_, rfl, ?_⟩; replace BK143 := bk_ BK143 hb; replace BK144 := bk_ BK144 hb; replace BK145 := bk_ BK145 hb; replace BK146 := bk_ BK146 hb; replace HB := hs_ hb; (try clear hb); (try clear hb2); (try clear hk); (try clear hi); obtain ⟨hcz35_0, hcz35_1, hcz35_2, hcz35_3, hfz35_0, hfz35_1, hfz35_2, hfz35_3⟩ := bz4_ BK144; obtain ⟨hcz36_0, hcz36_1, hcz36_2, hcz36_3, hfz36_0, hfz36_1, hfz36_2, hfz36_3⟩ := bz4_ BK143; have hnb37 := NB145_146.out; have hnc37 := NB146_145.out; obtain ⟨hcz38_0, hcz38_1, hcz38_2, hcz38_3, hfz38_0, hfz38_1, hfz38_2, hfz38_3⟩ := bz4_ BK145; obtain ⟨hcz39_0, hcz39_1, hcz39_2, hcz39_3, hfz39_0, hfz39_1, hfz39_2, hfz39_3⟩ := bz4_ BK146))
    refine bodyPost_ret (results_list (rs := [.cell 4 52, .cell 5 51, .tmp 6]) rfl (by simp) (.cell gb145 52 #[.int .i64 0, .int .i64 0, .int .u64 0, .int .i64 0] (0, 0) _ rfl (bt_ BK145) Try.underlying52 rfl (by kernel_rfl) (.cell gb146 51 #[.int .i64 0, .int .i64 0, .int .u64 0, .int .i64 0] (0, 0) _ rfl (bt_ BK146) Try.underlying51 rfl (by kernel_rfl) (.tmp .nil)))) rfl ?_
    exact ⟨by first | rfl | (simp [b2_, b1_] <;> rfl) | (simp [*, b2_, b1_] <;> rfl), hb_⟩
   ·rw [if_neg c22] at H
    have c22b0 : decide (a1_3 < a0_1) = false := decide_eq_false c22
    clear c22
    simp only [Option.some.injEq, Prod.mk.injEq] at H
    obtain ⟨rfl, rfl, rfl, rfl, rfl, rfl, rfl, rfl, rfl⟩ := H
    go_enter Try.func89, Try.ntmps89
    try go_wp2_with (first | ((with_reducible refine a3_ (N := 2) rfl ?_); refine bx 2 #[.int .i64 a0_0, .int .i64 a0_1, .int .i64 a0_2, .int .i64 a0_3] 27 ?_; intro gb143 hg w40 hbox hb; have BK143 := m_ (hbox); have GW143 := ge_ hg; have GE143 := ge_ hg; replace HB := hs_ hb; clear hb hbox hg) | ((with_reducible refine a3_ (N := 3) rfl ?_); refine bx 3 #[.int .i64 a1_0, .int .i64 a1_1, .int .u64 a1_2, .int .i64 a1_3] 51 ?_; intro gb144 hg w41 hbox hb; have BK144 := m_ (hbox); have GW144 := ge_ hg; have GE144 := ge_ hg; have NB143_144 := nl_ BK143 hg; have NB144_143 := nr_ BK143 hg; replace BK143 := bk_ BK143 hb; replace HB := hs_ hb; clear hb hbox hg) | ((with_reducible refine a3_ (N := 4) rfl ?_); refine bx 4 #[.int .i64 0, .int .i64 0, .int .u64 0, .int .i64 0] 52 ?_; intro gb145 hg w42 hbox hb; have BK145 := m_ (hbox); have GW145 := ge_ hg; have GE145 := ge_ hg; have NB143_145 := nl_ BK143 hg; have NB145_143 := nr_ BK143 hg; have NB144_145 := nl_ BK144 hg; have NB145_144 := nr_ BK144 hg; replace BK143 := bk_ BK143 hb; replace BK144 := bk_ BK144 hb; replace HB := hs_ hb; clear hb hbox hg) | ((with_reducible refine a3_ (N := 5) rfl ?_); refine bx 5 #[.int .i64 0, .int .i64 0, .int .u64 0, .int .i64 0] 51 ?_; intro gb146 hg w43 hbox hb; have BK146 := m_ (hbox); have GW146 := ge_ hg; have GE146 := ge_ hg; have NB143_146 := nl_ BK143 hg; have NB146_143 := nr_ BK143 hg; have NB144_146 := nl_ BK144 hg; have NB146_144 := nr_ BK144 hg; have NB145_146 := nl_ BK145 hg; have NB146_145 := nr_ BK145 hg; replace BK143 := bk_ BK143 hb; replace BK144 := bk_ BK144 hb; replace BK145 := bk_ BK145 hb; replace HB := hs_ hb; clear hb hbox hg; have hnb44 := NB144_143.out; have hnc44 := NB143_144.out; have hnb45 := NB144_145.out; have hnc45 := NB145_144.out; have hnb46 := NB144_146.out; have hnc46 := NB146_144.out; obtain ⟨hcz47_0, hcz47_1, hcz47_2, hcz47_3, hfz47_0, hfz47_1, hfz47_2, hfz47_3⟩ := bz4_ BK144; have hnb48 := NB143_145.out; have hnc48 := NB145_143.out; have hnb49 := NB143_146.out; have hnc49 := NB146_143.out; obtain ⟨hcz50_0, hcz50_1, hcz50_2, hcz50_3, hfz50_0, hfz50_1, hfz50_2, hfz50_3⟩ := bz4_ BK143) | ((with_reducible refine b3_ (f := 115) rfl ?_); refine goesL_ (some 14) rfl rfl Try.func115 (by kernel_rfl) rfl #[.int .u64 a1_2, .int .i64 a0_0] rfl Z0 ?_; (with_reducible refine (ensembleref01_Lowest.calls k a1_2 a0_0 t147 t148 _ A3.out).mono ?_); rintro e w51 ⟨rfl, hb⟩; refine ⟨_, rfl, ?_⟩; replace BK143 := bk_ BK143 hb; replace BK144 := bk_ BK144 hb; replace BK145 := bk_ BK145 hb; replace BK146 := bk_ BK146 hb; replace HB := hs_ hb; (try clear hb); (try clear hb2); (try clear hk); (try clear hi); obtain ⟨hcz52_0, hcz52_1, hcz52_2, hcz52_3, hfz52_0, hfz52_1, hfz52_2, hfz52_3⟩ := bz4_ BK144; obtain ⟨hcz53_0, hcz53_1, hcz53_2, hcz53_3, hfz53_0, hfz53_1, hfz53_2, hfz53_3⟩ := bz4_ BK143))
    replace BK143 := m_ (d7_ BK143.out)
    replace BK144 := m_ (d7_ BK144.out)
    replace BK145 := m_ (d7_ BK145.out)
    replace BK146 := m_ (d7_ BK146.out)
    replace HB := m_ (b8_ HB.out)
    refine start_ (n := 21) (S := fun w' => w'.cell? ⟨gb144, 0, none⟩ = some (.int .i64 a1_0) ∧ w'.cell? ⟨gb144, 1, none⟩ = some (.int .i64 a1_1) ∧ w'.cell? ⟨gb144, 2, none⟩ = some (.int .u64 a1_2) ∧ w'.cell? ⟨gb144, 3, none⟩ = some (.int .i64 a1_3) ∧ w'.cell? ⟨gb143, 0, none⟩ = some (.int .i64 a0_0) ∧ w'.cell? ⟨gb143, 1, none⟩ = some (.int .i64 a0_1) ∧ w'.cell? ⟨gb143, 2, none⟩ = some (.int .i64 a0_2) ∧ w'.cell? ⟨gb143, 3, none⟩ = some (.int .i64 a0_3)) (ds := []) (bm 21 0) (by kernel_rfl) rfl rfl ⟨(a0_ BK144.out 0).trans rfl, (a0_ BK144.out 1).trans rfl, (a0_ BK144.out 2).trans rfl, (a0_ BK144.out 3).trans rfl, (a0_ BK143.out 0).trans rfl, (a0_ BK143.out 1).trans rfl, (a0_ BK143.out 2).trans rfl, (a0_ BK143.out 3).trans rfl⟩ (fun hHeld => ?_); refine with_tabW ensembleref04_Piece.tab4 ensembleref04_Piece.bits4 (fun HT_ HW_ => ?_)
    generalize w51.drew = w54 at BK143 BK144 BK145 BK146 HB hHeld ⊢
    refine pu 0 (some 33) (bm 21 1) ?_
    refine pu 2 (some 35) (bm 21 5) ?_
    refine pu 3 (some 36) (bm 21 13) ?_
    refine pu 6 (some 39) (bm 21 77) ?_
    refine pu 8 (some 41) (bm 21 333) ?_
    refine pu 10 (some 43) (bm 21 1357) ?_
    refine pu 12 (some 45) (bm 21 5453) ?_
    refine pu 14 (some 47) (bm 21 21837) ?_
    refine tk 1 (some 34) (bm 21 21839) ?_
    refine tk 4 (some 37) (bm 21 21855) ?_
    refine pu 5 (some 38) (bm 21 21887) ?_
    refine tk 7 (some 40) (bm 21 22015) ?_
    refine tk 9 (some 42) (bm 21 22527) ?_
    refine pu 11 (some 44) (bm 21 24575) ?_
    refine tk 13 (some 46) (bm 21 32767) ?_
    refine tk 15 (some 48) (bm 21 65535) ?_
    refine pu 16 (some 49) (bm 21 131071) ?_
    refine pu 17 (some 50) (bm 21 262143) ?_
    refine one_ (i := 18) (N := none) (bm 21 524287) rfl rfl (one_of HT_.out (by kernel_rfl)) (by decide) (fun K hK => ?_)
    have hs55 : w54.cell? ⟨gb145, 0, none⟩ = some (.int .i64 0) := (a0_ BK145.out 0).trans rfl
    have hfs55 := a2_ BK145.out 0
    have hns55_0 := NB143_145.out
    have hns55_1 := NB144_145.out
    have hns55_3 := NB146_145.out
    have hms55_0 := NB145_143.out
    have hms55_1 := NB145_144.out
    have hms55_3 := NB145_146.out
    have hs56 : w54.cell? ⟨gb145, 1, none⟩ = some (.int .i64 0) := (a0_ BK145.out 1).trans rfl
    have hfs56 := a2_ BK145.out 1
    have hns56_0 := NB143_145.out
    have hns56_1 := NB144_145.out
    have hns56_3 := NB146_145.out
    have hms56_0 := NB145_143.out
    have hms56_1 := NB145_144.out
    have hms56_3 := NB145_146.out
    have hs57 : w54.cell? ⟨gb145, 2, none⟩ = some (.int .u64 0) := (a0_ BK145.out 2).trans rfl
    have hfs57 := a2_ BK145.out 2
    have hns57_0 := NB143_145.out
    have hns57_1 := NB144_145.out
    have hns57_3 := NB146_145.out
    have hms57_0 := NB145_143.out
    have hms57_1 := NB145_144.out
    have hms57_3 := NB145_146.out
    have hs58 : w54.cell? ⟨gb145, 3, none⟩ = some (.int .i64 0) := (a0_ BK145.out 3).trans rfl
    have hfs58 := a2_ BK145.out 3
    have hns58_0 := NB143_145.out
    have hns58_1 := NB144_145.out
    have hns58_3 := NB146_145.out
    have hms58_0 := NB145_143.out
    have hms58_1 := NB145_144.out
    have hms58_3 := NB145_146.out
    refine skip_ (w1 := ?_) (by rfl) rfl ?_ ?_
    rotate_left
    ·go_simp
     rfl
    refine hK.out _ _ ⟨((c5_ (p := ⟨gb145, _, none⟩) NB144_145.out _).trans (((c5_ (p := ⟨gb145, _, none⟩) NB144_145.out _).trans (((c5_ (p := ⟨gb145, _, none⟩) NB144_145.out _).trans (((c5_ (p := ⟨gb145, _, none⟩) NB144_145.out _).trans (hHeld.1)))))))), ((c5_ (p := ⟨gb145, _, none⟩) NB144_145.out _).trans (((c5_ (p := ⟨gb145, _, none⟩) NB144_145.out _).trans (((c5_ (p := ⟨gb145, _, none⟩) NB144_145.out _).trans (((c5_ (p := ⟨gb145, _, none⟩) NB144_145.out _).trans (hHeld.2.1)))))))), ((c5_ (p := ⟨gb145, _, none⟩) NB144_145.out _).trans (((c5_ (p := ⟨gb145, _, none⟩) NB144_145.out _).trans (((c5_ (p := ⟨gb145, _, none⟩) NB144_145.out _).trans (((c5_ (p := ⟨gb145, _, none⟩) NB144_145.out _).trans (hHeld.2.2.1)))))))), ((c5_ (p := ⟨gb145, _, none⟩) NB144_145.out _).trans (((c5_ (p := ⟨gb145, _, none⟩) NB144_145.out _).trans (((c5_ (p := ⟨gb145, _, none⟩) NB144_145.out _).trans (((c5_ (p := ⟨gb145, _, none⟩) NB144_145.out _).trans (hHeld.2.2.2.1)))))))), ((c5_ (p := ⟨gb145, _, none⟩) NB143_145.out _).trans (((c5_ (p := ⟨gb145, _, none⟩) NB143_145.out _).trans (((c5_ (p := ⟨gb145, _, none⟩) NB143_145.out _).trans (((c5_ (p := ⟨gb145, _, none⟩) NB143_145.out _).trans (hHeld.2.2.2.2.1)))))))), ((c5_ (p := ⟨gb145, _, none⟩) NB143_145.out _).trans (((c5_ (p := ⟨gb145, _, none⟩) NB143_145.out _).trans (((c5_ (p := ⟨gb145, _, none⟩) NB143_145.out _).trans (((c5_ (p := ⟨gb145, _, none⟩) NB143_145.out _).trans (hHeld.2.2.2.2.2.1)))))))), ((c5_ (p := ⟨gb145, _, none⟩) NB143_145.out _).trans (((c5_ (p := ⟨gb145, _, none⟩) NB143_145.out _).trans (((c5_ (p := ⟨gb145, _, none⟩) NB143_145.out _).trans (((c5_ (p := ⟨gb145, _, none⟩) NB143_145.out _).trans (hHeld.2.2.2.2.2.2.1)))))))), ((c5_ (p := ⟨gb145, _, none⟩) NB143_145.out _).trans (((c5_ (p := ⟨gb145, _, none⟩) NB143_145.out _).trans (((c5_ (p := ⟨gb145, _, none⟩) NB143_145.out _).trans (((c5_ (p := ⟨gb145, _, none⟩) NB143_145.out _).trans (hHeld.2.2.2.2.2.2.2))))))))⟩ (fun hHeld => ?_)
    clear hK K
    refine one_ (i := 19) (N := none) (bm 21 1048575) rfl rfl (one_of HT_.out (by kernel_rfl)) (by decide) (fun K hK => ?_)
    have hs59 : w54.cell? ⟨gb146, 0, none⟩ = some (.int .i64 0) := (a0_ BK146.out 0).trans rfl
    have hfs59 := a2_ BK146.out 0
    have hns59_0 := NB143_146.out
    have hns59_1 := NB144_146.out
    have hns59_2 := NB145_146.out
    have hms59_0 := NB146_143.out
    have hms59_1 := NB146_144.out
    have hms59_2 := NB146_145.out
    have hs60 : w54.cell? ⟨gb146, 1, none⟩ = some (.int .i64 0) := (a0_ BK146.out 1).trans rfl
    have hfs60 := a2_ BK146.out 1
    have hns60_0 := NB143_146.out
    have hns60_1 := NB144_146.out
    have hns60_2 := NB145_146.out
    have hms60_0 := NB146_143.out
    have hms60_1 := NB146_144.out
    have hms60_2 := NB146_145.out
    have hs61 : w54.cell? ⟨gb146, 2, none⟩ = some (.int .u64 0) := (a0_ BK146.out 2).trans rfl
    have hfs61 := a2_ BK146.out 2
    have hns61_0 := NB143_146.out
    have hns61_1 := NB144_146.out
    have hns61_2 := NB145_146.out
    have hms61_0 := NB146_143.out
    have hms61_1 := NB146_144.out
    have hms61_2 := NB146_145.out
    have hs62 : w54.cell? ⟨gb146, 3, none⟩ = some (.int .i64 0) := (a0_ BK146.out 3).trans rfl
    have hfs62 := a2_ BK146.out 3
    have hns62_0 := NB143_146.out
    have hns62_1 := NB144_146.out
    have hns62_2 := NB145_146.out
    have hms62_0 := NB146_143.out
    have hms62_1 := NB146_144.out
    have hms62_2 := NB146_145.out
    refine skip_ (w1 := ?_) (by rfl) rfl ?_ ?_
    rotate_left
    ·go_simp
     rfl
    refine hK.out _ _ ⟨((c5_ (p := ⟨gb146, _, none⟩) NB144_146.out _).trans (((c5_ (p := ⟨gb146, _, none⟩) NB144_146.out _).trans (((c5_ (p := ⟨gb146, _, none⟩) NB144_146.out _).trans (((c5_ (p := ⟨gb146, _, none⟩) NB144_146.out _).trans (hHeld.1)))))))), ((c5_ (p := ⟨gb146, _, none⟩) NB144_146.out _).trans (((c5_ (p := ⟨gb146, _, none⟩) NB144_146.out _).trans (((c5_ (p := ⟨gb146, _, none⟩) NB144_146.out _).trans (((c5_ (p := ⟨gb146, _, none⟩) NB144_146.out _).trans (hHeld.2.1)))))))), ((c5_ (p := ⟨gb146, _, none⟩) NB144_146.out _).trans (((c5_ (p := ⟨gb146, _, none⟩) NB144_146.out _).trans (((c5_ (p := ⟨gb146, _, none⟩) NB144_146.out _).trans (((c5_ (p := ⟨gb146, _, none⟩) NB144_146.out _).trans (hHeld.2.2.1)))))))), ((c5_ (p := ⟨gb146, _, none⟩) NB144_146.out _).trans (((c5_ (p := ⟨gb146, _, none⟩) NB144_146.out _).trans (((c5_ (p := ⟨gb146, _, none⟩) NB144_146.out _).trans (((c5_ (p := ⟨gb146, _, none⟩) NB144_146.out _).trans (hHeld.2.2.2.1)))))))), ((c5_ (p := ⟨gb146, _, none⟩) NB143_146.out _).trans (((c5_ (p := ⟨gb146, _, none⟩) NB143_146.out _).trans (((c5_ (p := ⟨gb146, _, none⟩) NB143_146.out _).trans (((c5_ (p := ⟨gb146, _, none⟩) NB143_146.out _).trans (hHeld.2.2.2.2.1)))))))), ((c5_ (p := ⟨gb146, _, none⟩) NB143_146.out _).trans (((c5_ (p := ⟨gb146, _, none⟩) NB143_146.out _).trans (((c5_ (p := ⟨gb146, _, none⟩) NB143_146.out _).trans (((c5_ (p := ⟨gb146, _, none⟩) NB143_146.out _).trans (hHeld.2.2.2.2.2.1)))))))), ((c5_ (p := ⟨gb146, _, none⟩) NB143_146.out _).trans (((c5_ (p := ⟨gb146, _, none⟩) NB143_146.out _).trans (((c5_ (p := ⟨gb146, _, none⟩) NB143_146.out _).trans (((c5_ (p := ⟨gb146, _, none⟩) NB143_146.out _).trans (hHeld.2.2.2.2.2.2.1)))))))), ((c5_ (p := ⟨gb146, _, none⟩) NB143_146.out _).trans (((c5_ (p := ⟨gb146, _, none⟩) NB143_146.out _).trans (((c5_ (p := ⟨gb146, _, none⟩) NB143_146.out _).trans (((c5_ (p := ⟨gb146, _, none⟩) NB143_146.out _).trans (hHeld.2.2.2.2.2.2.2))))))))⟩ (fun hHeld => ?_)
    clear hK K
    refine pu 20 (some 6) (bm 21 2097151) ?_
    refine done_ (done_of HT_.out (by kernel_rfl)) ?_
    try go_wp2
    refine bodyPost_ret (results_list (rs := [.cell 4 52, .cell 5 51, .tmp 6]) rfl (by simp) (.cell gb145 52 #[.int .i64 a1_0, .int .i64 a1_1, .int .u64 t147, .int .i64 a0_1] (0, 0) _ rfl (bt_ BK145) Try.underlying52 rfl (by kernel_rfl) (.cell gb146 51 #[.int .i64 a1_0, .int .i64 a1_1, .int .u64 (IntKind.u64.wrap (a1_2 - t147)), .int .i64 (wrap64 (a1_3 - a0_1))] (0, 0) _ rfl (bt_ BK146) Try.underlying51 rfl (by kernel_rfl) (.tmp .nil)))) rfl ?_
    exact ⟨by first | rfl | (simp [b2_, b1_] <;> rfl) | (simp [*, b2_, b1_] <;> rfl), hb_⟩
 ·rw [if_neg c4] at H
  have c4b0 : (t148 == 0) = false := beq_eq_false_iff_ne.mpr c4
  have c4b1 : (t148 != 0) = true := bne_iff_ne.mpr c4
  simp only [Option.some.injEq, Prod.mk.injEq] at H
  obtain ⟨rfl, rfl, rfl, rfl, rfl, rfl, rfl, rfl, rfl⟩ := H
  go_enter Try.func89, Try.ntmps89
  go_wp2_with (first | ((with_reducible refine a3_ (N := 2) rfl ?_); refine bx 2 #[.int .i64 a0_0, .int .i64 a0_1, .int .i64 a0_2, .int .i64 a0_3] 27 ?_; intro gb143 hg w63 hbox hb; have BK143 := m_ (hbox); have GW143 := ge_ hg; have GE143 := ge_ hg; replace HB := hs_ hb; clear hb hbox hg) | ((with_reducible refine a3_ (N := 3) rfl ?_); refine bx 3 #[.int .i64 a1_0, .int .i64 a1_1, .int .u64 a1_2, .int .i64 a1_3] 51 ?_; intro gb144 hg w64 hbox hb; have BK144 := m_ (hbox); have GW144 := ge_ hg; have GE144 := ge_ hg; have NB143_144 := nl_ BK143 hg; have NB144_143 := nr_ BK143 hg; replace BK143 := bk_ BK143 hb; replace HB := hs_ hb; clear hb hbox hg) | ((with_reducible refine a3_ (N := 4) rfl ?_); refine bx 4 #[.int .i64 0, .int .i64 0, .int .u64 0, .int .i64 0] 52 ?_; intro gb145 hg w65 hbox hb; have BK145 := m_ (hbox); have GW145 := ge_ hg; have GE145 := ge_ hg; have NB143_145 := nl_ BK143 hg; have NB145_143 := nr_ BK143 hg; have NB144_145 := nl_ BK144 hg; have NB145_144 := nr_ BK144 hg; replace BK143 := bk_ BK143 hb; replace BK144 := bk_ BK144 hb; replace HB := hs_ hb; clear hb hbox hg) | ((with_reducible refine a3_ (N := 5) rfl ?_); refine bx 5 #[.int .i64 0, .int .i64 0, .int .u64 0, .int .i64 0] 51 ?_; intro gb146 hg w66 hbox hb; have BK146 := m_ (hbox); have GW146 := ge_ hg; have GE146 := ge_ hg; have NB143_146 := nl_ BK143 hg; have NB146_143 := nr_ BK143 hg; have NB144_146 := nl_ BK144 hg; have NB146_144 := nr_ BK144 hg; have NB145_146 := nl_ BK145 hg; have NB146_145 := nr_ BK145 hg; replace BK143 := bk_ BK143 hb; replace BK144 := bk_ BK144 hb; replace BK145 := bk_ BK145 hb; replace HB := hs_ hb; clear hb hbox hg; have hnb67 := NB144_143.out; have hnc67 := NB143_144.out; have hnb68 := NB144_145.out; have hnc68 := NB145_144.out; have hnb69 := NB144_146.out; have hnc69 := NB146_144.out; obtain ⟨hcz70_0, hcz70_1, hcz70_2, hcz70_3, hfz70_0, hfz70_1, hfz70_2, hfz70_3⟩ := bz4_ BK144; have hnb71 := NB143_145.out; have hnc71 := NB145_143.out; have hnb72 := NB143_146.out; have hnc72 := NB146_143.out; obtain ⟨hcz73_0, hcz73_1, hcz73_2, hcz73_3, hfz73_0, hfz73_1, hfz73_2, hfz73_3⟩ := bz4_ BK143) | ((with_reducible refine b3_ (f := 115) rfl ?_); refine goesL_ (some 14) rfl rfl Try.func115 (by kernel_rfl) rfl #[.int .u64 a1_2, .int .i64 a0_0] rfl Z0 ?_; (with_reducible refine (ensembleref01_Lowest.calls k a1_2 a0_0 t147 t148 _ A3.out).mono ?_); rintro e w74 ⟨rfl, hb⟩; refine ⟨_, rfl, ?_⟩; replace BK143 := bk_ BK143 hb; replace BK144 := bk_ BK144 hb; replace BK145 := bk_ BK145 hb; replace BK146 := bk_ BK146 hb; replace HB := hs_ hb; (try clear hb); (try clear hb2); (try clear hk); (try clear hi); have hnb75 := NB145_146.out; have hnc75 := NB146_145.out; obtain ⟨hcz76_0, hcz76_1, hcz76_2, hcz76_3, hfz76_0, hfz76_1, hfz76_2, hfz76_3⟩ := bz4_ BK145; obtain ⟨hcz77_0, hcz77_1, hcz77_2, hcz77_3, hfz77_0, hfz77_1, hfz77_2, hfz77_3⟩ := bz4_ BK146))
  refine bodyPost_ret (results_list (rs := [.cell 4 52, .cell 5 51, .tmp 6]) rfl (by simp) (.cell gb145 52 #[.int .i64 0, .int .i64 0, .int .u64 0, .int .i64 0] (0, 0) _ rfl (bt_ BK145) Try.underlying52 rfl (by kernel_rfl) (.cell gb146 51 #[.int .i64 0, .int .i64 0, .int .u64 0, .int .i64 0] (0, 0) _ rfl (bt_ BK146) Try.underlying51 rfl (by kernel_rfl) (.tmp .nil)))) rfl ?_
  exact ⟨by first | rfl | (simp [b2_, b1_] <;> rfl) | (simp [*, b2_, b1_] <;> rfl), hb_⟩
def ensembleref04_Right.f (a0_0 a0_1 a0_2 a0_3 : Int) : Option (Bool) := if a0_0 ≥ 0 then (if a0_0 ≤ 16 then (if a0_1 ≥ 0 then (if a0_1 ≤ 1024 then (if (wrap64 (a0_0 + a0_1)) > 0 then (if a0_2 ≥ 1 then (if a0_2 ≤ a0_3 then (some (decide (a0_3 ≤ 16))) else (some false)) else (some false)) else (some false)) else (some false)) else (some false)) else (some false)) else (some false)
set_option maxHeartbeats 8000000 in
set_option maxRecDepth 100000 in
theorem ensembleref04_Right.calls (a0_0 a0_1 a0_2 a0_3 : Int) (r : Bool) (w : World) (h : ensembleref04_Right.f a0_0 a0_1 a0_2 a0_3 = some r) :
  Calls Try.prog 45 #[.agg #[.int .i64 a0_0, .int .i64 a0_1, .int .i64 a0_2, .int .i64 a0_3]] w fun e w' => e = .returned (.bool r) ∧ Below w.heap.size w w' := by
 have hu27 := Try.underlying27
 have HB := m_ (Below.refl w.heap.size w)
 have H := h
 unfold ensembleref04_Right.f at H
 clear h
 by_cases c2 : a0_0 ≥ 0
 ·rw [if_pos c2] at H
  have c2b0 : decide (0 ≤ a0_0) = true := decide_eq_true c2
  clear c2
  by_cases c3 : a0_0 ≤ 16
  ·rw [if_pos c3] at H
   have c3b0 : decide (a0_0 ≤ 16) = true := decide_eq_true c3
   clear c3
   by_cases c4 : a0_1 ≥ 0
   ·rw [if_pos c4] at H
    have c4b0 : decide (0 ≤ a0_1) = true := decide_eq_true c4
    clear c4
    by_cases c5 : a0_1 ≤ 1024
    ·rw [if_pos c5] at H
     have c5b0 : decide (a0_1 ≤ 1024) = true := decide_eq_true c5
     clear c5
     by_cases c6 : (wrap64 (a0_0 + a0_1)) > 0
     ·rw [if_pos c6] at H
      have c6b0 : decide (0 < (wrap64 (a0_0 + a0_1))) = true := decide_eq_true c6
      clear c6
      by_cases c7 : a0_2 ≥ 1
      ·rw [if_pos c7] at H
       have c7b0 : decide (1 ≤ a0_2) = true := decide_eq_true c7
       clear c7
       by_cases c8 : a0_2 ≤ a0_3
       ·rw [if_pos c8] at H
        have c8b0 : decide (a0_2 ≤ a0_3) = true := decide_eq_true c8
        clear c8
        obtain rfl := Option.some.inj H
        go_enter Try.func45, Try.ntmps45
        go_wp2_with (first | ((with_reducible refine a3_ (N := 1) rfl ?_); refine bx 1 #[.int .i64 a0_0, .int .i64 a0_1, .int .i64 a0_2, .int .i64 a0_3] 27 ?_; intro gb131 hg w9 hbox hb; have BK131 := m_ (hbox); have GW131 := ge_ hg; have GE131 := ge_ hg; replace HB := hs_ hb; clear hb hbox hg; obtain ⟨hcz10_0, hcz10_1, hcz10_2, hcz10_3, hfz10_0, hfz10_1, hfz10_2, hfz10_3⟩ := bz4_ BK131))
        go_ret
        exact ⟨by first | rfl | (simp [b2_, b1_] <;> rfl) | (simp [*, b2_, b1_] <;> rfl), hb_⟩
       ·rw [if_neg c8] at H
        have c8b0 : decide (a0_2 ≤ a0_3) = false := decide_eq_false c8
        clear c8
        obtain rfl := Option.some.inj H
        go_enter Try.func45, Try.ntmps45
        go_wp2_with (first | ((with_reducible refine a3_ (N := 1) rfl ?_); refine bx 1 #[.int .i64 a0_0, .int .i64 a0_1, .int .i64 a0_2, .int .i64 a0_3] 27 ?_; intro gb131 hg w11 hbox hb; have BK131 := m_ (hbox); have GW131 := ge_ hg; have GE131 := ge_ hg; replace HB := hs_ hb; clear hb hbox hg; obtain ⟨hcz12_0, hcz12_1, hcz12_2, hcz12_3, hfz12_0, hfz12_1, hfz12_2, hfz12_3⟩ := bz4_ BK131))
        go_ret
        exact ⟨by first | rfl | (simp [b2_, b1_] <;> rfl) | (simp [*, b2_, b1_] <;> rfl), hb_⟩
      ·rw [if_neg c7] at H
       have c7b0 : decide (1 ≤ a0_2) = false := decide_eq_false c7
       clear c7
       obtain rfl := Option.some.inj H
       go_enter Try.func45, Try.ntmps45
       go_wp2_with (first | ((with_reducible refine a3_ (N := 1) rfl ?_); refine bx 1 #[.int .i64 a0_0, .int .i64 a0_1, .int .i64 a0_2, .int .i64 a0_3] 27 ?_; intro gb131 hg w13 hbox hb; have BK131 := m_ (hbox); have GW131 := ge_ hg; have GE131 := ge_ hg; replace HB := hs_ hb; clear hb hbox hg; obtain ⟨hcz14_0, hcz14_1, hcz14_2, hcz14_3, hfz14_0, hfz14_1, hfz14_2, hfz14_3⟩ := bz4_ BK131))
       go_ret
       exact ⟨by first | rfl | (simp [b2_, b1_] <;> rfl) | (simp [*, b2_, b1_] <;> rfl), hb_⟩
     ·rw [if_neg c6] at H
      have c6b0 : decide (0 < (wrap64 (a0_0 + a0_1))) = false := decide_eq_false c6
      clear c6
      obtain rfl := Option.some.inj H
      go_enter Try.func45, Try.ntmps45
      go_wp2_with (first | ((with_reducible refine a3_ (N := 1) rfl ?_); refine bx 1 #[.int .i64 a0_0, .int .i64 a0_1, .int .i64 a0_2, .int .i64 a0_3] 27 ?_; intro gb131 hg w15 hbox hb; have BK131 := m_ (hbox); have GW131 := ge_ hg; have GE131 := ge_ hg; replace HB := hs_ hb; clear hb hbox hg; obtain ⟨hcz16_0, hcz16_1, hcz16_2, hcz16_3, hfz16_0, hfz16_1, hfz16_2, hfz16_3⟩ := bz4_ BK131))
      go_ret
      exact ⟨by first | rfl | (simp [b2_, b1_] <;> rfl) | (simp [*, b2_, b1_] <;> rfl), hb_⟩
    ·rw [if_neg c5] at H
     have c5b0 : decide (a0_1 ≤ 1024) = false := decide_eq_false c5
     clear c5
     obtain rfl := Option.some.inj H
     go_enter Try.func45, Try.ntmps45
     go_wp2_with (first | ((with_reducible refine a3_ (N := 1) rfl ?_); refine bx 1 #[.int .i64 a0_0, .int .i64 a0_1, .int .i64 a0_2, .int .i64 a0_3] 27 ?_; intro gb131 hg w17 hbox hb; have BK131 := m_ (hbox); have GW131 := ge_ hg; have GE131 := ge_ hg; replace HB := hs_ hb; clear hb hbox hg; obtain ⟨hcz18_0, hcz18_1, hcz18_2, hcz18_3, hfz18_0, hfz18_1, hfz18_2, hfz18_3⟩ := bz4_ BK131))
     go_ret
     exact ⟨by first | rfl | (simp [b2_, b1_] <;> rfl) | (simp [*, b2_, b1_] <;> rfl), hb_⟩
   ·rw [if_neg c4] at H
    have c4b0 : decide (0 ≤ a0_1) = false := decide_eq_false c4
    clear c4
    obtain rfl := Option.some.inj H
    go_enter Try.func45, Try.ntmps45
    go_wp2_with (first | ((with_reducible refine a3_ (N := 1) rfl ?_); refine bx 1 #[.int .i64 a0_0, .int .i64 a0_1, .int .i64 a0_2, .int .i64 a0_3] 27 ?_; intro gb131 hg w19 hbox hb; have BK131 := m_ (hbox); have GW131 := ge_ hg; have GE131 := ge_ hg; replace HB := hs_ hb; clear hb hbox hg; obtain ⟨hcz20_0, hcz20_1, hcz20_2, hcz20_3, hfz20_0, hfz20_1, hfz20_2, hfz20_3⟩ := bz4_ BK131))
    go_ret
    exact ⟨by first | rfl | (simp [b2_, b1_] <;> rfl) | (simp [*, b2_, b1_] <;> rfl), hb_⟩
  ·rw [if_neg c3] at H
   have c3b0 : decide (a0_0 ≤ 16) = false := decide_eq_false c3
   clear c3
   obtain rfl := Option.some.inj H
   go_enter Try.func45, Try.ntmps45
   go_wp2_with (first | ((with_reducible refine a3_ (N := 1) rfl ?_); refine bx 1 #[.int .i64 a0_0, .int .i64 a0_1, .int .i64 a0_2, .int .i64 a0_3] 27 ?_; intro gb131 hg w21 hbox hb; have BK131 := m_ (hbox); have GW131 := ge_ hg; have GE131 := ge_ hg; replace HB := hs_ hb; clear hb hbox hg; obtain ⟨hcz22_0, hcz22_1, hcz22_2, hcz22_3, hfz22_0, hfz22_1, hfz22_2, hfz22_3⟩ := bz4_ BK131))
   go_ret
   exact ⟨by first | rfl | (simp [b2_, b1_] <;> rfl) | (simp [*, b2_, b1_] <;> rfl), hb_⟩
 ·rw [if_neg c2] at H
  have c2b0 : decide (0 ≤ a0_0) = false := decide_eq_false c2
  clear c2
  obtain rfl := Option.some.inj H
  go_enter Try.func45, Try.ntmps45
  go_wp2_with (first | ((with_reducible refine a3_ (N := 1) rfl ?_); refine bx 1 #[.int .i64 a0_0, .int .i64 a0_1, .int .i64 a0_2, .int .i64 a0_3] 27 ?_; intro gb131 hg w23 hbox hb; have BK131 := m_ (hbox); have GW131 := ge_ hg; have GE131 := ge_ hg; replace HB := hs_ hb; clear hb hbox hg; obtain ⟨hcz24_0, hcz24_1, hcz24_2, hcz24_3, hfz24_0, hfz24_1, hfz24_2, hfz24_3⟩ := bz4_ BK131))
  go_ret
  exact ⟨by first | rfl | (simp [b2_, b1_] <;> rfl) | (simp [*, b2_, b1_] <;> rfl), hb_⟩
def ensembleref04_Fits.l0 : Nat → Int → Int → Int → Int → Int → Int → Int → Int → Int → Option (Int)
 | 0, _, _, _, _, _, _, _, _, _ => none
 | k + 1, x5, x150000, x150001, x150002, x150003, x151000, x151001, x151002, x151003 => if x5 < 16 then ((ensembleref04_Piece.f k x150000 x150001 x150002 x150003 x151000 x151001 x151002 x151003).bind fun bt152 => (if bt152.2.2.2.2.2.2.2.2 = 0 then (ensembleref04_Fits.l0 k (wrap64 (x5 + 1)) x150000 x150001 x150002 x150003 bt152.2.2.2.2.1 bt152.2.2.2.2.2.1 bt152.2.2.2.2.2.2.1 bt152.2.2.2.2.2.2.2.1) else (some x5))) else (some x5)
def ensembleref04_Fits.f (k : Nat) (a0_0 a0_1 a0_2 a0_3 a1_0 a1_1 a1_2 a1_3 : Int) : Option (Int) := (ensembleref04_Right.f a0_0 a0_1 a0_2 a0_3).bind fun t151 => (if t151 = true then (ensembleref04_Fits.l0 k 0 a0_0 a0_1 a0_2 a0_3 a1_0 a1_1 a1_2 a1_3) else (some 0))
set_option maxHeartbeats 8000000 in
set_option maxRecDepth 100000 in
theorem ensembleref04_Fits.calls (k : Nat) (a0_0 a0_1 a0_2 a0_3 a1_0 a1_1 a1_2 a1_3 r : Int) (w : World) (h : ensembleref04_Fits.f k a0_0 a0_1 a0_2 a0_3 a1_0 a1_1 a1_2 a1_3 = some r) :
  Calls Try.prog 47 #[.agg #[.int .i64 a0_0, .int .i64 a0_1, .int .i64 a0_2, .int .i64 a0_3], .agg #[.int .i64 a1_0, .int .i64 a1_1, .int .u64 a1_2, .int .i64 a1_3]] w fun e w' => e = .returned (.int .i64 r) ∧ Below w.heap.size w w' := by
 have hu27 := Try.underlying27
 have hu51 := Try.underlying51
 have hu52 := Try.underlying52
 have HB := m_ (Below.refl w.heap.size w)
 have H := h
 unfold ensembleref04_Fits.f at H
 clear h
 replace H := Option.bind_eq_some_iff.mp H
 obtain ⟨t151, A30, H⟩ := H
 try dsimp only at H
 have A3 := m_ A30
 clear A30
 by_cases c4 : t151 = true
 ·subst c4
  have H1 : (ensembleref04_Fits.l0 k 0 a0_0 a0_1 a0_2 a0_3 a1_0 a1_1 a1_2 a1_3) = some r := by rw [if_pos rfl] at H; exact H
  clear H
  have H := H1
  clear H1
  have H' := m_ H
  clear H
  go_enter Try.func47, Try.ntmps47
  go_wp2_with (first | ((with_reducible refine a3_ (N := 2) rfl ?_); refine bx 2 #[.int .i64 a0_0, .int .i64 a0_1, .int .i64 a0_2, .int .i64 a0_3] 27 ?_; intro gb149 hg w5 hbox hb; have BK149 := m_ (hbox); have GW149 := ge_ hg; have GE149 := ge_ hg; replace HB := hs_ hb; clear hb hbox hg) | ((with_reducible refine a3_ (N := 3) rfl ?_); refine bx 3 #[.int .i64 a1_0, .int .i64 a1_1, .int .u64 a1_2, .int .i64 a1_3] 51 ?_; intro gb150 hg w6 hbox hb; have BK150 := m_ (hbox); have GW150 := ge_ hg; have GE150 := ge_ hg; have NB149_150 := nl_ BK149 hg; have NB150_149 := nr_ BK149 hg; replace BK149 := bk_ BK149 hb; replace HB := hs_ hb; clear hb hbox hg; have hnb7 := NB149_150.out; have hnc7 := NB150_149.out; obtain ⟨hcz8_0, hcz8_1, hcz8_2, hcz8_3, hfz8_0, hfz8_1, hfz8_2, hfz8_3⟩ := bz4_ BK149) | ((with_reducible refine b3_ (f := 45) rfl ?_); refine goesL_ (some 10) rfl rfl Try.func45 (by kernel_rfl) rfl #[.agg #[.int .i64 a0_0, .int .i64 a0_1, .int .i64 a0_2, .int .i64 a0_3]] rfl Z0 ?_; (with_reducible refine (ensembleref04_Right.calls a0_0 a0_1 a0_2 a0_3 true _ A3.out).mono ?_); rintro e w9 ⟨rfl, hb⟩; refine ⟨_, rfl, ?_⟩; replace BK149 := bk_ BK149 hb; replace BK150 := bk_ BK150 hb; replace HB := hs_ hb; (try clear hb); (try clear hb2); (try clear hk); (try clear hi)))
  go_loopg [5] k (fun kq v5 w' => ∃ (x5_1 : Int) (x151000_1 : Int) (x151001_1 : Int) (x151002_1 : Int) (x151003_1 : Int), v5 = .int .i64 x5_1 ∧ A_ (ensembleref04_Fits.l0 kq x5_1 a0_0 a0_1 a0_2 a0_3 x151000_1 x151001_1 x151002_1 x151003_1 = some r) ∧ A_ (kq ≤ k) ∧ A_ (w'.heap[gb149]? = some (.cells #[.int .i64 a0_0, .int .i64 a0_1, .int .i64 a0_2, .int .i64 a0_3] 27 (0, 0))) ∧ A_ (w'.heap[gb150]? = some (.cells #[.int .i64 x151000_1, .int .i64 x151001_1, .int .u64 x151002_1, .int .i64 x151003_1] 51 (0, 0))) ∧ A_ (Below w.heap.size w w'))
  case atStart => exact ⟨(0), (a1_0), (a1_1), (a1_2), (a1_3), Z1, H', ⟨Nat.le_refl _⟩, ⟨bo_ BK149⟩, ⟨bo_ BK150⟩, ⟨hb_⟩⟩
  case round =>
   clear H'
   try clear p2
   try clear c4
   try clear c7
   try clear hcz8_0 hcz8_1 hcz8_2 hcz8_3 hfz8_0 hfz8_1 hfz8_2 hfz8_3
   obtain ⟨x5_1, x151000_1, x151001_1, x151002_1, x151003_1, rfl, HA, HK1, BK149, BK150, HB⟩ := hrel
   cases gk with
   | zero => exact absurd HA.out (by simp [ensembleref04_Fits.l0])
   | succ k1 =>
    have H := HA.out
    clear HA
    simp only [ensembleref04_Fits.l0] at H
    by_cases c10 : x5_1 < 16
    ·rw [if_pos c10] at H
     have c10b0 : decide (x5_1 < 16) = true := decide_eq_true c10
     clear c10
     replace H := Option.bind_eq_some_iff.mp H
     obtain ⟨⟨t152, t153, t154, t155, t156, t157, t158, t159, t160⟩, A110, H⟩ := H
     try dsimp only at H
     have A11 := m_ A110
     clear A110
     by_cases c12 : t160 = 0
     ·rw [if_pos c12] at H
      have c12b0 : (t160 == 0) = true := beq_iff_eq.mpr c12
      have c12b1 : (t160 != 0) = false := bne_eq_false_iff_eq.mpr c12
      clear c12
      have H' := m_ H
      clear H
      have hnb13 := NB149_150.out
      have hnc13 := NB150_149.out
      obtain ⟨hcz14_0, hcz14_1, hcz14_2, hcz14_3, hfz14_0, hfz14_1, hfz14_2, hfz14_3⟩ := bz4_ BK149
      obtain ⟨hcz15_0, hcz15_1, hcz15_2, hcz15_3, hfz15_0, hfz15_1, hfz15_2, hfz15_3⟩ := bz4_ BK150
      go_wp2_with (first | ((with_reducible refine b3_ (f := 89) rfl ?_); refine goesL_ (some 17) rfl rfl Try.func89 (by kernel_rfl) rfl #[.agg #[.int .i64 a0_0, .int .i64 a0_1, .int .i64 a0_2, .int .i64 a0_3], .agg #[.int .i64 x151000_1, .int .i64 x151001_1, .int .u64 x151002_1, .int .i64 x151003_1]] rfl Z0 ?_; (with_reducible refine (ensembleref04_Piece.calls k1 a0_0 a0_1 a0_2 a0_3 x151000_1 x151001_1 x151002_1 x151003_1 t152 t153 t154 t155 t156 t157 t158 t159 t160 _ A11.out).mono ?_); rintro e w16 ⟨rfl, hb⟩; refine ⟨_, rfl, ?_⟩; replace BK149 := bk_ BK149 hb; replace BK150 := bk_ BK150 hb; replace HB := hs_ hb; (try clear hb); (try clear hb2); (try clear hk); (try clear hi)) | ((with_reducible refine a3_ (N := 6) rfl ?_); refine bx 6 #[.int .i64 0, .int .i64 0, .int .u64 0, .int .i64 0] 52 ?_; intro gb161 hg w17 hbox hb; have BK161 := m_ (hbox); have GW161 := ge_ hg; have GE161 := ge_ hg; have NB149_161 := nl_ BK149 hg; have NB161_149 := nr_ BK149 hg; have NB150_161 := nl_ BK150 hg; have NB161_150 := nr_ BK150 hg; replace BK149 := bk_ BK149 hb; replace BK150 := bk_ BK150 hb; replace HB := hs_ hb; clear hb hbox hg) | ((with_reducible refine a3_ (N := 7) rfl ?_); refine bx 7 #[.int .i64 0, .int .i64 0, .int .u64 0, .int .i64 0] 51 ?_; intro gb162 hg w18 hbox hb; have BK162 := m_ (hbox); have GW162 := ge_ hg; have GE162 := ge_ hg; have NB149_162 := nl_ BK149 hg; have NB162_149 := nr_ BK149 hg; have NB150_162 := nl_ BK150 hg; have NB162_150 := nr_ BK150 hg; have NB161_162 := nl_ BK161 hg; have NB162_161 := nr_ BK161 hg; replace BK149 := bk_ BK149 hb; replace BK150 := bk_ BK150 hb; replace BK161 := bk_ BK161 hb; replace HB := hs_ hb; clear hb hbox hg; have hnb19 := NB161_149.out; have hnc19 := NB149_161.out; have hnb20 := NB161_150.out; have hnc20 := NB150_161.out; have hnb21 := NB161_162.out; have hnc21 := NB162_161.out; obtain ⟨hcz22_0, hcz22_1, hcz22_2, hcz22_3, hfz22_0, hfz22_1, hfz22_2, hfz22_3⟩ := bz4_ BK161; have hnb23 := NB162_149.out; have hnc23 := NB149_162.out; have hnb24 := NB162_150.out; have hnc24 := NB150_162.out; obtain ⟨hcz25_0, hcz25_1, hcz25_2, hcz25_3, hfz25_0, hfz25_1, hfz25_2, hfz25_3⟩ := bz4_ BK162; obtain ⟨hcz26_0, hcz26_1, hcz26_2, hcz26_3, hfz26_0, hfz26_1, hfz26_2, hfz26_3⟩ := bz4_ BK150))
      go_roundg k1
      case measure => have := HK1.out; omega
      case rel => exact ⟨(wrap64 (x5_1 + 1)), (t156), (t157), (t158), (t159), Z1, H', ⟨by have := HK1.out; omega⟩, ⟨bs_⟩, ⟨bs_⟩, ⟨hb_⟩⟩
     ·rw [if_neg c12] at H
      have c12b0 : (t160 == 0) = false := beq_eq_false_iff_ne.mpr c12
      have c12b1 : (t160 != 0) = true := bne_iff_ne.mpr c12
      obtain rfl := Option.some.inj H
      have hnb27 := NB149_150.out
      have hnc27 := NB150_149.out
      obtain ⟨hcz28_0, hcz28_1, hcz28_2, hcz28_3, hfz28_0, hfz28_1, hfz28_2, hfz28_3⟩ := bz4_ BK149
      obtain ⟨hcz29_0, hcz29_1, hcz29_2, hcz29_3, hfz29_0, hfz29_1, hfz29_2, hfz29_3⟩ := bz4_ BK150
      go_wp2_with (first | ((with_reducible refine b3_ (f := 89) rfl ?_); refine goesL_ (some 17) rfl rfl Try.func89 (by kernel_rfl) rfl #[.agg #[.int .i64 a0_0, .int .i64 a0_1, .int .i64 a0_2, .int .i64 a0_3], .agg #[.int .i64 x151000_1, .int .i64 x151001_1, .int .u64 x151002_1, .int .i64 x151003_1]] rfl Z0 ?_; (with_reducible refine (ensembleref04_Piece.calls k1 a0_0 a0_1 a0_2 a0_3 x151000_1 x151001_1 x151002_1 x151003_1 t152 t153 t154 t155 t156 t157 t158 t159 t160 _ A11.out).mono ?_); rintro e w30 ⟨rfl, hb⟩; refine ⟨_, rfl, ?_⟩; replace BK149 := bk_ BK149 hb; replace BK150 := bk_ BK150 hb; replace HB := hs_ hb; (try clear hb); (try clear hb2); (try clear hk); (try clear hi)) | ((with_reducible refine a3_ (N := 6) rfl ?_); refine bx 6 #[.int .i64 0, .int .i64 0, .int .u64 0, .int .i64 0] 52 ?_; intro gb161 hg w31 hbox hb; have BK161 := m_ (hbox); have GW161 := ge_ hg; have GE161 := ge_ hg; have NB149_161 := nl_ BK149 hg; have NB161_149 := nr_ BK149 hg; have NB150_161 := nl_ BK150 hg; have NB161_150 := nr_ BK150 hg; replace BK149 := bk_ BK149 hb; replace BK150 := bk_ BK150 hb; replace HB := hs_ hb; clear hb hbox hg) | ((with_reducible refine a3_ (N := 7) rfl ?_); refine bx 7 #[.int .i64 0, .int .i64 0, .int .u64 0, .int .i64 0] 51 ?_; intro gb162 hg w32 hbox hb; have BK162 := m_ (hbox); have GW162 := ge_ hg; have GE162 := ge_ hg; have NB149_162 := nl_ BK149 hg; have NB162_149 := nr_ BK149 hg; have NB150_162 := nl_ BK150 hg; have NB162_150 := nr_ BK150 hg; have NB161_162 := nl_ BK161 hg; have NB162_161 := nr_ BK161 hg; replace BK149 := bk_ BK149 hb; replace BK150 := bk_ BK150 hb; replace BK161 := bk_ BK161 hb; replace HB := hs_ hb; clear hb hbox hg; have hnb33 := NB161_149.out; have hnc33 := NB149_161.out; have hnb34 := NB161_150.out; have hnc34 := NB150_161.out; have hnb35 := NB161_162.out; have hnc35 := NB162_161.out; obtain ⟨hcz36_0, hcz36_1, hcz36_2, hcz36_3, hfz36_0, hfz36_1, hfz36_2, hfz36_3⟩ := bz4_ BK161; have hnb37 := NB162_149.out; have hnc37 := NB149_162.out; have hnb38 := NB162_150.out; have hnc38 := NB150_162.out; obtain ⟨hcz39_0, hcz39_1, hcz39_2, hcz39_3, hfz39_0, hfz39_1, hfz39_2, hfz39_3⟩ := bz4_ BK162))
      go_ret
      exact ⟨by first | rfl | (simp [b2_, b1_] <;> rfl) | (simp [*, b2_, b1_] <;> rfl), hb_⟩
    ·rw [if_neg c10] at H
     have c10b0 : decide (x5_1 < 16) = false := decide_eq_false c10
     clear c10
     obtain rfl := Option.some.inj H
     go_wp2
     go_ret
     exact ⟨by first | rfl | (simp [b2_, b1_] <;> rfl) | (simp [*, b2_, b1_] <;> rfl), hb_⟩
 ·replace c4 := Bool.eq_false_iff.mpr c4
  subst c4
  have H1 : (some 0) = some r := by rw [if_neg (show ¬ (false = true) by decide)] at H; exact H
  clear H
  have H := H1
  clear H1
  obtain rfl := Option.some.inj H
  go_enter Try.func47, Try.ntmps47
  go_wp2_with (first | ((with_reducible refine a3_ (N := 2) rfl ?_); refine bx 2 #[.int .i64 a0_0, .int .i64 a0_1, .int .i64 a0_2, .int .i64 a0_3] 27 ?_; intro gb149 hg w40 hbox hb; have BK149 := m_ (hbox); have GW149 := ge_ hg; have GE149 := ge_ hg; replace HB := hs_ hb; clear hb hbox hg) | ((with_reducible refine a3_ (N := 3) rfl ?_); refine bx 3 #[.int .i64 a1_0, .int .i64 a1_1, .int .u64 a1_2, .int .i64 a1_3] 51 ?_; intro gb150 hg w41 hbox hb; have BK150 := m_ (hbox); have GW150 := ge_ hg; have GE150 := ge_ hg; have NB149_150 := nl_ BK149 hg; have NB150_149 := nr_ BK149 hg; replace BK149 := bk_ BK149 hb; replace HB := hs_ hb; clear hb hbox hg; have hnb42 := NB149_150.out; have hnc42 := NB150_149.out; obtain ⟨hcz43_0, hcz43_1, hcz43_2, hcz43_3, hfz43_0, hfz43_1, hfz43_2, hfz43_3⟩ := bz4_ BK149) | ((with_reducible refine b3_ (f := 45) rfl ?_); refine goesL_ (some 10) rfl rfl Try.func45 (by kernel_rfl) rfl #[.agg #[.int .i64 a0_0, .int .i64 a0_1, .int .i64 a0_2, .int .i64 a0_3]] rfl Z0 ?_; (with_reducible refine (ensembleref04_Right.calls a0_0 a0_1 a0_2 a0_3 false _ A3.out).mono ?_); rintro e w44 ⟨rfl, hb⟩; refine ⟨_, rfl, ?_⟩; replace BK149 := bk_ BK149 hb; replace BK150 := bk_ BK150 hb; replace HB := hs_ hb; (try clear hb); (try clear hb2); (try clear hk); (try clear hi)))
  go_ret
  exact ⟨by first | rfl | (simp [b2_, b1_] <;> rfl) | (simp [*, b2_, b1_] <;> rfl), hb_⟩
def ensembleref05_Room.l0 : Nat → List (S51) → Int → Int → Int → Int → Int → Int → Option (Int)
 | 0, _, _, _, _, _, _, _ => none
 | k + 1, x0, x5, x6, x164000, x164001, x164002, x164003 => if x6 < (x0.length : Int) then (if 0 ≤ x6 then ((ensembleref04_Fits.f k x164000 x164001 x164002 x164003 ((a4_ x0 x6).f0.f0) ((a4_ x0 x6).f0.f1) ((a4_ x0 x6).f1) ((a4_ x0 x6).f2)).bind fun t165 => (ensembleref05_Room.l0 k x0 (wrap64 (x5 + t165)) (wrap64 (x6 + 1)) x164000 x164001 x164002 x164003)) else (none)) else (some x5)
def ensembleref05_Room.f (k : Nat) (l0 : List (S51)) (a1_0 a1_1 a1_2 a1_3 : Int) : Option (Int) := ensembleref05_Room.l0 k l0 0 0 a1_0 a1_1 a1_2 a1_3
def ensembleref05_Room.T5 : Bool × List (List Nat × List Nat) := (true, [([], []), ([], []), ([], []), ([], []), ([2, 3], [2, 3]), ([4], [4]), ([1, 5], [1, 5]), ([0, 6], [0, 6]), ([7, 6, 0, 1, 2, 3, 4, 5, 6, 7], [0, 7])])
def ensembleref05_Room.B5 : List Nat := [0, 0, 0, 0, 12, 28, 62, 127, 255]
theorem ensembleref05_Room.tab5 : rtab .any (opsOf Try.f34 5) = ensembleref05_Room.T5 := by kernel_rfl
theorem ensembleref05_Room.bits5 : waitsOk ensembleref05_Room.T5.2 ensembleref05_Room.B5 = true := by kernel_rfl
set_option maxHeartbeats 8000000 in
set_option maxRecDepth 100000 in
theorem ensembleref05_Room.calls (k : Nat) (A0 : Option Addr) (c0 : Nat) (l0 : List (S51)) (a1_0 a1_1 a1_2 a1_3 r : Int) (w : World) (hr0 : Kd.C k51 w A0 l0.length l0) (hc0 : l0.length ≤ c0) (h : ensembleref05_Room.f k l0 a1_0 a1_1 a1_2 a1_3 = some r) :
  Calls Try.prog 34 #[.slice A0 l0.length c0, .agg #[.int .i64 a1_0, .int .i64 a1_1, .int .i64 a1_2, .int .i64 a1_3]] w fun e w' => e = .returned (.int .i64 r) ∧ Below w.heap.size w w' := by
 have hu27 := Try.underlying27
 have hu51 := Try.underlying51
 have HR0 := m_ hr0
 have HC0 := m_ hc0
 clear hr0 hc0
 have HB := m_ (Below.refl w.heap.size w)
 have H := h
 unfold ensembleref05_Room.f at H
 clear h
 have H' := m_ H
 clear H
 go_enter Try.func34, Try.ntmps34
 go_wp2_with (first | ((with_reducible refine a3_ (N := 3) rfl ?_); refine bx 3 #[.int .i64 a1_0, .int .i64 a1_1, .int .i64 a1_2, .int .i64 a1_3] 27 ?_; intro gb163 hg w3 hbox hb; have BK163 := m_ (hbox); have GW163 := ge_ hg; have GE163 := ge_ hg; replace HB := hs_ hb; clear hb hbox hg))
 go_loopg [5, 6] k (fun kq v5 v6 w' => ∃ (x5_1 : Int) (x6_1 : Int), v5 = .int .i64 x5_1 ∧ v6 = .int .i64 x6_1 ∧ A_ (ensembleref05_Room.l0 kq l0 x5_1 x6_1 a1_0 a1_1 a1_2 a1_3 = some r) ∧ A_ (kq ≤ k) ∧ A_ (w'.heap[gb163]? = some (.cells #[.int .i64 a1_0, .int .i64 a1_1, .int .i64 a1_2, .int .i64 a1_3] 27 (0, 0))) ∧ A_ (Below w.heap.size w w'))
 case atStart => exact ⟨(0), (0), Z1, Z1, H', ⟨Nat.le_refl _⟩, ⟨bo_ BK163⟩, ⟨hb_⟩⟩
 case round =>
  clear H'
  try clear p2
  try clear c3
  obtain ⟨x5_1, x6_1, rfl, rfl, HA, HK1, BK163, HB⟩ := hrel
  cases gk with
  | zero => exact absurd HA.out (by simp [ensembleref05_Room.l0])
  | succ k1 =>
   have H := HA.out
   clear HA
   simp only [ensembleref05_Room.l0] at H
   by_cases c4 : x6_1 < (l0.length : Int)
   ·rw [if_pos c4] at H
    have c4b0 : decide (x6_1 < (l0.length : Int)) = true := decide_eq_true c4
    clear c4
    by_cases c5 : 0 ≤ x6_1
    ·rw [if_pos c5] at H
     have c5b0 : decide (0 ≤ x6_1) = true := decide_eq_true c5
     clear c5
     replace H := Option.bind_eq_some_iff.mp H
     obtain ⟨t165, A60, H⟩ := H
     try dsimp only at H
     have A6 := m_ A60
     clear A60
     have H' := m_ H
     clear H
     try go_wp2
     replace BK163 := m_ (d7_ BK163.out)
     replace HB := m_ (b8_ HB.out)
     have p164 : 0 ≤ (x6_1 : Int) := of_decide_eq_true Z4
     have q164 : x6_1 < (l0.length : Int) := of_decide_eq_true Z4
     obtain ⟨ad164, e164, hx164_0, hx164_1, hx164_2, hx164_3⟩ := at_T51 HR0.out x6_1 p164 q164
     have hw164_3 := hx164_3
     have hw164_2 := hx164_2
     have hw164_1 := hx164_1
     have hw164_0 := hx164_0
     cases e164
     replace hx164_0 := cx_ hx164_0
     replace hx164_1 := cx_ hx164_1
     replace hx164_2 := cx_ hx164_2
     replace hx164_3 := cx_ hx164_3
     replace p164 := eq_true p164
     replace q164 := eq_true q164
     refine start_ (n := 9) (S := fun w' => w'.cell? ⟨gb163, 0, none⟩ = some (.int .i64 a1_0) ∧ w'.cell? ⟨gb163, 1, none⟩ = some (.int .i64 a1_1) ∧ w'.cell? ⟨gb163, 2, none⟩ = some (.int .i64 a1_2) ∧ w'.cell? ⟨gb163, 3, none⟩ = some (.int .i64 a1_3) ∧ w'.cell? (ad164.add ((x6_1).toNat * 4)) = some (.int .i64 ((a4_ l0 x6_1).f0.f0)) ∧ w'.cell? ⟨(ad164.add ((x6_1).toNat * 4)).block, (ad164.add ((x6_1).toNat * 4)).off + 1, none⟩ = some (.int .i64 ((a4_ l0 x6_1).f0.f1)) ∧ w'.cell? ⟨(ad164.add ((x6_1).toNat * 4)).block, (ad164.add ((x6_1).toNat * 4)).off + 2, none⟩ = some (.int .u64 ((a4_ l0 x6_1).f1)) ∧ w'.cell? ⟨(ad164.add ((x6_1).toNat * 4)).block, (ad164.add ((x6_1).toNat * 4)).off + 3, none⟩ = some (.int .i64 ((a4_ l0 x6_1).f2))) (ds := []) (bm 9 0) (by kernel_rfl) rfl rfl ⟨(a0_ BK163.out 0).trans rfl, (a0_ BK163.out 1).trans rfl, (a0_ BK163.out 2).trans rfl, (a0_ BK163.out 3).trans rfl, ((HB.out.cell (World.block_lt_of_cell? w _ hw164_0)).trans hw164_0), ((HB.out.cell (World.block_lt_of_cell? w _ hw164_1)).trans hw164_1), ((HB.out.cell (World.block_lt_of_cell? w _ hw164_2)).trans hw164_2), ((HB.out.cell (World.block_lt_of_cell? w _ hw164_3)).trans hw164_3)⟩ (fun hHeld => ?_); refine with_tabW ensembleref05_Room.tab5 ensembleref05_Room.bits5 (fun HT_ HW_ => ?_)
     generalize wr.drew = w7 at BK163 HB hx164_0 hx164_1 hx164_2 hx164_3 hHeld ⊢
     refine pu 0 (some 13) (bm 9 1) ?_
     refine pu 2 (some 15) (bm 9 5) ?_
     refine pu 3 (some 16) (bm 9 13) ?_
     refine pu 4 (some 17) (bm 9 29) ?_
     refine tk 1 (some 14) (bm 9 31) ?_
     refine tk 5 (some 18) (bm 9 63) ?_
     refine one_ (i := 6) (N := some 19) (bm 9 127) rfl rfl (one_of HT_.out (by kernel_rfl)) (by decide) (fun K hK => ?_)
     refine goes_ Try.func47 (by kernel_rfl) rfl #[.agg #[.int .i64 a1_0, .int .i64 a1_1, .int .i64 a1_2, .int .i64 a1_3], .agg #[.int .i64 ((a4_ l0 x6_1).f0.f0), .int .i64 ((a4_ l0 x6_1).f0.f1), .int .u64 ((a4_ l0 x6_1).f1), .int .i64 ((a4_ l0 x6_1).f2)]] (by rfl) rfl rfl Z0 ?_
     with_reducible refine (ensembleref04_Fits.calls k1 a1_0 a1_1 a1_2 a1_3 ((a4_ l0 x6_1).f0.f0) ((a4_ l0 x6_1).f0.f1) ((a4_ l0 x6_1).f1) ((a4_ l0 x6_1).f2) t165 _ A6.out).mono ?_
     rintro e w8 ⟨rfl, hb⟩
     refine ⟨_, rfl, ?_⟩
     replace BK163 := bk_ BK163 hb
     replace HB := hs_ hb
     (try clear hb)
     (try clear hb2)
     (try clear hk)
     (try clear hi)
     refine hK.out _ _ ⟨(a0_ BK163.out 0).trans rfl, (a0_ BK163.out 1).trans rfl, (a0_ BK163.out 2).trans rfl, (a0_ BK163.out 3).trans rfl, ((HB.out.cell (World.block_lt_of_cell? w _ hw164_0)).trans hw164_0), ((HB.out.cell (World.block_lt_of_cell? w _ hw164_1)).trans hw164_1), ((HB.out.cell (World.block_lt_of_cell? w _ hw164_2)).trans hw164_2), ((HB.out.cell (World.block_lt_of_cell? w _ hw164_3)).trans hw164_3)⟩ (fun hHeld => ?_)
     clear hK K
     refine norm_ (a' := ?_) ?_ ?_
     rotate_left
     ·show Act.put _ (some 19) _ = _
      simp only [Act.put, List.setIfInBounds_toArray, List.set_cons_zero, List.set_cons_succ, i64_w, i32_w]
      rfl
     refine pu 7 (some 20) (bm 9 255) ?_
     refine pu 8 (some 5) (bm 9 511) ?_
     refine done_ (done_of HT_.out (by kernel_rfl)) ?_
     try go_wp2
     go_roundg k1
     case measure => have := HK1.out; omega
     case rel => exact ⟨(wrap64 (x5_1 + t165)), (wrap64 (x6_1 + 1)), Z1, Z1, H', ⟨by have := HK1.out; omega⟩, ⟨bo_ BK163⟩, ⟨hb_⟩⟩
    ·rw [if_neg c5] at H
     exact absurd H (by simp)
   ·rw [if_neg c4] at H
    have c4b0 : decide (x6_1 < (l0.length : Int)) = false := decide_eq_false c4
    clear c4
    obtain rfl := Option.some.inj H
    go_wp2
    go_ret
    exact ⟨by first | rfl | (simp [b2_, b1_] <;> rfl) | (simp [*, b2_, b1_] <;> rfl), hb_⟩
def ensembleref04_Units.l0 : Nat → Int → Int → Int → Int → Int → Int → Int → Int → Option (Int × Int)
 | 0, _, _, _, _, _, _, _, _ => none
 | k + 1, x1, x6, x167000, x167001, x167002, x167003, x169000, x169001 => if x6 < x1 then (ensembleref04_Units.l0 k x1 (wrap64 (x6 + 1)) x167000 x167001 x167002 x167003 (wrap64 (x169000 + x167000)) (wrap64 (x169001 + x167001))) else (some (x169000, x169001))
def ensembleref04_Units.f (k : Nat) (a0_0 a0_1 a0_2 a0_3 a1 : Int) : Option (Int × Int) := ensembleref04_Units.l0 k a1 0 a0_0 a0_1 a0_2 a0_3 0 0
set_option maxHeartbeats 8000000 in
set_option maxRecDepth 100000 in
theorem ensembleref04_Units.calls (k : Nat) (a0_0 a0_1 a0_2 a0_3 a1 r1 r2 : Int) (w : World) (h : ensembleref04_Units.f k a0_0 a0_1 a0_2 a0_3 a1 = some (r1, r2)) :
  Calls Try.prog 77 #[.agg #[.int .i64 a0_0, .int .i64 a0_1, .int .i64 a0_2, .int .i64 a0_3], .int .i64 a1] w fun e w' => e = .returned (.agg #[.int .i64 r1, .int .i64 r2]) ∧ Below w.heap.size w w' := by
 have hu27 := Try.underlying27
 have hu24 := Try.underlying24
 have HB := m_ (Below.refl w.heap.size w)
 have H := h
 unfold ensembleref04_Units.f at H
 clear h
 have H' := m_ H
 clear H
 go_enter Try.func77, Try.ntmps77
 go_wp2_with (first | ((with_reducible refine a3_ (N := 2) rfl ?_); refine bx 2 #[.int .i64 a0_0, .int .i64 a0_1, .int .i64 a0_2, .int .i64 a0_3] 27 ?_; intro gb166 hg w3 hbox hb; have BK166 := m_ (hbox); have GW166 := ge_ hg; have GE166 := ge_ hg; replace HB := hs_ hb; clear hb hbox hg) | ((with_reducible refine a3_ (N := 4) rfl ?_); refine bx 4 #[.int .i64 0, .int .i64 0] 24 ?_; intro gb167 hg w4 hbox hb; have BK167 := m_ (hbox); have GW167 := ge_ hg; have GE167 := ge_ hg; have NB166_167 := nl_ BK166 hg; have NB167_166 := nr_ BK166 hg; replace BK166 := bk_ BK166 hb; replace HB := hs_ hb; clear hb hbox hg) | ((with_reducible refine a3_ (N := 5) rfl ?_); refine bx 5 #[.int .i64 0, .int .i64 0] 24 ?_; intro gb168 hg w5 hbox hb; have BK168 := m_ (hbox); have GW168 := ge_ hg; have GE168 := ge_ hg; have NB166_168 := nl_ BK166 hg; have NB168_166 := nr_ BK166 hg; have NB167_168 := nl_ BK167 hg; have NB168_167 := nr_ BK167 hg; replace BK166 := bk_ BK166 hb; replace BK167 := bk_ BK167 hb; replace HB := hs_ hb; clear hb hbox hg; have hnb6 := NB168_166.out; have hnc6 := NB166_168.out; have hnb7 := NB168_167.out; have hnc7 := NB167_168.out; obtain ⟨hcz8_0, hcz8_1, hfz8_0, hfz8_1⟩ := bz2_ BK168))
 go_loopg [6] k (fun kq v6 w' => ∃ (x6_1 : Int) (x169000_1 : Int) (x169001_1 : Int), v6 = .int .i64 x6_1 ∧ A_ (ensembleref04_Units.l0 kq a1 x6_1 a0_0 a0_1 a0_2 a0_3 x169000_1 x169001_1 = some (r1, r2)) ∧ A_ (kq ≤ k) ∧ A_ (w'.heap[gb166]? = some (.cells #[.int .i64 a0_0, .int .i64 a0_1, .int .i64 a0_2, .int .i64 a0_3] 27 (0, 0))) ∧ A_ (w'.heap[gb167]? = some (.cells #[.int .i64 0, .int .i64 0] 24 (0, 0))) ∧ A_ (w'.heap[gb168]? = some (.cells #[.int .i64 x169000_1, .int .i64 x169001_1] 24 (0, 0))) ∧ A_ (Below w.heap.size w w'))
 case atStart => exact ⟨(0), (0), (0), Z1, H', ⟨Nat.le_refl _⟩, ⟨bs_⟩, ⟨bs_⟩, ⟨bs_⟩, ⟨hb_⟩⟩
 case round =>
  clear H'
  try clear p2
  try clear c6
  try clear c7
  try clear hcz8_0 hcz8_1 hfz8_0 hfz8_1
  obtain ⟨x6_1, x169000_1, x169001_1, rfl, HA, HK1, BK166, BK167, BK168, HB⟩ := hrel
  cases gk with
  | zero => exact absurd HA.out (by simp [ensembleref04_Units.l0])
  | succ k1 =>
   have H := HA.out
   clear HA
   simp only [ensembleref04_Units.l0] at H
   by_cases c9 : x6_1 < a1
   ·rw [if_pos c9] at H
    have c9b0 : decide (x6_1 < a1) = true := decide_eq_true c9
    clear c9
    have H' := m_ H
    clear H
    have hnb10 := NB168_166.out
    have hnc10 := NB166_168.out
    have hnb11 := NB168_167.out
    have hnc11 := NB167_168.out
    obtain ⟨hcz12_0, hcz12_1, hfz12_0, hfz12_1⟩ := bz2_ BK168
    have hnb13 := NB166_167.out
    have hnc13 := NB167_166.out
    obtain ⟨hcz14_0, hcz14_1, hcz14_2, hcz14_3, hfz14_0, hfz14_1, hfz14_2, hfz14_3⟩ := bz4_ BK166
    go_wp2
    go_roundg k1
    case measure => have := HK1.out; omega
    case rel => exact ⟨(wrap64 (x6_1 + 1)), (wrap64 (x169000_1 + a0_0)), (wrap64 (x169001_1 + a0_1)), Z1, H', ⟨by have := HK1.out; omega⟩, ⟨bs_⟩, ⟨bs_⟩, ⟨bs_⟩, ⟨hb_⟩⟩
   ·rw [if_neg c9] at H
    have c9b0 : decide (x6_1 < a1) = false := decide_eq_false c9
    clear c9
    simp only [Option.some.injEq, Prod.mk.injEq] at H
    obtain ⟨rfl, rfl⟩ := H
    have hnb15 := NB168_166.out
    have hnc15 := NB166_168.out
    have hnb16 := NB168_167.out
    have hnc16 := NB167_168.out
    obtain ⟨hcz17_0, hcz17_1, hfz17_0, hfz17_1⟩ := bz2_ BK168
    have hnb18 := NB167_166.out
    have hnc18 := NB166_167.out
    obtain ⟨hcz19_0, hcz19_1, hfz19_0, hfz19_1⟩ := bz2_ BK167
    go_wp2
    refine bodyPost_ret (results_cell_row rfl _ _ gb167 24 #[.int .i64 x169000_1, .int .i64 x169001_1] (0, 0) _ rfl (bt_ BK167) Try.underlying24 rfl (by kernel_rfl)) rfl ?_
    exact ⟨by first | rfl | (simp [b2_, b1_] <;> rfl) | (simp [*, b2_, b1_] <;> rfl), hb_⟩
def ensembleref12_Right.f (a0_0 a0_1 a0_2 a0_3 a0_4 a0_5 : Int) : Option (Bool) := (ensembleref04_Right.f a0_2 a0_3 a0_4 a0_5).bind fun t133 => (if t133 = true then (if a0_1 ≥ 1 then (some (decide (a0_1 ≤ 16))) else (some false)) else (some false))
set_option maxHeartbeats 8000000 in
set_option maxRecDepth 100000 in
theorem ensembleref12_Right.calls (a0_0 a0_1 a0_2 a0_3 a0_4 a0_5 : Int) (r : Bool) (w : World) (h : ensembleref12_Right.f a0_0 a0_1 a0_2 a0_3 a0_4 a0_5 = some r) :
  Calls Try.prog 33 #[.agg #[.int .i64 a0_0, .int .i64 a0_1, .int .i64 a0_2, .int .i64 a0_3, .int .i64 a0_4, .int .i64 a0_5]] w fun e w' => e = .returned (.bool r) ∧ Below w.heap.size w w' := by
 have hu29 := Try.underlying29
 have hu27 := Try.underlying27
 have HB := m_ (Below.refl w.heap.size w)
 have H := h
 unfold ensembleref12_Right.f at H
 clear h
 replace H := Option.bind_eq_some_iff.mp H
 obtain ⟨t133, A20, H⟩ := H
 try dsimp only at H
 have A2 := m_ A20
 clear A20
 by_cases c3 : t133 = true
 ·subst c3
  have H1 : (if a0_1 ≥ 1 then (some (decide (a0_1 ≤ 16))) else (some false)) = some r := by rw [if_pos rfl] at H; exact H
  clear H
  have H := H1
  clear H1
  by_cases c4 : a0_1 ≥ 1
  ·rw [if_pos c4] at H
   have c4b0 : decide (1 ≤ a0_1) = true := decide_eq_true c4
   clear c4
   obtain rfl := Option.some.inj H
   go_enter Try.func33, Try.ntmps33
   go_wp2_with (first | ((with_reducible refine a3_ (N := 1) rfl ?_); refine bx 1 #[.int .i64 a0_0, .int .i64 a0_1, .int .i64 a0_2, .int .i64 a0_3, .int .i64 a0_4, .int .i64 a0_5] 29 ?_; intro gb132 hg w5 hbox hb; have BK132 := m_ (hbox); have GW132 := ge_ hg; have GE132 := ge_ hg; replace HB := hs_ hb; clear hb hbox hg; obtain ⟨hcz6_0, hcz6_1, hcz6_2, hcz6_3, hcz6_4, hcz6_5, hfz6_0, hfz6_1, hfz6_2, hfz6_3, hfz6_4, hfz6_5⟩ := bz6_ BK132) | ((with_reducible refine b3_ (f := 45) rfl ?_); refine goesL_ (some 5) rfl rfl Try.func45 (by kernel_rfl) rfl #[.agg #[.int .i64 a0_2, .int .i64 a0_3, .int .i64 a0_4, .int .i64 a0_5]] rfl Z0 ?_; (with_reducible refine (ensembleref04_Right.calls a0_2 a0_3 a0_4 a0_5 true _ A2.out).mono ?_); rintro e w7 ⟨rfl, hb⟩; refine ⟨_, rfl, ?_⟩; replace BK132 := bk_ BK132 hb; replace HB := hs_ hb; (try clear hb); (try clear hb2); (try clear hk); (try clear hi); obtain ⟨hcz8_0, hcz8_1, hcz8_2, hcz8_3, hcz8_4, hcz8_5, hfz8_0, hfz8_1, hfz8_2, hfz8_3, hfz8_4, hfz8_5⟩ := bz6_ BK132))
   go_ret
   exact ⟨by first | rfl | (simp [b2_, b1_] <;> rfl) | (simp [*, b2_, b1_] <;> rfl), hb_⟩
  ·rw [if_neg c4] at H
   have c4b0 : decide (1 ≤ a0_1) = false := decide_eq_false c4
   clear c4
   obtain rfl := Option.some.inj H
   go_enter Try.func33, Try.ntmps33
   go_wp2_with (first | ((with_reducible refine a3_ (N := 1) rfl ?_); refine bx 1 #[.int .i64 a0_0, .int .i64 a0_1, .int .i64 a0_2, .int .i64 a0_3, .int .i64 a0_4, .int .i64 a0_5] 29 ?_; intro gb132 hg w9 hbox hb; have BK132 := m_ (hbox); have GW132 := ge_ hg; have GE132 := ge_ hg; replace HB := hs_ hb; clear hb hbox hg; obtain ⟨hcz10_0, hcz10_1, hcz10_2, hcz10_3, hcz10_4, hcz10_5, hfz10_0, hfz10_1, hfz10_2, hfz10_3, hfz10_4, hfz10_5⟩ := bz6_ BK132) | ((with_reducible refine b3_ (f := 45) rfl ?_); refine goesL_ (some 5) rfl rfl Try.func45 (by kernel_rfl) rfl #[.agg #[.int .i64 a0_2, .int .i64 a0_3, .int .i64 a0_4, .int .i64 a0_5]] rfl Z0 ?_; (with_reducible refine (ensembleref04_Right.calls a0_2 a0_3 a0_4 a0_5 true _ A2.out).mono ?_); rintro e w11 ⟨rfl, hb⟩; refine ⟨_, rfl, ?_⟩; replace BK132 := bk_ BK132 hb; replace HB := hs_ hb; (try clear hb); (try clear hb2); (try clear hk); (try clear hi); obtain ⟨hcz12_0, hcz12_1, hcz12_2, hcz12_3, hcz12_4, hcz12_5, hfz12_0, hfz12_1, hfz12_2, hfz12_3, hfz12_4, hfz12_5⟩ := bz6_ BK132))
   go_ret
   exact ⟨by first | rfl | (simp [b2_, b1_] <;> rfl) | (simp [*, b2_, b1_] <;> rfl), hb_⟩
 ·replace c3 := Bool.eq_false_iff.mpr c3
  subst c3
  have H1 : (some false) = some r := by rw [if_neg (show ¬ (false = true) by decide)] at H; exact H
  clear H
  have H := H1
  clear H1
  obtain rfl := Option.some.inj H
  go_enter Try.func33, Try.ntmps33
  go_wp2_with (first | ((with_reducible refine a3_ (N := 1) rfl ?_); refine bx 1 #[.int .i64 a0_0, .int .i64 a0_1, .int .i64 a0_2, .int .i64 a0_3, .int .i64 a0_4, .int .i64 a0_5] 29 ?_; intro gb132 hg w13 hbox hb; have BK132 := m_ (hbox); have GW132 := ge_ hg; have GE132 := ge_ hg; replace HB := hs_ hb; clear hb hbox hg; obtain ⟨hcz14_0, hcz14_1, hcz14_2, hcz14_3, hcz14_4, hcz14_5, hfz14_0, hfz14_1, hfz14_2, hfz14_3, hfz14_4, hfz14_5⟩ := bz6_ BK132) | ((with_reducible refine b3_ (f := 45) rfl ?_); refine goesL_ (some 5) rfl rfl Try.func45 (by kernel_rfl) rfl #[.agg #[.int .i64 a0_2, .int .i64 a0_3, .int .i64 a0_4, .int .i64 a0_5]] rfl Z0 ?_; (with_reducible refine (ensembleref04_Right.calls a0_2 a0_3 a0_4 a0_5 false _ A2.out).mono ?_); rintro e w15 ⟨rfl, hb⟩; refine ⟨_, rfl, ?_⟩; replace BK132 := bk_ BK132 hb; replace HB := hs_ hb; (try clear hb); (try clear hb2); (try clear hk); (try clear hi)))
  go_ret
  exact ⟨by first | rfl | (simp [b2_, b1_] <;> rfl) | (simp [*, b2_, b1_] <;> rfl), hb_⟩
end Go.Proofs.Ytckhjehibjdjdaa.P
namespace Go.Proofs.Ytckhjehibjdjdaa.P
open Go.RowKit Go.Proofs.YtckhjehibjdjdaaW.PrintWords Go.Proofs.YtckhjehibjdjdaaW.PrintLast Go.Proofs.YtckhjehibjdjdaaW.PrintMore
attribute [local go_sem] max2_int min2_int max_two min_two max_three min_three max_four min_four
attribute [local go_sem] cellBx frozBx
def ensembleref12_Fits.f (k : Nat) (l0 : List (S51)) (a1_0 a1_1 a2_0 a2_1 a2_2 a2_3 a2_4 a2_5 : Int) : Option (Bool) := (ensembleref12_Right.f a2_0 a2_1 a2_2 a2_3 a2_4 a2_5).bind fun t171 => (if t171 = true then ((ensembleref04_Units.f k a2_2 a2_3 a2_4 a2_5 a2_1).bind fun bt172 => (if bt172.1 ≤ a1_0 then (if bt172.2 ≤ a1_1 then ((ensembleref05_Room.f k l0 a2_2 a2_3 a2_4 a2_5).bind fun t175 => (some (decide (t175 ≥ a2_1)))) else (some false)) else (some false))) else (some false))
set_option maxHeartbeats 8000000 in
set_option maxRecDepth 100000 in
theorem ensembleref12_Fits.calls (k : Nat) (A0 : Option Addr) (c0 : Nat) (l0 : List (S51)) (a1_0 a1_1 a2_0 a2_1 a2_2 a2_3 a2_4 a2_5 : Int) (r : Bool) (w : World) (hr0 : Kd.C k51 w A0 l0.length l0) (hc0 : l0.length ≤ c0) (h : ensembleref12_Fits.f k l0 a1_0 a1_1 a2_0 a2_1 a2_2 a2_3 a2_4 a2_5 = some r) :
  Calls Try.prog 30 #[.slice A0 l0.length c0, .agg #[.int .i64 a1_0, .int .i64 a1_1], .agg #[.int .i64 a2_0, .int .i64 a2_1, .int .i64 a2_2, .int .i64 a2_3, .int .i64 a2_4, .int .i64 a2_5]] w fun e w' => e = .returned (.bool r) ∧ Below w.heap.size w w' := by
 have hu24 := Try.underlying24
 have hu29 := Try.underlying29
 have hu27 := Try.underlying27
 have : Be w w := ⟨Below.refl _ _⟩
 unfold ensembleref12_Fits.f at h
 replace h := bindS h
 obtain ⟨t, hR, h⟩ := h
 have HR := m_ hR
 clear hR
 have hh := h
 clear h
 go_enter Try.func30, Try.ntmps30
 cases t with
 | false =>
  rw [if_neg (by decide)] at hh
  obtain rfl := Option.some.inj hh
  clear hh
  go_wp2_with (first | ((with_reducible refine a3_ (N := 4) rfl ?_); refine bxT 4 #[.int .i64 a1_0, .int .i64 a1_1] 24 ?_; intro g4 w4 _ _ _) | ((with_reducible refine a3_ (N := 5) rfl ?_); refine bxT 5 #[.int .i64 a2_0, .int .i64 a2_1, .int .i64 a2_2, .int .i64 a2_3, .int .i64 a2_4, .int .i64 a2_5] 29 ?_; intro g5 w5 _ _ _) | (go_at_call 33; refine (ensembleref12_Right.calls _ _ _ _ _ _ _ _ HR.out).mono ?_; rintro e wr ⟨rfl, hb⟩; have := Bl.mk hb; clear hb))
  go_ret
  exact ⟨rfl, Be.out⟩
 | true =>
  rw [if_pos rfl] at hh
  replace hh := bindS hh
  obtain ⟨⟨u, v⟩, hU, hh⟩ := hh
  simp only at hh
  have HU := m_ hU
  have H := m_ hh
  clear hU hh
  go_upto_region 4 with (first | ((with_reducible refine a3_ (N := 4) rfl ?_); refine bxT 4 #[.int .i64 a1_0, .int .i64 a1_1] 24 ?_; intro g4 w4 _ _ _) | ((with_reducible refine a3_ (N := 5) rfl ?_); refine bxT 5 #[.int .i64 a2_0, .int .i64 a2_1, .int .i64 a2_2, .int .i64 a2_3, .int .i64 a2_4, .int .i64 a2_5] 29 ?_; intro g5 w5 _ _ _) | (go_at_call 33; refine (ensembleref12_Right.calls _ _ _ _ _ _ _ _ HR.out).mono ?_; rintro e wr ⟨rfl, hb⟩; have := Bl.mk hb; clear hb) | (go_at_call 77; refine (ensembleref04_Units.calls _ _ _ _ _ _ _ _ _ HU.out).mono ?_; rintro e wu ⟨rfl, hb⟩; have := Bl.mk hb; clear hb))
  obtain ⟨g7, w7, _, _, _, e1, e2⟩ := nameA wu #[.int .i64 u, .int .i64 v] 24
  rw [e1, e2]
  clear e1 e2
  have hh := H.out
  clear H
  by_cases c1 : u ≤ a1_0
  case neg =>
   rw [if_neg c1] at hh
   have q1 := decide_eq_false c1
   clear c1
   obtain rfl := Option.some.inj hh
   clear hh
   go_region
   go_wp2
   go_ret
   exact ⟨rfl, Be.out⟩
  rw [if_pos c1] at hh
  have q1 := decide_eq_true c1
  clear c1
  by_cases c2 : v ≤ a1_1
  case neg =>
   rw [if_neg c2] at hh
   have q2 := decide_eq_false c2
   clear c2
   obtain rfl := Option.some.inj hh
   clear hh
   go_region
   go_wp2
   go_ret
   exact ⟨rfl, Be.out⟩
  rw [if_pos c2] at hh
  have q2 := decide_eq_true c2
  clear c2
  replace hh := bindS hh
  obtain ⟨t, hM, hh⟩ := hh
  have HM := m_ hM
  clear hM
  obtain rfl := Option.some.inj hh
  clear hh
  go_region_held3 (fun w' => w'.cell? ⟨g7, 0, none⟩ = some (.int .i64 u) ∧ w'.cell? ⟨g7, 1, none⟩ = some (.int .i64 v) ∧ w'.cell? ⟨g4, 0, none⟩ = some (.int .i64 a1_0) ∧ w'.cell? ⟨g4, 1, none⟩ = some (.int .i64 a1_1) ∧ w'.cell? ⟨g5, 0, none⟩ = some (.int .i64 a2_0) ∧ w'.cell? ⟨g5, 1, none⟩ = some (.int .i64 a2_1) ∧ w'.cell? ⟨g5, 2, none⟩ = some (.int .i64 a2_2) ∧ w'.cell? ⟨g5, 3, none⟩ = some (.int .i64 a2_3) ∧ w'.cell? ⟨g5, 4, none⟩ = some (.int .i64 a2_4) ∧ w'.cell? ⟨g5, 5, none⟩ = some (.int .i64 a2_5)) ((repeat' (refine And.intro ?_ ?_)) <;> exact (cellBx _).trans rfl) ((go_at_call 34; refine (ensembleref05_Room.calls _ _ _ _ _ _ _ _ _ _ (Kd.C_below hr0 Be.out) hc0 HM.out).mono ?_; rintro e wm ⟨rfl, hb⟩; have := Bl.mk hb; clear hb))
  go_wp2
  go_ret
  exact ⟨rfl, Be.out⟩
end Go.Proofs.Ytckhjehibjdjdaa.P
namespace Go.Proofs.Ytckhjehibjdjdaa.P
open Go.RowKit Go.Proofs.YtckhjehibjdjdaaW.PrintWords Go.Proofs.YtckhjehibjdjdaaW.PrintLast Go.Proofs.YtckhjehibjdjdaaW.PrintMore
open Go.Proofs.Ytckhjehibjdjdaa.Bits Go.Proofs.Ytckhjehibjdjdaa.Mp
theorem pos_orAll (l : List Nat) (hp : l.Pairwise (· < ·)) (h : ∀ i ∈ l, i < 64) : pos (orAll l) = l := by
 refine List.Perm.eq_of_pairwise (le := (· < ·)) (fun a b _ _ h1 h2 => absurd h1 (by omega)) (pos_sorted _) hp ?_
 have n1 : (pos (orAll l)).Nodup := (pos_sorted _).imp (fun h => by omega)
 have n2 : l.Nodup := hp.imp (fun h => by omega)
 refine (List.perm_ext_iff_of_nodup n1 n2).2 fun j => ?_
 rw [mem_pos, testBit_orAll, decide_eq_true_eq]
 exact ⟨fun h => h.2, fun hj => ⟨h j hj, hj⟩⟩
theorem sub_low (M n : Nat) (hM : M < 18446744073709551616) : M = lowN M n + orAll ((pos M).drop n) := by
 have e0 := orAll_pos (m := M) (by simpa using hM)
 have e1 := sumP_orAll (pos M) (pos_sorted M) (pos M).length (Nat.le_refl _)
 rw [List.take_length] at e1
 have hd : ((pos M).drop n).Pairwise (· < ·) := (pos_sorted M).sublist (List.drop_sublist _ _)
 have e2 := sumP_orAll ((pos M).drop n) hd _ (Nat.le_refl _)
 rw [List.take_length] at e2
 have e3 := sumP_append ((pos M).take n) ((pos M).drop n)
 rw [List.take_append_drop] at e3
 have e4 : sumP ((pos M).take n) = lowN M n := by
  unfold lowN
  by_cases h : n ≤ (pos M).length
  ·exact sumP_orAll (pos M) (pos_sorted M) n h
  ·rw [List.take_of_length_le (by omega), e1]
 omega
theorem pop_sub_low (M n : Nat) (hM : M < 18446744073709551616) : popN (M - lowN M n) = popN M - n := by
 have h := sub_low M n hM
 have e : M - lowN M n = orAll ((pos M).drop n) := by omega
 have hd : ((pos M).drop n).Pairwise (· < ·) := (pos_sorted M).sublist (List.drop_sublist _ _)
 unfold popN
 rw [e, pos_orAll _ hd (fun i hi => (mem_pos.1 (List.mem_of_mem_drop hi)).1), List.length_drop]
theorem low_le (M n : Nat) (hM : M < 18446744073709551616) : lowN M n ≤ M := by have := sub_low M n hM; omega
theorem right04 (g c mn mx : Int) : ensembleref04_Right.f g c mn mx = some (c9_ g c mn mx) := by
 unfold ensembleref04_Right.f
 by_cases h1 : g ≥ 0
 ·by_cases h2 : g ≤ 16
  ·by_cases h3 : c ≥ 0
   ·by_cases h4 : c ≤ 1024
    ·rw [if_pos h1, if_pos h2, if_pos h3, if_pos h4, w_id (by omega)]
     unfold c9_
     rw [decide_eq_true (p := 0 ≤ g) (by omega), decide_eq_true (p := g ≤ 16) h2, decide_eq_true (p := 0 ≤ c) (by omega), decide_eq_true (p := c ≤ 1024) h4]
     by_cases h5 : g + c > 0
     ·rw [if_pos h5]
      have e5 : (decide (g = 0) && decide (c = 0)) = false := by
       rw [Bool.and_eq_false_iff]
       by_cases hg : g = 0
       ·right; exact decide_eq_false (by omega)
       ·left; exact decide_eq_false hg
      rw [e5]
      by_cases h6 : mn ≥ 1
      ·rw [if_pos h6, decide_eq_true (p := 1 ≤ mn) h6]
       by_cases h7 : mn ≤ mx
       ·rw [if_pos h7, decide_eq_true h7, decide_eq_true (p := 1 ≤ mx) (by omega)]; simp
       ·rw [if_neg h7, decide_eq_false h7]; simp
      ·rw [if_neg h6, decide_eq_false (p := 1 ≤ mn) h6]; simp
     ·rw [if_neg h5, decide_eq_true (p := g = 0) (by omega), decide_eq_true (p := c = 0) (by omega)]; simp
    ·rw [if_pos h1, if_pos h2, if_pos h3, if_neg h4]; unfold c9_; rw [decide_eq_false h4]; simp
   ·rw [if_pos h1, if_pos h2, if_neg h3]; unfold c9_; rw [decide_eq_false (p := 0 ≤ c) h3]; simp
  ·rw [if_pos h1, if_neg h2]; unfold c9_; rw [decide_eq_false h2]; simp
 ·rw [if_neg h1]; unfold c9_; rw [decide_eq_false (p := 0 ≤ g) h1]; simp
theorem right12 (q m g c mn mx : Int) : ensembleref12_Right.f q m g c mn mx = some (rightB m g c mn mx) := by
 unfold ensembleref12_Right.f rightB
 rw [right04, Option.bind_some]
 by_cases h : c9_ g c mn mx = true
 ·rw [if_pos h, h]
  by_cases h1 : m ≥ 1
  ·rw [if_pos h1, decide_eq_true (p := 1 ≤ m) h1]; simp
  ·rw [if_neg h1, decide_eq_false (p := 1 ≤ m) h1]; simp
 ·rw [if_neg h, Bool.eq_false_iff.2 h]; simp
theorem good_out {g c mn mx : Int} (h : c9_ g c mn mx = true) : 0 ≤ g ∧ g ≤ 16 ∧ 0 ≤ c ∧ c ≤ 1024 ∧ 1 ≤ mn ∧ mn ≤ mx ∧ 1 ≤ mx ∧ mx ≤ 16 ∧ ¬ (g = 0 ∧ c = 0) := by
 simp only [c9_, Bool.and_eq_true, decide_eq_true_eq, Bool.not_eq_true'] at h
 obtain ⟨⟨⟨⟨⟨⟨⟨⟨h1, h2⟩, h3⟩, h4⟩, h5⟩, h6⟩, h7⟩, h8⟩, h9⟩ := h
 refine ⟨h1, h2, h3, h4, h5, h6, h7, h8, fun ⟨a, b⟩ => ?_⟩
 rw [decide_eq_true a, decide_eq_true b] at h9
 cases h9
def pieceB (g c s0 s1 m cp : Int) : Int × Int × Int × Int × Int × Int × Int × Int × Int :=
 if g ≤ popI m ∧ 0 ≤ cp ∧ c ≤ cp then (s0, s1, lowI m g, c, s0, s1, m - lowI m g, cp - c, 0) else (0, 0, 0, 0, 0, 0, 0, 0, 7)
theorem piece_ev (g c mn mx s0 s1 m cp : Int) (hg : c9_ g c mn mx = true) (hm : 0 ≤ m ∧ m < 18446744073709551616) (hc : cp ≤ 9223372036854775807) :
  Ev (fun k => ensembleref04_Piece.f k g c mn mx s0 s1 m cp) (pieceB g c s0 s1 m cp) := by
 obtain ⟨M, rfl⟩ := Int.eq_ofNat_of_zero_le hm.1
 have hM : M < 18446744073709551616 := by omega
 have hb := good_out hg
 have hlow := lowest_ev M g hM
 rw [if_neg (by omega)] at hlow
 refine Ev.congr (fun k => by rw [ensembleref04_Piece.f]) (Ev.bind hlow ?_)
 by_cases h1 : g > popI (M : Int)
 ·rw [if_pos h1, show pieceB g c s0 s1 (M : Int) cp = (0, 0, 0, 0, 0, 0, 0, 0, 7) from if_neg (by omega)]
  exact Ev.congr (fun k => by rw [if_neg (by decide)]) (Ev.now _)
 ·rw [if_neg h1]
  have h2 : lowN M g.toNat ≤ M := low_le M _ hM
  have e3 : lowI (M : Int) g = ((lowN M g.toNat : Nat) : Int) := rfl
  by_cases h4 : cp < 0
  ·rw [show pieceB g c s0 s1 (M : Int) cp = (0, 0, 0, 0, 0, 0, 0, 0, 7) from if_neg (by omega)]
   exact Ev.congr (fun k => by rw [if_pos (by rfl), if_pos h4]) (Ev.now _)
  ·by_cases h5 : cp < c
   ·rw [show pieceB g c s0 s1 (M : Int) cp = (0, 0, 0, 0, 0, 0, 0, 0, 7) from if_neg (by omega)]
    exact Ev.congr (fun k => by rw [if_pos (by rfl), if_neg h4, if_pos h5]) (Ev.now _)
   ·rw [show pieceB g c s0 s1 (M : Int) cp = (s0, s1, lowI (M : Int) g, c, s0, s1, (M : Int) - lowI (M : Int) g, cp - c, 0) from if_pos (by omega)]
    refine Ev.congr (fun k => ?_) (Ev.now _)
    rw [if_pos (by rfl), if_neg h4, if_neg h5]
    simp only
    rw [e3, u64_id (by omega) (by omega), w_id (by omega)]
def fitC (g c : Int) (n : Nat) (m cp : Int) : Int := if 0 ≤ cp then (n : Int) + min (16 - (n : Int)) (min (eachI (popI m) g) (eachI cp c)) else (n : Int)
theorem pop_sub (m g : Int) (hm : 0 ≤ m ∧ m < 18446744073709551616) (hg : 0 ≤ g) (hgp : g ≤ popI m) : popI (m - lowI m g) = popI m - g ∧ 0 ≤ m - lowI m g ∧ m - lowI m g < 18446744073709551616 := by
 obtain ⟨M, rfl⟩ := Int.eq_ofNat_of_zero_le hm.1
 obtain ⟨G, rfl⟩ := Int.eq_ofNat_of_zero_le hg
 have hM : M < 18446744073709551616 := by omega
 have h1 := low_le M G hM
 have h2 := pop_sub_low M G hM
 have e3 : lowI (M : Int) (G : Int) = ((lowN M G : Nat) : Int) := by unfold lowI; simp
 have e4 : popI (M : Int) = ((popN M : Nat) : Int) := by unfold popI; simp
 rw [e3]
 rw [e4] at hgp ⊢
 have e5 : ((M : Int) - ((lowN M G : Nat) : Int)) = ((M - lowN M G : Nat) : Int) := by omega
 rw [e5]
 have e6 : popI ((M - lowN M G : Nat) : Int) = ((popN (M - lowN M G) : Nat) : Int) := by unfold popI; simp
 rw [e6, h2]
 omega
theorem each_sub (a b : Int) (hb : 0 ≤ b) (h : b ≤ a) (n : Nat) (hn : n < 16) (X : Int) : 1 ≤ eachI a b ∧ (min (16 - (n : Int)) (min (eachI a b) X)) = 1 + min (16 - ((n : Int) + 1)) (min (eachI (a - b) b) (X - 1)) := by
 unfold eachI
 by_cases h0 : b = 0
 ·rw [if_pos h0, if_pos h0]; omega
 ·rw [if_neg h0, if_neg h0, show (a - b) / b = a / b - 1 from by
   rw [Int.sub_ediv_of_dvd _ (Int.dvd_refl b), Int.ediv_self h0]]
  have : 1 ≤ a / b := (Int.le_ediv_iff_mul_le (by omega)).2 (by omega)
  omega
theorem fits04_l (g c mn mx s0 s1 : Int) (hg : c9_ g c mn mx = true) (d : Nat) : ∀ (n : Nat) (m cp : Int), n ≤ 16 → 16 - n = d → 0 ≤ m ∧ m < 18446744073709551616 → cp ≤ 9223372036854775807 →
  Ev (fun k => ensembleref04_Fits.l0 k (n : Int) g c mn mx s0 s1 m cp) (fitC g c n m cp) := by
 have hb := good_out hg
 induction d with
 | zero =>
  intro n m cp hn hd hm hc
  obtain rfl : n = 16 := by omega
  refine Ev.step (f := fun _ => some (fitC g c 16 m cp)) (fun k => ?_) (Ev.now _)
  rw [ensembleref04_Fits.l0, if_neg (by omega)]
  unfold fitC
  split
  ·rename_i h0
   have h1 := eachI_nn (popI_bd m).1 (show 0 ≤ g by omega)
   have h2 := eachI_nn h0 (show 0 ≤ c by omega)
   congr 1; omega
  ·rfl
 | succ d ih =>
  intro n m cp hn hd hm hc
  have hpb := popI_bd m
  refine Ev.step (fun k => by rw [ensembleref04_Fits.l0, if_pos (by omega)]) (Ev.bind (piece_ev g c mn mx s0 s1 m cp hg hm hc) ?_)
  by_cases h : g ≤ popI m ∧ 0 ≤ cp ∧ c ≤ cp
  ·rw [show pieceB g c s0 s1 m cp = (s0, s1, lowI m g, c, s0, s1, m - lowI m g, cp - c, 0) from if_pos h]
   have hs := pop_sub m g hm (by omega) h.1
   have I := ih (n + 1) (m - lowI m g) (cp - c) (by omega) (by omega) hs.2 (by omega)
   have e : fitC g c (n + 1) (m - lowI m g) (cp - c) = fitC g c n m cp := by
    unfold fitC
    rw [if_pos (by omega), if_pos (by omega), hs.1]
    have A := each_sub (popI m) g (by omega) h.1 n (by omega) (eachI cp c)
    have B := each_sub cp c (by omega) h.2.2 n (by omega) (eachI (popI m - g) g + 1)
    omega
   rw [e] at I
   refine Ev.congr (fun k => ?_) I
   rw [if_pos (by rfl), w_id (by omega)]
   congr 1
  ·rw [show pieceB g c s0 s1 m cp = (0, 0, 0, 0, 0, 0, 0, 0, 7) from if_neg h]
   refine Ev.congr (fun k => ?_) (Ev.now _)
   rw [if_neg (by decide)]
   congr 1
   unfold fitC
   split
   ·rename_i h0
    have h1 := eachI_nn (popI_bd m).1 (show 0 ≤ g by omega)
    have h2 := eachI_nn h0 (show 0 ≤ c by omega)
    by_cases hp : g ≤ popI m
    ·have : eachI cp c = 0 := by
      unfold eachI
      rw [if_neg (by omega)]
      exact Int.ediv_eq_zero_of_lt h0 (by omega)
     omega
    ·have : eachI (popI m) g = 0 := by
      unfold eachI
      rw [if_neg (by omega)]
      exact Int.ediv_eq_zero_of_lt hpb.1 (by omega)
     omega
   ·rfl
theorem fits04_ev (g c mn mx s0 s1 m cp : Int) (hm : 0 ≤ m ∧ m < 18446744073709551616) (hc : cp ≤ 9223372036854775807) : Ev (fun k => ensembleref04_Fits.f k g c mn mx s0 s1 m cp) (fitV g c mn mx m cp) := by
 unfold ensembleref04_Fits.f fitV
 refine Ev.congr (fun k => by rw [right04, Option.bind_some]) ?_
 by_cases h : c9_ g c mn mx = true
 ·have hb := good_out h
  refine Ev.congr (fun k => by rw [if_pos h]) ?_
  have := fits04_l g c mn mx s0 s1 h 16 0 m cp (by omega) (by omega) hm hc
  unfold fitC at this
  by_cases h0 : 0 ≤ cp
  ·rw [if_pos h0] at this
   rw [if_pos ⟨h, h0⟩]
   unfold fitN
   have e : (((0 : Nat) : Int) + min (16 - ((0 : Nat) : Int)) (min (eachI (popI m) g) (eachI cp c))) = min 16 (min (eachI (popI m) g) (eachI cp c)) := by omega
   rw [e] at this
   exact this
  ·rw [if_neg h0] at this
   rw [if_neg (fun x => h0 x.2)]
   exact this
 ·rw [if_neg (fun x => h x.1)]
  exact Ev.congr (fun k => by rw [if_neg h]) (Ev.now _)
theorem room05_l (g c mn mx : Int) (view : List S51) (hl : view.length ≤ 4398046511104) (hv : ∀ f ∈ view, freeOk f = true) (d : Nat) : ∀ (i : Nat) (s : Int), i ≤ view.length → view.length - i = d → 0 ≤ s → s ≤ 16 * i →
  Ev (fun k => ensembleref05_Room.l0 k view s (i : Int) g c mn mx) (s + roomS g c mn mx (view.drop i)) := by
 induction d with
 | zero =>
  intro i s hi hd h0 hs
  refine Ev.step (f := fun _ => some (s + roomS g c mn mx (view.drop i))) (fun k => ?_) (Ev.now _)
  rw [ensembleref05_Room.l0, if_neg (by omega), List.drop_eq_nil_of_le (by omega)]
  simp [roomS]
 | succ d ih =>
  intro i s hi hd h0 hs
  have hil : i < view.length := by omega
  have hf := hv _ (List.getElem_mem hil)
  simp only [freeOk, w64B, Bool.and_eq_true, decide_eq_true_eq] at hf
  have hb := fitV_bd g c mn mx (view[i]).f1 (view[i]).f2
  refine Ev.step (fun k => by rw [ensembleref05_Room.l0, if_pos (by omega), if_pos (by omega), rd51' view i hil]) (Ev.bind (fits04_ev g c mn mx _ _ _ _ hf.1 hf.2.2) ?_)
  have I := ih (i + 1) (s + fitV g c mn mx (view[i]).f1 (view[i]).f2) (by omega) (by omega) (by omega) (by omega)
  have e : s + fitV g c mn mx (view[i]).f1 (view[i]).f2 + roomS g c mn mx (view.drop (i + 1)) = s + roomS g c mn mx (view.drop i) := by
   rw [List.drop_eq_getElem_cons hil]
   simp only [roomS, List.map_cons, List.sum_cons]
   omega
  rw [e] at I
  refine Ev.congr (fun k => ?_) I
  rw [w_id (by omega), w_id (by omega)]
  congr 1
theorem room05_ev (g c mn mx : Int) (view : List S51) (hl : view.length ≤ 4398046511104) (hv : ∀ f ∈ view, freeOk f = true) : Ev (fun k => ensembleref05_Room.f k view g c mn mx) (roomS g c mn mx view) := by
 have := room05_l g c mn mx view hl hv view.length 0 0 (by omega) (by omega) (by omega) (by omega)
 rw [List.drop_zero, Int.zero_add] at this
 exact this
theorem units04_l (g c mn mx : Int) (hg : c9_ g c mn mx = true) (M : Nat) (hM : M ≤ 16) (d : Nat) : ∀ i : Nat, i ≤ M → M - i = d → Ev (fun k => ensembleref04_Units.l0 k (M : Int) (i : Int) g c mn mx (g * i) (c * i)) (g * M, c * M) := by
 have hb := good_out hg
 induction d with
 | zero =>
  intro i hi hd
  obtain rfl : i = M := by omega
  refine Ev.step (f := fun _ => some (g * i, c * i)) (fun k => ?_) (Ev.now _)
  rw [ensembleref04_Units.l0, if_neg (by omega)]
 | succ d ih =>
  intro i hi hd
  have b1 := mul_bd (a := g) (b := (i : Int)) (A := 16) (B := 16) (by omega) (by omega) (by omega) (by omega)
  have b2 := mul_bd (a := c) (b := (i : Int)) (A := 1024) (B := 16) (by omega) (by omega) (by omega) (by omega)
  refine Ev.step (fun k => by rw [ensembleref04_Units.l0, if_pos (by omega)]) ?_
  refine Ev.congr (fun k => ?_) (ih (i + 1) (by omega) (by omega))
  have e1 : g * ((i + 1 : Nat) : Int) = g * i + g := by rw [Int.natCast_add, Int.mul_add]; simp
  have e2 : c * ((i + 1 : Nat) : Int) = c * i + c := by rw [Int.natCast_add, Int.mul_add]; simp
  rw [e1, e2, w_id (by omega), w_id (by omega), w_id (by omega)]
  congr 1
theorem units04_ev (g c mn mx m : Int) (hg : c9_ g c mn mx = true) (h0 : 0 ≤ m) (hm : m ≤ 16) : Ev (fun k => ensembleref04_Units.f k g c mn mx m) (g * m, c * m) := by
 obtain ⟨M, rfl⟩ := Int.eq_ofNat_of_zero_le h0
 have := units04_l g c mn mx hg M (by omega) M 0 (by omega) (by omega)
 simp only [Int.natCast_zero, Int.mul_zero] at this
 exact this
theorem fits12_ev (view : List S51) (lg lc q m g c mn mx : Int) (hl : view.length ≤ 4398046511104) (hv : ∀ f ∈ view, freeOk f = true) :
  Ev (fun k => ensembleref12_Fits.f k view lg lc q m g c mn mx) (fitsB view lg lc m g c mn mx) := by
 unfold ensembleref12_Fits.f fitsB
 refine Ev.congr (fun k => by rw [right12, Option.bind_some]) ?_
 by_cases hr : rightB m g c mn mx = true
 ·have hr' := hr
  simp only [rightB, Bool.and_eq_true, decide_eq_true_eq] at hr'
  refine Ev.congr (fun k => by rw [if_pos hr]) (Ev.bind (units04_ev g c mn mx m hr'.1.1 (by omega) hr'.2) ?_)
  rw [hr]
  simp only [Bool.true_and]
  by_cases h1 : g * m ≤ lg
  ·rw [decide_eq_true h1]
   by_cases h2 : c * m ≤ lc
   ·rw [decide_eq_true h2]
    refine Ev.congr (fun k => by rw [if_pos h1, if_pos h2]) (Ev.bind (room05_ev g c mn mx view hl hv) ?_)
    simp only [Bool.true_and]
    exact Ev.now _
   ·rw [decide_eq_false h2]
    exact Ev.congr (fun k => by rw [if_pos h1, if_neg h2]; rfl) (Ev.now _)
  ·rw [decide_eq_false h1]
   exact Ev.congr (fun k => by rw [if_neg h1]; rfl) (Ev.now _)
 ·rw [Bool.eq_false_iff.2 hr]
  exact Ev.congr (fun k => by rw [if_neg (by decide)]; rfl) (Ev.now _)
end Go.Proofs.Ytckhjehibjdjdaa.P
namespace Go.Proofs.Ytckhjehibjdjdaa.P
open Go.RowKit Go.Proofs.YtckhjehibjdjdaaW.PrintWords Go.Proofs.YtckhjehibjdjdaaW.PrintLast Go.Proofs.YtckhjehibjdjdaaW.PrintMore
attribute [local go_sem] max2_int min2_int max_two min_two max_three min_three max_four min_four
attribute [local go_sem] cellBx frozBx
def elastic_left.f (a0_0 a0_1 a0_2 a0_3 : Int) (l0_4 : List (S51)) (l0_5 : List (S24)) (l0_6 : List (S41)) (l0_7 : List (S105)) (l0_8 : List (S149)) (a1_0 a1_1 a1_2 a1_3 a1_4 a1_5 a1_6 a1_7 : Int) : Option (Int × Int × Int) := (shape_Check.f a1_4 a1_5 a1_6 a1_7).bind fun t873 => (if t873 = 0 then (if a1_1 < 0 then (some (0, 0, 3)) else (if a1_1 ≥ (l0_5.length : Int) then (some (0, 0, 3)) else (if 0 ≤ a1_1 then (if a1_1 < (l0_5.length : Int) then (some ((a7_ l0_5 a1_1).f0, (a7_ l0_5 a1_1).f1, 0)) else (none)) else (none)))) else (some (0, 0, t873)))
set_option maxHeartbeats 8000000 in
set_option maxRecDepth 100000 in
theorem elastic_left.calls (a0_0 a0_1 a0_2 a0_3 : Int) (A0_4 : Option Addr) (c0_4 : Nat) (l0_4 : List (S51)) (A0_5 : Option Addr) (c0_5 : Nat) (l0_5 : List (S24)) (A0_6 : Option Addr) (c0_6 : Nat) (l0_6 : List (S41)) (A0_7 : Option Addr) (c0_7 : Nat) (l0_7 : List (S105)) (A0_8 : Option Addr) (c0_8 : Nat) (l0_8 : List (S149)) (a1_0 a1_1 a1_2 a1_3 a1_4 a1_5 a1_6 a1_7 r1 r2 r3 : Int) (w : World) (hr0_4 : Kd.C k51 w A0_4 l0_4.length l0_4) (hc0_4 : l0_4.length ≤ c0_4) (hr0_5 : Kd.C k24 w A0_5 l0_5.length l0_5) (hc0_5 : l0_5.length ≤ c0_5) (hr0_6 : Kd.C k41 w A0_6 l0_6.length l0_6) (hc0_6 : l0_6.length ≤ c0_6) (hr0_7 : Kd.C k105 w A0_7 l0_7.length l0_7) (hc0_7 : l0_7.length ≤ c0_7) (hr0_8 : Kd.C k149 w A0_8 l0_8.length l0_8) (hc0_8 : l0_8.length ≤ c0_8) (h : elastic_left.f a0_0 a0_1 a0_2 a0_3 l0_4 l0_5 l0_6 l0_7 l0_8 a1_0 a1_1 a1_2 a1_3 a1_4 a1_5 a1_6 a1_7 = some (r1, r2, r3)) :
  Calls Try.prog 93 #[.agg #[.int .i64 a0_0, .int .i64 a0_1, .int .i64 a0_2, .int .i64 a0_3, .slice A0_4 l0_4.length c0_4, .slice A0_5 l0_5.length c0_5, .slice A0_6 l0_6.length c0_6, .slice A0_7 l0_7.length c0_7, .slice A0_8 l0_8.length c0_8], .agg #[.int .i64 a1_0, .int .i64 a1_1, .int .i64 a1_2, .int .i64 a1_3, .int .i64 a1_4, .int .i64 a1_5, .int .i64 a1_6, .int .i64 a1_7]] w fun e w' => e = .returned (.tuple #[.agg #[.int .i64 r1, .int .i64 r2], .int .i64 r3]) ∧ Below w.heap.size w w' := by
 have hu86 := Try.underlying86
 have hu88 := Try.underlying88
 have hu24 := Try.underlying24
 have hu27 := Try.underlying27
 have : Be w w := ⟨Below.refl _ _⟩
 unfold elastic_left.f at h
 replace h := bindS h
 obtain ⟨c, hC, h⟩ := h
 have HC := m_ hC
 have H := m_ h
 clear hC h
 go_enter Try.func93, Try.ntmps93
 go_upto_region 2 with (first | ((with_reducible refine a3_ (N := 2) rfl ?_); refine bxT 2 #[.int .i64 a0_0, .int .i64 a0_1, .int .i64 a0_2, .int .i64 a0_3, .slice A0_4 l0_4.length c0_4, .slice A0_5 l0_5.length c0_5, .slice A0_6 l0_6.length c0_6, .slice A0_7 l0_7.length c0_7, .slice A0_8 l0_8.length c0_8] 86 ?_; intro g2 w2 _ _ _) | ((with_reducible refine a3_ (N := 3) rfl ?_); refine bxT 3 #[.int .i64 a1_0, .int .i64 a1_1, .int .i64 a1_2, .int .i64 a1_3, .int .i64 a1_4, .int .i64 a1_5, .int .i64 a1_6, .int .i64 a1_7] 88 ?_; intro g3 w3 _ _ _) | ((with_reducible refine a3_ (N := 4) rfl ?_); refine bxT 4 #[.int .i64 0, .int .i64 0] 24 ?_; intro g4 w4 _ _ _) | (go_at_call 83; refine (shape_Check.calls _ _ _ _ _ _ HC.out).mono ?_; rintro e wc ⟨rfl, hb⟩; have := Bl.mk hb; clear hb))
 have hh := H.out
 clear H HC
 by_cases h0 : c = 0
 ·rw [if_pos h0] at hh
  have t : (c != 0) = false := by rw [h0]; rfl
  by_cases c1 : a1_1 < 0
  ·rw [if_pos c1] at hh
   simp only [Option.some.injEq, Prod.mk.injEq] at hh
   obtain ⟨rfl, rfl, rfl⟩ := hh
   have q1 := decide_eq_true c1
   clear c1 h0
   go_wp2
   refine bodyPost_ret (results_ct rfl _ _ g4 24 _ (0, 0) _ rfl Bx.out Try.underlying24 rfl (by kernel_rfl)) rfl ?_
   exact ⟨rfl, Be.out⟩
  rw [if_neg c1] at hh
  by_cases c2 : a1_1 ≥ (l0_5.length : Int)
  ·rw [if_pos c2] at hh
   simp only [Option.some.injEq, Prod.mk.injEq] at hh
   obtain ⟨rfl, rfl, rfl⟩ := hh
   have q1 := decide_eq_false c1
   have q2 := decide_eq_true c2
   clear c1 c2 h0
   go_wp2
   refine bodyPost_ret (results_ct rfl _ _ g4 24 _ (0, 0) _ rfl Bx.out Try.underlying24 rfl (by kernel_rfl)) rfl ?_
   exact ⟨rfl, Be.out⟩
  clear h0
  rw [if_neg c2, if_pos (by omega), if_pos (by omega)] at hh
  simp only [Option.some.injEq, Prod.mk.injEq] at hh
  obtain ⟨rfl, rfl, rfl⟩ := hh
  have p1 := decide_eq_false c1
  have p2 := decide_eq_false c2
  have p3 : (0 ≤ a1_1) = True := eq_true (by omega)
  have p4 : (a1_1 < (l0_5.length : Int)) = True := eq_true (by omega)
  obtain ⟨ad, hea, y0, y1⟩ := at_T24 (Kd.C_below hr0_5 (Be.out (W := wc))) a1_1 (by omega) (by omega)
  subst hea
  clear c1 c2
  go_wp2
  refine bodyPost_ret (results_ct rfl _ _ g4 24 _ (0, 0) _ rfl Bx.out Try.underlying24 rfl (by kernel_rfl)) rfl ?_
  exact ⟨rfl, Be.out⟩
 ·rw [if_neg h0] at hh
  simp only [Option.some.injEq, Prod.mk.injEq] at hh
  obtain ⟨rfl, rfl, rfl⟩ := hh
  have t : (c != 0) = true := bne_iff_ne.2 h0
  clear h0
  go_wp2
  refine bodyPost_ret (results_ct rfl _ _ g4 24 _ (0, 0) _ rfl Bx.out Try.underlying24 rfl (by kernel_rfl)) rfl ?_
  exact ⟨rfl, Be.out⟩
end Go.Proofs.Ytckhjehibjdjdaa.P
namespace Go.Proofs.Ytckhjehibjdjdaa.P
open Go.RowKit Go.Proofs.YtckhjehibjdjdaaW.PrintWords Go.Proofs.YtckhjehibjdjdaaW.PrintLast Go.Proofs.YtckhjehibjdjdaaW.PrintMore
attribute [local go_sem] max2_int min2_int max_two min_two max_three min_three max_four min_four
def elastic_within.f (a0_0 a0_1 a0_2 a0_3 a1 a2_0 a2_1 : Int) : Option (Bool) := (shape_Units.f a0_0 a0_1 a0_2 a0_3 a1).bind fun bt877 => (if bt877.1 ≤ a2_0 then (some (decide (bt877.2.1 ≤ a2_1))) else (some false))
set_option maxHeartbeats 8000000 in
set_option maxRecDepth 100000 in
theorem elastic_within.calls (a0_0 a0_1 a0_2 a0_3 a1 a2_0 a2_1 : Int) (r : Bool) (w : World) (h : elastic_within.f a0_0 a0_1 a0_2 a0_3 a1 a2_0 a2_1 = some r) :
  Calls Try.prog 116 #[.agg #[.int .i64 a0_0, .int .i64 a0_1, .int .i64 a0_2, .int .i64 a0_3], .int .i64 a1, .agg #[.int .i64 a2_0, .int .i64 a2_1]] w fun e w' => e = .returned (.bool r) ∧ Below w.heap.size w w' := by
 have hu27 := Try.underlying27
 have hu24 := Try.underlying24
 have HB := m_ (Below.refl w.heap.size w)
 have H := h
 unfold elastic_within.f at H
 clear h
 replace H := Option.bind_eq_some_iff.mp H
 obtain ⟨⟨t877, t878, t879⟩, A40, H⟩ := H
 try dsimp only at H
 have A4 := m_ A40
 clear A40
 by_cases c5 : t877 ≤ a2_0
 ·rw [if_pos c5] at H
  have c5b0 : decide (t877 ≤ a2_0) = true := decide_eq_true c5
  clear c5
  obtain rfl := Option.some.inj H
  go_enter Try.func116, Try.ntmps116
  go_wp2_with (first | ((with_reducible refine a3_ (N := 3) rfl ?_); refine bx 3 #[.int .i64 a0_0, .int .i64 a0_1, .int .i64 a0_2, .int .i64 a0_3] 27 ?_; intro gb875 hg w6 hbox hb; have BK875 := m_ (hbox); have GW875 := ge_ hg; have GE875 := ge_ hg; replace HB := hs_ hb; clear hb hbox hg) | ((with_reducible refine a3_ (N := 5) rfl ?_); refine bx 5 #[.int .i64 a2_0, .int .i64 a2_1] 24 ?_; intro gb876 hg w7 hbox hb; have BK876 := m_ (hbox); have GW876 := ge_ hg; have GE876 := ge_ hg; have NB875_876 := nl_ BK875 hg; have NB876_875 := nr_ BK875 hg; replace BK875 := bk_ BK875 hb; replace HB := hs_ hb; clear hb hbox hg; have hnb8 := NB875_876.out; have hnc8 := NB876_875.out; obtain ⟨hcz9_0, hcz9_1, hcz9_2, hcz9_3, hfz9_0, hfz9_1, hfz9_2, hfz9_3⟩ := bz4_ BK875) | ((with_reducible refine b3_ (f := 76) rfl ?_); refine goesL_ (some 12) rfl rfl Try.func76 (by kernel_rfl) rfl #[.agg #[.int .i64 a0_0, .int .i64 a0_1, .int .i64 a0_2, .int .i64 a0_3], .int .i64 a1] rfl Z0 ?_; (with_reducible refine (shape_Units.calls a0_0 a0_1 a0_2 a0_3 a1 t877 t878 t879 _ A4.out).mono ?_); rintro e w10 ⟨rfl, hb⟩; refine ⟨_, rfl, ?_⟩; replace BK875 := bk_ BK875 hb; replace BK876 := bk_ BK876 hb; replace HB := hs_ hb; (try clear hb); (try clear hb2); (try clear hk); (try clear hi)) | ((with_reducible refine a3_ (N := 7) rfl ?_); refine bx 7 #[.int .i64 0, .int .i64 0] 24 ?_; intro gb880 hg w11 hbox hb; have BK880 := m_ (hbox); have GW880 := ge_ hg; have GE880 := ge_ hg; have NB875_880 := nl_ BK875 hg; have NB880_875 := nr_ BK875 hg; have NB876_880 := nl_ BK876 hg; have NB880_876 := nr_ BK876 hg; replace BK875 := bk_ BK875 hb; replace BK876 := bk_ BK876 hb; replace HB := hs_ hb; clear hb hbox hg; have hnb12 := NB880_875.out; have hnc12 := NB875_880.out; have hnb13 := NB880_876.out; have hnc13 := NB876_880.out; obtain ⟨hcz14_0, hcz14_1, hfz14_0, hfz14_1⟩ := bz2_ BK880; obtain ⟨hcz15_0, hcz15_1, hfz15_0, hfz15_1⟩ := bz2_ BK876))
  go_ret
  exact ⟨by first | rfl | (simp [b2_, b1_] <;> rfl) | (simp [*, b2_, b1_] <;> rfl), hb_⟩
 ·rw [if_neg c5] at H
  have c5b0 : decide (t877 ≤ a2_0) = false := decide_eq_false c5
  clear c5
  obtain rfl := Option.some.inj H
  go_enter Try.func116, Try.ntmps116
  go_wp2_with (first | ((with_reducible refine a3_ (N := 3) rfl ?_); refine bx 3 #[.int .i64 a0_0, .int .i64 a0_1, .int .i64 a0_2, .int .i64 a0_3] 27 ?_; intro gb875 hg w16 hbox hb; have BK875 := m_ (hbox); have GW875 := ge_ hg; have GE875 := ge_ hg; replace HB := hs_ hb; clear hb hbox hg) | ((with_reducible refine a3_ (N := 5) rfl ?_); refine bx 5 #[.int .i64 a2_0, .int .i64 a2_1] 24 ?_; intro gb876 hg w17 hbox hb; have BK876 := m_ (hbox); have GW876 := ge_ hg; have GE876 := ge_ hg; have NB875_876 := nl_ BK875 hg; have NB876_875 := nr_ BK875 hg; replace BK875 := bk_ BK875 hb; replace HB := hs_ hb; clear hb hbox hg; have hnb18 := NB875_876.out; have hnc18 := NB876_875.out; obtain ⟨hcz19_0, hcz19_1, hcz19_2, hcz19_3, hfz19_0, hfz19_1, hfz19_2, hfz19_3⟩ := bz4_ BK875) | ((with_reducible refine b3_ (f := 76) rfl ?_); refine goesL_ (some 12) rfl rfl Try.func76 (by kernel_rfl) rfl #[.agg #[.int .i64 a0_0, .int .i64 a0_1, .int .i64 a0_2, .int .i64 a0_3], .int .i64 a1] rfl Z0 ?_; (with_reducible refine (shape_Units.calls a0_0 a0_1 a0_2 a0_3 a1 t877 t878 t879 _ A4.out).mono ?_); rintro e w20 ⟨rfl, hb⟩; refine ⟨_, rfl, ?_⟩; replace BK875 := bk_ BK875 hb; replace BK876 := bk_ BK876 hb; replace HB := hs_ hb; (try clear hb); (try clear hb2); (try clear hk); (try clear hi)) | ((with_reducible refine a3_ (N := 7) rfl ?_); refine bx 7 #[.int .i64 0, .int .i64 0] 24 ?_; intro gb880 hg w21 hbox hb; have BK880 := m_ (hbox); have GW880 := ge_ hg; have GE880 := ge_ hg; have NB875_880 := nl_ BK875 hg; have NB880_875 := nr_ BK875 hg; have NB876_880 := nl_ BK876 hg; have NB880_876 := nr_ BK876 hg; replace BK875 := bk_ BK875 hb; replace BK876 := bk_ BK876 hb; replace HB := hs_ hb; clear hb hbox hg; have hnb22 := NB880_875.out; have hnc22 := NB875_880.out; have hnb23 := NB880_876.out; have hnc23 := NB876_880.out; obtain ⟨hcz24_0, hcz24_1, hfz24_0, hfz24_1⟩ := bz2_ BK880; obtain ⟨hcz25_0, hcz25_1, hfz25_0, hfz25_1⟩ := bz2_ BK876))
  go_ret
  exact ⟨by first | rfl | (simp [b2_, b1_] <;> rfl) | (simp [*, b2_, b1_] <;> rfl), hb_⟩
def elastic_can.f (k : Nat) (a0_0 a0_1 a0_2 a0_3 : Int) (l0_4 : List (S51)) (l0_5 : List (S24)) (l0_6 : List (S41)) (l0_7 : List (S105)) (l0_8 : List (S149)) (a1_0 a1_1 a1_2 a1_3 a2 a3_0 a3_1 : Int) : Option (Int) := (pack_Room.f k l0_4 a1_0 a1_1 a1_2 a1_3).bind fun t884 => (if t884 < a2 then (some 7) else ((elastic_within.f a1_0 a1_1 a1_2 a1_3 a2 a3_0 a3_1).bind fun t885 => (if t885 = true then (some 0) else (some 6))))
set_option maxHeartbeats 8000000 in
set_option maxRecDepth 100000 in
theorem elastic_can.calls (k : Nat) (a0_0 a0_1 a0_2 a0_3 : Int) (A0_4 : Option Addr) (c0_4 : Nat) (l0_4 : List (S51)) (A0_5 : Option Addr) (c0_5 : Nat) (l0_5 : List (S24)) (A0_6 : Option Addr) (c0_6 : Nat) (l0_6 : List (S41)) (A0_7 : Option Addr) (c0_7 : Nat) (l0_7 : List (S105)) (A0_8 : Option Addr) (c0_8 : Nat) (l0_8 : List (S149)) (a1_0 a1_1 a1_2 a1_3 a2 a3_0 a3_1 r : Int) (w : World) (hr0_4 : Kd.C k51 w A0_4 l0_4.length l0_4) (hc0_4 : l0_4.length ≤ c0_4) (hr0_5 : Kd.C k24 w A0_5 l0_5.length l0_5) (hc0_5 : l0_5.length ≤ c0_5) (hr0_6 : Kd.C k41 w A0_6 l0_6.length l0_6) (hc0_6 : l0_6.length ≤ c0_6) (hr0_7 : Kd.C k105 w A0_7 l0_7.length l0_7) (hc0_7 : l0_7.length ≤ c0_7) (hr0_8 : Kd.C k149 w A0_8 l0_8.length l0_8) (hc0_8 : l0_8.length ≤ c0_8) (h : elastic_can.f k a0_0 a0_1 a0_2 a0_3 l0_4 l0_5 l0_6 l0_7 l0_8 a1_0 a1_1 a1_2 a1_3 a2 a3_0 a3_1 = some r) :
  Calls Try.prog 94 #[.agg #[.int .i64 a0_0, .int .i64 a0_1, .int .i64 a0_2, .int .i64 a0_3, .slice A0_4 l0_4.length c0_4, .slice A0_5 l0_5.length c0_5, .slice A0_6 l0_6.length c0_6, .slice A0_7 l0_7.length c0_7, .slice A0_8 l0_8.length c0_8], .agg #[.int .i64 a1_0, .int .i64 a1_1, .int .i64 a1_2, .int .i64 a1_3], .int .i64 a2, .agg #[.int .i64 a3_0, .int .i64 a3_1]] w fun e w' => e = .returned (.int .i64 r) ∧ Below w.heap.size w w' := by
 have hu86 := Try.underlying86
 have hu27 := Try.underlying27
 have hu24 := Try.underlying24
 have HR0_4 := m_ hr0_4
 have HC0_4 := m_ hc0_4
 clear hr0_4 hc0_4
 have HR0_5 := m_ hr0_5
 have HC0_5 := m_ hc0_5
 clear hr0_5 hc0_5
 have HR0_6 := m_ hr0_6
 have HC0_6 := m_ hc0_6
 clear hr0_6 hc0_6
 have HR0_7 := m_ hr0_7
 have HC0_7 := m_ hc0_7
 clear hr0_7 hc0_7
 have HR0_8 := m_ hr0_8
 have HC0_8 := m_ hc0_8
 clear hr0_8 hc0_8
 have HB := m_ (Below.refl w.heap.size w)
 have H := h
 unfold elastic_can.f at H
 clear h
 replace H := Option.bind_eq_some_iff.mp H
 obtain ⟨t884, A50, H⟩ := H
 try dsimp only at H
 have A5 := m_ A50
 clear A50
 by_cases c6 : t884 < a2
 ·rw [if_pos c6] at H
  have c6b0 : decide (t884 < a2) = true := decide_eq_true c6
  clear c6
  obtain rfl := Option.some.inj H
  go_enter Try.func94, Try.ntmps94
  go_wp2_with (first | ((with_reducible refine a3_ (N := 4) rfl ?_); refine bx 4 #[.int .i64 a0_0, .int .i64 a0_1, .int .i64 a0_2, .int .i64 a0_3, .slice A0_4 l0_4.length c0_4, .slice A0_5 l0_5.length c0_5, .slice A0_6 l0_6.length c0_6, .slice A0_7 l0_7.length c0_7, .slice A0_8 l0_8.length c0_8] 86 ?_; intro gb881 hg w7 hbox hb; have BK881 := m_ (hbox); have GW881 := ge_ hg; have GE881 := ge_ hg; replace HB := hs_ hb; clear hb hbox hg) | ((with_reducible refine a3_ (N := 5) rfl ?_); refine bx 5 #[.int .i64 a1_0, .int .i64 a1_1, .int .i64 a1_2, .int .i64 a1_3] 27 ?_; intro gb882 hg w8 hbox hb; have BK882 := m_ (hbox); have GW882 := ge_ hg; have GE882 := ge_ hg; have NB881_882 := nl_ BK881 hg; have NB882_881 := nr_ BK881 hg; replace BK881 := bk_ BK881 hb; replace HB := hs_ hb; clear hb hbox hg) | ((with_reducible refine a3_ (N := 7) rfl ?_); refine bx 7 #[.int .i64 a3_0, .int .i64 a3_1] 24 ?_; intro gb883 hg w9 hbox hb; have BK883 := m_ (hbox); have GW883 := ge_ hg; have GE883 := ge_ hg; have NB881_883 := nl_ BK881 hg; have NB883_881 := nr_ BK881 hg; have NB882_883 := nl_ BK882 hg; have NB883_882 := nr_ BK882 hg; replace BK881 := bk_ BK881 hb; replace BK882 := bk_ BK882 hb; replace HB := hs_ hb; clear hb hbox hg; have hnb10 := NB881_882.out; have hnc10 := NB882_881.out; have hnb11 := NB881_883.out; have hnc11 := NB883_881.out; obtain ⟨hcz12_0, hcz12_1, hcz12_2, hcz12_3, hcz12_4, hcz12_5, hcz12_6, hcz12_7, hcz12_8, hfz12_0, hfz12_1, hfz12_2, hfz12_3, hfz12_4, hfz12_5, hfz12_6, hfz12_7, hfz12_8⟩ := bz9_ BK881; have hnb13 := NB882_883.out; have hnc13 := NB883_882.out; obtain ⟨hcz14_0, hcz14_1, hcz14_2, hcz14_3, hfz14_0, hfz14_1, hfz14_2, hfz14_3⟩ := bz4_ BK882) | ((with_reducible refine b3_ (f := 50) rfl ?_); refine goesL_ (some 13) rfl rfl Try.func50 (by kernel_rfl) rfl #[.slice A0_4 l0_4.length c0_4, .agg #[.int .i64 a1_0, .int .i64 a1_1, .int .i64 a1_2, .int .i64 a1_3]] rfl Z0 ?_; (with_reducible refine (pack_Room.calls k _ _ l0_4 a1_0 a1_1 a1_2 a1_3 t884 _ ?side1 ?side2 A5.out).mono ?_); (case side1 => exact cs_ HR0_4); (case side2 => exact HC0_4.out); rintro e w15 ⟨rfl, hb⟩; refine ⟨_, rfl, ?_⟩; replace BK881 := bk_ BK881 hb; replace BK882 := bk_ BK882 hb; replace BK883 := bk_ BK883 hb; replace HB := hs_ hb; (try clear hb); (try clear hb2); (try clear hk); (try clear hi)))
  go_ret
  exact ⟨by first | rfl | (simp [b2_, b1_] <;> rfl) | (simp [*, b2_, b1_] <;> rfl), hb_⟩
 ·rw [if_neg c6] at H
  have c6b0 : decide (t884 < a2) = false := decide_eq_false c6
  clear c6
  replace H := Option.bind_eq_some_iff.mp H
  obtain ⟨t885, A160, H⟩ := H
  try dsimp only at H
  have A16 := m_ A160
  clear A160
  by_cases c17 : t885 = true
  ·subst c17
   have H1 : (some 0) = some r := by rw [if_pos rfl] at H; exact H
   clear H
   have H := H1
   clear H1
   obtain rfl := Option.some.inj H
   go_enter Try.func94, Try.ntmps94
   go_wp2_with (first | ((with_reducible refine a3_ (N := 4) rfl ?_); refine bx 4 #[.int .i64 a0_0, .int .i64 a0_1, .int .i64 a0_2, .int .i64 a0_3, .slice A0_4 l0_4.length c0_4, .slice A0_5 l0_5.length c0_5, .slice A0_6 l0_6.length c0_6, .slice A0_7 l0_7.length c0_7, .slice A0_8 l0_8.length c0_8] 86 ?_; intro gb881 hg w18 hbox hb; have BK881 := m_ (hbox); have GW881 := ge_ hg; have GE881 := ge_ hg; replace HB := hs_ hb; clear hb hbox hg) | ((with_reducible refine a3_ (N := 5) rfl ?_); refine bx 5 #[.int .i64 a1_0, .int .i64 a1_1, .int .i64 a1_2, .int .i64 a1_3] 27 ?_; intro gb882 hg w19 hbox hb; have BK882 := m_ (hbox); have GW882 := ge_ hg; have GE882 := ge_ hg; have NB881_882 := nl_ BK881 hg; have NB882_881 := nr_ BK881 hg; replace BK881 := bk_ BK881 hb; replace HB := hs_ hb; clear hb hbox hg) | ((with_reducible refine a3_ (N := 7) rfl ?_); refine bx 7 #[.int .i64 a3_0, .int .i64 a3_1] 24 ?_; intro gb883 hg w20 hbox hb; have BK883 := m_ (hbox); have GW883 := ge_ hg; have GE883 := ge_ hg; have NB881_883 := nl_ BK881 hg; have NB883_881 := nr_ BK881 hg; have NB882_883 := nl_ BK882 hg; have NB883_882 := nr_ BK882 hg; replace BK881 := bk_ BK881 hb; replace BK882 := bk_ BK882 hb; replace HB := hs_ hb; clear hb hbox hg; have hnb21 := NB881_882.out; have hnc21 := NB882_881.out; have hnb22 := NB881_883.out; have hnc22 := NB883_881.out; obtain ⟨hcz23_0, hcz23_1, hcz23_2, hcz23_3, hcz23_4, hcz23_5, hcz23_6, hcz23_7, hcz23_8, hfz23_0, hfz23_1, hfz23_2, hfz23_3, hfz23_4, hfz23_5, hfz23_6, hfz23_7, hfz23_8⟩ := bz9_ BK881; have hnb24 := NB882_883.out; have hnc24 := NB883_882.out; obtain ⟨hcz25_0, hcz25_1, hcz25_2, hcz25_3, hfz25_0, hfz25_1, hfz25_2, hfz25_3⟩ := bz4_ BK882) | ((with_reducible refine b3_ (f := 50) rfl ?_); refine goesL_ (some 13) rfl rfl Try.func50 (by kernel_rfl) rfl #[.slice A0_4 l0_4.length c0_4, .agg #[.int .i64 a1_0, .int .i64 a1_1, .int .i64 a1_2, .int .i64 a1_3]] rfl Z0 ?_; (with_reducible refine (pack_Room.calls k _ _ l0_4 a1_0 a1_1 a1_2 a1_3 t884 _ ?side1 ?side2 A5.out).mono ?_); (case side1 => exact cs_ HR0_4); (case side2 => exact HC0_4.out); rintro e w26 ⟨rfl, hb⟩; refine ⟨_, rfl, ?_⟩; replace BK881 := bk_ BK881 hb; replace BK882 := bk_ BK882 hb; replace BK883 := bk_ BK883 hb; replace HB := hs_ hb; (try clear hb); (try clear hb2); (try clear hk); (try clear hi); obtain ⟨hcz27_0, hcz27_1, hcz27_2, hcz27_3, hfz27_0, hfz27_1, hfz27_2, hfz27_3⟩ := bz4_ BK882; obtain ⟨hcz28_0, hcz28_1, hfz28_0, hfz28_1⟩ := bz2_ BK883) | ((with_reducible refine b3_ (f := 116) rfl ?_); refine goesL_ (some 20) rfl rfl Try.func116 (by kernel_rfl) rfl #[.agg #[.int .i64 a1_0, .int .i64 a1_1, .int .i64 a1_2, .int .i64 a1_3], .int .i64 a2, .agg #[.int .i64 a3_0, .int .i64 a3_1]] rfl Z0 ?_; (with_reducible refine (elastic_within.calls a1_0 a1_1 a1_2 a1_3 a2 a3_0 a3_1 true _ A16.out).mono ?_); rintro e w29 ⟨rfl, hb⟩; refine ⟨_, rfl, ?_⟩; replace BK881 := bk_ BK881 hb; replace BK882 := bk_ BK882 hb; replace BK883 := bk_ BK883 hb; replace HB := hs_ hb; (try clear hb); (try clear hb2); (try clear hk); (try clear hi)))
   go_ret
   exact ⟨by first | rfl | (simp [b2_, b1_] <;> rfl) | (simp [*, b2_, b1_] <;> rfl), hb_⟩
  ·replace c17 := Bool.eq_false_iff.mpr c17
   subst c17
   have H1 : (some 6) = some r := by rw [if_neg (show ¬ (false = true) by decide)] at H; exact H
   clear H
   have H := H1
   clear H1
   obtain rfl := Option.some.inj H
   go_enter Try.func94, Try.ntmps94
   go_wp2_with (first | ((with_reducible refine a3_ (N := 4) rfl ?_); refine bx 4 #[.int .i64 a0_0, .int .i64 a0_1, .int .i64 a0_2, .int .i64 a0_3, .slice A0_4 l0_4.length c0_4, .slice A0_5 l0_5.length c0_5, .slice A0_6 l0_6.length c0_6, .slice A0_7 l0_7.length c0_7, .slice A0_8 l0_8.length c0_8] 86 ?_; intro gb881 hg w30 hbox hb; have BK881 := m_ (hbox); have GW881 := ge_ hg; have GE881 := ge_ hg; replace HB := hs_ hb; clear hb hbox hg) | ((with_reducible refine a3_ (N := 5) rfl ?_); refine bx 5 #[.int .i64 a1_0, .int .i64 a1_1, .int .i64 a1_2, .int .i64 a1_3] 27 ?_; intro gb882 hg w31 hbox hb; have BK882 := m_ (hbox); have GW882 := ge_ hg; have GE882 := ge_ hg; have NB881_882 := nl_ BK881 hg; have NB882_881 := nr_ BK881 hg; replace BK881 := bk_ BK881 hb; replace HB := hs_ hb; clear hb hbox hg) | ((with_reducible refine a3_ (N := 7) rfl ?_); refine bx 7 #[.int .i64 a3_0, .int .i64 a3_1] 24 ?_; intro gb883 hg w32 hbox hb; have BK883 := m_ (hbox); have GW883 := ge_ hg; have GE883 := ge_ hg; have NB881_883 := nl_ BK881 hg; have NB883_881 := nr_ BK881 hg; have NB882_883 := nl_ BK882 hg; have NB883_882 := nr_ BK882 hg; replace BK881 := bk_ BK881 hb; replace BK882 := bk_ BK882 hb; replace HB := hs_ hb; clear hb hbox hg; have hnb33 := NB881_882.out; have hnc33 := NB882_881.out; have hnb34 := NB881_883.out; have hnc34 := NB883_881.out; obtain ⟨hcz35_0, hcz35_1, hcz35_2, hcz35_3, hcz35_4, hcz35_5, hcz35_6, hcz35_7, hcz35_8, hfz35_0, hfz35_1, hfz35_2, hfz35_3, hfz35_4, hfz35_5, hfz35_6, hfz35_7, hfz35_8⟩ := bz9_ BK881; have hnb36 := NB882_883.out; have hnc36 := NB883_882.out; obtain ⟨hcz37_0, hcz37_1, hcz37_2, hcz37_3, hfz37_0, hfz37_1, hfz37_2, hfz37_3⟩ := bz4_ BK882) | ((with_reducible refine b3_ (f := 50) rfl ?_); refine goesL_ (some 13) rfl rfl Try.func50 (by kernel_rfl) rfl #[.slice A0_4 l0_4.length c0_4, .agg #[.int .i64 a1_0, .int .i64 a1_1, .int .i64 a1_2, .int .i64 a1_3]] rfl Z0 ?_; (with_reducible refine (pack_Room.calls k _ _ l0_4 a1_0 a1_1 a1_2 a1_3 t884 _ ?side1 ?side2 A5.out).mono ?_); (case side1 => exact cs_ HR0_4); (case side2 => exact HC0_4.out); rintro e w38 ⟨rfl, hb⟩; refine ⟨_, rfl, ?_⟩; replace BK881 := bk_ BK881 hb; replace BK882 := bk_ BK882 hb; replace BK883 := bk_ BK883 hb; replace HB := hs_ hb; (try clear hb); (try clear hb2); (try clear hk); (try clear hi); obtain ⟨hcz39_0, hcz39_1, hcz39_2, hcz39_3, hfz39_0, hfz39_1, hfz39_2, hfz39_3⟩ := bz4_ BK882; obtain ⟨hcz40_0, hcz40_1, hfz40_0, hfz40_1⟩ := bz2_ BK883) | ((with_reducible refine b3_ (f := 116) rfl ?_); refine goesL_ (some 20) rfl rfl Try.func116 (by kernel_rfl) rfl #[.agg #[.int .i64 a1_0, .int .i64 a1_1, .int .i64 a1_2, .int .i64 a1_3], .int .i64 a2, .agg #[.int .i64 a3_0, .int .i64 a3_1]] rfl Z0 ?_; (with_reducible refine (elastic_within.calls a1_0 a1_1 a1_2 a1_3 a2 a3_0 a3_1 false _ A16.out).mono ?_); rintro e w41 ⟨rfl, hb⟩; refine ⟨_, rfl, ?_⟩; replace BK881 := bk_ BK881 hb; replace BK882 := bk_ BK882 hb; replace BK883 := bk_ BK883 hb; replace HB := hs_ hb; (try clear hb); (try clear hb2); (try clear hk); (try clear hi)))
   go_ret
   exact ⟨by first | rfl | (simp [b2_, b1_] <;> rfl) | (simp [*, b2_, b1_] <;> rfl), hb_⟩
end Go.Proofs.Ytckhjehibjdjdaa.P
namespace Go.Proofs.Ytckhjehibjdjdaa.P
open Go.RowKit Go.Shelf Go.Proofs.YtckhjehibjdjdaaW.PrintWords Go.Proofs.YtckhjehibjdjdaaW.PrintLast Go.Proofs.YtckhjehibjdjdaaW.PrintMore
open Go.Proofs.Ytckhjehibjdjdaa.RF
attribute [local go_sem] Oper.semAt_some
def withB (g c n lg lc : Int) : Bool := decide (g * n ≤ lg) && decide (c * n ≤ lc)
def canB (view : List S51) (g c mn mx n lg lc : Int) : Int := if roomS g c mn mx view < n then 7 else if withB g c n lg lc = true then 0 else 6
theorem can_eq (k : Nat) (a0 a1 a2 a3 : Int) (view : List S51) (l5 : List S24) (l6 : List S41) (l7 : List S105) (l8 : List S149) (g c mn mx n lg lc : Int) (hk : view.length + 1 ≤ k) (hl : view.length ≤ 1000000) (hv : ∀ f ∈ view, freeOk f = true)
  (hg : c9_ g c mn mx = true) (h0 : 0 ≤ n) (h1 : n ≤ 16) : elastic_can.f k a0 a1 a2 a3 view l5 l6 l7 l8 g c mn mx n lg lc = some (canB view g c mn mx n lg lc) := by
 have hb := good_out0 hg
 have e1 : wrap64 (g * n) = g * n := by
  have : 0 ≤ g * n := Int.mul_nonneg hb.1 h0
  have : g * n ≤ 16 * 16 := Int.mul_le_mul hb.2.1 h1 h0 (by decide)
  unfold wrap64; omega
 have e2 : wrap64 (c * n) = c * n := by
  have : 0 ≤ c * n := Int.mul_nonneg hb.2.2.1 h0
  have : c * n ≤ 1024 * 16 := Int.mul_le_mul hb.2.2.2 h1 h0 (by decide)
  unfold wrap64; omega
 unfold elastic_can.f
 rw [room_eq k view g c mn mx hk (by omega) hv, Option.bind_some]
 unfold canB
 by_cases hr : roomS g c mn mx view < n
 ·rw [if_pos hr, if_pos hr]
 rw [if_neg hr, if_neg hr]
 unfold elastic_within.f shape_Units.f shape_Check.f
 rw [if_pos hg, Option.bind_some, if_pos rfl, if_neg (by omega), if_neg (by omega), Option.bind_some]
 simp only [e1, e2]
 unfold withB
 by_cases h2 : g * n ≤ lg
 ·rw [if_pos h2, Option.bind_some, decide_eq_true h2, Bool.true_and]
  by_cases h3 : c * n ≤ lc
  ·rw [decide_eq_true h3, if_pos rfl, if_pos rfl]
  ·rw [decide_eq_false h3, if_neg (by decide), if_neg (by decide)]
 ·rw [if_neg h2, Option.bind_some, decide_eq_false h2, Bool.false_and, if_neg (by decide), if_neg (by decide)]
def leftB (left : List S24) (q g c mn mx : Int) : Int × Int × Int :=
 if c9_ g c mn mx = true then (if 0 ≤ q ∧ q < left.length then ((a7_ left q).f0, (a7_ left q).f1, 0) else (0, 0, 3)) else (0, 0, 1)
theorem left_eq0 (a0 a1 a2 a3 : Int) (view : List S51) (l5 : List S24) (l6 : List S41) (l7 : List S105) (l8 : List S149) (b0 q b2 b3 g c mn mx : Int) :
  elastic_left.f a0 a1 a2 a3 view l5 l6 l7 l8 b0 q b2 b3 g c mn mx = some (leftB l5 q g c mn mx) := by
 unfold elastic_left.f shape_Check.f leftB
 by_cases hg : c9_ g c mn mx = true
 ·rw [if_pos hg, Option.bind_some, if_pos rfl, if_pos hg]
  by_cases h0 : q < 0
  ·rw [if_pos h0, if_neg (by omega)]
  ·rw [if_neg h0]
   by_cases h1 : q ≥ (l5.length : Int)
   ·rw [if_pos h1, if_neg (by omega)]
   ·rw [if_neg h1, if_pos (by omega), if_pos (by omega), if_pos ⟨by omega, by omega⟩]
 ·rw [if_neg hg, Option.bind_some, if_neg (by decide), if_neg hg]
def firstGo (view : List S51) (g c mn mx lg lc : Int) : Option Int := (downL mx mn).find? fun n => canB view g c mn mx n lg lc == 0
def mostB (view : List S51) (left : List S24) (q g c mn mx : Int) : List S52 × Int :=
 if (leftB left q g c mn mx).2.2 ≠ 0 then ([], (leftB left q g c mn mx).2.2) else
 if canB view g c mn mx mn (leftB left q g c mn mx).1 (leftB left q g c mn mx).2.1 ≠ 0 then ([], canB view g c mn mx mn (leftB left q g c mn mx).1 (leftB left q g c mn mx).2.1) else
 match firstGo view g c mn mx (leftB left q g c mn mx).1 (leftB left q g c mn mx).2.1 with
 | some n => placeB view g c mn mx n
 | none => ([], 7)
def elastic_Most.f (a0_0 a0_1 a0_2 a0_3 : Int) (l0_4 : List (S51)) (l0_5 : List (S24)) (l0_6 : List (S41)) (l0_7 : List (S105)) (l0_8 : List (S149)) (a1_0 a1_1 a1_2 a1_3 a1_4 a1_5 a1_6 a1_7 : Int) : Option ((List (S52)) × Int) :=
 if placeOk l0_4 = true then some (mostB l0_4 l0_5 a1_1 a1_4 a1_5 a1_6 a1_7) else none
theorem good_out1 {g c mn mx : Int} (h : c9_ g c mn mx = true) : 1 ≤ mn ∧ mn ≤ mx ∧ mx ≤ 16 := by
 simp only [c9_, Bool.and_eq_true, decide_eq_true_eq] at h
 omega
theorem R_own {α : Type} {d : Kd α} {e base : Nat} {ok : Nat → Prop} {W W' : World} {v : Value} {xs : List α} (h : d.R e W base ok v xs) {row : Option Nat} (hg : W.grownBy W' row) (hr : ∀ r, row = some r → ∃ o : Obj, W.heap[r]? = some o ∧ o.isCells = false) : d.R e W' base ok v xs := by
 refine Kd.R_mono (Kd.R_move (Kd.R_bound h) (fun k hk => hg.block k hk.2.2.1 (fun he => ?_))) (fun _ hk => hk.1)
 obtain ⟨_, _, _, q, hq, cells, hc⟩ := hk
 obtain ⟨o, ho, hn⟩ := hr k he.symm
 rw [hc] at ho; cases ho; cases hn
theorem blk_own {W W' : World} {g : Nat} {cs : Array Value} {t : TypeId} (h : W.heap[g]? = some (.cells cs t (0, 0))) {row : Option Nat} (hg : W.grownBy W' row) (hr : ∀ r, row = some r → ∃ o : Obj, W.heap[r]? = some o ∧ o.isCells = false) : W'.heap[g]? = some (.cells cs t (0, 0)) := by
 refine (hg.block g (c6_ h) (fun he => ?_)).trans h
 obtain ⟨o, ho, hn⟩ := hr g he.symm
 rw [h] at ho; cases ho; cases hn
def Stands (w : World) (g4 g5 : Nat) (r : List S52 × Int) (W : World) : Prop :=
 ∃ v, W.heap[g4]? = some (.cells #[v] 39 (0, 0)) ∧ W.heap[g5]? = some (.cells #[.int .i64 r.2] 32 (0, 0)) ∧ Kd.R k52 52 W w.heap.size (fun _ => True) v r.1 ∧ Below w.heap.size w W
theorem Stands.own {w : World} {g4 g5 : Nat} {r : List S52 × Int} {B : Nat} (hB : w.heap.size ≤ B) : OwnFrom B (fun (_ : Unit) W => Stands w g4 g5 r W) := by
 rintro _ A C row ⟨v, h1, h2, h3, h4⟩ hg hr
 have hr' : ∀ r, row = some r → ∃ o : Obj, A.heap[r]? = some o ∧ o.isCells = false := fun r e => (hr r e).2
 exact ⟨v, blk_own h1 hg hr', blk_own h2 hg hr', R_own h3 hg hr', h4.grown hg h4.size (fun k e => Nat.le_trans hB (hr k e).1)⟩
theorem Stands.mark {w : World} {g4 g5 : Nat} {r : List S52 × Int} {W : World} {D : Nat} (h : Stands w g4 g5 r W) (hD : w.heap.size ≤ D) (hK : W.heap[D]? = some (.deferred (some []))) : Stands w g4 g5 r (W.putObj D (.deferred none)) :=
 Stands.own (Nat.le_refl _) () _ _ (some D) h (grownBy_putObj' W D _) (fun r e => by cases e; exact ⟨hD, _, hK, rfl⟩)
theorem results57 {tmps : Array Value} {w : World} {g4 g5 : Nat} {v u : Value} {t t' : TypeId} (h4 : tmps.getD 4 undef = .pointer (some ⟨g4, 0, none⟩)) (h5 : tmps.getD 5 undef = .pointer (some ⟨g5, 0, none⟩))
  (b4 : w.heap[g4]? = some (.cells #[v] t (0, 0))) (b5 : w.heap[g5]? = some (.cells #[u] t' (0, 0))) : (results Try.f57 tmps).run Try.prog w = .ok (.tuple #[v, u]) w := by
 have h4' : tmps[4]?.getD undef = .pointer (some ⟨g4, 0, none⟩) := by simpa using h4
 have h5' : tmps[5]?.getD undef = .pointer (some ⟨g5, 0, none⟩) := by simpa using h5
 have c4 : w.cell? ⟨g4, 0, none⟩ = some v := (a0_ b4 0).trans rfl
 have c5 : w.cell? ⟨g5, 0, none⟩ = some u := (a0_ b5 0).trans rfl
 have hu39 := Try.underlying39
 have hu32 := Try.underlying32
 simp [results, Try.f57, go_sem, h4', h5', c4, c5, hu39, hu32]
set_option maxHeartbeats 8000000 in
set_option maxRecDepth 100000 in
theorem most_left (a0_0 a0_1 a0_2 a0_3 : Int) (A0_4 : Option Addr) (c0_4 : Nat) (l0_4 : List (S51)) (A0_5 : Option Addr) (c0_5 : Nat) (l0_5 : List (S24)) (A0_6 : Option Addr) (c0_6 : Nat) (l0_6 : List (S41)) (A0_7 : Option Addr) (c0_7 : Nat) (l0_7 : List (S105)) (A0_8 : Option Addr) (c0_8 : Nat) (l0_8 : List (S149)) (a1_0 a1_1 a1_2 a1_3 a1_4 a1_5 a1_6 a1_7 lg lc e0 : Int) (w : World) (hr0_4 : Kd.C k51 w A0_4 l0_4.length l0_4) (hc0_4 : l0_4.length ≤ c0_4) (hr0_5 : Kd.C k24 w A0_5 l0_5.length l0_5) (hc0_5 : l0_5.length ≤ c0_5) (hr0_6 : Kd.C k41 w A0_6 l0_6.length l0_6) (hc0_6 : l0_6.length ≤ c0_6) (hr0_7 : Kd.C k105 w A0_7 l0_7.length l0_7) (hc0_7 : l0_7.length ≤ c0_7) (hr0_8 : Kd.C k149 w A0_8 l0_8.length l0_8) (hc0_8 : l0_8.length ≤ c0_8) (hL : elastic_left.f a0_0 a0_1 a0_2 a0_3 l0_4 l0_5 l0_6 l0_7 l0_8 a1_0 a1_1 a1_2 a1_3 a1_4 a1_5 a1_6 a1_7 = some (lg, lc, e0)) (he : e0 ≠ 0) :
  Calls Try.prog 57 #[.agg #[.int .i64 a0_0, .int .i64 a0_1, .int .i64 a0_2, .int .i64 a0_3, .slice A0_4 l0_4.length c0_4, .slice A0_5 l0_5.length c0_5, .slice A0_6 l0_6.length c0_6, .slice A0_7 l0_7.length c0_7, .slice A0_8 l0_8.length c0_8], .agg #[.int .i64 a1_0, .int .i64 a1_1, .int .i64 a1_2, .int .i64 a1_3, .int .i64 a1_4, .int .i64 a1_5, .int .i64 a1_6, .int .i64 a1_7]] w fun e w' => ∃ v0_ : Value, e = .returned (.tuple #[v0_, .int .i64 e0]) ∧ Kd.R k52 52 w' w.heap.size (fun _ => True) v0_ [] ∧ Below w.heap.size w w' := by
 have hu86 := Try.underlying86
 have hu88 := Try.underlying88
 have hu24 := Try.underlying24
 have hu39 := Try.underlying39
 have hu32 := Try.underlying32
 have HR0_4 := m_ hr0_4
 have HC0_4 := m_ hc0_4
 clear hr0_4 hc0_4
 have HR0_5 := m_ hr0_5
 have HC0_5 := m_ hc0_5
 clear hr0_5 hc0_5
 have HR0_6 := m_ hr0_6
 have HC0_6 := m_ hc0_6
 clear hr0_6 hc0_6
 have HR0_7 := m_ hr0_7
 have HC0_7 := m_ hc0_7
 clear hr0_7 hc0_7
 have HR0_8 := m_ hr0_8
 have HC0_8 := m_ hc0_8
 clear hr0_8 hc0_8
 have HL := m_ hL
 have HB := m_ (Below.refl w.heap.size w)
 have t0 : (e0 != 0) = true := by simpa using he
 clear hL he
 refine calls_marks Try.func57 rfl ?_
 simp only [Try.ntmps57, List.size_toArray, List.length_cons, List.length_nil, Nat.reduceAdd, Nat.reduceSub, Array.replicate_succ, Array.replicate_zero, List.push_toArray, List.append_toArray, List.nil_append, List.cons_append]
 go_upto_region 2 with (first | ((with_reducible refine a3_ (N := 2) rfl ?_); refine bx 2 #[.int .i64 a0_0, .int .i64 a0_1, .int .i64 a0_2, .int .i64 a0_3, .slice A0_4 l0_4.length c0_4, .slice A0_5 l0_5.length c0_5, .slice A0_6 l0_6.length c0_6, .slice A0_7 l0_7.length c0_7, .slice A0_8 l0_8.length c0_8] 86 ?_; intro g2 hgg2 wg2 hxg2 hbg2; have Gg2 : w.heap.size ≤ g2 := Z6; replace HB := m_ (b0_ HB.out hbg2); have HXg2 := m_ hxg2; clear hgg2 hxg2 hbg2) | ((with_reducible refine a3_ (N := 3) rfl ?_); refine bx 3 #[.int .i64 a1_0, .int .i64 a1_1, .int .i64 a1_2, .int .i64 a1_3, .int .i64 a1_4, .int .i64 a1_5, .int .i64 a1_6, .int .i64 a1_7] 88 ?_; intro g3 hgg3 wg3 hxg3 hbg3; have Ng2_g3 := m_ (show g2 ≠ g3 from by have := c6_ HXg2.out; omega); replace HXg2 := m_ (a1_ HXg2.out hbg3); have Gg3 : w.heap.size ≤ g3 := Z6; replace HB := m_ (b0_ HB.out hbg3); have HXg3 := m_ hxg3; clear hgg3 hxg3 hbg3) | ((with_reducible refine a3_ (N := 4) rfl ?_); refine bx 4 #[.slice none 0 0] 39 ?_; intro g4 hgg4 wg4 hxg4 hbg4; have Ng2_g4 := m_ (show g2 ≠ g4 from by have := c6_ HXg2.out; omega); have Ng3_g4 := m_ (show g3 ≠ g4 from by have := c6_ HXg3.out; omega); replace HXg2 := m_ (a1_ HXg2.out hbg4); replace HXg3 := m_ (a1_ HXg3.out hbg4); have Gg4 : w.heap.size ≤ g4 := Z6; replace HB := m_ (b0_ HB.out hbg4); have HXg4 := m_ hxg4; clear hgg4 hxg4 hbg4) | ((with_reducible refine a3_ (N := 5) rfl ?_); refine bx 5 #[.int .i64 0] 32 ?_; intro g5 hgg5 wg5 hxg5 hbg5; have Ng2_g5 := m_ (show g2 ≠ g5 from by have := c6_ HXg2.out; omega); have Ng3_g5 := m_ (show g3 ≠ g5 from by have := c6_ HXg3.out; omega); have Ng4_g5 := m_ (show g4 ≠ g5 from by have := c6_ HXg4.out; omega); replace HXg2 := m_ (a1_ HXg2.out hbg5); replace HXg3 := m_ (a1_ HXg3.out hbg5); replace HXg4 := m_ (a1_ HXg4.out hbg5); have Gg5 : w.heap.size ≤ g5 := Z6; replace HB := m_ (b0_ HB.out hbg5); have HXg5 := m_ hxg5; clear hgg5 hxg5 hbg5; obtain ⟨cg2_0, cg2_1, cg2_2, cg2_3, cg2_4, cg2_5, cg2_6, cg2_7, cg2_8⟩ := cz9_ HXg2; obtain ⟨cg3_0, cg3_1, cg3_2, cg3_3, cg3_4, cg3_5, cg3_6, cg3_7⟩ := cz8_ HXg3) | (go_at_call 93; refine (elastic_left.calls a0_0 a0_1 a0_2 a0_3 _ _ l0_4 _ _ l0_5 _ _ l0_6 _ _ l0_7 _ _ l0_8 a1_0 a1_1 a1_2 a1_3 a1_4 a1_5 a1_6 a1_7 lg lc e0 _ (Kd.C_below HR0_4.out (HB.out)) HC0_4.out (Kd.C_below HR0_5.out (HB.out)) HC0_5.out (Kd.C_below HR0_6.out (HB.out)) HC0_6.out (Kd.C_below HR0_7.out (HB.out)) HC0_7.out (Kd.C_below HR0_8.out (HB.out)) HC0_8.out HL.out).mono ?_; rintro e w7 ⟨rfl, hb7⟩; clear cg2_0 cg2_1 cg2_2 cg2_3 cg2_4 cg2_5 cg2_6 cg2_7 cg2_8 cg3_0 cg3_1 cg3_2 cg3_3 cg3_4 cg3_5 cg3_6 cg3_7; replace HXg2 := m_ (a1_ HXg2.out hb7); replace HXg3 := m_ (a1_ HXg3.out hb7); replace HXg4 := m_ (a1_ HXg4.out hb7); replace HXg5 := m_ (a1_ HXg5.out hb7); replace HB := m_ (b0_ HB.out hb7); clear hb7) | ((with_reducible refine a3_ (N := 6) rfl ?_); refine bx 6 #[.int .i64 0, .int .i64 0] 24 ?_; intro g6 hgg6 wg6 hxg6 hbg6; have Ng2_g6 := m_ (show g2 ≠ g6 from by have := c6_ HXg2.out; omega); have Ng3_g6 := m_ (show g3 ≠ g6 from by have := c6_ HXg3.out; omega); have Ng4_g6 := m_ (show g4 ≠ g6 from by have := c6_ HXg4.out; omega); have Ng5_g6 := m_ (show g5 ≠ g6 from by have := c6_ HXg5.out; omega); replace HXg2 := m_ (a1_ HXg2.out hbg6); replace HXg3 := m_ (a1_ HXg3.out hbg6); replace HXg4 := m_ (a1_ HXg4.out hbg6); replace HXg5 := m_ (a1_ HXg5.out hbg6); have Gg6 : w.heap.size ≤ g6 := Z6; replace HB := m_ (b0_ HB.out hbg6); have HXg6 := m_ hxg6; clear hgg6 hxg6 hbg6; have zg6_0 : wg6.frozen? ⟨g6, 0, none⟩ = false := a2_ HXg6.out 0; have zg6_1 : wg6.frozen? ⟨g6, 1, none⟩ = false := a2_ HXg6.out 1; obtain ⟨cg6_0, cg6_1⟩ := cz2_ HXg6))
 obtain ⟨wB, hwB⟩ : ∃ wB, wB = (wg6.setCell ⟨g6, 0, none⟩ (.int .i64 lg)).setCell ⟨g6, 1, none⟩ (.int .i64 lc) := ⟨_, rfl⟩
 rw [← hwB]
 have hxg2 : wB.heap[g2]? = some (.cells #[.int .i64 a0_0, .int .i64 a0_1, .int .i64 a0_2, .int .i64 a0_3, .slice A0_4 l0_4.length c0_4, .slice A0_5 l0_5.length c0_5, .slice A0_6 l0_6.length c0_6, .slice A0_7 l0_7.length c0_7, .slice A0_8 l0_8.length c0_8] 86 (0, 0)) := by rw [hwB]; exact c7_ (c7_ HXg2.out (Ng2_g6.out) _) (Ng2_g6.out) _
 have hxg3 : wB.heap[g3]? = some (.cells #[.int .i64 a1_0, .int .i64 a1_1, .int .i64 a1_2, .int .i64 a1_3, .int .i64 a1_4, .int .i64 a1_5, .int .i64 a1_6, .int .i64 a1_7] 88 (0, 0)) := by rw [hwB]; exact c7_ (c7_ HXg3.out (Ng3_g6.out) _) (Ng3_g6.out) _
 have hxg4 : wB.heap[g4]? = some (.cells #[.slice none 0 0] 39 (0, 0)) := by rw [hwB]; exact c7_ (c7_ HXg4.out (Ng4_g6.out) _) (Ng4_g6.out) _
 have hxg5 : wB.heap[g5]? = some (.cells #[.int .i64 0] 32 (0, 0)) := by rw [hwB]; exact c7_ (c7_ HXg5.out (Ng5_g6.out) _) (Ng5_g6.out) _
 have hxg6 : wB.heap[g6]? = some (.cells #[.int .i64 lg, .int .i64 lc] 24 (0, 0)) := by rw [hwB]; exact d4_ (d4_ HXg6.out 0 _ rfl) 1 _ rfl
 have hbB : Below w.heap.size w wB := by rw [hwB]; exact b6_ (b6_ HB.out Gg6) Gg6
 replace HXg2 := m_ hxg2
 replace HXg3 := m_ hxg3
 replace HXg4 := m_ hxg4
 replace HXg5 := m_ hxg5
 replace HXg6 := m_ hxg6
 replace HB := m_ hbB
 clear hwB hxg2 hxg3 hxg4 hxg5 hxg6 hbB zg6_0 zg6_1 cg6_0 cg6_1
 have z4 : wB.frozen? ⟨g4, 0, none⟩ = false := a2_ HXg4.out 0
 have z5 : wB.frozen? ⟨g5, 0, none⟩ = false := a2_ HXg5.out 0
 have c4 : wB.cell? ⟨g4, 0, none⟩ = some (.slice none 0 0) := (a0_ HXg4.out 0).trans rfl
 have c5 : wB.cell? ⟨g5, 0, none⟩ = some (.int .i64 0) := (a0_ HXg5.out 0).trans rfl
 have n45 := Ng4_g5.out
 go_wp2
 have h4 : ((wB.setCell ⟨g4, 0, none⟩ (.slice none 0 0)).setCell ⟨g5, 0, none⟩ (.int .i64 e0)).heap[g4]? = some (.cells #[.slice none 0 0] 39 (0, 0)) := c7_ (d4_ HXg4.out 0 _ rfl) n45 _
 have h5 : ((wB.setCell ⟨g4, 0, none⟩ (.slice none 0 0)).setCell ⟨g5, 0, none⟩ (.int .i64 e0)).heap[g5]? = some (.cells #[.int .i64 e0] 32 (0, 0)) := d4_ (c7_ HXg5.out n45.symm _) 0 _ rfl
 exact marks_ret0 (results57 rfl rfl h4 h5) ⟨_, rfl, Kd.R_nil _ _ _ _ _, b6_ (b6_ HB.out Gg4) Gg5⟩
set_option maxHeartbeats 8000000 in
set_option maxRecDepth 100000 in
theorem most_can (kc : Nat) (a0_0 a0_1 a0_2 a0_3 : Int) (A0_4 : Option Addr) (c0_4 : Nat) (l0_4 : List (S51)) (A0_5 : Option Addr) (c0_5 : Nat) (l0_5 : List (S24)) (A0_6 : Option Addr) (c0_6 : Nat) (l0_6 : List (S41)) (A0_7 : Option Addr) (c0_7 : Nat) (l0_7 : List (S105)) (A0_8 : Option Addr) (c0_8 : Nat) (l0_8 : List (S149)) (a1_0 a1_1 a1_2 a1_3 a1_4 a1_5 a1_6 a1_7 lg lc r0 : Int) (cn : Int → Int) (pl : Int → List S52 × Int) (w : World) (hr0_4 : Kd.C k51 w A0_4 l0_4.length l0_4) (hc0_4 : l0_4.length ≤ c0_4) (hr0_5 : Kd.C k24 w A0_5 l0_5.length l0_5) (hc0_5 : l0_5.length ≤ c0_5) (hr0_6 : Kd.C k41 w A0_6 l0_6.length l0_6) (hc0_6 : l0_6.length ≤ c0_6) (hr0_7 : Kd.C k105 w A0_7 l0_7.length l0_7) (hc0_7 : l0_7.length ≤ c0_7) (hr0_8 : Kd.C k149 w A0_8 l0_8.length l0_8) (hc0_8 : l0_8.length ≤ c0_8) (hL : elastic_left.f a0_0 a0_1 a0_2 a0_3 l0_4 l0_5 l0_6 l0_7 l0_8 a1_0 a1_1 a1_2 a1_3 a1_4 a1_5 a1_6 a1_7 = some (lg, lc, 0))
  (hmx : a1_6 ≤ a1_7 ∧ a1_7 ≤ 16) (hmn : 1 ≤ a1_6)
  (hc0 : elastic_can.f kc a0_0 a0_1 a0_2 a0_3 l0_4 l0_5 l0_6 l0_7 l0_8 a1_4 a1_5 a1_6 a1_7 a1_6 lg lc = some r0) (hcn : ∀ n, a1_6 ≤ n → n ≤ a1_7 → elastic_can.f kc a0_0 a0_1 a0_2 a0_3 l0_4 l0_5 l0_6 l0_7 l0_8 a1_4 a1_5 a1_6 a1_7 n lg lc = some (cn n))
  (hpl : ∀ n, a1_6 ≤ n → n ≤ a1_7 → pack_Place.f l0_4 a1_4 a1_5 a1_6 a1_7 n = some (pl n)) (rr : List S52 × Int)
  (hrr : rr = if r0 ≠ 0 then ([], r0) else match (downL a1_7 a1_6).find? (fun n => cn n == 0) with | some n => pl n | none => ([], 7)) :
  Calls Try.prog 57 #[.agg #[.int .i64 a0_0, .int .i64 a0_1, .int .i64 a0_2, .int .i64 a0_3, .slice A0_4 l0_4.length c0_4, .slice A0_5 l0_5.length c0_5, .slice A0_6 l0_6.length c0_6, .slice A0_7 l0_7.length c0_7, .slice A0_8 l0_8.length c0_8], .agg #[.int .i64 a1_0, .int .i64 a1_1, .int .i64 a1_2, .int .i64 a1_3, .int .i64 a1_4, .int .i64 a1_5, .int .i64 a1_6, .int .i64 a1_7]] w fun e w' => ∃ v0_ : Value, e = .returned (.tuple #[v0_, .int .i64 rr.2]) ∧ Kd.R k52 52 w' w.heap.size (fun _ => True) v0_ rr.1 ∧ Below w.heap.size w w' := by
 have hu86 := Try.underlying86
 have hu88 := Try.underlying88
 have hu24 := Try.underlying24
 have hu27 := Try.underlying27
 have hu39 := Try.underlying39
 have hu32 := Try.underlying32
 have HR0_4 := m_ hr0_4
 have HC0_4 := m_ hc0_4
 clear hr0_4 hc0_4
 have HR0_5 := m_ hr0_5
 have HC0_5 := m_ hc0_5
 clear hr0_5 hc0_5
 have HR0_6 := m_ hr0_6
 have HC0_6 := m_ hc0_6
 clear hr0_6 hc0_6
 have HR0_7 := m_ hr0_7
 have HC0_7 := m_ hc0_7
 clear hr0_7 hc0_7
 have HR0_8 := m_ hr0_8
 have HC0_8 := m_ hc0_8
 clear hr0_8 hc0_8
 have HL := m_ hL
 have HC0 := m_ hc0
 have HCN := m_ hcn
 have HPL := m_ hpl
 have HRR := m_ hrr
 have HMX := m_ (And.intro hmx hmn)
 have HB := m_ (Below.refl w.heap.size w)
 clear hL hc0 hcn hpl hrr hmx hmn
 refine calls_marks Try.func57 rfl ?_
 simp only [Try.ntmps57, List.size_toArray, List.length_cons, List.length_nil, Nat.reduceAdd, Nat.reduceSub, Array.replicate_succ, Array.replicate_zero, List.push_toArray, List.append_toArray, List.nil_append, List.cons_append]
 go_upto_region 2 with (first | ((with_reducible refine a3_ (N := 2) rfl ?_); refine bx 2 #[.int .i64 a0_0, .int .i64 a0_1, .int .i64 a0_2, .int .i64 a0_3, .slice A0_4 l0_4.length c0_4, .slice A0_5 l0_5.length c0_5, .slice A0_6 l0_6.length c0_6, .slice A0_7 l0_7.length c0_7, .slice A0_8 l0_8.length c0_8] 86 ?_; intro g2 hgg2 wg2 hxg2 hbg2; have Gg2 : w.heap.size ≤ g2 := Z6; replace HB := m_ (b0_ HB.out hbg2); have HXg2 := m_ hxg2; clear hgg2 hxg2 hbg2) | ((with_reducible refine a3_ (N := 3) rfl ?_); refine bx 3 #[.int .i64 a1_0, .int .i64 a1_1, .int .i64 a1_2, .int .i64 a1_3, .int .i64 a1_4, .int .i64 a1_5, .int .i64 a1_6, .int .i64 a1_7] 88 ?_; intro g3 hgg3 wg3 hxg3 hbg3; have Ng2_g3 := m_ (show g2 ≠ g3 from by have := c6_ HXg2.out; omega); replace HXg2 := m_ (a1_ HXg2.out hbg3); have Gg3 : w.heap.size ≤ g3 := Z6; replace HB := m_ (b0_ HB.out hbg3); have HXg3 := m_ hxg3; clear hgg3 hxg3 hbg3) | ((with_reducible refine a3_ (N := 4) rfl ?_); refine bx 4 #[.slice none 0 0] 39 ?_; intro g4 hgg4 wg4 hxg4 hbg4; have Ng2_g4 := m_ (show g2 ≠ g4 from by have := c6_ HXg2.out; omega); have Ng3_g4 := m_ (show g3 ≠ g4 from by have := c6_ HXg3.out; omega); replace HXg2 := m_ (a1_ HXg2.out hbg4); replace HXg3 := m_ (a1_ HXg3.out hbg4); have Gg4 : w.heap.size ≤ g4 := Z6; replace HB := m_ (b0_ HB.out hbg4); have HXg4 := m_ hxg4; clear hgg4 hxg4 hbg4) | ((with_reducible refine a3_ (N := 5) rfl ?_); refine bx 5 #[.int .i64 0] 32 ?_; intro g5 hgg5 wg5 hxg5 hbg5; have Ng2_g5 := m_ (show g2 ≠ g5 from by have := c6_ HXg2.out; omega); have Ng3_g5 := m_ (show g3 ≠ g5 from by have := c6_ HXg3.out; omega); have Ng4_g5 := m_ (show g4 ≠ g5 from by have := c6_ HXg4.out; omega); replace HXg2 := m_ (a1_ HXg2.out hbg5); replace HXg3 := m_ (a1_ HXg3.out hbg5); replace HXg4 := m_ (a1_ HXg4.out hbg5); have Gg5 : w.heap.size ≤ g5 := Z6; replace HB := m_ (b0_ HB.out hbg5); have HXg5 := m_ hxg5; clear hgg5 hxg5 hbg5; obtain ⟨cg2_0, cg2_1, cg2_2, cg2_3, cg2_4, cg2_5, cg2_6, cg2_7, cg2_8⟩ := cz9_ HXg2; obtain ⟨cg3_0, cg3_1, cg3_2, cg3_3, cg3_4, cg3_5, cg3_6, cg3_7⟩ := cz8_ HXg3) | (go_at_call 93; refine (elastic_left.calls a0_0 a0_1 a0_2 a0_3 _ _ l0_4 _ _ l0_5 _ _ l0_6 _ _ l0_7 _ _ l0_8 a1_0 a1_1 a1_2 a1_3 a1_4 a1_5 a1_6 a1_7 lg lc 0 _ (Kd.C_below HR0_4.out (HB.out)) HC0_4.out (Kd.C_below HR0_5.out (HB.out)) HC0_5.out (Kd.C_below HR0_6.out (HB.out)) HC0_6.out (Kd.C_below HR0_7.out (HB.out)) HC0_7.out (Kd.C_below HR0_8.out (HB.out)) HC0_8.out HL.out).mono ?_; rintro e w7 ⟨rfl, hb7⟩; clear cg2_0 cg2_1 cg2_2 cg2_3 cg2_4 cg2_5 cg2_6 cg2_7 cg2_8 cg3_0 cg3_1 cg3_2 cg3_3 cg3_4 cg3_5 cg3_6 cg3_7; replace HXg2 := m_ (a1_ HXg2.out hb7); replace HXg3 := m_ (a1_ HXg3.out hb7); replace HXg4 := m_ (a1_ HXg4.out hb7); replace HXg5 := m_ (a1_ HXg5.out hb7); replace HB := m_ (b0_ HB.out hb7); clear hb7) | ((with_reducible refine a3_ (N := 6) rfl ?_); refine bx 6 #[.int .i64 0, .int .i64 0] 24 ?_; intro g6 hgg6 wg6 hxg6 hbg6; have Ng2_g6 := m_ (show g2 ≠ g6 from by have := c6_ HXg2.out; omega); have Ng3_g6 := m_ (show g3 ≠ g6 from by have := c6_ HXg3.out; omega); have Ng4_g6 := m_ (show g4 ≠ g6 from by have := c6_ HXg4.out; omega); have Ng5_g6 := m_ (show g5 ≠ g6 from by have := c6_ HXg5.out; omega); replace HXg2 := m_ (a1_ HXg2.out hbg6); replace HXg3 := m_ (a1_ HXg3.out hbg6); replace HXg4 := m_ (a1_ HXg4.out hbg6); replace HXg5 := m_ (a1_ HXg5.out hbg6); have Gg6 : w.heap.size ≤ g6 := Z6; replace HB := m_ (b0_ HB.out hbg6); have HXg6 := m_ hxg6; clear hgg6 hxg6 hbg6; have zg6_0 : wg6.frozen? ⟨g6, 0, none⟩ = false := a2_ HXg6.out 0; have zg6_1 : wg6.frozen? ⟨g6, 1, none⟩ = false := a2_ HXg6.out 1; obtain ⟨cg6_0, cg6_1⟩ := cz2_ HXg6))
 obtain ⟨wB, hwB⟩ : ∃ wB, wB = (wg6.setCell ⟨g6, 0, none⟩ (.int .i64 lg)).setCell ⟨g6, 1, none⟩ (.int .i64 lc) := ⟨_, rfl⟩
 rw [← hwB]
 have hxg2 : wB.heap[g2]? = some (.cells #[.int .i64 a0_0, .int .i64 a0_1, .int .i64 a0_2, .int .i64 a0_3, .slice A0_4 l0_4.length c0_4, .slice A0_5 l0_5.length c0_5, .slice A0_6 l0_6.length c0_6, .slice A0_7 l0_7.length c0_7, .slice A0_8 l0_8.length c0_8] 86 (0, 0)) := by rw [hwB]; exact c7_ (c7_ HXg2.out (Ng2_g6.out) _) (Ng2_g6.out) _
 have hxg3 : wB.heap[g3]? = some (.cells #[.int .i64 a1_0, .int .i64 a1_1, .int .i64 a1_2, .int .i64 a1_3, .int .i64 a1_4, .int .i64 a1_5, .int .i64 a1_6, .int .i64 a1_7] 88 (0, 0)) := by rw [hwB]; exact c7_ (c7_ HXg3.out (Ng3_g6.out) _) (Ng3_g6.out) _
 have hxg4 : wB.heap[g4]? = some (.cells #[.slice none 0 0] 39 (0, 0)) := by rw [hwB]; exact c7_ (c7_ HXg4.out (Ng4_g6.out) _) (Ng4_g6.out) _
 have hxg5 : wB.heap[g5]? = some (.cells #[.int .i64 0] 32 (0, 0)) := by rw [hwB]; exact c7_ (c7_ HXg5.out (Ng5_g6.out) _) (Ng5_g6.out) _
 have hxg6 : wB.heap[g6]? = some (.cells #[.int .i64 lg, .int .i64 lc] 24 (0, 0)) := by rw [hwB]; exact d4_ (d4_ HXg6.out 0 _ rfl) 1 _ rfl
 have hbB : Below w.heap.size w wB := by rw [hwB]; exact b6_ (b6_ HB.out Gg6) Gg6
 replace HXg2 := m_ hxg2
 replace HXg3 := m_ hxg3
 replace HXg4 := m_ hxg4
 replace HXg5 := m_ hxg5
 replace HXg6 := m_ hxg6
 replace HB := m_ hbB
 clear hwB hxg2 hxg3 hxg4 hxg5 hxg6 hbB zg6_0 zg6_1 cg6_0 cg6_1
 obtain ⟨cg2_0, cg2_1, cg2_2, cg2_3, cg2_4, cg2_5, cg2_6, cg2_7, cg2_8⟩ := cz9_ HXg2
 obtain ⟨cg3_0, cg3_1, cg3_2, cg3_3, cg3_4, cg3_5, cg3_6, cg3_7⟩ := cz8_ HXg3
 obtain ⟨cg6_0, cg6_1⟩ := cz2_ HXg6
 go_upto_region 5 with (first | (go_at_call 94; refine (elastic_can.calls kc a0_0 a0_1 a0_2 a0_3 _ _ l0_4 _ _ l0_5 _ _ l0_6 _ _ l0_7 _ _ l0_8 a1_4 a1_5 a1_6 a1_7 a1_6 lg lc r0 _ (Kd.C_below HR0_4.out (HB.out)) HC0_4.out (Kd.C_below HR0_5.out (HB.out)) HC0_5.out (Kd.C_below HR0_6.out (HB.out)) HC0_6.out (Kd.C_below HR0_7.out (HB.out)) HC0_7.out (Kd.C_below HR0_8.out (HB.out)) HC0_8.out (HC0.out)).mono ?_; rintro e w8 ⟨rfl, hb8⟩; clear cg2_0 cg2_1 cg2_2 cg2_3 cg2_4 cg2_5 cg2_6 cg2_7 cg2_8 cg3_0 cg3_1 cg3_2 cg3_3 cg3_4 cg3_5 cg3_6 cg3_7 cg6_0 cg6_1; replace HXg2 := m_ (a1_ HXg2.out hb8); replace HXg3 := m_ (a1_ HXg3.out hb8); replace HXg4 := m_ (a1_ HXg4.out hb8); replace HXg5 := m_ (a1_ HXg5.out hb8); replace HXg6 := m_ (a1_ HXg6.out hb8); replace HB := m_ (b0_ HB.out hb8); clear hb8))
 by_cases hr0 : r0 = 0
 ·subst hr0
  have hrr := HRR.out
  rw [if_neg (by decide)] at hrr
  clear HRR
  have HRR := m_ hrr
  clear hrr
  obtain ⟨cg3_0, cg3_1, cg3_2, cg3_3, cg3_4, cg3_5, cg3_6, cg3_7⟩ := cz8_ HXg3
  go_wp2_with (first | (go_at_call 95; refine (down_calls a1_7 a1_6 _).mono ?_; rintro e w9 ⟨rfl, hd1, hd2, hb9⟩; have HD1 := m_ hd1; have HD2 := m_ hd2; have HBL := m_ (HB.out.size); clear cg3_0 cg3_1 cg3_2 cg3_3 cg3_4 cg3_5 cg3_6 cg3_7; replace HXg2 := m_ (a1_ HXg2.out hb9); replace HXg3 := m_ (a1_ HXg3.out hb9); replace HXg4 := m_ (a1_ HXg4.out hb9); replace HXg5 := m_ (a1_ HXg5.out hb9); replace HXg6 := m_ (a1_ HXg6.out hb9); replace HB := m_ (b0_ HB.out hb9); clear hb9 hd1 hd2))
  have hlt9 := HBL.out
  have hz8 := HBL.out
  refine range_try (gf := 117) (lb := #[.pointer (some ⟨w8.heap.size, 0, none⟩), .pointer (some ⟨w8.heap.size + 1, 0, none⟩)]) rfl (enters_of Try.func117 (by kernel_rfl) rfl)
   (enc := fun x : Int => #[.int .i64 x]) (down_goes _ _ a1_7 a1_6 _ HD1.out HD2.out (by have := HMX.out; omega) (by have := HMX.out; omega)) (fun _ => rfl)
   (fun x => cn x ≠ 0) (fun x W => cn x = 0 ∧ Stands w g4 g5 (pl x) W) ?hRx
   (fun x a' _ => a' = { tmps := #[.agg #[.int .i64 a0_0, .int .i64 a0_1, .int .i64 a0_2, .int .i64 a0_3, .slice A0_4 l0_4.length c0_4, .slice A0_5 l0_5.length c0_5, .slice A0_6 l0_6.length c0_6, .slice A0_7 l0_7.length c0_7, .slice A0_8 l0_8.length c0_8], .agg #[.int .i64 a1_0, .int .i64 a1_1, .int .i64 a1_2, .int .i64 a1_3, .int .i64 a1_4, .int .i64 a1_5, .int .i64 a1_6, .int .i64 a1_7], .pointer (some ⟨g2, 0, none⟩), .pointer (some ⟨g3, 0, none⟩), .pointer (some ⟨g4, 0, none⟩), .pointer (some ⟨g5, 0, none⟩), .pointer (some ⟨g6, 0, none⟩), .int .i64 0, .int .i64 0, .int .i64 x, .tuple #[.agg #[.int .i64 lg, .int .i64 lc], .int .i64 0], .agg #[.int .i64 a0_0, .int .i64 a0_1, .int .i64 a0_2, .int .i64 a0_3, .slice A0_4 l0_4.length c0_4, .slice A0_5 l0_5.length c0_5, .slice A0_6 l0_6.length c0_6, .slice A0_7 l0_7.length c0_7, .slice A0_8 l0_8.length c0_8], .agg #[.int .i64 a1_0, .int .i64 a1_1, .int .i64 a1_2, .int .i64 a1_3, .int .i64 a1_4, .int .i64 a1_5, .int .i64 a1_6, .int .i64 a1_7], .tuple #[.agg #[.int .i64 lg, .int .i64 lc], .int .i64 0], .agg #[.int .i64 lg, .int .i64 lc], .int .i64 0, .int .i64 0, .bool false, undef, .agg #[.int .i64 a0_0, .int .i64 a0_1, .int .i64 a0_2, .int .i64 a0_3, .slice A0_4 l0_4.length c0_4, .slice A0_5 l0_5.length c0_5, .slice A0_6 l0_6.length c0_6, .slice A0_7 l0_7.length c0_7, .slice A0_8 l0_8.length c0_8], .pointer (some ⟨g3, 4, none⟩), .agg #[.int .i64 a1_4, .int .i64 a1_5, .int .i64 a1_6, .int .i64 a1_7], .pointer (some ⟨g3, 4, none⟩), .pointer (some ⟨g3, 6, none⟩), .int .i64 a1_6, .agg #[.int .i64 lg, .int .i64 lc], .int .i64 0, .int .i64 0, .bool false, undef, .pointer (some ⟨g3, 4, none⟩), .pointer (some ⟨g3, 7, none⟩), .int .i64 a1_7, .pointer (some ⟨g3, 4, none⟩), .pointer (some ⟨g3, 6, none⟩), .int .i64 a1_6, .func (.func 117) #[] #[.pointer (some ⟨w8.heap.size, 0, none⟩), .pointer (some ⟨w8.heap.size + 1, 0, none⟩)], .int .i64 x, undef, undef, undef, undef, undef, undef, undef, undef, undef, undef, undef, undef, undef, undef, undef], defers := [] }) (fun _ _ => ownFrom_pure (β := Unit) _ _) ?assign ?body ?done ?stop
  case hRx => exact fun y => OwnFrom.and (ownFrom_pure _ _) (Stands.own HB.out.size)
  case assign =>
   intro l x W K hx hB hK
   gi_wp2
   exact hK _ _ (Below.refl _ _) rfl
  case body =>
   rintro l x a' W hx hBW rfl
   have hmem := downL_mem hx
   have HC := m_ (HCN.out x hmem.1 hmem.2)
   have HP := m_ (HPL.out x hmem.1 hmem.2)
   have hBw := b0_ HB.out hBW
   have HBW := m_ hBw
   have hy2 := a1_ HXg2.out hBW
   have hy3 := a1_ HXg3.out hBW
   have hy4 := a1_ HXg4.out hBW
   have hy5 := a1_ HXg5.out hBW
   have hy6 := a1_ HXg6.out hBW
   have HS9 := m_ hBW.size
   have HBQ := m_ HB.out.size
   clear HXg2 HXg3 HXg4 HXg5 HXg6 HB hBW hBw hx hmem HD1 HD2 HL HC0 HCN HPL HRR
   have HB := HBW
   clear HBW
   have HXg2 := m_ hy2
   have HXg3 := m_ hy3
   have HXg4 := m_ hy4
   have HXg5 := m_ hy5
   have HXg6 := m_ hy6
   clear hy2 hy3 hy4 hy5 hy6
   obtain ⟨cx, hce⟩ : ∃ cx, cx = cn x := ⟨_, rfl⟩
   obtain ⟨px, hpe⟩ : ∃ px, px = pl x := ⟨_, rfl⟩
   rw [← hce] at HC
   rw [← hpe] at HP
   have HCE := m_ hce
   have HPE := m_ hpe
   clear hce hpe
   obtain ⟨cg2_0, cg2_1, cg2_2, cg2_3, cg2_4, cg2_5, cg2_6, cg2_7, cg2_8⟩ := cz9_ HXg2
   obtain ⟨cg3_0, cg3_1, cg3_2, cg3_3, cg3_4, cg3_5, cg3_6, cg3_7⟩ := cz8_ HXg3
   obtain ⟨cg6_0, cg6_1⟩ := cz2_ HXg6
   by_cases hcx : cx = 0
   ·subst hcx
    gi_wp2_with (first | ((try refine ⟨trivial, ?_⟩); gi_at_call 94; refine (CallsIn.inRound l (callsIn_wide.2 (elastic_can.calls kc a0_0 a0_1 a0_2 a0_3 _ _ l0_4 _ _ l0_5 _ _ l0_6 _ _ l0_7 _ _ l0_8 a1_4 a1_5 a1_6 a1_7 x lg lc _ _ (Kd.C_below HR0_4.out (HB.out)) HC0_4.out (Kd.C_below HR0_5.out (HB.out)) HC0_5.out (Kd.C_below HR0_6.out (HB.out)) HC0_6.out (Kd.C_below HR0_7.out (HB.out)) HC0_7.out (Kd.C_below HR0_8.out (HB.out)) HC0_8.out (HC.out)))).mono ?_; rintro e wc ⟨rfl, hbc⟩; have HBC := m_ hbc; clear cg2_0 cg2_1 cg2_2 cg2_3 cg2_4 cg2_5 cg2_6 cg2_7 cg2_8 cg3_0 cg3_1 cg3_2 cg3_3 cg3_4 cg3_5 cg3_6 cg3_7 cg6_0 cg6_1; replace HXg2 := m_ (a1_ HXg2.out hbc); replace HXg3 := m_ (a1_ HXg3.out hbc); replace HXg4 := m_ (a1_ HXg4.out hbc); replace HXg5 := m_ (a1_ HXg5.out hbc); replace HXg6 := m_ (a1_ HXg6.out hbc); replace HB := m_ (b0_ HB.out hbc); clear hbc; obtain ⟨cg2_0, cg2_1, cg2_2, cg2_3, cg2_4, cg2_5, cg2_6, cg2_7, cg2_8⟩ := cz9_ HXg2; obtain ⟨cg3_0, cg3_1, cg3_2, cg3_3, cg3_4, cg3_5, cg3_6, cg3_7⟩ := cz8_ HXg3) | ((try refine ⟨trivial, ?_⟩); gi_at_call 46; refine (CallsIn.inRound l (callsIn_wide.2 (pack_Place.calls _ _ l0_4 a1_4 a1_5 a1_6 a1_7 x _ _ _ (Kd.C_below HR0_4.out HB.out) HC0_4.out HP.out))).mono ?_; rintro e wp ⟨vp, rfl, hrp, hbp⟩; obtain ⟨Ap, cp, rfl⟩ := Kd.R_slice hrp; have HBP := m_ hbp; have HRP := m_ hrp; clear cg2_0 cg2_1 cg2_2 cg2_3 cg2_4 cg2_5 cg2_6 cg2_7 cg2_8 cg3_0 cg3_1 cg3_2 cg3_3 cg3_4 cg3_5 cg3_6 cg3_7; replace HXg2 := m_ (a1_ HXg2.out hbp); replace HXg3 := m_ (a1_ HXg3.out hbp); replace HXg4 := m_ (a1_ HXg4.out hbp); replace HXg5 := m_ (a1_ HXg5.out hbp); replace HXg6 := m_ (a1_ HXg6.out hbp); replace HB := m_ (b0_ HB.out hbp); clear hbp hrp; have z4 : wp.frozen? ⟨g4, 0, none⟩ = false := a2_ HXg4.out 0; have z5 : wp.frozen? ⟨g5, 0, none⟩ = false := a2_ HXg5.out 0; have cg4_0 : wp.cell? ⟨g4, 0, none⟩ = some (.slice none 0 0) := (a0_ HXg4.out 0).trans rfl; have cg5_0 : wp.cell? ⟨g5, 0, none⟩ = some (.int .i64 0) := (a0_ HXg5.out 0).trans rfl; have n45 := Ng4_g5.out))
    have n45 := Ng4_g5.out
    have h4 : ((wp.setCell ⟨g4, 0, none⟩ (.slice Ap px.1.length cp)).setCell ⟨g5, 0, none⟩ (.int .i64 px.2)).heap[g4]? = some (.cells #[.slice Ap px.1.length cp] 39 (0, 0)) := c7_ (d4_ HXg4.out 0 _ rfl) n45 _
    have h5 : ((wp.setCell ⟨g4, 0, none⟩ (.slice Ap px.1.length cp)).setCell ⟨g5, 0, none⟩ (.int .i64 px.2)).heap[g5]? = some (.cells #[.int .i64 px.2] 32 (0, 0)) := d4_ (c7_ HXg5.out n45.symm _) 0 _ rfl
    have hr1 := Kd.R_grown2 HRP.out rfl (grown_set (j := 0) (v := .slice Ap px.1.length cp) (d6_ wp (some g4))) (fun k hk => by injection hk with hk; subst hk; exact Kd.R_ne HRP.out HXg4.out (by decide))
    have hx5 : (wp.setCell ⟨g4, 0, none⟩ (.slice Ap px.1.length cp)).heap[g5]? = some (.cells #[.int .i64 0] 32 (0, 0)) := c7_ HXg5.out n45.symm _
    have hr2 := Kd.R_grown2 hr1 rfl (grown_set (j := 0) (v := .int .i64 px.2) (d6_ _ (some g5))) (fun k hk => by injection hk with hk; subst hk; exact Kd.R_ne hr1 hx5 (by decide))
    show KeepsFrom _ _ _ ∧ cn x = 0 ∧ Stands w g4 g5 (pl x) _
    rw [← HCE.out, ← HPE.out]
    refine ⟨((keepsFrom_below HBC.out).trans (keepsFrom_below HBP.out)).trans (((KeepsOthers.setCell _ _ _).trans (KeepsOthers.setCell _ _ _)).from _), rfl, _, h4, h5, Kd.R_lower hr2 ?_, b6_ (b6_ HB.out Gg4) Gg5⟩
    have h1 := HBC.out.size
    have h2 := HS9.out
    have h3 := HBL.out
    have h6 := HBQ.out
    omega
   ·have t0 : (cx == 0) = false := by simpa using hcx
    have HCX := m_ hcx
    clear hcx
    gi_wp2_with (first | ((try refine ⟨trivial, ?_⟩); gi_at_call 94; refine (CallsIn.inRound l (callsIn_wide.2 (elastic_can.calls kc a0_0 a0_1 a0_2 a0_3 _ _ l0_4 _ _ l0_5 _ _ l0_6 _ _ l0_7 _ _ l0_8 a1_4 a1_5 a1_6 a1_7 x lg lc _ _ (Kd.C_below HR0_4.out (HB.out)) HC0_4.out (Kd.C_below HR0_5.out (HB.out)) HC0_5.out (Kd.C_below HR0_6.out (HB.out)) HC0_6.out (Kd.C_below HR0_7.out (HB.out)) HC0_7.out (Kd.C_below HR0_8.out (HB.out)) HC0_8.out (HC.out)))).mono ?_; rintro e wc ⟨rfl, hbc⟩; have HBC := m_ hbc; clear cg2_0 cg2_1 cg2_2 cg2_3 cg2_4 cg2_5 cg2_6 cg2_7 cg2_8 cg3_0 cg3_1 cg3_2 cg3_3 cg3_4 cg3_5 cg3_6 cg3_7 cg6_0 cg6_1; replace HXg2 := m_ (a1_ HXg2.out hbc); replace HXg3 := m_ (a1_ HXg3.out hbc); replace HXg4 := m_ (a1_ HXg4.out hbc); replace HXg5 := m_ (a1_ HXg5.out hbc); replace HXg6 := m_ (a1_ HXg6.out hbc); replace HB := m_ (b0_ HB.out hbc); clear hbc; obtain ⟨cg2_0, cg2_1, cg2_2, cg2_3, cg2_4, cg2_5, cg2_6, cg2_7, cg2_8⟩ := cz9_ HXg2; obtain ⟨cg3_0, cg3_1, cg3_2, cg3_3, cg3_4, cg3_5, cg3_6, cg3_7⟩ := cz8_ HXg3))
    exact ⟨HBC.out, by show cn x ≠ 0; rw [← HCE.out]; exact HCX.out⟩
  case done =>
   intro D W hD hf hBW hK
   have hrr : rr = ([], 7) := by
    rw [HRR.out]
    have : (downL a1_7 a1_6).find? (fun n => cn n == 0) = none := List.find?_eq_none.2 fun x hx => by simpa using hf x hx
    rw [this]
   subst hrr
   have hy4 := a1_ HXg4.out hBW
   have hy5 := a1_ HXg5.out hBW
   have HBW := m_ (b0_ HB.out hBW)
   have HD := m_ hD
   have HK := m_ hK
   have HW9 := m_ HB.out.size
   clear HXg2 HXg3 HXg4 HXg5 HXg6 HB hBW hK hD hf HRR HD1 HD2
   have HXg4 := m_ hy4
   have HXg5 := m_ hy5
   clear hy4 hy5
   have z4 : W.frozen? ⟨g4, 0, none⟩ = false := a2_ HXg4.out 0
   have z5 : W.frozen? ⟨g5, 0, none⟩ = false := a2_ HXg5.out 0
   have c4 : W.cell? ⟨g4, 0, none⟩ = some (.slice none 0 0) := (a0_ HXg4.out 0).trans rfl
   have c5 : W.cell? ⟨g5, 0, none⟩ = some (.int .i64 0) := (a0_ HXg5.out 0).trans rfl
   have n45 := Ng4_g5.out
   go_wp2
   have h4 : ((W.setCell ⟨g4, 0, none⟩ (.slice none 0 0)).setCell ⟨g5, 0, none⟩ (.int .i64 7)).heap[g4]? = some (.cells #[.slice none 0 0] 39 (0, 0)) := c7_ (d4_ HXg4.out 0 _ rfl) n45 _
   have h5 : ((W.setCell ⟨g4, 0, none⟩ (.slice none 0 0)).setCell ⟨g5, 0, none⟩ (.int .i64 7)).heap[g5]? = some (.cells #[.int .i64 7] 32 (0, 0)) := d4_ (c7_ HXg5.out n45.symm _) 0 _ rfl
   have hk := ((KeepsOthers.setCell W ⟨g4, 0, none⟩ (.slice none 0 0)).trans (KeepsOthers.setCell _ ⟨g5, 0, none⟩ (.int .i64 7))).same D _ HK.out rfl
   have hs : Stands w g4 g5 ([], 7) ((W.setCell ⟨g4, 0, none⟩ (.slice none 0 0)).setCell ⟨g5, 0, none⟩ (.int .i64 7)) := ⟨_, h4, h5, Kd.R_nil _ _ _ _ _, b6_ (b6_ HBW.out Gg4) Gg5⟩
   obtain ⟨v, k4, k5, kr, kb⟩ := hs.mark (by have := HD.out; have := HW9.out; omega) hk
   exact marks_ret1 hk (results57 rfl rfl k4 k5) ⟨v, rfl, kr, kb⟩
  case stop =>
   intro D k x W hD hx hf ⟨hcx, hs⟩ hK
   have hrr : rr = pl x := by
    rw [HRR.out]
    have : (downL a1_7 a1_6).find? (fun n => cn n == 0) = some x := by
     rw [List.find?_eq_some_iff_getElem]
     obtain ⟨hk, he⟩ := List.getElem?_eq_some_iff.1 hx
     refine ⟨by simpa using hcx, k, hk, he, fun j hj => ?_⟩
     have := hf (downL a1_7 a1_6)[j] (List.mem_take_iff_getElem.2 ⟨j, by omega, rfl⟩)
     simpa using this
    rw [this]
   subst hrr
   have hw := HB.out.size
   obtain ⟨v, k4, k5, kr, kb⟩ := hs.mark (by omega) hK
   exact marks_ret1 hK (results57 rfl rfl k4 k5) ⟨v, rfl, kr, kb⟩
 ·have t0 : (r0 != 0) = true := by simpa using hr0
  have hrr := HRR.out
  rw [if_pos hr0] at hrr
  subst hrr
  clear HRR hr0
  have z4 : w8.frozen? ⟨g4, 0, none⟩ = false := a2_ HXg4.out 0
  have z5 : w8.frozen? ⟨g5, 0, none⟩ = false := a2_ HXg5.out 0
  have c4 : w8.cell? ⟨g4, 0, none⟩ = some (.slice none 0 0) := (a0_ HXg4.out 0).trans rfl
  have c5 : w8.cell? ⟨g5, 0, none⟩ = some (.int .i64 0) := (a0_ HXg5.out 0).trans rfl
  have n45 := Ng4_g5.out
  go_wp2
  have h4 : ((w8.setCell ⟨g4, 0, none⟩ (.slice none 0 0)).setCell ⟨g5, 0, none⟩ (.int .i64 r0)).heap[g4]? = some (.cells #[.slice none 0 0] 39 (0, 0)) := c7_ (d4_ HXg4.out 0 _ rfl) n45 _
  have h5 : ((w8.setCell ⟨g4, 0, none⟩ (.slice none 0 0)).setCell ⟨g5, 0, none⟩ (.int .i64 r0)).heap[g5]? = some (.cells #[.int .i64 r0] 32 (0, 0)) := d4_ (c7_ HXg5.out n45.symm _) 0 _ rfl
  exact marks_ret0 (results57 rfl rfl h4 h5) ⟨_, rfl, Kd.R_nil _ _ _ _ _, b6_ (b6_ HB.out Gg4) Gg5⟩
theorem leftB_ok {left : List S24} {q g c mn mx : Int} (h : (leftB left q g c mn mx).2.2 = 0) : c9_ g c mn mx = true ∧ (0 ≤ q ∧ q < left.length) ∧ leftB left q g c mn mx = ((a7_ left q).f0, (a7_ left q).f1, 0) := by
 unfold leftB at h ⊢
 by_cases hg : c9_ g c mn mx = true
 ·rw [if_pos hg] at h ⊢
  by_cases hq : 0 ≤ q ∧ q < (left.length : Int)
  ·rw [if_pos hq]; exact ⟨hg, hq, rfl⟩
  ·rw [if_neg hq] at h; cases h
 ·rw [if_neg hg] at h; cases h
theorem elastic_Most.calls (a0_0 a0_1 a0_2 a0_3 : Int) (A0_4 : Option Addr) (c0_4 : Nat) (l0_4 : List (S51)) (A0_5 : Option Addr) (c0_5 : Nat) (l0_5 : List (S24)) (A0_6 : Option Addr) (c0_6 : Nat) (l0_6 : List (S41)) (A0_7 : Option Addr) (c0_7 : Nat) (l0_7 : List (S105)) (A0_8 : Option Addr) (c0_8 : Nat) (l0_8 : List (S149)) (a1_0 a1_1 a1_2 a1_3 a1_4 a1_5 a1_6 a1_7 : Int) (r1 : List (S52)) (r2 : Int) (w : World) (hr0_4 : Kd.C k51 w A0_4 l0_4.length l0_4) (hc0_4 : l0_4.length ≤ c0_4) (hr0_5 : Kd.C k24 w A0_5 l0_5.length l0_5) (hc0_5 : l0_5.length ≤ c0_5) (hr0_6 : Kd.C k41 w A0_6 l0_6.length l0_6) (hc0_6 : l0_6.length ≤ c0_6) (hr0_7 : Kd.C k105 w A0_7 l0_7.length l0_7) (hc0_7 : l0_7.length ≤ c0_7) (hr0_8 : Kd.C k149 w A0_8 l0_8.length l0_8) (hc0_8 : l0_8.length ≤ c0_8) (h : elastic_Most.f a0_0 a0_1 a0_2 a0_3 l0_4 l0_5 l0_6 l0_7 l0_8 a1_0 a1_1 a1_2 a1_3 a1_4 a1_5 a1_6 a1_7 = some (r1, r2)) :
  Calls Try.prog 57 #[.agg #[.int .i64 a0_0, .int .i64 a0_1, .int .i64 a0_2, .int .i64 a0_3, .slice A0_4 l0_4.length c0_4, .slice A0_5 l0_5.length c0_5, .slice A0_6 l0_6.length c0_6, .slice A0_7 l0_7.length c0_7, .slice A0_8 l0_8.length c0_8], .agg #[.int .i64 a1_0, .int .i64 a1_1, .int .i64 a1_2, .int .i64 a1_3, .int .i64 a1_4, .int .i64 a1_5, .int .i64 a1_6, .int .i64 a1_7]] w fun e w' => ∃ v0_ : Value, e = .returned (.tuple #[v0_, .int .i64 r2]) ∧ Kd.R k52 52 w' w.heap.size (fun _ => True) v0_ r1 ∧ Below w.heap.size w w' := by
 unfold elastic_Most.f at h
 by_cases hok : placeOk l0_4 = true
 case neg => rw [if_neg hok] at h; cases h
 rw [if_pos hok] at h
 injection h with h
 have hok' := hok
 unfold placeOk at hok'
 simp only [Bool.and_eq_true, List.all_eq_true, decide_eq_true_eq] at hok'
 have hL := left_eq0 a0_0 a0_1 a0_2 a0_3 l0_4 l0_5 l0_6 l0_7 l0_8 a1_0 a1_1 a1_2 a1_3 a1_4 a1_5 a1_6 a1_7
 unfold mostB at h
 by_cases he : (leftB l0_5 a1_1 a1_4 a1_5 a1_6 a1_7).2.2 = 0
 ·rw [if_neg (by simpa using he)] at h
  obtain ⟨hg, hq, e3⟩ := leftB_ok he
  rw [e3] at h hL
  have hb := good_out1 hg
  have hcan : ∀ n, a1_6 ≤ n → n ≤ a1_7 → elastic_can.f (l0_4.length + 1) a0_0 a0_1 a0_2 a0_3 l0_4 l0_5 l0_6 l0_7 l0_8 a1_4 a1_5 a1_6 a1_7 n (a7_ l0_5 a1_1).f0 (a7_ l0_5 a1_1).f1 = some (canB l0_4 a1_4 a1_5 a1_6 a1_7 n (a7_ l0_5 a1_1).f0 (a7_ l0_5 a1_1).f1) :=
   fun n h1 h2 => can_eq _ _ _ _ _ _ _ _ _ _ _ _ _ _ _ _ _ (Nat.le_refl _) hok'.2 hok'.1 hg (by omega) (by omega)
  have := most_can (l0_4.length + 1) a0_0 a0_1 a0_2 a0_3 A0_4 c0_4 l0_4 A0_5 c0_5 l0_5 A0_6 c0_6 l0_6 A0_7 c0_7 l0_7 A0_8 c0_8 l0_8 a1_0 a1_1 a1_2 a1_3 a1_4 a1_5 a1_6 a1_7 _ _ _ (fun n => canB l0_4 a1_4 a1_5 a1_6 a1_7 n (a7_ l0_5 a1_1).f0 (a7_ l0_5 a1_1).f1) (fun n => placeB l0_4 a1_4 a1_5 a1_6 a1_7 n) w hr0_4 hc0_4 hr0_5 hc0_5 hr0_6 hc0_6 hr0_7 hc0_7 hr0_8 hc0_8 hL ⟨hb.2.1, hb.2.2⟩ hb.1
   (hcan a1_6 (Int.le_refl _) hb.2.1) hcan (fun n _ _ => by unfold pack_Place.f; rw [if_pos hok]) (r1, r2) h.symm
  exact this
 ·rw [if_pos (by simpa using he)] at h
  injection h with h1 h2
  subst h1 h2
  exact most_left a0_0 a0_1 a0_2 a0_3 A0_4 c0_4 l0_4 A0_5 c0_5 l0_5 A0_6 c0_6 l0_6 A0_7 c0_7 l0_7 A0_8 c0_8 l0_8 a1_0 a1_1 a1_2 a1_3 a1_4 a1_5 a1_6 a1_7 (leftB l0_5 a1_1 a1_4 a1_5 a1_6 a1_7).1 (leftB l0_5 a1_1 a1_4 a1_5 a1_6 a1_7).2.1 _ w hr0_4 hc0_4 hr0_5 hc0_5 hr0_6 hc0_6 hr0_7 hc0_7 hr0_8 hc0_8 hL he
end Go.Proofs.Ytckhjehibjdjdaa.P
namespace Go.Proofs.Ytckhjehibjdjdaa.P
open Go.RowKit Go.Shelf Go.Proofs.YtckhjehibjdjdaaW.PrintWords Go.Proofs.YtckhjehibjdjdaaW.PrintLast Go.Proofs.YtckhjehibjdjdaaW.PrintMore
attribute [local go_sem] Oper.semAt_some
theorem srt_le {V : List HV} (hV : Srt hkey V) {i j : Nat} {x y : HV} (hij : i ≤ j) (hx : V[i]? = some x) (hy : V[j]? = some y) : hkey x ≤ hkey y := by
 obtain ⟨hi, rfl⟩ := List.getElem?_eq_some_iff.1 hx
 obtain ⟨hj, rfl⟩ := List.getElem?_eq_some_iff.1 hy
 by_cases e : i = j
 ·subst e; exact Int.le_refl _
 ·exact List.pairwise_iff_getElem.1 hV i j hi hj (by omega)
theorem split12 {U V : List HV} (hU : Srt hkey U) (hV : Srt hkey V) {p q : Nat} (hp : p ≤ U.length) (h : p = 0 ∨ V.length ≤ q ∨ ∀ x y, U[p - 1]? = some x → V[q]? = some y → hkey x ≤ hkey y) : ∀ x ∈ U.take p, ∀ y ∈ V.drop q, hkey x ≤ hkey y := fun x hx y hy => by
 obtain ⟨i, hi, rfl⟩ := List.mem_iff_getElem.1 hx
 obtain ⟨j, hj, rfl⟩ := List.mem_iff_getElem.1 hy
 rw [List.length_take] at hi
 rw [List.length_drop] at hj
 rw [List.getElem_take, List.getElem_drop]
 rcases h with h | h | h
 ·omega
 ·omega
 ·have h1 := srt_le hU (i := i) (j := p - 1) (by omega) (List.getElem?_eq_getElem (by omega)) (List.getElem?_eq_getElem (by omega))
  have h2 := srt_le hV (i := q) (j := q + j) (by omega) (List.getElem?_eq_getElem (by omega)) (List.getElem?_eq_getElem (by omega))
  have h3 := h _ _ (List.getElem?_eq_getElem (show p - 1 < U.length by omega)) (List.getElem?_eq_getElem (show q < V.length by omega))
  omega
theorem split21 {U V : List HV} (hU : Srt hkey U) (hV : Srt hkey V) {p q : Nat} (hq : q ≤ V.length) (h : U.length ≤ p ∨ q = 0 ∨ ∀ x y, U[p]? = some x → V[q - 1]? = some y → hkey y < hkey x) : ∀ x ∈ U.drop p, ∀ y ∈ V.take q, hkey y < hkey x := fun x hx y hy => by
 obtain ⟨i, hi, rfl⟩ := List.mem_iff_getElem.1 hx
 obtain ⟨j, hj, rfl⟩ := List.mem_iff_getElem.1 hy
 rw [List.length_drop] at hi
 rw [List.length_take] at hj
 rw [List.getElem_take, List.getElem_drop]
 rcases h with h | h | h
 ·omega
 ·omega
 ·have h1 := srt_le hU (i := p) (j := p + i) (by omega) (List.getElem?_eq_getElem (by omega)) (List.getElem?_eq_getElem (by omega))
  have h2 := srt_le hV (i := j) (j := q - 1) (by omega) (List.getElem?_eq_getElem (by omega)) (List.getElem?_eq_getElem (by omega))
  have h3 := h _ _ (List.getElem?_eq_getElem (show p < U.length by omega)) (List.getElem?_eq_getElem (show q - 1 < V.length by omega))
  omega
def SymC (sz : Nat) : Prop := ∀ (g n cap base a m b : Nat) (ok : Nat → Prop) (X U V Z : List HV) (w : World), U.length + V.length = sz → Kd.R kh 41 w base ok (.slice (some ⟨g, 0, none⟩) n cap) (X ++ (U ++ (V ++ Z))) → a = X.length → m = X.length + U.length → b = X.length + U.length + V.length → 0 < U.length → 0 < V.length → Srt hkey U → Srt hkey V → n ≤ 1000000000000 → (∀ k, ok k → k < w.heap.size) →
  Calls Try.prog 121 #[.slice (some ⟨g, 0, none⟩) n cap, .int .i64 a, .int .i64 m, .int .i64 b, .func (.func 72) #[] #[]] w fun e w' => e = .returned (.tuple #[]) ∧ Kd.R kh 41 w' base ok (.slice (some ⟨g, 0, none⟩) n cap) (X ++ (mrg hkey U V ++ Z)) ∧ w.grownBy w' (some g)
set_option maxHeartbeats 16000000 in
set_option maxRecDepth 100000 in
theorem symMerge_gen (sz : Nat) (IH : ∀ s, s < sz → SymC s) (g n cap base a m b : Nat) (ok : Nat → Prop) (X U V Z : List HV) (w : World) (hsz : U.length + V.length = sz) (hr : Kd.R kh 41 w base ok (.slice (some ⟨g, 0, none⟩) n cap) (X ++ (U ++ (V ++ Z)))) (ha : a = X.length) (hm : m = X.length + U.length) (hb : b = X.length + U.length + V.length) (hU2 : 1 < U.length) (hV2 : 1 < V.length) (hU : Srt hkey U) (hV : Srt hkey V) (hn : n ≤ 1000000000000) (hok : ∀ k, ok k → k < w.heap.size) :
  Calls Try.prog 121 #[.slice (some ⟨g, 0, none⟩) n cap, .int .i64 a, .int .i64 m, .int .i64 b, .func (.func 72) #[] #[]] w fun e w' => e = .returned (.tuple #[]) ∧ Kd.R kh 41 w' base ok (.slice (some ⟨g, 0, none⟩) n cap) (X ++ (mrg hkey U V ++ Z)) ∧ w.grownBy w' (some g) := by
 have hu41 := Try.underlying41
 have HR := m_ hr
 have HOK := m_ hok
 have HS := m_ (And.intro hU hV)
 have HIH := m_ IH
 have hxl := (Kd.R_reads' hr).1
 simp only [List.length_append] at hxl
 obtain ⟨mid, hmid⟩ : ∃ mid, mid = (a + b) / 2 := ⟨_, rfl⟩
 have bm : a + 1 < m ∧ m + 1 < b ∧ b ≤ n ∧ a < mid ∧ mid < b ∧ 2 * mid ≤ a + b ∧ a + b ≤ 2 * mid + 1 := by omega
 obtain ⟨b1, b2, b3, b4, b5, b6, b7⟩ := bm
 obtain ⟨lo, hi, hlh⟩ : ∃ lo hi : Nat, (mid < m ∧ lo + b = mid + m ∧ hi = mid) ∨ (¬ mid < m ∧ lo = a ∧ hi = m) := by
  by_cases h : mid < m
  ·exact ⟨mid + m - b, mid, .inl ⟨h, by omega, rfl⟩⟩
  ·exact ⟨a, m, .inr ⟨h, rfl, rfl⟩⟩
 have bl : a ≤ lo ∧ lo ≤ hi ∧ hi ≤ m ∧ hi ≤ mid ∧ mid + m ≤ lo + b := by omega
 obtain ⟨l1, l2, l3, l4, l5⟩ := bl
 have HLH := m_ hlh
 have hma : ((m : Int) - (a : Int) == 1) = false := by simp; omega
 have hbm : ((b : Int) - (m : Int) == 1) = false := by simp; omega
 have hmd : ((a : Int) + (b : Int)) / 2 = (mid : Int) := by omega
 have HLN := m_ (show X.length = a ∧ U.length = m - a ∧ V.length = b - m ∧ U.length + V.length = sz from by omega)
 clear hr hok hU hV hxl hm ha hb hU2 hV2 IH hsz hmid
 rcases hlh with ⟨q1, q2, q3⟩ | ⟨q1, q2, q3⟩
 ·have t1 : decide ((mid : Int) < (m : Int)) = true := by simp; omega
  have t2 : (mid : Int) + (m : Int) - (b : Int) = (lo : Int) := by omega
  have t3 : (mid : Int) < (m : Int) := by omega
  subst q3
  clear q2 t1
  go_enter Try.func121, Try.ntmps121
  go_wp2
  go_loopw [20, 21] (fun v20 v21 wr => ∃ (s r : Nat), v20 = .int .i64 (s : Int) ∧ v21 = .int .i64 (r : Int) ∧ lo ≤ s ∧ s ≤ r ∧ r ≤ hi ∧ A_ (∀ c x y, lo ≤ c → c < s → U[c - a]? = some x → V[hi + m - 1 - c - m]? = some y → hkey x ≤ hkey y) ∧ A_ (∀ c x y, r ≤ c → c < hi → U[c - a]? = some x → V[hi + m - 1 - c - m]? = some y → hkey y < hkey x) ∧
   A_ (Kd.R kh 41 wr base ok (.slice (some ⟨g, 0, none⟩) n cap) (X ++ (U ++ (V ++ Z)))) ∧ A_ (w.grownBy wr (some g))) (fun v20 v21 _ => (intOf v21).toNat - (intOf v20).toNat)
  case atStart => exact ⟨lo, hi, rfl, rfl, Nat.le_refl _, l2, Nat.le_refl _, ⟨fun c x y h1 h2 => by omega⟩, ⟨fun c x y h1 h2 => by omega⟩, HR, ⟨d6_ _ _⟩⟩
  case round =>
   clear HR
   obtain ⟨s, r, rfl, rfl, hls, hsr, hrh, HT, HD, HA, HG⟩ := hrel
   by_cases hlt : s < r
   ·have hlt' : (s : Int) < r := by omega
    obtain ⟨c, hc⟩ : ∃ c, c = (s + r) / 2 := ⟨_, rfl⟩
    have hc1 : s ≤ c ∧ c < r := by omega
    obtain ⟨hc2, hc3⟩ := hc1
    obtain ⟨d, hd⟩ : ∃ d, d = hi + m - 1 - c := ⟨_, rfl⟩
    have hd1 : m ≤ d ∧ d < b := by omega
    have hxu : U[c - a]? = some _ := List.getElem?_eq_getElem (show c - a < U.length by have := HLN.out; omega)
    have hyv : V[d - m]? = some _ := List.getElem?_eq_getElem (show d - m < V.length by have := HLN.out; omega)
    generalize U[c - a]'_ = x at *
    generalize V[d - m]'_ = y at *
    have hrx : (X ++ (U ++ (V ++ Z)))[c]? = some x := by rw [List.getElem?_append_right Z5, List.getElem?_append_left Z5, show c - X.length = c - a by have := HLN.out; omega]; exact hxu
    have hry : (X ++ (U ++ (V ++ Z)))[d]? = some y := by rw [List.getElem?_append_right Z5, List.getElem?_append_right Z5, List.getElem?_append_left Z5, show d - X.length - U.length = d - m by have := HLN.out; omega]; exact hyv
    obtain ⟨x0, x1, x2, x3, x4⟩ := at_kh HA.out c x hrx
    obtain ⟨y0, y1, y2, y3, y4⟩ := at_kh HA.out d y hry
    have HXU := m_ hxu
    have HYV := m_ hyv
    have HDD := m_ hd
    have hcc : ((s : Int) + (r : Int)) / 2 = (c : Int) := by omega
    have hdd : (hi : Int) + (m : Int) - 1 - (c : Int) = (d : Int) := by omega
    have hdw : IntKind.i64.wrap ((hi : Int) + (m : Int) - 1 - (c : Int)) = (d : Int) := by rw [IntKind.wrap_i64]; omega
    have hdw2 : IntKind.i64.wrap (d : Int) = (d : Int) := by rw [IntKind.wrap_i64]; omega
    have j0 : (c : Int) < n := by omega
    have j1 : (d : Int) < n := by omega
    have c0 : (0 : Int) ≤ (s : Int) + (r : Int) := by omega
    have c1 : (s : Int) + (r : Int) ≤ 2000000000000 := by omega
    clear hxu hyv hrx hry hd hc
    go_wp2
    go_still_tail 11, (by kernel_rfl)
    change wpList _ _ _ _ _ wr.drew
    have hAd := Kd.R_drew HA.out
    have hGd := grown_drew HG.out
    clear x0 x1 x2 x3 x4 y0 y1 y2 y3 y4
    generalize wr.drew = w3 at *
    have HA3 := m_ hAd
    have HG3 := m_ hGd
    clear hAd hGd HA HG
    have hcl := cmpI_lt y.1.f2 x.1.f2
    by_cases hlt2 : hkey y < hkey x
    ·rw [decide_eq_true (show y.1.f2 < x.1.f2 from hlt2)] at hcl
     have HLT := m_ hlt2
     clear hlt2
     go_wp2_with (go_at_call 72; refine (cmpH_any y x _).mono ?_; rintro e w4 ⟨rfl, hb4⟩; have HA4 := m_ (Kd.R_below HA3.out hb4); have HG4 := m_ (e5_ HG3.out hb4); clear hb4)
     go_roundw
     case rel => exact ⟨s, c, rfl, by first | rfl | exact int_i64 (by omega), hls, hc2, by omega, HT, ⟨fun c' x' y' h1 h2 h3 h4 => by
      by_cases e : r ≤ c'
      ·exact HD.out c' x' y' e h2 h3 h4
      ·have k1 := srt_le HS.out.1 (i := c - a) (j := c' - a) (by omega) HXU.out h3
       have k2 := srt_le HS.out.2 (i := hi + m - 1 - c' - m) (j := d - m) (by have := HDD.out; omega) h4 HYV.out
       have := HLT.out
       omega⟩, HA4, HG4⟩
     case measure => simp [intOf]; omega
    ·rw [decide_eq_false (show ¬ y.1.f2 < x.1.f2 from hlt2)] at hcl
     have HLT := m_ (show hkey x ≤ hkey y by omega)
     clear hlt2
     go_wp2_with (go_at_call 72; refine (cmpH_any y x _).mono ?_; rintro e w4 ⟨rfl, hb4⟩; have HA4 := m_ (Kd.R_below HA3.out hb4); have HG4 := m_ (e5_ HG3.out hb4); clear hb4)
     go_roundw
     case rel => exact ⟨c + 1, r, by first | exact int_i64 (by omega) | go_num, rfl, by omega, by omega, hrh, ⟨fun c' x' y' h1 h2 h3 h4 => by
      by_cases e : c' < s
      ·exact HT.out c' x' y' h1 e h3 h4
      ·have k1 := srt_le HS.out.1 (i := c' - a) (j := c - a) (by omega) h3 HXU.out
       have k2 := srt_le HS.out.2 (i := d - m) (j := hi + m - 1 - c' - m) (by have := HDD.out; omega) HYV.out h4
       have := HLT.out
       omega⟩, HD, HA4, HG4⟩
     case measure => simp [intOf]; omega
   ·obtain rfl : s = r := by omega
    obtain ⟨e, he⟩ : ∃ e, e = hi + m - s := ⟨_, rfl⟩
    have he1 : m ≤ e ∧ e ≤ b ∧ e + s = hi + m := by omega
    obtain ⟨e1, e2, e3⟩ := he1
    have h12 := split12 HS.out.1 HS.out.2 (p := s - a) (q := e - m) Z5 (by
     by_cases h1 : s = a
     ·exact .inl (by omega)
     ·by_cases h2 : e = b
      ·exact .inr (.inl Z5)
      ·exact .inr (.inr fun x y hx hy => HT.out (s - 1) x y (by have := HLH.out; omega) (by omega) (by rw [show s - 1 - a = s - a - 1 by omega]; exact hx) (by rw [show hi + m - 1 - (s - 1) - m = e - m by omega]; exact hy)))
    have h21 := split21 HS.out.1 HS.out.2 (p := s - a) (q := e - m) Z5 (by
     by_cases h1 : s = m
     ·exact .inl Z5
     ·by_cases h2 : e = m
      ·exact .inr (.inl (by omega))
      ·exact .inr (.inr fun x y hx hy => HD.out s x y (by omega) (by have := HLH.out; omega) hx (by rw [show hi + m - 1 - s - m = e - m - 1 by omega]; exact hy)))
    have hU1 : U.take (s - a) ++ U.drop (s - a) = U := List.take_append_drop _ U
    have hV1 : V.take (e - m) ++ V.drop (e - m) = V := List.take_append_drop _ V
    have hml := mrg_split hkey _ _ _ _ h12 h21
    rw [hU1, hV1] at hml
    have hS1 : Srt hkey (U.take (s - a)) ∧ Srt hkey (U.drop (s - a)) ∧ Srt hkey (V.take (e - m)) ∧ Srt hkey (V.drop (e - m)) := ⟨HS.out.1.sublist (List.take_sublist _ _), HS.out.1.sublist (List.drop_sublist _ _), HS.out.2.sublist (List.take_sublist _ _), HS.out.2.sublist (List.drop_sublist _ _)⟩
    have hl1 : (U.take (s - a)).length = s - a ∧ (U.drop (s - a)).length = m - s ∧ (V.take (e - m)).length = e - m ∧ (V.drop (e - m)).length = b - e := by
     rw [List.length_take, List.length_drop, List.length_take, List.length_drop]; have := HLN.out; omega
    have hA0 := HA.out
    rw [← hU1, ← hV1] at hA0
    have HML := m_ hml
    generalize U.take (s - a) = U1 at *
    generalize U.drop (s - a) = U2 at *
    generalize V.take (e - m) = V1 at *
    generalize V.drop (e - m) = V2 at *
    have HS1 := m_ hS1
    have HL1 := m_ hl1
    have HA0 := m_ (show Kd.R kh 41 wr base ok (.slice (some ⟨g, 0, none⟩) n cap) (X ++ (U1 ++ (U2 ++ (V1 ++ (V2 ++ Z))))) from by simpa using hA0)
    have hok1 : ∀ k, ok k → k < wr.heap.size := fun k hk => Nat.lt_of_lt_of_le (HOK.out k hk) HG.out.size
    have HOK1 := m_ hok1
    have hen : (hi : Int) + (m : Int) - (s : Int) = (e : Int) := by omega
    have hbnd : a ≤ s ∧ s ≤ m ∧ s ≤ hi := by omega
    obtain ⟨n1, n2, n3⟩ := hbnd
    clear h12 h21 hU1 hV1 hml hS1 hl1 hA0 HA HT HD hok1 he
    have hcs : (a < s ∧ m < e ∧ s < m ∧ e < b) ∨ (a < s ∧ m < e ∧ s < m ∧ b ≤ e) ∨ (a < s ∧ m < e ∧ m ≤ s ∧ e < b) ∨ (a < s ∧ e ≤ m ∧ s < m ∧ e < b) ∨ (a < s ∧ e ≤ m ∧ m ≤ s ∧ e < b) ∨ (s ≤ a ∧ m < e ∧ s < m ∧ e < b) ∨ (s ≤ a ∧ m < e ∧ s < m ∧ b ≤ e) := by omega
    rcases hcs with ⟨k1, k2, k3, k4⟩ | ⟨k1, k2, k3, k4⟩ | ⟨k1, k2, k3, k4⟩ | ⟨k1, k2, k3, k4⟩ | ⟨k1, k2, k3, k4⟩ | ⟨k1, k2, k3, k4⟩ | ⟨k1, k2, k3, k4⟩
    ·have z1 : (s : Int) < (m : Int) := by omega
     have z2 : (m : Int) < (e : Int) := by omega
     have z3 : (a : Int) < (s : Int) := by omega
     have z4 : (s : Int) < (hi : Int) := by omega
     have z5 : (hi : Int) < (e : Int) := by omega
     have z6 : (e : Int) < (b : Int) := by omega
     have HRB := m_ (show Kd.R kh 41 wr base ok (.slice (some ⟨g, 0, none⟩) n cap) ((X ++ U1) ++ (U2 ++ (V1 ++ (V2 ++ Z)))) from by simpa using HA0.out)
     go_wp2_with (go_at_call 136; refine (rotate_any g n cap base s m e ok (X ++ U1) U2 V1 (V2 ++ Z) wr HRB.out Z2 Z2 Z2 Z3 Z3 hn HOK1.out).mono ?_; rintro e' w5 ⟨rfl, hr5, hg5⟩; have HR5 := m_ (show Kd.R kh 41 w5 base ok (.slice (some ⟨g, 0, none⟩) n cap) (X ++ (U1 ++ (V1 ++ (U2 ++ (V2 ++ Z))))) from by simpa using hr5); have HG5 := m_ (b4_ HG.out hg5); have HOK5 := m_ (fun k hk => Nat.lt_of_lt_of_le (HOK1.out k hk) hg5.size); clear hr5 hg5)
     refine (HIH.out (U1.length + V1.length) Z9 g n cap base a s hi ok X U1 V1 (U2 ++ (V2 ++ Z)) w5 rfl HR5.out Z5 Z8 Z8 Z3 Z3 HS1.out.1 HS1.out.2.2.1 hn HOK5.out).mono ?_
     rintro e' w6 ⟨rfl, hr6, hg6⟩
     have HR6 := m_ hr6
     have HG6 := m_ (b4_ HG5.out hg6)
     have HOK6 := m_ (fun k hk => Nat.lt_of_lt_of_le (HOK5.out k hk) hg6.size)
     clear hr6 hg6
     go_wp2_with fail
     have HML1 := m_ (show (X ++ mrg hkey U1 V1).length = hi from by rw [List.length_append, mrg_length]; have := HLN.out; have := HL1.out; omega)
     have HR7 := m_ (show Kd.R kh 41 w6 base ok (.slice (some ⟨g, 0, none⟩) n cap) ((X ++ mrg hkey U1 V1) ++ (U2 ++ (V2 ++ Z))) from by rw [List.append_assoc]; exact HR6.out)
     refine (HIH.out (U2.length + V2.length) Z9 g n cap base hi e b ok (X ++ mrg hkey U1 V1) U2 V2 Z w6 rfl HR7.out (by have := HML1.out; omega) Z7 Z7 Z3 Z3 HS1.out.2.1 HS1.out.2.2.2 hn HOK6.out).mono ?_
     rintro e' w7 ⟨rfl, hr7, hg7⟩
     have HR8 := m_ hr7
     have HG8 := m_ (b4_ HG6.out hg7)
     clear hr7 hg7
     go_wp2_with fail
     go_end0
     exact ⟨rfl, by rw [HML.out]; have := HR8.out; simpa using this, HG8.out⟩
    ·have z1 : (s : Int) < (m : Int) := by omega
     have z2 : (m : Int) < (e : Int) := by omega
     have z3 : (a : Int) < (s : Int) := by omega
     have z4 : (s : Int) < (hi : Int) := by omega
     have z5 : (hi : Int) < (e : Int) := by omega
     have z6 : decide ((e : Int) < (b : Int)) = false := by simp; omega
     have HRB := m_ (show Kd.R kh 41 wr base ok (.slice (some ⟨g, 0, none⟩) n cap) ((X ++ U1) ++ (U2 ++ (V1 ++ (V2 ++ Z)))) from by simpa using HA0.out)
     go_wp2_with (go_at_call 136; refine (rotate_any g n cap base s m e ok (X ++ U1) U2 V1 (V2 ++ Z) wr HRB.out Z2 Z2 Z2 Z3 Z3 hn HOK1.out).mono ?_; rintro e' w5 ⟨rfl, hr5, hg5⟩; have HR5 := m_ (show Kd.R kh 41 w5 base ok (.slice (some ⟨g, 0, none⟩) n cap) (X ++ (U1 ++ (V1 ++ (U2 ++ (V2 ++ Z))))) from by simpa using hr5); have HG5 := m_ (b4_ HG.out hg5); have HOK5 := m_ (fun k hk => Nat.lt_of_lt_of_le (HOK1.out k hk) hg5.size); clear hr5 hg5)
     refine (HIH.out (U1.length + V1.length) Z9 g n cap base a s hi ok X U1 V1 (U2 ++ (V2 ++ Z)) w5 rfl HR5.out Z5 Z8 Z8 Z3 Z3 HS1.out.1 HS1.out.2.2.1 hn HOK5.out).mono ?_
     rintro e' w6 ⟨rfl, hr6, hg6⟩
     have HR6 := m_ hr6
     have HG6 := m_ (b4_ HG5.out hg6)
     have HOK6 := m_ (fun k hk => Nat.lt_of_lt_of_le (HOK5.out k hk) hg6.size)
     clear hr6 hg6
     go_wp2_with fail
     have HML1 := m_ (show (X ++ mrg hkey U1 V1).length = hi from by rw [List.length_append, mrg_length]; have := HLN.out; have := HL1.out; omega)
     have HR7 := m_ (show Kd.R kh 41 w6 base ok (.slice (some ⟨g, 0, none⟩) n cap) ((X ++ mrg hkey U1 V1) ++ (U2 ++ (V2 ++ Z))) from by rw [List.append_assoc]; exact HR6.out)
     have hem : V2 = [] := List.eq_nil_of_length_eq_zero Z3
     have HR8 := m_ (show Kd.R kh 41 w6 base ok (.slice (some ⟨g, 0, none⟩) n cap) ((X ++ mrg hkey U1 V1) ++ (mrg hkey U2 V2 ++ Z)) from by have := HR7.out; rw [hem] at this ⊢; rw [mrg_nil_right]; simpa using this)
     have HG8 := HG6
     clear hem
     go_end0
     exact ⟨rfl, by rw [HML.out]; have := HR8.out; simpa using this, HG8.out⟩
    ·exfalso; omega
    ·have z1 : (s : Int) < (m : Int) := by omega
     have z2 : decide ((m : Int) < (e : Int)) = false := by simp; omega
     have z3 : (a : Int) < (s : Int) := by omega
     have z4 : decide ((s : Int) < (hi : Int)) = false := by simp; omega
     have z5 : (hi : Int) < (e : Int) := by omega
     have z6 : (e : Int) < (b : Int) := by omega
     have hem : V1 = [] := List.eq_nil_of_length_eq_zero Z3
     have HR5 := m_ (show Kd.R kh 41 wr base ok (.slice (some ⟨g, 0, none⟩) n cap) (X ++ (U1 ++ (V1 ++ (U2 ++ (V2 ++ Z))))) from by have := HA0.out; rw [hem] at this ⊢; simpa using this)
     have HG5 := HG
     have HOK5 := HOK1
     clear hem
     go_wp2_with fail
     have hem : V1 = [] := List.eq_nil_of_length_eq_zero Z3
     have HR6 := m_ (show Kd.R kh 41 wr base ok (.slice (some ⟨g, 0, none⟩) n cap) (X ++ (mrg hkey U1 V1 ++ (U2 ++ (V2 ++ Z)))) from by have := HR5.out; rw [hem] at this ⊢; rw [mrg_nil_right]; simpa using this)
     have HG6 := HG5
     have HOK6 := HOK5
     clear hem
     have HML1 := m_ (show (X ++ mrg hkey U1 V1).length = hi from by rw [List.length_append, mrg_length]; have := HLN.out; have := HL1.out; omega)
     have HR7 := m_ (show Kd.R kh 41 wr base ok (.slice (some ⟨g, 0, none⟩) n cap) ((X ++ mrg hkey U1 V1) ++ (U2 ++ (V2 ++ Z))) from by rw [List.append_assoc]; exact HR6.out)
     refine (HIH.out (U2.length + V2.length) Z9 g n cap base hi e b ok (X ++ mrg hkey U1 V1) U2 V2 Z wr rfl HR7.out (by have := HML1.out; omega) Z7 Z7 Z3 Z3 HS1.out.2.1 HS1.out.2.2.2 hn HOK6.out).mono ?_
     rintro e' w7 ⟨rfl, hr7, hg7⟩
     have HR8 := m_ hr7
     have HG8 := m_ (b4_ HG6.out hg7)
     clear hr7 hg7
     go_wp2_with fail
     go_end0
     exact ⟨rfl, by rw [HML.out]; have := HR8.out; simpa using this, HG8.out⟩
    ·exfalso; omega
    ·exfalso; omega
    ·have z1 : (s : Int) < (m : Int) := by omega
     have z2 : (m : Int) < (e : Int) := by omega
     have z3 : decide ((a : Int) < (s : Int)) = false := by simp; omega
     have z4 : (s : Int) < (hi : Int) := by omega
     have z5 : (hi : Int) < (e : Int) := by omega
     have z6 : decide ((e : Int) < (b : Int)) = false := by simp; omega
     have HRB := m_ (show Kd.R kh 41 wr base ok (.slice (some ⟨g, 0, none⟩) n cap) ((X ++ U1) ++ (U2 ++ (V1 ++ (V2 ++ Z)))) from by simpa using HA0.out)
     go_wp2_with (go_at_call 136; refine (rotate_any g n cap base s m e ok (X ++ U1) U2 V1 (V2 ++ Z) wr HRB.out Z2 Z2 Z2 Z3 Z3 hn HOK1.out).mono ?_; rintro e' w5 ⟨rfl, hr5, hg5⟩; have HR5 := m_ (show Kd.R kh 41 w5 base ok (.slice (some ⟨g, 0, none⟩) n cap) (X ++ (U1 ++ (V1 ++ (U2 ++ (V2 ++ Z))))) from by simpa using hr5); have HG5 := m_ (b4_ HG.out hg5); have HOK5 := m_ (fun k hk => Nat.lt_of_lt_of_le (HOK1.out k hk) hg5.size); clear hr5 hg5)
     have hem : U1 = [] := List.eq_nil_of_length_eq_zero Z3
     have HR6 := m_ (show Kd.R kh 41 w5 base ok (.slice (some ⟨g, 0, none⟩) n cap) (X ++ (mrg hkey U1 V1 ++ (U2 ++ (V2 ++ Z)))) from by have := HR5.out; rw [hem] at this ⊢; rw [mrg_nil_left]; simpa using this)
     have HG6 := HG5
     have HOK6 := HOK5
     clear hem
     have HML1 := m_ (show (X ++ mrg hkey U1 V1).length = hi from by rw [List.length_append, mrg_length]; have := HLN.out; have := HL1.out; omega)
     have HR7 := m_ (show Kd.R kh 41 w5 base ok (.slice (some ⟨g, 0, none⟩) n cap) ((X ++ mrg hkey U1 V1) ++ (U2 ++ (V2 ++ Z))) from by rw [List.append_assoc]; exact HR6.out)
     have hem : V2 = [] := List.eq_nil_of_length_eq_zero Z3
     have HR8 := m_ (show Kd.R kh 41 w5 base ok (.slice (some ⟨g, 0, none⟩) n cap) ((X ++ mrg hkey U1 V1) ++ (mrg hkey U2 V2 ++ Z)) from by have := HR7.out; rw [hem] at this ⊢; rw [mrg_nil_right]; simpa using this)
     have HG8 := HG6
     clear hem
     go_end0
     exact ⟨rfl, by rw [HML.out]; have := HR8.out; simpa using this, HG8.out⟩
 ·have t1 : decide ((mid : Int) < (m : Int)) = false := by simp; omega
  subst q2 q3
  go_enter Try.func121, Try.ntmps121
  go_wp2
  go_loopw [20, 21] (fun v20 v21 wr => ∃ (s r : Nat), v20 = .int .i64 (s : Int) ∧ v21 = .int .i64 (r : Int) ∧ lo ≤ s ∧ s ≤ r ∧ r ≤ hi ∧ A_ (∀ c x y, lo ≤ c → c < s → U[c - lo]? = some x → V[mid + hi - 1 - c - hi]? = some y → hkey x ≤ hkey y) ∧ A_ (∀ c x y, r ≤ c → c < hi → U[c - lo]? = some x → V[mid + hi - 1 - c - hi]? = some y → hkey y < hkey x) ∧
   A_ (Kd.R kh 41 wr base ok (.slice (some ⟨g, 0, none⟩) n cap) (X ++ (U ++ (V ++ Z)))) ∧ A_ (w.grownBy wr (some g))) (fun v20 v21 _ => (intOf v21).toNat - (intOf v20).toNat)
  case atStart => exact ⟨lo, hi, rfl, rfl, Nat.le_refl _, l2, Nat.le_refl _, ⟨fun c x y h1 h2 => by omega⟩, ⟨fun c x y h1 h2 => by omega⟩, HR, ⟨d6_ _ _⟩⟩
  case round =>
   clear HR
   obtain ⟨s, r, rfl, rfl, hls, hsr, hrh, HT, HD, HA, HG⟩ := hrel
   by_cases hlt : s < r
   ·have hlt' : (s : Int) < r := by omega
    obtain ⟨c, hc⟩ : ∃ c, c = (s + r) / 2 := ⟨_, rfl⟩
    have hc1 : s ≤ c ∧ c < r := by omega
    obtain ⟨hc2, hc3⟩ := hc1
    obtain ⟨d, hd⟩ : ∃ d, d = mid + hi - 1 - c := ⟨_, rfl⟩
    have hd1 : hi ≤ d ∧ d < b := by omega
    have hxu : U[c - lo]? = some _ := List.getElem?_eq_getElem (show c - lo < U.length by have := HLN.out; omega)
    have hyv : V[d - hi]? = some _ := List.getElem?_eq_getElem (show d - hi < V.length by have := HLN.out; omega)
    generalize U[c - lo]'_ = x at *
    generalize V[d - hi]'_ = y at *
    have hrx : (X ++ (U ++ (V ++ Z)))[c]? = some x := by rw [List.getElem?_append_right Z5, List.getElem?_append_left Z5, show c - X.length = c - lo by have := HLN.out; omega]; exact hxu
    have hry : (X ++ (U ++ (V ++ Z)))[d]? = some y := by rw [List.getElem?_append_right Z5, List.getElem?_append_right Z5, List.getElem?_append_left Z5, show d - X.length - U.length = d - hi by have := HLN.out; omega]; exact hyv
    obtain ⟨x0, x1, x2, x3, x4⟩ := at_kh HA.out c x hrx
    obtain ⟨y0, y1, y2, y3, y4⟩ := at_kh HA.out d y hry
    have HXU := m_ hxu
    have HYV := m_ hyv
    have HDD := m_ hd
    have hcc : ((s : Int) + (r : Int)) / 2 = (c : Int) := by omega
    have hdd : (mid : Int) + (hi : Int) - 1 - (c : Int) = (d : Int) := by omega
    have hdw : IntKind.i64.wrap ((mid : Int) + (hi : Int) - 1 - (c : Int)) = (d : Int) := by rw [IntKind.wrap_i64]; omega
    have hdw2 : IntKind.i64.wrap (d : Int) = (d : Int) := by rw [IntKind.wrap_i64]; omega
    have j0 : (c : Int) < n := by omega
    have j1 : (d : Int) < n := by omega
    have c0 : (0 : Int) ≤ (s : Int) + (r : Int) := by omega
    have c1 : (s : Int) + (r : Int) ≤ 2000000000000 := by omega
    clear hxu hyv hrx hry hd hc
    go_wp2
    go_still_tail 11, (by kernel_rfl)
    change wpList _ _ _ _ _ wr.drew
    have hAd := Kd.R_drew HA.out
    have hGd := grown_drew HG.out
    clear x0 x1 x2 x3 x4 y0 y1 y2 y3 y4
    generalize wr.drew = w3 at *
    have HA3 := m_ hAd
    have HG3 := m_ hGd
    clear hAd hGd HA HG
    have hcl := cmpI_lt y.1.f2 x.1.f2
    by_cases hlt2 : hkey y < hkey x
    ·rw [decide_eq_true (show y.1.f2 < x.1.f2 from hlt2)] at hcl
     have HLT := m_ hlt2
     clear hlt2
     go_wp2_with (go_at_call 72; refine (cmpH_any y x _).mono ?_; rintro e w4 ⟨rfl, hb4⟩; have HA4 := m_ (Kd.R_below HA3.out hb4); have HG4 := m_ (e5_ HG3.out hb4); clear hb4)
     go_roundw
     case rel => exact ⟨s, c, rfl, by first | rfl | exact int_i64 (by omega), hls, hc2, by omega, HT, ⟨fun c' x' y' h1 h2 h3 h4 => by
      by_cases e : r ≤ c'
      ·exact HD.out c' x' y' e h2 h3 h4
      ·have k1 := srt_le HS.out.1 (i := c - lo) (j := c' - lo) (by omega) HXU.out h3
       have k2 := srt_le HS.out.2 (i := mid + hi - 1 - c' - hi) (j := d - hi) (by have := HDD.out; omega) h4 HYV.out
       have := HLT.out
       omega⟩, HA4, HG4⟩
     case measure => simp [intOf]; omega
    ·rw [decide_eq_false (show ¬ y.1.f2 < x.1.f2 from hlt2)] at hcl
     have HLT := m_ (show hkey x ≤ hkey y by omega)
     clear hlt2
     go_wp2_with (go_at_call 72; refine (cmpH_any y x _).mono ?_; rintro e w4 ⟨rfl, hb4⟩; have HA4 := m_ (Kd.R_below HA3.out hb4); have HG4 := m_ (e5_ HG3.out hb4); clear hb4)
     go_roundw
     case rel => exact ⟨c + 1, r, by first | exact int_i64 (by omega) | go_num, rfl, by omega, by omega, hrh, ⟨fun c' x' y' h1 h2 h3 h4 => by
      by_cases e : c' < s
      ·exact HT.out c' x' y' h1 e h3 h4
      ·have k1 := srt_le HS.out.1 (i := c' - lo) (j := c - lo) (by omega) h3 HXU.out
       have k2 := srt_le HS.out.2 (i := d - hi) (j := mid + hi - 1 - c' - hi) (by have := HDD.out; omega) HYV.out h4
       have := HLT.out
       omega⟩, HD, HA4, HG4⟩
     case measure => simp [intOf]; omega
   ·obtain rfl : s = r := by omega
    obtain ⟨e, he⟩ : ∃ e, e = mid + hi - s := ⟨_, rfl⟩
    have he1 : hi ≤ e ∧ e ≤ b ∧ e + s = mid + hi := by omega
    obtain ⟨e1, e2, e3⟩ := he1
    have h12 := split12 HS.out.1 HS.out.2 (p := s - lo) (q := e - hi) Z5 (by
     by_cases h1 : s = lo
     ·exact .inl (by omega)
     ·by_cases h2 : e = b
      ·exact .inr (.inl Z5)
      ·exact .inr (.inr fun x y hx hy => HT.out (s - 1) x y (by have := HLH.out; omega) (by omega) (by rw [show s - 1 - lo = s - lo - 1 by omega]; exact hx) (by rw [show mid + hi - 1 - (s - 1) - hi = e - hi by omega]; exact hy)))
    have h21 := split21 HS.out.1 HS.out.2 (p := s - lo) (q := e - hi) Z5 (by
     by_cases h1 : s = hi
     ·exact .inl Z5
     ·by_cases h2 : e = hi
      ·exact .inr (.inl (by omega))
      ·exact .inr (.inr fun x y hx hy => HD.out s x y (by omega) (by have := HLH.out; omega) hx (by rw [show mid + hi - 1 - s - hi = e - hi - 1 by omega]; exact hy)))
    have hU1 : U.take (s - lo) ++ U.drop (s - lo) = U := List.take_append_drop _ U
    have hV1 : V.take (e - hi) ++ V.drop (e - hi) = V := List.take_append_drop _ V
    have hml := mrg_split hkey _ _ _ _ h12 h21
    rw [hU1, hV1] at hml
    have hS1 : Srt hkey (U.take (s - lo)) ∧ Srt hkey (U.drop (s - lo)) ∧ Srt hkey (V.take (e - hi)) ∧ Srt hkey (V.drop (e - hi)) := ⟨HS.out.1.sublist (List.take_sublist _ _), HS.out.1.sublist (List.drop_sublist _ _), HS.out.2.sublist (List.take_sublist _ _), HS.out.2.sublist (List.drop_sublist _ _)⟩
    have hl1 : (U.take (s - lo)).length = s - lo ∧ (U.drop (s - lo)).length = hi - s ∧ (V.take (e - hi)).length = e - hi ∧ (V.drop (e - hi)).length = b - e := by
     rw [List.length_take, List.length_drop, List.length_take, List.length_drop]; have := HLN.out; omega
    have hA0 := HA.out
    rw [← hU1, ← hV1] at hA0
    have HML := m_ hml
    generalize U.take (s - lo) = U1 at *
    generalize U.drop (s - lo) = U2 at *
    generalize V.take (e - hi) = V1 at *
    generalize V.drop (e - hi) = V2 at *
    have HS1 := m_ hS1
    have HL1 := m_ hl1
    have HA0 := m_ (show Kd.R kh 41 wr base ok (.slice (some ⟨g, 0, none⟩) n cap) (X ++ (U1 ++ (U2 ++ (V1 ++ (V2 ++ Z))))) from by simpa using hA0)
    have hok1 : ∀ k, ok k → k < wr.heap.size := fun k hk => Nat.lt_of_lt_of_le (HOK.out k hk) HG.out.size
    have HOK1 := m_ hok1
    have hen : (mid : Int) + (hi : Int) - (s : Int) = (e : Int) := by omega
    have hbnd : lo ≤ s ∧ s ≤ hi ∧ s ≤ mid := by omega
    obtain ⟨n1, n2, n3⟩ := hbnd
    clear h12 h21 hU1 hV1 hml hS1 hl1 hA0 HA HT HD hok1 he
    have hcs : (lo < s ∧ hi < e ∧ s < hi ∧ e < b) ∨ (lo < s ∧ hi < e ∧ s < hi ∧ b ≤ e) ∨ (lo < s ∧ hi < e ∧ hi ≤ s ∧ e < b) ∨ (lo < s ∧ e ≤ hi ∧ s < hi ∧ e < b) ∨ (lo < s ∧ e ≤ hi ∧ hi ≤ s ∧ e < b) ∨ (s ≤ lo ∧ hi < e ∧ s < hi ∧ e < b) ∨ (s ≤ lo ∧ hi < e ∧ s < hi ∧ b ≤ e) := by omega
    rcases hcs with ⟨k1, k2, k3, k4⟩ | ⟨k1, k2, k3, k4⟩ | ⟨k1, k2, k3, k4⟩ | ⟨k1, k2, k3, k4⟩ | ⟨k1, k2, k3, k4⟩ | ⟨k1, k2, k3, k4⟩ | ⟨k1, k2, k3, k4⟩
    ·have z1 : (s : Int) < (hi : Int) := by omega
     have z2 : (hi : Int) < (e : Int) := by omega
     have z3 : (lo : Int) < (s : Int) := by omega
     have z4 : (s : Int) < (mid : Int) := by omega
     have z5 : (mid : Int) < (e : Int) := by omega
     have z6 : (e : Int) < (b : Int) := by omega
     have HRB := m_ (show Kd.R kh 41 wr base ok (.slice (some ⟨g, 0, none⟩) n cap) ((X ++ U1) ++ (U2 ++ (V1 ++ (V2 ++ Z)))) from by simpa using HA0.out)
     go_wp2_with (go_at_call 136; refine (rotate_any g n cap base s hi e ok (X ++ U1) U2 V1 (V2 ++ Z) wr HRB.out Z2 Z2 Z2 Z3 Z3 hn HOK1.out).mono ?_; rintro e' w5 ⟨rfl, hr5, hg5⟩; have HR5 := m_ (show Kd.R kh 41 w5 base ok (.slice (some ⟨g, 0, none⟩) n cap) (X ++ (U1 ++ (V1 ++ (U2 ++ (V2 ++ Z))))) from by simpa using hr5); have HG5 := m_ (b4_ HG.out hg5); have HOK5 := m_ (fun k hk => Nat.lt_of_lt_of_le (HOK1.out k hk) hg5.size); clear hr5 hg5)
     refine (HIH.out (U1.length + V1.length) Z9 g n cap base lo s mid ok X U1 V1 (U2 ++ (V2 ++ Z)) w5 rfl HR5.out Z5 Z8 Z8 Z3 Z3 HS1.out.1 HS1.out.2.2.1 hn HOK5.out).mono ?_
     rintro e' w6 ⟨rfl, hr6, hg6⟩
     have HR6 := m_ hr6
     have HG6 := m_ (b4_ HG5.out hg6)
     have HOK6 := m_ (fun k hk => Nat.lt_of_lt_of_le (HOK5.out k hk) hg6.size)
     clear hr6 hg6
     go_wp2_with fail
     have HML1 := m_ (show (X ++ mrg hkey U1 V1).length = mid from by rw [List.length_append, mrg_length]; have := HLN.out; have := HL1.out; omega)
     have HR7 := m_ (show Kd.R kh 41 w6 base ok (.slice (some ⟨g, 0, none⟩) n cap) ((X ++ mrg hkey U1 V1) ++ (U2 ++ (V2 ++ Z))) from by rw [List.append_assoc]; exact HR6.out)
     refine (HIH.out (U2.length + V2.length) Z9 g n cap base mid e b ok (X ++ mrg hkey U1 V1) U2 V2 Z w6 rfl HR7.out (by have := HML1.out; omega) Z7 Z7 Z3 Z3 HS1.out.2.1 HS1.out.2.2.2 hn HOK6.out).mono ?_
     rintro e' w7 ⟨rfl, hr7, hg7⟩
     have HR8 := m_ hr7
     have HG8 := m_ (b4_ HG6.out hg7)
     clear hr7 hg7
     go_wp2_with fail
     go_end0
     exact ⟨rfl, by rw [HML.out]; have := HR8.out; simpa using this, HG8.out⟩
    ·exfalso; omega
    ·have z1 : decide ((s : Int) < (hi : Int)) = false := by simp; omega
     have z2 : (hi : Int) < (e : Int) := by omega
     have z3 : (lo : Int) < (s : Int) := by omega
     have z4 : (s : Int) < (mid : Int) := by omega
     have z5 : decide ((mid : Int) < (e : Int)) = false := by simp; omega
     have z6 : (e : Int) < (b : Int) := by omega
     have hem : U2 = [] := List.eq_nil_of_length_eq_zero Z3
     have HR5 := m_ (show Kd.R kh 41 wr base ok (.slice (some ⟨g, 0, none⟩) n cap) (X ++ (U1 ++ (V1 ++ (U2 ++ (V2 ++ Z))))) from by have := HA0.out; rw [hem] at this ⊢; simpa using this)
     have HG5 := HG
     have HOK5 := HOK1
     clear hem
     go_wp2_with fail
     refine (HIH.out (U1.length + V1.length) Z9 g n cap base lo s mid ok X U1 V1 (U2 ++ (V2 ++ Z)) wr rfl HR5.out Z5 Z8 Z8 Z3 Z3 HS1.out.1 HS1.out.2.2.1 hn HOK5.out).mono ?_
     rintro e' w6 ⟨rfl, hr6, hg6⟩
     have HR6 := m_ hr6
     have HG6 := m_ (b4_ HG5.out hg6)
     have HOK6 := m_ (fun k hk => Nat.lt_of_lt_of_le (HOK5.out k hk) hg6.size)
     clear hr6 hg6
     go_wp2_with fail
     have HML1 := m_ (show (X ++ mrg hkey U1 V1).length = mid from by rw [List.length_append, mrg_length]; have := HLN.out; have := HL1.out; omega)
     have HR7 := m_ (show Kd.R kh 41 w6 base ok (.slice (some ⟨g, 0, none⟩) n cap) ((X ++ mrg hkey U1 V1) ++ (U2 ++ (V2 ++ Z))) from by rw [List.append_assoc]; exact HR6.out)
     have hem : U2 = [] := List.eq_nil_of_length_eq_zero Z3
     have HR8 := m_ (show Kd.R kh 41 w6 base ok (.slice (some ⟨g, 0, none⟩) n cap) ((X ++ mrg hkey U1 V1) ++ (mrg hkey U2 V2 ++ Z)) from by have := HR7.out; rw [hem] at this ⊢; rw [mrg_nil_left]; simpa using this)
     have HG8 := HG6
     clear hem
     go_end0
     exact ⟨rfl, by rw [HML.out]; have := HR8.out; simpa using this, HG8.out⟩
    ·exfalso; omega
    ·have z1 : decide ((s : Int) < (hi : Int)) = false := by simp; omega
     have z2 : decide ((hi : Int) < (e : Int)) = false := by simp; omega
     have z3 : (lo : Int) < (s : Int) := by omega
     have z4 : decide ((s : Int) < (mid : Int)) = false := by simp; omega
     have z5 : decide ((mid : Int) < (e : Int)) = false := by simp; omega
     have z6 : (e : Int) < (b : Int) := by omega
     have hem : U2 = [] := List.eq_nil_of_length_eq_zero Z3
     have HR5 := m_ (show Kd.R kh 41 wr base ok (.slice (some ⟨g, 0, none⟩) n cap) (X ++ (U1 ++ (V1 ++ (U2 ++ (V2 ++ Z))))) from by have := HA0.out; rw [hem] at this ⊢; simpa using this)
     have HG5 := HG
     have HOK5 := HOK1
     clear hem
     go_wp2_with fail
     have hem : V1 = [] := List.eq_nil_of_length_eq_zero Z3
     have HR6 := m_ (show Kd.R kh 41 wr base ok (.slice (some ⟨g, 0, none⟩) n cap) (X ++ (mrg hkey U1 V1 ++ (U2 ++ (V2 ++ Z)))) from by have := HR5.out; rw [hem] at this ⊢; rw [mrg_nil_right]; simpa using this)
     have HG6 := HG5
     have HOK6 := HOK5
     clear hem
     have HML1 := m_ (show (X ++ mrg hkey U1 V1).length = mid from by rw [List.length_append, mrg_length]; have := HLN.out; have := HL1.out; omega)
     have HR7 := m_ (show Kd.R kh 41 wr base ok (.slice (some ⟨g, 0, none⟩) n cap) ((X ++ mrg hkey U1 V1) ++ (U2 ++ (V2 ++ Z))) from by rw [List.append_assoc]; exact HR6.out)
     have hem : U2 = [] := List.eq_nil_of_length_eq_zero Z3
     have HR8 := m_ (show Kd.R kh 41 wr base ok (.slice (some ⟨g, 0, none⟩) n cap) ((X ++ mrg hkey U1 V1) ++ (mrg hkey U2 V2 ++ Z)) from by have := HR7.out; rw [hem] at this ⊢; rw [mrg_nil_left]; simpa using this)
     have HG8 := HG6
     clear hem
     go_end0
     exact ⟨rfl, by rw [HML.out]; have := HR8.out; simpa using this, HG8.out⟩
    ·have z1 : (s : Int) < (hi : Int) := by omega
     have z2 : (hi : Int) < (e : Int) := by omega
     have z3 : decide ((lo : Int) < (s : Int)) = false := by simp; omega
     have z4 : (s : Int) < (mid : Int) := by omega
     have z5 : (mid : Int) < (e : Int) := by omega
     have z6 : (e : Int) < (b : Int) := by omega
     have HRB := m_ (show Kd.R kh 41 wr base ok (.slice (some ⟨g, 0, none⟩) n cap) ((X ++ U1) ++ (U2 ++ (V1 ++ (V2 ++ Z)))) from by simpa using HA0.out)
     go_wp2_with (go_at_call 136; refine (rotate_any g n cap base s hi e ok (X ++ U1) U2 V1 (V2 ++ Z) wr HRB.out Z2 Z2 Z2 Z3 Z3 hn HOK1.out).mono ?_; rintro e' w5 ⟨rfl, hr5, hg5⟩; have HR5 := m_ (show Kd.R kh 41 w5 base ok (.slice (some ⟨g, 0, none⟩) n cap) (X ++ (U1 ++ (V1 ++ (U2 ++ (V2 ++ Z))))) from by simpa using hr5); have HG5 := m_ (b4_ HG.out hg5); have HOK5 := m_ (fun k hk => Nat.lt_of_lt_of_le (HOK1.out k hk) hg5.size); clear hr5 hg5)
     have hem : U1 = [] := List.eq_nil_of_length_eq_zero Z3
     have HR6 := m_ (show Kd.R kh 41 w5 base ok (.slice (some ⟨g, 0, none⟩) n cap) (X ++ (mrg hkey U1 V1 ++ (U2 ++ (V2 ++ Z)))) from by have := HR5.out; rw [hem] at this ⊢; rw [mrg_nil_left]; simpa using this)
     have HG6 := HG5
     have HOK6 := HOK5
     clear hem
     have HML1 := m_ (show (X ++ mrg hkey U1 V1).length = mid from by rw [List.length_append, mrg_length]; have := HLN.out; have := HL1.out; omega)
     have HR7 := m_ (show Kd.R kh 41 w5 base ok (.slice (some ⟨g, 0, none⟩) n cap) ((X ++ mrg hkey U1 V1) ++ (U2 ++ (V2 ++ Z))) from by rw [List.append_assoc]; exact HR6.out)
     refine (HIH.out (U2.length + V2.length) Z9 g n cap base mid e b ok (X ++ mrg hkey U1 V1) U2 V2 Z w5 rfl HR7.out (by have := HML1.out; omega) Z7 Z7 Z3 Z3 HS1.out.2.1 HS1.out.2.2.2 hn HOK6.out).mono ?_
     rintro e' w7 ⟨rfl, hr7, hg7⟩
     have HR8 := m_ hr7
     have HG8 := m_ (b4_ HG6.out hg7)
     clear hr7 hg7
     go_wp2_with fail
     go_end0
     exact ⟨rfl, by rw [HML.out]; have := HR8.out; simpa using this, HG8.out⟩
    ·have z1 : (s : Int) < (hi : Int) := by omega
     have z2 : (hi : Int) < (e : Int) := by omega
     have z3 : decide ((lo : Int) < (s : Int)) = false := by simp; omega
     have z4 : (s : Int) < (mid : Int) := by omega
     have z5 : (mid : Int) < (e : Int) := by omega
     have z6 : decide ((e : Int) < (b : Int)) = false := by simp; omega
     have HRB := m_ (show Kd.R kh 41 wr base ok (.slice (some ⟨g, 0, none⟩) n cap) ((X ++ U1) ++ (U2 ++ (V1 ++ (V2 ++ Z)))) from by simpa using HA0.out)
     go_wp2_with (go_at_call 136; refine (rotate_any g n cap base s hi e ok (X ++ U1) U2 V1 (V2 ++ Z) wr HRB.out Z2 Z2 Z2 Z3 Z3 hn HOK1.out).mono ?_; rintro e' w5 ⟨rfl, hr5, hg5⟩; have HR5 := m_ (show Kd.R kh 41 w5 base ok (.slice (some ⟨g, 0, none⟩) n cap) (X ++ (U1 ++ (V1 ++ (U2 ++ (V2 ++ Z))))) from by simpa using hr5); have HG5 := m_ (b4_ HG.out hg5); have HOK5 := m_ (fun k hk => Nat.lt_of_lt_of_le (HOK1.out k hk) hg5.size); clear hr5 hg5)
     have hem : U1 = [] := List.eq_nil_of_length_eq_zero Z3
     have HR6 := m_ (show Kd.R kh 41 w5 base ok (.slice (some ⟨g, 0, none⟩) n cap) (X ++ (mrg hkey U1 V1 ++ (U2 ++ (V2 ++ Z)))) from by have := HR5.out; rw [hem] at this ⊢; rw [mrg_nil_left]; simpa using this)
     have HG6 := HG5
     have HOK6 := HOK5
     clear hem
     have HML1 := m_ (show (X ++ mrg hkey U1 V1).length = mid from by rw [List.length_append, mrg_length]; have := HLN.out; have := HL1.out; omega)
     have HR7 := m_ (show Kd.R kh 41 w5 base ok (.slice (some ⟨g, 0, none⟩) n cap) ((X ++ mrg hkey U1 V1) ++ (U2 ++ (V2 ++ Z))) from by rw [List.append_assoc]; exact HR6.out)
     have hem : V2 = [] := List.eq_nil_of_length_eq_zero Z3
     have HR8 := m_ (show Kd.R kh 41 w5 base ok (.slice (some ⟨g, 0, none⟩) n cap) ((X ++ mrg hkey U1 V1) ++ (mrg hkey U2 V2 ++ Z)) from by have := HR7.out; rw [hem] at this ⊢; rw [mrg_nil_right]; simpa using this)
     have HG8 := HG6
     clear hem
     go_end0
     exact ⟨rfl, by rw [HML.out]; have := HR8.out; simpa using this, HG8.out⟩
theorem symMerge_any : ∀ sz, SymC sz := fun sz => by
 induction sz using Nat.strongRecOn with
 | ind sz IH =>
  intro g n cap base a m b ok X U V Z w hsz hr ha hm hb hU0 hV0 hU hV hn hok
  by_cases h1 : U.length = 1
  ·obtain ⟨u, rfl⟩ := List.length_eq_one_iff.1 h1
   exact symMerge_left g n cap base a m b ok X V Z u w hr ha (by simpa using hm) (by simpa using hb) hV hn hok
  ·by_cases h2 : V.length = 1
   ·obtain ⟨v, rfl⟩ := List.length_eq_one_iff.1 h2
    exact symMerge_right g n cap base a m b ok X U Z v w hr ha hm (by simpa using hb) (by omega) hU hn hok
   ·exact symMerge_gen sz IH g n cap base a m b ok X U V Z w hsz hr ha hm hb (by omega) (by omega) hU hV hn hok
theorem pre_get (X l : List HV) {a i : Nat} (ha : a = X.length) (h : a ≤ i) : (X ++ l)[i]? = l[i - a]? := by
 rw [List.getElem?_append_right (by omega), ha]
theorem pre_set (X l : List HV) {a i : Nat} (ha : a = X.length) (h : a ≤ i) (v : HV) : (X ++ l).set i v = X ++ l.set (i - a) v := by
 rw [List.set_append_right _ _ (by omega), ha]
set_option maxHeartbeats 8000000 in
set_option maxRecDepth 100000 in
theorem insert_gen (g n cap base a b c : Nat) (ok : Nat → Prop) (X xs : List (HV)) (w : World) (hr : Kd.R kh 41 w base ok (.slice (some ⟨g, 0, none⟩) n cap) (X ++ xs)) (ha : a = X.length) (hb : b = a + c) (hc : c ≤ xs.length) (hn : n ≤ 1000000000000) (h2 : 2 ≤ c) (hok : ∀ k, ok k → k < w.heap.size) :
  Calls Try.prog 120 #[.slice (some ⟨g, 0, none⟩) n cap, .int .i64 a, .int .i64 b, .func (.func 72) #[] #[]] w fun e w' => e = .returned (.tuple #[]) ∧ Kd.R kh 41 w' base ok (.slice (some ⟨g, 0, none⟩) n cap) (X ++ (isort hkey (xs.take c) ++ xs.drop c)) ∧ w.grownBy w' (some g) := by
 have hu41 := Try.underlying41
 have HR := m_ hr
 have hxl := (Kd.R_reads' hr).1
 rw [List.length_append] at hxl
 have bb : a + 2 ≤ b ∧ b ≤ n := by omega
 obtain ⟨bb1, bb2⟩ := bb
 have HXL := m_ (show X.length = a ∧ a + xs.length = n ∧ b = a + c ∧ c ≤ xs.length from by omega)
 clear hr hxl ha hb hc h2
 go_enter Try.func120, Try.ntmps120
 go_wp2
 go_loopw [8] (fun v8 wr => ∃ p : Nat, a + 1 ≤ p ∧ p ≤ b ∧ v8 = .int .i64 (p : Int) ∧ A_ (Kd.R kh 41 wr base ok (.slice (some ⟨g, 0, none⟩) n cap) (X ++ (isort hkey (xs.take (p - a)) ++ xs.drop (p - a)))) ∧ A_ (w.grownBy wr (some g))) (fun v8 _ => b - (intOf v8).toNat)
 case atStart => exact ⟨a + 1, Nat.le_refl _, by omega, by go_num, ⟨by
  have : isort hkey (xs.take (a + 1 - a)) ++ xs.drop (a + 1 - a) = xs := by
   rw [show a + 1 - a = 1 by omega]
   cases xs with
   | nil => rfl
   | cons x xs => simp [isort, insK]
  rw [this]; exact HR.out⟩, ⟨d6_ _ _⟩⟩
 case round =>
  obtain ⟨p, hi1, hib, rfl, HA, HG⟩ := hrel
  by_cases hlt : p < b
  ·have hlt' : (p : Int) < b := by omega
   obtain ⟨i, hpi⟩ : ∃ i, i = p - a := ⟨_, rfl⟩
   have hix : i < xs.length := by have := HXL.out; omega
   have hLl : (isort hkey (xs.take i)).length = i := by rw [(isort_perm hkey _).length_eq, List.length_take]; omega
   have hz : isort hkey (xs.take i) ++ xs.drop i = zAt (isort hkey (xs.take i)) xs[i] (xs.drop (i + 1)) i := by
    unfold zAt
    have t1 : (isort hkey (xs.take i)).take i = isort hkey (xs.take i) := List.take_of_length_le (by omega)
    have t2 : (isort hkey (xs.take i)).drop i = [] := List.drop_eq_nil_of_le (by omega)
    rw [t1, t2, List.nil_append, List.drop_eq_getElem_cons hix]
   have hstep := isort_take hkey xs i hix
   have hsrt := isort_sorted hkey (xs.take i)
   rw [← hpi, hz] at HA
   have hrl : (xs.drop (i + 1)).length = xs.length - (i + 1) := List.length_drop
   clear hz
   have HST := m_ hstep
   have HPI := m_ (And.intro hpi (show p + 1 - a = i + 1 by omega))
   clear hstep
   generalize hL : isort hkey (xs.take i) = L at *
   generalize hx : xs[i] = x at *
   generalize hre : xs.drop (i + 1) = rest at *
   have HSRT := m_ hsrt
   have HRE := m_ hre
   have HLL := m_ (show L.length = i ∧ a + i + 1 + rest.length = n ∧ i + a = p from by have := HXL.out; omega)
   clear hsrt hL hx hre hpi hLl hrl
   go_wp2
   obtain ⟨wo, hwo⟩ : ∃ wo : World, wo = wr := ⟨_, rfl⟩
   subst hwo
   go_loopg [9] p (fun kq v9 w2 => ∃ q : Nat, a ≤ q ∧ q ≤ p ∧ v9 = .int .i64 (q : Int) ∧ A_ (kq = q) ∧ A_ (∀ y ∈ L.drop (q - a), hkey x < hkey y) ∧ A_ (Kd.R kh 41 w2 base ok (.slice (some ⟨g, 0, none⟩) n cap) (X ++ zAt L x rest (q - a))) ∧ A_ (w.grownBy w2 (some g)))
   case atStart => exact ⟨p, by omega, Nat.le_refl _, rfl, ⟨rfl⟩, ⟨fun y hy => by rw [List.drop_eq_nil_of_le (by have := HLL.out; omega)] at hy; cases hy⟩, ⟨by rw [← HPI.out.1]; exact HA.out⟩, HG⟩
   case round =>
    clear HA HG
    obtain ⟨q, hqa, hj, rfl, HQ, HD, HA, HG⟩ := hrel
    by_cases hq0 : q ≤ a
    ·have hqe : q - a = 0 := by omega
     have hdone : X ++ (isort hkey (xs.take (p + 1 - a)) ++ xs.drop (p + 1 - a)) = X ++ zAt L x rest (q - a) := by
      have hd := HD.out
      rw [hqe] at hd ⊢
      rw [HPI.out.2, HST.out, HRE.out, insK_at hkey x L 0 (by simp) hd]
      simp [zAt]
     rw [← hdone] at HA
     have hd1 : decide ((a : Int) < (q : Int)) = false := by simp; omega
     have hd2 : decide (a < q) = false := by simp; omega
     clear hdone hqe
     go_wp2
     go_quiet (fail)
     go_wp2
     go_roundw
     case rel => exact ⟨p + 1, by omega, by omega, by go_num, HA, ⟨e5_ HG.out (e0_ (Below.refl _ _) _)⟩⟩
     case measure => simp [intOf]; omega
    ·obtain ⟨m, rfl⟩ : ∃ m, q = m + 1 := ⟨q - 1, by omega⟩
     have hm : m - a < L.length := by have := HLL.out; omega
     have hxp : (X ++ zAt L x rest (m + 1 - a))[m + 1]? = some x := by
      rw [pre_get X _ HXL.out.1.symm (by omega)]; exact zAt_get L x rest (m + 1 - a) (by omega)
     have hyp : (X ++ zAt L x rest (m + 1 - a))[m]? = some L[m - a] := by
      rw [pre_get X _ HXL.out.1.symm (by omega), show m + 1 - a = m - a + 1 by omega]; exact zAt_get1 L x rest (m - a) hm
     obtain ⟨x0, x1, x2, x3, x4⟩ := at_kh HA.out (m + 1) x hxp
     obtain ⟨y0, y1, y2, y3, y4⟩ := at_kh HA.out m L[m - a] hyp
     have hzs : ((X ++ zAt L x rest (m + 1 - a)).set (m + 1) L[m - a]).set m x = X ++ zAt L x rest (m - a) := by
      rw [pre_set X _ HXL.out.1.symm (by omega), pre_set X _ HXL.out.1.symm (by omega), show m + 1 - a = m - a + 1 by omega, zAt_step L x rest (m - a) hm]
     have hd := List.drop_eq_getElem_cons hm
     have ht := List.take_succ_eq_append_getElem hm
     generalize L[m - a] = y at *
     have HZS := m_ hzs
     have HXP := m_ hxp
     have HYP := m_ hyp
     have HDR := m_ hd
     have HTK := m_ ht
     clear hzs hd ht hxp hyp
     have e1 : IntKind.i64.wrap (m : Int) = (m : Int) := by rw [IntKind.wrap_i64]; omega
     have i0 : (0 : Int) ≤ (m : Int) + 1 := by omega
     have i1 : (a : Int) < (m : Int) + 1 := by omega
     have i2 : (m : Int) + 1 < n := by omega
     have i3 : (m : Int) < n := by omega
     have i4 : ((m : Int) + 1).toNat = m + 1 := by omega
     go_wp2
     go_still_tail 14, (by kernel_rfl)
     change wpList _ _ _ _ _ wr.drew
     have hAd := Kd.R_drew HA.out
     have hGd := grown_drew HG.out
     clear x0 x1 x2 x3 x4 y0 y1 y2 y3 y4
     generalize wr.drew = w3 at *
     have HA3 := m_ hAd
     have HG3 := m_ hGd
     clear hAd hGd HA HG
     by_cases hlt2 : hkey x < hkey y
     ·have hcmp : cmpI x.1.f2 y.1.f2 = -1 := by unfold hkey at hlt2; unfold cmpI; rw [if_pos hlt2]
      have HLT := m_ hlt2
      clear hlt2
      go_wp2_with (go_at_call 72; refine (cmpH_any x y _).mono ?_; rintro e w4 ⟨rfl, hb4⟩; rw [hcmp]; have HA4 := m_ (Kd.R_below HA3.out hb4); have HG4 := m_ (e5_ HG3.out hb4); clear hb4)
      obtain ⟨x0, x1, x2, x3, x4⟩ := at_kh HA4.out (m + 1) x HXP.out
      obtain ⟨y0, y1, y2, y3, y4⟩ := at_kh HA4.out m y HYP.out
      obtain ⟨g', cap', cur, hv, _, _, hh⟩ := ownh HA4.out (by rw [List.length_append, zAt_len _ _ _ _ (by omega)]; omega)
      injection hv with ha hn1 hc1
      injection ha with ha
      injection ha with ha
      subst ha
      clear hn1 hc1
      have z0 := a2_ hh ((m + 1) * 5)
      have z1 := a2_ hh ((m + 1) * 5 + 1)
      have z2 := a2_ hh ((m + 1) * 5 + 2)
      have z3 := a2_ hh ((m + 1) * 5 + 3)
      have z4 := a2_ hh ((m + 1) * 5 + 4)
      have v0 := a2_ hh (m * 5)
      have v1 := a2_ hh (m * 5 + 1)
      have v2 := a2_ hh (m * 5 + 2)
      have v3 := a2_ hh (m * 5 + 3)
      have v4 := a2_ hh (m * 5 + 4)
      clear hh
      have p1 := put_kh HA4.out (m + 1) (by omega) y
      have p2 := put_kh p1.1 m (by omega) x
      have hR5 := Kd.R_drew p2.1
      have hG5 := grown_drew (b4_ (b4_ HG4.out p1.2) p2.2)
      rw [HZS.out] at hR5
      simp only [hc, World.setCells, Nat.add_assoc, Nat.reduceAdd] at hR5 hG5
      have HR5 := m_ hR5
      have HG5 := m_ hG5
      clear hR5 hG5 p1 p2
      go_region
      revert HR5 HG5
      generalize World.drew _ = w5
      intro HR5 HG5
      go_wp2
      go_roundg m
      case rel => exact ⟨m, by omega, by omega, rfl, ⟨rfl⟩, ⟨fun z hz => by
       rw [HDR.out] at hz
       rcases List.mem_cons.1 hz with rfl | hz
       ·exact HLT.out
       ·exact HD.out z (by rw [show m + 1 - a = m - a + 1 by omega]; exact hz)⟩, HR5, HG5⟩
      case measure => have := HQ.out; omega
     ·have hcmp : decide (cmpI x.1.f2 y.1.f2 < 0) = false := by
       unfold hkey at hlt2; unfold cmpI; rw [if_neg hlt2]; split <;> simp
      have HLT := m_ hlt2
      clear hlt2
      go_wp2_with (go_at_call 72; refine (cmpH_any x y _).mono ?_; rintro e w4 ⟨rfl, hb4⟩; have HA4 := m_ (Kd.R_below HA3.out hb4); have HG4 := m_ (e5_ HG3.out hb4); clear hb4)
      have hdone : X ++ (isort hkey (xs.take (p + 1 - a)) ++ xs.drop (p + 1 - a)) = X ++ zAt L x rest (m + 1 - a) := by
       have hd := HD.out
       rw [show m + 1 - a = m - a + 1 by omega] at hd ⊢
       rw [HPI.out.2, HST.out, HRE.out, insK_at hkey x L (m - a + 1) (fun z hz => by
        rw [HTK.out] at hz
        have hp := HSRT.out
        rw [← List.take_append_drop (m - a) L, List.pairwise_append] at hp
        rcases List.mem_append.1 hz with hz | hz
        ·have := hp.2.2 z hz y (by rw [HDR.out]; simp)
         have := HLT.out
         omega
        ·obtain rfl := List.mem_singleton.1 hz
         have := HLT.out
         omega) hd]
       simp [zAt]
      rw [← hdone] at HA4
      clear hdone
      go_roundw
      case rel => exact ⟨p + 1, by omega, by omega, by go_num, HA4, HG4⟩
      case measure => simp [intOf]; omega
  ·have hlt' : ¬ (p : Int) < b := by omega
   obtain rfl : p = b := by omega
   have hpc : p - a = c := by have := HXL.out; omega
   rw [hpc] at HA
   go_wp2
   go_end0
   exact ⟨rfl, HA.out, HG.out⟩
theorem insert_part (g n cap base a b c : Nat) (ok : Nat → Prop) (X xs : List (HV)) (w : World) (hr : Kd.R kh 41 w base ok (.slice (some ⟨g, 0, none⟩) n cap) (X ++ xs)) (ha : a = X.length) (hb : b = a + c) (hc : c ≤ xs.length) (hn : n ≤ 1000000000000) (hok : ∀ k, ok k → k < w.heap.size) :
  Calls Try.prog 120 #[.slice (some ⟨g, 0, none⟩) n cap, .int .i64 a, .int .i64 b, .func (.func 72) #[] #[]] w fun e w' => e = .returned (.tuple #[]) ∧ Kd.R kh 41 w' base ok (.slice (some ⟨g, 0, none⟩) n cap) (X ++ (isort hkey (xs.take c) ++ xs.drop c)) ∧ w.grownBy w' (some g) := by
 by_cases h2 : 2 ≤ c
 ·exact insert_gen g n cap base a b c ok X xs w hr ha hb hc hn h2 hok
 ·have hl := (Kd.R_reads' hr).1
  rw [List.length_append] at hl
  refine (insert_none (.slice (some ⟨g, 0, none⟩) n cap) a b (by omega) (by omega) w).mono ?_
  rintro e w' ⟨rfl, rfl⟩
  rw [isort_one hkey (xs.take c) Z12, List.take_append_drop]
  exact ⟨rfl, hr, d6_ _ _⟩
set_option maxHeartbeats 16000000 in
set_option maxRecDepth 100000 in
theorem stable_gen (g n cap base : Nat) (ok : Nat → Prop) (xs : List HV) (w : World) (hr : Kd.R kh 41 w base ok (.slice (some ⟨g, 0, none⟩) n cap) xs) (hn : n ≤ 100000000000) (hok : ∀ k, ok k → k < w.heap.size) :
  Calls Try.prog 103 #[.slice (some ⟨g, 0, none⟩) n cap, .int .i64 n, .func (.func 72) #[] #[]] w fun e w' => e = .returned (.tuple #[]) ∧ Kd.R kh 41 w' base ok (.slice (some ⟨g, 0, none⟩) n cap) (isort hkey xs) ∧ w.grownBy w' (some g) := by
 have hxl := (Kd.R_reads' hr).1
 have HR := m_ hr
 have HOK := m_ hok
 have HXL := m_ hxl
 clear hr hok hxl
 go_enter Try.func103, Try.ntmps103
 go_wp2
 go_loopw [7, 8] (fun v7 v8 wr => ∃ (i a b : Nat), v7 = .int .i64 (a : Int) ∧ v8 = .int .i64 (b : Int) ∧ A_ (a = 20 * i ∧ b = 20 * i + 20) ∧ a ≤ n ∧ A_ (Kd.R kh 41 wr base ok (.slice (some ⟨g, 0, none⟩) n cap) (sp hkey 20 i xs ++ xs.drop (20 * i))) ∧ A_ (w.grownBy wr (some g))) (fun v7 _ _ => n - (intOf v7).toNat)
 case atStart => exact ⟨0, 0, 20, rfl, rfl, ⟨by omega⟩, Nat.zero_le _, ⟨by simpa [sp] using HR.out⟩, ⟨d6_ _ _⟩⟩
 case round =>
  clear HR
  obtain ⟨i, a, b, rfl, rfl, HI, han, HA, HG⟩ := hrel
  have hok1 : ∀ k, ok k → k < wr.heap.size := fun k hk => Nat.lt_of_lt_of_le (HOK.out k hk) HG.out.size
  by_cases hlt : b ≤ n
  ·have hlt' : (b : Int) ≤ n := by omega
   have HC := m_ (insert_part g n cap base a b 20 ok (sp hkey 20 i xs) (xs.drop (20 * i)) wr HA.out (by rw [sp_len hkey 20 i xs (by have := HI.out; have := HXL.out; omega)]; exact HI.out.1) (by have := HI.out; omega) Z10 (by omega) hok1)
   have HE := m_ (show sp hkey 20 i xs ++ (isort hkey ((xs.drop (20 * i)).take 20) ++ (xs.drop (20 * i)).drop 20) = sp hkey 20 (i + 1) xs ++ xs.drop (20 * (i + 1)) from by
    rw [sp_snoc, List.append_assoc, List.drop_drop, Nat.mul_succ])
   clear hok1 HA
   go_wp2_with (go_at_call 120; refine HC.out.mono ?_; rintro e w5 ⟨rfl, hr5, hg5⟩; rw [HE.out] at hr5; have HR5 := m_ hr5; have HG5 := m_ (b4_ HG.out hg5); clear hr5 hg5)
   go_roundw
   case rel => exact ⟨i + 1, b, b + 20, rfl, by go_num, ⟨by have := HI.out; omega⟩, hlt, HR5, HG5⟩
   case measure => simp [intOf]; have := HI.out; omega
  ·have hlt' : ¬ (b : Int) ≤ n := by omega
   have hdiv : n / 20 = i := by have := HI.out; omega
   have hC := insert_part g n cap base a n (n - a) ok (sp hkey 20 i xs) (xs.drop (20 * i)) wr HA.out (by rw [sp_len hkey 20 i xs (by have := HI.out; have := HXL.out; omega)]; exact HI.out.1) (by omega) Z10 (by omega) hok1
   have HE := m_ (show sp hkey 20 i xs ++ (isort hkey ((xs.drop (20 * i)).take (n - a)) ++ (xs.drop (20 * i)).drop (n - a)) = sc hkey 20 xs from by
    unfold sc
    rw [← HXL.out, hdiv, List.take_of_length_le Z10, show (xs.drop (20 * i)).drop (n - a) = [] from List.drop_eq_nil_of_le Z10, List.append_nil])
   have HC := m_ hC
   clear hok1 HA hC hdiv
   go_wp2_with (go_at_call 120; refine HC.out.mono ?_; rintro e w5 ⟨rfl, hr5, hg5⟩; rw [HE.out] at hr5; have HR5 := m_ hr5; have HG5 := m_ (b4_ HG.out hg5); clear hr5 hg5)
   clear HC HE HG HI hlt hlt' han
   go_loopw [6, 7, 8, 9] (fun v6 v7 v8 v9 wr => ∃ bs : Nat, v6 = .int .i64 (bs : Int) ∧ 20 ≤ bs ∧ bs ≤ 200000000000 ∧ A_ (Kd.R kh 41 wr base ok (.slice (some ⟨g, 0, none⟩) n cap) (sc hkey bs xs)) ∧ A_ (w.grownBy wr (some g))) (fun v6 _ _ _ _ => n - (intOf v6).toNat)
   case atStart => exact ⟨20, rfl, by omega, by omega, HR5, HG5⟩
   case round =>
    clear HR5 HG5
    obtain ⟨bs, rfl, hb20, hbM, HA, HG⟩ := hrel
    by_cases hbn : bs < n
    ·have hbn' : (bs : Int) < n := by omega
     go_wp2
     obtain ⟨wo, hwo⟩ : ∃ wo : World, wo = wr := ⟨_, rfl⟩
     subst hwo
     go_loopw [7, 8] (fun v7 v8 wr => ∃ (i a b : Nat), v7 = .int .i64 (a : Int) ∧ v8 = .int .i64 (b : Int) ∧ A_ (a = 2 * bs * i ∧ b = 2 * bs * i + 2 * bs) ∧ a ≤ n ∧ b ≤ n + 2 * bs ∧ A_ (Kd.R kh 41 wr base ok (.slice (some ⟨g, 0, none⟩) n cap) (sp hkey (2 * bs) i xs ++ sc hkey bs (xs.drop (2 * bs * i)))) ∧ A_ (w.grownBy wr (some g))) (fun v7 _ _ => n - (intOf v7).toNat)
     case atStart => exact ⟨0, 0, 2 * bs, rfl, by go_num, ⟨by omega⟩, Nat.zero_le _, by omega, ⟨by simpa [sp] using HA.out⟩, HG⟩
     case round =>
      clear HA HG
      obtain ⟨i, a, b, rfl, rfl, HI, han, hbb, HA, HG⟩ := hrel
      have hok1 : ∀ k, ok k → k < wr.heap.size := fun k hk => Nat.lt_of_lt_of_le (HOK.out k hk) HG.out.size
      have hspl : (sp hkey (2 * bs) i xs).length = a := by rw [sp_len hkey (2 * bs) i xs (by have := HI.out; have := HXL.out; omega)]; exact HI.out.1.symm
      by_cases hlt : b ≤ n
      ·have hlt' : (b : Int) ≤ n := by omega
       have hll : 2 * bs ≤ (xs.drop (2 * bs * i)).length := by rw [List.length_drop]; have := HI.out; have := HXL.out; omega
       have h2 := sc_two hkey bs (xs.drop (2 * bs * i)) (by omega) hll
       have hAr := HA.out
       rw [h2] at hAr
       have l1 : (isort hkey ((xs.drop (2 * bs * i)).take bs)).length = bs := by rw [isort_len, List.length_take]; omega
       have l2 : (isort hkey (((xs.drop (2 * bs * i)).drop bs).take bs)).length = bs := by rw [isort_len, List.length_take, List.length_drop]; omega
       have HC := m_ (symMerge_any _ g n cap base a (a + bs) b ok _ _ _ _ wr rfl hAr hspl.symm (by omega) (by have := HI.out; omega) (by omega) (by omega) (isort_sorted hkey _) (isort_sorted hkey _) (by omega) hok1)
       have HE := m_ (show sp hkey (2 * bs) i xs ++ (mrg hkey (isort hkey ((xs.drop (2 * bs * i)).take bs)) (isort hkey (((xs.drop (2 * bs * i)).drop bs).take bs)) ++ sc hkey bs ((xs.drop (2 * bs * i)).drop (2 * bs))) = sp hkey (2 * bs) (i + 1) xs ++ sc hkey bs (xs.drop (2 * bs * (i + 1))) from by
        rw [← isort_append, ← take_two, sp_snoc, List.append_assoc, List.drop_drop, Nat.mul_succ])
       have e2 : IntKind.i64.wrap ((a : Int) + (bs : Int)) = ((a + bs : Nat) : Int) := by rw [IntKind.wrap_i64]; omega
       have e3 : IntKind.i64.wrap ((a + bs : Nat) : Int) = ((a + bs : Nat) : Int) := by rw [IntKind.wrap_i64]; omega
       clear hok1 HA hAr l1 l2 h2 hll hspl
       go_wp2_with (go_at_call 121; refine HC.out.mono ?_; rintro e w5 ⟨rfl, hr5, hg5⟩; rw [HE.out] at hr5; have HR5 := m_ hr5; have HG5 := m_ (b4_ HG.out hg5); clear hr5 hg5)
       go_roundw
       case rel => exact ⟨i + 1, b, b + 2 * bs, rfl, by first | go_num | exact int_i64 (by omega), ⟨by have := HI.out; rw [Nat.mul_succ]; omega⟩, hlt, by omega, HR5, HG5⟩
       case measure => simp [intOf]; have := HI.out; omega
      ·have hlt' : ¬ (b : Int) ≤ n := by omega
       have hll : (xs.drop (2 * bs * i)).length = n - a ∧ n - a < 2 * bs := by rw [List.length_drop]; have := HI.out; have := HXL.out; omega
       have hdiv : n / (2 * bs) = i := by
        have h1 := HI.out
        exact Nat.div_eq_of_lt_le (by rw [Nat.mul_comm]; omega) (by rw [Nat.mul_comm, Nat.mul_succ]; omega)
       have HSC := m_ (show sc hkey (2 * bs) xs = sp hkey (2 * bs) i xs ++ isort hkey (xs.drop (2 * bs * i)) from by unfold sc; rw [← HXL.out, hdiv])
       by_cases hm : a + bs < n
       ·have hm' : (a : Int) + (bs : Int) < n := by omega
        have hm2 : ((a + bs : Nat) : Int) < n := by omega
        have h2 := sc_part hkey bs (xs.drop (2 * bs * i)) (by omega) (by omega) (by omega)
        have hAr := HA.out
        rw [h2, ← List.append_nil (isort hkey ((xs.drop (2 * bs * i)).drop bs))] at hAr
        have l1 : (isort hkey ((xs.drop (2 * bs * i)).take bs)).length = bs := by rw [isort_len, List.length_take]; omega
        have l2 : (isort hkey ((xs.drop (2 * bs * i)).drop bs)).length = n - a - bs := by rw [isort_len, List.length_drop]; omega
        have HC := m_ (symMerge_any _ g n cap base a (a + bs) n ok _ _ _ _ wr rfl hAr hspl.symm (by omega) (by omega) (by omega) (by omega) (isort_sorted hkey _) (isort_sorted hkey _) (by omega) hok1)
        have HE := m_ (show sp hkey (2 * bs) i xs ++ (mrg hkey (isort hkey ((xs.drop (2 * bs * i)).take bs)) (isort hkey ((xs.drop (2 * bs * i)).drop bs)) ++ []) = sc hkey (2 * bs) xs from by
         rw [← isort_append, List.take_append_drop, List.append_nil, HSC.out])
        have e2 : IntKind.i64.wrap ((a : Int) + (bs : Int)) = ((a + bs : Nat) : Int) := by rw [IntKind.wrap_i64]; omega
        have e3 : IntKind.i64.wrap ((a + bs : Nat) : Int) = ((a + bs : Nat) : Int) := by rw [IntKind.wrap_i64]; omega
        clear hok1 HA hAr l1 l2 h2 hll hspl hdiv
        go_wp2_with (go_at_call 121; refine HC.out.mono ?_; rintro e w5 ⟨rfl, hr5, hg5⟩; rw [HE.out] at hr5; have HR5 := m_ hr5; have HG5 := m_ (b4_ HG.out hg5); clear hr5 hg5)
        go_roundw
        case rel => exact ⟨2 * bs, by first | go_num | exact int_i64 (by omega), by omega, by omega, HR5, HG5⟩
        case measure => simp [intOf]; omega
       ·have hm' : ¬ (a : Int) + (bs : Int) < n := by omega
        have hAr := HA.out
        rw [sc_small hkey bs (xs.drop (2 * bs * i)) (by omega) (by omega), ← HSC.out] at hAr
        have HR5 := m_ hAr
        clear hok1 HA hAr hll hspl hdiv
        go_wp2
        go_roundw
        case rel => exact ⟨2 * bs, by first | go_num | exact int_i64 (by omega), by omega, by omega, HR5, HG⟩
        case measure => simp [intOf]; omega
    ·have hbn' : ¬ (bs : Int) < n := by omega
     have hfin := HA.out
     rw [sc_small hkey bs xs (by omega) (by have := HXL.out; omega)] at hfin
     have HF := m_ hfin
     clear hfin HA
     go_wp2
     go_end0
     exact ⟨rfl, HF.out, HG.out⟩
theorem stable_big (A : Option Addr) (n cap base : Nat) (ok : Nat → Prop) (xs : List HV) (w : World) (hr : Kd.R kh 41 w base ok (.slice A n cap) xs) (hn : n ≤ 100000000000) (hok : ∀ k, ok k → k < w.heap.size) (g : Nat) (hg : ∀ a, A = some a → a.block = g) :
  Calls Try.prog 103 #[.slice A n cap, .int .i64 n, .func (.func 72) #[] #[]] w fun e w' => e = .returned (.tuple #[]) ∧ Kd.R kh 41 w' base ok (.slice A n cap) (isort hkey xs) ∧ w.grownBy w' (some g) := by
 by_cases h2 : n ≤ 20
 ·exact stable_any A n cap base ok xs w hr h2 hok g hg
 ·have hl := (Kd.R_reads' hr).1
  obtain ⟨g', cap', cur, hv, _, _, _⟩ := ownh hr (by omega)
  injection hv with ha hn1 hc1
  subst ha
  obtain rfl : g' = g := hg _ rfl
  exact stable_gen g' n cap base ok xs w hr hn hok
set_option maxHeartbeats 8000000 in
set_option maxRecDepth 100000 in
theorem sort_big (A : Option Addr) (n cap base : Nat) (ok : Nat → Prop) (xs : List HV) (w : World) (hr : Kd.R kh 41 w base ok (.slice A n cap) xs) (hn : n ≤ 100000000000) (hok : ∀ k, ok k → k < w.heap.size) (g : Nat) (hg : ∀ a, A = some a → a.block = g) :
  Calls Try.prog 71 #[.slice A n cap, .func (.func 72) #[] #[]] w fun e w' => e = .returned (.tuple #[]) ∧ Kd.R kh 41 w' base ok (.slice A n cap) (isort hkey xs) ∧ w.grownBy w' (some g) := by
 have HI := m_ (stable_big A n cap base ok xs w hr hn hok g hg)
 clear hr hok hg
 go_enter Try.func71, Try.ntmps71
 go_wp2_with (go_at_call 103; refine HI.out.mono ?_; rintro e w1 ⟨rfl, hr1, hg1⟩; have HR1 := m_ hr1; have HG1 := m_ hg1; clear hr1 hg1)
 go_end0
 exact ⟨rfl, HR1.out, HG1.out⟩
theorem sort_n2 (A : Option Addr) (n cap base : Nat) (xs : List HV) (w : World) (hr : Kd.R kh 41 w base (fun _ => True) (.slice A n cap) xs) (hn : n ≤ 100000) :
  Calls Try.prog 71 #[.slice A n cap, .func (.func 72) #[] #[]] w fun e w' => e = .returned (.tuple #[]) ∧ Kd.R kh 41 w' base (fun k => base ≤ k ∧ k < w.heap.size) (.slice A n cap) (isort hkey xs) ∧ w.grownBy w' (some (blkOf A w.heap.size)) :=
 sort_big A n cap base _ xs w (Kd.R_mono (Kd.R_bound hr) (fun k hk => ⟨hk.2.1, hk.2.2.1⟩)) (Nat.le_trans hn (by decide)) (fun k hk => hk.2) (blkOf A w.heap.size) (fun a ha => by rw [ha]; rfl)
theorem KP.under {w W W' : World} {S : Nat → Prop} (h : KP W W' S) (hb : Below w.heap.size w W) (hs : ∀ k, S k → w.heap.size ≤ k) : Below w.heap.size w W' :=
 ⟨h.os.trans hb.os, h.tape.trans hb.tape, h.output.trans hb.output, Nat.le_trans hb.size h.kept.1, fun k hk => (h.kept.2 k (Nat.lt_of_lt_of_le hk hb.size) (fun hh => by have := hs k hh; omega)).trans (hb.block k hk)⟩
theorem KP.trans {w W W' : World} {S : Nat → Prop} (h : KP w W S) (h' : KP W W' S) : KP w W' S :=
 ⟨⟨Nat.le_trans h.kept.1 h'.kept.1, fun i hi hs => (h'.kept.2 i (Nat.lt_of_lt_of_le hi h.kept.1) hs).trans (h.kept.2 i hi hs)⟩, h'.os.trans h.os, h'.tape.trans h.tape, h'.output.trans h.output⟩
set_option maxHeartbeats 8000000 in
set_option maxRecDepth 100000 in
theorem early_any (now : Int) (A1 : Option Addr) (c1 : Nat) (l1 : List S51) (lg lc : Int) (A3 : Option Addr) (c3 : Nat) (l3 : List S41) (q m g c mn mx : Int) (w : World) (hr1 : Kd.C k51 w A1 l1.length l1) (hc1 : l1.length ≤ c1) (hr3 : Kd.C k41 w A3 l3.length l3) (hc3 : l3.length ≤ c3)
  (hn : l3.length ≤ 1000) (hv : viewOk l1) (hs : ∀ s ∈ l3.flatMap (fun h => h.f4), maskOk s = true ∧ (w64B s.f0.f0 && w64B s.f0.f1) = true) (hlen : (l3.flatMap fun h => h.f4).length < 4000000000) :
  Calls Try.prog 27 #[.int .i64 now, .slice A1 l1.length c1, .agg #[.int .i64 lg, .int .i64 lc], .slice A3 l3.length c3, .agg #[.int .i64 q, .int .i64 m, .int .i64 g, .int .i64 c, .int .i64 mn, .int .i64 mx]] w fun e w' => e = .returned (.tuple #[.int .i64 (earliestB now l1 lg lc l3 q m g c mn mx).1, .int .i64 (earliestB now l1 lg lc l3 q m g c mn mx).2]) ∧ Below w.heap.size w w' := by
 have hu22 := Try.underlying22
 have hu24 := Try.underlying24
 have hu25 := Try.underlying25
 have hu29 := Try.underlying29
 have hu41 := Try.underlying41
 have HR1 := m_ hr1
 have HR3 := m_ hr3
 have HC1 := m_ hc1
 have HC3 := m_ hc3
 have HN := m_ hn
 have HVO := m_ hv
 have HS := m_ hs
 have HLEN := m_ hlen
 have HRT := m_ (fun w => promise_right.calls q m g c mn mx _ w (right_eq q m g c mn mx))
 clear hr1 hr3 hc1 hc3 hn hv hs hlen
 by_cases hbad : now < 0 ∨ now > 1073741824 ∨ rightB m g c mn mx = false
 ·have HE : earliestB now l1 lg lc l3 q m g c mn mx = (0, 1) := by unfold earliestB; rw [if_pos hbad]
  rw [HE]
  clear HE
  have hRT0 := right_eq q m g c mn mx
  by_cases h0 : now < 0
  ·have d0 : decide (now < 0) = true := by simpa using h0
   clear h0 hbad hRT0
   go_enter Try.func27, Try.ntmps27
   go_wp2_with (first | ((with_reducible refine a3_ (N := 6) rfl ?_); refine bx 6 #[.slice A1 l1.length c1] 22 ?_; intro gv hgv w1 hx1 hb1; have wgv : w.heap.size ≤ gv := (by omega); have hgv2 := c6_ hx1; have HX1 := m_ hx1; have HB1 := m_ hb1; clear hx1 hb1) | ((with_reducible refine a3_ (N := 7) rfl ?_); refine bx 7 #[.int .i64 lg, .int .i64 lc] 24 ?_; intro gl hgl w2 hx2 hb2; have wgl : w.heap.size ≤ gl := (by have := HB1.out.size; omega); have hgl2 := c6_ hx2; have HX1b := m_ (a1_ HX1.out hb2); have HX2 := m_ hx2; have HB2 := m_ (b0_ HB1.out hb2); have hs2 := hb2.size; have nvl : gv ≠ gl := (by omega); clear hx2 hb2) | ((with_reducible refine a3_ (N := 9) rfl ?_); refine bx 9 #[.int .i64 q, .int .i64 m, .int .i64 g, .int .i64 c, .int .i64 mn, .int .i64 mx] 29 ?_; intro gw hgw w3 hx3 hb3; have HX1c := m_ (a1_ HX1b.out hb3); have HX2b := m_ (a1_ HX2.out hb3); have HX3 := m_ hx3; have HB3 := m_ (b0_ HB2.out hb3); have nvw : gv ≠ gw := (by omega); have nlw : gl ≠ gw := (by omega); obtain ⟨f0, f1, f2, f3, f4, f5⟩ := cz6_ ⟨hx3⟩; clear hx3 hb3 hgv hgl hgw hgv2 hgl2 hs2 HX1 HX1b HX2 HB1 HB2) | (go_at_call 68; refine (HRT.out _).mono ?_; rintro e w4 ⟨rfl, hb4⟩; have HX4v := m_ (a1_ HX1c.out hb4); have HX4l := m_ (a1_ HX2b.out hb4); have HX4w := m_ (a1_ HX3.out hb4); have HB4 := m_ (b0_ HB3.out hb4); clear hb4 f0 f1 f2 f3 f4 f5 HX1c HX2b HX3 HB3))
   all_goals go_ret2
   all_goals exact ⟨rfl, HB3.out⟩
  ·have d0 : decide (now < 0) = false := by simpa using h0
   by_cases h1 : now > 1073741824
   ·have d1 : decide (1073741824 < now) = true := by simpa using h1
    clear h0 h1 hbad hRT0
    go_enter Try.func27, Try.ntmps27
    go_wp2_with (first | ((with_reducible refine a3_ (N := 6) rfl ?_); refine bx 6 #[.slice A1 l1.length c1] 22 ?_; intro gv hgv w1 hx1 hb1; have wgv : w.heap.size ≤ gv := (by omega); have hgv2 := c6_ hx1; have HX1 := m_ hx1; have HB1 := m_ hb1; clear hx1 hb1) | ((with_reducible refine a3_ (N := 7) rfl ?_); refine bx 7 #[.int .i64 lg, .int .i64 lc] 24 ?_; intro gl hgl w2 hx2 hb2; have wgl : w.heap.size ≤ gl := (by have := HB1.out.size; omega); have hgl2 := c6_ hx2; have HX1b := m_ (a1_ HX1.out hb2); have HX2 := m_ hx2; have HB2 := m_ (b0_ HB1.out hb2); have hs2 := hb2.size; have nvl : gv ≠ gl := (by omega); clear hx2 hb2) | ((with_reducible refine a3_ (N := 9) rfl ?_); refine bx 9 #[.int .i64 q, .int .i64 m, .int .i64 g, .int .i64 c, .int .i64 mn, .int .i64 mx] 29 ?_; intro gw hgw w3 hx3 hb3; have HX1c := m_ (a1_ HX1b.out hb3); have HX2b := m_ (a1_ HX2.out hb3); have HX3 := m_ hx3; have HB3 := m_ (b0_ HB2.out hb3); have nvw : gv ≠ gw := (by omega); have nlw : gl ≠ gw := (by omega); obtain ⟨f0, f1, f2, f3, f4, f5⟩ := cz6_ ⟨hx3⟩; clear hx3 hb3 hgv hgl hgw hgv2 hgl2 hs2 HX1 HX1b HX2 HB1 HB2) | (go_at_call 68; refine (HRT.out _).mono ?_; rintro e w4 ⟨rfl, hb4⟩; have HX4v := m_ (a1_ HX1c.out hb4); have HX4l := m_ (a1_ HX2b.out hb4); have HX4w := m_ (a1_ HX3.out hb4); have HB4 := m_ (b0_ HB3.out hb4); clear hb4 f0 f1 f2 f3 f4 f5 HX1c HX2b HX3 HB3))
    all_goals go_ret2
    all_goals exact ⟨rfl, HB3.out⟩
   ·have d1 : decide (1073741824 < now) = false := by simpa using h1
    have hr : rightB m g c mn mx = false := by
     rcases hbad with h | h | h
     ·exact absurd h h0
     ·exact absurd h h1
     ·exact h
    rw [hr] at HRT
    clear h0 h1 hbad hRT0 hr
    go_enter Try.func27, Try.ntmps27
    go_wp2_with (first | ((with_reducible refine a3_ (N := 6) rfl ?_); refine bx 6 #[.slice A1 l1.length c1] 22 ?_; intro gv hgv w1 hx1 hb1; have wgv : w.heap.size ≤ gv := (by omega); have hgv2 := c6_ hx1; have HX1 := m_ hx1; have HB1 := m_ hb1; clear hx1 hb1) | ((with_reducible refine a3_ (N := 7) rfl ?_); refine bx 7 #[.int .i64 lg, .int .i64 lc] 24 ?_; intro gl hgl w2 hx2 hb2; have wgl : w.heap.size ≤ gl := (by have := HB1.out.size; omega); have hgl2 := c6_ hx2; have HX1b := m_ (a1_ HX1.out hb2); have HX2 := m_ hx2; have HB2 := m_ (b0_ HB1.out hb2); have hs2 := hb2.size; have nvl : gv ≠ gl := (by omega); clear hx2 hb2) | ((with_reducible refine a3_ (N := 9) rfl ?_); refine bx 9 #[.int .i64 q, .int .i64 m, .int .i64 g, .int .i64 c, .int .i64 mn, .int .i64 mx] 29 ?_; intro gw hgw w3 hx3 hb3; have HX1c := m_ (a1_ HX1b.out hb3); have HX2b := m_ (a1_ HX2.out hb3); have HX3 := m_ hx3; have HB3 := m_ (b0_ HB2.out hb3); have nvw : gv ≠ gw := (by omega); have nlw : gl ≠ gw := (by omega); obtain ⟨f0, f1, f2, f3, f4, f5⟩ := cz6_ ⟨hx3⟩; clear hx3 hb3 hgv hgl hgw hgv2 hgl2 hs2 HX1 HX1b HX2 HB1 HB2) | (go_at_call 68; refine (HRT.out _).mono ?_; rintro e w4 ⟨rfl, hb4⟩; have HX4v := m_ (a1_ HX1c.out hb4); have HX4l := m_ (a1_ HX2b.out hb4); have HX4w := m_ (a1_ HX3.out hb4); have HB4 := m_ (b0_ HB3.out hb4); clear hb4 f0 f1 f2 f3 f4 f5 HX1c HX2b HX3 HB3))
    all_goals go_ret2
    all_goals exact ⟨rfl, HB4.out⟩
 ·have hn0 : ¬ now < 0 := fun h => hbad (.inl h)
  have hn1 : ¬ now > 1073741824 := fun h => hbad (.inr (.inl h))
  have hrt : rightB m g c mn mx = true := by
   cases h : rightB m g c mn mx with
   | true => rfl
   | false => exact absurd (.inr (.inr h)) hbad
  have HE : earliestB now l1 lg lc l3 q m g c mn mx = (if (turned51 moreE moreF l1 (l3.flatMap fun h => h.f4)).2 ≠ 0 then (0, (turned51 moreE moreF l1 (l3.flatMap fun h => h.f4)).2)
   else (goE q m g c mn mx (isort skey41 l3) now l1 (lg, lc), 0)) := by unfold earliestB; rw [if_neg hbad]
  rw [HE]
  rw [hrt] at HRT
  have hm0 := more_eq HVO.out (fun s hs => (HS.out s hs).2)
  have ha0 := all_eq (l3.length + 1) l3 (Nat.le_refl _) (by have := HN.out; omega) (by have := HLEN.out; omega)
  generalize hall : l3.flatMap (fun h => h.f4) = al at *
  generalize hmr : turned51 moreE moreF l1 al = mr at *
  obtain ⟨mv, me⟩ := mr
  have HM := m_ hm0
  have HA := m_ ha0
  have HALL := m_ hall
  clear hm0 ha0 hmr hall
  obtain ⟨ps, hmap, hpC, hsl⟩ := holds_of HR3.out
  have hpl : ps.length = l3.length := by rw [← hmap, List.length_map]
  have hsm : (isort hkey ps).map (fun x => x.1) = isort skey41 l3 := by
   have := isort_map skey41 (fun x : HV => x.1) ps []
   rw [hmap] at this
   exact this
  have HMAP := m_ hmap
  have HPC := m_ hpC
  have HSL := m_ hsl
  have HPL := m_ hpl
  have hwl : wrap64 ((ps.length : Int) + 1) = (ps.length : Int) + 1 := w_id (by have := HN.out; omega)
  rw [← hsm]
  have hperm := isort_perm hkey ps
  obtain ⟨SP, hSP⟩ : ∃ SP, isort hkey ps = SP := ⟨_, rfl⟩
  rw [hSP] at hperm ⊢
  have HSPE := m_ hSP
  have HPERM := m_ hperm
  clear hmap hpC hsl hpl hsm hSP hperm
  have d0 : decide (now < 0) = false := by simpa using hn0
  have d1 : decide (1073741824 < now) = false := by simpa using hn1
  clear HE hbad hrt hn0 hn1
  go_enter Try.func27, Try.ntmps27
  go_wp2_with (first | ((with_reducible refine a3_ (N := 6) rfl ?_); refine bx 6 #[.slice A1 l1.length c1] 22 ?_; intro gv hgv w1 hx1 hb1; have wgv : w.heap.size ≤ gv := (by omega); have hgv2 := c6_ hx1; have HX1 := m_ hx1; have HB1 := m_ hb1; clear hx1 hb1) | ((with_reducible refine a3_ (N := 7) rfl ?_); refine bx 7 #[.int .i64 lg, .int .i64 lc] 24 ?_; intro gl hgl w2 hx2 hb2; have wgl : w.heap.size ≤ gl := (by have := HB1.out.size; omega); have hgl2 := c6_ hx2; have HX1b := m_ (a1_ HX1.out hb2); have HX2 := m_ hx2; have HB2 := m_ (b0_ HB1.out hb2); have hs2 := hb2.size; have nvl : gv ≠ gl := (by omega); clear hx2 hb2) | ((with_reducible refine a3_ (N := 9) rfl ?_); refine bx 9 #[.int .i64 q, .int .i64 m, .int .i64 g, .int .i64 c, .int .i64 mn, .int .i64 mx] 29 ?_; intro gw hgw w3 hx3 hb3; have HX1c := m_ (a1_ HX1b.out hb3); have HX2b := m_ (a1_ HX2.out hb3); have HX3 := m_ hx3; have HB3 := m_ (b0_ HB2.out hb3); have nvw : gv ≠ gw := (by omega); have nlw : gl ≠ gw := (by omega); obtain ⟨f0, f1, f2, f3, f4, f5⟩ := cz6_ ⟨hx3⟩; clear hx3 hb3 hgv hgl hgw hgv2 hgl2 hs2 HX1 HX1b HX2 HB1 HB2) | (go_at_call 68; refine (HRT.out _).mono ?_; rintro e w4 ⟨rfl, hb4⟩; have HX4v := m_ (a1_ HX1c.out hb4); have HX4l := m_ (a1_ HX2b.out hb4); have HX4w := m_ (a1_ HX3.out hb4); have HB4 := m_ (b0_ HB3.out hb4); clear hb4 f0 f1 f2 f3 f4 f5 HX1c HX2b HX3 HB3))
  have k4 : w4.cell? ⟨gv, 0, none⟩ = some (.slice A1 l1.length c1) := (a0_ HX4v.out 0).trans rfl
  go_region_held3 (fun w' => w'.cell? ⟨gv, 0, none⟩ = some (.slice A1 l1.length c1)) (first | exact k4 | assumption) (first | (go_at_call 69; refine (promise_all.calls (l3.length + 1) A3 c3 l3 _ _ (Kd.C_below HR3.out (b8_ HB4.out)) HC3.out HA.out).mono ?_; rintro e w5 ⟨v5, rfl, ho5, hb5⟩; obtain ⟨A5, c5, rfl, hc5, hr5⟩ := Kd.R_reads ho5; have k5 : w5.cell? ⟨gv, 0, none⟩ = some (.slice A1 l1.length c1) := e1_ hb5 k4; have HB5 := m_ (b0_ (b8_ (Below.refl w4.heap.size w4)) hb5); have HR5 := m_ (And.intro hc5 hr5); clear ho5 hb5 hc5 hr5) | (go_at_call 52; refine (pack_More.calls A1 c1 l1 A5 c5 al mv me _ (Kd.C_below HR1.out (b0_ HB4.out HB5.out)) HC1.out HR5.out.2 HR5.out.1 HM.out).mono ?_; rintro e w6 ⟨v6, rfl, ho6, hb6⟩; have k6 : w6.cell? ⟨gv, 0, none⟩ = some (.slice A1 l1.length c1) := e1_ hb6 k5; have HB6 := m_ (b0_ HB5.out hb6); clear ho6 hb6))
  clear k4 k5 k6
  by_cases hme : me = 0
  ·subst hme
   go_wp2_with (first | (go_at_call 70; refine (clone70_n A3 c3 l3.length ps _ HPL.out (Kd.C_below HPC.out (b0_ HB4.out HB6.out)) (by have := HPL.out; have := HN.out; omega)).mono ?_; rintro e w7 ⟨v7, rfl, ho7, hb7⟩; obtain ⟨A7, c7, rfl, hc7, _⟩ := Kd.R_reads ho7; have HO7 := m_ ho7; have HB7 := m_ hb7; clear ho7 hb7 hc7) | (go_at_call 71; refine (sort_n2 A7 ps.length c7 w6.heap.size ps _ HO7.out (by have := HPL.out; have := HN.out; omega)).mono ?_; rintro e w8 ⟨rfl, ho8, hg8⟩; rw [HSPE.out] at ho8; have HO8 := m_ ho8; have HG8 := m_ hg8; clear ho8 hg8))
   have hB6 := b0_ HB4.out HB6.out
   have hB7 := b0_ hB6 HB7.out
   have hbb := blkOf_base HO7.out HB7.out.size
   have hs46 := HB6.out.size
   have gv4 := c6_ HX4v.out
   have gl4 := c6_ HX4l.out
   have gw4 := c6_ HX4w.out
   have hB8 : Below w.heap.size w w8 := hB7.grown HG8.out hB7.size (fun k e => by cases e; have := HB4.out.size; omega)
   have hmv : ∀ k, k < w4.heap.size → w8.heap[k]? = w4.heap[k]? := fun k hk => by
    rw [HG8.out.block k (by have := HB7.out.size; omega) (fun e => by cases e; omega), HB7.out.block k (by omega), HB6.out.block k hk]
   have HXv := m_ ((hmv gv gv4).trans HX4v.out)
   have HXl := m_ ((hmv gl gl4).trans HX4l.out)
   have HXw := m_ ((hmv gw gw4).trans HX4w.out)
   have HFv := m_ (Kd.F_mono (ok' := fun k => k ≠ gv ∧ k ≠ gl) (Foot.step (Kd.C_F k51_heap HR1.out) (fun k hk _ => hB8.block k hk)) (fun k hk => ⟨by omega, by omega⟩))
   have HSO := m_ (fun (x : HV) (hx : x ∈ SP) => (show SlotsOk w8 (fun k => k ≠ gv ∧ k ≠ gl) x from
    let h0 := HSL.out x (HPERM.out.mem_iff.1 hx)
    ⟨h0.1, h0.2.1, Kd.F_mono (Foot.step h0.2.2 (fun k hk _ => hB8.block k hk)) (fun k hk => ⟨by omega, by omega⟩)⟩))
   have HMK := m_ (fun (x : HV) (hx : x ∈ SP) (s : S52) (hs : s ∈ x.1.f4) => HS.out s (by
    rw [← HALL.out]
    refine List.mem_flatMap.2 ⟨x.1, ?_, hs⟩
    rw [← HMAP.out]
    exact List.mem_map.2 ⟨x, HPERM.out.mem_iff.1 hx, rfl⟩))
   have HLS := m_ (HPERM.out.length_eq)
   have HPN := m_ (show ps.length ≤ 1000 by have := HPL.out; have := HN.out; omega)
   have HB8 := m_ hB8
   have HBS := m_ (show gv < w6.heap.size ∧ gl < w6.heap.size ∧ gw < w6.heap.size by omega)
   clear hB6 hB7 hbb hs46 gv4 gl4 gw4 hB8 hmv HO7 HB7 HG8 HX4v HX4l HX4w
   rw [hwl]
   go_loopw [48, 16] (fun v48 v16 wr => ∃ (k : Nat) (t : Int) (view : List S51) (left : Int × Int) (Av : Option Addr) (cv : Nat), k ≤ SP.length ∧ v48 = .int .i64 (k : Int) ∧ v16 = .int .i64 t ∧
    A_ (goE q m g c mn mx (SP.map (fun x => x.1)) now l1 (lg, lc) = goE q m g c mn mx ((SP.drop k).map (fun x => x.1)) t view left) ∧
    A_ (wr.heap[gv]? = some (.cells #[.slice Av view.length cv] 22 (0, 0))) ∧ A_ (wr.heap[gl]? = some (.cells #[.int .i64 left.1, .int .i64 left.2] 24 (0, 0))) ∧ A_ (wr.heap[gw]? = some (.cells #[.int .i64 q, .int .i64 m, .int .i64 g, .int .i64 c, .int .i64 mn, .int .i64 mx] 29 (0, 0))) ∧
    A_ (Kd.F k51 wr (fun k => k ≠ gv ∧ k ≠ gl) Av view.length view) ∧ A_ (view.length ≤ cv) ∧ A_ (viewOk view) ∧ A_ (∀ x ∈ SP, SlotsOk wr (fun k => k ≠ gv ∧ k ≠ gl) x) ∧
    A_ (Kd.R kh 41 wr w6.heap.size (fun k => w6.heap.size ≤ k) (.slice A7 ps.length c7) SP) ∧ A_ (Below w.heap.size w wr)) (fun v48 _ _ => SP.length + 1 - (intOf v48).toNat)
   case atStart => exact ⟨0, now, l1, (lg, lc), A1, c1, Nat.zero_le _, rfl, rfl, ⟨rfl⟩, HXv, HXl, HXw, HFv, HC1, HVO, HSO, ⟨Kd.R_mono HO8.out (fun _ hk => hk.1)⟩, HB8⟩
   case round =>
    clear HXv HXl HXw HFv HSO HO8 HB8
    obtain ⟨k, t, view, ⟨lg', lc'⟩, Av, cv, hk, rfl, rfl, HG, HXV, HXL, HXW, HFV, HCV, HVW, HSP, HRW, HBW⟩ := hrel
    have hspl : SP.length = ps.length := HLS.out
    have hpn := HPN.out
    have HFit := fits_eq (view.length + 1) view lg' lc' q m g c mn mx (Nat.le_refl _) (by have := HVW.out.1; omega) HVW.out.2.1
    have HCF := m_ (promise_Fits.calls (view.length + 1) Av cv view lg' lc' q m g c mn mx _ wr (Kd.F_now HFV.out) HCV.out HFit)
    have fv : wr.cell? ⟨gv, 0, none⟩ = some (.slice Av view.length cv) := (a0_ HXV.out 0).trans rfl
    obtain ⟨fl0, fl1⟩ := cz2_ HXL
    obtain ⟨fw0, fw1, fw2, fw3, fw4, fw5⟩ := cz6_ HXW
    clear HFit
    by_cases hkn : k = SP.length
    ·have h1 : (k : Int) < (ps.length : Int) + 1 := by omega
     have h2 : ((k : Int) == (ps.length : Int)) = true := by simp; omega
     rw [List.drop_eq_nil_of_le (by omega)] at HG
     simp only [List.map_nil, goE] at HG
     cases hf : fitsB view lg' lc' m g c mn mx with
     | true =>
      rw [hf] at HCF
      rw [hf, if_pos rfl] at HG
      clear hf hkn
      go_wp2_with (go_at_call 29; refine HCF.out.mono ?_; rintro e w9 ⟨rfl, hb9⟩; have HB9 := m_ (b0_ HBW.out hb9); clear hb9)
      all_goals go_ret2
      all_goals exact ⟨by rw [HG.out]; rfl, HB9.out⟩
     | false =>
      rw [hf] at HCF
      rw [hf, if_neg (by decide)] at HG
      clear hf hkn
      go_wp2_with (go_at_call 29; refine HCF.out.mono ?_; rintro e w9 ⟨rfl, hb9⟩; have HB9 := m_ (b0_ HBW.out hb9); clear hb9)
      all_goals go_ret2
      all_goals exact ⟨by rw [HG.out]; rfl, HB9.out⟩
    ·have hkl : k < SP.length := by omega
     have h1 : (k : Int) < (ps.length : Int) + 1 := by omega
     have h2 : ((k : Int) == (ps.length : Int)) = false := by simp; omega
     have h3 : (k : Int) < (ps.length : Int) := by omega
     have h4 : (0 : Int) ≤ (k : Int) := by omega
     obtain ⟨g7, cap7, cur7, hv7, hok7, _, hh7⟩ := ownh HRW.out (by omega)
     injection hv7 with ha7 hn7 hc7
     subst ha7
     clear hn7 hc7
     have hget := List.getElem?_eq_getElem hkl
     obtain ⟨y0, y1, y2, y3, y4⟩ := at_kh HRW.out k SP[k] hget
     have hSx := HSP.out SP[k] (List.getElem_mem hkl)
     have hMx := HMK.out SP[k] (List.getElem_mem hkl)
     rw [List.drop_eq_getElem_cons hkl, List.map_cons, goE] at HG
     generalize SP[k] = x at *
     have HSX := m_ hSx
     have HMX := m_ hMx
     clear hget hSx hMx hkn
     have hmv1 := more_eq HVW.out (fun s hs => (HMX.out s hs).2)
     have hvok := turned51_ok HVW.out (fun s hs => (HMX.out s hs).1)
     generalize turned51 moreE moreF view x.1.f4 = mr2 at *
     obtain ⟨v2, e2⟩ := mr2
     have HMV := m_ hmv1
     have HVOK := m_ hvok
     clear hmv1 hvok
     have hwk : ∀ k, (k = gv ∨ k = gl) → w.heap.size ≤ k := fun k hk => by rcases hk with rfl | rfl <;> omega
     by_cases hgt : x.1.f2 > t
     ·have b3 : decide (t < x.1.f2) = true := by simpa using hgt
      rw [if_pos hgt] at HG
      clear hgt
      cases hf : fitsB view lg' lc' m g c mn mx with
      | true =>
       rw [hf] at HCF
       rw [hf, if_pos rfl] at HG
       clear hf
       go_wp2_with (go_at_call 29; refine HCF.out.mono ?_; rintro e w9 ⟨rfl, hb9⟩; have HB9 := m_ (b0_ HBW.out hb9); clear hb9)
       all_goals go_ret2
       all_goals exact ⟨by rw [HG.out]; rfl, HB9.out⟩
      | false =>
       rw [hf] at HCF
       rw [hf, if_neg (by decide)] at HG
       clear hf
       by_cases hge : x.1.f2 ≥ 1073741825
       ·have b4 : decide ((1073741825 : Int) ≤ x.1.f2) = true := by simpa using hge
        rw [if_pos hge] at HG
        clear hge
        go_wp2_with (go_at_call 29; refine HCF.out.mono ?_; rintro e w9 ⟨rfl, hb9⟩; have z2 := e1_ hb9 y2; have HB9 := m_ (b0_ HBW.out hb9); clear hb9)
        all_goals go_ret2
        all_goals exact ⟨by rw [HG.out]; rfl, HB9.out⟩
       ·have b4 : decide ((1073741825 : Int) ≤ x.1.f2) = false := by simpa using hge
        rw [if_neg hge] at HG
        clear hge
        go_wp2_with (first | (go_at_call 29; refine HCF.out.mono ?_; rintro e w8b ⟨rfl, hb8⟩; have z0 := e1_ hb8 y0; have z1 := e1_ hb8 y1; have z2 := e1_ hb8 y2; have z3 := e1_ hb8 y3; have z4 := e1_ hb8 y4; have HK8 := m_ (KP.below (KP.refl wr (fun k => k = gv ∨ k = gl)) hb8); have HXV8 := m_ (a1_ HXV.out hb8); have HXW8 := m_ (a1_ HXW.out hb8); have HXL8 := m_ (a1_ HXL.out hb8); have HFV8 := m_ (Kd.F_below HFV.out hb8); have HSX8 := m_ (show SlotsOk w8b (fun k => k ≠ gv ∧ k ≠ gl) x from ⟨HSX.out.1, HSX.out.2.1, Kd.F_below HSX.out.2.2 hb8⟩); clear hb8) | (go_at_call 74; refine (end_any gv gw gl x view Av cv q m g c mn mx lg' lc' v2 e2 w8b HXV8.out HXW8.out HXL8.out nvw nvl (fun e => nlw e.symm) HFV8.out HCV.out HSX8.out (fun s hs => (HMX.out s hs).1) HMV.out).mono ?_; rintro e w9 ⟨rfl, hk9, ⟨A9, c9, hv9, hc9, hf9⟩, hl9⟩; have HK9b := m_ hk9; have HV9 := m_ hv9; have HC9 := m_ hc9; have HF9 := m_ hf9; have HL9 := m_ hl9; clear hk9 hv9 hc9 hf9 hl9))
        have HK9 := m_ (HK8.out.trans HK9b.out)
        have HB9 := m_ (HK9.out.under HBW.out hwk)
        have HW9 := m_ (blk_kept HXW.out HK9.out.kept (fun h => by rcases h with h | h; exact nvw h.symm; exact nlw h.symm))
        have HS9 := m_ (fun (z : HV) (hz : z ∈ SP) => (show SlotsOk w9 (fun k => k ≠ gv ∧ k ≠ gl) z from ⟨(HSP.out z hz).1, (HSP.out z hz).2.1, Kd.F_kept (HSP.out z hz).2.2 HK9.out.kept (fun k hk hs => by rcases hs with h | h; exact hk.1 h; exact hk.2 h)⟩))
        have HR9 := m_ (Kd.R_kept HRW.out HK9.out.kept (fun k hk hs => by have := HBS.out; rcases hs with h | h <;> omega))
        go_roundw
        case rel => exact ⟨k + 1, x.1.f2, v2, _, A9, c9, by omega, by go_num, rfl, HG, HV9, HL9, HW9, HF9, HC9, HVOK, HS9, HR9, HB9⟩
        case measure => simp [intOf]; omega
     ·have b3 : decide (t < x.1.f2) = false := by simpa using hgt
      rw [if_neg hgt] at HG
      clear hgt
      go_wp2_with (first | (go_at_call 74; refine (end_any gv gw gl x view Av cv q m g c mn mx lg' lc' v2 e2 wr HXV.out HXW.out HXL.out nvw nvl (fun e => nlw e.symm) HFV.out HCV.out HSX.out (fun s hs => (HMX.out s hs).1) HMV.out).mono ?_; rintro e w9 ⟨rfl, hk9, ⟨A9, c9, hv9, hc9, hf9⟩, hl9⟩; have HK9 := m_ hk9; have HV9 := m_ hv9; have HC9 := m_ hc9; have HF9 := m_ hf9; have HL9 := m_ hl9; clear hk9 hv9 hc9 hf9 hl9))
      have HB9 := m_ (HK9.out.under HBW.out hwk)
      have HW9 := m_ (blk_kept HXW.out HK9.out.kept (fun h => by rcases h with h | h; exact nvw h.symm; exact nlw h.symm))
      have HS9 := m_ (fun (z : HV) (hz : z ∈ SP) => (show SlotsOk w9 (fun k => k ≠ gv ∧ k ≠ gl) z from ⟨(HSP.out z hz).1, (HSP.out z hz).2.1, Kd.F_kept (HSP.out z hz).2.2 HK9.out.kept (fun k hk hs => by rcases hs with h | h; exact hk.1 h; exact hk.2 h)⟩))
      have HR9 := m_ (Kd.R_kept HRW.out HK9.out.kept (fun k hk hs => by have := HBS.out; rcases hs with h | h <;> omega))
      go_roundw
      case rel => exact ⟨k + 1, t, v2, _, A9, c9, by omega, by go_num, rfl, HG, HV9, HL9, HW9, HF9, HC9, HVOK, HS9, HR9, HB9⟩
      case measure => simp [intOf]; omega
  ·have bme : (me == 0) = false := by simpa using hme
   go_wp2
   go_ret2
   exact ⟨by simp [hme], b0_ HB4.out HB6.out⟩
theorem okE_out {view : List S51} {ends : List S41} (h : okE view ends = true) : ends.length ≤ 1000 ∧ viewOk view ∧ (∀ s ∈ ends.flatMap (fun h => h.f4), maskOk s = true ∧ (w64B s.f0.f0 && w64B s.f0.f1) = true) ∧ (ends.flatMap fun h => h.f4).length < 4000000000 := by
 unfold okE spotsOk at h
 rw [Bool.and_eq_true, Bool.and_eq_true, Bool.and_eq_true, Bool.and_eq_true, Bool.and_eq_true, Bool.and_eq_true] at h
 obtain ⟨⟨⟨⟨h1, ⟨h2, h3⟩, h4⟩, h5⟩, h6⟩, h7⟩ := h
 exact ⟨of_decide_eq_true h1, ⟨of_decide_eq_true h2, fun f hf => List.all_eq_true.1 h5 f hf, fun f hf => List.all_eq_true.1 h3 f hf⟩, fun s hs => ⟨List.all_eq_true.1 h6 s hs, List.all_eq_true.1 h4 s hs⟩, of_decide_eq_true h7⟩
theorem promise_Earliest.calls (a0 : Int) (A1 : Option Addr) (c1 : Nat) (l1 : List (S51)) (a2_0 a2_1 : Int) (A3 : Option Addr) (c3 : Nat) (l3 : List (S41)) (a4_0 a4_1 a4_2 a4_3 a4_4 a4_5 r1 r2 : Int) (w : World) (hr1 : Kd.C k51 w A1 l1.length l1) (hc1 : l1.length ≤ c1) (hr3 : Kd.C k41 w A3 l3.length l3) (hc3 : l3.length ≤ c3) (h : promise_Earliest.f a0 l1 a2_0 a2_1 l3 a4_0 a4_1 a4_2 a4_3 a4_4 a4_5 = some (r1, r2)) :
  Calls Try.prog 27 #[.int .i64 a0, .slice A1 l1.length c1, .agg #[.int .i64 a2_0, .int .i64 a2_1], .slice A3 l3.length c3, .agg #[.int .i64 a4_0, .int .i64 a4_1, .int .i64 a4_2, .int .i64 a4_3, .int .i64 a4_4, .int .i64 a4_5]] w fun e w' => e = .returned (.tuple #[.int .i64 r1, .int .i64 r2]) ∧ Below w.heap.size w w' := by
 unfold promise_Earliest.f at h
 by_cases ho : okE l1 l3 = true
 ·rw [if_pos ho] at h
  obtain ⟨h1, h2, h3, h4⟩ := okE_out ho
  have e := Option.some.inj h
  have e1 : r1 = (earliestB a0 l1 a2_0 a2_1 l3 a4_0 a4_1 a4_2 a4_3 a4_4 a4_5).1 := by rw [e]
  have e2 : r2 = (earliestB a0 l1 a2_0 a2_1 l3 a4_0 a4_1 a4_2 a4_3 a4_4 a4_5).2 := by rw [e]
  rw [e1, e2]
  exact early_any a0 A1 c1 l1 a2_0 a2_1 A3 c3 l3 a4_0 a4_1 a4_2 a4_3 a4_4 a4_5 w hr1 hc1 hr3 hc3 h1 h2 h3 h4
 ·rw [if_neg ho] at h; cases h
end Go.Proofs.Ytckhjehibjdjdaa.P
