/- PackLeft: part 2 of the walk and of the plain law that it comes to. No condition. -/
import Derived.Test.YtckhjehibjdjdaaZPackLeft1
import Derived.ArgAppend
import Derived.Below
import Derived.BigQuiet
import Derived.BigRegion
import Derived.Carry
import Derived.Deep.AppendLies
import Derived.Deep.CutBlock
import Derived.Deep.DeepCutAuto
import Derived.Deep.Draws
import Derived.Deep.LoopGhost
import Derived.Deep.OwnRows
import Derived.Deep.QuietTactic
import Derived.Deep.RegionHeld3
import Derived.Deep.Slices
import Derived.DeepKeys3
import Derived.KernelRfl
import Derived.Laws.Bits64
import Derived.Laws.Bits64b
import Derived.Laws.BitsLemmas
import Derived.Laws.BytesArg
import Derived.Laws.Externs
import Derived.Laws.IdiomCopy
import Derived.Laws.MakeOwn
import Derived.Laws.OwnMore
import Derived.Laws.Rows
import Derived.Laws.Slices
import Derived.Lib.AppendStr
import Derived.Lib.ConvBytes
import Derived.Lib.ReflectliteSlice
import Derived.Lib.ReflectliteSwap
import Derived.Lib.SliceRun
import Derived.LoopIn
import Derived.LoopN
import Derived.LoopNIn
import Derived.Maps.AppendAt
import Derived.Maps.Keyed
import Derived.Maps.Own
import Derived.Maps.OwnOps
import Derived.Maps.OwnSet
import Derived.Maps.Views
import Derived.OrdersHeld
import Derived.Outline
import Derived.OwnWalk
import Derived.OwnWalkIn
import Derived.ProofKit
import Derived.RangeFuncBound
import Derived.RangeFuncBox
import Derived.RangeFuncCalls
import Derived.RangeFuncFrom
import Derived.RangeFuncLeaves
import Derived.RowKit
import Derived.RowKit3
import Derived.Shelf.Abstract
import Derived.Shelf.RegionOpen
import Derived.StillTailTactics
import Derived.Tactics
import Derived.TacticsInMore
import Derived.WalkKit
import Derived.WideLaws
namespace Go.Proofs.Ytckhjehibjdjdaa.P
open Go.RowKit Go.Proofs.YtckhjehibjdjdaaW.PrintWords Go.Proofs.YtckhjehibjdjdaaW.PrintLast Go.Proofs.YtckhjehibjdjdaaW.PrintMore
attribute [local go_sem] max2_int min2_int max_two min_two max_three min_three max_four min_four
set_option linter.unusedVariables false
set_option linter.unusedSimpArgs false
end Go.Proofs.Ytckhjehibjdjdaa.P
namespace Go.Proofs.Ytckhjehibjdjdaa.P
open Go.RowKit Go.Proofs.YtckhjehibjdjdaaW.PrintWords
open Go.Proofs.Ytckhjehibjdjdaa.Bits Go.Proofs.Ytckhjehibjdjdaa.Mp
set_option linter.unusedVariables false
set_option linter.unusedSimpArgs false
theorem w_id {x : Int} (h : -9223372036854775808 ≤ x ∧ x ≤ 9223372036854775807) : wrap64 x = x := by unfold wrap64; omega
theorem rd51' (l : List S51) (i : Nat) (h : i < l.length) : rd_T51 l (i : Int) = l[i] := by
 simp [rd_T51, List.getD_eq_getElem?_getD, List.getElem?_eq_getElem h]
def freeOk (f : S51) : Bool := decide (0 ≤ f.f1) && decide (f.f1 < 18446744073709551616) && w64B f.f2
theorem eachI_nn {a b : Int} (ha : 0 ≤ a) (hb : 0 ≤ b) : 0 ≤ eachI a b := by
 unfold eachI; split
 ·omega
 ·exact Int.ediv_nonneg ha hb
theorem fitV_bd (g c mn mx m cp : Int) : 0 ≤ fitV g c mn mx m cp ∧ fitV g c mn mx m cp ≤ 16 := by
 unfold fitV
 split
 ·rename_i h
  have hg := h.1
  simp only [goodShape, Bool.and_eq_true, decide_eq_true_eq] at hg
  have h1 := eachI_nn (popI_bd m).1 (show 0 ≤ g by omega)
  have h2 := eachI_nn h.2 (show 0 ≤ c by omega)
  unfold fitN
  omega
 ·omega
def roomS (g c mn mx : Int) (view : List S51) : Int := (view.map fun f => fitV g c mn mx f.f1 f.f2).sum
theorem roomS_bd (g c mn mx : Int) : ∀ view : List S51, 0 ≤ roomS g c mn mx view ∧ roomS g c mn mx view ≤ 16 * view.length
 | [] => by simp [roomS]
 | f :: l => by
  have := roomS_bd g c mn mx l
  have hb := fitV_bd g c mn mx f.f1 f.f2
  simp only [roomS, List.map_cons, List.sum_cons, List.length_cons] at *
  omega
theorem room_l (g c mn mx : Int) (n : Nat) : ∀ (k : Nat) (view : List S51) (s : Int) (i : Nat), view.length ≤ 4398046511104 → (∀ f ∈ view, freeOk f = true) → i ≤ view.length → view.length - i = n → n + 1 ≤ k → 0 ≤ s → s ≤ 16 * i →
  pack_Room.l0 k s view (view.length : Int) (i : Int) g c mn mx = some (s + roomS g c mn mx (view.drop i)) := by
 induction n with
 | zero =>
  intro k view s i hl hv hi hn hk h0 hs
  obtain ⟨k, rfl⟩ : ∃ m, k = m + 1 := ⟨k - 1, by omega⟩
  rw [pack_Room.l0, if_neg (by omega), List.drop_eq_nil_of_le (by omega)]
  simp [roomS]
 | succ n ih =>
  intro k view s i hl hv hi hn hk h0 hs
  obtain ⟨k, rfl⟩ : ∃ m, k = m + 1 := ⟨k - 1, by omega⟩
  have hil : i < view.length := by omega
  have hf := hv _ (List.getElem_mem hil)
  simp only [freeOk, w64B, Bool.and_eq_true, decide_eq_true_eq] at hf
  have hb := fitV_bd g c mn mx (view[i]).f1 (view[i]).f2
  have e1 : (i : Int) + 1 = ((i + 1 : Nat) : Int) := by omega
  have hfit : shape_Fits.f g c mn mx (view[i]).f0.f0 (view[i]).f0.f1 (view[i]).f1 (view[i]).f2 = some (fitV g c mn mx (view[i]).f1 (view[i]).f2) := by
   unfold shape_Fits.f; rw [if_pos ⟨hf.1.1, hf.1.2, hf.2.2⟩]
  rw [pack_Room.l0, if_pos (by omega), if_pos (by omega), if_pos (by omega), rd51' view i hil, hfit, Option.bind_some, w_id (by omega), w_id (by omega), e1,
   ih k view _ (i + 1) hl hv (by omega) (by omega) (by omega) (by omega) (by omega), List.drop_eq_getElem_cons hil]
  simp only [roomS, List.map_cons, List.sum_cons]
  congr 1
  omega
theorem room_eq (k : Nat) (view : List S51) (g c mn mx : Int) (hk : view.length + 1 ≤ k) (hl : view.length ≤ 4398046511104) (hv : ∀ f ∈ view, freeOk f = true) :
  pack_Room.f k view g c mn mx = some (roomS g c mn mx view) := by
 have := room_l g c mn mx view.length k view 0 0 hl hv (by omega) (by omega) hk (by omega) (by omega)
 rw [List.drop_zero] at this
 unfold pack_Room.f
 rw [show ((0 : Nat) : Int) = 0 from rfl] at this
 rw [this]; simp
def rightB (m g c mn mx : Int) : Bool := goodShape g c mn mx && decide (1 ≤ m) && decide (m ≤ 16)
def fitsB (view : List S51) (lg lc m g c mn mx : Int) : Bool := rightB m g c mn mx && decide (g * m ≤ lg) && decide (c * m ≤ lc) && decide (m ≤ roomS g c mn mx view)
def goE (q m g c mn mx : Int) : List S41 → Int → List S51 → Int × Int → Int
 | [], t, view, left => if fitsB view left.1 left.2 m g c mn mx = true then t else 1073741825
 | h :: l, t, view, left =>
  if h.f2 > t then
   if fitsB view left.1 left.2 m g c mn mx = true then t
   else if h.f2 ≥ 1073741825 then 1073741825
   else goE q m g c mn mx l h.f2 (turned51 moreE moreF view h.f4).1 (addL (decide (h.f1 = q)) left h.f4)
  else goE q m g c mn mx l t (turned51 moreE moreF view h.f4).1 (addL (decide (h.f1 = q)) left h.f4)
def skey41 (h : S41) : Int := h.f2
def earliestB (now : Int) (view : List S51) (lg lc : Int) (ends : List S41) (q m g c mn mx : Int) : Int × Int :=
 if now < 0 ∨ now > 1073741824 ∨ rightB m g c mn mx = false then (0, 1)
 else if (turned51 moreE moreF view (ends.flatMap fun h => h.f4)).2 ≠ 0 then (0, (turned51 moreE moreF view (ends.flatMap fun h => h.f4)).2)
 else (goE q m g c mn mx (isort skey41 ends) now view (lg, lc), 0)
def okE (view : List S51) (ends : List S41) : Bool := decide (ends.length ≤ 1000) && spotsOk view (ends.flatMap fun h => h.f4) && view.all freeOk && (ends.flatMap fun h => h.f4).all maskOk && decide ((ends.flatMap fun h => h.f4).length < 4000000000)
def promise_Earliest.f (now : Int) (view : List S51) (lg lc : Int) (ends : List S41) (q m g c mn mx : Int) : Option (Int × Int) := if okE view ends = true then some (earliestB now view lg lc ends q m g c mn mx) else none
theorem or_u64 {a b : Int} (ha : 0 ≤ a ∧ a < 18446744073709551616) (hb : 0 ≤ b ∧ b < 18446744073709551616) : 0 ≤ Go.bits .or .u64 a b ∧ Go.bits .or .u64 a b < 18446744073709551616 := by
 obtain ⟨x, rfl⟩ := Int.eq_ofNat_of_zero_le ha.1
 obtain ⟨y, rfl⟩ := Int.eq_ofNat_of_zero_le hb.1
 rw [bits_or_u64_nat x y (by omega) (by omega)]
 have := Nat.or_lt_two_pow (x := x) (y := y) (n := 64) (by omega) (by omega)
 omega
theorem w64_wrap (x : Int) : w64B (wrap64 x) = true := by unfold w64B wrap64; simp; omega
def viewOk (view : List S51) : Prop := view.length < 4398046511104 ∧ (∀ f ∈ view, freeOk f = true) ∧ ∀ f ∈ view, (w64B f.f0.f0 && w64B f.f0.f1) = true
theorem moreF_ok {f : S51} {s : S52} (hf : freeOk f = true) (hs : maskOk s = true) : freeOk (moreF f s) = true := by
 simp only [freeOk, maskOk, Bool.and_eq_true, decide_eq_true_eq] at *
 have := or_u64 hf.1 hs
 exact ⟨this, w64_wrap _⟩
end Go.Proofs.Ytckhjehibjdjdaa.P
namespace Go.Proofs.Ytckhjehibjdjdaa.P
open Go.RowKit Go.Shelf Go.Proofs.YtckhjehibjdjdaaW.PrintWords Go.Proofs.YtckhjehibjdjdaaW.PrintLast Go.Proofs.YtckhjehibjdjdaaW.PrintMore
attribute [local go_sem] Oper.semAt_some
set_option linter.unusedVariables false
set_option linter.unusedSimpArgs false
def enc51 (x : S51) : List Value := [.int .i64 x.f0.f0, .int .i64 x.f0.f1, .int .u64 x.f1, .int .i64 x.f2]
theorem row51 {W : World} {base g n cap i : Nat} {ok : Nat → Prop} {xs : List S51} {x : S51} (h : Kd.R k51 51 W base ok (.slice (some ⟨g, 0, none⟩) n cap) xs) (hx : xs[i]? = some x) :
  W.cell? ⟨g, i * 4, none⟩ = some (.int .i64 x.f0.f0) ∧ W.cell? ⟨g, i * 4 + 1, none⟩ = some (.int .i64 x.f0.f1) ∧ W.cell? ⟨g, i * 4 + 2, none⟩ = some (.int .u64 x.f1) ∧ W.cell? ⟨g, i * 4 + 3, none⟩ = some (.int .i64 x.f2) := by
 obtain ⟨hn, _, hC⟩ := Kd.R_reads' h
 have hi : i < xs.length := (List.getElem?_eq_some_iff.1 hx).1
 obtain ⟨ad, e0, hc⟩ := hC.2.2 (by omega)
 cases e0
 obtain ⟨c, hl, hK, hcell⟩ := hc i x hx
 obtain rfl := k51_open hK
 have hsz : k51.sz = 4 := rfl
 rw [hsz] at hcell
 simp only [add_plain, Nat.zero_add] at hcell
 exact ⟨hcell 0 _ rfl, hcell 1 _ rfl, hcell 2 _ rfl, hcell 3 _ rfl⟩
theorem put51 {W : World} {base g n cap : Nat} {ok : Nat → Prop} {xs : List S51} (h : Kd.R k51 51 W base ok (.slice (some ⟨g, 0, none⟩) n cap) xs) (i : Nat) (hi : i < n) (x : S51) :
  Kd.R k51 51 (W.setCells g (i * 4) (enc51 x)) base ok (.slice (some ⟨g, 0, none⟩) n cap) (xs.set i x) ∧ W.grownBy (W.setCells g (i * 4) (enc51 x)) (some g) := by
 obtain ⟨hn, _, hC⟩ := Kd.R_reads' h
 have hsz : k51.sz = 4 := rfl
 obtain ⟨c0, c1, c2, c3⟩ := row51 h (List.getElem?_eq_getElem (show i < xs.length by omega))
 have := Kd.R_seg h (i : Int) (by omega) (by omega) (c := enc51 xs[i]) (seg := enc51 x) (j := 0) rfl (by
  intro j u hu
  rw [Int.toNat_natCast, hsz]
  match j, hu with
  | 0, hu => cases hu; exact c0
  | 1, hu => cases hu; exact c1
  | 2, hu => cases hu; exact c2
  | 3, hu => cases hu; exact c3
  | j + 4, hu => simp [enc51] at hu) (by rw [hsz]; simp [enc51]) (x' := x) (okp := fun _ => False) (by
   have := k51_mkM W base (fun _ => False) x
   simpa [enc51] using this) (fun _ h => h.elim)
 rw [Int.toNat_natCast, hsz, Nat.add_zero] at this
 exact this
def T86 : Bool × List (List Nat × List Nat) := (true, [([], []), ([], []), ([], []), ([1, 2], [1, 2]), ([3], [3]), ([0, 4], [0, 4]), ([], []), ([], []), ([], []), ([7, 8], [7, 8]), ([9], [9]), ([6, 10, 5], [6, 10]), ([5, 11, 11], [5, 11]), ([12], [12]), ([13, 12, 0, 1, 2, 3, 4, 5, 6, 7, 8, 9, 10, 11, 12, 13], [13])])
def B86 : List Nat := [0, 0, 0, 6, 14, 31, 0, 0, 0, 384, 896, 2047, 4095, 8191, 16383]
theorem tab86 : rtab .any (opsOf Try.f86 1) = T86 := by kernel_rfl
theorem bits86 : waitsOk T86.2 B86 = true := by kernel_rfl
set_option maxHeartbeats 8000000 in
set_option maxRecDepth 100000 in
theorem lessPlace (base : Nat) (ok : Nat → Prop) (g gs gl n c i j : Nat) (s0_ s1_ s2_ s3_ : Int) (xs : List S51) (x y : S51) (W : World) (hgs : W.heap[gs]? = some (.cells #[.int .i64 s0_, .int .i64 s1_, .int .i64 s2_, .int .i64 s3_] 27 (0, 0))) (hgl : W.heap[gl]? = some (.cells #[.slice (some ⟨g, 0, none⟩) n c] 22 (0, 0)))
  (hrw : Kd.R k51 51 W base ok (.slice (some ⟨g, 0, none⟩) n c) xs) (hx : xs[i]? = some x) (hy : xs[j]? = some y) (hn : n ≤ 1000000) (fx : freeOk x = true) (fy : freeOk y = true) :
  Calls Try.prog 86 #[.int .i64 i, .int .i64 j, .pointer (some ⟨gs, 0, none⟩), .pointer (some ⟨gl, 0, none⟩)] W fun e w' => e = .returned (.bool (decide (fitV s0_ s1_ s2_ s3_ x.f1 x.f2 > fitV s0_ s1_ s2_ s3_ y.f1 y.f2))) ∧ Below W.heap.size W w' := by
 have hu27 := Try.underlying27
 have hu22 := Try.underlying22
 have hu51 := Try.underlying51
 have hl := (Kd.R_reads' hrw).1
 have hib : i < xs.length := (List.getElem?_eq_some_iff.1 hx).1
 have hjb : j < xs.length := (List.getElem?_eq_some_iff.1 hy).1
 have i0 : (i : Int) < n := by omega
 have j0 : (j : Int) < n := by omega
 have fx' : 0 ≤ x.f1 ∧ x.f1 < 18446744073709551616 ∧ x.f2 ≤ 9223372036854775807 := by simp only [freeOk, w64B, Bool.and_eq_true, decide_eq_true_eq] at fx; omega
 have fy' : 0 ≤ y.f1 ∧ y.f1 < 18446744073709551616 ∧ y.f2 ≤ 9223372036854775807 := by simp only [freeOk, w64B, Bool.and_eq_true, decide_eq_true_eq] at fy; omega
 have HFX := Aside0.mk (show shape_Fits.f s0_ s1_ s2_ s3_ x.f0.f0 x.f0.f1 x.f1 x.f2 = some (fitV s0_ s1_ s2_ s3_ x.f1 x.f2) from if_pos fx')
 have HFY := Aside0.mk (show shape_Fits.f s0_ s1_ s2_ s3_ y.f0.f0 y.f0.f1 y.f1 y.f2 = some (fitV s0_ s1_ s2_ s3_ y.f1 y.f2) from if_pos fy')
 have HGS := Aside0.mk (show W.drew.heap[gs]? = _ from hgs)
 have HGL := Aside0.mk (show W.drew.heap[gl]? = _ from hgl)
 have HRW := Aside0.mk (Kd.R_drew hrw)
 have HX := Aside0.mk hx
 have HY := Aside0.mk hy
 have HB := Aside0.mk (below_drew1 (Below.refl W.heap.size W))
 have HT_ := Aside0.mk tab86
 have HW_ := Aside0.mk bits86
 clear hgs hgl hrw hx hy fx fy fx' fy' hib hjb hl
 go_enter Try.func86, Try.ntmps86
 go_wp2
 refine start_ (n := 15) (S := fun w' => w'.cell? ⟨gs, 0, none⟩ = some (.int .i64 s0_) ∧ w'.cell? ⟨gs, 1, none⟩ = some (.int .i64 s1_) ∧ w'.cell? ⟨gs, 2, none⟩ = some (.int .i64 s2_) ∧ w'.cell? ⟨gs, 3, none⟩ = some (.int .i64 s3_) ∧ w'.cell? ⟨gl, 0, none⟩ = some (.slice (some ⟨g, 0, none⟩) n c) ∧ w'.cell? ⟨g, i * 4, none⟩ = some (.int .i64 x.f0.f0) ∧ w'.cell? ⟨g, i * 4 + 1, none⟩ = some (.int .i64 x.f0.f1) ∧ w'.cell? ⟨g, i * 4 + 2, none⟩ = some (.int .u64 x.f1) ∧ w'.cell? ⟨g, i * 4 + 3, none⟩ = some (.int .i64 x.f2) ∧ w'.cell? ⟨g, j * 4, none⟩ = some (.int .i64 y.f0.f0) ∧ w'.cell? ⟨g, j * 4 + 1, none⟩ = some (.int .i64 y.f0.f1) ∧ w'.cell? ⟨g, j * 4 + 2, none⟩ = some (.int .u64 y.f1) ∧ w'.cell? ⟨g, j * 4 + 3, none⟩ = some (.int .i64 y.f2)) (ds := []) (bm 15 0) (by kernel_rfl) rfl rfl ⟨(blk_cell HGS.out 0).trans rfl, (blk_cell HGS.out 1).trans rfl, (blk_cell HGS.out 2).trans rfl, (blk_cell HGS.out 3).trans rfl, (blk_cell HGL.out 0).trans rfl, (row51 HRW.out HX.out).1, (row51 HRW.out HX.out).2.1, (row51 HRW.out HX.out).2.2.1, (row51 HRW.out HX.out).2.2.2, (row51 HRW.out HY.out).1, (row51 HRW.out HY.out).2.1, (row51 HRW.out HY.out).2.2.1, (row51 HRW.out HY.out).2.2.2⟩ (fun hHeld => ?_)
 generalize W.drew = w0 at HGS HGL HRW HB hHeld ⊢
 refine tk13 0 (some 7) (bm 15 1) ?_
 refine tk13 1 (some 8) (bm 15 3) ?_
 refine pu 2 (some 9) (bm 15 7) ?_
 refine pu 3 (some 10) (bm 15 15) ?_
 refine tk13 4 (some 11) (bm 15 31) ?_
 refine tk13 6 (some 13) (bm 15 95) ?_
 refine tk13 7 (some 14) (bm 15 223) ?_
 refine pu 8 (some 15) (bm 15 479) ?_
 refine pu 9 (some 16) (bm 15 991) ?_
 refine tk13 10 (some 17) (bm 15 2015) ?_
 refine one_ (i := 5) (N := some 12) (bm 15 2047) rfl rfl (one_of HT_.out (by kernel_rfl)) (by decide) (fun K hK => ?_)
 refine goes_ Try.func87 (by kernel_rfl) rfl #[.agg #[.int .i64 s0_, .int .i64 s1_, .int .i64 s2_, .int .i64 s3_], .agg #[.int .i64 x.f0.f0, .int .i64 x.f0.f1, .int .u64 x.f1, .int .i64 x.f2]] (by rfl) rfl rfl (by first | done | rfl | (simp only [List.map_toArray, List.map_cons, List.map_nil]; rfl)) ?_
 refine (shape_Fits.calls s0_ s1_ s2_ s3_ x.f0.f0 x.f0.f1 x.f1 x.f2 _ _ HFX.out).mono ?_
 rintro e w1 ⟨rfl, hb⟩
 refine ⟨_, rfl, ?_⟩
 replace HGS := Aside0.mk (blk_below HGS.out hb)
 replace HGL := Aside0.mk (blk_below HGL.out hb)
 replace HRW := Aside0.mk (Kd.R_below HRW.out hb)
 replace HB := Aside0.mk (below_step HB.out hb)
 clear hb
 refine hK.out _ _ ⟨(blk_cell HGS.out 0).trans rfl, (blk_cell HGS.out 1).trans rfl, (blk_cell HGS.out 2).trans rfl, (blk_cell HGS.out 3).trans rfl, (blk_cell HGL.out 0).trans rfl, (row51 HRW.out HX.out).1, (row51 HRW.out HX.out).2.1, (row51 HRW.out HX.out).2.2.1, (row51 HRW.out HX.out).2.2.2, (row51 HRW.out HY.out).1, (row51 HRW.out HY.out).2.1, (row51 HRW.out HY.out).2.2.1, (row51 HRW.out HY.out).2.2.2⟩ (fun hHeld => ?_)
 clear hK K
 refine norm_ (a' := ?_) ?_ ?_
 rotate_left
 ·show Act.put _ (some 12) _ = _
  simp only [Act.put, List.setIfInBounds_toArray, List.set_cons_zero, List.set_cons_succ, i64_w, i32_w]
  rfl
 refine one_ (i := 11) (N := some 18) (bm 15 4095) rfl rfl (one_of HT_.out (by kernel_rfl)) (by decide) (fun K hK => ?_)
 refine goes_ Try.func87 (by kernel_rfl) rfl #[.agg #[.int .i64 s0_, .int .i64 s1_, .int .i64 s2_, .int .i64 s3_], .agg #[.int .i64 y.f0.f0, .int .i64 y.f0.f1, .int .u64 y.f1, .int .i64 y.f2]] (by rfl) rfl rfl (by first | done | rfl | (simp only [List.map_toArray, List.map_cons, List.map_nil]; rfl)) ?_
 refine (shape_Fits.calls s0_ s1_ s2_ s3_ y.f0.f0 y.f0.f1 y.f1 y.f2 _ _ HFY.out).mono ?_
 rintro e w2 ⟨rfl, hb⟩
 refine ⟨_, rfl, ?_⟩
 replace HGS := Aside0.mk (blk_below HGS.out hb)
 replace HGL := Aside0.mk (blk_below HGL.out hb)
 replace HRW := Aside0.mk (Kd.R_below HRW.out hb)
 replace HB := Aside0.mk (below_step HB.out hb)
 clear hb
 refine hK.out _ _ ⟨(blk_cell HGS.out 0).trans rfl, (blk_cell HGS.out 1).trans rfl, (blk_cell HGS.out 2).trans rfl, (blk_cell HGS.out 3).trans rfl, (blk_cell HGL.out 0).trans rfl, (row51 HRW.out HX.out).1, (row51 HRW.out HX.out).2.1, (row51 HRW.out HX.out).2.2.1, (row51 HRW.out HX.out).2.2.2, (row51 HRW.out HY.out).1, (row51 HRW.out HY.out).2.1, (row51 HRW.out HY.out).2.2.1, (row51 HRW.out HY.out).2.2.2⟩ (fun hHeld => ?_)
 clear hK K
 refine norm_ (a' := ?_) ?_ ?_
 rotate_left
 ·show Act.put _ (some 18) _ = _
  simp only [Act.put, List.setIfInBounds_toArray, List.set_cons_zero, List.set_cons_succ, i64_w, i32_w]
  rfl
 refine one_ (i := 12) (N := some 19) (bm 15 8191) rfl rfl (one_of HT_.out (by kernel_rfl)) (by decide) (fun K hK => ?_)
 refine goes_ Try.func73 (by kernel_rfl) rfl #[.int .i64 (fitV s0_ s1_ s2_ s3_ x.f1 x.f2), .int .i64 (fitV s0_ s1_ s2_ s3_ y.f1 y.f2)] (by rfl) rfl rfl (by first | done | rfl | (simp only [List.map_toArray, List.map_cons, List.map_nil]; rfl)) ?_
 refine (cmp_any _ _ _).mono ?_
 rintro e w9 ⟨rfl, rfl⟩
 refine ⟨_, rfl, ?_⟩
 refine hK.out _ _ ⟨(blk_cell HGS.out 0).trans rfl, (blk_cell HGS.out 1).trans rfl, (blk_cell HGS.out 2).trans rfl, (blk_cell HGS.out 3).trans rfl, (blk_cell HGL.out 0).trans rfl, (row51 HRW.out HX.out).1, (row51 HRW.out HX.out).2.1, (row51 HRW.out HX.out).2.2.1, (row51 HRW.out HX.out).2.2.2, (row51 HRW.out HY.out).1, (row51 HRW.out HY.out).2.1, (row51 HRW.out HY.out).2.2.1, (row51 HRW.out HY.out).2.2.2⟩ (fun hHeld => ?_)
 clear hK K
 refine norm_ (a' := ?_) ?_ ?_
 rotate_left
 ·show Act.put _ (some 19) _ = _
  simp only [Act.put, List.setIfInBounds_toArray, List.set_cons_zero, List.set_cons_succ, i64_w, i32_w]
  rfl
 refine pu 13 (some 20) (bm 15 16383) ?_
 refine pu 14 (some 6) (bm 15 32767) ?_
 refine done_ (done_of HT_.out (by kernel_rfl)) ?_
 go_wp2
 go_ret
 refine ⟨?_, HB.out⟩
 generalize fitV s0_ s1_ s2_ s3_ x.f1 x.f2 = a
 generalize fitV s0_ s1_ s2_ s3_ y.f1 y.f2 = b
 have : decide (0 < cmpI a b) = decide (b < a) := by
  unfold cmpI
  by_cases h : a < b
  ·rw [if_pos h, decide_eq_false (by omega), decide_eq_false (by omega)]
  ·rw [if_neg h]
   by_cases h2 : a = b
   ·subst h2; simp
   ·split <;> simp <;> omega
 simp [this]
end Go.Proofs.Ytckhjehibjdjdaa.P
namespace Go.Proofs.Ytckhjehibjdjdaa.P
open Go.RowKit Go.Shelf Go.Lib Go.Proofs.YtckhjehibjdjdaaW.PrintWords Go.Proofs.YtckhjehibjdjdaaW.PrintLast Go.Proofs.YtckhjehibjdjdaaW.PrintMore
attribute [local go_sem] Oper.semAt_some
set_option linter.unusedVariables false
set_option linter.unusedSimpArgs false
noncomputable def freeT : TypeInfo := (Try.prog.info? 22).get (by kernel_rfl)
noncomputable def freeE : TypeInfo := (Try.prog.info? 51).get (by kernel_rfl)
theorem freeT_is : Try.prog.info? 22 = some freeT := by kernel_rfl
theorem freeE_is : Try.prog.info? 51 = some freeE := by kernel_rfl
theorem freeT_desc : freeT.desc = .slice 51 := by kernel_rfl
theorem freeE_size : freeE.size = 4 := by kernel_rfl
theorem free_swapper (n : Nat) (h2 : 2 ≤ n) : swapperK n freeE 25 = 9 := by
 have a : freeE.hasPointers = false := by kernel_rfl
 have b : freeE.bytes = 32 := by kernel_rfl
 have c : (n == 0) = false := by simp; omega
 have d : (n == 1) = false := by simp; omega
 simp [swapperK, a, b, c, d]
theorem swap_free (E : SE) (hsf : E.sf = 130) (hsb : E.sb = #[.slice (some ⟨E.g, 0, none⟩) E.n E.cap, typeHandle Try.prog 51]) (W : World) (xs : List S51) (i j : Nat) (x y : S51) (hr : E.RW W xs) (hx : xs[i]? = some x) (hy : xs[j]? = some y) :
  ∃ W', (callFunc E.sf (#[.int .i64 i, .int .i64 j] ++ E.sb)).run Try.prog W = .ok (.value (.tuple #[])) W' ∧ E.RW W' ((xs.set i y).set j x) ∧ W.grownBy W' (some E.g) := by
 have hl := hr.len
 have hi : i < xs.length := (List.getElem?_eq_some_iff.1 hx).1
 have hj : j < xs.length := (List.getElem?_eq_some_iff.1 hy).1
 have hx' := fun args W => run_callFunc_extern (P := Try.prog) Try.func130 (by kernel_rfl) (by kernel_rfl) (by kernel_rfl) (e := Extern.ReflectliteSwapper.swap false) (by kernel_rfl) args W
 obtain ⟨x0, x1, x2, x3⟩ := row51 hr.row hx
 obtain ⟨y0, y1, y2, y3⟩ := row51 hr.row hy
 obtain ⟨g', cap', cur, hv, _, _, hh⟩ := own51 hr.row (by omega)
 injection hv with ha _ _
 injection ha with ha
 injection ha with ha
 rw [← ha] at hh
 have hrun := run_swap_cells (P := Try.prog) false 51 freeE freeE_is (fun _ => by kernel_rfl) E.g 0 E.n E.cap i j (by omega) (by omega) (enc51 x) (enc51 y) freeE_size.symm freeE_size.symm (by intro v hv; simp [enc51] at hv; rcases hv with rfl | rfl | rfl | rfl <;> rfl) (by intro v hv; simp [enc51] at hv; rcases hv with rfl | rfl | rfl | rfl <;> rfl) W
  (by
   intro k v hk
   rw [freeE_size, Nat.zero_add]
   match k, hk with
   | 0, hk => cases hk; exact x0
   | 1, hk => cases hk; exact x1
   | 2, hk => cases hk; exact x2
   | 3, hk => cases hk; exact x3
   | k + 4, hk => simp [enc51] at hk)
  (by
   intro k v hk
   rw [freeE_size, Nat.zero_add]
   match k, hk with
   | 0, hk => cases hk; exact y0
   | 1, hk => cases hk; exact y1
   | 2, hk => cases hk; exact y2
   | 3, hk => cases hk; exact y3
   | k + 4, hk => simp [enc51] at hk)
  (fun k _ => blk_frozen hh _) (fun k _ => blk_frozen hh _)
 rw [freeE_size, Nat.zero_add, Nat.zero_add] at hrun
 have p1 := put51 hr.row i (by omega) y
 have p2 := put51 p1.1 j (by omega) x
 refine ⟨_, ?_, ⟨grown_grown hr.grown (grown_grown p1.2 p2.2), p2.1, fun f hf => ?_⟩, grown_grown p1.2 p2.2⟩
 ·rw [hsf, hsb, show (#[Value.int .i64 (i : Int), Value.int .i64 (j : Int)] ++ #[Value.slice (some ⟨E.g, 0, none⟩) E.n E.cap, typeHandle Try.prog 51]) = #[.int .i64 i, .int .i64 j, .slice (some ⟨E.g, 0, none⟩) E.n E.cap, typeHandle Try.prog 51] from rfl, hx', hrun]
  rfl
 ·rcases List.mem_or_eq_of_mem_set hf with hf | rfl
  ·rcases List.mem_or_eq_of_mem_set hf with hf | rfl
   ·exact hr.mem f hf
   ·exact hr.mem _ (List.mem_of_getElem? hy)
  ·exact hr.mem _ (List.mem_of_getElem? hx)
noncomputable def stableW (p : Option Addr) (n c : Nat) (w : World) : World :=
 (w.alloc (.cells #[.slice p n c] 22)).alloc (.cells #[.pointer (some ⟨Try.prog.globals.size, 22, none⟩), .pointer (some ⟨w.heap.size, 0, none⟩), .int .u64 151] 159)
theorem stableW_below (p : Option Addr) (n c : Nat) (w : World) : Below w.heap.size w (stableW p n c w) := below_alloc (below_alloc (Below.refl _ _) _) _
set_option maxHeartbeats 4000000 in
set_option maxRecDepth 100000 in
theorem sliceStable_of (p : Option Addr) (n c f : Nat) (hn : n < 4611686018427387904) (hf : Try.prog.funcs.findIdx? (·.name == "internal/reflectlite" ++ ".Swapper$" ++ toString (swapperK n freeE 25)) = some f) (lb B : Array Value) (hB : B = if swapperK n freeE 25 ≤ 2 then (#[] : Array Value) else #[.slice p n c, typeHandle Try.prog 51]) (w : World) (R : World → Prop)
  (hp : Calls Try.prog 110 #[.agg #[.func (.func 86) #[] lb, .func (.func f) #[] B], .int .i64 n] (stableW p n c w) fun e w' => e = .returned (.tuple #[]) ∧ R w') :
  Calls Try.prog 85 #[.iface 22 (.slice p n c), .func (.func 86) #[] lb] w fun e w' => e = .returned (.tuple #[]) ∧ R w' := by
 have hv := run_valueOf_slice (P := Try.prog) 22 51 freeT freeT_is freeT_desc p n c w
 have hs := fun w => run_swapper_slice (P := Try.prog) 22 51 freeT freeE freeT_is freeT_desc freeE_is 25 (fun _ => by kernel_rfl) p n c f hf w
 have hl := fun a w ha => run_valueLen_slice (P := Try.prog) 22 51 freeT freeT_is freeT_desc (by kernel_rfl) a p n c w ha
 rw [← hB] at hs
 unfold stableW at hp
 simp only [typeHandle] at hv hl
 have hg0 : Try.prog.globals.size = 0 := by kernel_rfl
 rw [hg0] at hv hp
 simp only [hg0] at hl
 have hu22 := Try.underlying22
 have hu159 := Try.underlying159
 have hu165 := Try.underlying165
 have HP := Aside0.mk hp
 clear hp hB hf
 go_enter Try.func85, Try.ntmps85
 go_wp2
 rw [run_callFunc_extern Try.func108 (by kernel_rfl) (by kernel_rfl) (by kernel_rfl) (e := fun args => Extern.ReflectliteValue.unpack (args.getD 0 (.tuple #[]))) (by kernel_rfl),
  show Sem.run Try.prog ((fun args : Array Value => Extern.ReflectliteValue.unpack (args.getD 0 (.tuple #[]))) #[.iface 22 (.slice p n c)]) w = _ from hv]
 simp only [Result.andThen]
 rw [Oper.upon_value]
 go_wp2
 rw [run_callFunc_extern Try.func109 (by kernel_rfl) (by kernel_rfl) (by kernel_rfl) (e := Extern.ReflectliteSwapper.swapper "internal/reflectlite" (Extern.ReflectliteValue.valueError "Swapper")) (by kernel_rfl), hs]
 simp only [Result.andThen]
 rw [Oper.upon_value]
 go_wp2
 rw [run_callFunc_extern Try.func111 (by kernel_rfl) (by kernel_rfl) (by kernel_rfl) (e := Extern.ReflectliteValue.method (Extern.ReflectliteValue.valueError "reflectlite.Value.Len" 0) Extern.ReflectliteValue.len) (by kernel_rfl),
  hl _ _ (by simp)]
 simp only [Result.andThen]
 rw [Oper.upon_value]
 go_wp2_with (go_at_call 110; refine HP.out.mono ?_; rintro e w' ⟨rfl, hR⟩)
 go_end0
 exact ⟨rfl, hR⟩
def fkey (s0 s1 s2 s3 : Int) (f : S51) : Int := - fitV s0 s1 s2 s3 f.f1 f.f2
theorem sortPlace (base : Nat) (ok : Nat → Prop) (g gs gl n c : Nat) (s0 s1 s2 s3 : Int) (xs : List S51) (w : World) (hgs : w.heap[gs]? = some (.cells #[.int .i64 s0, .int .i64 s1, .int .i64 s2, .int .i64 s3] 27 (0, 0))) (hgl : w.heap[gl]? = some (.cells #[.slice (some ⟨g, 0, none⟩) n c] 22 (0, 0)))
  (hrw : Kd.R k51 51 w base ok (.slice (some ⟨g, 0, none⟩) n c) xs) (h2 : 2 ≤ n) (hn : n ≤ 1000000) (hf : ∀ f ∈ xs, freeOk f = true) (hs : gs ≠ g) (hl : gl ≠ g) (hg : g < w.heap.size) :
  Calls Try.prog 85 #[.iface 22 (.slice (some ⟨g, 0, none⟩) n c), .func (.func 86) #[] #[.pointer (some ⟨gs, 0, none⟩), .pointer (some ⟨gl, 0, none⟩)]] w fun e w' => e = .returned (.tuple #[]) ∧ Kd.R k51 51 w' base ok (.slice (some ⟨g, 0, none⟩) n c) (isort (fkey s0 s1 s2 s3) xs) ∧ w.grownBy w' (some g) := by
 have hk := free_swapper n h2
 refine sliceStable_of (some ⟨g, 0, none⟩) n c 130 (by omega) (by rw [hk]; kernel_rfl) _ #[.slice (some ⟨g, 0, none⟩) n c, typeHandle Try.prog 51] (by rw [hk]; rfl) w _ ?_
 have hb := stableW_below (some ⟨g, 0, none⟩) n c w
 let E : SE := ⟨w, base, ok, g, n, c, fkey s0 s1 s2 s3, fun f => freeOk f = true, #[.pointer (some ⟨gs, 0, none⟩), .pointer (some ⟨gl, 0, none⟩)], 130, #[.slice (some ⟨g, 0, none⟩) n c, typeHandle Try.prog 51]⟩
 have O : E.Ok := by
  refine ⟨fun W xs' i j x y hr hx hy => ?_, fun W xs' i j x y hr hx hy => swap_free E rfl rfl W xs' i j x y hr hx hy, hg, hn⟩
  have h1 := lessPlace base ok g gs gl n c i j s0 s1 s2 s3 xs' x y W (grown_box hgs hr.grown hs) (grown_box hgl hr.grown hl) hr.row hx hy hn (hr.mem x (List.mem_of_getElem? hx)) (hr.mem y (List.mem_of_getElem? hy))
  refine h1.mono ?_
  rintro e w' ⟨rfl, hb⟩
  refine ⟨?_, hb⟩
  show _ = Ending.returned (.bool (decide (fkey s0 s1 s2 s3 x < fkey s0 s1 s2 s3 y)))
  unfold fkey
  generalize fitV s0 s1 s2 s3 x.f1 x.f2 = a
  generalize fitV s0 s1 s2 s3 y.f1 y.f2 = b
  have : decide (a > b) = decide (-a < -b) := by rw [Bool.eq_iff_iff]; simp only [decide_eq_true_eq]; omega
  rw [this]
 have hR0 : E.RW w xs := ⟨grown_refl _ _, hrw, hf⟩
 have hS := stableF E O xs _ (hR0.below hb)
 refine hS.mono ?_
 rintro e w' ⟨rfl, hr, hgr⟩
 exact ⟨rfl, hr.row, grown_grown (grown_of_below hb) hgr⟩
set_option maxHeartbeats 4000000 in
set_option maxRecDepth 100000 in
theorem stable_tiny (lb sb : Array Value) (f n : Nat) (hn : n ≤ 1) (w : World) :
  Calls Try.prog 110 #[.agg #[.func (.func 86) #[] lb, .func (.func f) #[] sb], .int .i64 n] w fun e w' => e = .returned (.tuple #[]) ∧ Below w.heap.size w w' := by
 have hu165 := Try.underlying165
 have HC := Aside0.mk (fun W => insertF_none ⟨w, 0, fun _ => True, 0, n, 0, fun _ => 0, fun _ => True, lb, f, sb⟩ 0 n (by omega) (by omega) W)
 go_enter Try.func110, Try.ntmps110
 go_wp2_with (first | ((with_reducible refine gate_dst (N := 2) rfl ?_); refine box_event ?hg (N := 2) ?hd (cs := #[.func (.func 86) #[] lb, .func (.func f) #[] sb]) (t := 165) ?hr ?_; (case hd => rfl); (case hg => rfl); (case hr => first | (go_simp; done) | (go_simp; rfl)); intro gb hgb wb hxb hbb; have HXB := Aside0.mk hxb; have HBB := Aside0.mk hbb; clear hgb hxb hbb))
 refine wp_loop_rounds 1 ?_
 rw [rounds_succ]
 have e1 : ¬ (20 : Int) ≤ (n : Int) := by omega
 have hcz0 : wb.cell? ⟨gb, 0, none⟩ = some (.func (.func 86) #[] lb) := (blk_cell HXB.out 0).trans rfl
 have hcz1 : wb.cell? ⟨gb, 1, none⟩ = some (.func (.func f) #[] sb) := (blk_cell HXB.out 1).trans rfl
 have hfz0 := blk_frozen HXB.out 0
 have hfz1 := blk_frozen HXB.out 1
 go_wp2_with (go_at_call 131; refine (HC.out _).mono ?_; rintro e w5 ⟨rfl, hb5⟩; have HB5 := Aside0.mk (below_step HBB.out hb5); clear hb5)
 refine wp_loop_rounds 1 ?_
 rw [rounds_succ]
 have e2 : ¬ (20 : Int) < (n : Int) := by omega
 go_wp2
 go_end0
 exact ⟨rfl, HB5.out⟩
theorem sortPlace_tiny (p : Option Addr) (n c : Nat) (hn : n ≤ 1) (lb : Array Value) (w : World) :
  Calls Try.prog 85 #[.iface 22 (.slice p n c), .func (.func 86) #[] lb] w fun e w' => e = .returned (.tuple #[]) ∧ Below w.heap.size w w' := by
 have hb := stableW_below p n c w
 have go : ∀ f : Nat, Try.prog.funcs.findIdx? (·.name == "internal/reflectlite" ++ ".Swapper$" ++ toString (swapperK n freeE 25)) = some f → Calls Try.prog 85 #[.iface 22 (.slice p n c), .func (.func 86) #[] lb] w fun e w' => e = .returned (.tuple #[]) ∧ Below w.heap.size w w' := fun f hf => by
  refine sliceStable_of p n c f (by omega) hf lb _ rfl w _ ?_
  exact (stable_tiny lb _ f n hn _).mono fun e w' ⟨he, h⟩ => ⟨he, below_step hb h⟩
 rcases Nat.le_one_iff_eq_zero_or_eq_one.1 hn with rfl | rfl
 ·exact go 122 (by kernel_rfl)
 ·exact go 123 (by kernel_rfl)
end Go.Proofs.Ytckhjehibjdjdaa.P
namespace Go.Proofs.Ytckhjehibjdjdaa.P
open Go.RowKit Go.Proofs.YtckhjehibjdjdaaW.PrintWords Go.Proofs.YtckhjehibjdjdaaW.PrintLast Go.Proofs.YtckhjehibjdjdaaW.PrintMore
attribute [local go_sem] max2_int min2_int max_two min_two max_three min_three max_four min_four
set_option linter.unusedVariables false
set_option linter.unusedSimpArgs false
def shape_Piece.f (a0_0 : Int) (a0_1 : Int) (a0_2 : Int) (a0_3 : Int) (a1_0 : Int) (a1_1 : Int) (a1_2 : Int) (a1_3 : Int) : Option (Int × Int × Int × Int × Int × Int × Int × Int × Int) := (shape_Check.f a0_0 a0_1 a0_2 a0_3).bind fun t896 => (if t896 = 0 then ((shape_Fits.f a0_0 a0_1 a0_2 a0_3 a1_0 a1_1 a1_2 a1_3).bind fun t897 => (if t897 = 0 then (some (0, 0, 0, 0, 0, 0, 0, 0, 7)) else ((mask_Lowest.f a1_2 a0_0).bind fun bt898 => (some (a1_0, a1_1, bt898.1, a0_1, a1_0, a1_1, Go.bits .andNot .u64 a1_2 bt898.1, wrap64 (a1_3 - a0_1), 0))))) else (some (0, 0, 0, 0, 0, 0, 0, 0, t896)))
def shape_Piece.T7 : Bool × List (List Nat × List Nat) := (true, [([], []), ([0], [0]), ([], []), ([], []), ([3], [3]), ([1, 2, 4], [1, 2, 4]), ([], []), ([6], [6]), ([], []), ([8], [8]), ([], []), ([9, 10], [9, 10]), ([], []), ([12], [12]), ([], []), ([14], [14]), ([13, 15], [13, 15]), ([7, 11, 16], [7, 11, 16]), ([5, 0, 1, 2, 3, 4, 5], [5]), ([17, 18, 0, 1, 2, 3, 4, 5, 6, 7, 8, 9, 10, 11, 12, 13, 14, 15, 16, 17, 18], [17]), ([19, 0, 1, 2, 3, 4, 5, 6, 7, 8, 9, 10, 11, 12, 13, 14, 15, 16, 17, 18, 19], [])])
def shape_Piece.B7 : List Nat := [0, 1, 0, 0, 8, 31, 0, 64, 0, 256, 0, 1792, 0, 4096, 0, 16384, 61440, 131008, 63, 524287, 1048575]
theorem shape_Piece.tab7 : rtab .any (opsOf Try.f88 7) = shape_Piece.T7 := by kernel_rfl
theorem shape_Piece.bits7 : waitsOk shape_Piece.T7.2 shape_Piece.B7 = true := by kernel_rfl
set_option maxHeartbeats 8000000 in
set_option maxRecDepth 100000 in
theorem shape_Piece.calls (a0_0 : Int) (a0_1 : Int) (a0_2 : Int) (a0_3 : Int) (a1_0 : Int) (a1_1 : Int) (a1_2 : Int) (a1_3 : Int) (r1 : Int) (r2 : Int) (r3 : Int) (r4 : Int) (r5 : Int) (r6 : Int) (r7 : Int) (r8 : Int) (r9 : Int) (w : World) (h : shape_Piece.f a0_0 a0_1 a0_2 a0_3 a1_0 a1_1 a1_2 a1_3 = some (r1, r2, r3, r4, r5, r6, r7, r8, r9)) :
  Calls Try.prog 88 #[.agg #[.int .i64 a0_0, .int .i64 a0_1, .int .i64 a0_2, .int .i64 a0_3], .agg #[.int .i64 a1_0, .int .i64 a1_1, .int .u64 a1_2, .int .i64 a1_3]] w fun e w' => e = .returned (.tuple #[.agg #[.int .i64 r1, .int .i64 r2, .int .u64 r3, .int .i64 r4], .agg #[.int .i64 r5, .int .i64 r6, .int .u64 r7, .int .i64 r8], .int .i64 r9]) ∧ Below w.heap.size w w' := by
 have hu27 := Try.underlying27
 have hu51 := Try.underlying51
 have hu52 := Try.underlying52
 have hu48 := Try.underlying48
 have HB := Aside0.mk (Below.refl w.heap.size w)
 have H : ((shape_Check.f a0_0 a0_1 a0_2 a0_3).bind fun t896 => (if t896 = 0 then ((shape_Fits.f a0_0 a0_1 a0_2 a0_3 a1_0 a1_1 a1_2 a1_3).bind fun t897 => (if t897 = 0 then (some (0, 0, 0, 0, 0, 0, 0, 0, 7)) else ((mask_Lowest.f a1_2 a0_0).bind fun bt898 => (some (a1_0, a1_1, bt898.1, a0_1, a1_0, a1_1, Go.bits .andNot .u64 a1_2 bt898.1, wrap64 (a1_3 - a0_1), 0))))) else (some (0, 0, 0, 0, 0, 0, 0, 0, t896)))) = some (r1, r2, r3, r4, r5, r6, r7, r8, r9) := h
 clear h
 replace H := Option.bind_eq_some_iff.mp H
 obtain ⟨t896, A30, H⟩ := H
 replace H : (if t896 = 0 then ((shape_Fits.f a0_0 a0_1 a0_2 a0_3 a1_0 a1_1 a1_2 a1_3).bind fun t897 => (if t897 = 0 then (some (0, 0, 0, 0, 0, 0, 0, 0, 7)) else ((mask_Lowest.f a1_2 a0_0).bind fun bt898 => (some (a1_0, a1_1, bt898.1, a0_1, a1_0, a1_1, Go.bits .andNot .u64 a1_2 bt898.1, wrap64 (a1_3 - a0_1), 0))))) else (some (0, 0, 0, 0, 0, 0, 0, 0, t896))) = some (r1, r2, r3, r4, r5, r6, r7, r8, r9) := H
 have A3 := Aside0.mk A30
 clear A30
 by_cases c4 : t896 = 0
 ·rw [if_pos c4] at H
  have c4b0 : (t896 == 0) = true := beq_iff_eq.mpr c4
  have c4b1 : (t896 != 0) = false := bne_eq_false_iff_eq.mpr c4
  clear c4
  replace H := Option.bind_eq_some_iff.mp H
  obtain ⟨t897, A50, H⟩ := H
  replace H : (if t897 = 0 then (some (0, 0, 0, 0, 0, 0, 0, 0, 7)) else ((mask_Lowest.f a1_2 a0_0).bind fun bt898 => (some (a1_0, a1_1, bt898.1, a0_1, a1_0, a1_1, Go.bits .andNot .u64 a1_2 bt898.1, wrap64 (a1_3 - a0_1), 0)))) = some (r1, r2, r3, r4, r5, r6, r7, r8, r9) := H
  have A5 := Aside0.mk A50
  clear A50
  by_cases c6 : t897 = 0
  ·rw [if_pos c6] at H
   have c6b0 : (t897 == 0) = true := beq_iff_eq.mpr c6
   have c6b1 : (t897 != 0) = false := bne_eq_false_iff_eq.mpr c6
   clear c6
   simp only [Option.some.injEq, Prod.mk.injEq] at H
   obtain ⟨rfl, rfl, rfl, rfl, rfl, rfl, rfl, rfl, rfl⟩ := H
   go_enter Try.func88, Try.ntmps88
   go_wp2_with (first | ((with_reducible refine gate_dst (N := 2) rfl ?_); refine bx 2 #[.int .i64 a0_0, .int .i64 a0_1, .int .i64 a0_2, .int .i64 a0_3] 27 ?_; intro gb892 hg w7 hbox hb; have BK892 := Aside0.mk (hbox); have GW892 := ge_ hg; have GE892 := ge_ hg; replace HB := hs_ hb; clear hb hbox hg) | ((with_reducible refine gate_dst (N := 3) rfl ?_); refine bx 3 #[.int .i64 a1_0, .int .i64 a1_1, .int .u64 a1_2, .int .i64 a1_3] 51 ?_; intro gb893 hg w8 hbox hb; have BK893 := Aside0.mk (hbox); have GW893 := ge_ hg; have GE893 := ge_ hg; have NB892_893 := nl_ BK892 hg; have NB893_892 := nr_ BK892 hg; replace BK892 := bk_ BK892 hb; replace HB := hs_ hb; clear hb hbox hg) | ((with_reducible refine gate_dst (N := 4) rfl ?_); refine bx 4 #[.int .i64 0, .int .i64 0, .int .u64 0, .int .i64 0] 52 ?_; intro gb894 hg w9 hbox hb; have BK894 := Aside0.mk (hbox); have GW894 := ge_ hg; have GE894 := ge_ hg; have NB892_894 := nl_ BK892 hg; have NB894_892 := nr_ BK892 hg; have NB893_894 := nl_ BK893 hg; have NB894_893 := nr_ BK893 hg; replace BK892 := bk_ BK892 hb; replace BK893 := bk_ BK893 hb; replace HB := hs_ hb; clear hb hbox hg) | ((with_reducible refine gate_dst (N := 5) rfl ?_); refine bx 5 #[.int .i64 0, .int .i64 0, .int .u64 0, .int .i64 0] 51 ?_; intro gb895 hg w10 hbox hb; have BK895 := Aside0.mk (hbox); have GW895 := ge_ hg; have GE895 := ge_ hg; have NB892_895 := nl_ BK892 hg; have NB895_892 := nr_ BK892 hg; have NB893_895 := nl_ BK893 hg; have NB895_893 := nr_ BK893 hg; have NB894_895 := nl_ BK894 hg; have NB895_894 := nr_ BK894 hg; replace BK892 := bk_ BK892 hb; replace BK893 := bk_ BK893 hb; replace BK894 := bk_ BK894 hb; replace HB := hs_ hb; clear hb hbox hg; have hnb11 := NB892_893.out; have hnc11 := NB893_892.out; have hnb12 := NB892_894.out; have hnc12 := NB894_892.out; have hnb13 := NB892_895.out; have hnc13 := NB895_892.out; obtain ⟨hcz14_0, hcz14_1, hcz14_2, hcz14_3, hfz14_0, hfz14_1, hfz14_2, hfz14_3⟩ := bz4_ BK892) | ((with_reducible refine gate_callee (f := 83) rfl ?_); refine goesL_ (some 11) rfl rfl Try.func83 (by kernel_rfl) rfl #[.agg #[.int .i64 a0_0, .int .i64 a0_1, .int .i64 a0_2, .int .i64 a0_3]] rfl Z0 ?_; (with_reducible refine (shape_Check.calls a0_0 a0_1 a0_2 a0_3 t896 _ A3.out).mono ?_); rintro e w15 ⟨rfl, hb⟩; refine ⟨_, rfl, ?_⟩; replace BK892 := bk_ BK892 hb; replace BK893 := bk_ BK893 hb; replace BK894 := bk_ BK894 hb; replace BK895 := bk_ BK895 hb; replace HB := hs_ hb; (try clear hb); (try clear hb2); (try clear hk); (try clear hi); obtain ⟨hcz16_0, hcz16_1, hcz16_2, hcz16_3, hfz16_0, hfz16_1, hfz16_2, hfz16_3⟩ := bz4_ BK892; have hnb17 := NB893_894.out; have hnc17 := NB894_893.out; have hnb18 := NB893_895.out; have hnc18 := NB895_893.out; obtain ⟨hcz19_0, hcz19_1, hcz19_2, hcz19_3, hfz19_0, hfz19_1, hfz19_2, hfz19_3⟩ := bz4_ BK893) | ((with_reducible refine gate_callee (f := 87) rfl ?_); refine goesL_ (some 19) rfl rfl Try.func87 (by kernel_rfl) rfl #[.agg #[.int .i64 a0_0, .int .i64 a0_1, .int .i64 a0_2, .int .i64 a0_3], .agg #[.int .i64 a1_0, .int .i64 a1_1, .int .u64 a1_2, .int .i64 a1_3]] rfl Z0 ?_; (with_reducible refine (shape_Fits.calls a0_0 a0_1 a0_2 a0_3 a1_0 a1_1 a1_2 a1_3 t897 _ A5.out).mono ?_); rintro e w20 ⟨rfl, hb⟩; refine ⟨_, rfl, ?_⟩; replace BK892 := bk_ BK892 hb; replace BK893 := bk_ BK893 hb; replace BK894 := bk_ BK894 hb; replace BK895 := bk_ BK895 hb; replace HB := hs_ hb; (try clear hb); (try clear hb2); (try clear hk); (try clear hi); have hnb21 := NB894_895.out; have hnc21 := NB895_894.out; obtain ⟨hcz22_0, hcz22_1, hcz22_2, hcz22_3, hfz22_0, hfz22_1, hfz22_2, hfz22_3⟩ := bz4_ BK894; obtain ⟨hcz23_0, hcz23_1, hcz23_2, hcz23_3, hfz23_0, hfz23_1, hfz23_2, hfz23_3⟩ := bz4_ BK895))
   refine bodyPost_ret (results_list (rs := [.cell 4 52, .cell 5 51, .tmp 6]) rfl (by simp) (.cell gb894 52 #[.int .i64 0, .int .i64 0, .int .u64 0, .int .i64 0] (0, 0) _ rfl (by (with_reducible repeat (first | refine blk_drewN ?_ _ | refine blk_drew ?_ | refine blk_alloc ?_ _)); refine blk_far ?_ NB894_895.out _; (with_reducible repeat (first | refine blk_drewN ?_ _ | refine blk_drew ?_ | refine blk_alloc ?_ _)); refine blk_far ?_ NB894_895.out _; (with_reducible repeat (first | refine blk_drewN ?_ _ | refine blk_drew ?_ | refine blk_alloc ?_ _)); refine blk_far ?_ NB894_895.out _; (with_reducible repeat (first | refine blk_drewN ?_ _ | refine blk_drew ?_ | refine blk_alloc ?_ _)); refine blk_far ?_ NB894_895.out _; (with_reducible repeat (first | refine blk_drewN ?_ _ | refine blk_drew ?_ | refine blk_alloc ?_ _)); refine blk_put (cs := #[.int .i64 0, .int .i64 0, .int .u64 0, .int .i64 0]) ?_ 3 _ rfl; (with_reducible repeat (first | refine blk_drewN ?_ _ | refine blk_drew ?_ | refine blk_alloc ?_ _)); refine blk_put (cs := #[.int .i64 0, .int .i64 0, .int .u64 0, .int .i64 0]) ?_ 2 _ rfl; (with_reducible repeat (first | refine blk_drewN ?_ _ | refine blk_drew ?_ | refine blk_alloc ?_ _)); refine blk_put (cs := #[.int .i64 0, .int .i64 0, .int .u64 0, .int .i64 0]) ?_ 1 _ rfl; (with_reducible repeat (first | refine blk_drewN ?_ _ | refine blk_drew ?_ | refine blk_alloc ?_ _)); refine blk_put (cs := #[.int .i64 0, .int .i64 0, .int .u64 0, .int .i64 0]) ?_ 0 _ rfl; (with_reducible repeat (first | refine blk_drewN ?_ _ | refine blk_drew ?_ | refine blk_alloc ?_ _)); exact BK894.out) Try.underlying52 rfl (by kernel_rfl) (.cell gb895 51 #[.int .i64 0, .int .i64 0, .int .u64 0, .int .i64 0] (0, 0) _ rfl (by (with_reducible repeat (first | refine blk_drewN ?_ _ | refine blk_drew ?_ | refine blk_alloc ?_ _)); refine blk_put (cs := #[.int .i64 0, .int .i64 0, .int .u64 0, .int .i64 0]) ?_ 3 _ rfl; (with_reducible repeat (first | refine blk_drewN ?_ _ | refine blk_drew ?_ | refine blk_alloc ?_ _)); refine blk_put (cs := #[.int .i64 0, .int .i64 0, .int .u64 0, .int .i64 0]) ?_ 2 _ rfl; (with_reducible repeat (first | refine blk_drewN ?_ _ | refine blk_drew ?_ | refine blk_alloc ?_ _)); refine blk_put (cs := #[.int .i64 0, .int .i64 0, .int .u64 0, .int .i64 0]) ?_ 1 _ rfl; (with_reducible repeat (first | refine blk_drewN ?_ _ | refine blk_drew ?_ | refine blk_alloc ?_ _)); refine blk_put (cs := #[.int .i64 0, .int .i64 0, .int .u64 0, .int .i64 0]) ?_ 0 _ rfl; (with_reducible repeat (first | refine blk_drewN ?_ _ | refine blk_drew ?_ | refine blk_alloc ?_ _)); refine blk_far ?_ NB895_894.out _; (with_reducible repeat (first | refine blk_drewN ?_ _ | refine blk_drew ?_ | refine blk_alloc ?_ _)); refine blk_far ?_ NB895_894.out _; (with_reducible repeat (first | refine blk_drewN ?_ _ | refine blk_drew ?_ | refine blk_alloc ?_ _)); refine blk_far ?_ NB895_894.out _; (with_reducible repeat (first | refine blk_drewN ?_ _ | refine blk_drew ?_ | refine blk_alloc ?_ _)); refine blk_far ?_ NB895_894.out _; (with_reducible repeat (first | refine blk_drewN ?_ _ | refine blk_drew ?_ | refine blk_alloc ?_ _)); exact BK895.out) Try.underlying51 rfl (by kernel_rfl) (.tmp .nil)))) rfl ?_
   exact ⟨by first | rfl | (simp [errW_none, errW_some] <;> rfl) | (simp [*, errW_none, errW_some] <;> rfl), hb_⟩
  ·rw [if_neg c6] at H
   have c6b0 : (t897 == 0) = false := beq_eq_false_iff_ne.mpr c6
   have c6b1 : (t897 != 0) = true := bne_iff_ne.mpr c6
   replace H := Option.bind_eq_some_iff.mp H
   obtain ⟨⟨t898, t899⟩, A240, H⟩ := H
   replace H : (some (a1_0, a1_1, t898, a0_1, a1_0, a1_1, Go.bits .andNot .u64 a1_2 t898, wrap64 (a1_3 - a0_1), 0)) = some (r1, r2, r3, r4, r5, r6, r7, r8, r9) := H
   have A24 := Aside0.mk A240
   clear A240
   simp only [Option.some.injEq, Prod.mk.injEq] at H
   obtain ⟨rfl, rfl, rfl, rfl, rfl, rfl, rfl, rfl, rfl⟩ := H
   go_enter Try.func88, Try.ntmps88
   try go_wp2_with (first | ((with_reducible refine gate_dst (N := 2) rfl ?_); refine bx 2 #[.int .i64 a0_0, .int .i64 a0_1, .int .i64 a0_2, .int .i64 a0_3] 27 ?_; intro gb892 hg w25 hbox hb; have BK892 := Aside0.mk (hbox); have GW892 := ge_ hg; have GE892 := ge_ hg; replace HB := hs_ hb; clear hb hbox hg) | ((with_reducible refine gate_dst (N := 3) rfl ?_); refine bx 3 #[.int .i64 a1_0, .int .i64 a1_1, .int .u64 a1_2, .int .i64 a1_3] 51 ?_; intro gb893 hg w26 hbox hb; have BK893 := Aside0.mk (hbox); have GW893 := ge_ hg; have GE893 := ge_ hg; have NB892_893 := nl_ BK892 hg; have NB893_892 := nr_ BK892 hg; replace BK892 := bk_ BK892 hb; replace HB := hs_ hb; clear hb hbox hg) | ((with_reducible refine gate_dst (N := 4) rfl ?_); refine bx 4 #[.int .i64 0, .int .i64 0, .int .u64 0, .int .i64 0] 52 ?_; intro gb894 hg w27 hbox hb; have BK894 := Aside0.mk (hbox); have GW894 := ge_ hg; have GE894 := ge_ hg; have NB892_894 := nl_ BK892 hg; have NB894_892 := nr_ BK892 hg; have NB893_894 := nl_ BK893 hg; have NB894_893 := nr_ BK893 hg; replace BK892 := bk_ BK892 hb; replace BK893 := bk_ BK893 hb; replace HB := hs_ hb; clear hb hbox hg) | ((with_reducible refine gate_dst (N := 5) rfl ?_); refine bx 5 #[.int .i64 0, .int .i64 0, .int .u64 0, .int .i64 0] 51 ?_; intro gb895 hg w28 hbox hb; have BK895 := Aside0.mk (hbox); have GW895 := ge_ hg; have GE895 := ge_ hg; have NB892_895 := nl_ BK892 hg; have NB895_892 := nr_ BK892 hg; have NB893_895 := nl_ BK893 hg; have NB895_893 := nr_ BK893 hg; have NB894_895 := nl_ BK894 hg; have NB895_894 := nr_ BK894 hg; replace BK892 := bk_ BK892 hb; replace BK893 := bk_ BK893 hb; replace BK894 := bk_ BK894 hb; replace HB := hs_ hb; clear hb hbox hg; have hnb29 := NB892_893.out; have hnc29 := NB893_892.out; have hnb30 := NB892_894.out; have hnc30 := NB894_892.out; have hnb31 := NB892_895.out; have hnc31 := NB895_892.out; obtain ⟨hcz32_0, hcz32_1, hcz32_2, hcz32_3, hfz32_0, hfz32_1, hfz32_2, hfz32_3⟩ := bz4_ BK892) | ((with_reducible refine gate_callee (f := 83) rfl ?_); refine goesL_ (some 11) rfl rfl Try.func83 (by kernel_rfl) rfl #[.agg #[.int .i64 a0_0, .int .i64 a0_1, .int .i64 a0_2, .int .i64 a0_3]] rfl Z0 ?_; (with_reducible refine (shape_Check.calls a0_0 a0_1 a0_2 a0_3 t896 _ A3.out).mono ?_); rintro e w33 ⟨rfl, hb⟩; refine ⟨_, rfl, ?_⟩; replace BK892 := bk_ BK892 hb; replace BK893 := bk_ BK893 hb; replace BK894 := bk_ BK894 hb; replace BK895 := bk_ BK895 hb; replace HB := hs_ hb; (try clear hb); (try clear hb2); (try clear hk); (try clear hi); obtain ⟨hcz34_0, hcz34_1, hcz34_2, hcz34_3, hfz34_0, hfz34_1, hfz34_2, hfz34_3⟩ := bz4_ BK892; have hnb35 := NB893_894.out; have hnc35 := NB894_893.out; have hnb36 := NB893_895.out; have hnc36 := NB895_893.out; obtain ⟨hcz37_0, hcz37_1, hcz37_2, hcz37_3, hfz37_0, hfz37_1, hfz37_2, hfz37_3⟩ := bz4_ BK893) | ((with_reducible refine gate_callee (f := 87) rfl ?_); refine goesL_ (some 19) rfl rfl Try.func87 (by kernel_rfl) rfl #[.agg #[.int .i64 a0_0, .int .i64 a0_1, .int .i64 a0_2, .int .i64 a0_3], .agg #[.int .i64 a1_0, .int .i64 a1_1, .int .u64 a1_2, .int .i64 a1_3]] rfl Z0 ?_; (with_reducible refine (shape_Fits.calls a0_0 a0_1 a0_2 a0_3 a1_0 a1_1 a1_2 a1_3 t897 _ A5.out).mono ?_); rintro e w38 ⟨rfl, hb⟩; refine ⟨_, rfl, ?_⟩; replace BK892 := bk_ BK892 hb; replace BK893 := bk_ BK893 hb; replace BK894 := bk_ BK894 hb; replace BK895 := bk_ BK895 hb; replace HB := hs_ hb; (try clear hb); (try clear hb2); (try clear hk); (try clear hi); obtain ⟨hcz39_0, hcz39_1, hcz39_2, hcz39_3, hfz39_0, hfz39_1, hfz39_2, hfz39_3⟩ := bz4_ BK893; obtain ⟨hcz40_0, hcz40_1, hcz40_2, hcz40_3, hfz40_0, hfz40_1, hfz40_2, hfz40_3⟩ := bz4_ BK892) | ((with_reducible refine gate_callee (f := 114) rfl ?_); refine goesL_ (some 28) rfl rfl Try.func114 (by kernel_rfl) rfl #[.int .u64 a1_2, .int .i64 a0_0] rfl Z0 ?_; (with_reducible refine (mask_Lowest.calls a1_2 a0_0 t898 t899 _ A24.out).mono ?_); rintro e w41 ⟨rfl, hb⟩; refine ⟨_, rfl, ?_⟩; replace BK892 := bk_ BK892 hb; replace BK893 := bk_ BK893 hb; replace BK894 := bk_ BK894 hb; replace BK895 := bk_ BK895 hb; replace HB := hs_ hb; (try clear hb); (try clear hb2); (try clear hk); (try clear hi)))
   replace BK892 := Aside0.mk (blk_drew BK892.out)
   replace BK893 := Aside0.mk (blk_drew BK893.out)
   replace BK894 := Aside0.mk (blk_drew BK894.out)
   replace BK895 := Aside0.mk (blk_drew BK895.out)
   replace HB := Aside0.mk (below_drew1 HB.out)
   refine start_ (n := 21) (S := fun w' => w'.cell? ⟨gb893, 0, none⟩ = some (.int .i64 a1_0) ∧ w'.cell? ⟨gb893, 1, none⟩ = some (.int .i64 a1_1) ∧ w'.cell? ⟨gb893, 2, none⟩ = some (.int .u64 a1_2) ∧ w'.cell? ⟨gb893, 3, none⟩ = some (.int .i64 a1_3) ∧ w'.cell? ⟨gb892, 0, none⟩ = some (.int .i64 a0_0) ∧ w'.cell? ⟨gb892, 1, none⟩ = some (.int .i64 a0_1) ∧ w'.cell? ⟨gb892, 2, none⟩ = some (.int .i64 a0_2) ∧ w'.cell? ⟨gb892, 3, none⟩ = some (.int .i64 a0_3)) (ds := []) (bm 21 0) (by kernel_rfl) rfl rfl ⟨(blk_cell BK893.out 0).trans rfl, (blk_cell BK893.out 1).trans rfl, (blk_cell BK893.out 2).trans rfl, (blk_cell BK893.out 3).trans rfl, (blk_cell BK892.out 0).trans rfl, (blk_cell BK892.out 1).trans rfl, (blk_cell BK892.out 2).trans rfl, (blk_cell BK892.out 3).trans rfl⟩ (fun hHeld => ?_); refine with_tabW shape_Piece.tab7 shape_Piece.bits7 (fun HT_ HW_ => ?_)
   generalize w41.drew = w42 at BK892 BK893 BK894 BK895 HB hHeld ⊢
   refine pu 0 (some 31) (bm 21 1) ?_
   refine pu 2 (some 33) (bm 21 5) ?_
   refine pu 3 (some 34) (bm 21 13) ?_
   refine pu 6 (some 37) (bm 21 77) ?_
   refine pu 8 (some 39) (bm 21 333) ?_
   refine pu 10 (some 41) (bm 21 1357) ?_
   refine pu 12 (some 43) (bm 21 5453) ?_
   refine pu 14 (some 45) (bm 21 21837) ?_
   refine tk8 1 (some 32) (bm 21 21839) ?_
   refine tk8 4 (some 35) (bm 21 21855) ?_
   refine pu 5 (some 36) (bm 21 21887) ?_
   refine tk8 7 (some 38) (bm 21 22015) ?_
   refine tk8 9 (some 40) (bm 21 22527) ?_
   refine pu 11 (some 42) (bm 21 24575) ?_
   refine tk8 13 (some 44) (bm 21 32767) ?_
   refine tk8 15 (some 46) (bm 21 65535) ?_
   refine pu 16 (some 47) (bm 21 131071) ?_
   refine pu 17 (some 48) (bm 21 262143) ?_
   refine one_ (i := 18) (N := none) (bm 21 524287) rfl rfl (one_of HT_.out (by kernel_rfl)) (by decide) (fun K hK => ?_)
   have hs43 : w42.cell? ⟨gb894, 0, none⟩ = some (.int .i64 0) := (blk_cell BK894.out 0).trans rfl
   have hfs43 := blk_frozen BK894.out 0
   have hns43_0 := NB892_894.out
   have hns43_1 := NB893_894.out
   have hns43_3 := NB895_894.out
   have hms43_0 := NB894_892.out
   have hms43_1 := NB894_893.out
   have hms43_3 := NB894_895.out
   have hs44 : w42.cell? ⟨gb894, 1, none⟩ = some (.int .i64 0) := (blk_cell BK894.out 1).trans rfl
   have hfs44 := blk_frozen BK894.out 1
   have hns44_0 := NB892_894.out
   have hns44_1 := NB893_894.out
   have hns44_3 := NB895_894.out
   have hms44_0 := NB894_892.out
   have hms44_1 := NB894_893.out
   have hms44_3 := NB894_895.out
   have hs45 : w42.cell? ⟨gb894, 2, none⟩ = some (.int .u64 0) := (blk_cell BK894.out 2).trans rfl
   have hfs45 := blk_frozen BK894.out 2
   have hns45_0 := NB892_894.out
   have hns45_1 := NB893_894.out
   have hns45_3 := NB895_894.out
   have hms45_0 := NB894_892.out
   have hms45_1 := NB894_893.out
   have hms45_3 := NB894_895.out
   have hs46 : w42.cell? ⟨gb894, 3, none⟩ = some (.int .i64 0) := (blk_cell BK894.out 3).trans rfl
   have hfs46 := blk_frozen BK894.out 3
   have hns46_0 := NB892_894.out
   have hns46_1 := NB893_894.out
   have hns46_3 := NB895_894.out
   have hms46_0 := NB894_892.out
   have hms46_1 := NB894_893.out
   have hms46_3 := NB894_895.out
   refine skip_ (w1 := ?_) (by rfl) rfl ?_ ?_
   rotate_left
   ·go_simp
    rfl
   refine hK.out _ _ ⟨((cell_far (p := ⟨gb894, _, none⟩) NB893_894.out _).trans (((cell_far (p := ⟨gb894, _, none⟩) NB893_894.out _).trans (((cell_far (p := ⟨gb894, _, none⟩) NB893_894.out _).trans (((cell_far (p := ⟨gb894, _, none⟩) NB893_894.out _).trans (hHeld.1)))))))), ((cell_far (p := ⟨gb894, _, none⟩) NB893_894.out _).trans (((cell_far (p := ⟨gb894, _, none⟩) NB893_894.out _).trans (((cell_far (p := ⟨gb894, _, none⟩) NB893_894.out _).trans (((cell_far (p := ⟨gb894, _, none⟩) NB893_894.out _).trans (hHeld.2.1)))))))), ((cell_far (p := ⟨gb894, _, none⟩) NB893_894.out _).trans (((cell_far (p := ⟨gb894, _, none⟩) NB893_894.out _).trans (((cell_far (p := ⟨gb894, _, none⟩) NB893_894.out _).trans (((cell_far (p := ⟨gb894, _, none⟩) NB893_894.out _).trans (hHeld.2.2.1)))))))), ((cell_far (p := ⟨gb894, _, none⟩) NB893_894.out _).trans (((cell_far (p := ⟨gb894, _, none⟩) NB893_894.out _).trans (((cell_far (p := ⟨gb894, _, none⟩) NB893_894.out _).trans (((cell_far (p := ⟨gb894, _, none⟩) NB893_894.out _).trans (hHeld.2.2.2.1)))))))), ((cell_far (p := ⟨gb894, _, none⟩) NB892_894.out _).trans (((cell_far (p := ⟨gb894, _, none⟩) NB892_894.out _).trans (((cell_far (p := ⟨gb894, _, none⟩) NB892_894.out _).trans (((cell_far (p := ⟨gb894, _, none⟩) NB892_894.out _).trans (hHeld.2.2.2.2.1)))))))), ((cell_far (p := ⟨gb894, _, none⟩) NB892_894.out _).trans (((cell_far (p := ⟨gb894, _, none⟩) NB892_894.out _).trans (((cell_far (p := ⟨gb894, _, none⟩) NB892_894.out _).trans (((cell_far (p := ⟨gb894, _, none⟩) NB892_894.out _).trans (hHeld.2.2.2.2.2.1)))))))), ((cell_far (p := ⟨gb894, _, none⟩) NB892_894.out _).trans (((cell_far (p := ⟨gb894, _, none⟩) NB892_894.out _).trans (((cell_far (p := ⟨gb894, _, none⟩) NB892_894.out _).trans (((cell_far (p := ⟨gb894, _, none⟩) NB892_894.out _).trans (hHeld.2.2.2.2.2.2.1)))))))), ((cell_far (p := ⟨gb894, _, none⟩) NB892_894.out _).trans (((cell_far (p := ⟨gb894, _, none⟩) NB892_894.out _).trans (((cell_far (p := ⟨gb894, _, none⟩) NB892_894.out _).trans (((cell_far (p := ⟨gb894, _, none⟩) NB892_894.out _).trans (hHeld.2.2.2.2.2.2.2))))))))⟩ (fun hHeld => ?_)
   clear hK K
   refine one_ (i := 19) (N := none) (bm 21 1048575) rfl rfl (one_of HT_.out (by kernel_rfl)) (by decide) (fun K hK => ?_)
   have hs47 : w42.cell? ⟨gb895, 0, none⟩ = some (.int .i64 0) := (blk_cell BK895.out 0).trans rfl
   have hfs47 := blk_frozen BK895.out 0
   have hns47_0 := NB892_895.out
   have hns47_1 := NB893_895.out
   have hns47_2 := NB894_895.out
   have hms47_0 := NB895_892.out
   have hms47_1 := NB895_893.out
   have hms47_2 := NB895_894.out
   have hs48 : w42.cell? ⟨gb895, 1, none⟩ = some (.int .i64 0) := (blk_cell BK895.out 1).trans rfl
   have hfs48 := blk_frozen BK895.out 1
   have hns48_0 := NB892_895.out
   have hns48_1 := NB893_895.out
   have hns48_2 := NB894_895.out
   have hms48_0 := NB895_892.out
   have hms48_1 := NB895_893.out
   have hms48_2 := NB895_894.out
   have hs49 : w42.cell? ⟨gb895, 2, none⟩ = some (.int .u64 0) := (blk_cell BK895.out 2).trans rfl
   have hfs49 := blk_frozen BK895.out 2
   have hns49_0 := NB892_895.out
   have hns49_1 := NB893_895.out
   have hns49_2 := NB894_895.out
   have hms49_0 := NB895_892.out
   have hms49_1 := NB895_893.out
   have hms49_2 := NB895_894.out
   have hs50 : w42.cell? ⟨gb895, 3, none⟩ = some (.int .i64 0) := (blk_cell BK895.out 3).trans rfl
   have hfs50 := blk_frozen BK895.out 3
   have hns50_0 := NB892_895.out
   have hns50_1 := NB893_895.out
   have hns50_2 := NB894_895.out
   have hms50_0 := NB895_892.out
   have hms50_1 := NB895_893.out
   have hms50_2 := NB895_894.out
   refine skip_ (w1 := ?_) (by rfl) rfl ?_ ?_
   rotate_left
   ·go_simp
    rfl
   refine hK.out _ _ ⟨((cell_far (p := ⟨gb895, _, none⟩) NB893_895.out _).trans (((cell_far (p := ⟨gb895, _, none⟩) NB893_895.out _).trans (((cell_far (p := ⟨gb895, _, none⟩) NB893_895.out _).trans (((cell_far (p := ⟨gb895, _, none⟩) NB893_895.out _).trans (hHeld.1)))))))), ((cell_far (p := ⟨gb895, _, none⟩) NB893_895.out _).trans (((cell_far (p := ⟨gb895, _, none⟩) NB893_895.out _).trans (((cell_far (p := ⟨gb895, _, none⟩) NB893_895.out _).trans (((cell_far (p := ⟨gb895, _, none⟩) NB893_895.out _).trans (hHeld.2.1)))))))), ((cell_far (p := ⟨gb895, _, none⟩) NB893_895.out _).trans (((cell_far (p := ⟨gb895, _, none⟩) NB893_895.out _).trans (((cell_far (p := ⟨gb895, _, none⟩) NB893_895.out _).trans (((cell_far (p := ⟨gb895, _, none⟩) NB893_895.out _).trans (hHeld.2.2.1)))))))), ((cell_far (p := ⟨gb895, _, none⟩) NB893_895.out _).trans (((cell_far (p := ⟨gb895, _, none⟩) NB893_895.out _).trans (((cell_far (p := ⟨gb895, _, none⟩) NB893_895.out _).trans (((cell_far (p := ⟨gb895, _, none⟩) NB893_895.out _).trans (hHeld.2.2.2.1)))))))), ((cell_far (p := ⟨gb895, _, none⟩) NB892_895.out _).trans (((cell_far (p := ⟨gb895, _, none⟩) NB892_895.out _).trans (((cell_far (p := ⟨gb895, _, none⟩) NB892_895.out _).trans (((cell_far (p := ⟨gb895, _, none⟩) NB892_895.out _).trans (hHeld.2.2.2.2.1)))))))), ((cell_far (p := ⟨gb895, _, none⟩) NB892_895.out _).trans (((cell_far (p := ⟨gb895, _, none⟩) NB892_895.out _).trans (((cell_far (p := ⟨gb895, _, none⟩) NB892_895.out _).trans (((cell_far (p := ⟨gb895, _, none⟩) NB892_895.out _).trans (hHeld.2.2.2.2.2.1)))))))), ((cell_far (p := ⟨gb895, _, none⟩) NB892_895.out _).trans (((cell_far (p := ⟨gb895, _, none⟩) NB892_895.out _).trans (((cell_far (p := ⟨gb895, _, none⟩) NB892_895.out _).trans (((cell_far (p := ⟨gb895, _, none⟩) NB892_895.out _).trans (hHeld.2.2.2.2.2.2.1)))))))), ((cell_far (p := ⟨gb895, _, none⟩) NB892_895.out _).trans (((cell_far (p := ⟨gb895, _, none⟩) NB892_895.out _).trans (((cell_far (p := ⟨gb895, _, none⟩) NB892_895.out _).trans (((cell_far (p := ⟨gb895, _, none⟩) NB892_895.out _).trans (hHeld.2.2.2.2.2.2.2))))))))⟩ (fun hHeld => ?_)
   clear hK K
   refine pu 20 (some 6) (bm 21 2097151) ?_
   refine done_ (done_of HT_.out (by kernel_rfl)) ?_
   try go_wp2
   refine bodyPost_ret (results_list (rs := [.cell 4 52, .cell 5 51, .tmp 6]) rfl (by simp) (.cell gb894 52 #[.int .i64 a1_0, .int .i64 a1_1, .int .u64 t898, .int .i64 a0_1] (0, 0) _ rfl (by (with_reducible repeat (first | refine blk_drewN ?_ _ | refine blk_drew ?_ | refine blk_alloc ?_ _)); refine blk_far ?_ NB894_895.out _; (with_reducible repeat (first | refine blk_drewN ?_ _ | refine blk_drew ?_ | refine blk_alloc ?_ _)); refine blk_far ?_ NB894_895.out _; (with_reducible repeat (first | refine blk_drewN ?_ _ | refine blk_drew ?_ | refine blk_alloc ?_ _)); refine blk_far ?_ NB894_895.out _; (with_reducible repeat (first | refine blk_drewN ?_ _ | refine blk_drew ?_ | refine blk_alloc ?_ _)); refine blk_far ?_ NB894_895.out _; (with_reducible repeat (first | refine blk_drewN ?_ _ | refine blk_drew ?_ | refine blk_alloc ?_ _)); refine blk_put (cs := #[.int .i64 a1_0, .int .i64 a1_1, .int .u64 t898, .int .i64 0]) ?_ 3 _ rfl; (with_reducible repeat (first | refine blk_drewN ?_ _ | refine blk_drew ?_ | refine blk_alloc ?_ _)); refine blk_put (cs := #[.int .i64 a1_0, .int .i64 a1_1, .int .u64 0, .int .i64 0]) ?_ 2 _ rfl; (with_reducible repeat (first | refine blk_drewN ?_ _ | refine blk_drew ?_ | refine blk_alloc ?_ _)); refine blk_put (cs := #[.int .i64 a1_0, .int .i64 0, .int .u64 0, .int .i64 0]) ?_ 1 _ rfl; (with_reducible repeat (first | refine blk_drewN ?_ _ | refine blk_drew ?_ | refine blk_alloc ?_ _)); refine blk_put (cs := #[.int .i64 0, .int .i64 0, .int .u64 0, .int .i64 0]) ?_ 0 _ rfl; (with_reducible repeat (first | refine blk_drewN ?_ _ | refine blk_drew ?_ | refine blk_alloc ?_ _)); exact BK894.out) Try.underlying52 rfl (by kernel_rfl) (.cell gb895 51 #[.int .i64 a1_0, .int .i64 a1_1, .int .u64 (Go.bits .andNot .u64 a1_2 t898), .int .i64 (wrap64 (a1_3 - a0_1))] (0, 0) _ rfl (by (with_reducible repeat (first | refine blk_drewN ?_ _ | refine blk_drew ?_ | refine blk_alloc ?_ _)); refine blk_put (cs := #[.int .i64 a1_0, .int .i64 a1_1, .int .u64 (Go.bits .andNot .u64 a1_2 t898), .int .i64 0]) ?_ 3 _ rfl; (with_reducible repeat (first | refine blk_drewN ?_ _ | refine blk_drew ?_ | refine blk_alloc ?_ _)); refine blk_put (cs := #[.int .i64 a1_0, .int .i64 a1_1, .int .u64 0, .int .i64 0]) ?_ 2 _ rfl; (with_reducible repeat (first | refine blk_drewN ?_ _ | refine blk_drew ?_ | refine blk_alloc ?_ _)); refine blk_put (cs := #[.int .i64 a1_0, .int .i64 0, .int .u64 0, .int .i64 0]) ?_ 1 _ rfl; (with_reducible repeat (first | refine blk_drewN ?_ _ | refine blk_drew ?_ | refine blk_alloc ?_ _)); refine blk_put (cs := #[.int .i64 0, .int .i64 0, .int .u64 0, .int .i64 0]) ?_ 0 _ rfl; (with_reducible repeat (first | refine blk_drewN ?_ _ | refine blk_drew ?_ | refine blk_alloc ?_ _)); refine blk_far ?_ NB895_894.out _; (with_reducible repeat (first | refine blk_drewN ?_ _ | refine blk_drew ?_ | refine blk_alloc ?_ _)); refine blk_far ?_ NB895_894.out _; (with_reducible repeat (first | refine blk_drewN ?_ _ | refine blk_drew ?_ | refine blk_alloc ?_ _)); refine blk_far ?_ NB895_894.out _; (with_reducible repeat (first | refine blk_drewN ?_ _ | refine blk_drew ?_ | refine blk_alloc ?_ _)); refine blk_far ?_ NB895_894.out _; (with_reducible repeat (first | refine blk_drewN ?_ _ | refine blk_drew ?_ | refine blk_alloc ?_ _)); exact BK895.out) Try.underlying51 rfl (by kernel_rfl) (.tmp .nil)))) rfl ?_
   exact ⟨by first | rfl | (simp [errW_none, errW_some] <;> rfl) | (simp [*, errW_none, errW_some] <;> rfl), hb_⟩
 ·rw [if_neg c4] at H
  have c4b0 : (t896 == 0) = false := beq_eq_false_iff_ne.mpr c4
  have c4b1 : (t896 != 0) = true := bne_iff_ne.mpr c4
  simp only [Option.some.injEq, Prod.mk.injEq] at H
  obtain ⟨rfl, rfl, rfl, rfl, rfl, rfl, rfl, rfl, rfl⟩ := H
  go_enter Try.func88, Try.ntmps88
  go_wp2_with (first | ((with_reducible refine gate_dst (N := 2) rfl ?_); refine bx 2 #[.int .i64 a0_0, .int .i64 a0_1, .int .i64 a0_2, .int .i64 a0_3] 27 ?_; intro gb892 hg w51 hbox hb; have BK892 := Aside0.mk (hbox); have GW892 := ge_ hg; have GE892 := ge_ hg; replace HB := hs_ hb; clear hb hbox hg) | ((with_reducible refine gate_dst (N := 3) rfl ?_); refine bx 3 #[.int .i64 a1_0, .int .i64 a1_1, .int .u64 a1_2, .int .i64 a1_3] 51 ?_; intro gb893 hg w52 hbox hb; have BK893 := Aside0.mk (hbox); have GW893 := ge_ hg; have GE893 := ge_ hg; have NB892_893 := nl_ BK892 hg; have NB893_892 := nr_ BK892 hg; replace BK892 := bk_ BK892 hb; replace HB := hs_ hb; clear hb hbox hg) | ((with_reducible refine gate_dst (N := 4) rfl ?_); refine bx 4 #[.int .i64 0, .int .i64 0, .int .u64 0, .int .i64 0] 52 ?_; intro gb894 hg w53 hbox hb; have BK894 := Aside0.mk (hbox); have GW894 := ge_ hg; have GE894 := ge_ hg; have NB892_894 := nl_ BK892 hg; have NB894_892 := nr_ BK892 hg; have NB893_894 := nl_ BK893 hg; have NB894_893 := nr_ BK893 hg; replace BK892 := bk_ BK892 hb; replace BK893 := bk_ BK893 hb; replace HB := hs_ hb; clear hb hbox hg) | ((with_reducible refine gate_dst (N := 5) rfl ?_); refine bx 5 #[.int .i64 0, .int .i64 0, .int .u64 0, .int .i64 0] 51 ?_; intro gb895 hg w54 hbox hb; have BK895 := Aside0.mk (hbox); have GW895 := ge_ hg; have GE895 := ge_ hg; have NB892_895 := nl_ BK892 hg; have NB895_892 := nr_ BK892 hg; have NB893_895 := nl_ BK893 hg; have NB895_893 := nr_ BK893 hg; have NB894_895 := nl_ BK894 hg; have NB895_894 := nr_ BK894 hg; replace BK892 := bk_ BK892 hb; replace BK893 := bk_ BK893 hb; replace BK894 := bk_ BK894 hb; replace HB := hs_ hb; clear hb hbox hg; have hnb55 := NB892_893.out; have hnc55 := NB893_892.out; have hnb56 := NB892_894.out; have hnc56 := NB894_892.out; have hnb57 := NB892_895.out; have hnc57 := NB895_892.out; obtain ⟨hcz58_0, hcz58_1, hcz58_2, hcz58_3, hfz58_0, hfz58_1, hfz58_2, hfz58_3⟩ := bz4_ BK892) | ((with_reducible refine gate_callee (f := 83) rfl ?_); refine goesL_ (some 11) rfl rfl Try.func83 (by kernel_rfl) rfl #[.agg #[.int .i64 a0_0, .int .i64 a0_1, .int .i64 a0_2, .int .i64 a0_3]] rfl Z0 ?_; (with_reducible refine (shape_Check.calls a0_0 a0_1 a0_2 a0_3 t896 _ A3.out).mono ?_); rintro e w59 ⟨rfl, hb⟩; refine ⟨_, rfl, ?_⟩; replace BK892 := bk_ BK892 hb; replace BK893 := bk_ BK893 hb; replace BK894 := bk_ BK894 hb; replace BK895 := bk_ BK895 hb; replace HB := hs_ hb; (try clear hb); (try clear hb2); (try clear hk); (try clear hi); have hnb60 := NB894_893.out; have hnc60 := NB893_894.out; have hnb61 := NB894_895.out; have hnc61 := NB895_894.out; obtain ⟨hcz62_0, hcz62_1, hcz62_2, hcz62_3, hfz62_0, hfz62_1, hfz62_2, hfz62_3⟩ := bz4_ BK894; have hnb63 := NB895_893.out; have hnc63 := NB893_895.out; obtain ⟨hcz64_0, hcz64_1, hcz64_2, hcz64_3, hfz64_0, hfz64_1, hfz64_2, hfz64_3⟩ := bz4_ BK895))
  refine bodyPost_ret (results_list (rs := [.cell 4 52, .cell 5 51, .tmp 6]) rfl (by simp) (.cell gb894 52 #[.int .i64 0, .int .i64 0, .int .u64 0, .int .i64 0] (0, 0) _ rfl (by (with_reducible repeat (first | refine blk_drewN ?_ _ | refine blk_drew ?_ | refine blk_alloc ?_ _)); refine blk_far ?_ NB894_895.out _; (with_reducible repeat (first | refine blk_drewN ?_ _ | refine blk_drew ?_ | refine blk_alloc ?_ _)); refine blk_far ?_ NB894_895.out _; (with_reducible repeat (first | refine blk_drewN ?_ _ | refine blk_drew ?_ | refine blk_alloc ?_ _)); refine blk_far ?_ NB894_895.out _; (with_reducible repeat (first | refine blk_drewN ?_ _ | refine blk_drew ?_ | refine blk_alloc ?_ _)); refine blk_far ?_ NB894_895.out _; (with_reducible repeat (first | refine blk_drewN ?_ _ | refine blk_drew ?_ | refine blk_alloc ?_ _)); refine blk_put (cs := #[.int .i64 0, .int .i64 0, .int .u64 0, .int .i64 0]) ?_ 3 _ rfl; (with_reducible repeat (first | refine blk_drewN ?_ _ | refine blk_drew ?_ | refine blk_alloc ?_ _)); refine blk_put (cs := #[.int .i64 0, .int .i64 0, .int .u64 0, .int .i64 0]) ?_ 2 _ rfl; (with_reducible repeat (first | refine blk_drewN ?_ _ | refine blk_drew ?_ | refine blk_alloc ?_ _)); refine blk_put (cs := #[.int .i64 0, .int .i64 0, .int .u64 0, .int .i64 0]) ?_ 1 _ rfl; (with_reducible repeat (first | refine blk_drewN ?_ _ | refine blk_drew ?_ | refine blk_alloc ?_ _)); refine blk_put (cs := #[.int .i64 0, .int .i64 0, .int .u64 0, .int .i64 0]) ?_ 0 _ rfl; (with_reducible repeat (first | refine blk_drewN ?_ _ | refine blk_drew ?_ | refine blk_alloc ?_ _)); exact BK894.out) Try.underlying52 rfl (by kernel_rfl) (.cell gb895 51 #[.int .i64 0, .int .i64 0, .int .u64 0, .int .i64 0] (0, 0) _ rfl (by (with_reducible repeat (first | refine blk_drewN ?_ _ | refine blk_drew ?_ | refine blk_alloc ?_ _)); refine blk_put (cs := #[.int .i64 0, .int .i64 0, .int .u64 0, .int .i64 0]) ?_ 3 _ rfl; (with_reducible repeat (first | refine blk_drewN ?_ _ | refine blk_drew ?_ | refine blk_alloc ?_ _)); refine blk_put (cs := #[.int .i64 0, .int .i64 0, .int .u64 0, .int .i64 0]) ?_ 2 _ rfl; (with_reducible repeat (first | refine blk_drewN ?_ _ | refine blk_drew ?_ | refine blk_alloc ?_ _)); refine blk_put (cs := #[.int .i64 0, .int .i64 0, .int .u64 0, .int .i64 0]) ?_ 1 _ rfl; (with_reducible repeat (first | refine blk_drewN ?_ _ | refine blk_drew ?_ | refine blk_alloc ?_ _)); refine blk_put (cs := #[.int .i64 0, .int .i64 0, .int .u64 0, .int .i64 0]) ?_ 0 _ rfl; (with_reducible repeat (first | refine blk_drewN ?_ _ | refine blk_drew ?_ | refine blk_alloc ?_ _)); refine blk_far ?_ NB895_894.out _; (with_reducible repeat (first | refine blk_drewN ?_ _ | refine blk_drew ?_ | refine blk_alloc ?_ _)); refine blk_far ?_ NB895_894.out _; (with_reducible repeat (first | refine blk_drewN ?_ _ | refine blk_drew ?_ | refine blk_alloc ?_ _)); refine blk_far ?_ NB895_894.out _; (with_reducible repeat (first | refine blk_drewN ?_ _ | refine blk_drew ?_ | refine blk_alloc ?_ _)); refine blk_far ?_ NB895_894.out _; (with_reducible repeat (first | refine blk_drewN ?_ _ | refine blk_drew ?_ | refine blk_alloc ?_ _)); exact BK895.out) Try.underlying51 rfl (by kernel_rfl) (.tmp .nil)))) rfl ?_
  exact ⟨by first | rfl | (simp [errW_none, errW_some] <;> rfl) | (simp [*, errW_none, errW_some] <;> rfl), hb_⟩
end Go.Proofs.Ytckhjehibjdjdaa.P
namespace Go.Proofs.Ytckhjehibjdjdaa.P
open Go.RowKit Go.Shelf Go.Lib Go.Proofs.YtckhjehibjdjdaaW.PrintWords Go.Proofs.YtckhjehibjdjdaaW.PrintLast Go.Proofs.YtckhjehibjdjdaaW.PrintMore
open Go.Proofs.Ytckhjehibjdjdaa.Bits
attribute [local go_sem] Oper.semAt_some
set_option linter.unusedVariables false
set_option linter.unusedSimpArgs false
theorem sortAny (base : Nat) (ok : Nat → Prop) (v : Value) (gs gl : Nat) (s0 s1 s2 s3 : Int) (xs : List S51) (w : World) (hgs : w.heap[gs]? = some (.cells #[.int .i64 s0, .int .i64 s1, .int .i64 s2, .int .i64 s3] 27 (0, 0))) (hgl : w.heap[gl]? = some (.cells #[v] 22 (0, 0)))
  (hrw : Kd.R k51 51 w base ok v xs) (hn : xs.length ≤ 1000000) (hf : ∀ f ∈ xs, freeOk f = true) :
  Calls Try.prog 85 #[.iface 22 v, .func (.func 86) #[] #[.pointer (some ⟨gs, 0, none⟩), .pointer (some ⟨gl, 0, none⟩)]] w fun e w' => e = .returned (.tuple #[]) ∧ Kd.R k51 51 w' base ok v (isort (fkey s0 s1 s2 s3) xs) ∧ w.grownBy w' v.ownBlock := by
 by_cases h2 : 2 ≤ xs.length
 ·obtain ⟨g, c, cur, hv, _, _, hh⟩ := own51 hrw (by omega)
  subst hv
  have h1 : gs ≠ g := blk_ne hgs hh (by decide)
  have h3 : gl ≠ g := blk_ne hgl hh (by decide)
  have := sortPlace base ok g gs gl xs.length c s0 s1 s2 s3 xs w hgs hgl hrw h2 hn hf h1 h3 (blk_lt hh)
  refine this.mono ?_
  rintro e w' ⟨he, hr, hg⟩
  exact ⟨he, hr, by simpa [Value.ownBlock] using hg⟩
 ·obtain ⟨A, c, rfl⟩ := Kd.R_slice hrw
  refine (sortPlace_tiny A xs.length c (by omega) _ w).mono ?_
  rintro e w' ⟨he, hb⟩
  rw [isort_one (fkey s0 s1 s2 s3) xs (by omega)]
  exact ⟨he, Kd.R_below hrw hb, ⟨hb.os, hb.tape, hb.output, hb.size, fun k hk _ => hb.block k hk⟩⟩
def pieceL (s0 s1 : Int) (f : S51) : S52 := ⟨f.f0, lowI f.f1 s0, s1⟩
def leftF (s0 s1 : Int) (f : S51) : S51 := ⟨f.f0, Go.bits .andNot .u64 f.f1 (lowI f.f1 s0), wrap64 (f.f2 - s1)⟩
def cutL (s0 s1 s2 s3 : Int) (m : Nat) : Nat → S51 → List S52 → List S52
 | 0, _, out => out
 | k + 1, f, out => if out.length < m ∧ fitV s0 s1 s2 s3 f.f1 f.f2 ≠ 0 then cutL s0 s1 s2 s3 m k (leftF s0 s1 f) (out ++ [pieceL s0 s1 f]) else out
def placeL (s0 s1 s2 s3 : Int) (m : Nat) (l : List S51) : List S52 := l.foldl (fun out f => cutL s0 s1 s2 s3 m 17 f out) []
theorem cutL_le (s0 s1 s2 s3 : Int) (m : Nat) : ∀ (k : Nat) (f : S51) (out : List S52), out.length ≤ m → (cutL s0 s1 s2 s3 m k f out).length ≤ m
 | 0, _, out, h => h
 | k + 1, f, out, h => by
  rw [cutL]
  split
  ·rename_i hc; exact cutL_le s0 s1 s2 s3 m k _ _ (by simp; omega)
  ·exact h
theorem placeL_le (s0 s1 s2 s3 : Int) (m : Nat) (l : List S51) : (placeL s0 s1 s2 s3 m l).length ≤ m := by
 have : ∀ (l : List S51) (out : List S52), out.length ≤ m → (l.foldl (fun out f => cutL s0 s1 s2 s3 m 17 f out) out).length ≤ m := by
  intro l
  induction l with
  | nil => intro out h; exact h
  | cons x l ih => intro out h; exact ih _ (cutL_le s0 s1 s2 s3 m 17 x out h)
 exact this l [] (by simp)
theorem placeL_take (s0 s1 s2 s3 : Int) (m : Nat) (l : List S51) (i : Nat) (h : i < l.length) : placeL s0 s1 s2 s3 m (l.take (i + 1)) = cutL s0 s1 s2 s3 m 17 l[i] (placeL s0 s1 s2 s3 m (l.take i)) := by
 unfold placeL
 rw [List.take_succ_eq_append_getElem h, List.foldl_append]; rfl
def placeOk (view : List S51) : Bool := view.all freeOk && decide (view.length ≤ 1000000)
def placeB (view : List S51) (s0 s1 s2 s3 m : Int) : List S52 × Int :=
 if goodShape s0 s1 s2 s3 = true ∧ 1 ≤ m ∧ m ≤ 16 then
  (if (placeL s0 s1 s2 s3 m.toNat (isort (fkey s0 s1 s2 s3) view)).length < m.toNat then ([], 7) else (placeL s0 s1 s2 s3 m.toNat (isort (fkey s0 s1 s2 s3) view), 0))
 else ([], 1)
theorem good_out0 {g c mn mx : Int} (h : goodShape g c mn mx = true) : 0 ≤ g ∧ g ≤ 16 ∧ 0 ≤ c ∧ c ≤ 1024 := by
 simp only [goodShape, Bool.and_eq_true, decide_eq_true_eq] at h
 omega
def pack_Place.f (l0 : List (S51)) (a1_0 : Int) (a1_1 : Int) (a1_2 : Int) (a1_3 : Int) (a2 : Int) : Option ((List (S52)) × Int) := if placeOk l0 = true then some (placeB l0 a1_0 a1_1 a1_2 a1_3 a2) else none
theorem put4 {W : World} {g : Nat} {t : TypeId} {a b c d a' b' c' d' : Value} (h : W.heap[g]? = some (.cells #[a, b, c, d] t (0, 0))) :
  ((((W.setCell ⟨g, 0, none⟩ a').setCell ⟨g, 1, none⟩ b').setCell ⟨g, 2, none⟩ c').setCell ⟨g, 3, none⟩ d').heap[g]? = some (.cells #[a', b', c', d'] t (0, 0)) := blk_put (blk_put (blk_put (blk_put h 0 _ rfl) 1 _ rfl) 2 _ rfl) 3 _ rfl
theorem grown4 (W : World) (g : Nat) {a' b' c' d' : Value} : W.grownBy ((((W.setCell ⟨g, 0, none⟩ a').setCell ⟨g, 1, none⟩ b').setCell ⟨g, 2, none⟩ c').setCell ⟨g, 3, none⟩ d') (some g) := grown_set (grown_set (grown_set (grown_set (grown_refl W (some g)))))
theorem k4c {W : World} {g : Nat} {t : TypeId} {a b c d : Value} (h : Aside0 (W.heap[g]? = some (.cells #[a, b, c, d] t (0, 0)))) : W.cell? ⟨g, 0, none⟩ = some a ∧ W.cell? ⟨g, 1, none⟩ = some b ∧ W.cell? ⟨g, 2, none⟩ = some c ∧ W.cell? ⟨g, 3, none⟩ = some d := ⟨blk_cell h.out 0, blk_cell h.out 1, blk_cell h.out 2, blk_cell h.out 3⟩
theorem far4 {W : World} {g k : Nat} {t : TypeId} {cs : Array Value} {a' b' c' d' : Value} (h : W.heap[k]? = some (.cells cs t (0, 0))) (hne : k ≠ g) :
  ((((W.setCell ⟨g, 0, none⟩ a').setCell ⟨g, 1, none⟩ b').setCell ⟨g, 2, none⟩ c').setCell ⟨g, 3, none⟩ d').heap[k]? = some (.cells cs t (0, 0)) := blk_far (blk_far (blk_far (blk_far h hne _) hne _) hne _) hne _
theorem below4 {w W : World} {g : Nat} {a' b' c' d' : Value} (h : Below w.heap.size w W) (hg : w.heap.size ≤ g) :
  Below w.heap.size w ((((W.setCell ⟨g, 0, none⟩ a').setCell ⟨g, 1, none⟩ b').setCell ⟨g, 2, none⟩ c').setCell ⟨g, 3, none⟩ d') := below_set (below_set (below_set (below_set h hg) hg) hg) hg
theorem fit_pop {s0 s1 s2 s3 : Int} {f : S51} (hg : goodShape s0 s1 s2 s3 = true) (hf : freeOk f = true) (h : fitV s0 s1 s2 s3 f.f1 f.f2 ≠ 0) : ¬ popI f.f1 < s0 := fun hp => by
 have hb := good_out0 hg
 have h0 := (popI_bd f.f1).1
 apply h
 unfold fitV
 split
 ·rename_i hc
  unfold fitN
  have e1 : eachI (popI f.f1) s0 = 0 := by
   unfold eachI
   rw [if_neg (by omega)]
   exact Int.ediv_eq_zero_of_lt h0 hp
  have e2 : 0 ≤ eachI f.f2 s1 := by
   unfold eachI
   split
   ·decide
   ·exact Int.ediv_nonneg hc.2 hb.2.2.1
  rw [e1]
  omega
 ·rfl
theorem freeOk0 {f : S51} (hf : freeOk f = true) : 0 ≤ f.f1 ∧ f.f1 < 18446744073709551616 ∧ f.f2 ≤ 9223372036854775807 := by
 simp only [freeOk, w64B, Bool.and_eq_true, decide_eq_true_eq] at hf; omega
theorem piece_no {s0 s1 s2 s3 : Int} (f : S51) (hg : goodShape s0 s1 s2 s3 = true) (hf : freeOk f = true) (h : fitV s0 s1 s2 s3 f.f1 f.f2 = 0) : shape_Piece.f s0 s1 s2 s3 f.f0.f0 f.f0.f1 f.f1 f.f2 = some (0, 0, 0, 0, 0, 0, 0, 0, 7) := by
 unfold shape_Piece.f shape_Check.f shape_Fits.f
 rw [if_pos hg, Option.bind_some, if_pos rfl, if_pos (freeOk0 hf), Option.bind_some, if_pos h]
theorem piece_yes {s0 s1 s2 s3 : Int} (f : S51) (hg : goodShape s0 s1 s2 s3 = true) (hf : freeOk f = true) (h : fitV s0 s1 s2 s3 f.f1 f.f2 ≠ 0) : shape_Piece.f s0 s1 s2 s3 f.f0.f0 f.f0.f1 f.f1 f.f2 = some (f.f0.f0, f.f0.f1, lowI f.f1 s0, s1, f.f0.f0, f.f0.f1, Go.bits .andNot .u64 f.f1 (lowI f.f1 s0), wrap64 (f.f2 - s1), 0) := by
 have hp := fit_pop hg hf h
 have h0 := freeOk0 hf
 have hb := good_out0 hg
 have e : mask_Lowest.f f.f1 s0 = some (lowI f.f1 s0, 0) := by
  unfold mask_Lowest.f
  rw [if_pos ⟨h0.1, h0.2.1⟩, if_neg (by omega), if_neg hp]
 unfold shape_Piece.f shape_Check.f shape_Fits.f
 rw [if_pos hg, Option.bind_some, if_pos rfl, if_pos h0, Option.bind_some, if_neg h, e, Option.bind_some]
theorem leftF_ok (s0 s1 : Int) {f : S51} (hf : freeOk f = true) : freeOk (leftF s0 s1 f) = true := by
 have e : Go.bits .andNot .u64 f.f1 (lowI f.f1 s0) = ((BitVec.ofInt 64 f.f1 &&& ~~~ BitVec.ofInt 64 (lowI f.f1 s0)).toNat : Int) := by
  show IntKind.u64.wrap ((BitVec.ofInt 64 f.f1 &&& ~~~ BitVec.ofInt 64 (lowI f.f1 s0)).toNat : Int) = _
  rw [wrapN, Nat.mod_eq_of_lt (BitVec.isLt _)]
 have h1 := (BitVec.ofInt 64 f.f1 &&& ~~~ BitVec.ofInt 64 (lowI f.f1 s0)).isLt
 unfold leftF freeOk
 simp only
 rw [e, decide_eq_true (by omega), decide_eq_true (by omega)]
 exact w64_wrap _
def T46 : Bool × List (List Nat × List Nat) := (true, [([], []), ([], []), ([1], [1]), ([0, 2], [0, 2]), ([], []), ([3, 3, 0, 1, 2, 3], [0, 3]), ([4, 5, 0, 1, 2, 3, 4, 5], [4])])
def B46 : List Nat := [0, 0, 2, 7, 0, 15, 63]
theorem tab46 : rtab .any (opsOf Try.f46 12) = T46 := by kernel_rfl
theorem bits46 : waitsOk T46.2 B46 = true := by kernel_rfl
set_option maxHeartbeats 16000000 in
set_option maxRecDepth 100000 in
theorem place_any (A0 : Option Addr) (c0 : Nat) (l0 : List S51) (s0 s1 s2 s3 : Int) (m : Nat) (w : World) (hr0 : Kd.C k51 w A0 l0.length l0) (hc0 : l0.length ≤ c0) (hf : ∀ f ∈ l0, freeOk f = true) (hl : l0.length ≤ 1000000) (hg : goodShape s0 s1 s2 s3 = true) (hm1 : 1 ≤ m) (hm : m ≤ 16) :
  Calls Try.prog 46 #[.slice A0 l0.length c0, .agg #[.int .i64 s0, .int .i64 s1, .int .i64 s2, .int .i64 s3], .int .i64 (m : Int)] w fun e w' => ∃ v0_ : Value, e = .returned (.tuple #[v0_, .int .i64 (placeB l0 s0 s1 s2 s3 (m : Int)).2]) ∧ Kd.R k52 52 w' w.heap.size (fun _ => True) v0_ (placeB l0 s0 s1 s2 s3 (m : Int)).1 ∧ Below w.heap.size w w' := by
 have hu27 := Try.underlying27
 have hu22 := Try.underlying22
 have hu51 := Try.underlying51
 have hu39 := Try.underlying39
 have hu52 := Try.underlying52
 have HCHK := Aside0.mk (show shape_Check.f s0 s1 s2 s3 = some 0 from by unfold shape_Check.f; rw [if_pos hg])
 have HGD := Aside0.mk hg
 have HR0 := Aside0.mk hr0
 have HC0 := Aside0.mk hc0
 have HF := Aside0.mk hf
 obtain ⟨L, hL⟩ : ∃ L, L = isort (fkey s0 s1 s2 s3) l0 := ⟨_, rfl⟩
 have hLl : L.length = l0.length := by rw [hL]; exact (isort_perm _ _).length_eq
 have HLF := Aside0.mk (show ∀ f ∈ L, freeOk f = true from fun f h => hf f (by rw [hL] at h; exact (isort_perm (fkey s0 s1 s2 s3) l0).mem_iff.1 h))
 have hpB : placeB l0 s0 s1 s2 s3 (m : Int) = if (placeL s0 s1 s2 s3 m L).length < m then ([], 7) else (placeL s0 s1 s2 s3 m L, 0) := by
  unfold placeB
  rw [if_pos ⟨hg, by omega, by omega⟩, Int.toNat_natCast, hL]
 have HL := Aside0.mk hL
 generalize placeB l0 s0 s1 s2 s3 (m : Int) = pB at *
 have HPB := Aside0.mk hpB
 have q1 : ¬ (m : Int) < 1 := by omega
 have q2 : ¬ (16 : Int) < (m : Int) := by omega
 have hgd : goodShape s0 s1 s2 s3 = true := hg
 clear hr0 hc0 hf hg hL hpB
 go_enter Try.func46, Try.ntmps46
 go_wp2_with (first | ((with_reducible refine gate_dst (N := 4) rfl ?_); refine bx 4 #[.int .i64 s0, .int .i64 s1, .int .i64 s2, .int .i64 s3] 27 ?_; intro gs hggs w1 hxgs hbgs; have HGS := Aside0.mk hxgs; have HB := Aside0.mk hbgs; clear hggs hxgs hbgs; obtain ⟨e0, e1, e2, e3⟩ := k4c HGS) | (go_at_call 83; refine (shape_Check.calls s0 s1 s2 s3 0 _ HCHK.out).mono ?_; rintro e w2 ⟨rfl, hb⟩; replace HGS := Aside0.mk (blk_below HGS.out hb); replace HB := Aside0.mk (below_step HB.out hb); clear hb; obtain ⟨e0, e1, e2, e3⟩ := k4c HGS) | (go_at_call 84; refine (clone84_any A0 c0 l0 _ (Kd.C_below HR0.out HB.out) HC0.out (by omega)).mono ?_; rintro e w5 ⟨v5, rfl, hr5, hb5⟩; obtain ⟨A5, c5, rfl⟩ := Kd.R_slice hr5; have hbs := below_size HB.out; replace HGS := Aside0.mk (blk_below HGS.out hb5); replace HB := Aside0.mk (below_step HB.out hb5); have HR5 := Aside0.mk (Kd.R_lower hr5 hbs); clear hb5 hr5 hbs) | (go_at_call 85; have hb6 := below_alloc (Below.refl w5.heap.size w5) (.cells #[.slice A5 l0.length c5] 22); have hr6 := Kd.R_below HR5.out hb6; have hs6 := blk_below HGS.out hb6; have hl6 := blk_new w5 (.cells #[.slice A5 l0.length c5] 22); refine (sortAny _ _ _ gs w5.heap.size s0 s1 s2 s3 l0 _ hs6 hl6 hr6 hl HF.out).mono ?_; rintro e w7 ⟨rfl, hr7, hg7⟩; have HRW := Aside0.mk hr7; have hgs7 := blk_grown hs6 hg7 (Kd.R_ne hr6 hs6 (by decide)); have hgl7 := blk_grown hl6 hg7 (Kd.R_ne hr6 hl6 (by decide)); replace HB := Aside0.mk (pw_below_grown (below_step HB.out hb6) _ (below_size (below_step HB.out hb6)) hg7 (Kd.R_base hr6)); replace HGS := Aside0.mk hgs7; have HGL := Aside0.mk hgl7; clear hb6 hr6 hs6 hl6 hr7 hg7 hgs7 hgl7; have hz0 : w7.cell? ⟨w5.heap.size, 0, none⟩ = some (.slice A5 l0.length c5) := (blk_cell HGL.out 0).trans rfl))
 rw [← HL.out] at HRW
 go_loopw [9, 34] (fun v9 v34 wr => ∃ (i : Nat) (vo : Value), i ≤ l0.length ∧ v34 = .int .i64 (i : Int) ∧ v9 = vo ∧ Aside0 (Kd.R k52 52 wr w.heap.size (fun _ => True) vo (placeL s0 s1 s2 s3 m (L.take i))) ∧ Aside0 (Kd.R k51 51 wr w.heap.size (fun _ => True) (.slice A5 l0.length c5) L) ∧ Aside0 (wr.heap[gs]? = some (.cells #[.int .i64 s0, .int .i64 s1, .int .i64 s2, .int .i64 s3] 27 (0, 0))) ∧ Aside0 (Below w.heap.size w wr)) (fun _ v34 _ => l0.length - (intOf v34).toNat)
 case atStart => exact ⟨0, _, Nat.zero_le _, rfl, rfl, ⟨Kd.R_nil _ _ _ _ _⟩, HRW, HGS, HB⟩
 case round =>
  clear HRW HGS HB HGL hz0 HR5
  obtain ⟨i, vo, hi, rfl, rfl, HO, HRW, HGS, HB⟩ := hrel
  by_cases hlt : i < l0.length
  ·have hlt' : (i : Int) < l0.length := by omega
   have hiL : i < L.length := by omega
   obtain ⟨x, hx⟩ : ∃ x, L[i]? = some x := ⟨_, List.getElem?_eq_getElem hiL⟩
   have HST := Aside0.mk (show placeL s0 s1 s2 s3 m (L.take (i + 1)) = cutL s0 s1 s2 s3 m 17 x (placeL s0 s1 s2 s3 m (L.take i)) from by
    rw [placeL_take _ _ _ _ _ _ _ hiL]; congr 1; rw [List.getElem?_eq_getElem hiL] at hx; injection hx)
   have HXO := Aside0.mk (HLF.out x (List.mem_of_getElem? hx))
   have hlen := placeL_le s0 s1 s2 s3 m (L.take i)
   obtain ⟨g5, c5', cur5, hv5, _, _, hh5⟩ := own51 HRW.out (by omega)
   injection hv5 with ha5 hn5 hc5
   subst ha5
   clear hn5 hc5
   obtain ⟨x0, x1, x2, x3⟩ := row51 (n := l0.length) HRW.out hx
   clear hh5 hx hiL
   generalize placeL s0 s1 s2 s3 m (L.take i) = out0 at *
   obtain ⟨goal, hgoal⟩ : ∃ g, g = placeL s0 s1 s2 s3 m (L.take (i + 1)) := ⟨_, rfl⟩
   have HGO := Aside0.mk hgoal
   replace HST := HST.out
   rw [← hgoal] at HST
   replace HST := Aside0.mk HST
   clear hgoal
   have HLL := Aside0.mk hLl
   have HGDD := Aside0.mk hgd
   clear hLl hgd
   go_wp2_with (first | ((with_reducible refine gate_dst (N := 11) rfl ?_); refine bx 11 #[.int .i64 0, .int .i64 0, .int .u64 0, .int .i64 0] 51 ?_; intro gf hggf wf hxgf hbgf; have N5 := Aside0.mk (show gf ≠ g5 from by have := Kd.R_lt HRW.out g5 rfl; omega); have hb0 := HB.out; have HXF := Aside0.mk (put4 (a' := .int .i64 x.f0.f0) (b' := .int .i64 x.f0.f1) (c' := .int .u64 x.f1) (d' := .int .i64 x.f2) hxgf); have hb4 := below4 (a' := .int .i64 x.f0.f0) (b' := .int .i64 x.f0.f1) (c' := .int .u64 x.f1) (d' := .int .i64 x.f2) hbgf (Nat.le_of_eq hggf.symm); replace HO := Aside0.mk (Kd.R_below HO.out hb4); replace HRW := Aside0.mk (Kd.R_below HRW.out hb4); replace HGS := Aside0.mk (blk_below HGS.out hb4); replace HB := Aside0.mk (below_step HB.out hb4); have hgfw : w.heap.size ≤ gf := Nat.le_trans (below_size hb0) (Nat.le_of_eq hggf.symm); obtain ⟨c0_, c1_, c2_, c3_⟩ := k4c ⟨hxgf⟩; have z0_ := blk_frozen hxgf 0; have z1_ := blk_frozen hxgf 1; have z2_ := blk_frozen hxgf 2; have z3_ := blk_frozen hxgf 3; clear hb4 hbgf hb0 hggf hxgf))
   have hLl := HLL.out
   have hgd := HGDD.out
   clear x0 x1 x2 x3 c0_ c1_ c2_ c3_ z0_ z1_ z2_ z3_
   go_loopg [9] 17 (fun kq v9 w2 => ∃ (vo : Value) (f : S51) (out : List S52), v9 = vo ∧ m ≤ out.length + kq ∧ out.length ≤ m ∧ Aside0 (freeOk f = true) ∧ Aside0 (cutL s0 s1 s2 s3 m kq f out = goal) ∧ Aside0 (Kd.R k52 52 w2 w.heap.size (fun _ => True) vo out) ∧ Aside0 (w2.heap[gf]? = some (.cells #[.int .i64 f.f0.f0, .int .i64 f.f0.f1, .int .u64 f.f1, .int .i64 f.f2] 51 (0, 0))) ∧ Aside0 (Kd.R k51 51 w2 w.heap.size (fun _ => True) (.slice (some ⟨g5, 0, none⟩) l0.length c5) L) ∧ Aside0 (w2.heap[gs]? = some (.cells #[.int .i64 s0, .int .i64 s1, .int .i64 s2, .int .i64 s3] 27 (0, 0))) ∧ Aside0 (Below w.heap.size w w2))
   case atStart => exact ⟨_, x, out0, rfl, by omega, hlen, HXO, ⟨HST.out.symm⟩, HO, HXF, HRW, HGS, HB⟩
   case round =>
    clear HXO HST HO HXF HRW HGS HB hlen
    obtain ⟨vo, f, out, rfl, hfu, hlen, HFO, HCU, HO, HXF, HRW, HGS, HB⟩ := hrel
    obtain ⟨Ao, co, rfl⟩ := Kd.R_slice HO.out
    have HGF := Aside0.mk (show w.heap.size ≤ gf from hgfw)
    by_cases hlm : out.length < m
    ·have hlm' : (out.length : Int) < (m : Int) := by omega
     obtain ⟨k', hk'⟩ : ∃ k', gk = k' + 1 := ⟨gk - 1, by omega⟩
     rw [hk'] at HCU hfu
     have HKK := Aside0.mk hk'
     clear hk'
     obtain ⟨e0, e1, e2, e3⟩ := k4c HGS
     obtain ⟨f0, f1, f2, f3⟩ := k4c HXF
     by_cases hfit : fitV s0 s1 s2 s3 f.f1 f.f2 = 0
     ·have HPC := Aside0.mk (piece_no f hgd HFO.out hfit)
      have HEQ := Aside0.mk (show out = goal from by rw [← HCU.out, cutL, if_neg (fun h => h.2 hfit)])
      clear hfit hLl hgd
      go_wp2_with (first | (go_at_call 88; refine (shape_Piece.calls s0 s1 s2 s3 f.f0.f0 f.f0.f1 f.f1 f.f2 0 0 0 0 0 0 0 0 7 _ HPC.out).mono ?_; rintro e wp ⟨rfl, hb⟩; replace HXF := Aside0.mk (blk_below HXF.out hb); replace HGS := Aside0.mk (blk_below HGS.out hb); replace HRW := Aside0.mk (Kd.R_below HRW.out hb); replace HO := Aside0.mk (Kd.R_below HO.out hb); replace HB := Aside0.mk (below_step HB.out hb); clear hb) | ((with_reducible refine gate_dst (N := 12) rfl ?_); refine bx 12 #[.int .i64 0, .int .i64 0, .int .u64 0, .int .i64 0] 52 ?_; intro g12 hgg12 wa hxg12 hbg12; have HX12 := Aside0.mk hxg12; have HP := Aside0.mk hbg12; have hg12w : wp.heap.size ≤ g12 := Nat.le_of_eq hgg12.symm; have N12 := Aside0.mk (show some g12 ≠ (.slice Ao out.length co : Value).ownBlock from fun h => by have := Kd.R_lt HO.out g12 h.symm; omega); clear hgg12 hxg12 hbg12) | ((with_reducible refine gate_dst (N := 13) rfl ?_); refine bx 13 #[.int .i64 0, .int .i64 0, .int .u64 0, .int .i64 0] 51 ?_; intro g13 hgg13 wb hxg13 hbg13; have HX13 := Aside0.mk hxg13; have N1213 := Aside0.mk (show g12 ≠ g13 from by have := blk_lt HX12.out; omega); replace HX12 := Aside0.mk (blk_below HX12.out hbg13); have hg13w : wp.heap.size ≤ g13 := (by have := below_size HP.out; omega); replace HP := Aside0.mk (below_step HP.out hbg13); clear hgg13 hxg13 hbg13; obtain ⟨c0_, c1_, c2_, c3_⟩ := k4c HX12; have z0_ := blk_frozen HX12.out 0; have z1_ := blk_frozen HX12.out 1; have z2_ := blk_frozen HX12.out 2; have z3_ := blk_frozen HX12.out 3; obtain ⟨d0_, d1_, d2_, d3_⟩ := k4c HX13; have y0_ := blk_frozen HX13.out 0; have y1_ := blk_frozen HX13.out 1; have y2_ := blk_frozen HX13.out 2; have y3_ := blk_frozen HX13.out 3; have n1_ := N1213.out; have n2_ := N1213.out.symm))
      go_roundw
      case rel => exact ⟨i + 1, _, by omega, by go_num, rfl, ⟨by rw [← HGO.out, ← HEQ.out]; exact Kd.R_below HO.out (below4 (below4 HP.out hg12w) hg13w)⟩, ⟨Kd.R_below HRW.out (below4 (below4 HP.out hg12w) hg13w)⟩, ⟨blk_below HGS.out (below4 (below4 HP.out hg12w) hg13w)⟩, ⟨below_step HB.out (below4 (below4 HP.out hg12w) hg13w)⟩⟩
      case measure => simp [intOf]; omega
     ·have HPC := Aside0.mk (piece_yes f hgd HFO.out hfit)
      have HEQ := Aside0.mk (show cutL s0 s1 s2 s3 m k' (leftF s0 s1 f) (out ++ [pieceL s0 s1 f]) = goal from by rw [← HCU.out, cutL, if_pos ⟨hlm, hfit⟩])
      have HFL := Aside0.mk (leftF_ok s0 s1 HFO.out)
      clear hfit hLl hgd
      go_wp2_with (first | (go_at_call 88; refine (shape_Piece.calls s0 s1 s2 s3 f.f0.f0 f.f0.f1 f.f1 f.f2 f.f0.f0 f.f0.f1 (lowI f.f1 s0) s1 f.f0.f0 f.f0.f1 (Go.bits .andNot .u64 f.f1 (lowI f.f1 s0)) (wrap64 (f.f2 - s1)) 0 _ HPC.out).mono ?_; rintro e wp ⟨rfl, hb⟩; replace HXF := Aside0.mk (blk_below HXF.out hb); replace HGS := Aside0.mk (blk_below HGS.out hb); replace HRW := Aside0.mk (Kd.R_below HRW.out hb); replace HO := Aside0.mk (Kd.R_below HO.out hb); replace HB := Aside0.mk (below_step HB.out hb); clear hb) | ((with_reducible refine gate_dst (N := 12) rfl ?_); refine bx 12 #[.int .i64 0, .int .i64 0, .int .u64 0, .int .i64 0] 52 ?_; intro g12 hgg12 wa hxg12 hbg12; have HX12 := Aside0.mk hxg12; have HP := Aside0.mk hbg12; have hg12w : wp.heap.size ≤ g12 := Nat.le_of_eq hgg12.symm; have N12 := Aside0.mk (show some g12 ≠ (.slice Ao out.length co : Value).ownBlock from fun h => by have := Kd.R_lt HO.out g12 h.symm; omega); clear hgg12 hxg12 hbg12) | ((with_reducible refine gate_dst (N := 13) rfl ?_); refine bx 13 #[.int .i64 0, .int .i64 0, .int .u64 0, .int .i64 0] 51 ?_; intro g13 hgg13 wb hxg13 hbg13; have HX13 := Aside0.mk hxg13; have N1213 := Aside0.mk (show g12 ≠ g13 from by have := blk_lt HX12.out; omega); replace HX12 := Aside0.mk (blk_below HX12.out hbg13); have hg13w : wp.heap.size ≤ g13 := (by have := below_size HP.out; omega); replace HP := Aside0.mk (below_step HP.out hbg13); clear hgg13 hxg13 hbg13; obtain ⟨c0_, c1_, c2_, c3_⟩ := k4c HX12; have z0_ := blk_frozen HX12.out 0; have z1_ := blk_frozen HX12.out 1; have z2_ := blk_frozen HX12.out 2; have z3_ := blk_frozen HX12.out 3; obtain ⟨d0_, d1_, d2_, d3_⟩ := k4c HX13; have y0_ := blk_frozen HX13.out 0; have y1_ := blk_frozen HX13.out 1; have y2_ := blk_frozen HX13.out 2; have y3_ := blk_frozen HX13.out 3; have n1_ := N1213.out; have n2_ := N1213.out.symm))
      have hP8 := below_drew1 (below4 (a' := .int .i64 (f.f0.f0)) (b' := .int .i64 (f.f0.f1)) (c' := .int .u64 (Go.bits .andNot .u64 f.f1 (lowI f.f1 s0))) (d' := .int .i64 (wrap64 (f.f2 - s1))) (below4 (a' := .int .i64 (f.f0.f0)) (b' := .int .i64 (f.f0.f1)) (c' := .int .u64 (lowI f.f1 s0)) (d' := .int .i64 (s1)) HP.out hg12w) hg13w)
      have hx12 := blk_drew (far4 (a' := .int .i64 (f.f0.f0)) (b' := .int .i64 (f.f0.f1)) (c' := .int .u64 (Go.bits .andNot .u64 f.f1 (lowI f.f1 s0))) (d' := .int .i64 (wrap64 (f.f2 - s1))) (put4 (a' := .int .i64 (f.f0.f0)) (b' := .int .i64 (f.f0.f1)) (c' := .int .u64 (lowI f.f1 s0)) (d' := .int .i64 (s1)) HX12.out) N1213.out)
      have hx13 := blk_drew (put4 (a' := .int .i64 (f.f0.f0)) (b' := .int .i64 (f.f0.f1)) (c' := .int .u64 (Go.bits .andNot .u64 f.f1 (lowI f.f1 s0))) (d' := .int .i64 (wrap64 (f.f2 - s1))) (far4 (a' := .int .i64 (f.f0.f0)) (b' := .int .i64 (f.f0.f1)) (c' := .int .u64 (lowI f.f1 s0)) (d' := .int .i64 (s1)) HX13.out N1213.out.symm))
      replace HXF := Aside0.mk (blk_below HXF.out hP8)
      replace HGS := Aside0.mk (blk_below HGS.out hP8)
      replace HRW := Aside0.mk (Kd.R_below HRW.out hP8)
      replace HO := Aside0.mk (Kd.R_below HO.out hP8)
      replace HB := Aside0.mk (below_step HB.out hP8)
      replace HX12 := Aside0.mk hx12
      replace HX13 := Aside0.mk hx13
      have HT_ := Aside0.mk tab46
      have HW_ := Aside0.mk bits46
      clear hP8 hx12 hx13 HP c0_ c1_ c2_ c3_ z0_ z1_ z2_ z3_ d0_ d1_ d2_ d3_ y0_ y1_ y2_ y3_ n1_ n2_
      refine start_ (n := 7) (S := fun w' => w'.cell? ⟨g12, 0, none⟩ = some (.int .i64 (f.f0.f0)) ∧ w'.cell? ⟨g12, 1, none⟩ = some (.int .i64 (f.f0.f1)) ∧ w'.cell? ⟨g12, 2, none⟩ = some (.int .u64 (lowI f.f1 s0)) ∧ w'.cell? ⟨g12, 3, none⟩ = some (.int .i64 (s1)) ∧ w'.cell? ⟨g13, 0, none⟩ = some (.int .i64 (f.f0.f0)) ∧ w'.cell? ⟨g13, 1, none⟩ = some (.int .i64 (f.f0.f1)) ∧ w'.cell? ⟨g13, 2, none⟩ = some (.int .u64 (Go.bits .andNot .u64 f.f1 (lowI f.f1 s0))) ∧ w'.cell? ⟨g13, 3, none⟩ = some (.int .i64 (wrap64 (f.f2 - s1)))) (ds := [6]) (bm 7 0) (by kernel_rfl) rfl rfl ⟨(blk_cell HX12.out 0).trans rfl, (blk_cell HX12.out 1).trans rfl, (blk_cell HX12.out 2).trans rfl, (blk_cell HX12.out 3).trans rfl, (blk_cell HX13.out 0).trans rfl, (blk_cell HX13.out 1).trans rfl, (blk_cell HX13.out 2).trans rfl, (blk_cell HX13.out 3).trans rfl⟩ (fun hHeld => ?_)
      generalize World.drew _ = wq0 at HX12 HX13 HXF HGS HRW HB HO hHeld ⊢
      refine pu 0 (some 51) (bm 7 1) ?_
      refine tk8 1 (some 52) (bm 7 3) ?_
      refine tk8 4 (some 55) (bm 7 19) ?_
      refine one_ (i := 2) (N := some 53) (bm 7 23) rfl rfl (one_of HT_.out (by kernel_rfl)) (by decide) (fun K hK => ?_)
      refine value_ (w1 := ?_) (v := ?_) (by rfl) rfl ?_ ?_
      rotate_left 2
      ·go_simp
       constructor
       ·rfl
       ·rfl
      refine hK.out _ _ ⟨(blk_cell (blk_alloc HX12.out _) 0).trans rfl, (blk_cell (blk_alloc HX12.out _) 1).trans rfl, (blk_cell (blk_alloc HX12.out _) 2).trans rfl, (blk_cell (blk_alloc HX12.out _) 3).trans rfl, (blk_cell (blk_alloc HX13.out _) 0).trans rfl, (blk_cell (blk_alloc HX13.out _) 1).trans rfl, (blk_cell (blk_alloc HX13.out _) 2).trans rfl, (blk_cell (blk_alloc HX13.out _) 3).trans rfl⟩ (fun hHeld => ?_)
      clear hK K
      refine norm_ (a' := ?_) ?_ ?_
      rotate_left
      ·show Act.put _ (some 53) _ = _
       simp only [Act.put, List.setIfInBounds_toArray, List.set_cons_zero, List.set_cons_succ, i64_w, i32_w]
       rfl
      refine one_ (i := 3) (N := some 54) (bm 7 31) rfl rfl (one_of HT_.out (by kernel_rfl)) (by decide) (fun K hK => ?_)
      refine Kd.R_append_step k52 (w0 := w) w.heap.size (by rfl) (.tmp 51) (.tmp 53) 39 52 (.agg #[(.int .i64 0), (.int .i64 0), (.int .u64 0), (.int .i64 0)]) 32 rfl Try.underlying39 info52 rfl (by decide) (by omega) (.slice Ao out.length co) out (pieceL s0 s1 f) [.int .i64 (f.f0.f0), .int .i64 (f.f0.f1), .int .u64 (lowI f.f1 s0), .int .i64 (s1)] (fun _ => True) (fun _ => False) rfl rfl (k52_mkM _ _ _ (pieceL s0 s1 f)) (fun _ hk => hk.elim) (fun _ _ => trivial) HO.out HB.out (below_size HB.out) (by omega) ?_
      intro v54 wn ho hb hg hat
      have hx12 := blk_grown HX12.out hg (N12.out)
      have hx13 := blk_grown HX13.out hg (Kd.R_ne HO.out HX13.out (by decide))
      replace HXF := Aside0.mk (blk_grown HXF.out hg (Kd.R_ne HO.out HXF.out (by decide)))
      replace HGS := Aside0.mk (blk_grown HGS.out hg (Kd.R_ne HO.out HGS.out (by decide)))
      replace HRW := Aside0.mk (Kd.R_over' HRW.out (Kd.R_typed HO.out) (by decide) hg)
      replace HX12 := Aside0.mk hx12
      replace HX13 := Aside0.mk hx13
      replace HB := Aside0.mk hb
      replace HO := Aside0.mk ho
      clear ho hb hg hat hx12 hx13 N12
      refine hK.out _ _ ⟨(blk_cell HX12.out 0).trans rfl, (blk_cell HX12.out 1).trans rfl, (blk_cell HX12.out 2).trans rfl, (blk_cell HX12.out 3).trans rfl, (blk_cell HX13.out 0).trans rfl, (blk_cell HX13.out 1).trans rfl, (blk_cell HX13.out 2).trans rfl, (blk_cell HX13.out 3).trans rfl⟩ (fun hHeld => ?_)
      clear hK K
      refine norm_ (a' := ?_) ?_ ?_
      rotate_left
      ·show Act.put _ (some 54) _ = _
       simp only [Act.put, List.setIfInBounds_toArray, List.set_cons_zero, List.set_cons_succ, i64_w, i32_w]
       rfl
      refine pu 5 (some 9) (bm 7 63) ?_
      refine last_ (i := 6) (N := none) (bm 7 127) rfl rfl (one_of HT_.out (by kernel_rfl)) (by decide) (fun K hK => ?_)
      have hz0 := blk_frozen HXF.out 0
      have hz1 := blk_frozen HXF.out 1
      have hz2 := blk_frozen HXF.out 2
      have hz3 := blk_frozen HXF.out 3
      have hc0 := blk_cell HXF.out 0
      have hc1 := blk_cell HXF.out 1
      have hc2 := blk_cell HXF.out 2
      have hc3 := blk_cell HXF.out 3
      refine skip_ (w1 := ?_) (by rfl) rfl ?_ ?_
      rotate_left
      ·go_simp
       rfl
      refine hK.out _ _ ?_
      clear hK K hz0 hz1 hz2 hz3 hc0 hc1 hc2 hc3
      refine done_ (done_of HT_.out (by kernel_rfl)) ?_
      go_wp2
      go_roundg k'
      case rel => exact ⟨_, leftF s0 s1 f, out ++ [pieceL s0 s1 f], rfl, by simp; omega, by simp; omega, HFL, HEQ, ⟨Kd.R_grown2 HO.out rfl (grown4 wn gf) (fun k hk => by injection hk with hk; subst hk; exact Kd.R_ne HO.out HXF.out (by decide))⟩, ⟨put4 HXF.out⟩, ⟨Kd.R_grown2 HRW.out rfl (grown4 wn gf) (fun k hk => by injection hk with hk; subst hk; exact fun e => N5.out (by simpa [Value.ownBlock] using e))⟩, ⟨far4 HGS.out (blk_ne HGS.out HXF.out (by decide))⟩, ⟨below4 HB.out HGF.out⟩⟩
      case measure => have := HKK.out; omega
    ·have hlm' : ¬ (out.length : Int) < (m : Int) := by omega
     have HEQ := Aside0.mk (show out = goal from by
      rw [← HCU.out]
      cases gk with
      | zero => rfl
      | succ k => rw [cutL, if_neg (fun h => hlm h.1)])
     clear hLl hgd
     go_wp2
     go_roundw
     case rel => exact ⟨i + 1, _, by omega, by go_num, rfl, ⟨by rw [← HGO.out, ← HEQ.out]; exact HO.out⟩, HRW, HGS, HB⟩
     case measure => simp [intOf]; omega
  ·obtain rfl : i = l0.length := by omega
   have htk : L.take l0.length = L := List.take_of_length_le (by omega)
   rw [htk] at HO
   have hpb0 := HPB.out
   clear HPB
   generalize placeL s0 s1 s2 s3 m L = out at *
   have HPB := Aside0.mk hpb0
   clear hpb0 htk
   obtain ⟨Ao, co, rfl⟩ := Kd.R_slice HO.out
   by_cases hlm : out.length < m
   ·have hlm' : (out.length : Int) < (m : Int) := by omega
    have hpb := HPB.out
    rw [if_pos hlm] at hpb
    subst hpb
    go_wp2
    go_ret2
    exact ⟨_, rfl, Kd.R_nil _ _ _ _ _, HB.out⟩
   ·have hlm' : ¬ (out.length : Int) < (m : Int) := by omega
    have hpb := HPB.out
    rw [if_neg hlm] at hpb
    subst hpb
    go_wp2
    go_ret2
    exact ⟨_, rfl, HO.out, HB.out⟩
set_option maxHeartbeats 8000000 in
set_option maxRecDepth 100000 in
theorem place_bad (A0 : Option Addr) (c0 n0 : Nat) (s0 s1 s2 s3 m : Int) (w : World) (hb : ¬ (goodShape s0 s1 s2 s3 = true ∧ 1 ≤ m ∧ m ≤ 16)) :
  Calls Try.prog 46 #[.slice A0 n0 c0, .agg #[.int .i64 s0, .int .i64 s1, .int .i64 s2, .int .i64 s3], .int .i64 m] w fun e w' => ∃ v0_ : Value, e = .returned (.tuple #[v0_, .int .i64 1]) ∧ Kd.R k52 52 w' w.heap.size (fun _ => True) v0_ [] ∧ Below w.heap.size w w' := by
 have hu27 := Try.underlying27
 by_cases hg : goodShape s0 s1 s2 s3 = true
 ·have HCHK := Aside0.mk (show shape_Check.f s0 s1 s2 s3 = some 0 from by unfold shape_Check.f; rw [if_pos hg])
  have hm : ¬ (1 ≤ m ∧ m ≤ 16) := fun h => hb ⟨hg, h⟩
  clear hb hg
  by_cases h1 : m < 1
  ·have q1 : decide (m < 1) = true := by simp; omega
   clear hm
   go_enter Try.func46, Try.ntmps46
   go_wp2_with (first | ((with_reducible refine gate_dst (N := 4) rfl ?_); refine bx 4 #[.int .i64 s0, .int .i64 s1, .int .i64 s2, .int .i64 s3] 27 ?_; intro gs hggs w1 hxgs hbgs; have HGS := Aside0.mk hxgs; have HB := Aside0.mk hbgs; clear hggs hxgs hbgs; obtain ⟨e0, e1, e2, e3⟩ := k4c HGS) | (go_at_call 83; refine (shape_Check.calls s0 s1 s2 s3 0 _ HCHK.out).mono ?_; rintro e w2 ⟨rfl, hb⟩; replace HB := Aside0.mk (below_step HB.out hb); clear hb))
   go_ret2
   exact ⟨_, rfl, Kd.R_nil _ _ _ _ _, HB.out⟩
  ·have q1 : decide (m < 1) = false := by simp; omega
   have q2 : decide (16 < m) = true := by simp; omega
   clear hm
   go_enter Try.func46, Try.ntmps46
   go_wp2_with (first | ((with_reducible refine gate_dst (N := 4) rfl ?_); refine bx 4 #[.int .i64 s0, .int .i64 s1, .int .i64 s2, .int .i64 s3] 27 ?_; intro gs hggs w1 hxgs hbgs; have HGS := Aside0.mk hxgs; have HB := Aside0.mk hbgs; clear hggs hxgs hbgs; obtain ⟨e0, e1, e2, e3⟩ := k4c HGS) | (go_at_call 83; refine (shape_Check.calls s0 s1 s2 s3 0 _ HCHK.out).mono ?_; rintro e w2 ⟨rfl, hb⟩; replace HB := Aside0.mk (below_step HB.out hb); clear hb))
   go_ret2
   exact ⟨_, rfl, Kd.R_nil _ _ _ _ _, HB.out⟩
 ·have HCHK := Aside0.mk (show shape_Check.f s0 s1 s2 s3 = some 1 from by unfold shape_Check.f; rw [if_neg hg])
  clear hb hg
  go_enter Try.func46, Try.ntmps46
  go_wp2_with (first | ((with_reducible refine gate_dst (N := 4) rfl ?_); refine bx 4 #[.int .i64 s0, .int .i64 s1, .int .i64 s2, .int .i64 s3] 27 ?_; intro gs hggs w1 hxgs hbgs; have HGS := Aside0.mk hxgs; have HB := Aside0.mk hbgs; clear hggs hxgs hbgs; obtain ⟨e0, e1, e2, e3⟩ := k4c HGS) | (go_at_call 83; refine (shape_Check.calls s0 s1 s2 s3 1 _ HCHK.out).mono ?_; rintro e w2 ⟨rfl, hb⟩; replace HB := Aside0.mk (below_step HB.out hb); clear hb))
  go_ret2
  exact ⟨_, rfl, Kd.R_nil _ _ _ _ _, HB.out⟩
theorem pack_Place.calls (A0 : Option Addr) (c0 : Nat) (l0 : List (S51)) (a1_0 : Int) (a1_1 : Int) (a1_2 : Int) (a1_3 : Int) (a2 : Int) (r1 : List (S52)) (r2 : Int) (w : World) (hr0 : Kd.C k51 w A0 l0.length l0) (hc0 : l0.length ≤ c0) (h : pack_Place.f l0 a1_0 a1_1 a1_2 a1_3 a2 = some (r1, r2)) :
  Calls Try.prog 46 #[.slice A0 l0.length c0, .agg #[.int .i64 a1_0, .int .i64 a1_1, .int .i64 a1_2, .int .i64 a1_3], .int .i64 a2] w fun e w' => ∃ v0_ : Value, e = .returned (.tuple #[v0_, .int .i64 r2]) ∧ Kd.R k52 52 w' w.heap.size (fun _ => True) v0_ r1 ∧ Below w.heap.size w w' := by
 unfold pack_Place.f at h
 by_cases hok : placeOk l0 = true
 case neg => rw [if_neg hok] at h; cases h
 rw [if_pos hok] at h
 injection h with h
 unfold placeOk at hok
 simp only [Bool.and_eq_true, List.all_eq_true, decide_eq_true_eq] at hok
 by_cases hb : goodShape a1_0 a1_1 a1_2 a1_3 = true ∧ 1 ≤ a2 ∧ a2 ≤ 16
 ·obtain ⟨m, rfl⟩ := Int.eq_ofNat_of_zero_le (show 0 ≤ a2 by omega)
  have := place_any A0 c0 l0 a1_0 a1_1 a1_2 a1_3 m w hr0 hc0 hok.1 hok.2 hb.1 (by omega) (by omega)
  rw [h] at this
  exact this
 ·unfold placeB at h
  rw [if_neg hb] at h
  injection h with h1 h2
  subst h1 h2
  exact place_bad A0 c0 l0.length a1_0 a1_1 a1_2 a1_3 a2 w hb
end Go.Proofs.Ytckhjehibjdjdaa.P
namespace Go.Proofs.Ytckhjehibjdjdaa.P
open Go.RowKit Go.Proofs.YtckhjehibjdjdaaW.PrintWords Go.Proofs.YtckhjehibjdjdaaW.PrintLast Go.Proofs.YtckhjehibjdjdaaW.PrintMore
attribute [local go_sem] max2_int min2_int max_two min_two max_three min_three max_four min_four
set_option linter.unusedVariables false
set_option linter.unusedSimpArgs false
attribute [local go_sem high] eqA52
def ensemblelaw05_awake.f  : Option (Bool) := (pack_Place.f (([(⟨(⟨0, 0⟩ : S48), 1, 0⟩ : S51), (⟨(⟨1, 0⟩ : S48), 7, 0⟩ : S51)] : List (S51))) 1 0 1 3 4).bind fun bt483 => (if bt483.2 = 0 then (if (bt483.1.length : Int) = 4 then (if 0 < (bt483.1.length : Int) then (if ((rd_T52 bt483.1 0).f0.f0) = 1 then (if ((rd_T52 bt483.1 0).f1) = 1 then (if 2 < (bt483.1.length : Int) then (if ((rd_T52 bt483.1 2).f1) = 4 then (if 3 < (bt483.1.length : Int) then (some ((((rd_T52 bt483.1 3).f0.f0) == 0 && (((rd_T52 bt483.1 3).f0.f1) == 0)) && (((rd_T52 bt483.1 3).f1) == 1 && (((rd_T52 bt483.1 3).f2) == 0)))) else (none)) else (some false)) else (none)) else (some false)) else (some false)) else (none)) else (some false)) else (some false))
set_option maxHeartbeats 8000000 in
set_option maxRecDepth 100000 in
theorem ensemblelaw05_awake.calls  (r : Bool) (w : World) (h : ensemblelaw05_awake.f  = some r) (hr_ : r = true := by rfl) :
  Calls Try.prog 43 #[] w fun e w' => e = .returned (.bool r) ∧ Below w.heap.size w w' := by
 have hu27 := Try.underlying27
 have hu51 := Try.underlying51
 have hu48 := Try.underlying48
 have hu52 := Try.underlying52
 have HB := Aside0.mk (Below.refl w.heap.size w)
 have H : ((pack_Place.f (([(⟨(⟨0, 0⟩ : S48), 1, 0⟩ : S51), (⟨(⟨1, 0⟩ : S48), 7, 0⟩ : S51)] : List (S51))) 1 0 1 3 4).bind fun bt483 => (if bt483.2 = 0 then (if (bt483.1.length : Int) = 4 then (if 0 < (bt483.1.length : Int) then (if ((rd_T52 bt483.1 0).f0.f0) = 1 then (if ((rd_T52 bt483.1 0).f1) = 1 then (if 2 < (bt483.1.length : Int) then (if ((rd_T52 bt483.1 2).f1) = 4 then (if 3 < (bt483.1.length : Int) then (some ((((rd_T52 bt483.1 3).f0.f0) == 0 && (((rd_T52 bt483.1 3).f0.f1) == 0)) && (((rd_T52 bt483.1 3).f1) == 1 && (((rd_T52 bt483.1 3).f2) == 0)))) else (none)) else (some false)) else (none)) else (some false)) else (some false)) else (none)) else (some false)) else (some false))) = some r := h
 clear h
 obtain ⟨y480, hy480⟩ : ∃ y_ : List (S51), y_ = (([(⟨(⟨0, 0⟩ : S48), 1, 0⟩ : S51), (⟨(⟨1, 0⟩ : S48), 7, 0⟩ : S51)] : List (S51))) := ⟨_, rfl⟩
 replace H : ((pack_Place.f y480 1 0 1 3 4).bind fun bt483 => (if bt483.2 = 0 then (if (bt483.1.length : Int) = 4 then (if 0 < (bt483.1.length : Int) then (if ((rd_T52 bt483.1 0).f0.f0) = 1 then (if ((rd_T52 bt483.1 0).f1) = 1 then (if 2 < (bt483.1.length : Int) then (if ((rd_T52 bt483.1 2).f1) = 4 then (if 3 < (bt483.1.length : Int) then (some ((((rd_T52 bt483.1 3).f0.f0) == 0 && (((rd_T52 bt483.1 3).f0.f1) == 0)) && (((rd_T52 bt483.1 3).f1) == 1 && (((rd_T52 bt483.1 3).f2) == 0)))) else (none)) else (some false)) else (none)) else (some false)) else (some false)) else (none)) else (some false)) else (some false))) = some r := by first | (rw [hy480]; with_reducible exact H) | (have H2_ := (Option.bind_some _ _).symm.trans H; rw [hy480]; with_reducible exact H2_) | (have H2_ := (Option.bind_some _ _).symm.trans H; with_reducible exact H2_) | with_reducible exact H | (rw [hy480]; exact H) | exact H
 have Ny480 := Aside0.mk hy480
 clear hy480
 replace H := Option.bind_eq_some_iff.mp H
 obtain ⟨⟨t483, t486⟩, A10, H⟩ := H
 replace H : (if t486 = 0 then (if (t483.length : Int) = 4 then (if 0 < (t483.length : Int) then (if ((rd_T52 t483 0).f0.f0) = 1 then (if ((rd_T52 t483 0).f1) = 1 then (if 2 < (t483.length : Int) then (if ((rd_T52 t483 2).f1) = 4 then (if 3 < (t483.length : Int) then (some ((((rd_T52 t483 3).f0.f0) == 0 && (((rd_T52 t483 3).f0.f1) == 0)) && (((rd_T52 t483 3).f1) == 1 && (((rd_T52 t483 3).f2) == 0)))) else (none)) else (some false)) else (none)) else (some false)) else (some false)) else (none)) else (some false)) else (some false)) = some r := H
 have A1 := Aside0.mk A10
 clear A10
 by_cases c2 : t486 = 0
 ·rw [if_pos c2] at H
  have c2b0 : (t486 == 0) = true := beq_iff_eq.mpr c2
  have c2b1 : (t486 != 0) = false := bne_eq_false_iff_eq.mpr c2
  clear c2
  by_cases c3 : (t483.length : Int) = 4
  ·rw [if_pos c3] at H
   have c3b0 : ((t483.length : Int) == 4) = true := beq_iff_eq.mpr c3
   have c3b1 : ((t483.length : Int) != 4) = false := bne_eq_false_iff_eq.mpr c3
   clear c3
   by_cases c4 : 0 < (t483.length : Int)
   ·rw [if_pos c4] at H
    have c4b0 : decide (0 < (t483.length : Int)) = true := decide_eq_true c4
    have c4b1 : decide (0 < t483.length) = true := decide_eq_true (by omega)
    clear c4
    by_cases c5 : ((rd_T52 t483 0).f0.f0) = 1
    ·rw [if_pos c5] at H
     have c5b0 : (((rd_T52 t483 0).f0.f0) == 1) = true := beq_iff_eq.mpr c5
     have c5b1 : (((rd_T52 t483 0).f0.f0) != 1) = false := bne_eq_false_iff_eq.mpr c5
     clear c5
     by_cases c6 : ((rd_T52 t483 0).f1) = 1
     ·rw [if_pos c6] at H
      have c6b0 : (((rd_T52 t483 0).f1) == 1) = true := beq_iff_eq.mpr c6
      have c6b1 : (((rd_T52 t483 0).f1) != 1) = false := bne_eq_false_iff_eq.mpr c6
      clear c6
      by_cases c7 : 2 < (t483.length : Int)
      ·rw [if_pos c7] at H
       have c7b0 : decide (2 < (t483.length : Int)) = true := decide_eq_true c7
       have c7b1 : decide (2 < t483.length) = true := decide_eq_true (by omega)
       clear c7
       by_cases c8 : ((rd_T52 t483 2).f1) = 4
       ·rw [if_pos c8] at H
        have c8b0 : (((rd_T52 t483 2).f1) == 4) = true := beq_iff_eq.mpr c8
        have c8b1 : (((rd_T52 t483 2).f1) != 4) = false := bne_eq_false_iff_eq.mpr c8
        clear c8
        by_cases c9 : 3 < (t483.length : Int)
        ·rw [if_pos c9] at H
         have c9b0 : decide (3 < (t483.length : Int)) = true := decide_eq_true c9
         have c9b1 : decide (3 < t483.length) = true := decide_eq_true (by omega)
         clear c9
         clear hr_
         obtain rfl := Option.some.inj H
         go_enter Try.func43, Try.ntmps43
         go_wp2_with (first | ((with_reducible refine gate_dst (N := 1) rfl ?_); (try (refine gate_guard (by rfl) ?_; dsimp only)); refine bx 1 #[.int .i64 0, .int .i64 0, .int .i64 0, .int .i64 0] 27 ?_; intro gb479 hg w10 hbox hb; have BK479 := Aside0.mk (hbox); have GW479 := ge_ hg; have GE479 := ge_ hg; replace HB := hs_ hb; clear hb hbox hg; obtain ⟨hcz11_0, hcz11_1, hcz11_2, hcz11_3, hfz11_0, hfz11_1, hfz11_2, hfz11_3⟩ := bz4_ BK479) | ((with_reducible refine gate_dst (N := 9) rfl ?_); (try (refine gate_guard (by rfl) ?_; dsimp only)); refine Kd.R_lit k51 _ 51 ?hg (N := 9) ?hd (xs := ([(⟨(⟨0, 0⟩ : S48), 1, 0⟩ : S51), (⟨(⟨1, 0⟩ : S48), 7, 0⟩ : S51)] : List (S51))) (inner := [.int .i64 0, .int .i64 0, .int .u64 1, .int .i64 0, .int .i64 1, .int .i64 0, .int .u64 7, .int .i64 0]) (ok := fun _ => True) (okp := fun _ => True) ?hr ?hp (fun _ hk => hk) trivial (Below.refl _ _) (Nat.le_refl _) (by simp) ?_; (case hd => rfl); (case hg => rfl); (case hr => first | (go_simp; done) | (go_simp; rfl)); (case hp => exact (Reps.c4 (show Kd.M k51 _ _ _ (⟨(⟨0, 0⟩ : S48), 1, 0⟩ : S51) [.int .i64 0, .int .i64 0, .int .u64 1, .int .i64 0] from (k51_mkM _ _ _ (⟨(⟨0, 0⟩ : S48), 1, 0⟩ : S51) )) (Reps.c4 (show Kd.M k51 _ _ _ (⟨(⟨1, 0⟩ : S48), 7, 0⟩ : S51) [.int .i64 1, .int .i64 0, .int .u64 7, .int .i64 0] from (k51_mkM _ _ _ (⟨(⟨1, 0⟩ : S48), 7, 0⟩ : S51) )) (Reps.none _ _)))); intro v481 w12 ho13 hb hg_ hnew_; clear hg_ hnew_; (first | rw [← Ny480.out] at ho13 | (simp only [Int.reduceToNat] at ho13; rw [← Ny480.out] at ho13)); have HO482 := Aside0.mk (Kd.R_lower ho13 (below_size hb_)); replace BK479 := Aside0.mk (blk_below (g := gb479) (o := .cells #[.int .i64 1, .int .i64 0, .int .i64 1, .int .i64 3] 27 (0, 0)) (by (with_reducible repeat (first | refine blk_drewN ?_ _ | refine blk_drew ?_ | refine blk_alloc ?_ _)); refine blk_put (cs := #[.int .i64 1, .int .i64 0, .int .i64 1, .int .i64 0]) ?_ 3 _ rfl; (with_reducible repeat (first | refine blk_drewN ?_ _ | refine blk_drew ?_ | refine blk_alloc ?_ _)); refine blk_put (cs := #[.int .i64 1, .int .i64 0, .int .i64 0, .int .i64 0]) ?_ 2 _ rfl; (with_reducible repeat (first | refine blk_drewN ?_ _ | refine blk_drew ?_ | refine blk_alloc ?_ _)); refine blk_put (cs := #[.int .i64 1, .int .i64 0, .int .i64 0, .int .i64 0]) ?_ 1 _ rfl; (with_reducible repeat (first | refine blk_drewN ?_ _ | refine blk_drew ?_ | refine blk_alloc ?_ _)); refine blk_put (cs := #[.int .i64 0, .int .i64 0, .int .i64 0, .int .i64 0]) ?_ 0 _ rfl; (with_reducible repeat (first | refine blk_drewN ?_ _ | refine blk_drew ?_ | refine blk_alloc ?_ _)); exact BK479.out) hb); replace HB := hs_ hb; clear hb ho13; obtain ⟨hcz14_0, hcz14_1, hcz14_2, hcz14_3, hfz14_0, hfz14_1, hfz14_2, hfz14_3⟩ := bz4_ BK479; obtain ⟨Ao15, co15, eo15⟩ := Kd.R_slice HO482.out; subst eo15) | ((with_reducible refine gate_callee (f := 46) rfl ?_); refine goesL_ (some 11) rfl rfl Try.func46 (by kernel_rfl) rfl #[.slice Ao15 y480.length co15, .agg #[.int .i64 1, .int .i64 0, .int .i64 1, .int .i64 3], .int .i64 4] rfl Z0 ?_; (with_reducible refine (pack_Place.calls _ _ y480 1 0 1 3 4 t483 t486 _ ?side1 ?side2 A1.out).mono ?_); (case side1 => repeat (first | exact (Kd.R_reads' HO482.out).2.2 | (with_reducible refine Kd.C_alloc ?_ _) | (with_reducible refine Kd.C_drewN ?_ _) | (with_reducible refine Kd.C_drew ?_))); (case side2 => exact (Kd.R_reads' HO482.out).2.1); rintro e w16 ⟨v484, rfl, ho0, hb⟩; refine ⟨_, rfl, ?_⟩; have HO485 := Aside0.mk (Kd.R_lower ho0 (below_size hb_)); replace HO482 := Aside0.mk (Kd.R_below (by (with_reducible repeat (first | apply Kd.R_alloc | apply Kd.R_drewN | apply Kd.R_drew)); exact HO482.out) hb); replace BK479 := bk_ BK479 hb; replace HB := hs_ hb; (try clear hb); (try clear hb2); (try clear hk); (try clear hi); (try clear ho0); obtain ⟨Ao17, co17, eo17⟩ := Kd.R_slice HO485.out; subst eo17; have p487 : 0 ≤ (0 : Int) := (by omega); have q487 : 0 < (t483.length : Int) := of_decide_eq_true Z1; obtain ⟨ad487, e487, hx487_0, hx487_1, hx487_2, hx487_3⟩ := at_T52 (Kd.R_reads' HO485.out).2.2 0 p487 q487; cases e487; have qi487 : (0 < t483.length) = True := eq_true (by omega); (try rw [show ((0 : Int)).toNat = 0 from rfl] at hx487_0); (try rw [show 0 * 4 = 0 from rfl] at hx487_0); (try rw [Addr.add_zero'] at hx487_0); (try rw [show ((0 : Int)).toNat = 0 from rfl] at hx487_1); (try rw [show 0 * 4 = 0 from rfl] at hx487_1); (try rw [Addr.add_zero'] at hx487_1); (try rw [show ((0 : Int)).toNat = 0 from rfl] at hx487_2); (try rw [show 0 * 4 = 0 from rfl] at hx487_2); (try rw [Addr.add_zero'] at hx487_2); (try rw [show ((0 : Int)).toNat = 0 from rfl] at hx487_3); (try rw [show 0 * 4 = 0 from rfl] at hx487_3); (try rw [Addr.add_zero'] at hx487_3); replace p487 := eq_true p487; replace q487 := eq_true q487; have p488 : 0 ≤ (0 : Int) := (by omega); have q488 : 0 < (t483.length : Int) := of_decide_eq_true Z1; obtain ⟨ad488, e488, hx488_0, hx488_1, hx488_2, hx488_3⟩ := at_T52 (Kd.R_reads' HO485.out).2.2 0 p488 q488; obtain rfl : ad487 = ad488 := (by injection e488); have qi488 : (0 < t483.length) = True := eq_true (by omega); (try rw [show ((0 : Int)).toNat = 0 from rfl] at hx488_0); (try rw [show 0 * 4 = 0 from rfl] at hx488_0); (try rw [Addr.add_zero'] at hx488_0); (try rw [show ((0 : Int)).toNat = 0 from rfl] at hx488_1); (try rw [show 0 * 4 = 0 from rfl] at hx488_1); (try rw [Addr.add_zero'] at hx488_1); (try rw [show ((0 : Int)).toNat = 0 from rfl] at hx488_2); (try rw [show 0 * 4 = 0 from rfl] at hx488_2); (try rw [Addr.add_zero'] at hx488_2); (try rw [show ((0 : Int)).toNat = 0 from rfl] at hx488_3); (try rw [show 0 * 4 = 0 from rfl] at hx488_3); (try rw [Addr.add_zero'] at hx488_3); replace p488 := eq_true p488; replace q488 := eq_true q488; have p489 : 0 ≤ (2 : Int) := (by omega); have q489 : 2 < (t483.length : Int) := of_decide_eq_true Z1; obtain ⟨ad489, e489, hx489_0, hx489_1, hx489_2, hx489_3⟩ := at_T52 (Kd.R_reads' HO485.out).2.2 2 p489 q489; obtain rfl : ad487 = ad489 := (by injection e489); (try simp only [show (2 : Int).toNat = 2 from rfl, Nat.reduceMul, Nat.reduceEqDiff, Go.Addr.add, ↓reduceIte] at hx489_0); (try simp only [show (2 : Int).toNat = 2 from rfl, Nat.reduceMul, Nat.reduceEqDiff, Go.Addr.add, ↓reduceIte] at hx489_1); (try simp only [show (2 : Int).toNat = 2 from rfl, Nat.reduceMul, Nat.reduceEqDiff, Go.Addr.add, ↓reduceIte] at hx489_2); (try simp only [show (2 : Int).toNat = 2 from rfl, Nat.reduceMul, Nat.reduceEqDiff, Go.Addr.add, ↓reduceIte] at hx489_3); have qi489 : (2 < t483.length) = True := eq_true (by omega); (try rw [show ((2 : Int)).toNat = 2 from rfl] at hx489_0); (try rw [show 2 * 4 = 8 from rfl] at hx489_0); (try rw [show ((2 : Int)).toNat = 2 from rfl] at hx489_1); (try rw [show 2 * 4 = 8 from rfl] at hx489_1); (try rw [show ((2 : Int)).toNat = 2 from rfl] at hx489_2); (try rw [show 2 * 4 = 8 from rfl] at hx489_2); (try rw [show ((2 : Int)).toNat = 2 from rfl] at hx489_3); (try rw [show 2 * 4 = 8 from rfl] at hx489_3); replace p489 := eq_true p489; replace q489 := eq_true q489; have p490 : 0 ≤ (3 : Int) := (by omega); have q490 : 3 < (t483.length : Int) := of_decide_eq_true Z1; obtain ⟨ad490, e490, hx490_0, hx490_1, hx490_2, hx490_3⟩ := at_T52 (Kd.R_reads' HO485.out).2.2 3 p490 q490; obtain rfl : ad487 = ad490 := (by injection e490); (try simp only [show (3 : Int).toNat = 3 from rfl, Nat.reduceMul, Nat.reduceEqDiff, Go.Addr.add, ↓reduceIte] at hx490_0); (try simp only [show (3 : Int).toNat = 3 from rfl, Nat.reduceMul, Nat.reduceEqDiff, Go.Addr.add, ↓reduceIte] at hx490_1); (try simp only [show (3 : Int).toNat = 3 from rfl, Nat.reduceMul, Nat.reduceEqDiff, Go.Addr.add, ↓reduceIte] at hx490_2); (try simp only [show (3 : Int).toNat = 3 from rfl, Nat.reduceMul, Nat.reduceEqDiff, Go.Addr.add, ↓reduceIte] at hx490_3); have qi490 : (3 < t483.length) = True := eq_true (by omega); (try rw [show ((3 : Int)).toNat = 3 from rfl] at hx490_0); (try rw [show 3 * 4 = 12 from rfl] at hx490_0); (try rw [show ((3 : Int)).toNat = 3 from rfl] at hx490_1); (try rw [show 3 * 4 = 12 from rfl] at hx490_1); (try rw [show ((3 : Int)).toNat = 3 from rfl] at hx490_2); (try rw [show 3 * 4 = 12 from rfl] at hx490_2); (try rw [show ((3 : Int)).toNat = 3 from rfl] at hx490_3); (try rw [show 3 * 4 = 12 from rfl] at hx490_3); replace p490 := eq_true p490; replace q490 := eq_true q490))
         go_ret
         exact ⟨by first | rfl | (simp [errW_none, errW_some] <;> rfl) | (simp [*, errW_none, errW_some] <;> rfl), hb_⟩
        ·rw [if_neg c9] at H
         exact absurd H (by simp)
       ·rw [if_neg c8] at H
        have c8b0 : (((rd_T52 t483 2).f1) == 4) = false := beq_eq_false_iff_ne.mpr c8
        have c8b1 : (((rd_T52 t483 2).f1) != 4) = true := bne_iff_ne.mpr c8
        rw [hr_] at H
        cases H
      ·rw [if_neg c7] at H
       exact absurd H (by simp)
     ·rw [if_neg c6] at H
      have c6b0 : (((rd_T52 t483 0).f1) == 1) = false := beq_eq_false_iff_ne.mpr c6
      have c6b1 : (((rd_T52 t483 0).f1) != 1) = true := bne_iff_ne.mpr c6
      rw [hr_] at H
      cases H
    ·rw [if_neg c5] at H
     have c5b0 : (((rd_T52 t483 0).f0.f0) == 1) = false := beq_eq_false_iff_ne.mpr c5
     have c5b1 : (((rd_T52 t483 0).f0.f0) != 1) = true := bne_iff_ne.mpr c5
     rw [hr_] at H
     cases H
   ·rw [if_neg c4] at H
    exact absurd H (by simp)
  ·rw [if_neg c3] at H
   have c3b0 : ((t483.length : Int) == 4) = false := beq_eq_false_iff_ne.mpr c3
   have c3b1 : ((t483.length : Int) != 4) = true := bne_iff_ne.mpr c3
   rw [hr_] at H
   cases H
 ·rw [if_neg c2] at H
  have c2b0 : (t486 == 0) = false := beq_eq_false_iff_ne.mpr c2
  have c2b1 : (t486 != 0) = true := bne_iff_ne.mpr c2
  rw [hr_] at H
  cases H
end Go.Proofs.Ytckhjehibjdjdaa.P
namespace Go.Proofs.Ytckhjehibjdjdaa.P
open Go.RowKit Go.Proofs.YtckhjehibjdjdaaW.PrintWords Go.Proofs.YtckhjehibjdjdaaW.PrintLast Go.Proofs.YtckhjehibjdjdaaW.PrintMore
attribute [local go_sem] max2_int min2_int max_two min_two max_three min_three max_four min_four
set_option linter.unusedVariables false
set_option linter.unusedSimpArgs false
attribute [local go_sem high] eqA48
def ensembleref05_find.l0 : Nat → List (S51) → Int → Int → Int → Option (Int)
 | 0, _, _, _, _ => none
 | k + 1, x0, x5, x119000, x119001 => if x5 < (x0.length : Int) then (if 0 ≤ x5 then (if (((rd_T51 x0 x5).f0.f0) == x119000 && (((rd_T51 x0 x5).f0.f1) == x119001)) = true then (some x5) else (ensembleref05_find.l0 k x0 (wrap64 (x5 + 1)) x119000 x119001)) else (none)) else (some (-1))
def ensembleref05_find.f (k : Nat) (l0 : List (S51)) (a1_0 : Int) (a1_1 : Int) : Option (Int) := ensembleref05_find.l0 k l0 0 a1_0 a1_1
set_option maxHeartbeats 8000000 in
set_option maxRecDepth 100000 in
theorem ensembleref05_find.calls (k : Nat) (A0 : Option Addr) (c0 : Nat) (l0 : List (S51)) (a1_0 : Int) (a1_1 : Int) (r : Int) (w : World) (hr0 : Kd.C k51 w A0 l0.length l0) (hc0 : l0.length ≤ c0) (h : ensembleref05_find.f k l0 a1_0 a1_1 = some r) :
  Calls Try.prog 79 #[.slice A0 l0.length c0, .agg #[.int .i64 a1_0, .int .i64 a1_1]] w fun e w' => e = .returned (.int .i64 r) ∧ Below w.heap.size w w' := by
 have hu48 := Try.underlying48
 have HR0 := Aside0.mk hr0
 have HC0 := Aside0.mk hc0
 clear hr0 hc0
 have HB := Aside0.mk (Below.refl w.heap.size w)
 have H : (ensembleref05_find.l0 k l0 0 a1_0 a1_1) = some r := h
 clear h
 have H' := Aside0.mk H
 clear H
 go_enter Try.func79, Try.ntmps79
 go_wp2_with (first | ((with_reducible refine gate_dst (N := 3) rfl ?_); refine bx 3 #[.int .i64 a1_0, .int .i64 a1_1] 48 ?_; intro gb118 hg w3 hbox hb; have BK118 := Aside0.mk (hbox); have GW118 := ge_ hg; have GE118 := ge_ hg; replace HB := hs_ hb; clear hb hbox hg))
 repeat (go_quiet (first | ((with_reducible refine gate_dst (N := 3) rfl ?_); refine bx 3 #[.int .i64 a1_0, .int .i64 a1_1] 48 ?_; intro gb118 hg w3 hbox hb; have BK118 := Aside0.mk (hbox); have GW118 := ge_ hg; have GE118 := ge_ hg; replace HB := hs_ hb; clear hb hbox hg)); try go_wp2_with (first | ((with_reducible refine gate_dst (N := 3) rfl ?_); refine bx 3 #[.int .i64 a1_0, .int .i64 a1_1] 48 ?_; intro gb118 hg w3 hbox hb; have BK118 := Aside0.mk (hbox); have GW118 := ge_ hg; have GE118 := ge_ hg; replace HB := hs_ hb; clear hb hbox hg)))
 go_loopg [5] k (fun kq v5 w' => ∃ (x5_1 : Int), v5 = .int .i64 x5_1 ∧ Aside0 (ensembleref05_find.l0 kq l0 x5_1 a1_0 a1_1 = some r) ∧ Aside0 (kq ≤ k) ∧ Aside0 (w'.heap[gb118]? = some (.cells #[.int .i64 a1_0, .int .i64 a1_1] 48 (0, 0))) ∧ Aside0 (Below w.heap.size w w'))
 case atStart => exact ⟨(0), Z5, H', ⟨Nat.le_refl _⟩, ⟨bo_ BK118⟩, ⟨hb_⟩⟩
 case round =>
  clear H'
  try clear p2
  obtain ⟨x5_1, rfl, HA, HK1, BK118, HB⟩ := hrel
  cases gk with
  | zero => exact absurd HA.out (by simp [ensembleref05_find.l0])
  | succ k1 =>
   have H := HA.out
   clear HA
   simp only [ensembleref05_find.l0] at H
   by_cases c4 : x5_1 < (l0.length : Int)
   ·rw [if_pos c4] at H
    have c4b0 : decide (x5_1 < (l0.length : Int)) = true := decide_eq_true c4
    clear c4
    by_cases c5 : 0 ≤ x5_1
    ·rw [if_pos c5] at H
     have c5b0 : decide (0 ≤ x5_1) = true := decide_eq_true c5
     clear c5
     by_cases c6 : (((rd_T51 l0 x5_1).f0.f0) == a1_0 && (((rd_T51 l0 x5_1).f0.f1) == a1_1)) = true
     ·rw [if_pos c6] at H
      have c6b0 : (((rd_T51 l0 x5_1).f0.f0) == a1_0 && (((rd_T51 l0 x5_1).f0.f1) == a1_1)) = true := c6
      (try (have c6b1 : decide (((rd_T51 l0 x5_1).f0.f0) = a1_0 && (((rd_T51 l0 x5_1).f0.f1) == a1_1)) = true := by simpa using c6))
      (try (have c6b2 : (((rd_T51 l0 x5_1).f0.f0) == a1_0 && (((rd_T51 l0 x5_1).f0.f1) == a1_1)) = true := by simpa using c6))
      clear c6
      obtain rfl := Option.some.inj H
      have p119 : 0 ≤ (x5_1 : Int) := of_decide_eq_true Z1
      have q119 : x5_1 < (l0.length : Int) := of_decide_eq_true Z1
      obtain ⟨ad119, e119, hx119_0, hx119_1, hx119_2, hx119_3⟩ := at_T51 HR0.out x5_1 p119 q119
      cases e119
      replace hx119_0 := cx_ hx119_0
      replace hx119_1 := cx_ hx119_1
      replace hx119_2 := cx_ hx119_2
      replace hx119_3 := cx_ hx119_3
      replace p119 := eq_true p119
      replace q119 := eq_true q119
      obtain ⟨hcz7_0, hcz7_1, hfz7_0, hfz7_1⟩ := bz2_ BK118
      go_wp2
      repeat (go_quiet (fail); try go_wp2)
      go_ret
      exact ⟨by first | rfl | (simp [errW_none, errW_some] <;> rfl) | (simp [*, errW_none, errW_some] <;> rfl), hb_⟩
     ·rw [if_neg c6] at H
      have c6b0 : (((rd_T51 l0 x5_1).f0.f0) == a1_0 && (((rd_T51 l0 x5_1).f0.f1) == a1_1)) = false := by simpa using c6
      (try (have c6b1 : decide (((rd_T51 l0 x5_1).f0.f0) = a1_0 && (((rd_T51 l0 x5_1).f0.f1) == a1_1)) = false := by simpa using c6))
      (try (have c6b2 : (((rd_T51 l0 x5_1).f0.f0) == a1_0 && (((rd_T51 l0 x5_1).f0.f1) == a1_1)) = false := by simpa using c6))
      (try (have c6b3 : ¬ (((rd_T51 l0 x5_1).f0.f0) = a1_0 && (((rd_T51 l0 x5_1).f0.f1) == a1_1)) := by simpa using c6))
      clear c6
      have H' := Aside0.mk H
      clear H
      have p119 : 0 ≤ (x5_1 : Int) := of_decide_eq_true Z1
      have q119 : x5_1 < (l0.length : Int) := of_decide_eq_true Z1
      obtain ⟨ad119, e119, hx119_0, hx119_1, hx119_2, hx119_3⟩ := at_T51 HR0.out x5_1 p119 q119
      cases e119
      replace hx119_0 := cx_ hx119_0
      replace hx119_1 := cx_ hx119_1
      replace hx119_2 := cx_ hx119_2
      replace hx119_3 := cx_ hx119_3
      replace p119 := eq_true p119
      replace q119 := eq_true q119
      obtain ⟨hcz8_0, hcz8_1, hfz8_0, hfz8_1⟩ := bz2_ BK118
      go_wp2
      repeat (go_quiet (fail); try go_wp2)
      go_roundg k1
      case measure => have := HK1.out; omega
      case rel => exact ⟨(wrap64 (x5_1 + 1)), Z5, H', ⟨by have := HK1.out; omega⟩, ⟨bo_ BK118⟩, ⟨hb_⟩⟩
    ·rw [if_neg c5] at H
     exact absurd H (by simp)
   ·rw [if_neg c4] at H
    have c4b0 : decide (x5_1 < (l0.length : Int)) = false := decide_eq_false c4
    clear c4
    obtain rfl := Option.some.inj H
    go_wp2
    repeat (go_quiet (fail); try go_wp2)
    go_ret
    exact ⟨by first | rfl | (simp [errW_none, errW_some] <;> rfl) | (simp [*, errW_none, errW_some] <;> rfl), hb_⟩
end Go.Proofs.Ytckhjehibjdjdaa.P
namespace Go.Proofs.Ytckhjehibjdjdaa.P
open Go.RowKit Go.Proofs.YtckhjehibjdjdaaW.PrintWords Go.Proofs.YtckhjehibjdjdaaW.PrintLast Go.Proofs.YtckhjehibjdjdaaW.PrintMore
attribute [local go_sem] max2_int min2_int max_two min_two max_three min_three max_four min_four
set_option linter.unusedVariables false
set_option linter.unusedSimpArgs false
def ensembleref05_Right.l0 : Nat → List (S51) → Int → Option (Bool)
 | 0, _, _ => none
 | k + 1, x0, x3 => if x3 < (x0.length : Int) then (if 0 ≤ x3 then (if ((rd_T51 x0 x3).f2) < 0 then (some false) else (if ((rd_T51 x0 x3).f2) > 1048576 then (some false) else (if x3 ≤ (x0.length : Int) then ((ensembleref05_find.f k (x0.take (x3 : Int).toNat) ((rd_T51 x0 x3).f0.f0) ((rd_T51 x0 x3).f0.f1)).bind fun t127 => (if t127 ≥ 0 then (some false) else (ensembleref05_Right.l0 k x0 (wrap64 (x3 + 1))))) else (none)))) else (none)) else (some true)
def ensembleref05_Right.f (k : Nat) (l0 : List (S51)) : Option (Bool) := ensembleref05_Right.l0 k l0 0
def ensembleref05_Right.T4 : Bool × List (List Nat × List Nat) := (true, [([], []), ([], []), ([0, 1], [0, 1]), ([2], [2]), ([3], [3]), ([4], [4]), ([5], [5]), ([6], [6]), ([6], [6]), ([7, 8, 6], [6, 7, 8]), ([9, 6], [6, 9]), ([10, 6], [6, 10]), ([11, 6], [6, 11]), ([6, 12], [6, 12]), ([13, 6], [13]), ([14], [14]), ([14], [14]), ([15, 16, 14], [14, 15, 16]), ([14], [14]), ([14], [14]), ([18, 19, 14], [14, 18, 19]), ([20, 14], [14, 20]), ([21, 14], [14, 21]), ([17, 22, 14, 14], [14, 17, 22]), ([23, 14], [14, 23]), ([14, 24], [14, 24])])
def ensembleref05_Right.B4 : List Nat := [0, 0, 3, 7, 15, 31, 63, 127, 127, 511, 1023, 2047, 4095, 8191, 16383, 32767, 32767, 131071, 32767, 32767, 819199, 1867775, 3964927, 8388607, 16777215, 33554431]
theorem ensembleref05_Right.tab4 : rtab .any (opsOf Try.f67 4) = ensembleref05_Right.T4 := by kernel_rfl
theorem ensembleref05_Right.bits4 : waitsOk ensembleref05_Right.T4.2 ensembleref05_Right.B4 = true := by kernel_rfl
set_option maxHeartbeats 8000000 in
set_option maxRecDepth 100000 in
theorem ensembleref05_Right.calls (k : Nat) (A0 : Option Addr) (c0 : Nat) (l0 : List (S51)) (r : Bool) (w : World) (hr0 : Kd.C k51 w A0 l0.length l0) (hc0 : l0.length ≤ c0) (h : ensembleref05_Right.f k l0 = some r) :
  Calls Try.prog 67 #[.slice A0 l0.length c0] w fun e w' => e = .returned (.bool r) ∧ Below w.heap.size w w' := by
 have hu48 := Try.underlying48
 have HR0 := Aside0.mk hr0
 have HC0 := Aside0.mk hc0
 clear hr0 hc0
 have HB := Aside0.mk (Below.refl w.heap.size w)
 have H : (ensembleref05_Right.l0 k l0 0) = some r := h
 clear h
 have H' := Aside0.mk H
 clear H
 go_enter Try.func67, Try.ntmps67
 go_wp2
 go_loopg [3] k (fun kq v3 w' => ∃ (x3_1 : Int), v3 = .int .i64 x3_1 ∧ Aside0 (ensembleref05_Right.l0 kq l0 x3_1 = some r) ∧ Aside0 (kq ≤ k) ∧ Aside0 (Below w.heap.size w w'))
 case atStart => exact ⟨(0), Z5, H', ⟨Nat.le_refl _⟩, ⟨hb_⟩⟩
 case round =>
  clear H'
  obtain ⟨x3_1, rfl, HA, HK1, HB⟩ := hrel
  cases gk with
  | zero => exact absurd HA.out (by simp [ensembleref05_Right.l0])
  | succ k1 =>
   have H := HA.out
   clear HA
   simp only [ensembleref05_Right.l0] at H
   by_cases c2 : x3_1 < (l0.length : Int)
   ·rw [if_pos c2] at H
    have c2b0 : decide (x3_1 < (l0.length : Int)) = true := decide_eq_true c2
    clear c2
    by_cases c3 : 0 ≤ x3_1
    ·rw [if_pos c3] at H
     have c3b0 : decide (0 ≤ x3_1) = true := decide_eq_true c3
     clear c3
     by_cases c4 : ((rd_T51 l0 x3_1).f2) < 0
     ·rw [if_pos c4] at H
      have c4b0 : decide (((rd_T51 l0 x3_1).f2) < 0) = true := decide_eq_true c4
      clear c4
      obtain rfl := Option.some.inj H
      try go_wp2
      replace HB := Aside0.mk (below_drew1 HB.out)
      have p120 : 0 ≤ (x3_1 : Int) := of_decide_eq_true Z1
      have q120 : x3_1 < (l0.length : Int) := of_decide_eq_true Z1
      obtain ⟨ad120, e120, hx120_0, hx120_1, hx120_2, hx120_3⟩ := at_T51 HR0.out x3_1 p120 q120
      have hw120_3 := hx120_3
      have hw120_2 := hx120_2
      have hw120_1 := hx120_1
      have hw120_0 := hx120_0
      cases e120
      replace hx120_0 := cx_ hx120_0
      replace hx120_1 := cx_ hx120_1
      replace hx120_2 := cx_ hx120_2
      replace hx120_3 := cx_ hx120_3
      replace p120 := eq_true p120
      replace q120 := eq_true q120
      refine start_ (n := 26) (S := fun w' => w'.cell? (ad120.add ((x3_1).toNat * 4)) = some (.int .i64 ((rd_T51 l0 x3_1).f0.f0)) ∧ w'.cell? ⟨(ad120.add ((x3_1).toNat * 4)).block, (ad120.add ((x3_1).toNat * 4)).off + 1, none⟩ = some (.int .i64 ((rd_T51 l0 x3_1).f0.f1)) ∧ w'.cell? ⟨(ad120.add ((x3_1).toNat * 4)).block, (ad120.add ((x3_1).toNat * 4)).off + 2, none⟩ = some (.int .u64 ((rd_T51 l0 x3_1).f1)) ∧ w'.cell? ⟨(ad120.add ((x3_1).toNat * 4)).block, (ad120.add ((x3_1).toNat * 4)).off + 3, none⟩ = some (.int .i64 ((rd_T51 l0 x3_1).f2))) (ds := []) (bm 26 0) (by kernel_rfl) rfl rfl ⟨((HB.out.cell (World.block_lt_of_cell? w _ hw120_0)).trans hw120_0), ((HB.out.cell (World.block_lt_of_cell? w _ hw120_1)).trans hw120_1), ((HB.out.cell (World.block_lt_of_cell? w _ hw120_2)).trans hw120_2), ((HB.out.cell (World.block_lt_of_cell? w _ hw120_3)).trans hw120_3)⟩ (fun hHeld => ?_); refine with_tabW ensembleref05_Right.tab4 ensembleref05_Right.bits4 (fun HT_ HW_ => ?_)
      generalize wr.drew = w5 at HB hx120_0 hx120_1 hx120_2 hx120_3 hHeld ⊢
      refine pu 0 (some 10) (bm 26 1) ?_
      refine pu 1 (some 11) (bm 26 3) ?_
      refine pu 2 (some 12) (bm 26 7) ?_
      refine pu 3 (some 13) (bm 26 15) ?_
      refine tk4 4 (some 14) (bm 26 31) ?_
      refine pu 5 (some 15) (bm 26 63) ?_
      refine pu 6 (some 16) (bm 26 127) ?_
      refine pv 7 (some 17) (bm 26 255) ?_
      refine pv 8 (some 18) (bm 26 511) ?_
      refine pv 9 (some 19) (bm 26 1023) ?_
      refine pv 10 (some 20) (bm 26 2047) ?_
      refine pv 11 (some 21) (bm 26 4095) ?_
      refine pv 12 (some 22) (bm 26 8191) ?_
      refine pu 13 (some 23) (bm 26 16383) ?_
      refine pu 14 (some 24) (bm 26 32767) ?_
      refine pv 15 (some 25) (bm 26 65535) ?_
      refine pv 16 (some 26) (bm 26 131071) ?_
      refine pv 17 (some 27) (bm 26 262143) ?_
      refine pv 18 (some 28) (bm 26 524287) ?_
      refine pv 19 (some 29) (bm 26 1048575) ?_
      refine pv 20 (some 30) (bm 26 2097151) ?_
      refine pv 21 (some 31) (bm 26 4194303) ?_
      refine pv 22 (some 32) (bm 26 8388607) ?_
      refine pv 23 (some 33) (bm 26 16777215) ?_
      refine pv 24 (some 34) (bm 26 33554431) ?_
      refine pu 25 (some 35) (bm 26 67108863) ?_
      refine done_ (done_of HT_.out (by kernel_rfl)) ?_
      try go_wp2
      go_ret
      exact ⟨by first | rfl | (simp [errW_none, errW_some] <;> rfl) | (simp [*, errW_none, errW_some] <;> rfl), hb_⟩
     ·rw [if_neg c4] at H
      have c4b0 : decide (((rd_T51 l0 x3_1).f2) < 0) = false := decide_eq_false c4
      clear c4
      by_cases c6 : ((rd_T51 l0 x3_1).f2) > 1048576
      ·rw [if_pos c6] at H
       have c6b0 : decide (1048576 < ((rd_T51 l0 x3_1).f2)) = true := decide_eq_true c6
       clear c6
       obtain rfl := Option.some.inj H
       try go_wp2
       replace HB := Aside0.mk (below_drew1 HB.out)
       have p120 : 0 ≤ (x3_1 : Int) := of_decide_eq_true Z1
       have q120 : x3_1 < (l0.length : Int) := of_decide_eq_true Z1
       obtain ⟨ad120, e120, hx120_0, hx120_1, hx120_2, hx120_3⟩ := at_T51 HR0.out x3_1 p120 q120
       have hw120_3 := hx120_3
       have hw120_2 := hx120_2
       have hw120_1 := hx120_1
       have hw120_0 := hx120_0
       cases e120
       replace hx120_0 := cx_ hx120_0
       replace hx120_1 := cx_ hx120_1
       replace hx120_2 := cx_ hx120_2
       replace hx120_3 := cx_ hx120_3
       replace p120 := eq_true p120
       replace q120 := eq_true q120
       have p121 : 0 ≤ (x3_1 : Int) := of_decide_eq_true Z1
       have q121 : x3_1 < (l0.length : Int) := of_decide_eq_true Z1
       obtain ⟨ad121, e121, hx121_0, hx121_1, hx121_2, hx121_3⟩ := at_T51 HR0.out x3_1 p121 q121
       have hw121_3 := hx121_3
       have hw121_2 := hx121_2
       have hw121_1 := hx121_1
       have hw121_0 := hx121_0
       obtain rfl : ad120 = ad121 := (by injection e121)
       replace hx121_0 := cx_ hx121_0
       replace hx121_1 := cx_ hx121_1
       replace hx121_2 := cx_ hx121_2
       replace hx121_3 := cx_ hx121_3
       replace p121 := eq_true p121
       replace q121 := eq_true q121
       refine start_ (n := 26) (S := fun w' => w'.cell? (ad120.add ((x3_1).toNat * 4)) = some (.int .i64 ((rd_T51 l0 x3_1).f0.f0)) ∧ w'.cell? ⟨(ad120.add ((x3_1).toNat * 4)).block, (ad120.add ((x3_1).toNat * 4)).off + 1, none⟩ = some (.int .i64 ((rd_T51 l0 x3_1).f0.f1)) ∧ w'.cell? ⟨(ad120.add ((x3_1).toNat * 4)).block, (ad120.add ((x3_1).toNat * 4)).off + 2, none⟩ = some (.int .u64 ((rd_T51 l0 x3_1).f1)) ∧ w'.cell? ⟨(ad120.add ((x3_1).toNat * 4)).block, (ad120.add ((x3_1).toNat * 4)).off + 3, none⟩ = some (.int .i64 ((rd_T51 l0 x3_1).f2)) ∧ w'.cell? (ad120.add ((x3_1).toNat * 4)) = some (.int .i64 ((rd_T51 l0 x3_1).f0.f0)) ∧ w'.cell? ⟨(ad120.add ((x3_1).toNat * 4)).block, (ad120.add ((x3_1).toNat * 4)).off + 1, none⟩ = some (.int .i64 ((rd_T51 l0 x3_1).f0.f1)) ∧ w'.cell? ⟨(ad120.add ((x3_1).toNat * 4)).block, (ad120.add ((x3_1).toNat * 4)).off + 2, none⟩ = some (.int .u64 ((rd_T51 l0 x3_1).f1)) ∧ w'.cell? ⟨(ad120.add ((x3_1).toNat * 4)).block, (ad120.add ((x3_1).toNat * 4)).off + 3, none⟩ = some (.int .i64 ((rd_T51 l0 x3_1).f2))) (ds := []) (bm 26 0) (by kernel_rfl) rfl rfl ⟨((HB.out.cell (World.block_lt_of_cell? w _ hw120_0)).trans hw120_0), ((HB.out.cell (World.block_lt_of_cell? w _ hw120_1)).trans hw120_1), ((HB.out.cell (World.block_lt_of_cell? w _ hw120_2)).trans hw120_2), ((HB.out.cell (World.block_lt_of_cell? w _ hw120_3)).trans hw120_3), ((HB.out.cell (World.block_lt_of_cell? w _ hw121_0)).trans hw121_0), ((HB.out.cell (World.block_lt_of_cell? w _ hw121_1)).trans hw121_1), ((HB.out.cell (World.block_lt_of_cell? w _ hw121_2)).trans hw121_2), ((HB.out.cell (World.block_lt_of_cell? w _ hw121_3)).trans hw121_3)⟩ (fun hHeld => ?_); refine with_tabW ensembleref05_Right.tab4 ensembleref05_Right.bits4 (fun HT_ HW_ => ?_)
       generalize wr.drew = w7 at HB hx120_0 hx120_1 hx120_2 hx120_3 hx121_0 hx121_1 hx121_2 hx121_3 hHeld ⊢
       refine pu 0 (some 10) (bm 26 1) ?_
       refine pu 1 (some 11) (bm 26 3) ?_
       refine pu 2 (some 12) (bm 26 7) ?_
       refine pu 3 (some 13) (bm 26 15) ?_
       refine tk8 4 (some 14) (bm 26 31) ?_
       refine pu 5 (some 15) (bm 26 63) ?_
       refine pu 6 (some 16) (bm 26 127) ?_
       refine pu 7 (some 17) (bm 26 255) ?_
       refine pu 8 (some 18) (bm 26 511) ?_
       refine pu 9 (some 19) (bm 26 1023) ?_
       refine pu 10 (some 20) (bm 26 2047) ?_
       refine tk8 11 (some 21) (bm 26 4095) ?_
       refine pu 12 (some 22) (bm 26 8191) ?_
       refine pu 13 (some 23) (bm 26 16383) ?_
       refine pu 14 (some 24) (bm 26 32767) ?_
       refine pv 15 (some 25) (bm 26 65535) ?_
       refine pv 16 (some 26) (bm 26 131071) ?_
       refine pv 17 (some 27) (bm 26 262143) ?_
       refine pv 18 (some 28) (bm 26 524287) ?_
       refine pv 19 (some 29) (bm 26 1048575) ?_
       refine pv 20 (some 30) (bm 26 2097151) ?_
       refine pv 21 (some 31) (bm 26 4194303) ?_
       refine pv 22 (some 32) (bm 26 8388607) ?_
       refine pv 23 (some 33) (bm 26 16777215) ?_
       refine pv 24 (some 34) (bm 26 33554431) ?_
       refine pu 25 (some 35) (bm 26 67108863) ?_
       refine done_ (done_of HT_.out (by kernel_rfl)) ?_
       try go_wp2
       go_ret
       exact ⟨by first | rfl | (simp [errW_none, errW_some] <;> rfl) | (simp [*, errW_none, errW_some] <;> rfl), hb_⟩
      ·rw [if_neg c6] at H
       have c6b0 : decide (1048576 < ((rd_T51 l0 x3_1).f2)) = false := decide_eq_false c6
       clear c6
       have c8b0 := eq_true (of_decide_eq_true Z1 : 0 ≤ x3_1)
       by_cases c9 : x3_1 ≤ (l0.length : Int)
       ·rw [if_pos c9] at H
        have c9b0 := eq_true c9
        have c9b1 : decide (x3_1 ≤ (l0.length : Int)) = true := decide_eq_true c9
        clear c9
        obtain ⟨y122, hy122⟩ : ∃ y_ : List (S51), y_ = (l0.take (x3_1 : Int).toNat) := ⟨_, rfl⟩
        replace H : ((ensembleref05_find.f k1 y122 ((rd_T51 l0 x3_1).f0.f0) ((rd_T51 l0 x3_1).f0.f1)).bind fun t127 => (if t127 ≥ 0 then (some false) else (ensembleref05_Right.l0 k1 l0 (wrap64 (x3_1 + 1))))) = some r := by first | (rw [hy122]; with_reducible exact H) | (have H2_ := (Option.bind_some _ _).symm.trans H; rw [hy122]; with_reducible exact H2_) | (have H2_ := (Option.bind_some _ _).symm.trans H; with_reducible exact H2_) | with_reducible exact H | (rw [hy122]; exact H) | exact H
        have Ny122 := Aside0.mk hy122
        clear hy122
        replace H := Option.bind_eq_some_iff.mp H
        obtain ⟨t127, A100, H⟩ := H
        replace H : (if t127 ≥ 0 then (some false) else (ensembleref05_Right.l0 k1 l0 (wrap64 (x3_1 + 1)))) = some r := H
        have A10 := Aside0.mk A100
        clear A100
        by_cases c11 : t127 ≥ 0
        ·rw [if_pos c11] at H
         have c11b0 : decide (0 ≤ t127) = true := decide_eq_true c11
         clear c11
         obtain rfl := Option.some.inj H
         try go_wp2
         replace HB := Aside0.mk (below_drew1 HB.out)
         have p120 : 0 ≤ (x3_1 : Int) := of_decide_eq_true Z1
         have q120 : x3_1 < (l0.length : Int) := of_decide_eq_true Z1
         obtain ⟨ad120, e120, hx120_0, hx120_1, hx120_2, hx120_3⟩ := at_T51 HR0.out x3_1 p120 q120
         have hw120_3 := hx120_3
         have hw120_2 := hx120_2
         have hw120_1 := hx120_1
         have hw120_0 := hx120_0
         cases e120
         replace hx120_0 := cx_ hx120_0
         replace hx120_1 := cx_ hx120_1
         replace hx120_2 := cx_ hx120_2
         replace hx120_3 := cx_ hx120_3
         replace p120 := eq_true p120
         replace q120 := eq_true q120
         have p121 : 0 ≤ (x3_1 : Int) := of_decide_eq_true Z1
         have q121 : x3_1 < (l0.length : Int) := of_decide_eq_true Z1
         obtain ⟨ad121, e121, hx121_0, hx121_1, hx121_2, hx121_3⟩ := at_T51 HR0.out x3_1 p121 q121
         have hw121_3 := hx121_3
         have hw121_2 := hx121_2
         have hw121_1 := hx121_1
         have hw121_0 := hx121_0
         obtain rfl : ad120 = ad121 := (by injection e121)
         replace hx121_0 := cx_ hx121_0
         replace hx121_1 := cx_ hx121_1
         replace hx121_2 := cx_ hx121_2
         replace hx121_3 := cx_ hx121_3
         replace p121 := eq_true p121
         replace q121 := eq_true q121
         have q13 : (x3_1 : Int) ≤ ((l0.length : Int) : Int) := of_decide_eq_true Z1
         obtain ⟨i013, hi013, _, hsz13, _⟩ := info_parts info51
         have hroom13 : l0.length ≤ c0 := HC0.out
         have hC13 : Kd.C k51 _ (some ad120) l0.length l0 := HR0.out
         have hcut13 := cut_to (P := Try.prog) 22 51 .i64 Try.underlying22 hi013 (some ad120) l0.length c0 x3_1 (of_decide_eq_true Z1) q13 hroom13
         have hr13 := Kd.C_take (m := (x3_1 : Int).toNat) hC13 (by omega)
         have hy13 : y122.length = (x3_1 : Int).toNat := (by rw [Ny122.out, List.length_take]; omega)
         rw [← Ny122.out] at hr13
         rw [← hy13] at hcut13
         have HR125 := Aside0.mk hr13
         have HC125 := Aside0.mk (show y122.length ≤ c0 from by omega)
         clear hr13 hC13 hroom13 hi013 hsz13
         have KY13 := Aside0.mk hy13
         clear hy13
         replace q13 := eq_true q13
         have p126 : 0 ≤ (x3_1 : Int) := of_decide_eq_true Z1
         have q126 : x3_1 < (l0.length : Int) := of_decide_eq_true Z1
         obtain ⟨ad126, e126, hx126_0, hx126_1, hx126_2, hx126_3⟩ := at_T51 HR0.out x3_1 p126 q126
         have hw126_3 := hx126_3
         have hw126_2 := hx126_2
         have hw126_1 := hx126_1
         have hw126_0 := hx126_0
         obtain rfl : ad120 = ad126 := (by injection e126)
         replace hx126_0 := cx_ hx126_0
         replace hx126_1 := cx_ hx126_1
         replace hx126_2 := cx_ hx126_2
         replace hx126_3 := cx_ hx126_3
         replace p126 := eq_true p126
         replace q126 := eq_true q126
         refine start_ (n := 26) (S := fun w' => w'.cell? (ad120.add ((x3_1).toNat * 4)) = some (.int .i64 ((rd_T51 l0 x3_1).f0.f0)) ∧ w'.cell? ⟨(ad120.add ((x3_1).toNat * 4)).block, (ad120.add ((x3_1).toNat * 4)).off + 1, none⟩ = some (.int .i64 ((rd_T51 l0 x3_1).f0.f1)) ∧ w'.cell? ⟨(ad120.add ((x3_1).toNat * 4)).block, (ad120.add ((x3_1).toNat * 4)).off + 2, none⟩ = some (.int .u64 ((rd_T51 l0 x3_1).f1)) ∧ w'.cell? ⟨(ad120.add ((x3_1).toNat * 4)).block, (ad120.add ((x3_1).toNat * 4)).off + 3, none⟩ = some (.int .i64 ((rd_T51 l0 x3_1).f2)) ∧ w'.cell? (ad120.add ((x3_1).toNat * 4)) = some (.int .i64 ((rd_T51 l0 x3_1).f0.f0)) ∧ w'.cell? ⟨(ad120.add ((x3_1).toNat * 4)).block, (ad120.add ((x3_1).toNat * 4)).off + 1, none⟩ = some (.int .i64 ((rd_T51 l0 x3_1).f0.f1)) ∧ w'.cell? ⟨(ad120.add ((x3_1).toNat * 4)).block, (ad120.add ((x3_1).toNat * 4)).off + 2, none⟩ = some (.int .u64 ((rd_T51 l0 x3_1).f1)) ∧ w'.cell? ⟨(ad120.add ((x3_1).toNat * 4)).block, (ad120.add ((x3_1).toNat * 4)).off + 3, none⟩ = some (.int .i64 ((rd_T51 l0 x3_1).f2)) ∧ w'.cell? (ad120.add ((x3_1).toNat * 4)) = some (.int .i64 ((rd_T51 l0 x3_1).f0.f0)) ∧ w'.cell? ⟨(ad120.add ((x3_1).toNat * 4)).block, (ad120.add ((x3_1).toNat * 4)).off + 1, none⟩ = some (.int .i64 ((rd_T51 l0 x3_1).f0.f1)) ∧ w'.cell? ⟨(ad120.add ((x3_1).toNat * 4)).block, (ad120.add ((x3_1).toNat * 4)).off + 2, none⟩ = some (.int .u64 ((rd_T51 l0 x3_1).f1)) ∧ w'.cell? ⟨(ad120.add ((x3_1).toNat * 4)).block, (ad120.add ((x3_1).toNat * 4)).off + 3, none⟩ = some (.int .i64 ((rd_T51 l0 x3_1).f2))) (ds := []) (bm 26 0) (by kernel_rfl) rfl rfl ⟨((HB.out.cell (World.block_lt_of_cell? w _ hw120_0)).trans hw120_0), ((HB.out.cell (World.block_lt_of_cell? w _ hw120_1)).trans hw120_1), ((HB.out.cell (World.block_lt_of_cell? w _ hw120_2)).trans hw120_2), ((HB.out.cell (World.block_lt_of_cell? w _ hw120_3)).trans hw120_3), ((HB.out.cell (World.block_lt_of_cell? w _ hw121_0)).trans hw121_0), ((HB.out.cell (World.block_lt_of_cell? w _ hw121_1)).trans hw121_1), ((HB.out.cell (World.block_lt_of_cell? w _ hw121_2)).trans hw121_2), ((HB.out.cell (World.block_lt_of_cell? w _ hw121_3)).trans hw121_3), ((HB.out.cell (World.block_lt_of_cell? w _ hw126_0)).trans hw126_0), ((HB.out.cell (World.block_lt_of_cell? w _ hw126_1)).trans hw126_1), ((HB.out.cell (World.block_lt_of_cell? w _ hw126_2)).trans hw126_2), ((HB.out.cell (World.block_lt_of_cell? w _ hw126_3)).trans hw126_3)⟩ (fun hHeld => ?_); refine with_tabW ensembleref05_Right.tab4 ensembleref05_Right.bits4 (fun HT_ HW_ => ?_)
         generalize wr.drew = w12 at HB HR125 hx120_0 hx120_1 hx120_2 hx120_3 hx121_0 hx121_1 hx121_2 hx121_3 hx126_0 hx126_1 hx126_2 hx126_3 hHeld ⊢
         refine pu 0 (some 10) (bm 26 1) ?_
         refine pu 1 (some 11) (bm 26 3) ?_
         refine pu 2 (some 12) (bm 26 7) ?_
         refine pu 3 (some 13) (bm 26 15) ?_
         refine tk12 4 (some 14) (bm 26 31) ?_
         refine pu 5 (some 15) (bm 26 63) ?_
         refine pu 6 (some 16) (bm 26 127) ?_
         refine pu 7 (some 17) (bm 26 255) ?_
         refine pu 8 (some 18) (bm 26 511) ?_
         refine pu 9 (some 19) (bm 26 1023) ?_
         refine pu 10 (some 20) (bm 26 2047) ?_
         refine tk12 11 (some 21) (bm 26 4095) ?_
         refine pu 12 (some 22) (bm 26 8191) ?_
         refine pu 13 (some 23) (bm 26 16383) ?_
         refine pu 14 (some 24) (bm 26 32767) ?_
         refine pu 15 (some 25) (bm 26 65535) ?_
         refine pu 16 (some 26) (bm 26 131071) ?_
         refine pu 17 (some 27) (bm 26 262143) ?_
         refine pu 18 (some 28) (bm 26 524287) ?_
         refine pu 19 (some 29) (bm 26 1048575) ?_
         refine pu 20 (some 30) (bm 26 2097151) ?_
         refine pu 21 (some 31) (bm 26 4194303) ?_
         refine tk12 22 (some 32) (bm 26 8388607) ?_
         refine one_ (i := 23) (N := some 33) (bm 26 16777215) rfl rfl (one_of HT_.out (by kernel_rfl)) (by decide) (fun K hK => ?_)
         refine goes_ Try.func79 (by kernel_rfl) rfl #[.slice (some ad120) y122.length c0, .agg #[.int .i64 ((rd_T51 l0 x3_1).f0.f0), .int .i64 ((rd_T51 l0 x3_1).f0.f1)]] (by rfl) rfl rfl Z0 ?_
         with_reducible refine (ensembleref05_find.calls k1 _ _ y122 ((rd_T51 l0 x3_1).f0.f0) ((rd_T51 l0 x3_1).f0.f1) t127 _ ?side1 ?side2 A10.out).mono ?_
         (case side1 => exact cs_ HR125)
         (case side2 => exact HC125.out)
         rintro e w14 ⟨rfl, hb⟩
         refine ⟨_, rfl, ?_⟩
         replace HB := hs_ hb
         (try clear hb)
         (try clear hb2)
         (try clear hk)
         (try clear hi)
         refine hK.out _ _ ⟨((HB.out.cell (World.block_lt_of_cell? w _ hw120_0)).trans hw120_0), ((HB.out.cell (World.block_lt_of_cell? w _ hw120_1)).trans hw120_1), ((HB.out.cell (World.block_lt_of_cell? w _ hw120_2)).trans hw120_2), ((HB.out.cell (World.block_lt_of_cell? w _ hw120_3)).trans hw120_3), ((HB.out.cell (World.block_lt_of_cell? w _ hw121_0)).trans hw121_0), ((HB.out.cell (World.block_lt_of_cell? w _ hw121_1)).trans hw121_1), ((HB.out.cell (World.block_lt_of_cell? w _ hw121_2)).trans hw121_2), ((HB.out.cell (World.block_lt_of_cell? w _ hw121_3)).trans hw121_3), ((HB.out.cell (World.block_lt_of_cell? w _ hw126_0)).trans hw126_0), ((HB.out.cell (World.block_lt_of_cell? w _ hw126_1)).trans hw126_1), ((HB.out.cell (World.block_lt_of_cell? w _ hw126_2)).trans hw126_2), ((HB.out.cell (World.block_lt_of_cell? w _ hw126_3)).trans hw126_3)⟩ (fun hHeld => ?_)
         clear hK K
         refine norm_ (a' := ?_) ?_ ?_
         rotate_left
         ·show Act.put _ (some 33) _ = _
          simp only [Act.put, List.setIfInBounds_toArray, List.set_cons_zero, List.set_cons_succ, i64_w, i32_w]
          rfl
         refine pu 24 (some 34) (bm 26 33554431) ?_
         refine pu 25 (some 35) (bm 26 67108863) ?_
         refine done_ (done_of HT_.out (by kernel_rfl)) ?_
         try go_wp2
         go_ret
         exact ⟨by first | rfl | (simp [errW_none, errW_some] <;> rfl) | (simp [*, errW_none, errW_some] <;> rfl), hb_⟩
        ·rw [if_neg c11] at H
         have c11b0 : decide (0 ≤ t127) = false := decide_eq_false c11
         clear c11
         have H' := Aside0.mk H
         clear H
         try go_wp2
         replace HB := Aside0.mk (below_drew1 HB.out)
         have p120 : 0 ≤ (x3_1 : Int) := of_decide_eq_true Z1
         have q120 : x3_1 < (l0.length : Int) := of_decide_eq_true Z1
         obtain ⟨ad120, e120, hx120_0, hx120_1, hx120_2, hx120_3⟩ := at_T51 HR0.out x3_1 p120 q120
         have hw120_3 := hx120_3
         have hw120_2 := hx120_2
         have hw120_1 := hx120_1
         have hw120_0 := hx120_0
         cases e120
         replace hx120_0 := cx_ hx120_0
         replace hx120_1 := cx_ hx120_1
         replace hx120_2 := cx_ hx120_2
         replace hx120_3 := cx_ hx120_3
         replace p120 := eq_true p120
         replace q120 := eq_true q120
         have p121 : 0 ≤ (x3_1 : Int) := of_decide_eq_true Z1
         have q121 : x3_1 < (l0.length : Int) := of_decide_eq_true Z1
         obtain ⟨ad121, e121, hx121_0, hx121_1, hx121_2, hx121_3⟩ := at_T51 HR0.out x3_1 p121 q121
         have hw121_3 := hx121_3
         have hw121_2 := hx121_2
         have hw121_1 := hx121_1
         have hw121_0 := hx121_0
         obtain rfl : ad120 = ad121 := (by injection e121)
         replace hx121_0 := cx_ hx121_0
         replace hx121_1 := cx_ hx121_1
         replace hx121_2 := cx_ hx121_2
         replace hx121_3 := cx_ hx121_3
         replace p121 := eq_true p121
         replace q121 := eq_true q121
         have q16 : (x3_1 : Int) ≤ ((l0.length : Int) : Int) := of_decide_eq_true Z1
         obtain ⟨i016, hi016, _, hsz16, _⟩ := info_parts info51
         have hroom16 : l0.length ≤ c0 := HC0.out
         have hC16 : Kd.C k51 _ (some ad120) l0.length l0 := HR0.out
         have hcut16 := cut_to (P := Try.prog) 22 51 .i64 Try.underlying22 hi016 (some ad120) l0.length c0 x3_1 (of_decide_eq_true Z1) q16 hroom16
         have hr16 := Kd.C_take (m := (x3_1 : Int).toNat) hC16 (by omega)
         have hy16 : y122.length = (x3_1 : Int).toNat := (by rw [Ny122.out, List.length_take]; omega)
         rw [← Ny122.out] at hr16
         rw [← hy16] at hcut16
         have HR125 := Aside0.mk hr16
         have HC125 := Aside0.mk (show y122.length ≤ c0 from by omega)
         clear hr16 hC16 hroom16 hi016 hsz16
         have KY16 := Aside0.mk hy16
         clear hy16
         replace q16 := eq_true q16
         have p126 : 0 ≤ (x3_1 : Int) := of_decide_eq_true Z1
         have q126 : x3_1 < (l0.length : Int) := of_decide_eq_true Z1
         obtain ⟨ad126, e126, hx126_0, hx126_1, hx126_2, hx126_3⟩ := at_T51 HR0.out x3_1 p126 q126
         have hw126_3 := hx126_3
         have hw126_2 := hx126_2
         have hw126_1 := hx126_1
         have hw126_0 := hx126_0
         obtain rfl : ad120 = ad126 := (by injection e126)
         replace hx126_0 := cx_ hx126_0
         replace hx126_1 := cx_ hx126_1
         replace hx126_2 := cx_ hx126_2
         replace hx126_3 := cx_ hx126_3
         replace p126 := eq_true p126
         replace q126 := eq_true q126
         refine start_ (n := 26) (S := fun w' => w'.cell? (ad120.add ((x3_1).toNat * 4)) = some (.int .i64 ((rd_T51 l0 x3_1).f0.f0)) ∧ w'.cell? ⟨(ad120.add ((x3_1).toNat * 4)).block, (ad120.add ((x3_1).toNat * 4)).off + 1, none⟩ = some (.int .i64 ((rd_T51 l0 x3_1).f0.f1)) ∧ w'.cell? ⟨(ad120.add ((x3_1).toNat * 4)).block, (ad120.add ((x3_1).toNat * 4)).off + 2, none⟩ = some (.int .u64 ((rd_T51 l0 x3_1).f1)) ∧ w'.cell? ⟨(ad120.add ((x3_1).toNat * 4)).block, (ad120.add ((x3_1).toNat * 4)).off + 3, none⟩ = some (.int .i64 ((rd_T51 l0 x3_1).f2)) ∧ w'.cell? (ad120.add ((x3_1).toNat * 4)) = some (.int .i64 ((rd_T51 l0 x3_1).f0.f0)) ∧ w'.cell? ⟨(ad120.add ((x3_1).toNat * 4)).block, (ad120.add ((x3_1).toNat * 4)).off + 1, none⟩ = some (.int .i64 ((rd_T51 l0 x3_1).f0.f1)) ∧ w'.cell? ⟨(ad120.add ((x3_1).toNat * 4)).block, (ad120.add ((x3_1).toNat * 4)).off + 2, none⟩ = some (.int .u64 ((rd_T51 l0 x3_1).f1)) ∧ w'.cell? ⟨(ad120.add ((x3_1).toNat * 4)).block, (ad120.add ((x3_1).toNat * 4)).off + 3, none⟩ = some (.int .i64 ((rd_T51 l0 x3_1).f2)) ∧ w'.cell? (ad120.add ((x3_1).toNat * 4)) = some (.int .i64 ((rd_T51 l0 x3_1).f0.f0)) ∧ w'.cell? ⟨(ad120.add ((x3_1).toNat * 4)).block, (ad120.add ((x3_1).toNat * 4)).off + 1, none⟩ = some (.int .i64 ((rd_T51 l0 x3_1).f0.f1)) ∧ w'.cell? ⟨(ad120.add ((x3_1).toNat * 4)).block, (ad120.add ((x3_1).toNat * 4)).off + 2, none⟩ = some (.int .u64 ((rd_T51 l0 x3_1).f1)) ∧ w'.cell? ⟨(ad120.add ((x3_1).toNat * 4)).block, (ad120.add ((x3_1).toNat * 4)).off + 3, none⟩ = some (.int .i64 ((rd_T51 l0 x3_1).f2))) (ds := []) (bm 26 0) (by kernel_rfl) rfl rfl ⟨((HB.out.cell (World.block_lt_of_cell? w _ hw120_0)).trans hw120_0), ((HB.out.cell (World.block_lt_of_cell? w _ hw120_1)).trans hw120_1), ((HB.out.cell (World.block_lt_of_cell? w _ hw120_2)).trans hw120_2), ((HB.out.cell (World.block_lt_of_cell? w _ hw120_3)).trans hw120_3), ((HB.out.cell (World.block_lt_of_cell? w _ hw121_0)).trans hw121_0), ((HB.out.cell (World.block_lt_of_cell? w _ hw121_1)).trans hw121_1), ((HB.out.cell (World.block_lt_of_cell? w _ hw121_2)).trans hw121_2), ((HB.out.cell (World.block_lt_of_cell? w _ hw121_3)).trans hw121_3), ((HB.out.cell (World.block_lt_of_cell? w _ hw126_0)).trans hw126_0), ((HB.out.cell (World.block_lt_of_cell? w _ hw126_1)).trans hw126_1), ((HB.out.cell (World.block_lt_of_cell? w _ hw126_2)).trans hw126_2), ((HB.out.cell (World.block_lt_of_cell? w _ hw126_3)).trans hw126_3)⟩ (fun hHeld => ?_); refine with_tabW ensembleref05_Right.tab4 ensembleref05_Right.bits4 (fun HT_ HW_ => ?_)
         generalize wr.drew = w15 at HB HR125 hx120_0 hx120_1 hx120_2 hx120_3 hx121_0 hx121_1 hx121_2 hx121_3 hx126_0 hx126_1 hx126_2 hx126_3 hHeld ⊢
         refine pu 0 (some 10) (bm 26 1) ?_
         refine pu 1 (some 11) (bm 26 3) ?_
         refine pu 2 (some 12) (bm 26 7) ?_
         refine pu 3 (some 13) (bm 26 15) ?_
         refine tk12 4 (some 14) (bm 26 31) ?_
         refine pu 5 (some 15) (bm 26 63) ?_
         refine pu 6 (some 16) (bm 26 127) ?_
         refine pu 7 (some 17) (bm 26 255) ?_
         refine pu 8 (some 18) (bm 26 511) ?_
         refine pu 9 (some 19) (bm 26 1023) ?_
         refine pu 10 (some 20) (bm 26 2047) ?_
         refine tk12 11 (some 21) (bm 26 4095) ?_
         refine pu 12 (some 22) (bm 26 8191) ?_
         refine pu 13 (some 23) (bm 26 16383) ?_
         refine pu 14 (some 24) (bm 26 32767) ?_
         refine pu 15 (some 25) (bm 26 65535) ?_
         refine pu 16 (some 26) (bm 26 131071) ?_
         refine pu 17 (some 27) (bm 26 262143) ?_
         refine pu 18 (some 28) (bm 26 524287) ?_
         refine pu 19 (some 29) (bm 26 1048575) ?_
         refine pu 20 (some 30) (bm 26 2097151) ?_
         refine pu 21 (some 31) (bm 26 4194303) ?_
         refine tk12 22 (some 32) (bm 26 8388607) ?_
         refine one_ (i := 23) (N := some 33) (bm 26 16777215) rfl rfl (one_of HT_.out (by kernel_rfl)) (by decide) (fun K hK => ?_)
         refine goes_ Try.func79 (by kernel_rfl) rfl #[.slice (some ad120) y122.length c0, .agg #[.int .i64 ((rd_T51 l0 x3_1).f0.f0), .int .i64 ((rd_T51 l0 x3_1).f0.f1)]] (by rfl) rfl rfl Z0 ?_
         with_reducible refine (ensembleref05_find.calls k1 _ _ y122 ((rd_T51 l0 x3_1).f0.f0) ((rd_T51 l0 x3_1).f0.f1) t127 _ ?side1 ?side2 A10.out).mono ?_
         (case side1 => exact cs_ HR125)
         (case side2 => exact HC125.out)
         rintro e w17 ⟨rfl, hb⟩
         refine ⟨_, rfl, ?_⟩
         replace HB := hs_ hb
         (try clear hb)
         (try clear hb2)
         (try clear hk)
         (try clear hi)
         refine hK.out _ _ ⟨((HB.out.cell (World.block_lt_of_cell? w _ hw120_0)).trans hw120_0), ((HB.out.cell (World.block_lt_of_cell? w _ hw120_1)).trans hw120_1), ((HB.out.cell (World.block_lt_of_cell? w _ hw120_2)).trans hw120_2), ((HB.out.cell (World.block_lt_of_cell? w _ hw120_3)).trans hw120_3), ((HB.out.cell (World.block_lt_of_cell? w _ hw121_0)).trans hw121_0), ((HB.out.cell (World.block_lt_of_cell? w _ hw121_1)).trans hw121_1), ((HB.out.cell (World.block_lt_of_cell? w _ hw121_2)).trans hw121_2), ((HB.out.cell (World.block_lt_of_cell? w _ hw121_3)).trans hw121_3), ((HB.out.cell (World.block_lt_of_cell? w _ hw126_0)).trans hw126_0), ((HB.out.cell (World.block_lt_of_cell? w _ hw126_1)).trans hw126_1), ((HB.out.cell (World.block_lt_of_cell? w _ hw126_2)).trans hw126_2), ((HB.out.cell (World.block_lt_of_cell? w _ hw126_3)).trans hw126_3)⟩ (fun hHeld => ?_)
         clear hK K
         refine norm_ (a' := ?_) ?_ ?_
         rotate_left
         ·show Act.put _ (some 33) _ = _
          simp only [Act.put, List.setIfInBounds_toArray, List.set_cons_zero, List.set_cons_succ, i64_w, i32_w]
          rfl
         refine pu 24 (some 34) (bm 26 33554431) ?_
         refine pu 25 (some 35) (bm 26 67108863) ?_
         refine done_ (done_of HT_.out (by kernel_rfl)) ?_
         try go_wp2
         go_roundg k1
         case measure => have := HK1.out; omega
         case rel => exact ⟨(wrap64 (x3_1 + 1)), Z5, H', ⟨by have := HK1.out; omega⟩, ⟨hb_⟩⟩
       ·rw [if_neg c9] at H
        exact absurd H (by simp)
    ·rw [if_neg c3] at H
     exact absurd H (by simp)
   ·rw [if_neg c2] at H
    have c2b0 : decide (x3_1 < (l0.length : Int)) = false := decide_eq_false c2
    clear c2
    obtain rfl := Option.some.inj H
    go_wp2
    go_ret
    exact ⟨by first | rfl | (simp [errW_none, errW_some] <;> rfl) | (simp [*, errW_none, errW_some] <;> rfl), hb_⟩
end Go.Proofs.Ytckhjehibjdjdaa.P
namespace Go.Proofs.Ytckhjehibjdjdaa.P
open Go.RowKit Go.Proofs.YtckhjehibjdjdaaW.PrintWords Go.Proofs.YtckhjehibjdjdaaW.PrintLast Go.Proofs.YtckhjehibjdjdaaW.PrintMore
attribute [local go_sem] max2_int min2_int max_two min_two max_three min_three max_four min_four
set_option linter.unusedVariables false
set_option linter.unusedSimpArgs false
def ensemblelaw05_few.f (k : Nat) (l0 : List (S51)) : Option (Bool) := if (l0.length : Int) ≤ 70 then ((ensembleref05_Right.f k l0).bind fun t491 => (some t491)) else (some false)
set_option maxHeartbeats 8000000 in
set_option maxRecDepth 100000 in
theorem ensemblelaw05_few.calls (k : Nat) (A0 : Option Addr) (c0 : Nat) (l0 : List (S51)) (r : Bool) (w : World) (hr0 : Kd.C k51 w A0 l0.length l0) (hc0 : l0.length ≤ c0) (h : ensemblelaw05_few.f k l0 = some r) :
  Calls Try.prog 44 #[.slice A0 l0.length c0] w fun e w' => e = .returned (.bool r) ∧ Below w.heap.size w w' := by
 have HR0 := Aside0.mk hr0
 have HC0 := Aside0.mk hc0
 clear hr0 hc0
 have HB := Aside0.mk (Below.refl w.heap.size w)
 have H : (if (l0.length : Int) ≤ 70 then ((ensembleref05_Right.f k l0).bind fun t491 => (some t491)) else (some false)) = some r := h
 clear h
 by_cases c2 : (l0.length : Int) ≤ 70
 ·rw [if_pos c2] at H
  have c2b0 : decide ((l0.length : Int) ≤ 70) = true := decide_eq_true c2
  have c2b1 : decide (l0.length ≤ 70) = true := decide_eq_true (by omega)
  clear c2
  replace H := Option.bind_eq_some_iff.mp H
  obtain ⟨t491, A30, H⟩ := H
  replace H : (some t491) = some r := H
  have A3 := Aside0.mk A30
  clear A30
  obtain rfl := Option.some.inj H
  go_enter Try.func44, Try.ntmps44
  go_wp2_with (first | (go_at_call 67; (with_reducible refine (ensembleref05_Right.calls k _ _ l0 t491 _ ?side1 ?side2 A3.out).mono ?_); (case side1 => repeat (first | exact HR0.out | (with_reducible refine Kd.C_alloc ?_ _) | (with_reducible refine Kd.C_drewN ?_ _) | (with_reducible refine Kd.C_drew ?_))); (case side2 => exact HC0.out); rintro e w4 ⟨rfl, hb⟩; replace HB := hs_ hb; (try clear hb); (try clear hb2); (try clear hk); (try clear hi)))
  go_ret
  exact ⟨by first | rfl | (simp [errW_none, errW_some] <;> rfl) | (simp [*, errW_none, errW_some] <;> rfl), hb_⟩
 ·rw [if_neg c2] at H
  have c2b0 : decide ((l0.length : Int) ≤ 70) = false := decide_eq_false c2
  have c2b1 : decide (l0.length ≤ 70) = false := decide_eq_false (by omega)
  clear c2
  obtain rfl := Option.some.inj H
  go_enter Try.func44, Try.ntmps44
  go_wp2
  go_ret
  exact ⟨by first | rfl | (simp [errW_none, errW_some] <;> rfl) | (simp [*, errW_none, errW_some] <;> rfl), hb_⟩
end Go.Proofs.Ytckhjehibjdjdaa.P
namespace Go.Proofs.Ytckhjehibjdjdaa.P
open Go.RowKit Go.Proofs.YtckhjehibjdjdaaW.PrintWords Go.Proofs.YtckhjehibjdjdaaW.PrintLast Go.Proofs.YtckhjehibjdjdaaW.PrintMore
attribute [local go_sem] max2_int min2_int max_two min_two max_three min_three max_four min_four
set_option linter.unusedVariables false
set_option linter.unusedSimpArgs false
def ensemblelaw05_PackLeft.f (k : Nat) (l0 : List (S51)) (a1_0 : Int) (a1_1 : Int) (a1_2 : Int) (a1_3 : Int) (a2 : Int) : Option (Bool) := (ensemblelaw05_awake.f).bind fun t577 => (if t577 = true then ((ensemblelaw05_few.f k l0).bind fun t578 => (if t578 = true then ((pack_Room.f k l0 a1_0 a1_1 a1_2 a1_3).bind fun t579 => ((pack_Place.f l0 a1_0 a1_1 a1_2 a1_3 a2).bind fun bt580 => (if bt580.2 = 0 then ((pack_Less.f l0 bt580.1).bind fun bt584 => ((pack_Room.f k bt584.1 a1_0 a1_1 a1_2 a1_3).bind fun t588 => (if bt584.2 = 0 then (if t588 ≥ (wrap64 (t579 - a2)) then (some (decide (t588 ≤ t579))) else (some false)) else (some false)))) else (some true)))) else (some true))) else (some false))
set_option maxHeartbeats 8000000 in
set_option maxRecDepth 100000 in
theorem ensemblelaw05_PackLeft.calls (k : Nat) (A0 : Option Addr) (c0 : Nat) (l0 : List (S51)) (a1_0 : Int) (a1_1 : Int) (a1_2 : Int) (a1_3 : Int) (a2 : Int) (r : Bool) (w : World) (hr0 : Kd.C k51 w A0 l0.length l0) (hc0 : l0.length ≤ c0) (h : ensemblelaw05_PackLeft.f k l0 a1_0 a1_1 a1_2 a1_3 a2 = some r) (hr_ : r = true := by rfl) :
  Calls Try.prog 17 #[.slice A0 l0.length c0, .agg #[.int .i64 a1_0, .int .i64 a1_1, .int .i64 a1_2, .int .i64 a1_3], .int .i64 a2] w fun e w' => e = .returned (.bool r) ∧ Below w.heap.size w w' := by
 have hu27 := Try.underlying27
 have HR0 := Aside0.mk hr0
 have HC0 := Aside0.mk hc0
 clear hr0 hc0
 have HB := Aside0.mk (Below.refl w.heap.size w)
 have H : ((ensemblelaw05_awake.f).bind fun t577 => (if t577 = true then ((ensemblelaw05_few.f k l0).bind fun t578 => (if t578 = true then ((pack_Room.f k l0 a1_0 a1_1 a1_2 a1_3).bind fun t579 => ((pack_Place.f l0 a1_0 a1_1 a1_2 a1_3 a2).bind fun bt580 => (if bt580.2 = 0 then ((pack_Less.f l0 bt580.1).bind fun bt584 => ((pack_Room.f k bt584.1 a1_0 a1_1 a1_2 a1_3).bind fun t588 => (if bt584.2 = 0 then (if t588 ≥ (wrap64 (t579 - a2)) then (some (decide (t588 ≤ t579))) else (some false)) else (some false)))) else (some true)))) else (some true))) else (some false))) = some r := h
 clear h
 replace H := Option.bind_eq_some_iff.mp H
 obtain ⟨t577, A40, H⟩ := H
 replace H : (if t577 = true then ((ensemblelaw05_few.f k l0).bind fun t578 => (if t578 = true then ((pack_Room.f k l0 a1_0 a1_1 a1_2 a1_3).bind fun t579 => ((pack_Place.f l0 a1_0 a1_1 a1_2 a1_3 a2).bind fun bt580 => (if bt580.2 = 0 then ((pack_Less.f l0 bt580.1).bind fun bt584 => ((pack_Room.f k bt584.1 a1_0 a1_1 a1_2 a1_3).bind fun t588 => (if bt584.2 = 0 then (if t588 ≥ (wrap64 (t579 - a2)) then (some (decide (t588 ≤ t579))) else (some false)) else (some false)))) else (some true)))) else (some true))) else (some false)) = some r := H
 have A4 := Aside0.mk A40
 clear A40
 by_cases c5 : t577 = true
 ·subst c5
  have H1 : ((ensemblelaw05_few.f k l0).bind fun t578 => (if t578 = true then ((pack_Room.f k l0 a1_0 a1_1 a1_2 a1_3).bind fun t579 => ((pack_Place.f l0 a1_0 a1_1 a1_2 a1_3 a2).bind fun bt580 => (if bt580.2 = 0 then ((pack_Less.f l0 bt580.1).bind fun bt584 => ((pack_Room.f k bt584.1 a1_0 a1_1 a1_2 a1_3).bind fun t588 => (if bt584.2 = 0 then (if t588 ≥ (wrap64 (t579 - a2)) then (some (decide (t588 ≤ t579))) else (some false)) else (some false)))) else (some true)))) else (some true))) = some r := by rw [if_pos rfl] at H; exact H
  clear H
  have H := H1
  clear H1
  replace H := Option.bind_eq_some_iff.mp H
  obtain ⟨t578, A60, H⟩ := H
  replace H : (if t578 = true then ((pack_Room.f k l0 a1_0 a1_1 a1_2 a1_3).bind fun t579 => ((pack_Place.f l0 a1_0 a1_1 a1_2 a1_3 a2).bind fun bt580 => (if bt580.2 = 0 then ((pack_Less.f l0 bt580.1).bind fun bt584 => ((pack_Room.f k bt584.1 a1_0 a1_1 a1_2 a1_3).bind fun t588 => (if bt584.2 = 0 then (if t588 ≥ (wrap64 (t579 - a2)) then (some (decide (t588 ≤ t579))) else (some false)) else (some false)))) else (some true)))) else (some true)) = some r := H
  have A6 := Aside0.mk A60
  clear A60
  by_cases c7 : t578 = true
  ·subst c7
   have H1 : ((pack_Room.f k l0 a1_0 a1_1 a1_2 a1_3).bind fun t579 => ((pack_Place.f l0 a1_0 a1_1 a1_2 a1_3 a2).bind fun bt580 => (if bt580.2 = 0 then ((pack_Less.f l0 bt580.1).bind fun bt584 => ((pack_Room.f k bt584.1 a1_0 a1_1 a1_2 a1_3).bind fun t588 => (if bt584.2 = 0 then (if t588 ≥ (wrap64 (t579 - a2)) then (some (decide (t588 ≤ t579))) else (some false)) else (some false)))) else (some true)))) = some r := by rw [if_pos rfl] at H; exact H
   clear H
   have H := H1
   clear H1
   replace H := Option.bind_eq_some_iff.mp H
   obtain ⟨t579, A80, H⟩ := H
   replace H : ((pack_Place.f l0 a1_0 a1_1 a1_2 a1_3 a2).bind fun bt580 => (if bt580.2 = 0 then ((pack_Less.f l0 bt580.1).bind fun bt584 => ((pack_Room.f k bt584.1 a1_0 a1_1 a1_2 a1_3).bind fun t588 => (if bt584.2 = 0 then (if t588 ≥ (wrap64 (t579 - a2)) then (some (decide (t588 ≤ t579))) else (some false)) else (some false)))) else (some true))) = some r := H
   have A8 := Aside0.mk A80
   clear A80
   replace H := Option.bind_eq_some_iff.mp H
   obtain ⟨⟨t580, t583⟩, A90, H⟩ := H
   replace H : (if t583 = 0 then ((pack_Less.f l0 t580).bind fun bt584 => ((pack_Room.f k bt584.1 a1_0 a1_1 a1_2 a1_3).bind fun t588 => (if bt584.2 = 0 then (if t588 ≥ (wrap64 (t579 - a2)) then (some (decide (t588 ≤ t579))) else (some false)) else (some false)))) else (some true)) = some r := H
   have A9 := Aside0.mk A90
   clear A90
   by_cases c10 : t583 = 0
   ·rw [if_pos c10] at H
    have c10b0 : (t583 == 0) = true := beq_iff_eq.mpr c10
    have c10b1 : (t583 != 0) = false := bne_eq_false_iff_eq.mpr c10
    clear c10
    replace H := Option.bind_eq_some_iff.mp H
    obtain ⟨⟨t584, t585⟩, A110, H⟩ := H
    replace H : ((pack_Room.f k t584 a1_0 a1_1 a1_2 a1_3).bind fun t588 => (if t585 = 0 then (if t588 ≥ (wrap64 (t579 - a2)) then (some (decide (t588 ≤ t579))) else (some false)) else (some false))) = some r := H
    have A11 := Aside0.mk A110
    clear A110
    replace H := Option.bind_eq_some_iff.mp H
    obtain ⟨t588, A120, H⟩ := H
    replace H : (if t585 = 0 then (if t588 ≥ (wrap64 (t579 - a2)) then (some (decide (t588 ≤ t579))) else (some false)) else (some false)) = some r := H
    have A12 := Aside0.mk A120
    clear A120
    by_cases c13 : t585 = 0
    ·rw [if_pos c13] at H
     have c13b0 : (t585 == 0) = true := beq_iff_eq.mpr c13
     have c13b1 : (t585 != 0) = false := bne_eq_false_iff_eq.mpr c13
     clear c13
     by_cases c14 : t588 ≥ (wrap64 (t579 - a2))
     ·rw [if_pos c14] at H
      have c14b0 : decide ((wrap64 (t579 - a2)) ≤ t588) = true := decide_eq_true c14
      clear c14
      clear hr_
      obtain rfl := Option.some.inj H
      go_enter Try.func17, Try.ntmps17
      go_wp2_with (first | ((with_reducible refine gate_dst (N := 4) rfl ?_); refine bx 4 #[.int .i64 a1_0, .int .i64 a1_1, .int .i64 a1_2, .int .i64 a1_3] 27 ?_; intro gb576 hg w15 hbox hb; have BK576 := Aside0.mk (hbox); have GW576 := ge_ hg; have GE576 := ge_ hg; replace HB := hs_ hb; clear hb hbox hg) | ((with_reducible refine gate_callee (f := 43) rfl ?_); refine goesL_ (some 13) rfl rfl Try.func43 (by kernel_rfl) rfl #[] rfl Z0 ?_; (with_reducible refine (ensemblelaw05_awake.calls  true _ A4.out).mono ?_); rintro e w16 ⟨rfl, hb⟩; refine ⟨_, rfl, ?_⟩; replace BK576 := bk_ BK576 hb; replace HB := hs_ hb; (try clear hb); (try clear hb2); (try clear hk); (try clear hi)) | ((with_reducible refine gate_callee (f := 44) rfl ?_); refine goesL_ (some 16) rfl rfl Try.func44 (by kernel_rfl) rfl #[.slice A0 l0.length c0] rfl Z0 ?_; (with_reducible refine (ensemblelaw05_few.calls k _ _ l0 true _ ?side1 ?side2 A6.out).mono ?_); (case side1 => exact cs_ HR0); (case side2 => exact HC0.out); rintro e w17 ⟨rfl, hb⟩; refine ⟨_, rfl, ?_⟩; replace BK576 := bk_ BK576 hb; replace HB := hs_ hb; (try clear hb); (try clear hb2); (try clear hk); (try clear hi); obtain ⟨hcz18_0, hcz18_1, hcz18_2, hcz18_3, hfz18_0, hfz18_1, hfz18_2, hfz18_3⟩ := bz4_ BK576) | ((with_reducible refine gate_callee (f := 50) rfl ?_); refine goesL_ (some 20) rfl rfl Try.func50 (by kernel_rfl) rfl #[.slice A0 l0.length c0, .agg #[.int .i64 a1_0, .int .i64 a1_1, .int .i64 a1_2, .int .i64 a1_3]] rfl Z0 ?_; (with_reducible refine (pack_Room.calls k _ _ l0 a1_0 a1_1 a1_2 a1_3 t579 _ ?side1 ?side2 A8.out).mono ?_); (case side1 => exact cs_ HR0); (case side2 => exact HC0.out); rintro e w19 ⟨rfl, hb⟩; refine ⟨_, rfl, ?_⟩; replace BK576 := bk_ BK576 hb; replace HB := hs_ hb; (try clear hb); (try clear hb2); (try clear hk); (try clear hi); obtain ⟨hcz20_0, hcz20_1, hcz20_2, hcz20_3, hfz20_0, hfz20_1, hfz20_2, hfz20_3⟩ := bz4_ BK576) | ((with_reducible refine gate_callee (f := 46) rfl ?_); refine goesL_ (some 25) rfl rfl Try.func46 (by kernel_rfl) rfl #[.slice A0 l0.length c0, .agg #[.int .i64 a1_0, .int .i64 a1_1, .int .i64 a1_2, .int .i64 a1_3], .int .i64 a2] rfl Z0 ?_; (with_reducible refine (pack_Place.calls _ _ l0 a1_0 a1_1 a1_2 a1_3 a2 t580 t583 _ ?side1 ?side2 A9.out).mono ?_); (case side1 => exact cs_ HR0); (case side2 => exact HC0.out); rintro e w21 ⟨v581, rfl, ho0, hb⟩; refine ⟨_, rfl, ?_⟩; have HO582 := Aside0.mk (Kd.R_lower ho0 (below_size hb_)); replace BK576 := bk_ BK576 hb; replace HB := hs_ hb; (try clear hb); (try clear hb2); (try clear hk); (try clear hi); (try clear ho0); obtain ⟨Ao22, co22, eo22⟩ := Kd.R_slice HO582.out; subst eo22) | ((with_reducible refine gate_callee (f := 51) rfl ?_); refine goesL_ (some 33) rfl rfl Try.func51 (by kernel_rfl) rfl #[.slice A0 l0.length c0, .slice Ao22 t580.length co22] rfl Z0 ?_; (with_reducible refine (pack_Less.calls _ _ l0 _ _ t580 t584 t585 _ ?side1 ?side2 ?side3 ?side4 A11.out).mono ?_); (case side1 => exact cs_ HR0); (case side2 => exact HC0.out); (case side3 => repeat (first | exact (Kd.R_reads' HO582.out).2.2 | (with_reducible refine Kd.C_alloc ?_ _) | (with_reducible refine Kd.C_drewN ?_ _) | (with_reducible refine Kd.C_drew ?_))); (case side4 => exact (Kd.R_reads' HO582.out).2.1); rintro e w23 ⟨v586, rfl, ho0, hb⟩; refine ⟨_, rfl, ?_⟩; have HO587 := Aside0.mk (Kd.R_lower ho0 (below_size hb_)); replace HO582 := Aside0.mk (Kd.R_below (by (with_reducible repeat (first | apply Kd.R_alloc | apply Kd.R_drewN | apply Kd.R_drew)); exact HO582.out) hb); replace BK576 := bk_ BK576 hb; replace HB := hs_ hb; (try clear hb); (try clear hb2); (try clear hk); (try clear hi); (try clear ho0); obtain ⟨hcz24_0, hcz24_1, hcz24_2, hcz24_3, hfz24_0, hfz24_1, hfz24_2, hfz24_3⟩ := bz4_ BK576; obtain ⟨Ao25, co25, eo25⟩ := Kd.R_slice HO587.out; subst eo25) | ((with_reducible refine gate_callee (f := 50) rfl ?_); refine goesL_ (some 38) rfl rfl Try.func50 (by kernel_rfl) rfl #[.slice Ao25 t584.length co25, .agg #[.int .i64 a1_0, .int .i64 a1_1, .int .i64 a1_2, .int .i64 a1_3]] rfl Z0 ?_; (with_reducible refine (pack_Room.calls k _ _ t584 a1_0 a1_1 a1_2 a1_3 t588 _ ?side1 ?side2 A12.out).mono ?_); (case side1 => repeat (first | exact (Kd.R_reads' HO587.out).2.2 | (with_reducible refine Kd.C_alloc ?_ _) | (with_reducible refine Kd.C_drewN ?_ _) | (with_reducible refine Kd.C_drew ?_))); (case side2 => exact (Kd.R_reads' HO587.out).2.1); rintro e w26 ⟨rfl, hb⟩; refine ⟨_, rfl, ?_⟩; replace HO582 := Aside0.mk (Kd.R_below (by (with_reducible repeat (first | apply Kd.R_alloc | apply Kd.R_drewN | apply Kd.R_drew)); exact HO582.out) hb); replace HO587 := Aside0.mk (Kd.R_below (by (with_reducible repeat (first | apply Kd.R_alloc | apply Kd.R_drewN | apply Kd.R_drew)); exact HO587.out) hb); replace BK576 := bk_ BK576 hb; replace HB := hs_ hb; (try clear hb); (try clear hb2); (try clear hk); (try clear hi)))
      go_ret
      exact ⟨by first | rfl | (simp [errW_none, errW_some] <;> rfl) | (simp [*, errW_none, errW_some] <;> rfl), hb_⟩
     ·rw [if_neg c14] at H
      have c14b0 : decide ((wrap64 (t579 - a2)) ≤ t588) = false := decide_eq_false c14
      clear c14
      rw [hr_] at H
      cases H
    ·rw [if_neg c13] at H
     have c13b0 : (t585 == 0) = false := beq_eq_false_iff_ne.mpr c13
     have c13b1 : (t585 != 0) = true := bne_iff_ne.mpr c13
     rw [hr_] at H
     cases H
   ·rw [if_neg c10] at H
    have c10b0 : (t583 == 0) = false := beq_eq_false_iff_ne.mpr c10
    have c10b1 : (t583 != 0) = true := bne_iff_ne.mpr c10
    clear hr_
    obtain rfl := Option.some.inj H
    go_enter Try.func17, Try.ntmps17
    go_wp2_with (first | ((with_reducible refine gate_dst (N := 4) rfl ?_); refine bx 4 #[.int .i64 a1_0, .int .i64 a1_1, .int .i64 a1_2, .int .i64 a1_3] 27 ?_; intro gb576 hg w51 hbox hb; have BK576 := Aside0.mk (hbox); have GW576 := ge_ hg; have GE576 := ge_ hg; replace HB := hs_ hb; clear hb hbox hg) | ((with_reducible refine gate_callee (f := 43) rfl ?_); refine goesL_ (some 13) rfl rfl Try.func43 (by kernel_rfl) rfl #[] rfl Z0 ?_; (with_reducible refine (ensemblelaw05_awake.calls  true _ A4.out).mono ?_); rintro e w52 ⟨rfl, hb⟩; refine ⟨_, rfl, ?_⟩; replace BK576 := bk_ BK576 hb; replace HB := hs_ hb; (try clear hb); (try clear hb2); (try clear hk); (try clear hi)) | ((with_reducible refine gate_callee (f := 44) rfl ?_); refine goesL_ (some 16) rfl rfl Try.func44 (by kernel_rfl) rfl #[.slice A0 l0.length c0] rfl Z0 ?_; (with_reducible refine (ensemblelaw05_few.calls k _ _ l0 true _ ?side1 ?side2 A6.out).mono ?_); (case side1 => exact cs_ HR0); (case side2 => exact HC0.out); rintro e w53 ⟨rfl, hb⟩; refine ⟨_, rfl, ?_⟩; replace BK576 := bk_ BK576 hb; replace HB := hs_ hb; (try clear hb); (try clear hb2); (try clear hk); (try clear hi); obtain ⟨hcz54_0, hcz54_1, hcz54_2, hcz54_3, hfz54_0, hfz54_1, hfz54_2, hfz54_3⟩ := bz4_ BK576) | ((with_reducible refine gate_callee (f := 50) rfl ?_); refine goesL_ (some 20) rfl rfl Try.func50 (by kernel_rfl) rfl #[.slice A0 l0.length c0, .agg #[.int .i64 a1_0, .int .i64 a1_1, .int .i64 a1_2, .int .i64 a1_3]] rfl Z0 ?_; (with_reducible refine (pack_Room.calls k _ _ l0 a1_0 a1_1 a1_2 a1_3 t579 _ ?side1 ?side2 A8.out).mono ?_); (case side1 => exact cs_ HR0); (case side2 => exact HC0.out); rintro e w55 ⟨rfl, hb⟩; refine ⟨_, rfl, ?_⟩; replace BK576 := bk_ BK576 hb; replace HB := hs_ hb; (try clear hb); (try clear hb2); (try clear hk); (try clear hi); obtain ⟨hcz56_0, hcz56_1, hcz56_2, hcz56_3, hfz56_0, hfz56_1, hfz56_2, hfz56_3⟩ := bz4_ BK576) | ((with_reducible refine gate_callee (f := 46) rfl ?_); refine goesL_ (some 25) rfl rfl Try.func46 (by kernel_rfl) rfl #[.slice A0 l0.length c0, .agg #[.int .i64 a1_0, .int .i64 a1_1, .int .i64 a1_2, .int .i64 a1_3], .int .i64 a2] rfl Z0 ?_; (with_reducible refine (pack_Place.calls _ _ l0 a1_0 a1_1 a1_2 a1_3 a2 t580 t583 _ ?side1 ?side2 A9.out).mono ?_); (case side1 => exact cs_ HR0); (case side2 => exact HC0.out); rintro e w57 ⟨v581, rfl, ho0, hb⟩; refine ⟨_, rfl, ?_⟩; have HO582 := Aside0.mk (Kd.R_lower ho0 (below_size hb_)); replace BK576 := bk_ BK576 hb; replace HB := hs_ hb; (try clear hb); (try clear hb2); (try clear hk); (try clear hi); (try clear ho0)))
    go_ret
    exact ⟨by first | rfl | (simp [errW_none, errW_some] <;> rfl) | (simp [*, errW_none, errW_some] <;> rfl), hb_⟩
  ·replace c7 := Bool.eq_false_iff.mpr c7
   subst c7
   have H1 : (some true) = some r := by rw [if_neg (show ¬ (false = true) by decide)] at H; exact H
   clear H
   have H := H1
   clear H1
   clear hr_
   obtain rfl := Option.some.inj H
   go_enter Try.func17, Try.ntmps17
   go_wp2_with (first | ((with_reducible refine gate_dst (N := 4) rfl ?_); refine bx 4 #[.int .i64 a1_0, .int .i64 a1_1, .int .i64 a1_2, .int .i64 a1_3] 27 ?_; intro gb576 hg w58 hbox hb; have BK576 := Aside0.mk (hbox); have GW576 := ge_ hg; have GE576 := ge_ hg; replace HB := hs_ hb; clear hb hbox hg) | ((with_reducible refine gate_callee (f := 43) rfl ?_); refine goesL_ (some 13) rfl rfl Try.func43 (by kernel_rfl) rfl #[] rfl Z0 ?_; (with_reducible refine (ensemblelaw05_awake.calls  true _ A4.out).mono ?_); rintro e w59 ⟨rfl, hb⟩; refine ⟨_, rfl, ?_⟩; replace BK576 := bk_ BK576 hb; replace HB := hs_ hb; (try clear hb); (try clear hb2); (try clear hk); (try clear hi)) | ((with_reducible refine gate_callee (f := 44) rfl ?_); refine goesL_ (some 16) rfl rfl Try.func44 (by kernel_rfl) rfl #[.slice A0 l0.length c0] rfl Z0 ?_; (with_reducible refine (ensemblelaw05_few.calls k _ _ l0 false _ ?side1 ?side2 A6.out).mono ?_); (case side1 => exact cs_ HR0); (case side2 => exact HC0.out); rintro e w60 ⟨rfl, hb⟩; refine ⟨_, rfl, ?_⟩; replace BK576 := bk_ BK576 hb; replace HB := hs_ hb; (try clear hb); (try clear hb2); (try clear hk); (try clear hi)))
   go_ret
   exact ⟨by first | rfl | (simp [errW_none, errW_some] <;> rfl) | (simp [*, errW_none, errW_some] <;> rfl), hb_⟩
 ·replace c5 := Bool.eq_false_iff.mpr c5
  subst c5
  have H1 : (some false) = some r := by rw [if_neg (show ¬ (false = true) by decide)] at H; exact H
  clear H
  have H := H1
  clear H1
  rw [hr_] at H
  cases H
end Go.Proofs.Ytckhjehibjdjdaa.P
namespace Go.Proofs.Ytckhjehibjdjdaa.Ob
open Go.RowKit Go.Deep Go.Proofs.YtckhjehibjdjdaaW.PrintWords Go.WideShapes
def Opens {α : Type} (P : Program) (t : TypeId) (d : Kd α) (wf : α → Prop) : Prop :=
 ∀ (H : Type) (enc : TypeId × Value → H) (W : World) (base : Nat) (spare : Nat → Bool) (held : Bool) (fuel : Nat) (cs : List Value) (x : DataW H × List MemPlace),
  DataW.trod enc P W base spare held fuel t cs = some x → ∃ a, d.K W a cs ∧ wf a
variable {P : Program} {t e : TypeId}
theorem Opens.int {k : IntKind} (ht : P.underlying t = some (.int k)) : Opens P t (Kd.int k) (fun n => (Lit.int k n).wf = true) := by
 intro H enc W base spare held fuel cs x h
 obtain ⟨n, rfl, _, hw⟩ := DataW.trod_int ht h
 exact ⟨n, rfl, hw⟩
theorem Opens.bool (ht : P.underlying t = some .bool) : Opens P t Kd.bool (fun _ => True) := by
 intro H enc W base spare held fuel cs x h
 obtain ⟨b, rfl, _⟩ := DataW.trod_bool ht h
 exact ⟨b, rfl, trivial⟩
theorem Opens.slice {α : Type} {d : Kd α} {wf : α → Prop} (ht : P.underlying t = some (.slice e)) (hsz : P.cellsOf e = d.sz) (he : Opens P e d wf) :
  Opens P t (Kd.slice e d) (fun xs => xs.length ≤ maxLen ∧ ∀ x ∈ xs, wf x) := by
 intro H enc W base spare held fuel cs x h
 rcases open_slice ht h with ⟨rfl, _⟩ | ⟨a, len, cap, m, n, D, Pl, rfl, _, hl, hm, hmm, hxx, hx⟩
 ·exact ⟨[], ⟨none, 0, rfl, Nat.le_refl _, rfl, by simp, fun h => absurd h (by simp)⟩, by simp [maxLen], fun x hx => by simp at hx⟩
 ·have hlm : len ≤ m := by rw [hmm]; split <;> omega
  have hx' : ∀ i, i < len → ∃ (y : α) (c : List Value), d.K W y c ∧ wf y ∧ c.length = d.sz ∧ ∀ j u, c[j]? = some u → W.cell? (a.add (i * d.sz + j)) = some u := by
   intro i hi
   obtain ⟨c, h1, h2⟩ := hx i (by omega)
   obtain ⟨y, hK, hw⟩ := he H enc W base spare held n c _ h2
   obtain ⟨_, h3, h4⟩ := World.cells?_some h1
   refine ⟨y, c, hK, hw, d.K_len hK, fun j u hu => ?_⟩
   have hj : j < c.length := by
    rcases Nat.lt_or_ge j c.length with h | h
    ·exact h
    ·rw [List.getElem?_eq_none h] at hu; cases hu
   have h5 := h4 j (by omega)
   rw [Deep.add_add, hsz] at h5
   rw [h5]; exact hu
  have hall : ∃ xs : List α, xs.length = len ∧ ∀ (i : Nat) (p : α), xs[i]? = some p → ∃ c, c.length = d.sz ∧ d.K W p c ∧ wf p ∧ ∀ j u, c[j]? = some u → W.cell? (a.add (i * d.sz + j)) = some u := by
   clear hx hm hl hmm hlm h hxx
   induction len with
   | zero => exact ⟨[], rfl, fun i p hp => by simp at hp⟩
   | succ len ih =>
    obtain ⟨xs, hxl, hxs⟩ := ih (fun i hi => hx' i (by omega))
    obtain ⟨y, c, hK, hw, hcl, hc⟩ := hx' len (by omega)
    refine ⟨xs ++ [y], by simp [hxl], fun i p hp => ?_⟩
    rcases Nat.lt_or_ge i xs.length with h | h
    ·rw [List.getElem?_append_left h] at hp
     exact hxs i p hp
    ·have hi : i = xs.length := by
      have := (List.getElem?_eq_some_iff.1 hp).1
      rw [List.length_append, List.length_singleton] at this
      omega
     subst hi
     have hp' : y = p := by simpa using hp
     subst hp'
     exact ⟨c, hcl, hK, hw, by rw [hxl]; exact hc⟩
  obtain ⟨xs, hxl, hxs⟩ := hall
  refine ⟨xs, ⟨some a, cap, by rw [hxl], by omega, rfl, by rw [hxl]; simp only [maxLen] at hm; omega, fun _ => ⟨a, rfl, fun j p hp => ?_⟩⟩, by rw [hxl]; omega, fun x hx => ?_⟩
  ·obtain ⟨c, h1, h2, _, h3⟩ := hxs j p hp
   exact ⟨c, h1, h2, h3⟩
  ·obtain ⟨i, hi, rfl⟩ := List.getElem_of_mem hx
   obtain ⟨_, _, _, h, _⟩ := hxs i _ (List.getElem?_eq_getElem hi)
   exact h
def OpensAt {α : Type} (P : Program) (fs : List (Nat × TypeId)) (off : Nat) (d : Kd α) (wf : α → Prop) : Prop :=
 ∀ (H : Type) (enc : TypeId × Value → H) (W : World) (base : Nat) (spare : Nat → Bool) (held : Bool) (fuel : Nat) (cs : List Value), cs.length = off + d.sz →
  (∀ f, f ∈ fs → ∃ x, DataW.trod enc P W base spare held fuel f.2 ((cs.drop f.1).take (P.cellsOf f.2)) = some x) → ∃ a, d.K W a (cs.drop off) ∧ wf a
theorem OpensAt.last {α : Type} {d : Kd α} {wf : α → Prop} {off : Nat} (h : Opens P t d wf) (hsz : P.cellsOf t = d.sz) : OpensAt P [(off, t)] off d wf := by
 intro H enc W base spare held fuel cs hl hf
 obtain ⟨x, hx⟩ := hf (off, t) (by simp)
 rw [hsz, List.take_of_length_le (by rw [List.length_drop]; omega)] at hx
 exact h H enc W base spare held fuel _ x hx
theorem OpensAt.cons {α β : Type} {d : Kd α} {wf : α → Prop} {d' : Kd β} {wf' : β → Prop} {off off' : Nat} {fs : List (Nat × TypeId)} (h : Opens P t d wf) (hsz : P.cellsOf t = d.sz) (ho : off' = off + d.sz)
  (h' : OpensAt P fs off' d' wf') : OpensAt P ((off, t) :: fs) off (Kd.pair d d') (fun x => wf x.1 ∧ wf' x.2) := by
 intro H enc W base spare held fuel cs hl hf
 obtain ⟨x, hx⟩ := hf (off, t) (by simp)
 have hl' : cs.length = off' + d'.sz := by rw [hl, ho]; show off + (d.sz + d'.sz) = _; omega
 obtain ⟨a, hK, hw⟩ := h H enc W base spare held fuel _ x hx
 obtain ⟨b, hK', hw'⟩ := h' H enc W base spare held fuel cs hl' (fun f hf' => hf f (by simp [hf']))
 refine ⟨(a, b), ⟨_, _, ?_, hK, hK'⟩, hw, hw'⟩
 rw [hsz, ho, ← List.drop_drop, List.take_append_drop]
theorem Opens.struct {α β : Type} {d : Kd β} {wf : β → Prop} {fs : Array Field} {l : List (Nat × TypeId)} (ht : P.underlying t = some (.struct fs)) (hl : fs.toList.map (fun f => (f.offset, f.type)) = l) (hsz : P.cellsOf t = d.sz)
  (h : OpensAt P l 0 d wf) (f : α → β) (g : β → α) (hfg : ∀ b, f (g b) = b) : Opens P t (Kd.iso d f) (fun x => wf (f x)) := by
 intro H enc W base spare held fuel cs x hx
 obtain ⟨xs, n, _, _, hcl, hxl, hfs⟩ := DataW.trod_struct ht hx
 obtain ⟨b, hK, hw⟩ := h H enc W base spare held n cs (by rw [hcl, hsz]; omega) (fun p hp => by
  rw [← hl] at hp
  obtain ⟨fd, hfd, rfl⟩ := List.mem_map.1 hp
  obtain ⟨i, hi, rfl⟩ := List.getElem_of_mem hfd
  have := hfs i fs.toList[i] (by simp)
  rw [List.getElem?_eq_getElem (by rw [hxl]; simpa using hi)] at this
  exact ⟨_, this⟩)
 exact ⟨g b, by show d.K W (f (g b)) cs; rw [hfg]; simpa using hK, by show wf (f (g b)); rw [hfg]; exact hw⟩
theorem Opens.imp {α : Type} {d : Kd α} {wf wf' : α → Prop} (h : Opens P t d wf) (hi : ∀ a, wf a → wf' a) : Opens P t d wf' := fun H enc W base spare held fuel cs x hx =>
 let ⟨a, h1, h2⟩ := h H enc W base spare held fuel cs x hx; ⟨a, h1, hi a h2⟩
theorem Opens.open {α : Type} {d : Kd α} {wf : α → Prop} (h : Opens P t d wf) {H : Type} {enc : TypeId × Value → H} {W : World} {base : Nat} {spare : Nat → Bool} {held : Bool} {v : Value} {y : DataW H} {p : List MemPlace}
  (hv : DataW.Trod enc P W base spare held t v y p) : ∃ a, d.K W a v.cells.toList ∧ wf a := by
 obtain ⟨fuel, hf⟩ := hv
 exact h H enc W base spare held fuel _ _ hf
end Go.Proofs.Ytckhjehibjdjdaa.Ob
namespace Go.Proofs.Ytckhjehibjdjdaa.P
open Go.RowKit Go.Proofs.Ytckhjehibjdjdaa.Ob Go.Proofs.YtckhjehibjdjdaaW.PrintWords
set_option linter.unusedVariables false
def I64 (x : Int) : Prop := -9223372036854775808 ≤ x ∧ x ≤ 9223372036854775807
def U64 (x : Int) : Prop := 0 ≤ x ∧ x ≤ 18446744073709551615
theorem i64_of {x : Int} (h : (Lit.int .i64 x).wf = true) : I64 x := by unfold I64; simp [Lit.wf, IntKind.min, IntKind.max, IntKind.bits, IntKind.signed] at h; omega
theorem u64_of {x : Int} (h : (Lit.int .u64 x).wf = true) : U64 x := by unfold U64; simp [Lit.wf, IntKind.min, IntKind.max, IntKind.bits, IntKind.signed] at h; omega
theorem o_i64 {t : TypeId} (h : Try.prog.underlying t = some (.int .i64)) : Opens Try.prog t (Kd.int .i64) I64 := (Opens.int h).imp fun _ h => i64_of h
theorem o_u64 {t : TypeId} (h : Try.prog.underlying t = some (.int .u64)) : Opens Try.prog t (Kd.int .u64) U64 := (Opens.int h).imp fun _ h => u64_of h
def wfd48 (x : S48) : Prop := I64 x.f0 ∧ I64 x.f1
theorem o48 : Opens Try.prog 48 k48 wfd48 := (Opens.struct Try.underlying48 rfl (by kernel_rfl) (OpensAt.cons (o_i64 Try.underlying3) (by kernel_rfl) rfl (OpensAt.last (o_i64 Try.underlying3) (by kernel_rfl))) _ (fun p => (⟨p.1, p.2⟩ : S48)) (fun _ => rfl)).imp (fun _ h => h)
def wfd51 (x : S51) : Prop := wfd48 x.f0 ∧ U64 x.f1 ∧ I64 x.f2
theorem o51 : Opens Try.prog 51 k51 wfd51 := (Opens.struct Try.underlying51 rfl (by kernel_rfl) (OpensAt.cons (o48) (by kernel_rfl) rfl (OpensAt.cons (o_u64 Try.underlying49) (by kernel_rfl) rfl (OpensAt.last (o_i64 Try.underlying3) (by kernel_rfl)))) _ (fun p => (⟨p.1, p.2.1, p.2.2⟩ : S51)) (fun _ => rfl)).imp (fun _ h => h)
def wfd27 (x : S27) : Prop := I64 x.f0 ∧ I64 x.f1 ∧ I64 x.f2 ∧ I64 x.f3
theorem o27 : Opens Try.prog 27 k27 wfd27 := (Opens.struct Try.underlying27 rfl (by kernel_rfl) (OpensAt.cons (o_i64 Try.underlying3) (by kernel_rfl) rfl (OpensAt.cons (o_i64 Try.underlying3) (by kernel_rfl) rfl (OpensAt.cons (o_i64 Try.underlying3) (by kernel_rfl) rfl (OpensAt.last (o_i64 Try.underlying3) (by kernel_rfl))))) _ (fun p => (⟨p.1, p.2.1, p.2.2.1, p.2.2.2⟩ : S27)) (fun _ => rfl)).imp (fun _ h => h)
end Go.Proofs.Ytckhjehibjdjdaa.P
namespace Go.Proofs.Ytckhjehibjdjdaa.P
open Go.RowKit Go.Proofs.YtckhjehibjdjdaaW.PrintWords Go.Proofs.YtckhjehibjdjdaaW.PrintLast Go.Proofs.YtckhjehibjdjdaaW.PrintMore
attribute [local go_sem] max2_int min2_int max_two min_two max_three min_three max_four min_four
set_option linter.unusedVariables false
set_option linter.unusedSimpArgs false
end Go.Proofs.Ytckhjehibjdjdaa.P
namespace Go.Proofs.Ytckhjehibjdjdaa.P
open Go.RowKit Go.Proofs.YtckhjehibjdjdaaW.PrintWords Go.Proofs.YtckhjehibjdjdaaW.PrintLast Go.Proofs.YtckhjehibjdjdaaW.PrintMore
attribute [local go_sem] max2_int min2_int max_two min_two max_three min_three max_four min_four
set_option linter.unusedVariables false
set_option linter.unusedSimpArgs false
end Go.Proofs.Ytckhjehibjdjdaa.P
namespace Go.Proofs.Ytckhjehibjdjdaa.P
open Go.RowKit Go.Proofs.YtckhjehibjdjdaaW.PrintWords Go.Proofs.YtckhjehibjdjdaaW.PrintLast Go.Proofs.YtckhjehibjdjdaaW.PrintMore
attribute [local go_sem] max2_int min2_int max_two min_two max_three min_three max_four min_four
set_option linter.unusedVariables false
set_option linter.unusedSimpArgs false
end Go.Proofs.Ytckhjehibjdjdaa.P
namespace Go.Proofs.Ytckhjehibjdjdaa.P
open Go.RowKit Go.Proofs.YtckhjehibjdjdaaW.PrintWords Go.Proofs.YtckhjehibjdjdaaW.PrintLast Go.Proofs.YtckhjehibjdjdaaW.PrintMore
attribute [local go_sem] max2_int min2_int max_two min_two max_three min_three max_four min_four
set_option linter.unusedVariables false
set_option linter.unusedSimpArgs false
end Go.Proofs.Ytckhjehibjdjdaa.P
namespace Go.Proofs.Ytckhjehibjdjdaa.P
open Go.RowKit Go.Proofs.YtckhjehibjdjdaaW.PrintWords Go.Proofs.YtckhjehibjdjdaaW.PrintLast Go.Proofs.YtckhjehibjdjdaaW.PrintMore
attribute [local go_sem] max2_int min2_int max_two min_two max_three min_three max_four min_four
set_option linter.unusedVariables false
set_option linter.unusedSimpArgs false
end Go.Proofs.Ytckhjehibjdjdaa.P
namespace Go.Proofs.Ytckhjehibjdjdaa.P
open Go.RowKit Go.Proofs.YtckhjehibjdjdaaW.PrintWords Go.Proofs.YtckhjehibjdjdaaW.PrintLast Go.Proofs.YtckhjehibjdjdaaW.PrintMore
open Go.Proofs.Ytckhjehibjdjdaa.Bits Go.Proofs.Ytckhjehibjdjdaa.Mp
set_option linter.unusedVariables false
set_option linter.unusedSimpArgs false
def sumP (l : List Nat) : Nat := (l.map fun i => 2 ^ i).sum
theorem sumP_append (a b : List Nat) : sumP (a ++ b) = sumP a + sumP b := by simp [sumP]
theorem orAll_lt_n {l : List Nat} {n : Nat} (h : ∀ i ∈ l, i < n) : orAll l < 2 ^ n := by
 refine Nat.lt_pow_two_of_testBit _ fun j hj => ?_
 rw [testBit_orAll, decide_eq_false]
 intro hm
 have := h j hm
 omega
theorem sumP_orAll (l : List Nat) (hp : l.Pairwise (· < ·)) : ∀ n : Nat, n ≤ l.length → sumP (l.take n) = orAll (l.take n) := by
 intro n
 induction n with
 | zero => intro _; simp [sumP, orAll]
 | succ n ih =>
  intro hn
  have hlt : n < l.length := by omega
  have hb : orAll (l.take n) < 2 ^ l[n] := orAll_lt_n fun i hi => by
   obtain ⟨j, hj, rfl⟩ := List.mem_iff_getElem.1 hi
   rw [List.getElem_take]
   rw [List.length_take] at hj
   exact List.pairwise_iff_getElem.1 hp j n (by omega) hlt (by omega)
  have h1 := Nat.two_pow_add_eq_or_of_lt hb 1
  rw [Nat.mul_one, Nat.or_comm] at h1
  rw [List.take_succ_eq_append_getElem hlt, sumP_append, orAll_snoc, ih (by omega), ← h1]
  simp [sumP]
  omega
end Go.Proofs.Ytckhjehibjdjdaa.P
namespace Go.Proofs.Ytckhjehibjdjdaa.P
open Go.RowKit Go.Proofs.YtckhjehibjdjdaaW.PrintWords Go.Proofs.YtckhjehibjdjdaaW.PrintLast Go.Proofs.YtckhjehibjdjdaaW.PrintMore
attribute [local go_sem] max2_int min2_int max_two min_two max_three min_three max_four min_four
set_option linter.unusedVariables false
set_option linter.unusedSimpArgs false
def ensembleref04_Piece.T4 : Bool × List (List Nat × List Nat) := (true, [([], []), ([0], [0]), ([], []), ([], []), ([3], [3]), ([1, 2, 4], [1, 2, 4]), ([], []), ([6], [6]), ([], []), ([8], [8]), ([], []), ([9, 10], [9, 10]), ([], []), ([12], [12]), ([], []), ([14], [14]), ([13, 15], [13, 15]), ([7, 11, 16], [7, 11, 16]), ([5, 0, 1, 2, 3, 4, 5], [5]), ([17, 18, 0, 1, 2, 3, 4, 5, 6, 7, 8, 9, 10, 11, 12, 13, 14, 15, 16, 17, 18], [17]), ([19, 0, 1, 2, 3, 4, 5, 6, 7, 8, 9, 10, 11, 12, 13, 14, 15, 16, 17, 18, 19], [])])
def ensembleref04_Piece.B4 : List Nat := [0, 1, 0, 0, 8, 31, 0, 64, 0, 256, 0, 1792, 0, 4096, 0, 16384, 61440, 131008, 63, 524287, 1048575]
theorem ensembleref04_Piece.bits4 : waitsOk ensembleref04_Piece.T4.2 ensembleref04_Piece.B4 = true := by kernel_rfl
end Go.Proofs.Ytckhjehibjdjdaa.P
namespace Go.Proofs.Ytckhjehibjdjdaa.P
open Go.RowKit Go.Proofs.YtckhjehibjdjdaaW.PrintWords Go.Proofs.YtckhjehibjdjdaaW.PrintLast Go.Proofs.YtckhjehibjdjdaaW.PrintMore
attribute [local go_sem] max2_int min2_int max_two min_two max_three min_three max_four min_four
set_option linter.unusedVariables false
set_option linter.unusedSimpArgs false
end Go.Proofs.Ytckhjehibjdjdaa.P
namespace Go.Proofs.Ytckhjehibjdjdaa.P
open Go.RowKit Go.Proofs.YtckhjehibjdjdaaW.PrintWords Go.Proofs.YtckhjehibjdjdaaW.PrintLast Go.Proofs.YtckhjehibjdjdaaW.PrintMore
attribute [local go_sem] max2_int min2_int max_two min_two max_three min_three max_four min_four
set_option linter.unusedVariables false
set_option linter.unusedSimpArgs false
end Go.Proofs.Ytckhjehibjdjdaa.P
namespace Go.Proofs.Ytckhjehibjdjdaa.P
open Go.RowKit Go.Proofs.YtckhjehibjdjdaaW.PrintWords Go.Proofs.YtckhjehibjdjdaaW.PrintLast Go.Proofs.YtckhjehibjdjdaaW.PrintMore
attribute [local go_sem] max2_int min2_int max_two min_two max_three min_three max_four min_four
set_option linter.unusedVariables false
set_option linter.unusedSimpArgs false
end Go.Proofs.Ytckhjehibjdjdaa.P
namespace Go.Proofs.Ytckhjehibjdjdaa.P
open Go.RowKit Go.Proofs.YtckhjehibjdjdaaW.PrintWords Go.Proofs.YtckhjehibjdjdaaW.PrintLast Go.Proofs.YtckhjehibjdjdaaW.PrintMore
attribute [local go_sem] max2_int min2_int max_two min_two max_three min_three max_four min_four
set_option linter.unusedVariables false
set_option linter.unusedSimpArgs false
end Go.Proofs.Ytckhjehibjdjdaa.P
namespace Go.Proofs.Ytckhjehibjdjdaa.P
open Go.RowKit Go.Proofs.YtckhjehibjdjdaaW.PrintWords Go.Proofs.YtckhjehibjdjdaaW.PrintLast Go.Proofs.YtckhjehibjdjdaaW.PrintMore
attribute [local go_sem] max2_int min2_int max_two min_two max_three min_three max_four min_four
set_option linter.unusedVariables false
set_option linter.unusedSimpArgs false
end Go.Proofs.Ytckhjehibjdjdaa.P
namespace Go.Proofs.Ytckhjehibjdjdaa.P
open Go.RowKit Go.Proofs.YtckhjehibjdjdaaW.PrintWords Go.Proofs.YtckhjehibjdjdaaW.PrintLast Go.Proofs.YtckhjehibjdjdaaW.PrintMore
attribute [local go_sem] max2_int min2_int max_two min_two max_three min_three max_four min_four
set_option linter.unusedVariables false
set_option linter.unusedSimpArgs false
def ensembleref12_Fits.T4 : Bool × List (List Nat × List Nat) := (true, [([], []), ([0], [0]), ([], []), ([2], [2]), ([1, 3], [1, 3]), ([4], [4]), ([5], [5]), ([6, 5], [5, 6]), ([5], [5]), ([8, 5], [5, 8]), ([7, 9, 5], [5, 7, 9]), ([5, 10], [5, 10]), ([11, 5], [11]), ([12], [12]), ([12], [12]), ([14, 12], [12, 14]), ([13, 15, 12, 12], [12, 13, 15]), ([12], [12]), ([17, 12], [12, 17]), ([16, 18, 12], [12, 16, 18]), ([12, 19], [12, 19]), ([20, 16, 0, 1, 2, 3, 4, 5, 6, 7, 8, 9, 10, 11, 12, 13, 14, 15, 16, 17, 18, 19, 20], [20])])
def ensembleref12_Fits.B4 : List Nat := [0, 1, 0, 4, 15, 31, 63, 127, 63, 319, 1023, 2047, 4095, 8191, 8191, 24575, 65535, 8191, 139263, 524287, 1048575, 2097151]
theorem ensembleref12_Fits.bits4 : waitsOk ensembleref12_Fits.T4.2 ensembleref12_Fits.B4 = true := by kernel_rfl
end Go.Proofs.Ytckhjehibjdjdaa.P
namespace Go.Proofs.Ytckhjehibjdjdaa.P
open Go.RowKit Go.Proofs.YtckhjehibjdjdaaW.PrintWords Go.Proofs.YtckhjehibjdjdaaW.PrintLast Go.Proofs.YtckhjehibjdjdaaW.PrintMore
open Go.Proofs.Ytckhjehibjdjdaa.Bits Go.Proofs.Ytckhjehibjdjdaa.Mp
set_option linter.unusedVariables false
set_option linter.unusedSimpArgs false
theorem pos_orAll (l : List Nat) (hp : l.Pairwise (· < ·)) (h : ∀ i ∈ l, i < 64) : pos (orAll l) = l := by
 refine List.Perm.eq_of_pairwise (le := (· < ·)) (fun a b _ _ h1 h2 => absurd h1 (by omega)) (pos_sorted _) hp ?_
 have n1 : (pos (orAll l)).Nodup := (pos_sorted _).imp (fun h => by omega)
 have n2 : l.Nodup := hp.imp (fun h => by omega)
 refine (List.perm_ext_iff_of_nodup n1 n2).2 fun j => ?_
 rw [mem_pos, testBit_orAll, decide_eq_true_eq]
 exact ⟨fun h => h.2, fun hj => ⟨h j hj, hj⟩⟩
theorem sub_low (M n : Nat) (hM : M < 18446744073709551616) : M = lowN M n + orAll ((pos M).drop n) := by
 have e0 := orAll_pos (m := M) (by simpa using hM)
 have e1 := sumP_orAll (pos M) (pos_sorted M) (pos M).length (Nat.le_refl _)
 rw [List.take_length] at e1
 have hd : ((pos M).drop n).Pairwise (· < ·) := (pos_sorted M).sublist (List.drop_sublist _ _)
 have e2 := sumP_orAll ((pos M).drop n) hd _ (Nat.le_refl _)
 rw [List.take_length] at e2
 have e3 := sumP_append ((pos M).take n) ((pos M).drop n)
 rw [List.take_append_drop] at e3
 have e4 : sumP ((pos M).take n) = lowN M n := by
  unfold lowN
  by_cases h : n ≤ (pos M).length
  ·exact sumP_orAll (pos M) (pos_sorted M) n h
  ·rw [List.take_of_length_le (by omega), e1]
 omega
theorem pop_sub_low (M n : Nat) (hM : M < 18446744073709551616) : popN (M - lowN M n) = popN M - n := by
 have h := sub_low M n hM
 have e : M - lowN M n = orAll ((pos M).drop n) := by omega
 have hd : ((pos M).drop n).Pairwise (· < ·) := (pos_sorted M).sublist (List.drop_sublist _ _)
 unfold popN
 rw [e, pos_orAll _ hd (fun i hi => (mem_pos.1 (List.mem_of_mem_drop hi)).1), List.length_drop]
theorem low_le (M n : Nat) (hM : M < 18446744073709551616) : lowN M n ≤ M := by have := sub_low M n hM; omega
theorem pop_sub (m g : Int) (hm : 0 ≤ m ∧ m < 18446744073709551616) (hg : 0 ≤ g) (hgp : g ≤ popI m) : popI (m - lowI m g) = popI m - g ∧ 0 ≤ m - lowI m g ∧ m - lowI m g < 18446744073709551616 := by
 obtain ⟨M, rfl⟩ := Int.eq_ofNat_of_zero_le hm.1
 obtain ⟨G, rfl⟩ := Int.eq_ofNat_of_zero_le hg
 have hM : M < 18446744073709551616 := by omega
 have h1 := low_le M G hM
 have h2 := pop_sub_low M G hM
 have e3 : lowI (M : Int) (G : Int) = ((lowN M G : Nat) : Int) := by unfold lowI; simp
 have e4 : popI (M : Int) = ((popN M : Nat) : Int) := by unfold popI; simp
 rw [e3]
 rw [e4] at hgp ⊢
 have e5 : ((M : Int) - ((lowN M G : Nat) : Int)) = ((M - lowN M G : Nat) : Int) := by omega
 rw [e5]
 have e6 : popI ((M - lowN M G : Nat) : Int) = ((popN (M - lowN M G) : Nat) : Int) := by unfold popI; simp
 rw [e6, h2]
 omega
theorem each_sub (a b : Int) (hb : 0 ≤ b) (h : b ≤ a) (n : Nat) (hn : n < 16) (X : Int) : 1 ≤ eachI a b ∧ (min (16 - (n : Int)) (min (eachI a b) X)) = 1 + min (16 - ((n : Int) + 1)) (min (eachI (a - b) b) (X - 1)) := by
 unfold eachI
 by_cases h0 : b = 0
 ·rw [if_pos h0, if_pos h0]; omega
 ·rw [if_neg h0, if_neg h0, show (a - b) / b = a / b - 1 from by
   rw [Int.sub_ediv_of_dvd _ (Int.dvd_refl b), Int.ediv_self h0]]
  have : 1 ≤ a / b := (Int.le_ediv_iff_mul_le (by omega)).2 (by omega)
  omega
end Go.Proofs.Ytckhjehibjdjdaa.P
namespace Go.Proofs.Ytckhjehibjdjdaa.P
open Go.RowKit Go.Proofs.YtckhjehibjdjdaaW.PrintWords Go.Proofs.YtckhjehibjdjdaaW.PrintLast Go.Proofs.YtckhjehibjdjdaaW.PrintMore
attribute [local go_sem] max2_int min2_int max_two min_two max_three min_three max_four min_four
set_option linter.unusedVariables false
set_option linter.unusedSimpArgs false
end Go.Proofs.Ytckhjehibjdjdaa.P
namespace Go.Proofs.Ytckhjehibjdjdaa.P
open Go.RowKit Go.Proofs.YtckhjehibjdjdaaW.PrintWords Go.Proofs.YtckhjehibjdjdaaW.PrintLast Go.Proofs.YtckhjehibjdjdaaW.PrintMore
attribute [local go_sem] max2_int min2_int max_two min_two max_three min_three max_four min_four
set_option linter.unusedVariables false
set_option linter.unusedSimpArgs false
end Go.Proofs.Ytckhjehibjdjdaa.P
namespace Go.Proofs.Ytckhjehibjdjdaa.P
open Go.RowKit Go.Proofs.YtckhjehibjdjdaaW.PrintWords Go.Proofs.YtckhjehibjdjdaaW.PrintLast Go.Proofs.YtckhjehibjdjdaaW.PrintMore
attribute [local go_sem] max2_int min2_int max_two min_two max_three min_three max_four min_four
set_option linter.unusedVariables false
set_option linter.unusedSimpArgs false
end Go.Proofs.Ytckhjehibjdjdaa.P
namespace Go.Proofs.Ytckhjehibjdjdaa.P
open Go.RowKit Go.Proofs.YtckhjehibjdjdaaW.PrintWords Go.Proofs.YtckhjehibjdjdaaW.PrintLast Go.Proofs.YtckhjehibjdjdaaW.PrintMore
open Go.Proofs.Ytckhjehibjdjdaa.Bits Go.Proofs.Ytckhjehibjdjdaa.Mp
set_option linter.unusedVariables false
set_option linter.unusedSimpArgs false
theorem andNot_nat (a b : Nat) (ha : a < 18446744073709551616) (hb : b < 18446744073709551616) : Go.bits .andNot .u64 (a : Int) (b : Int) = ((a - (a &&& b) : Nat) : Int) := by
 have h1 : (BitVec.ofInt 64 (a : Int)).toNat = a := by
  rw [BitVec.ofInt_natCast, BitVec.toNat_ofNat]; exact Nat.mod_eq_of_lt (by omega)
 have h2 : (BitVec.ofInt 64 (b : Int)).toNat = b := by
  rw [BitVec.ofInt_natCast, BitVec.toNat_ofNat]; exact Nat.mod_eq_of_lt (by omega)
 show IntKind.u64.wrap ((BitVec.ofInt 64 (a : Int) &&& ~~~ BitVec.ofInt 64 (b : Int)).toNat : Int) = _
 generalize BitVec.ofInt 64 (a : Int) = A at *
 generalize BitVec.ofInt 64 (b : Int) = B at *
 have hz : (A &&& ~~~B) &&& (A &&& B) = 0#64 := by ext i; simp; intro _ h _; exact h
 have hs : (A &&& ~~~B) + (A &&& B) = A := by
  rw [BitVec.add_eq_or_of_and_eq_zero _ _ hz]
  ext i; simp; cases A[i] <;> cases B[i] <;> rfl
 have hn := BitVec.toNat_add_of_and_eq_zero hz
 rw [hs, BitVec.toNat_and A B, h1, h2] at hn
 have hl := (A &&& ~~~B).isLt
 rw [wrapN, Nat.mod_eq_of_lt (by omega)]
 omega
def isAt (a b : Int) (f : S51) : Bool := f.f0.f0 == a && (f.f0.f1 == b)
def findI (view : List S51) (a b : Int) : Int := match view.findIdx? (isAt a b) with
 | some j => (j : Int)
 | none => -1
theorem find_l (view : List S51) (a b : Int) (hl : view.length < 4398046511104) (d : Nat) : ∀ i : Nat, i ≤ view.length → view.length - i = d →
  Ev (fun k => ensembleref05_find.l0 k view (i : Int) a b) (match (view.drop i).findIdx? (isAt a b) with | some j => ((i + j : Nat) : Int) | none => -1) := by
 induction d with
 | zero =>
  intro i hi hd
  rw [List.drop_eq_nil_of_le (by omega)]
  exact Ev.step (f := fun _ => some (-1)) (fun k => by rw [ensembleref05_find.l0, if_neg (by omega)]) (Ev.now _)
 | succ d ih =>
  intro i hi hd
  have hil : i < view.length := by omega
  rw [List.drop_eq_getElem_cons hil, List.findIdx?_cons]
  by_cases h : isAt a b view[i] = true
  ·rw [if_pos h]
   refine Ev.step (f := fun _ => some ((i + 0 : Nat) : Int)) (fun k => ?_) (Ev.now _)
   rw [ensembleref05_find.l0, if_pos (by omega), if_pos (by omega), rd51' view i hil, if_pos (show (view[i].f0.f0 == a && (view[i].f0.f1 == b)) = true from h)]; rfl
  ·rw [if_neg h]
   have I := ih (i + 1) (by omega) (by omega)
   refine Ev.step (f := fun k => ensembleref05_find.l0 k view ((i + 1 : Nat) : Int) a b) (fun k => ?_) ?_
   ·rw [ensembleref05_find.l0, if_pos (by omega), if_pos (by omega), rd51' view i hil, if_neg (show ¬ (view[i].f0.f0 == a && (view[i].f0.f1 == b)) = true from h), w_id (by omega)]; rfl
   ·cases hf : (view.drop (i + 1)).findIdx? (isAt a b) with
    | none => rw [hf] at I; exact I
    | some j =>
     rw [hf] at I
     simp only [Option.map_some]
     rw [show i + (j + 1) = i + 1 + j by omega]; exact I
theorem find_ev (view : List S51) (a b : Int) (hl : view.length < 4398046511104) : Ev (fun k => ensembleref05_find.f k view a b) (findI view a b) := by
 have := find_l view a b hl view.length 0 (by omega) (by omega)
 rw [List.drop_zero] at this
 unfold findI
 cases hf : view.findIdx? (isAt a b) with
 | none => rw [hf] at this; exact this
 | some j => rw [hf] at this; simp only [Nat.zero_add] at this; exact this
def spot (f : S51) : Int × Int := (f.f0.f0, f.f0.f1)
def cpOk (f : S51) : Prop := 0 ≤ f.f2 ∧ f.f2 ≤ 1048576
def viewR (view : List S51) : Prop := (∀ f ∈ view, cpOk f) ∧ (view.map spot).Nodup
theorem isAt_iff {a b : Int} {f : S51} : isAt a b f = true ↔ spot f = (a, b) := by
 unfold isAt spot; simp
theorem findI_neg {view : List S51} {a b : Int} : findI view a b < 0 ↔ (a, b) ∉ view.map spot := by
 unfold findI
 cases h : view.findIdx? (isAt a b) with
 | none =>
  rw [List.findIdx?_eq_none_iff] at h
  simp only [List.mem_map, not_exists, not_and]
  exact ⟨fun _ f hf e => (by rw [← isAt_iff, h f hf] at e; cases e), fun _ => by omega⟩
 | some j =>
  rw [List.findIdx?_eq_some_iff_getElem] at h
  obtain ⟨hj, h1, _⟩ := h
  constructor
  ·intro h; simp only at h; omega
  ·intro hn
   exact absurd (List.mem_map.2 ⟨view[j], List.getElem_mem hj, isAt_iff.1 h1⟩) hn
theorem findI_bd (view : List S51) (a b : Int) : -1 ≤ findI view a b ∧ findI view a b < view.length := by
 unfold findI
 cases h : view.findIdx? (isAt a b) with
 | none => simp only; omega
 | some j =>
  rw [List.findIdx?_eq_some_iff_getElem] at h
  obtain ⟨hj, _⟩ := h
  simp only; omega
theorem right05_l (view : List S51) (hl : view.length < 4398046511104) (d : Nat) : ∀ i : Nat, i ≤ view.length → view.length - i = d → (∀ f ∈ view.take i, cpOk f) → ((view.take i).map spot).Nodup →
  (Ev (fun k => ensembleref05_Right.l0 k view (i : Int)) true ∧ viewR view) ∨ Ev (fun k => ensembleref05_Right.l0 k view (i : Int)) false := by
 induction d with
 | zero =>
  intro i hi hd hc hn
  left
  obtain rfl : i = view.length := by omega
  rw [List.take_length] at hc hn
  exact ⟨Ev.step (f := fun _ => some true) (fun k => by rw [ensembleref05_Right.l0, if_neg (by omega)]) (Ev.now _), hc, hn⟩
 | succ d ih =>
  intro i hi hd hc hn
  have hil : i < view.length := by omega
  by_cases h1 : (view[i]).f2 < 0
  ·right
   exact Ev.step (f := fun _ => some false) (fun k => by rw [ensembleref05_Right.l0, if_pos (by omega), if_pos (by omega), rd51' view i hil, if_pos h1]) (Ev.now _)
  by_cases h2 : (view[i]).f2 > 1048576
  ·right
   exact Ev.step (f := fun _ => some false) (fun k => by rw [ensembleref05_Right.l0, if_pos (by omega), if_pos (by omega), rd51' view i hil, if_neg h1, if_pos h2]) (Ev.now _)
  have hF := find_ev (view.take i) (view[i]).f0.f0 (view[i]).f0.f1 (by rw [List.length_take]; omega)
  have hstep : ∀ k, ensembleref05_Right.l0 (k + 1) view (i : Int) = (ensembleref05_find.f k (view.take i) (view[i]).f0.f0 (view[i]).f0.f1).bind fun t127 => (if t127 ≥ 0 then (some false) else (ensembleref05_Right.l0 k view (wrap64 ((i : Int) + 1)))) := fun k => by
   rw [ensembleref05_Right.l0, if_pos (by omega), if_pos (by omega), rd51' view i hil, if_neg h1, if_neg h2, if_pos (by omega), Int.toNat_natCast]
  by_cases h3 : findI (view.take i) (view[i]).f0.f0 (view[i]).f0.f1 ≥ 0
  ·right
   exact Ev.step hstep (Ev.bind hF (Ev.congr (fun k => by rw [if_pos h3]) (Ev.now _)))
  ·have hcon : ∀ r, Ev (fun k => ensembleref05_Right.l0 k view ((i + 1 : Nat) : Int)) r → Ev (fun k => ensembleref05_Right.l0 k view (i : Int)) r := fun r hr =>
    Ev.step hstep (Ev.bind hF (Ev.congr (fun k => by rw [if_neg h3, w_id (by omega)]; congr 1) hr))
   have hnm := findI_neg.1 (show findI (view.take i) (view[i]).f0.f0 (view[i]).f0.f1 < 0 by omega)
   rcases ih (i + 1) (by omega) (by omega) (by
    intro f hf
    rw [List.take_succ_eq_append_getElem hil] at hf
    rcases List.mem_append.1 hf with hf | hf
    ·exact hc f hf
    ·rw [List.mem_singleton.1 hf]; exact ⟨by omega, by omega⟩) (by
    rw [List.take_succ_eq_append_getElem hil, List.map_append, List.nodup_append]
    refine ⟨hn, by simp, fun x hx y hy => ?_⟩
    rw [List.map_singleton, List.mem_singleton] at hy
    rintro rfl
    apply hnm
    rw [hy] at hx
    exact hx) with ⟨h, hv⟩ | h
   ·exact .inl ⟨hcon _ h, hv⟩
   ·exact .inr (hcon _ h)
theorem right05_ev (view : List S51) (hl : view.length < 4398046511104) : (Ev (fun k => ensembleref05_Right.f k view) true ∧ viewR view) ∨ Ev (fun k => ensembleref05_Right.f k view) false := by
 have := right05_l view hl view.length 0 (by omega) (by omega) (by simp) (by simp)
 exact this
def turnF (E : S51 → S52 → Int) (F : S51 → S52 → S51) : List S51 → List S52 → List S51 × Int
 | out, [] => (out, 0)
 | out, s :: ss => if s.f2 < 0 then ([], 1) else if findI out s.f0.f0 s.f0.f1 < 0 then ([], 3)
  else if E (rd_T51 out (findI out s.f0.f0 s.f0.f1)) s = 0 then turnF E F (out.set (findI out s.f0.f0 s.f0.f1).toNat (F (rd_T51 out (findI out s.f0.f0 s.f0.f1)) s)) ss
  else ([], E (rd_T51 out (findI out s.f0.f0 s.f0.f1)) s)
theorem bits_and_z {a b : Int} (ha : 0 ≤ a ∧ a < 18446744073709551616) (hb : 0 ≤ b ∧ b < 18446744073709551616) : Go.bits .and .u64 a b = ((a.toNat &&& b.toNat : Nat) : Int) := by
 obtain ⟨x, rfl⟩ := Int.eq_ofNat_of_zero_le ha.1
 obtain ⟨y, rfl⟩ := Int.eq_ofNat_of_zero_le hb.1
 rw [Int.toNat_natCast, Int.toNat_natCast]
 exact bits_and_u64_nat x y (by omega) (by omega)
theorem freeOk_out {f : S51} (h : freeOk f = true) : (0 ≤ f.f1 ∧ f.f1 < 18446744073709551616) ∧ -9223372036854775808 ≤ f.f2 ∧ f.f2 ≤ 9223372036854775807 := by
 simp only [freeOk, w64B, Bool.and_eq_true, decide_eq_true_eq] at h
 exact ⟨⟨h.1.1, h.1.2⟩, h.2.1, h.2.2⟩
theorem maskOk_out {s : S52} (h : maskOk s = true) : 0 ≤ s.f1 ∧ s.f1 < 18446744073709551616 := by
 simp only [maskOk, Bool.and_eq_true, decide_eq_true_eq] at h
 exact h
theorem set_all {P : S51 → Prop} {out : List S51} {k : Nat} {x : S51} (h : ∀ f ∈ out, P f) (hx : P x) : ∀ f ∈ out.set k x, P f := fun f hf => by
 rcases List.mem_or_eq_of_mem_set hf with h' | rfl
 ·exact h f h'
 ·exact hx
theorem lessF_ok {f : S51} {s : S52} (hf : freeOk f = true) (hs : maskOk s = true) : freeOk (lessF f s) = true := by
 have h1 := freeOk_out hf
 have h2 := maskOk_out hs
 have e : Go.bits .andNot .u64 f.f1 s.f1 = ((f.f1.toNat - (f.f1.toNat &&& s.f1.toNat) : Nat) : Int) := by
  have := andNot_nat f.f1.toNat s.f1.toNat (by omega) (by omega)
  rw [Int.toNat_of_nonneg h1.1.1, Int.toNat_of_nonneg h2.1] at this
  exact this
 have e1 : 0 ≤ (lessF f s).f1 ∧ (lessF f s).f1 < 18446744073709551616 := by
  show 0 ≤ Go.bits .andNot .u64 f.f1 s.f1 ∧ Go.bits .andNot .u64 f.f1 s.f1 < 18446744073709551616
  rw [e]; omega
 unfold freeOk
 rw [decide_eq_true e1.1, decide_eq_true e1.2]
 exact w64_wrap _
theorem findI_spots {a b : List S51} (h : a.map spot = b.map spot) (x y : Int) : findI a x y = findI b x y := by
 have e : ∀ l : List S51, l.findIdx? (isAt x y) = (l.map spot).findIdx? (fun p => p.1 == x && p.2 == y) := fun l => by
  rw [List.findIdx?_map]; rfl
 unfold findI
 rw [e a, e b, h]
theorem ixS_find (view : List S51) (hn : (view.map spot).Nodup) : ∀ i : Nat, i ≤ view.length → ∀ a b : Int, ixS view i a b = if 0 ≤ findI view a b ∧ findI view a b < i then some (findI view a b) else none := by
 intro i
 induction i with
 | zero => intro _ a b; rw [if_neg (by omega)]; rfl
 | succ i ih =>
  intro hi a b
  have hil : i < view.length := by omega
  unfold ixS updS
  rw [rd51' view i hil]
  have hfi : findI view (view[i]).f0.f0 (view[i]).f0.f1 = (i : Int) := by
   unfold findI
   have : view.findIdx? (isAt (view[i]).f0.f0 (view[i]).f0.f1) = some i := by
    rw [List.findIdx?_eq_some_iff_getElem]
    refine ⟨hil, by unfold isAt; simp, fun j hj => ?_⟩
    intro hjt
    have h1 := isAt_iff.1 hjt
    have h2 := List.pairwise_iff_getElem.1 hn j i (by rw [List.length_map]; omega) (by rw [List.length_map]; exact hil) hj
    apply h2
    rw [List.getElem_map, List.getElem_map, h1]
    rfl
   rw [this]
  by_cases h : a = (view[i]).f0.f0 ∧ b = (view[i]).f0.f1
  ·rw [if_pos h, h.1, h.2, hfi, if_pos (by omega)]
  ·rw [if_neg h, ih (by omega) a b]
   have hne : findI view a b ≠ (i : Int) := by
    intro e
    unfold findI at e
    cases hf : view.findIdx? (isAt a b) with
    | none => rw [hf] at e; simp only at e; omega
    | some j =>
     rw [hf] at e
     simp only at e
     obtain rfl : j = i := by omega
     rw [List.findIdx?_eq_some_iff_getElem] at hf
     have := isAt_iff.1 hf.2.1
     unfold spot at this
     injection this with h1 h2
     exact h ⟨h1.symm, h2.symm⟩
   by_cases hc : 0 ≤ findI view a b ∧ findI view a b < i
   ·rw [if_pos hc, if_pos (by omega)]
   ·rw [if_neg hc, if_neg (by omega)]
theorem spots_set {out : List S51} {k : Nat} {x : S51} (hx : ∀ h : k < out.length, spot x = spot out[k]) : (out.set k x).map spot = out.map spot := by
 rw [List.map_set]
 by_cases h : k < out.length
 ·rw [hx h]
  apply List.ext_getElem
  ·simp
  ·intro i h1 h2
   rw [List.getElem_set]
   split
   ·rename_i e; subst e; rw [List.getElem_map]
   ·rfl
 ·rw [List.set_eq_of_length_le (by rw [List.length_map]; omega)]
theorem turned_find (E : S51 → S52 → Int) (F : S51 → S52 → S51) (hF : ∀ f s, (F f s).f0 = f.f0) (view : List S51) (hn : (view.map spot).Nodup) : ∀ (slots : List S52) (out : List S51), out.map spot = view.map spot →
  turnedL E F (ixS view view.length) out slots = turnF E F out slots
 | [], out, _ => rfl
 | s :: ss, out, ho => by
  have hb := findI_bd view s.f0.f0 s.f0.f1
  rw [turnedL, turnF, findI_spots ho, ixS_find view hn _ (Nat.le_refl _)]
  generalize findI view s.f0.f0 s.f0.f1 = p at *
  by_cases h1 : s.f2 < 0
  ·rw [if_pos h1, if_pos h1]
  rw [if_neg h1, if_neg h1]
  by_cases h2 : p < 0
  ·rw [if_neg (by omega), if_pos h2]
  rw [if_pos (by omega), if_neg h2]
  simp only
  by_cases h3 : E (rd_T51 out p) s = 0
  ·rw [if_pos h3, if_pos h3]
   refine turned_find E F hF view hn ss _ ?_
   rw [spots_set (fun hk => ?_), ho]
   have : rd_T51 out p = out[p.toNat] := by
    have := rd51' out p.toNat hk
    rw [Int.toNat_of_nonneg (by omega)] at this
    exact this
   unfold spot
   rw [hF, this]
  ·rw [if_neg h3, if_neg h3]
theorem turned51_find {E : S51 → S52 → Int} {F : S51 → S52 → S51} (hF : ∀ f s, (F f s).f0 = f.f0) {view : List S51} (hn : (view.map spot).Nodup) (slots : List S52) : turned51 E F view slots = turnF E F view slots :=
 turned_find E F hF view hn slots view rfl
end Go.Proofs.Ytckhjehibjdjdaa.P
namespace Go.Proofs.Ytckhjehibjdjdaa.P
open Go.RowKit Go.Proofs.YtckhjehibjdjdaaW.PrintWords Go.Proofs.YtckhjehibjdjdaaW.PrintLast Go.Proofs.YtckhjehibjdjdaaW.PrintMore
attribute [local go_sem] max2_int min2_int max_two min_two max_three min_three max_four min_four
set_option linter.unusedVariables false
set_option linter.unusedSimpArgs false
end Go.Proofs.Ytckhjehibjdjdaa.P
namespace Go.Proofs.Ytckhjehibjdjdaa.P
open Go.RowKit Go.Proofs.YtckhjehibjdjdaaW.PrintWords Go.Proofs.YtckhjehibjdjdaaW.PrintLast Go.Proofs.YtckhjehibjdjdaaW.PrintMore
attribute [local go_sem] max2_int min2_int max_two min_two max_three min_three max_four min_four
set_option linter.unusedVariables false
set_option linter.unusedSimpArgs false
end Go.Proofs.Ytckhjehibjdjdaa.P
namespace Go.Proofs.Ytckhjehibjdjdaa.P
open Go.RowKit Go.Proofs.YtckhjehibjdjdaaW.PrintWords Go.Proofs.YtckhjehibjdjdaaW.PrintLast Go.Proofs.YtckhjehibjdjdaaW.PrintMore
attribute [local go_sem] max2_int min2_int max_two min_two max_three min_three max_four min_four
set_option linter.unusedVariables false
set_option linter.unusedSimpArgs false
end Go.Proofs.Ytckhjehibjdjdaa.P
namespace Go.Proofs.Ytckhjehibjdjdaa.P
open Go.RowKit Go.Proofs.YtckhjehibjdjdaaW.PrintWords Go.Proofs.YtckhjehibjdjdaaW.PrintLast Go.Proofs.YtckhjehibjdjdaaW.PrintMore
attribute [local go_sem] max2_int min2_int max_two min_two max_three min_three max_four min_four
set_option linter.unusedVariables false
set_option linter.unusedSimpArgs false
end Go.Proofs.Ytckhjehibjdjdaa.P
namespace Go.Proofs.Ytckhjehibjdjdaa.P
open Go.RowKit Go.Proofs.YtckhjehibjdjdaaW.PrintWords Go.Proofs.YtckhjehibjdjdaaW.PrintLast Go.Proofs.YtckhjehibjdjdaaW.PrintMore
open Go.Proofs.Ytckhjehibjdjdaa.Bits Go.Proofs.Ytckhjehibjdjdaa.Mp
set_option linter.unusedVariables false
set_option linter.unusedSimpArgs false
def ended (T : Int) (ends : List S41) : List S41 := ends.filter fun h => decide (h.f2 ≤ T)
def slotsOf (l : List S41) : List S52 := l.flatMap fun h => h.f4
theorem slotsOf_cons (h : S41) (l : List S41) : slotsOf (h :: l) = h.f4 ++ slotsOf l := List.flatMap_cons
theorem slotsOf_append (a b : List S41) : slotsOf (a ++ b) = slotsOf a ++ slotsOf b := List.flatMap_append
theorem sub_slots {a b : List S41} (h : a.Sublist b) : (slotsOf a).Sublist (slotsOf b) := by
 induction h with
 | slnil => exact List.Sublist.slnil
 | cons x _ ih => rw [slotsOf_cons]; exact ih.trans (List.sublist_append_right _ _)
 | cons_cons x _ ih => rw [slotsOf_cons, slotsOf_cons]; exact List.Sublist.append (List.Sublist.refl _) ih
def leftQ (q : Int) : Int × Int → List S41 → Int × Int
 | a, [] => a
 | a, h :: l => leftQ q (if h.f1 = q then (wrap64 (a.1 + (addL true (0, 0) h.f4).1), wrap64 (a.2 + (addL true (0, 0) h.f4).2)) else a) l
def atB (view : List S51) (lg lc : Int) (ends : List S41) (q m g c mn mx T : Int) : Bool :=
 fitsB (turnF moreE moreF view (slotsOf (ended T ends))).1 (leftQ q (lg, lc) (ended T ends)).1 (leftQ q (lg, lc) (ended T ends)).2 m g c mn mx
structure Inp (view : List S51) (ends : List S41) : Prop where
 vl : view.length < 4398046511104
 vf : ∀ f ∈ view, freeOk f = true
 el : ends.length < 1000000
 es : (slotsOf ends).length < 4000000000
 sm : ∀ s ∈ slotsOf ends, maskOk s = true
theorem Inp.sub {view : List S51} {ends l : List S41} (I : Inp view ends) (h : l.Sublist ends) : Inp view l :=
 have hs : (slotsOf l).Sublist (slotsOf ends) := sub_slots h
 ⟨I.vl, I.vf, Nat.lt_of_le_of_lt h.length_le I.el, Nat.lt_of_le_of_lt hs.length_le I.es, fun s hs' => I.sm s (hs.subset hs')⟩
theorem Inp.ended {view : List S51} {ends : List S41} (I : Inp view ends) (T : Int) : Inp view (ended T ends) := I.sub List.filter_sublist
def bestF (A : Int → Bool) (now : Int) : Int → List S41 → Int
 | b, [] => b
 | b, h :: l => bestF A now (if h.f2 > now ∧ h.f2 < b ∧ A h.f2 = true then h.f2 else b) l
def refEarly (now : Int) (view : List S51) (lg lc : Int) (ends : List S41) (q m g c mn mx : Int) : Int × Int :=
 if now < 0 ∨ now > 1073741824 ∨ rightB m g c mn mx = false then (0, 1)
 else if (turnF moreE moreF view (slotsOf ends)).2 ≠ 0 then (0, (turnF moreE moreF view (slotsOf ends)).2)
 else if atB view lg lc ends q m g c mn mx now = true then (now, 0)
 else (bestF (atB view lg lc ends q m g c mn mx) now 1073741825 ends, 0)
end Go.Proofs.Ytckhjehibjdjdaa.P
namespace Go.Proofs.Ytckhjehibjdjdaa.P
open Go.RowKit Go.Proofs.YtckhjehibjdjdaaW.PrintWords Go.Proofs.YtckhjehibjdjdaaW.PrintLast Go.Proofs.YtckhjehibjdjdaaW.PrintMore
open Go.Proofs.Ytckhjehibjdjdaa.Bits Go.Proofs.Ytckhjehibjdjdaa.Mp
set_option linter.unusedVariables false
set_option linter.unusedSimpArgs false
def sspot (s : S52) : Int × Int := (s.f0.f0, s.f0.f1)
def atS (f : S51) (l : List S52) : List S52 := l.filter fun s => decide (sspot s = spot f)
def stepV (view : List S51) (s : S52) : List S51 := view.map fun f => if spot f = sspot s then moreF f s else f
def disj (a b : Int) : Prop := a.toNat &&& b.toNat = 0
theorem disj_comm {a b : Int} (h : disj a b) : disj b a := by unfold disj at *; rw [Nat.and_comm]; exact h
structure okF (f : S51) (l : List S52) : Prop where
 own : ∀ s ∈ l, disj s.f1 f.f1
 two : l.Pairwise fun a b => disj a.f1 b.f1
 sum : f.f2 + (l.map fun s => s.f2).sum ≤ 1048576
structure okS (view : List S51) (slots : List S52) : Prop where
 pos : ∀ s ∈ slots, 0 ≤ s.f2 ∧ sspot s ∈ view.map spot
 fit : ∀ f ∈ view, okF f (atS f slots)
def viewS (view : List S51) (slots : List S52) : List S51 := view.map fun f => (atS f slots).foldl moreF f
theorem atS_moreF (f : S51) (s : S52) (l : List S52) : atS (moreF f s) l = atS f l := rfl
theorem stepV_spots (view : List S51) (s : S52) : (stepV view s).map spot = view.map spot := by
 unfold stepV
 rw [List.map_map]
 apply List.map_congr_left
 intro f _
 simp only [Function.comp_apply]
 split <;> rfl
theorem bits_or_bv (a b : Int) : Go.bits .or .u64 a b = ((BitVec.ofInt 64 a ||| BitVec.ofInt 64 b).toNat : Int) := by
 show IntKind.u64.wrap ((BitVec.ofInt 64 a ||| BitVec.ofInt 64 b).toNat : Int) = _
 rw [wrapN, Nat.mod_eq_of_lt (BitVec.isLt _)]
theorem ofInt_toNat (x : BitVec 64) : BitVec.ofInt 64 (x.toNat : Int) = x := by
 rw [BitVec.ofInt_natCast]; simp
theorem or_right_comm (a b c : Int) : Go.bits .or .u64 (Go.bits .or .u64 a b) c = Go.bits .or .u64 (Go.bits .or .u64 a c) b := by
 rw [bits_or_bv, bits_or_bv a b, ofInt_toNat, bits_or_bv, bits_or_bv a c, ofInt_toNat, BitVec.or_assoc, BitVec.or_comm (BitVec.ofInt 64 b), ← BitVec.or_assoc]
theorem wrap_right_comm (a b c : Int) : wrap64 (wrap64 (a + b) + c) = wrap64 (wrap64 (a + c) + b) := by unfold wrap64; omega
theorem moreF_comm (f : S51) (a b : S52) : moreF (moreF f a) b = moreF (moreF f b) a := by
 unfold moreF
 rw [or_right_comm, wrap_right_comm]
theorem and_iff_disj {a b : Int} (ha : 0 ≤ a ∧ a < 18446744073709551616) (hb : 0 ≤ b ∧ b < 18446744073709551616) : Go.bits .and .u64 a b = 0 ↔ disj a b := by
 rw [bits_and_z ha hb]; unfold disj; omega
theorem disj_or {a b c : Int} (ha : 0 ≤ a ∧ a < 18446744073709551616) (hb : 0 ≤ b ∧ b < 18446744073709551616) : disj c (Go.bits .or .u64 a b) ↔ disj c a ∧ disj c b := by
 obtain ⟨x, rfl⟩ := Int.eq_ofNat_of_zero_le ha.1
 obtain ⟨y, rfl⟩ := Int.eq_ofNat_of_zero_le hb.1
 rw [bits_or_u64_nat x y (by omega) (by omega)]
 unfold disj
 rw [Int.toNat_natCast, Int.toNat_natCast, Int.toNat_natCast, Nat.and_or_distrib_left, Nat.or_eq_zero_iff]
theorem moreE_iff {f : S51} {s : S52} (hf : freeOk f = true) (hc : cpOk f) (hs : maskOk s = true) (h0 : 0 ≤ s.f2) : moreE f s = 0 ↔ disj s.f1 f.f1 ∧ f.f2 + s.f2 ≤ 1048576 := by
 have h1 := freeOk_out hf
 have h2 := maskOk_out hs
 unfold cpOk at hc
 unfold moreE
 rw [show wrap64 (1048576 - f.f2) = 1048576 - f.f2 from w_id (by omega)]
 by_cases hd : disj s.f1 f.f1
 ·rw [if_neg (fun x => x ((and_iff_disj h2 h1.1).2 hd))]
  by_cases h : s.f2 > 1048576 - f.f2
  ·rw [if_pos h]; constructor
   ·intro x; cases x
   ·intro x; omega
  ·rw [if_neg h]; exact ⟨fun _ => ⟨hd, by omega⟩, fun _ => rfl⟩
 ·rw [if_pos (fun x => hd ((and_iff_disj h2 h1.1).1 x))]; constructor
  ·intro x; cases x
  ·intro x; exact absurd x.1 hd
theorem okF_cons {f : S51} {s : S52} {l : List S52} (hf : freeOk f = true) (hc : cpOk f) (hs : maskOk s = true) (h0 : 0 ≤ s.f2) (hl : ∀ x ∈ l, 0 ≤ x.f2) :
  okF f (s :: l) ↔ moreE f s = 0 ∧ okF (moreF f s) l := by
 have h1 := freeOk_out hf
 have h2 := maskOk_out hs
 rw [moreE_iff hf hc hs h0]
 have hsum : 0 ≤ (l.map fun s => s.f2).sum := by
  clear h1 h2 hc
  induction l with
  | nil => simp
  | cons x l ih =>
   have := hl x (by simp)
   have := ih (fun y hy => hl y (by simp [hy]))
   rw [List.map_cons, List.sum_cons]; omega
 unfold cpOk at hc
 have hw : f.f2 + s.f2 ≤ 1048576 → (moreF f s).f2 = f.f2 + s.f2 := fun h => by unfold moreF; exact w_id (by omega)
 constructor
 ·rintro ⟨a, b, c⟩
  rw [List.map_cons, List.sum_cons] at c
  have hb := List.pairwise_cons.1 b
  refine ⟨⟨a s (by simp), by omega⟩, fun x hx => ?_, hb.2, ?_⟩
  ·show disj x.f1 (Go.bits .or .u64 f.f1 s.f1)
   exact (disj_or h1.1 h2).2 ⟨a x (by simp [hx]), disj_comm (hb.1 x hx)⟩
  ·rw [hw (by omega)]; omega
 ·rintro ⟨⟨a, b⟩, c, d, e⟩
  rw [hw b] at e
  refine ⟨fun x hx => ?_, List.pairwise_cons.2 ⟨fun x hx => ?_, d⟩, ?_⟩
  ·rcases List.mem_cons.1 hx with rfl | hx
   ·exact a
   ·exact ((disj_or h1.1 h2).1 (c x hx)).1
  ·exact disj_comm ((disj_or h1.1 h2).1 (c x hx)).2
  ·rw [List.map_cons, List.sum_cons]; omega
theorem set_step {view : List S51} (hn : (view.map spot).Nodup) {s : S52} {p : Nat} (hp : findI view s.f0.f0 s.f0.f1 = (p : Int)) :
  ∃ h : p < view.length, spot view[p] = sspot s ∧ view.set p (moreF view[p] s) = stepV view s ∧ ∀ f ∈ view, spot f = sspot s → f = view[p] := by
 unfold findI at hp
 cases hf : view.findIdx? (isAt s.f0.f0 s.f0.f1) with
 | none => rw [hf] at hp; simp only at hp; omega
 | some j =>
  rw [hf] at hp
  simp only at hp
  obtain rfl : j = p := by omega
  rw [List.findIdx?_eq_some_iff_getElem] at hf
  obtain ⟨hj, h1, _⟩ := hf
  have hs := isAt_iff.1 h1
  have huniq : ∀ i (hi : i < view.length), spot view[i] = sspot s → i = j := fun i hi he => by
   have hn' := List.pairwise_iff_getElem.1 hn
   rcases Nat.lt_trichotomy i j with h | h | h
   ·exact absurd (by rw [List.getElem_map, List.getElem_map, he, hs]; rfl) (hn' i j (by simpa using hi) (by simpa using hj) h)
   ·exact h
   ·exact absurd (by rw [List.getElem_map, List.getElem_map, he, hs]; rfl) (hn' j i (by simpa using hj) (by simpa using hi) h)
  refine ⟨hj, hs, ?_, fun f hf he => ?_⟩
  ·unfold stepV
   apply List.ext_getElem
   ·simp
   ·intro i h1 h2
    rw [List.getElem_set, List.getElem_map]
    rw [List.length_set] at h1
    by_cases hij : j = i
    ·subst hij
     rw [if_pos rfl, if_pos (show spot view[j] = sspot s from hs)]
    ·rw [if_neg hij, if_neg (fun h => hij (huniq i h1 h).symm)]
  ·obtain ⟨i, hi, rfl⟩ := List.mem_iff_getElem.1 hf
   have := huniq i hi he
   subst this; rfl
structure View (view : List S51) : Prop where
 right : viewR view
 free : ∀ f ∈ view, freeOk f = true
theorem stepV_mem {view : List S51} {s : S52} {P : S51 → Prop} : (∀ f ∈ stepV view s, P f) ↔ ∀ f ∈ view, P (if spot f = sspot s then moreF f s else f) := by
 unfold stepV
 simp only [List.mem_map]
 constructor
 ·intro h f hf; exact h _ ⟨f, hf, rfl⟩
 ·rintro h f ⟨g, hg, rfl⟩; exact h g hg
theorem View.step {view : List S51} (V : View view) {s : S52} (hs : maskOk s = true) (h0 : 0 ≤ s.f2) (hE : ∀ f ∈ view, spot f = sspot s → moreE f s = 0) : View (stepV view s) := by
 refine ⟨⟨stepV_mem.2 fun f hf => ?_, by rw [stepV_spots]; exact V.right.2⟩, stepV_mem.2 fun f hf => ?_⟩
 ·split
  ·rename_i h
   have h1 := (moreE_iff (V.free f hf) (V.right.1 f hf) hs h0).1 (hE f hf h)
   have h2 := V.right.1 f hf
   unfold cpOk at h2 ⊢
   have : (moreF f s).f2 = f.f2 + s.f2 := by unfold moreF; exact w_id (by omega)
   omega
  ·exact V.right.1 f hf
 ·split
  ·exact moreF_ok (V.free f hf) hs
  ·exact V.free f hf
theorem atS_cons (f : S51) (s : S52) (l : List S52) : atS f (s :: l) = if sspot s = spot f then s :: atS f l else atS f l := by
 unfold atS
 by_cases h : sspot s = spot f
 ·rw [if_pos h, List.filter_cons_of_pos (by simpa using h)]
 ·rw [if_neg h, List.filter_cons_of_neg (by simpa using h)]
theorem viewS_step (view : List S51) (s : S52) (l : List S52) : viewS (stepV view s) l = viewS view (s :: l) := by
 unfold viewS stepV
 rw [List.map_map]
 apply List.map_congr_left
 intro f _
 simp only [Function.comp_apply]
 by_cases h : spot f = sspot s
 ·rw [if_pos h, atS_moreF, atS_cons, if_pos h.symm]; rfl
 ·rw [if_neg h, atS_cons, if_neg (fun x => h x.symm)]
theorem turnF_iff : ∀ (slots : List S52) (view : List S51), View view → (∀ s ∈ slots, maskOk s = true) →
  ((turnF moreE moreF view slots).2 = 0 ↔ okS view slots) ∧ ((turnF moreE moreF view slots).2 = 0 → (turnF moreE moreF view slots).1 = viewS view slots)
 | [], view, V, _ => by
  refine ⟨⟨fun _ => ⟨by simp, fun f hf => ⟨by simp [atS], by simp [atS], ?_⟩⟩, fun _ => rfl⟩, fun _ => ?_⟩
  ·have := V.right.1 f hf
   unfold cpOk at this
   simp [atS]; omega
  ·unfold viewS atS turnF; simp
 | s :: ss, view, V, hm => by
  have hms := hm s (by simp)
  rw [turnF]
  by_cases h1 : s.f2 < 0
  ·rw [if_pos h1]
   exact ⟨⟨fun h => (by cases h), fun h => (by have := (h.pos s (by simp)).1; omega)⟩, fun h => (by cases h)⟩
  rw [if_neg h1]
  by_cases h2 : findI view s.f0.f0 s.f0.f1 < 0
  ·rw [if_pos h2]
   have hn := findI_neg.1 h2
   exact ⟨⟨fun h => (by cases h), fun h => absurd (h.pos s (by simp)).2 hn⟩, fun h => (by cases h)⟩
  rw [if_neg h2]
  obtain ⟨p, hp⟩ := Int.eq_ofNat_of_zero_le (show 0 ≤ findI view s.f0.f0 s.f0.f1 by omega)
  obtain ⟨hpl, hps, hset, huni⟩ := set_step V.right.2 hp
  have hin : sspot s ∈ view.map spot := List.mem_map.2 ⟨view[p], List.getElem_mem hpl, hps⟩
  rw [hp, Int.toNat_natCast, rd51' view p hpl]
  have hfp := V.free _ (List.getElem_mem hpl)
  have hcp := V.right.1 _ (List.getElem_mem hpl)
  have hall : (∀ f ∈ view, spot f = sspot s → moreE f s = 0) ↔ moreE view[p] s = 0 :=
   ⟨fun h => h _ (List.getElem_mem hpl) hps, fun h f hf he => by rw [huni f hf he]; exact h⟩
  by_cases h3 : moreE view[p] s = 0
  ·rw [if_pos h3, hset]
   have V' := V.step hms (by omega) (hall.2 h3)
   have ih := turnF_iff ss (stepV view s) V' (fun x hx => hm x (by simp [hx]))
   have hiff : okS (stepV view s) ss ↔ okS view (s :: ss) := by
    constructor
    ·rintro ⟨a, b⟩
     have hpos : ∀ x ∈ s :: ss, 0 ≤ x.f2 ∧ sspot x ∈ view.map spot := fun x hx => by
      rcases List.mem_cons.1 hx with rfl | hx
      ·exact ⟨by omega, hin⟩
      ·have := a x hx; rw [stepV_spots] at this; exact this
     refine ⟨hpos, fun f hf => ?_⟩
     have hb := stepV_mem.1 b f hf
     rw [atS_cons]
     by_cases he : spot f = sspot s
     ·rw [if_pos he, atS_moreF] at hb
      rw [if_pos he.symm]
      exact (okF_cons (V.free f hf) (V.right.1 f hf) hms (by omega) (fun x hx => (hpos x (by simp [(List.mem_filter.1 hx).1])).1)).2 ⟨hall.2 h3 f hf he, hb⟩
     ·rw [if_neg he] at hb
      rw [if_neg (fun x => he x.symm)]
      exact hb
    ·rintro ⟨a, b⟩
     refine ⟨fun x hx => by rw [stepV_spots]; exact a x (by simp [hx]), stepV_mem.2 fun f hf => ?_⟩
     have hb := b f hf
     rw [atS_cons] at hb
     by_cases he : spot f = sspot s
     ·rw [if_pos he.symm] at hb
      rw [if_pos he, atS_moreF]
      exact ((okF_cons (V.free f hf) (V.right.1 f hf) hms (by omega) (fun x hx => (a x (by simp [(List.mem_filter.1 hx).1])).1)).1 hb).2
     ·rw [if_neg (fun x => he x.symm)] at hb
      rw [if_neg he]; exact hb
   exact ⟨ih.1.trans hiff, fun h => by rw [ih.2 h, viewS_step]⟩
  ·rw [if_neg h3]
   refine ⟨⟨fun h => absurd h h3, fun h => ?_⟩, fun h => absurd h h3⟩
   have hb := h.fit _ (List.getElem_mem hpl)
   rw [atS_cons, if_pos hps.symm] at hb
   exact absurd ((okF_cons hfp hcp hms (by omega) (fun x hx => (h.pos x (by simp [(List.mem_filter.1 hx).1])).1)).1 hb).1 h3
theorem perm_sum {l l' : List Int} (h : l.Perm l') : l.sum = l'.sum := by
 induction h with
 | nil => rfl
 | cons x _ ih => rw [List.sum_cons, List.sum_cons, ih]
 | swap x y l => rw [List.sum_cons, List.sum_cons, List.sum_cons, List.sum_cons]; omega
 | trans _ _ h1 h2 => exact h1.trans h2
theorem sub_sum {l l' : List S52} (h : l'.Sublist l) : (∀ s ∈ l, 0 ≤ s.f2) → (l'.map fun s => s.f2).sum ≤ (l.map fun s => s.f2).sum := by
 induction h with
 | slnil => intro _; simp
 | cons x _ ih =>
  intro h0
  have h1 := ih (fun s hs => h0 s (by simp [hs]))
  have h2 := h0 x (by simp)
  rw [List.map_cons, List.sum_cons]; omega
 | cons_cons x _ ih =>
  intro h0
  have h1 := ih (fun s hs => h0 s (by simp [hs]))
  rw [List.map_cons, List.sum_cons, List.map_cons, List.sum_cons]; omega
theorem okF_perm {f : S51} {l l' : List S52} (h : l.Perm l') : okF f l → okF f l' := fun ⟨a, b, c⟩ =>
 ⟨fun s hs => a s (h.mem_iff.2 hs), (h.pairwise_iff (fun {x y} hxy => disj_comm hxy)).1 b, by rw [← perm_sum (h.map fun s => s.f2)]; exact c⟩
theorem okF_sub {f : S51} {l l' : List S52} (h : l'.Sublist l) (h0 : ∀ s ∈ l, 0 ≤ s.f2) : okF f l → okF f l' := fun ⟨a, b, c⟩ => by
 refine ⟨fun s hs => a s (h.subset hs), b.sublist h, ?_⟩
 have := sub_sum h h0
 omega
theorem okS_perm {view : List S51} {l l' : List S52} (h : l.Perm l') : okS view l → okS view l' := fun ⟨a, b⟩ =>
 ⟨fun s hs => a s (h.mem_iff.2 hs), fun f hf => okF_perm (h.filter _) (b f hf)⟩
theorem okS_sub {view : List S51} {l l' : List S52} (h : l'.Sublist l) : okS view l → okS view l' := fun ⟨a, b⟩ =>
 ⟨fun s hs => a s (h.subset hs), fun f hf => okF_sub (h.filter _) (fun s hs => (a s (List.mem_filter.1 hs).1).1) (b f hf)⟩
theorem viewS_perm {view : List S51} {l l' : List S52} (h : l.Perm l') : viewS view l = viewS view l' := by
 unfold viewS
 apply List.map_congr_left
 intro f _
 exact (h.filter _).foldl_eq' (fun x _ y _ z => moreF_comm z x y) _
theorem turnF_append {E : S51 → S52 → Int} {F : S51 → S52 → S51} : ∀ (a b : List S52) (view : List S51), (turnF E F view a).2 = 0 → turnF E F view (a ++ b) = turnF E F (turnF E F view a).1 b
 | [], b, view, _ => rfl
 | s :: ss, b, view, h => by
  rw [turnF] at h
  rw [List.cons_append, turnF, turnF]
  by_cases h1 : s.f2 < 0
  ·rw [if_pos h1] at h; cases h
  rw [if_neg h1] at h
  rw [if_neg h1, if_neg h1]
  by_cases h2 : findI view s.f0.f0 s.f0.f1 < 0
  ·rw [if_pos h2] at h; cases h
  rw [if_neg h2] at h
  rw [if_neg h2, if_neg h2]
  by_cases h3 : E (rd_T51 view (findI view s.f0.f0 s.f0.f1)) s = 0
  ·rw [if_pos h3] at h
   rw [if_pos h3, if_pos h3]
   exact turnF_append ss b _ h
  ·rw [if_neg h3] at h; exact absurd h h3
end Go.Proofs.Ytckhjehibjdjdaa.P
namespace Go.Proofs.Ytckhjehibjdjdaa.P
open Go.RowKit Go.Proofs.YtckhjehibjdjdaaW.PrintWords Go.Proofs.YtckhjehibjdjdaaW.PrintLast Go.Proofs.YtckhjehibjdjdaaW.PrintMore
open Go.Proofs.Ytckhjehibjdjdaa.Bits Go.Proofs.Ytckhjehibjdjdaa.Mp
set_option linter.unusedVariables false
set_option linter.unusedSimpArgs false
def popS (l : List S52) : Int := (l.map fun s => popI s.f1).sum
def cpS (l : List S52) : Int := (l.map fun s => s.f2).sum
def I64P (a : Int × Int) : Prop := (-9223372036854775808 ≤ a.1 ∧ a.1 ≤ 9223372036854775807) ∧ -9223372036854775808 ≤ a.2 ∧ a.2 ≤ 9223372036854775807
theorem wrap_bd (x : Int) : -9223372036854775808 ≤ wrap64 x ∧ wrap64 x ≤ 9223372036854775807 := by unfold wrap64; omega
theorem wrap_add (a b : Int) : wrap64 (wrap64 a + b) = wrap64 (a + b) := by unfold wrap64; omega
theorem wrap_add' (a b : Int) : wrap64 (a + wrap64 b) = wrap64 (a + b) := by unfold wrap64; omega
theorem addL_true : ∀ (l : List S52) (a : Int × Int), I64P a → addL true a l = (wrap64 (a.1 + popS l), wrap64 (a.2 + cpS l))
 | [], a, h => by
  unfold I64P at h
  have e1 : wrap64 (a.1 + popS []) = a.1 := by rw [show popS [] = 0 from rfl, Int.add_zero]; exact w_id (by omega)
  have e2 : wrap64 (a.2 + cpS []) = a.2 := by rw [show cpS [] = 0 from rfl, Int.add_zero]; exact w_id (by omega)
  rw [e1, e2]; rfl
 | s :: l, a, h => by
  have e : addL true a (s :: l) = addL true (addU true a s) l := rfl
  have e2 : addU true a s = (wrap64 (a.1 + popI s.f1), wrap64 (a.2 + s.f2)) := if_pos rfl
  rw [e, e2, addL_true l _ ⟨wrap_bd _, wrap_bd _⟩]
  simp only
  rw [wrap_add, wrap_add]
  simp only [popS, cpS, List.map_cons, List.sum_cons]
  rw [Int.add_assoc, Int.add_assoc]
theorem addL_false (l : List S52) : ∀ a : Int × Int, addL false a l = a := by
 induction l with
 | nil => intro a; rfl
 | cons s l ih => intro a; exact ih a
theorem addL_left (l : List S52) (a : Int × Int) (h : I64P a) : addL true a l = (wrap64 (a.1 + (addL true (0, 0) l).1), wrap64 (a.2 + (addL true (0, 0) l).2)) := by
 rw [addL_true l a h, addL_true l (0, 0) ⟨by simp, by simp⟩]
 simp only
 rw [wrap_add', wrap_add', Int.zero_add, Int.zero_add]
def qPop (q : Int) (L : List S41) : Int := ((L.filter fun h => decide (h.f1 = q)).map fun h => popS h.f4).sum
def qCp (q : Int) (L : List S41) : Int := ((L.filter fun h => decide (h.f1 = q)).map fun h => cpS h.f4).sum
theorem leftQ_eq (q : Int) : ∀ (L : List S41) (a : Int × Int), I64P a → leftQ q a L = (wrap64 (a.1 + qPop q L), wrap64 (a.2 + qCp q L))
 | [], a, h => by
  unfold I64P at h
  have e1 : wrap64 (a.1 + qPop q []) = a.1 := by rw [show qPop q [] = 0 from rfl, Int.add_zero]; exact w_id (by omega)
  have e2 : wrap64 (a.2 + qCp q []) = a.2 := by rw [show qCp q [] = 0 from rfl, Int.add_zero]; exact w_id (by omega)
  rw [e1, e2]; rfl
 | x :: L, a, h => by
  rw [leftQ]
  by_cases hq : x.f1 = q
  ·rw [if_pos hq, ← addL_left x.f4 a h, addL_true x.f4 a h, leftQ_eq q L _ ⟨wrap_bd _, wrap_bd _⟩]
   simp only
   rw [wrap_add, wrap_add]
   unfold qPop qCp
   rw [List.filter_cons_of_pos (by simpa using hq), List.map_cons, List.map_cons, List.sum_cons, List.sum_cons, Int.add_assoc, Int.add_assoc]
  ·rw [if_neg hq, leftQ_eq q L a h]
   unfold qPop qCp
   rw [List.filter_cons_of_neg (by simpa using hq)]
theorem leftQ_perm {q : Int} {L L' : List S41} (h : L.Perm L') (a : Int × Int) (ha : I64P a) : leftQ q a L = leftQ q a L' := by
 rw [leftQ_eq q L a ha, leftQ_eq q L' a ha]
 unfold qPop qCp
 rw [perm_sum ((h.filter _).map _), perm_sum ((h.filter _).map fun h => cpS h.f4)]
theorem leftQ_snoc (q : Int) : ∀ (L : List S41) (x : S41) (a : Int × Int), I64P a → leftQ q a (L ++ [x]) = addL (decide (x.f1 = q)) (leftQ q a L) x.f4
 | [], x, a, h => by
  rw [List.nil_append, leftQ, leftQ, leftQ]
  by_cases hq : x.f1 = q
  ·rw [if_pos hq, decide_eq_true hq, addL_left x.f4 a h]
  ·rw [if_neg hq, decide_eq_false hq, addL_false]
 | y :: L, x, a, h => by
  rw [List.cons_append, leftQ, leftQ]
  refine leftQ_snoc q L x _ ?_
  split
  ·exact ⟨wrap_bd _, wrap_bd _⟩
  ·exact h
def IsBest (A : Int → Bool) (t : Int) (L : List S41) (b : Int) : Prop :=
 (b = 1073741825 ∨ ∃ h ∈ L, h.f2 = b ∧ t < b ∧ b < 1073741825 ∧ A b = true) ∧ b ≤ 1073741825 ∧ ∀ h ∈ L, t < h.f2 → h.f2 < 1073741825 → A h.f2 = true → b ≤ h.f2
def IsE (A : Int → Bool) (t : Int) (L : List S41) (b : Int) : Prop := (A t = true ∧ b = t) ∨ (A t = false ∧ IsBest A t L b)
theorem bestF_spec (A : Int → Bool) (now : Int) : ∀ (l : List S41) (b : Int), (bestF A now b l = b ∨ ∃ h ∈ l, h.f2 = bestF A now b l ∧ now < bestF A now b l ∧ bestF A now b l < b ∧ A (bestF A now b l) = true) ∧ bestF A now b l ≤ b ∧ ∀ h ∈ l, now < h.f2 → h.f2 < b → A h.f2 = true → bestF A now b l ≤ h.f2
 | [], b => ⟨.inl rfl, Int.le_refl _, by simp⟩
 | x :: l, b => by
  rw [bestF]
  by_cases h : x.f2 > now ∧ x.f2 < b ∧ A x.f2 = true
  ·rw [if_pos h]
   obtain ⟨i1, i2, i3⟩ := bestF_spec A now l x.f2
   refine ⟨.inr ?_, by omega, fun y hy h1 h2 h3 => ?_⟩
   ·rcases i1 with i1 | ⟨y, hy, i4, i5, i6, i7⟩
    ·exact ⟨x, by simp, i1.symm, by omega, by omega, by rw [i1]; exact h.2.2⟩
    ·exact ⟨y, by simp [hy], i4, i5, by omega, i7⟩
   ·rcases List.mem_cons.1 hy with rfl | hy
    ·exact i2
    ·by_cases hlt : y.f2 < x.f2
     ·exact i3 y hy h1 hlt h3
     ·omega
  ·rw [if_neg h]
   obtain ⟨i1, i2, i3⟩ := bestF_spec A now l b
   refine ⟨?_, i2, fun y hy h1 h2 h3 => ?_⟩
   ·rcases i1 with i1 | ⟨y, hy, i4⟩
    ·exact .inl i1
    ·exact .inr ⟨y, by simp [hy], i4⟩
   ·rcases List.mem_cons.1 hy with rfl | hy
    ·exact absurd ⟨h1, h2, h3⟩ h
    ·exact i3 y hy h1 h2 h3
theorem bestF_best (A : Int → Bool) (now : Int) (l : List S41) : IsBest A now l (bestF A now 1073741825 l) := bestF_spec A now l 1073741825
theorem IsBest.uniq {A : Int → Bool} {t : Int} {L L' : List S41} {b b' : Int} (h : IsBest A t L b) (h' : IsBest A t L' b') (hm : ∀ x, x ∈ L ↔ x ∈ L') : b = b' := by
 obtain ⟨h1, h2, h3⟩ := h
 obtain ⟨k1, k2, k3⟩ := h'
 have a : b ≤ b' := by
  rcases k1 with rfl | ⟨x, hx, rfl, k4, k5, k6⟩
  ·exact h2
  ·exact h3 x ((hm x).2 hx) k4 k5 k6
 have a' : b' ≤ b := by
  rcases h1 with rfl | ⟨x, hx, rfl, k4, k5, k6⟩
  ·exact k2
  ·exact k3 x ((hm x).1 hx) k4 k5 k6
 omega
theorem IsE.uniq {A : Int → Bool} {t : Int} {L L' : List S41} {b b' : Int} (h : IsE A t L b) (h' : IsE A t L' b') (hm : ∀ x, x ∈ L ↔ x ∈ L') : b = b' := by
 rcases h with ⟨h1, h2⟩ | ⟨h1, h2⟩ <;> rcases h' with ⟨k1, k2⟩ | ⟨k1, k2⟩
 ·omega
 ·rw [h1] at k1; cases k1
 ·rw [h1] at k1; cases k1
 ·exact h2.uniq k2 hm
theorem slotsOf_perm {a b : List S41} (h : a.Perm b) : (slotsOf a).Perm (slotsOf b) := by
 induction h with
 | nil => exact List.Perm.refl _
 | cons x _ ih => rw [slotsOf_cons, slotsOf_cons]; exact ih.append_left _
 | swap x y l =>
  rw [slotsOf_cons, slotsOf_cons, slotsOf_cons, slotsOf_cons, ← List.append_assoc, ← List.append_assoc]
  exact List.perm_append_comm.append_right _
 | trans _ _ h1 h2 => exact h1.trans h2
structure Fine (view : List S51) (lg lc : Int) (ends : List S41) : Prop where
 V : View view
 I : Inp view ends
 L : I64P (lg, lc)
 ok : okS view (slotsOf ends)
theorem Fine.turn {view : List S51} {lg lc : Int} {ends : List S41} (F : Fine view lg lc ends) {l l' : List S52} (hp : l'.Perm (slotsOf ends)) (hs : l.Sublist l') :
  (turnF moreE moreF view l).2 = 0 ∧ (turnF moreE moreF view l).1 = viewS view l := by
 have hm : ∀ s ∈ l, maskOk s = true := fun s h => F.I.sm s (hp.mem_iff.1 (hs.subset h))
 have h := turnF_iff l view F.V hm
 have h0 := h.1.2 (okS_sub hs (okS_perm hp.symm F.ok))
 exact ⟨h0, h.2 h0⟩
theorem ended_append (T : Int) (a b : List S41) : ended T (a ++ b) = ended T a ++ ended T b := List.filter_append ..
theorem ended_all {T : Int} {l : List S41} (h : ∀ x ∈ l, x.f2 ≤ T) : ended T l = l := List.filter_eq_self.2 fun x hx => by simpa using h x hx
theorem ended_none {T : Int} {l : List S41} (h : ∀ x ∈ l, T < x.f2) : ended T l = [] := List.filter_eq_nil_iff.2 fun x hx => by have := h x hx; simp; omega
theorem fits_pre {view : List S51} {lg lc : Int} {ends : List S41} (F : Fine view lg lc ends) (q m g c mn mx T : Int) {S pre l : List S41} (hS : S.Perm ends) (he : S = pre ++ l) (h1 : ∀ x ∈ pre, x.f2 ≤ T) (h2 : ∀ x ∈ l, T < x.f2) :
  fitsB (turnF moreE moreF view (slotsOf pre)).1 (leftQ q (lg, lc) pre).1 (leftQ q (lg, lc) pre).2 m g c mn mx = atB view lg lc ends q m g c mn mx T := by
 have hp : pre.Perm (ended T ends) := by
  have h := hS.filter (fun h => decide (h.f2 ≤ T))
  have e : S.filter (fun h => decide (h.f2 ≤ T)) = pre := by
   show ended T S = pre
   rw [he, ended_append, ended_all h1, ended_none h2, List.append_nil]
  rw [e] at h
  exact h
 have t1 := F.turn (l := slotsOf pre) (slotsOf_perm hS) (by rw [he, slotsOf_append]; exact List.sublist_append_left _ _)
 have t2 := F.turn (l := slotsOf (ended T ends)) (List.Perm.refl _) (sub_slots List.filter_sublist)
 unfold atB
 rw [t1.2, t2.2, viewS_perm (slotsOf_perm hp), leftQ_perm hp (lg, lc) F.L]
theorem goE_is {view : List S51} {lg lc : Int} {ends : List S41} (F : Fine view lg lc ends) (q m g c mn mx : Int) {S : List S41} (hS : S.Perm ends) (hsort : S.Pairwise fun a b => a.f2 ≤ b.f2) :
  ∀ (l pre : List S41) (t : Int), S = pre ++ l → (∀ x ∈ pre, x.f2 ≤ t) → IsE (atB view lg lc ends q m g c mn mx) t S (goE q m g c mn mx l t (turnF moreE moreF view (slotsOf pre)).1 (leftQ q (lg, lc) pre))
 | [], pre, t, he, h1 => by
  have hf := fits_pre F q m g c mn mx t hS he h1 (by simp)
  rw [goE, hf]
  cases hA : atB view lg lc ends q m g c mn mx t with
  | true => exact .inl ⟨hA, if_pos rfl⟩
  | false =>
   refine .inr ⟨hA, ?_⟩
   rw [if_neg (by decide)]
   refine ⟨.inl rfl, Int.le_refl _, fun h hh h2 => ?_⟩
   rw [he, List.append_nil] at hh
   have := h1 h hh
   omega
 | x :: l, pre, t, he, h1 => by
  have hx : ∀ y ∈ l, x.f2 ≤ y.f2 := by
   rw [he] at hsort
   exact (List.pairwise_cons.1 (List.pairwise_append.1 hsort).2.1).1
  have he' : S = (pre ++ [x]) ++ l := by rw [he]; simp
  have t1 := F.turn (l := slotsOf pre) (slotsOf_perm hS) (by rw [he, slotsOf_append]; exact List.sublist_append_left _ _)
  have hsp : ((turnF moreE moreF view (slotsOf pre)).1.map spot).Nodup := by
   rw [t1.2]
   have : (viewS view (slotsOf pre)).map spot = view.map spot := by
    unfold viewS
    rw [List.map_map]
    apply List.map_congr_left
    intro f _
    simp only [Function.comp_apply]
    generalize atS f (slotsOf pre) = sl
    have : ∀ (sl : List S52) (f : S51), spot (sl.foldl moreF f) = spot f := fun sl => by
     induction sl with
     | nil => intro f; rfl
     | cons s sl ih => intro f; rw [List.foldl_cons, ih]; rfl
    exact this sl f
   rw [this]; exact F.V.right.2
  have hv : (turned51 moreE moreF (turnF moreE moreF view (slotsOf pre)).1 x.f4).1 = (turnF moreE moreF view (slotsOf (pre ++ [x]))).1 := by
   rw [turned51_find (F := moreF) (fun _ _ => rfl) hsp, slotsOf_append, show slotsOf [x] = x.f4 by simp [slotsOf], turnF_append _ _ _ t1.1]
  have hl := leftQ_snoc q pre x (lg, lc) F.L
  have IH := goE_is F q m g c mn mx hS hsort l (pre ++ [x])
  rw [goE, hv, ← hl]
  by_cases h2 : x.f2 > t
  ·have hgt : ∀ y ∈ x :: l, t < y.f2 := fun y hy => by
    rcases List.mem_cons.1 hy with rfl | hy
    ·exact h2
    ·have := hx y hy; omega
   have hf := fits_pre F q m g c mn mx t hS he h1 hgt
   rw [if_pos h2, hf]
   cases hA : atB view lg lc ends q m g c mn mx t with
   | true => exact .inl ⟨hA, if_pos rfl⟩
   | false =>
    rw [if_neg (by decide)]
    refine .inr ⟨hA, ?_⟩
    by_cases h3 : x.f2 ≥ 1073741825
    ·rw [if_pos h3]
     refine ⟨.inl rfl, Int.le_refl _, fun y hy h4 h5 => ?_⟩
     rw [he] at hy
     rcases List.mem_append.1 hy with hy | hy
     ·have := h1 y hy; omega
     ·rcases List.mem_cons.1 hy with rfl | hy
      ·omega
      ·have := hx y hy; omega
    ·rw [if_neg h3]
     have i := IH x.f2 he' (fun y hy => by
      rcases List.mem_append.1 hy with hy | hy
      ·have := h1 y hy; omega
      ·rw [List.mem_singleton.1 hy]; exact Int.le_refl _)
     generalize goE q m g c mn mx l x.f2 (turnF moreE moreF view (slotsOf (pre ++ [x]))).1 (leftQ q (lg, lc) (pre ++ [x])) = r at *
     have hxS : x ∈ S := by rw [he]; simp
     have hmem : ∀ y ∈ S, t < y.f2 → x.f2 ≤ y.f2 := fun y hy h => by
      rw [he] at hy
      rcases List.mem_append.1 hy with hy | hy
      ·have := h1 y hy; omega
      ·rcases List.mem_cons.1 hy with rfl | hy
       ·exact Int.le_refl _
       ·exact hx y hy
     rcases i with ⟨i1, rfl⟩ | ⟨i1, i2, i3, i4⟩
     ·exact ⟨.inr ⟨x, hxS, rfl, h2, by omega, i1⟩, by omega, fun y hy h _ _ => hmem y hy h⟩
     ·refine ⟨?_, i3, fun y hy h4 h5 h6 => ?_⟩
      ·rcases i2 with i2 | ⟨y, hy, j1, j2, j3, j4⟩
       ·exact .inl i2
       ·exact .inr ⟨y, hy, j1, by omega, j3, j4⟩
      ·have h7 := hmem y hy h4
       by_cases h8 : x.f2 = y.f2
       ·rw [← h8, i1] at h6; cases h6
       ·exact i4 y hy (by omega) h5 h6
  ·rw [if_neg h2]
   exact IH t he' (fun y hy => by
    rcases List.mem_append.1 hy with hy | hy
    ·exact h1 y hy
    ·rw [List.mem_singleton.1 hy]; omega)
theorem goE_early {view : List S51} {lg lc : Int} {ends : List S41} (F : Fine view lg lc ends) (q m g c mn mx now : Int) :
  IsE (atB view lg lc ends q m g c mn mx) now ends (goE q m g c mn mx (isort skey41 ends) now view (lg, lc)) := by
 have hp := isort_perm skey41 ends
 have h := goE_is F q m g c mn mx hp (isort_sorted skey41 ends) (isort skey41 ends) [] now rfl (by simp)
 have e : (turnF moreE moreF view (slotsOf [])).1 = view := rfl
 have e2 : leftQ q (lg, lc) [] = (lg, lc) := rfl
 rw [e, e2] at h
 rcases h with h | ⟨h1, h2, h3, h4⟩
 ·exact .inl h
 ·refine .inr ⟨h1, ?_, h3, fun y hy => h4 y (hp.mem_iff.2 hy)⟩
  rcases h2 with h2 | ⟨y, hy, h5⟩
  ·exact .inl h2
  ·exact .inr ⟨y, hp.mem_iff.1 hy, h5⟩
theorem refEarly_is {view : List S51} {lg lc : Int} {ends : List S41} (q m g c mn mx now : Int) (h0 : ¬ (now < 0 ∨ now > 1073741824 ∨ rightB m g c mn mx = false)) (hok : (turnF moreE moreF view (slotsOf ends)).2 = 0) :
  ∃ b, refEarly now view lg lc ends q m g c mn mx = (b, 0) ∧ IsE (atB view lg lc ends q m g c mn mx) now ends b := by
 unfold refEarly
 rw [if_neg h0, if_neg (fun x => x hok)]
 cases hA : atB view lg lc ends q m g c mn mx now with
 | true => exact ⟨now, by simp, .inl ⟨hA, rfl⟩⟩
 | false => exact ⟨bestF (atB view lg lc ends q m g c mn mx) now 1073741825 ends, by simp, .inr ⟨hA, bestF_best _ _ _⟩⟩
theorem early_ref {view : List S51} {lg lc : Int} {ends : List S41} (V : View view) (I : Inp view ends) (L : I64P (lg, lc)) (now q m g c mn mx : Int) :
  earliestB now view lg lc ends q m g c mn mx = refEarly now view lg lc ends q m g c mn mx := by
 have ht : turned51 moreE moreF view (slotsOf ends) = turnF moreE moreF view (slotsOf ends) := turned51_find (F := moreF) (fun _ _ => rfl) V.right.2 _
 by_cases h0 : now < 0 ∨ now > 1073741824 ∨ rightB m g c mn mx = false
 ·unfold earliestB refEarly
  rw [if_pos h0, if_pos h0]
 by_cases h1 : (turnF moreE moreF view (slotsOf ends)).2 = 0
 ·have F : Fine view lg lc ends := ⟨V, I, L, ((turnF_iff _ view V I.sm).1).1 h1⟩
  obtain ⟨b, hb, hE⟩ := refEarly_is (lg := lg) (lc := lc) q m g c mn mx now h0 h1
  rw [hb]
  unfold earliestB
  rw [if_neg h0, show (ends.flatMap fun h => h.f4) = slotsOf ends from rfl, ht, if_neg (fun x => x h1)]
  rw [(goE_early F q m g c mn mx now).uniq hE (fun _ => Iff.rfl)]
 ·unfold earliestB refEarly
  rw [if_neg h0, if_neg h0, show (ends.flatMap fun h => h.f4) = slotsOf ends from rfl, ht, if_pos h1, if_pos h1]
end Go.Proofs.Ytckhjehibjdjdaa.P
namespace Go.Proofs.Ytckhjehibjdjdaa.P
open Go.RowKit Go.Shelf Go.Proofs.YtckhjehibjdjdaaW.PrintWords Go.Proofs.YtckhjehibjdjdaaW.PrintLast Go.Proofs.YtckhjehibjdjdaaW.PrintMore
attribute [local go_sem] Oper.semAt_some
set_option linter.unusedVariables false
set_option linter.unusedSimpArgs false
end Go.Proofs.Ytckhjehibjdjdaa.P
namespace Go.Proofs.Ytckhjehibjdjdaa.P
open Go.RowKit Go.Shelf Go.Proofs.YtckhjehibjdjdaaW.PrintWords Go.Proofs.YtckhjehibjdjdaaW.PrintLast Go.Proofs.YtckhjehibjdjdaaW.PrintMore
attribute [local go_sem] Oper.semAt_some
set_option linter.unusedVariables false
set_option linter.unusedSimpArgs false
end Go.Proofs.Ytckhjehibjdjdaa.P
namespace Go.Proofs.Ytckhjehibjdjdaa.P
open Go.RowKit Go.Shelf Go.Proofs.YtckhjehibjdjdaaW.PrintWords Go.Proofs.YtckhjehibjdjdaaW.PrintLast Go.Proofs.YtckhjehibjdjdaaW.PrintMore
attribute [local go_sem] Oper.semAt_some
set_option linter.unusedVariables false
set_option linter.unusedSimpArgs false
end Go.Proofs.Ytckhjehibjdjdaa.P
namespace Go.Proofs.Ytckhjehibjdjdaa.P
open Go.RowKit Go.Shelf Go.Proofs.YtckhjehibjdjdaaW.PrintWords Go.Proofs.YtckhjehibjdjdaaW.PrintLast Go.Proofs.YtckhjehibjdjdaaW.PrintMore
attribute [local go_sem] Oper.semAt_some
set_option linter.unusedVariables false
set_option linter.unusedSimpArgs false
end Go.Proofs.Ytckhjehibjdjdaa.P
namespace Go.Proofs.Ytckhjehibjdjdaa.P
open Go.RowKit Go.Shelf Go.Proofs.YtckhjehibjdjdaaW.PrintWords Go.Proofs.YtckhjehibjdjdaaW.PrintLast Go.Proofs.YtckhjehibjdjdaaW.PrintMore
attribute [local go_sem] Oper.semAt_some
set_option linter.unusedVariables false
set_option linter.unusedSimpArgs false
theorem KP.trans {w W W' : World} {S : Nat → Prop} (h : KP w W S) (h' : KP W W' S) : KP w W' S :=
 ⟨⟨Nat.le_trans h.kept.1 h'.kept.1, fun i hi hs => (h'.kept.2 i (Nat.lt_of_lt_of_le hi h.kept.1) hs).trans (h.kept.2 i hi hs)⟩, h'.os.trans h.os, h'.tape.trans h.tape, h'.output.trans h.output⟩
end Go.Proofs.Ytckhjehibjdjdaa.P
namespace Go.Proofs.Ytckhjehibjdjdaa.P
open Go.RowKit Go.Proofs.YtckhjehibjdjdaaW.PrintWords Go.Proofs.YtckhjehibjdjdaaW.PrintLast Go.Proofs.YtckhjehibjdjdaaW.PrintMore
attribute [local go_sem] max2_int min2_int max_two min_two max_three min_three max_four min_four
set_option linter.unusedVariables false
set_option linter.unusedSimpArgs false
end Go.Proofs.Ytckhjehibjdjdaa.P
namespace Go.Proofs.Ytckhjehibjdjdaa.P
open Go.RowKit Go.Proofs.YtckhjehibjdjdaaW.PrintWords Go.Proofs.YtckhjehibjdjdaaW.PrintLast Go.Proofs.YtckhjehibjdjdaaW.PrintMore
open Go.Proofs.Ytckhjehibjdjdaa.Bits Go.Proofs.Ytckhjehibjdjdaa.Mp
set_option linter.unusedVariables false
set_option linter.unusedSimpArgs false
theorem free_of_wf {f : S51} (h : wfd51 f) : freeOk f = true ∧ (w64B f.f0.f0 && w64B f.f0.f1) = true := by
 unfold wfd51 wfd48 I64 U64 at h
 constructor
 ·unfold freeOk w64B
  rw [decide_eq_true (by omega), decide_eq_true (by omega), decide_eq_true (by omega), decide_eq_true (by omega)]; rfl
 ·unfold w64B
  rw [decide_eq_true (by omega), decide_eq_true (by omega), decide_eq_true (by omega), decide_eq_true (by omega)]; rfl
theorem slots_len {n : Nat} : ∀ {ends : List S41}, (∀ h ∈ ends, h.f4.length ≤ n) → (slotsOf ends).length ≤ n * ends.length
 | [], _ => by simp [slotsOf]
 | x :: l, h => by
  have h1 := h x (by simp)
  have h2 := slots_len (ends := l) (fun y hy => h y (by simp [hy]))
  rw [slotsOf_cons, List.length_append, List.length_cons, Nat.mul_succ]
  omega
structure Setup (view : List S51) (lg lc : Int) (ends : List S41) : Prop where
 V : View view
 I : Inp view ends
 L : I64P (lg, lc)
 vo : viewOk view
 so : ∀ s ∈ slotsOf ends, (w64B s.f0.f0 && w64B s.f0.f1) = true
 el : ends.length ≤ 20
 vl : view.length ≤ 70
 hl : ∀ h ∈ ends, h.f4.length ≤ 20
 lb : (-1048576 ≤ lg ∧ lg ≤ 1048576) ∧ -1048576 ≤ lc ∧ lc ≤ 1048576
theorem okE_mk {view : List S51} {ends : List S41} (hv : viewOk view) (hn : ends.length ≤ 1000) (hm : ∀ s ∈ slotsOf ends, maskOk s = true) (hs : ∀ s ∈ slotsOf ends, (w64B s.f0.f0 && w64B s.f0.f1) = true) (hl : (slotsOf ends).length < 4000000000) : okE view ends = true := by
 unfold okE spotsOk
 rw [show (ends.flatMap fun h => h.f4) = slotsOf ends from rfl, decide_eq_true hn, decide_eq_true hv.1, decide_eq_true hl, List.all_eq_true.2 hv.2.1, List.all_eq_true.2 hv.2.2, List.all_eq_true.2 hm, List.all_eq_true.2 hs]
 rfl
theorem Setup.early {view : List S51} {lg lc : Int} {ends : List S41} (S : Setup view lg lc ends) (now q m g c mn mx : Int) :
  promise_Earliest.f now view lg lc ends q m g c mn mx = some (refEarly now view lg lc ends q m g c mn mx) := by
 unfold promise_Earliest.f
 rw [if_pos (okE_mk S.vo (Nat.le_trans S.el (by decide)) S.I.sm S.so S.I.es), early_ref S.V S.I S.L]
end Go.Proofs.Ytckhjehibjdjdaa.P
namespace Go.Proofs.Ytckhjehibjdjdaa.P
open Go.RowKit Go.Proofs.YtckhjehibjdjdaaW.PrintWords Go.Proofs.YtckhjehibjdjdaaW.PrintLast Go.Proofs.YtckhjehibjdjdaaW.PrintMore
open Go.Proofs.Ytckhjehibjdjdaa.Bits Go.Proofs.Ytckhjehibjdjdaa.Mp
set_option linter.unusedVariables false
set_option linter.unusedSimpArgs false
theorem popS_cons (s : S52) (l : List S52) : popS (s :: l) = popI s.f1 + popS l := by simp [popS]
theorem cpS_cons (s : S52) (l : List S52) : cpS (s :: l) = s.f2 + cpS l := by simp [cpS]
theorem eachI_mono {a b n : Int} (h0 : 0 ≤ n) (h : a ≤ b) : eachI a n ≤ eachI b n := by
 unfold eachI
 split
 ·exact Int.le_refl _
 ·exact Int.ediv_le_ediv (by omega) h
def cpMax (l : List S52) : Prop := ∀ s ∈ l, 0 ≤ s.f2 ∧ s.f2 ≤ 1048576
theorem max_until : ∀ (l : List S41), l ≠ [] → ∃ x ∈ l, ∀ y ∈ l, y.f2 ≤ x.f2
 | [], h => absurd rfl h
 | [x], _ => ⟨x, by simp, by simp⟩
 | x :: y :: l, _ => by
  obtain ⟨z, hz, h⟩ := max_until (y :: l) (by simp)
  by_cases hxz : x.f2 ≤ z.f2
  ·exact ⟨z, by simp [List.mem_cons.1 hz], fun u hu => by
    rcases List.mem_cons.1 hu with rfl | hu
    ·exact hxz
    ·exact h u hu⟩
  ·exact ⟨x, by simp, fun u hu => by
    rcases List.mem_cons.1 hu with rfl | hu
    ·exact Int.le_refl _
    ·have := h u hu; omega⟩
theorem IsE.le {view : List S51} {lg lc : Int} {ends : List S41} {q m g c mn mx now T b : Int} (h : IsE (atB view lg lc ends q m g c mn mx) now ends b) (hT : now ≤ T) (hN : T < 1073741825) (hA : atB view lg lc ends q m g c mn mx T = true) : b ≤ T := by
 rcases h with ⟨_, rfl⟩ | ⟨h0, h1, h2, h3⟩
 ·exact hT
 by_cases hne : ended T ends = []
 ·have : ended now ends = [] := List.filter_eq_nil_iff.2 fun x hx => by
   have := List.filter_eq_nil_iff.1 hne x hx
   simp at this ⊢; omega
  unfold atB at hA h0
  rw [hne] at hA
  rw [this, hA] at h0
  cases h0
 ·obtain ⟨x, hx, hmax⟩ := max_until _ hne
  have hxm := List.mem_filter.1 hx
  have hxT : x.f2 ≤ T := by simpa using hxm.2
  have heq : ∀ U, x.f2 ≤ U → U ≤ T → ended U ends = ended T ends := fun U h4 h5 => by
   unfold ended
   apply List.filter_congr
   intro y hy
   rw [Bool.eq_iff_iff]
   simp only [decide_eq_true_eq]
   constructor
   ·omega
   ·intro h6
    have := hmax y (List.mem_filter.2 ⟨hy, by simpa using h6⟩)
    omega
  by_cases hxn : x.f2 ≤ now
  ·have := heq now hxn hT
   unfold atB at hA h0
   rw [this, hA] at h0
   cases h0
  ·have hAx : atB view lg lc ends q m g c mn mx x.f2 = true := by
    unfold atB at hA ⊢
    rw [heq x.f2 (Int.le_refl _) hxT]; exact hA
   have := h3 x hxm.1 (by omega) (by omega) hAx
   omega
theorem IsE.at {A : Int → Bool} {now b : Int} {L : List S41} (h : IsE A now L b) (hb : b < 1073741825) : A b = true := by
 rcases h with ⟨h1, rfl⟩ | ⟨_, h1, _⟩
 ·exact h1
 ·rcases h1 with rfl | ⟨_, _, _, _, _, h2⟩
  ·omega
  ·exact h2
end Go.Proofs.Ytckhjehibjdjdaa.P
namespace Go.Proofs.Ytckhjehibjdjdaa.P
open Go.RowKit Go.Shelf Go.Proofs.YtckhjehibjdjdaaW.PrintWords Go.Proofs.YtckhjehibjdjdaaW.PrintLast Go.Proofs.YtckhjehibjdjdaaW.PrintMore
attribute [local go_sem] Oper.semAt_some
set_option linter.unusedVariables false
set_option linter.unusedSimpArgs false
def api_Hold.f (l0 : List (S41)) : Option ((List (S41))) := if l0.length < 1000000 then some l0 else none
end Go.Proofs.Ytckhjehibjdjdaa.P
namespace Go.Proofs.Ytckhjehibjdjdaa.P
open Go.RowKit Go.Shelf Go.Proofs.YtckhjehibjdjdaaW.PrintWords Go.Proofs.YtckhjehibjdjdaaW.PrintLast Go.Proofs.YtckhjehibjdjdaaW.PrintMore
open Go.Proofs.Ytckhjehibjdjdaa.Bits
attribute [local go_sem] Oper.semAt_some
set_option linter.unusedVariables false
set_option linter.unusedSimpArgs false
def subU (a : Int × Int) (s : S52) : Int × Int := (wrap64 (a.1 - popI s.f1), wrap64 (a.2 - s.f2))
def subL (a : Int × Int) (l : List S52) : Int × Int := l.foldl subU a
def maskAll (l : List S52) : Bool := l.all maskOk && decide (l.length < 1000000000)
def fill_take.f (a0_0 : Int) (a0_1 : Int) (l1 : List (S52)) : Option (Int × Int) := if maskAll l1 = true then some (subL (a0_0, a0_1) l1) else none
end Go.Proofs.Ytckhjehibjdjdaa.P
namespace Go.Proofs.Ytckhjehibjdjdaa.P
open Go.RowKit Go.Proofs.YtckhjehibjdjdaaW.PrintWords Go.Proofs.YtckhjehibjdjdaaW.PrintLast Go.Proofs.YtckhjehibjdjdaaW.PrintMore
attribute [local go_sem] max2_int min2_int max_two min_two max_three min_three max_four min_four
set_option linter.unusedVariables false
set_option linter.unusedSimpArgs false
def fill_After.f (a0 : Int) (l1 : List (S51)) (a2_0 : Int) (a2_1 : Int) (l3 : List (S41)) (a4_0 : Int) (a4_1 : Int) (a4_2 : Int) (a4_3 : Int) (a4_4 : Int) (a4_5 : Int) (a5_0 : Int) (a5_1 : Int) (a5_2 : Int) (a5_3 : Bool) (l5_4 : List (S52)) : Option (Int × Int) := (pack_Less.f l1 l5_4).bind fun bt329 => (if bt329.2 = 0 then (if a5_1 = a4_0 then ((fill_take.f a2_0 a2_1 l5_4).bind fun bt333 => ((api_Hold.f l3).bind fun t335 => ((some (([(⟨a5_0, a5_1, a5_2, a5_3, l5_4⟩ : S41)] : List (S41)) : List (S41))).bind fun y338 => (if t335.length + y338.length < 2513169434916 then ((promise_Earliest.f a0 bt329.1 bt333.1 bt333.2 (t335 ++ y338) a4_0 a4_1 a4_2 a4_3 a4_4 a4_5).bind fun bt344 => (some (bt344.1, bt344.2))) else (none))))) else ((api_Hold.f l3).bind fun t346 => ((some (([(⟨a5_0, a5_1, a5_2, a5_3, l5_4⟩ : S41)] : List (S41)) : List (S41))).bind fun y349 => (if t346.length + y349.length < 2513169434916 then ((promise_Earliest.f a0 bt329.1 a2_0 a2_1 (t346 ++ y349) a4_0 a4_1 a4_2 a4_3 a4_4 a4_5).bind fun bt355 => (some (bt355.1, bt355.2))) else (none))))) else (some (0, bt329.2)))
end Go.Proofs.Ytckhjehibjdjdaa.P
namespace Go.Proofs.Ytckhjehibjdjdaa.P
open Go.RowKit Go.Proofs.YtckhjehibjdjdaaW.PrintWords Go.Proofs.YtckhjehibjdjdaaW.PrintLast Go.Proofs.YtckhjehibjdjdaaW.PrintMore
attribute [local go_sem] max2_int min2_int max_two min_two max_three min_three max_four min_four
set_option linter.unusedVariables false
set_option linter.unusedSimpArgs false
end Go.Proofs.Ytckhjehibjdjdaa.P
namespace Go.Proofs.Ytckhjehibjdjdaa.P
open Go.RowKit Go.Proofs.YtckhjehibjdjdaaW.PrintWords Go.Proofs.YtckhjehibjdjdaaW.PrintLast Go.Proofs.YtckhjehibjdjdaaW.PrintMore
attribute [local go_sem] max2_int min2_int max_two min_two max_three min_three max_four min_four
set_option linter.unusedVariables false
set_option linter.unusedSimpArgs false
def ensembleref13_After.T7 : Bool × List (List Nat × List Nat) := (true, [([], []), ([], []), ([], []), ([], []), ([], []), ([3, 4], [3, 4]), ([], []), ([6], [6]), ([5, 7, 5], [5, 7]), ([], []), ([0, 1, 2, 8, 9, 8], [0, 1, 2, 8, 9]), ([10], [10]), ([10], [10]), ([11, 10, 0, 1, 2, 3, 4, 5, 6, 7, 8, 9, 10, 11, 12], [11]), ([12, 13, 0, 1, 2, 3, 4, 5, 6, 7, 8, 9, 10, 11, 12, 13], [12])])
def ensembleref13_After.B7 : List Nat := [0, 0, 0, 0, 0, 24, 0, 64, 248, 0, 1023, 2047, 2047, 8191, 16383]
theorem ensembleref13_After.bits7 : waitsOk ensembleref13_After.T7.2 ensembleref13_After.B7 = true := by kernel_rfl
end Go.Proofs.Ytckhjehibjdjdaa.P
namespace Go.Proofs.Ytckhjehibjdjdaa.P
open Go.RowKit Go.Proofs.YtckhjehibjdjdaaW.PrintWords Go.Proofs.YtckhjehibjdjdaaW.PrintLast Go.Proofs.YtckhjehibjdjdaaW.PrintMore
attribute [local go_sem] max2_int min2_int max_two min_two max_three min_three max_four min_four
set_option linter.unusedVariables false
set_option linter.unusedSimpArgs false
end Go.Proofs.Ytckhjehibjdjdaa.P
namespace Go.Proofs.Ytckhjehibjdjdaa.P
open Go.RowKit Go.Proofs.YtckhjehibjdjdaaW.PrintWords Go.Proofs.YtckhjehibjdjdaaW.PrintLast Go.Proofs.YtckhjehibjdjdaaW.PrintMore
attribute [local go_sem] max2_int min2_int max_two min_two max_three min_three max_four min_four
set_option linter.unusedVariables false
set_option linter.unusedSimpArgs false
end Go.Proofs.Ytckhjehibjdjdaa.P
namespace Go.Proofs.Ytckhjehibjdjdaa.P
open Go.RowKit Go.Proofs.YtckhjehibjdjdaaW.PrintWords Go.Proofs.YtckhjehibjdjdaaW.PrintLast Go.Proofs.YtckhjehibjdjdaaW.PrintMore
attribute [local go_sem] max2_int min2_int max_two min_two max_three min_three max_four min_four
set_option linter.unusedVariables false
set_option linter.unusedSimpArgs false
end Go.Proofs.Ytckhjehibjdjdaa.P
namespace Go.Proofs.Ytckhjehibjdjdaa.P
open Go.RowKit Go.Proofs.YtckhjehibjdjdaaW.PrintWords Go.Proofs.YtckhjehibjdjdaaW.PrintLast Go.Proofs.YtckhjehibjdjdaaW.PrintMore
open Go.Proofs.Ytckhjehibjdjdaa.Bits Go.Proofs.Ytckhjehibjdjdaa.Mp
set_option linter.unusedVariables false
set_option linter.unusedSimpArgs false
theorem lessE_iff {f : S51} {s : S52} (hf : freeOk f = true) (hs : maskOk s = true) : lessE f s = 0 ↔ s.f1.toNat &&& f.f1.toNat = s.f1.toNat ∧ s.f2 ≤ f.f2 := by
 have h1 := freeOk_out hf
 have h2 := maskOk_out hs
 have hand : Go.bits .andNot .u64 s.f1 f.f1 = ((s.f1.toNat - (s.f1.toNat &&& f.f1.toNat) : Nat) : Int) := by
  have := andNot_nat s.f1.toNat f.f1.toNat (by omega) (by omega)
  rw [Int.toNat_of_nonneg h2.1, Int.toNat_of_nonneg h1.1.1] at this
  exact this
 have hle : s.f1.toNat &&& f.f1.toNat ≤ s.f1.toNat := Nat.and_le_left
 unfold lessE
 rw [hand]
 by_cases h3 : s.f1.toNat &&& f.f1.toNat = s.f1.toNat
 ·rw [if_neg (by omega)]
  by_cases h4 : s.f2 > f.f2
  ·rw [if_pos h4]; constructor
   ·intro x; cases x
   ·intro x; omega
  ·rw [if_neg h4]; exact ⟨fun _ => ⟨h3, by omega⟩, fun _ => rfl⟩
 ·rw [if_pos (by omega)]; constructor
  ·intro x; cases x
  ·intro x; exact absurd x.1 h3
theorem andNot_bv (a b : Int) : Go.bits .andNot .u64 a b = ((BitVec.ofInt 64 a &&& ~~~ BitVec.ofInt 64 b).toNat : Int) := by
 show IntKind.u64.wrap ((BitVec.ofInt 64 a &&& ~~~ BitVec.ofInt 64 b).toNat : Int) = _
 rw [wrapN, Nat.mod_eq_of_lt (BitVec.isLt _)]
theorem bv_of {a : Int} (h : 0 ≤ a ∧ a < 18446744073709551616) : ((BitVec.ofInt 64 a).toNat : Int) = a := by
 obtain ⟨x, rfl⟩ := Int.eq_ofNat_of_zero_le h.1
 rw [BitVec.ofInt_natCast, BitVec.toNat_ofNat, Nat.mod_eq_of_lt (by omega)]
theorem and_bv {a b : Int} (ha : 0 ≤ a ∧ a < 18446744073709551616) (hb : 0 ≤ b ∧ b < 18446744073709551616) : (BitVec.ofInt 64 a &&& BitVec.ofInt 64 b).toNat = a.toNat &&& b.toNat := by
 rw [BitVec.toNat_and]
 have h1 := bv_of ha
 have h2 := bv_of hb
 rw [show (BitVec.ofInt 64 a).toNat = a.toNat by omega, show (BitVec.ofInt 64 b).toNat = b.toNat by omega]
theorem back_one {f : S51} {s : S52} (hf : freeOk f = true) (hc : cpOk f) (hs : maskOk s = true) (h0 : 0 ≤ s.f2) (h : lessE f s = 0) :
  moreE (lessF f s) s = 0 ∧ moreF (lessF f s) s = f ∧ freeOk (lessF f s) = true ∧ cpOk (lessF f s) := by
 have h1 := freeOk_out hf
 have h2 := maskOk_out hs
 obtain ⟨h3, h4⟩ := (lessE_iff hf hs).1 h
 have hb := hc
 unfold cpOk at hb
 have e2 : (lessF f s).f2 = f.f2 - s.f2 := by unfold lessF; exact w_id (by omega)
 have hok := lessF_ok hf hs
 have hco : cpOk (lessF f s) := by unfold cpOk; omega
 have hsub : BitVec.ofInt 64 s.f1 &&& BitVec.ofInt 64 f.f1 = BitVec.ofInt 64 s.f1 := by
  apply BitVec.eq_of_toNat_eq
  rw [and_bv h2 h1.1, h3]
  have := bv_of h2
  omega
 have e1 : (lessF f s).f1 = Go.bits .andNot .u64 f.f1 s.f1 := rfl
 have hA := andNot_bv f.f1 s.f1
 generalize hF : BitVec.ofInt 64 f.f1 = F at *
 generalize hS : BitVec.ofInt 64 s.f1 = S at *
 have hL : BitVec.ofInt 64 (lessF f s).f1 = F &&& ~~~ S := by rw [e1, hA, ofInt_toNat]
 have hd : disj s.f1 (lessF f s).f1 := by
  unfold disj
  rw [← and_bv h2 (freeOk_out hok).1, hS, hL]
  have : S &&& (F &&& ~~~S) = 0#64 := by ext i; simp; intro h _; exact h
  rw [this]; rfl
 refine ⟨(moreE_iff hok hco hs h0).2 ⟨hd, by omega⟩, ?_, hok, hco⟩
 have hor : Go.bits .or .u64 (lessF f s).f1 s.f1 = f.f1 := by
  rw [bits_or_bv, hL, hS]
  have : F &&& ~~~S ||| S = F := by
   ext i hi
   have := congrArg (fun x => x[i]) hsub
   simp only [BitVec.getElem_and] at this
   simp only [BitVec.getElem_or, BitVec.getElem_and, BitVec.getElem_not]
   cases h5 : S[i] <;> cases h6 : F[i] <;> simp_all
  rw [this, ← hF]
  exact bv_of h1.1
 have h6 : wrap64 ((lessF f s).f2 + s.f2) = f.f2 := by rw [e2, w_id (by omega)]; omega
 show (⟨f.f0, Go.bits .or .u64 (lessF f s).f1 s.f1, wrap64 ((lessF f s).f2 + s.f2)⟩ : S51) = f
 rw [hor, h6]
theorem find_at {view : List S51} (hn : (view.map spot).Nodup) {s : S52} {p : Nat} (hp : p < view.length) (hs : spot view[p] = sspot s) : findI view s.f0.f0 s.f0.f1 = (p : Int) := by
 have hin : ¬ findI view s.f0.f0 s.f0.f1 < 0 := fun h => findI_neg.1 h (List.mem_map.2 ⟨view[p], List.getElem_mem hp, hs⟩)
 obtain ⟨q, hq⟩ := Int.eq_ofNat_of_zero_le (show 0 ≤ findI view s.f0.f0 s.f0.f1 by omega)
 obtain ⟨hql, hqs, _, _⟩ := set_step hn hq
 have hn' := List.pairwise_iff_getElem.1 hn
 rw [hq]
 rcases Nat.lt_trichotomy p q with h | h | h
 ·exact absurd (by rw [List.getElem_map, List.getElem_map, hs, hqs]) (hn' p q (by simpa using hp) (by simpa using hql) h)
 ·rw [h]
 ·exact absurd (by rw [List.getElem_map, List.getElem_map, hs, hqs]) (hn' q p (by simpa using hql) (by simpa using hp) h)
theorem turnF_one {E : S51 → S52 → Int} {F : S51 → S52 → S51} {view : List S51} (hn : (view.map spot).Nodup) {s : S52} {p : Nat} (hp : p < view.length) (hs : spot view[p] = sspot s) (h0 : 0 ≤ s.f2) (hE : E view[p] s = 0) :
  turnF E F view [s] = (view.set p (F view[p] s), 0) := by
 rw [turnF, if_neg (by omega), find_at hn hp hs, if_neg (by omega), rd51' view p hp, if_pos hE, Int.toNat_natCast, turnF]
theorem less_back : ∀ (slots : List S52) (view : List S51), View view → (∀ s ∈ slots, maskOk s = true) → (turnF lessE lessF view slots).2 = 0 →
  View (turnF lessE lessF view slots).1 ∧ (turnF lessE lessF view slots).1.map spot = view.map spot ∧ cpMax slots ∧ turnF moreE moreF (turnF lessE lessF view slots).1 slots.reverse = (view, 0)
 | [], view, V, _, _ => ⟨V, rfl, by simp [cpMax], rfl⟩
 | s :: ss, view, V, hm, h => by
  have hms := hm s (by simp)
  rw [turnF] at h ⊢
  by_cases h1 : s.f2 < 0
  ·rw [if_pos h1] at h; cases h
  rw [if_neg h1] at h ⊢
  by_cases h2 : findI view s.f0.f0 s.f0.f1 < 0
  ·rw [if_pos h2] at h; cases h
  rw [if_neg h2] at h ⊢
  obtain ⟨p, hp⟩ := Int.eq_ofNat_of_zero_le (show 0 ≤ findI view s.f0.f0 s.f0.f1 by omega)
  obtain ⟨hpl, hps, _, _⟩ := set_step V.right.2 hp
  rw [hp, Int.toNat_natCast, rd51' view p hpl] at h ⊢
  have hfp := V.free _ (List.getElem_mem hpl)
  have hcp := V.right.1 _ (List.getElem_mem hpl)
  by_cases h3 : lessE view[p] s = 0
  ·rw [if_pos h3] at h ⊢
   obtain ⟨b1, b2, b3, b4⟩ := back_one hfp hcp hms (by omega) h3
   have sp : (view.set p (lessF view[p] s)).map spot = view.map spot := spots_set (fun hk => rfl)
   have V' : View (view.set p (lessF view[p] s)) := ⟨⟨set_all V.right.1 b4, by rw [sp]; exact V.right.2⟩, set_all V.free b3⟩
   obtain ⟨i1, i2, i3, i4⟩ := less_back ss _ V' (fun x hx => hm x (by simp [hx])) h
   refine ⟨i1, i2.trans sp, fun x hx => ?_, ?_⟩
   ·rcases List.mem_cons.1 hx with rfl | hx
    ·have := ((lessE_iff hfp hms).1 h3).2
     unfold cpOk at hcp
     exact ⟨by omega, by omega⟩
    ·exact i3 x hx
   ·have hl : p < (view.set p (lessF view[p] s)).length := by rw [List.length_set]; exact hpl
    have eg : (view.set p (lessF view[p] s))[p] = lessF view[p] s := List.getElem_set_self _
    rw [List.reverse_cons, turnF_append _ _ _ (by rw [i4]), i4]
    simp only
    rw [turnF_one V'.right.2 hl (by rw [eg]; exact hps) (by omega) (by rw [eg]; exact b1), eg, b2, List.set_set, List.set_getElem_self]
  ·rw [if_neg h3] at h; exact absurd h h3
structure Base (view : List S51) (ends : List S41) : Prop where
 V : View view
 I : Inp view ends
 vo : viewOk view
 so : ∀ s ∈ slotsOf ends, (w64B s.f0.f0 && w64B s.f0.f1) = true
 el : ends.length ≤ 1000
 sl : (slotsOf ends).length ≤ 1000000
theorem Setup.base {view : List S51} {lg lc : Int} {ends : List S41} (S : Setup view lg lc ends) : Base view ends :=
 ⟨S.V, S.I, S.vo, S.so, Nat.le_trans S.el (by decide), by
  have h1 := slots_len S.hl
  have h2 : 20 * ends.length ≤ 20 * 20 := Nat.mul_le_mul_left 20 S.el
  omega⟩
theorem Base.early {view : List S51} {ends : List S41} (B : Base view ends) {lg lc : Int} (L : I64P (lg, lc)) (now q m g c mn mx : Int) :
  promise_Earliest.f now view lg lc ends q m g c mn mx = some (refEarly now view lg lc ends q m g c mn mx) := by
 unfold promise_Earliest.f
 rw [if_pos (okE_mk B.vo B.el B.I.sm B.so B.I.es), early_ref B.V B.I L]
structure HoldOk (h : S41) : Prop where
 mo : ∀ s ∈ h.f4, maskOk s = true
 sp : ∀ s ∈ h.f4, (w64B s.f0.f0 && w64B s.f0.f1) = true
 ln : h.f4.length ≤ 20
theorem slotsOf_snoc (ends : List S41) (h : S41) : slotsOf (ends ++ [h]) = slotsOf ends ++ h.f4 := by rw [slotsOf_append]; simp [slotsOf]
theorem Base.less {view : List S51} {ends : List S41} (B : Base view ends) {h : S41} (H : HoldOk h) (hok : (turnF lessE lessF view h.f4).2 = 0) (el : ends.length < 500) (sl : (slotsOf ends).length ≤ 100000) :
  Base (turnF lessE lessF view h.f4).1 (ends ++ [h]) := by
 obtain ⟨VL, hsp, _, _⟩ := less_back h.f4 view B.V H.mo hok
 have hlen : (turnF lessE lessF view h.f4).1.length = view.length := by
  have := congrArg List.length hsp
  simpa using this
 have hs : ∀ s ∈ slotsOf (ends ++ [h]), s ∈ slotsOf ends ∨ s ∈ h.f4 := fun s hs => by rw [slotsOf_snoc] at hs; exact List.mem_append.1 hs
 have hl : (slotsOf (ends ++ [h])).length ≤ 100020 := by rw [slotsOf_snoc, List.length_append]; have := H.ln; omega
 refine ⟨VL, ⟨by rw [hlen]; exact B.I.vl, VL.free, by simp; omega, by omega, fun s h1 => (hs s h1).elim (B.I.sm s) (H.mo s)⟩, ⟨by rw [hlen]; exact B.vo.1, VL.free, fun f hf => ?_⟩,
  fun s h1 => (hs s h1).elim (B.so s) (H.sp s), by simp; omega, by omega⟩
 have : spot f ∈ view.map spot := by rw [← hsp]; exact List.mem_map_of_mem hf
 obtain ⟨f', hf', e⟩ := List.mem_map.1 this
 have h1 := B.vo.2.2 f' hf'
 unfold spot at e
 injection e with e1 e2
 rw [← e1, ← e2]; exact h1
theorem subL_eq : ∀ (l : List S52) (a : Int × Int), I64P a → subL a l = (wrap64 (a.1 - popS l), wrap64 (a.2 - cpS l))
 | [], a, h => by
  unfold I64P at h
  have e1 : wrap64 (a.1 - popS []) = a.1 := by rw [show popS [] = 0 from rfl, Int.sub_zero]; exact w_id (by omega)
  have e2 : wrap64 (a.2 - cpS []) = a.2 := by rw [show cpS [] = 0 from rfl, Int.sub_zero]; exact w_id (by omega)
  rw [e1, e2]; rfl
 | s :: l, a, h => by
  have e : subL a (s :: l) = subL (subU a s) l := rfl
  rw [e, subL_eq l _ ⟨wrap_bd _, wrap_bd _⟩, popS_cons, cpS_cons]
  unfold subU
  simp only
  have e3 : ∀ x y z : Int, wrap64 (wrap64 (x - y) - z) = wrap64 (x - (y + z)) := fun x y z => by unfold wrap64; omega
  rw [e3, e3]
def aftL (q lg : Int) (hq : Int) (n : Int) : Int := if hq = q then wrap64 (lg - n) else lg
def afterB (now : Int) (view : List S51) (lg lc : Int) (ends : List S41) (q m g c mn mx : Int) (h : S41) : Int × Int :=
 if (turnF lessE lessF view h.f4).2 = 0 then refEarly now (turnF lessE lessF view h.f4).1 (aftL q lg h.f1 (popS h.f4)) (aftL q lc h.f1 (cpS h.f4)) (ends ++ [h]) q m g c mn mx else (0, (turnF lessE lessF view h.f4).2)
theorem aftL_I64 {q lg lc : Int} (L : I64P (lg, lc)) (a b d : Int) : I64P (aftL q lg a b, aftL q lc a d) := by
 unfold I64P at L
 unfold I64P aftL
 split
 ·exact ⟨wrap_bd _, wrap_bd _⟩
 ·exact L
theorem Base.after {view : List S51} {ends : List S41} (B : Base view ends) {lg lc : Int} (L : I64P (lg, lc)) {h0 h1 h2 : Int} {h3 : Bool} {h4 : List S52} (H : HoldOk ⟨h0, h1, h2, h3, h4⟩) (el : ends.length < 500) (sl : (slotsOf ends).length ≤ 100000) (now q m g c mn mx : Int) :
  fill_After.f now view lg lc ends q m g c mn mx h0 h1 h2 h3 h4 = some (afterB now view lg lc ends q m g c mn mx ⟨h0, h1, h2, h3, h4⟩) := by
 have e1 : pack_Less.f view h4 = some (turnF lessE lessF view h4) := by
  unfold pack_Less.f spotsOk
  have a1 : view.all (fun f => w64B f.f0.f0 && w64B f.f0.f1) = true := List.all_eq_true.2 B.vo.2.2
  have a2 : h4.all (fun f => w64B f.f0.f0 && w64B f.f0.f1) = true := List.all_eq_true.2 H.sp
  rw [decide_eq_true B.vo.1, a1, a2, if_pos (by rfl), turned51_find (F := lessF) (fun _ _ => rfl) B.V.right.2]
 have hln : h4.length ≤ 20 := H.ln
 have e2 : fill_take.f lg lc h4 = some (wrap64 (lg - popS h4), wrap64 (lc - cpS h4)) := by
  unfold fill_take.f maskAll
  have a1 : h4.all maskOk = true := List.all_eq_true.2 H.mo
  rw [a1, decide_eq_true (by omega), if_pos (by rfl), subL_eq h4 _ L]
 have e3 : api_Hold.f ends = some ends := by unfold api_Hold.f; rw [if_pos (by omega)]
 unfold fill_After.f afterB
 rw [e1, Option.bind_some]
 by_cases hz : (turnF lessE lessF view h4).2 = 0
 ·have B' := B.less H hz el sl
  have L' := aftL_I64 (q := q) L h1 (popS h4) (cpS h4)
  have E := B'.early L' now q m g c mn mx
  rw [if_pos hz, if_pos hz]
  by_cases hq : h1 = q
  ·rw [if_pos hq, e2, Option.bind_some, e3, Option.bind_some, Option.bind_some, if_pos (by simp; omega)]
   unfold aftL at E ⊢
   simp only at E ⊢
   rw [if_pos hq, if_pos hq] at E ⊢
   rw [E]; rfl
  ·rw [if_neg hq, e3, Option.bind_some, Option.bind_some, if_pos (by simp; omega)]
   unfold aftL at E ⊢
   simp only at E ⊢
   rw [if_neg hq, if_neg hq] at E ⊢
   rw [E]; rfl
 ·rw [if_neg hz, if_neg hz]
end Go.Proofs.Ytckhjehibjdjdaa.P
namespace Go.Proofs.Ytckhjehibjdjdaa.P
open Go.RowKit Go.Proofs.YtckhjehibjdjdaaW.PrintWords Go.Proofs.YtckhjehibjdjdaaW.PrintLast Go.Proofs.YtckhjehibjdjdaaW.PrintMore
attribute [local go_sem] max2_int min2_int max_two min_two max_three min_three max_four min_four
set_option linter.unusedVariables false
set_option linter.unusedSimpArgs false
attribute [local go_sem high] eqA52
end Go.Proofs.Ytckhjehibjdjdaa.P
