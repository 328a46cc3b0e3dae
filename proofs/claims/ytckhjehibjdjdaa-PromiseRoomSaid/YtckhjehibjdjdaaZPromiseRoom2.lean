/- PromiseRoom: part 2 of the walk and of the plain law that it comes to. No condition. -/
import Derived.Test.YtckhjehibjdjdaaZPromiseRoom1
import Derived.ArgAppend
import Derived.Below
import Derived.BigQuiet
import Derived.BigRegion
import Derived.Carry
import Derived.Deep.AppendLies
import Derived.Deep.CutBlock
import Derived.Deep.DeepCutAuto
import Derived.Deep.Draws
import Derived.Deep.LoopGhost
import Derived.Deep.OwnRows
import Derived.Deep.QuietTactic
import Derived.Deep.RegionHeld3
import Derived.DeepKeys3
import Derived.KernelRfl
import Derived.Laws.Bits64
import Derived.Laws.Bits64b
import Derived.Laws.BitsLemmas
import Derived.Laws.BytesArg
import Derived.Laws.IdiomCopy
import Derived.Laws.MakeOwn
import Derived.Laws.OwnMore
import Derived.Laws.Rows
import Derived.Laws.Slices
import Derived.Lib.AppendStr
import Derived.Lib.ConvBytes
import Derived.Lib.SliceRun
import Derived.LoopIn
import Derived.LoopN
import Derived.LoopNIn
import Derived.Maps.AppendAt
import Derived.Maps.Keyed
import Derived.Maps.Own
import Derived.Maps.OwnOps
import Derived.Maps.OwnSet
import Derived.Maps.Views
import Derived.OrdersHeld
import Derived.Outline
import Derived.OwnWalk
import Derived.OwnWalkIn
import Derived.RangeFuncBound
import Derived.RangeFuncBox
import Derived.RangeFuncCalls
import Derived.RangeFuncFrom
import Derived.RangeFuncLeaves
import Derived.RowKit
import Derived.RowKit3
import Derived.Shelf.Abstract
import Derived.Shelf.RegionOpen
import Derived.StillTailTactics
import Derived.Tactics
import Derived.TacticsInMore
import Derived.WalkKit
import Derived.WideLaws
namespace Go.Proofs.Ytckhjehibjdjdaa.P
open Go.RowKit Go.Proofs.YtckhjehibjdjdaaW.PrintWords Go.Proofs.YtckhjehibjdjdaaW.PrintLast Go.Proofs.YtckhjehibjdjdaaW.PrintMore
attribute [local go_sem] max2_int min2_int max_two min_two max_three min_three max_four min_four
set_option linter.unusedVariables false
set_option linter.unusedSimpArgs false
def promise_Fits.f (k : Nat) (l0 : List (S51)) (a1_0 : Int) (a1_1 : Int) (a2_0 : Int) (a2_1 : Int) (a2_2 : Int) (a2_3 : Int) (a2_4 : Int) (a2_5 : Int) : Option (Bool) := (promise_right.f a2_0 a2_1 a2_2 a2_3 a2_4 a2_5).bind fun t250 => (if t250 = true then ((shape_Units.f a2_2 a2_3 a2_4 a2_5 a2_1).bind fun bt251 => (if bt251.1 ≤ a1_0 then (if bt251.2.1 ≤ a1_1 then ((pack_Room.f k l0 a2_2 a2_3 a2_4 a2_5).bind fun t255 => (some (decide (t255 ≥ a2_1)))) else (some false)) else (some false))) else (some false))
def promise_Fits.T4 : Bool × List (List Nat × List Nat) := (true, [([], []), ([0], [0]), ([], []), ([2], [2]), ([1, 3], [1, 3]), ([4], [4]), ([5], [5]), ([6, 5], [5, 6]), ([5], [5]), ([8, 5], [5, 8]), ([7, 9, 5], [5, 7, 9]), ([5, 10], [5, 10]), ([11, 5], [11]), ([12], [12]), ([12], [12]), ([14, 12], [12, 14]), ([13, 15, 12, 12], [12, 13, 15]), ([12], [12]), ([17, 12], [12, 17]), ([16, 18, 12], [12, 16, 18]), ([12, 19], [12, 19]), ([20, 16, 0, 1, 2, 3, 4, 5, 6, 7, 8, 9, 10, 11, 12, 13, 14, 15, 16, 17, 18, 19, 20], [20])])
def promise_Fits.B4 : List Nat := [0, 1, 0, 4, 15, 31, 63, 127, 63, 319, 1023, 2047, 4095, 8191, 8191, 24575, 65535, 8191, 139263, 524287, 1048575, 2097151]
theorem promise_Fits.tab4 : rtab .any (opsOf Try.f29 4) = promise_Fits.T4 := by kernel_rfl
theorem promise_Fits.bits4 : waitsOk promise_Fits.T4.2 promise_Fits.B4 = true := by kernel_rfl
set_option maxHeartbeats 8000000 in
set_option maxRecDepth 100000 in
theorem promise_Fits.calls (k : Nat) (A0 : Option Addr) (c0 : Nat) (l0 : List (S51)) (a1_0 : Int) (a1_1 : Int) (a2_0 : Int) (a2_1 : Int) (a2_2 : Int) (a2_3 : Int) (a2_4 : Int) (a2_5 : Int) (r : Bool) (w : World) (hr0 : Kd.C k51 w A0 l0.length l0) (hc0 : l0.length ≤ c0) (h : promise_Fits.f k l0 a1_0 a1_1 a2_0 a2_1 a2_2 a2_3 a2_4 a2_5 = some r) :
  Calls Try.prog 29 #[.slice A0 l0.length c0, .agg #[.int .i64 a1_0, .int .i64 a1_1], .agg #[.int .i64 a2_0, .int .i64 a2_1, .int .i64 a2_2, .int .i64 a2_3, .int .i64 a2_4, .int .i64 a2_5]] w fun e w' => e = .returned (.bool r) ∧ Below w.heap.size w w' := by
 have hu24 := Try.underlying24
 have hu29 := Try.underlying29
 have hu27 := Try.underlying27
 have HR0 := Aside0.mk hr0
 have HC0 := Aside0.mk hc0
 clear hr0 hc0
 have HB := Aside0.mk (Below.refl w.heap.size w)
 have H : ((promise_right.f a2_0 a2_1 a2_2 a2_3 a2_4 a2_5).bind fun t250 => (if t250 = true then ((shape_Units.f a2_2 a2_3 a2_4 a2_5 a2_1).bind fun bt251 => (if bt251.1 ≤ a1_0 then (if bt251.2.1 ≤ a1_1 then ((pack_Room.f k l0 a2_2 a2_3 a2_4 a2_5).bind fun t255 => (some (decide (t255 ≥ a2_1)))) else (some false)) else (some false))) else (some false))) = some r := h
 clear h
 replace H := Option.bind_eq_some_iff.mp H
 obtain ⟨t250, A40, H⟩ := H
 replace H : (if t250 = true then ((shape_Units.f a2_2 a2_3 a2_4 a2_5 a2_1).bind fun bt251 => (if bt251.1 ≤ a1_0 then (if bt251.2.1 ≤ a1_1 then ((pack_Room.f k l0 a2_2 a2_3 a2_4 a2_5).bind fun t255 => (some (decide (t255 ≥ a2_1)))) else (some false)) else (some false))) else (some false)) = some r := H
 have A4 := Aside0.mk A40
 clear A40
 by_cases c5 : t250 = true
 ·subst c5
  have H1 : ((shape_Units.f a2_2 a2_3 a2_4 a2_5 a2_1).bind fun bt251 => (if bt251.1 ≤ a1_0 then (if bt251.2.1 ≤ a1_1 then ((pack_Room.f k l0 a2_2 a2_3 a2_4 a2_5).bind fun t255 => (some (decide (t255 ≥ a2_1)))) else (some false)) else (some false))) = some r := by rw [if_pos rfl] at H; exact H
  clear H
  have H := H1
  clear H1
  replace H := Option.bind_eq_some_iff.mp H
  obtain ⟨⟨t251, t252, t253⟩, A60, H⟩ := H
  replace H : (if t251 ≤ a1_0 then (if t252 ≤ a1_1 then ((pack_Room.f k l0 a2_2 a2_3 a2_4 a2_5).bind fun t255 => (some (decide (t255 ≥ a2_1)))) else (some false)) else (some false)) = some r := H
  have A6 := Aside0.mk A60
  clear A60
  by_cases c7 : t251 ≤ a1_0
  ·rw [if_pos c7] at H
   have c7b0 : decide (t251 ≤ a1_0) = true := decide_eq_true c7
   clear c7
   by_cases c8 : t252 ≤ a1_1
   ·rw [if_pos c8] at H
    have c8b0 : decide (t252 ≤ a1_1) = true := decide_eq_true c8
    clear c8
    replace H := Option.bind_eq_some_iff.mp H
    obtain ⟨t255, A90, H⟩ := H
    replace H : (some (decide (t255 ≥ a2_1))) = some r := H
    have A9 := Aside0.mk A90
    clear A90
    obtain rfl := Option.some.inj H
    go_enter Try.func29, Try.ntmps29
    try go_wp2_with (first | ((with_reducible refine gate_dst (N := 4) rfl ?_); refine bx 4 #[.int .i64 a1_0, .int .i64 a1_1] 24 ?_; intro gb248 hg w10 hbox hb; have BK248 := Aside0.mk (hbox); have GW248 := ge_ hg; have GE248 := ge_ hg; replace HB := hs_ hb; clear hb hbox hg) | ((with_reducible refine gate_dst (N := 5) rfl ?_); refine bx 5 #[.int .i64 a2_0, .int .i64 a2_1, .int .i64 a2_2, .int .i64 a2_3, .int .i64 a2_4, .int .i64 a2_5] 29 ?_; intro gb249 hg w11 hbox hb; have BK249 := Aside0.mk (hbox); have GW249 := ge_ hg; have GE249 := ge_ hg; have NB248_249 := nl_ BK248 hg; have NB249_248 := nr_ BK248 hg; replace BK248 := bk_ BK248 hb; replace HB := hs_ hb; clear hb hbox hg; have hnb12 := NB249_248.out; have hnc12 := NB248_249.out; obtain ⟨hcz13_0, hcz13_1, hcz13_2, hcz13_3, hcz13_4, hcz13_5, hfz13_0, hfz13_1, hfz13_2, hfz13_3, hfz13_4, hfz13_5⟩ := bz6_ BK249) | ((with_reducible refine gate_callee (f := 68) rfl ?_); refine goesL_ (some 10) rfl rfl Try.func68 (by kernel_rfl) rfl #[.agg #[.int .i64 a2_0, .int .i64 a2_1, .int .i64 a2_2, .int .i64 a2_3, .int .i64 a2_4, .int .i64 a2_5]] rfl Z0 ?_; (with_reducible refine (promise_right.calls a2_0 a2_1 a2_2 a2_3 a2_4 a2_5 true _ A4.out).mono ?_); rintro e w14 ⟨rfl, hb⟩; refine ⟨_, rfl, ?_⟩; replace BK248 := bk_ BK248 hb; replace BK249 := bk_ BK249 hb; replace HB := hs_ hb; (try clear hb); (try clear hb2); (try clear hk); (try clear hi); obtain ⟨hcz15_0, hcz15_1, hcz15_2, hcz15_3, hcz15_4, hcz15_5, hfz15_0, hfz15_1, hfz15_2, hfz15_3, hfz15_4, hfz15_5⟩ := bz6_ BK249) | ((with_reducible refine gate_callee (f := 76) rfl ?_); refine goesL_ (some 17) rfl rfl Try.func76 (by kernel_rfl) rfl #[.agg #[.int .i64 a2_2, .int .i64 a2_3, .int .i64 a2_4, .int .i64 a2_5], .int .i64 a2_1] rfl Z0 ?_; (with_reducible refine (shape_Units.calls a2_2 a2_3 a2_4 a2_5 a2_1 t251 t252 t253 _ A6.out).mono ?_); rintro e w16 ⟨rfl, hb⟩; refine ⟨_, rfl, ?_⟩; replace BK248 := bk_ BK248 hb; replace BK249 := bk_ BK249 hb; replace HB := hs_ hb; (try clear hb); (try clear hb2); (try clear hk); (try clear hi)) | ((with_reducible refine gate_dst (N := 7) rfl ?_); refine bx 7 #[.int .i64 0, .int .i64 0] 24 ?_; intro gb254 hg w17 hbox hb; have BK254 := Aside0.mk (hbox); have GW254 := ge_ hg; have GE254 := ge_ hg; have NB248_254 := nl_ BK248 hg; have NB254_248 := nr_ BK248 hg; have NB249_254 := nl_ BK249 hg; have NB254_249 := nr_ BK249 hg; replace BK248 := bk_ BK248 hb; replace BK249 := bk_ BK249 hb; replace HB := hs_ hb; clear hb hbox hg; have hnb18 := NB254_248.out; have hnc18 := NB248_254.out; have hnb19 := NB254_249.out; have hnc19 := NB249_254.out; obtain ⟨hcz20_0, hcz20_1, hfz20_0, hfz20_1⟩ := bz2_ BK254))
    have n0_ : Aside0 (((w17.setCell ⟨gb254, 0, none⟩ (.int .i64 t251)).setCell ⟨gb254, 1, none⟩ (.int .i64 t252)).heap[gb248]? = some (.cells #[.int .i64 a1_0, .int .i64 a1_1] 24 (0, 0))) := ⟨bs_⟩
    have n1_ : Aside0 (((w17.setCell ⟨gb254, 0, none⟩ (.int .i64 t251)).setCell ⟨gb254, 1, none⟩ (.int .i64 t252)).heap[gb249]? = some (.cells #[.int .i64 a2_0, .int .i64 a2_1, .int .i64 a2_2, .int .i64 a2_3, .int .i64 a2_4, .int .i64 a2_5] 29 (0, 0))) := ⟨bs_⟩
    have n2_ : Aside0 (((w17.setCell ⟨gb254, 0, none⟩ (.int .i64 t251)).setCell ⟨gb254, 1, none⟩ (.int .i64 t252)).heap[gb254]? = some (.cells #[.int .i64 t251, .int .i64 t252] 24 (0, 0))) := ⟨bs_⟩
    have n3_ : Aside0 (Below w.heap.size w ((w17.setCell ⟨gb254, 0, none⟩ (.int .i64 t251)).setCell ⟨gb254, 1, none⟩ (.int .i64 t252))) := ⟨hb_⟩
    (try clear BK248)
    (try clear BK249)
    (try clear BK254)
    (try clear HB)
    generalize ((w17.setCell ⟨gb254, 0, none⟩ (.int .i64 t251)).setCell ⟨gb254, 1, none⟩ (.int .i64 t252)) = w21 at n0_ n1_ n2_ n3_ ⊢
    have BK248 := n0_
    have BK249 := n1_
    have BK254 := n2_
    have HB := n3_
    clear n0_ n1_ n2_ n3_
    replace BK248 := Aside0.mk (blk_drew BK248.out)
    replace BK249 := Aside0.mk (blk_drew BK249.out)
    replace BK254 := Aside0.mk (blk_drew BK254.out)
    replace HB := Aside0.mk (below_drew1 HB.out)
    refine start_ (n := 22) (S := fun w' => w'.cell? ⟨gb254, 0, none⟩ = some (.int .i64 t251) ∧ w'.cell? ⟨gb254, 1, none⟩ = some (.int .i64 t252) ∧ w'.cell? ⟨gb248, 0, none⟩ = some (.int .i64 a1_0) ∧ w'.cell? ⟨gb248, 1, none⟩ = some (.int .i64 a1_1) ∧ w'.cell? ⟨gb249, 0, none⟩ = some (.int .i64 a2_0) ∧ w'.cell? ⟨gb249, 1, none⟩ = some (.int .i64 a2_1) ∧ w'.cell? ⟨gb249, 2, none⟩ = some (.int .i64 a2_2) ∧ w'.cell? ⟨gb249, 3, none⟩ = some (.int .i64 a2_3) ∧ w'.cell? ⟨gb249, 4, none⟩ = some (.int .i64 a2_4) ∧ w'.cell? ⟨gb249, 5, none⟩ = some (.int .i64 a2_5)) (ds := []) (bm 22 0) (by kernel_rfl) rfl rfl ⟨(blk_cell BK254.out 0).trans rfl, (blk_cell BK254.out 1).trans rfl, (blk_cell BK248.out 0).trans rfl, (blk_cell BK248.out 1).trans rfl, (blk_cell BK249.out 0).trans rfl, (blk_cell BK249.out 1).trans rfl, (blk_cell BK249.out 2).trans rfl, (blk_cell BK249.out 3).trans rfl, (blk_cell BK249.out 4).trans rfl, (blk_cell BK249.out 5).trans rfl⟩ (fun hHeld => ?_); refine with_tabW promise_Fits.tab4 promise_Fits.bits4 (fun HT_ HW_ => ?_)
    generalize w21.drew = w22 at BK248 BK249 BK254 HB hHeld ⊢
    refine pu 0 (some 20) (bm 22 1) ?_
    refine pu 2 (some 22) (bm 22 5) ?_
    refine tk10 1 (some 21) (bm 22 7) ?_
    refine tk10 3 (some 23) (bm 22 15) ?_
    refine pu 4 (some 24) (bm 22 31) ?_
    refine pu 5 (some 25) (bm 22 63) ?_
    refine pu 6 (some 26) (bm 22 127) ?_
    refine pu 8 (some 28) (bm 22 383) ?_
    refine tk10 7 (some 27) (bm 22 511) ?_
    refine tk10 9 (some 29) (bm 22 1023) ?_
    refine pu 10 (some 30) (bm 22 2047) ?_
    refine pu 11 (some 31) (bm 22 4095) ?_
    refine pu 12 (some 32) (bm 22 8191) ?_
    refine pu 13 (some 33) (bm 22 16383) ?_
    refine pu 14 (some 34) (bm 22 32767) ?_
    refine pu 17 (some 37) (bm 22 163839) ?_
    refine tk10 15 (some 35) (bm 22 196607) ?_
    refine tk10 18 (some 38) (bm 22 458751) ?_
    refine one_ (i := 16) (N := some 36) (bm 22 524287) rfl rfl (one_of HT_.out (by kernel_rfl)) (by decide) (fun K hK => ?_)
    refine goes_ Try.func50 (by kernel_rfl) rfl #[.slice A0 l0.length c0, .agg #[.int .i64 a2_2, .int .i64 a2_3, .int .i64 a2_4, .int .i64 a2_5]] (by rfl) rfl rfl Z0 ?_
    with_reducible refine (pack_Room.calls k _ _ l0 a2_2 a2_3 a2_4 a2_5 t255 _ ?side1 ?side2 A9.out).mono ?_
    (case side1 => exact cs_ HR0)
    (case side2 => exact HC0.out)
    rintro e w23 ⟨rfl, hb⟩
    refine ⟨_, rfl, ?_⟩
    replace BK248 := bk_ BK248 hb
    replace BK249 := bk_ BK249 hb
    replace BK254 := bk_ BK254 hb
    replace HB := hs_ hb
    (try clear hb)
    (try clear hb2)
    (try clear hk)
    (try clear hi)
    refine hK.out _ _ kc_ (fun hHeld => ?_)
    clear hK K
    refine norm_ (a' := ?_) ?_ ?_
    rotate_left
    ·show Act.put _ (some 36) _ = _
     simp only [Act.put, List.setIfInBounds_toArray, List.set_cons_zero, List.set_cons_succ, i64_w, i32_w]
     rfl
    refine pu 19 (some 39) (bm 22 1048575) ?_
    refine pu 20 (some 40) (bm 22 2097151) ?_
    refine pu 21 (some 6) (bm 22 4194303) ?_
    refine done_ (done_of HT_.out (by kernel_rfl)) ?_
    try go_wp2
    go_ret
    exact ⟨by first | rfl | (simp [errW_none, errW_some] <;> rfl) | (simp [*, errW_none, errW_some] <;> rfl), hb_⟩
   ·rw [if_neg c8] at H
    have c8b0 : decide (t252 ≤ a1_1) = false := decide_eq_false c8
    clear c8
    obtain rfl := Option.some.inj H
    go_enter Try.func29, Try.ntmps29
    try go_wp2_with (first | ((with_reducible refine gate_dst (N := 4) rfl ?_); refine bx 4 #[.int .i64 a1_0, .int .i64 a1_1] 24 ?_; intro gb248 hg w24 hbox hb; have BK248 := Aside0.mk (hbox); have GW248 := ge_ hg; have GE248 := ge_ hg; replace HB := hs_ hb; clear hb hbox hg) | ((with_reducible refine gate_dst (N := 5) rfl ?_); refine bx 5 #[.int .i64 a2_0, .int .i64 a2_1, .int .i64 a2_2, .int .i64 a2_3, .int .i64 a2_4, .int .i64 a2_5] 29 ?_; intro gb249 hg w25 hbox hb; have BK249 := Aside0.mk (hbox); have GW249 := ge_ hg; have GE249 := ge_ hg; have NB248_249 := nl_ BK248 hg; have NB249_248 := nr_ BK248 hg; replace BK248 := bk_ BK248 hb; replace HB := hs_ hb; clear hb hbox hg; have hnb26 := NB249_248.out; have hnc26 := NB248_249.out; obtain ⟨hcz27_0, hcz27_1, hcz27_2, hcz27_3, hcz27_4, hcz27_5, hfz27_0, hfz27_1, hfz27_2, hfz27_3, hfz27_4, hfz27_5⟩ := bz6_ BK249) | ((with_reducible refine gate_callee (f := 68) rfl ?_); refine goesL_ (some 10) rfl rfl Try.func68 (by kernel_rfl) rfl #[.agg #[.int .i64 a2_0, .int .i64 a2_1, .int .i64 a2_2, .int .i64 a2_3, .int .i64 a2_4, .int .i64 a2_5]] rfl Z0 ?_; (with_reducible refine (promise_right.calls a2_0 a2_1 a2_2 a2_3 a2_4 a2_5 true _ A4.out).mono ?_); rintro e w28 ⟨rfl, hb⟩; refine ⟨_, rfl, ?_⟩; replace BK248 := bk_ BK248 hb; replace BK249 := bk_ BK249 hb; replace HB := hs_ hb; (try clear hb); (try clear hb2); (try clear hk); (try clear hi); obtain ⟨hcz29_0, hcz29_1, hcz29_2, hcz29_3, hcz29_4, hcz29_5, hfz29_0, hfz29_1, hfz29_2, hfz29_3, hfz29_4, hfz29_5⟩ := bz6_ BK249) | ((with_reducible refine gate_callee (f := 76) rfl ?_); refine goesL_ (some 17) rfl rfl Try.func76 (by kernel_rfl) rfl #[.agg #[.int .i64 a2_2, .int .i64 a2_3, .int .i64 a2_4, .int .i64 a2_5], .int .i64 a2_1] rfl Z0 ?_; (with_reducible refine (shape_Units.calls a2_2 a2_3 a2_4 a2_5 a2_1 t251 t252 t253 _ A6.out).mono ?_); rintro e w30 ⟨rfl, hb⟩; refine ⟨_, rfl, ?_⟩; replace BK248 := bk_ BK248 hb; replace BK249 := bk_ BK249 hb; replace HB := hs_ hb; (try clear hb); (try clear hb2); (try clear hk); (try clear hi)) | ((with_reducible refine gate_dst (N := 7) rfl ?_); refine bx 7 #[.int .i64 0, .int .i64 0] 24 ?_; intro gb254 hg w31 hbox hb; have BK254 := Aside0.mk (hbox); have GW254 := ge_ hg; have GE254 := ge_ hg; have NB248_254 := nl_ BK248 hg; have NB254_248 := nr_ BK248 hg; have NB249_254 := nl_ BK249 hg; have NB254_249 := nr_ BK249 hg; replace BK248 := bk_ BK248 hb; replace BK249 := bk_ BK249 hb; replace HB := hs_ hb; clear hb hbox hg; have hnb32 := NB254_248.out; have hnc32 := NB248_254.out; have hnb33 := NB254_249.out; have hnc33 := NB249_254.out; obtain ⟨hcz34_0, hcz34_1, hfz34_0, hfz34_1⟩ := bz2_ BK254))
    have n0_ : Aside0 (((w31.setCell ⟨gb254, 0, none⟩ (.int .i64 t251)).setCell ⟨gb254, 1, none⟩ (.int .i64 t252)).heap[gb248]? = some (.cells #[.int .i64 a1_0, .int .i64 a1_1] 24 (0, 0))) := ⟨bs_⟩
    have n1_ : Aside0 (((w31.setCell ⟨gb254, 0, none⟩ (.int .i64 t251)).setCell ⟨gb254, 1, none⟩ (.int .i64 t252)).heap[gb249]? = some (.cells #[.int .i64 a2_0, .int .i64 a2_1, .int .i64 a2_2, .int .i64 a2_3, .int .i64 a2_4, .int .i64 a2_5] 29 (0, 0))) := ⟨bs_⟩
    have n2_ : Aside0 (((w31.setCell ⟨gb254, 0, none⟩ (.int .i64 t251)).setCell ⟨gb254, 1, none⟩ (.int .i64 t252)).heap[gb254]? = some (.cells #[.int .i64 t251, .int .i64 t252] 24 (0, 0))) := ⟨bs_⟩
    have n3_ : Aside0 (Below w.heap.size w ((w31.setCell ⟨gb254, 0, none⟩ (.int .i64 t251)).setCell ⟨gb254, 1, none⟩ (.int .i64 t252))) := ⟨hb_⟩
    (try clear BK248)
    (try clear BK249)
    (try clear BK254)
    (try clear HB)
    generalize ((w31.setCell ⟨gb254, 0, none⟩ (.int .i64 t251)).setCell ⟨gb254, 1, none⟩ (.int .i64 t252)) = w35 at n0_ n1_ n2_ n3_ ⊢
    have BK248 := n0_
    have BK249 := n1_
    have BK254 := n2_
    have HB := n3_
    clear n0_ n1_ n2_ n3_
    replace BK248 := Aside0.mk (blk_drew BK248.out)
    replace BK249 := Aside0.mk (blk_drew BK249.out)
    replace BK254 := Aside0.mk (blk_drew BK254.out)
    replace HB := Aside0.mk (below_drew1 HB.out)
    refine start_ (n := 22) (S := fun w' => w'.cell? ⟨gb254, 0, none⟩ = some (.int .i64 t251) ∧ w'.cell? ⟨gb254, 1, none⟩ = some (.int .i64 t252) ∧ w'.cell? ⟨gb248, 0, none⟩ = some (.int .i64 a1_0) ∧ w'.cell? ⟨gb248, 1, none⟩ = some (.int .i64 a1_1)) (ds := []) (bm 22 0) (by kernel_rfl) rfl rfl ⟨(blk_cell BK254.out 0).trans rfl, (blk_cell BK254.out 1).trans rfl, (blk_cell BK248.out 0).trans rfl, (blk_cell BK248.out 1).trans rfl⟩ (fun hHeld => ?_); refine with_tabW promise_Fits.tab4 promise_Fits.bits4 (fun HT_ HW_ => ?_)
    generalize w35.drew = w36 at BK248 BK249 BK254 HB hHeld ⊢
    refine pu 0 (some 20) (bm 22 1) ?_
    refine pu 2 (some 22) (bm 22 5) ?_
    refine tk4 1 (some 21) (bm 22 7) ?_
    refine tk4 3 (some 23) (bm 22 15) ?_
    refine pu 4 (some 24) (bm 22 31) ?_
    refine pu 5 (some 25) (bm 22 63) ?_
    refine pu 6 (some 26) (bm 22 127) ?_
    refine pu 8 (some 28) (bm 22 383) ?_
    refine tk4 7 (some 27) (bm 22 511) ?_
    refine tk4 9 (some 29) (bm 22 1023) ?_
    refine pu 10 (some 30) (bm 22 2047) ?_
    refine pu 11 (some 31) (bm 22 4095) ?_
    refine pu 12 (some 32) (bm 22 8191) ?_
    refine pv 13 (some 33) (bm 22 16383) ?_
    refine pv 14 (some 34) (bm 22 32767) ?_
    refine pv 15 (some 35) (bm 22 65535) ?_
    refine pv 16 (some 36) (bm 22 131071) ?_
    refine pv 17 (some 37) (bm 22 262143) ?_
    refine pv 18 (some 38) (bm 22 524287) ?_
    refine pv 19 (some 39) (bm 22 1048575) ?_
    refine pu 20 (some 40) (bm 22 2097151) ?_
    refine pu 21 (some 6) (bm 22 4194303) ?_
    refine done_ (done_of HT_.out (by kernel_rfl)) ?_
    try go_wp2
    go_ret
    exact ⟨by first | rfl | (simp [errW_none, errW_some] <;> rfl) | (simp [*, errW_none, errW_some] <;> rfl), hb_⟩
  ·rw [if_neg c7] at H
   have c7b0 : decide (t251 ≤ a1_0) = false := decide_eq_false c7
   clear c7
   obtain rfl := Option.some.inj H
   go_enter Try.func29, Try.ntmps29
   try go_wp2_with (first | ((with_reducible refine gate_dst (N := 4) rfl ?_); refine bx 4 #[.int .i64 a1_0, .int .i64 a1_1] 24 ?_; intro gb248 hg w37 hbox hb; have BK248 := Aside0.mk (hbox); have GW248 := ge_ hg; have GE248 := ge_ hg; replace HB := hs_ hb; clear hb hbox hg) | ((with_reducible refine gate_dst (N := 5) rfl ?_); refine bx 5 #[.int .i64 a2_0, .int .i64 a2_1, .int .i64 a2_2, .int .i64 a2_3, .int .i64 a2_4, .int .i64 a2_5] 29 ?_; intro gb249 hg w38 hbox hb; have BK249 := Aside0.mk (hbox); have GW249 := ge_ hg; have GE249 := ge_ hg; have NB248_249 := nl_ BK248 hg; have NB249_248 := nr_ BK248 hg; replace BK248 := bk_ BK248 hb; replace HB := hs_ hb; clear hb hbox hg; have hnb39 := NB249_248.out; have hnc39 := NB248_249.out; obtain ⟨hcz40_0, hcz40_1, hcz40_2, hcz40_3, hcz40_4, hcz40_5, hfz40_0, hfz40_1, hfz40_2, hfz40_3, hfz40_4, hfz40_5⟩ := bz6_ BK249) | ((with_reducible refine gate_callee (f := 68) rfl ?_); refine goesL_ (some 10) rfl rfl Try.func68 (by kernel_rfl) rfl #[.agg #[.int .i64 a2_0, .int .i64 a2_1, .int .i64 a2_2, .int .i64 a2_3, .int .i64 a2_4, .int .i64 a2_5]] rfl Z0 ?_; (with_reducible refine (promise_right.calls a2_0 a2_1 a2_2 a2_3 a2_4 a2_5 true _ A4.out).mono ?_); rintro e w41 ⟨rfl, hb⟩; refine ⟨_, rfl, ?_⟩; replace BK248 := bk_ BK248 hb; replace BK249 := bk_ BK249 hb; replace HB := hs_ hb; (try clear hb); (try clear hb2); (try clear hk); (try clear hi); obtain ⟨hcz42_0, hcz42_1, hcz42_2, hcz42_3, hcz42_4, hcz42_5, hfz42_0, hfz42_1, hfz42_2, hfz42_3, hfz42_4, hfz42_5⟩ := bz6_ BK249) | ((with_reducible refine gate_callee (f := 76) rfl ?_); refine goesL_ (some 17) rfl rfl Try.func76 (by kernel_rfl) rfl #[.agg #[.int .i64 a2_2, .int .i64 a2_3, .int .i64 a2_4, .int .i64 a2_5], .int .i64 a2_1] rfl Z0 ?_; (with_reducible refine (shape_Units.calls a2_2 a2_3 a2_4 a2_5 a2_1 t251 t252 t253 _ A6.out).mono ?_); rintro e w43 ⟨rfl, hb⟩; refine ⟨_, rfl, ?_⟩; replace BK248 := bk_ BK248 hb; replace BK249 := bk_ BK249 hb; replace HB := hs_ hb; (try clear hb); (try clear hb2); (try clear hk); (try clear hi)) | ((with_reducible refine gate_dst (N := 7) rfl ?_); refine bx 7 #[.int .i64 0, .int .i64 0] 24 ?_; intro gb254 hg w44 hbox hb; have BK254 := Aside0.mk (hbox); have GW254 := ge_ hg; have GE254 := ge_ hg; have NB248_254 := nl_ BK248 hg; have NB254_248 := nr_ BK248 hg; have NB249_254 := nl_ BK249 hg; have NB254_249 := nr_ BK249 hg; replace BK248 := bk_ BK248 hb; replace BK249 := bk_ BK249 hb; replace HB := hs_ hb; clear hb hbox hg; have hnb45 := NB254_248.out; have hnc45 := NB248_254.out; have hnb46 := NB254_249.out; have hnc46 := NB249_254.out; obtain ⟨hcz47_0, hcz47_1, hfz47_0, hfz47_1⟩ := bz2_ BK254))
   have n0_ : Aside0 (((w44.setCell ⟨gb254, 0, none⟩ (.int .i64 t251)).setCell ⟨gb254, 1, none⟩ (.int .i64 t252)).heap[gb248]? = some (.cells #[.int .i64 a1_0, .int .i64 a1_1] 24 (0, 0))) := ⟨bs_⟩
   have n1_ : Aside0 (((w44.setCell ⟨gb254, 0, none⟩ (.int .i64 t251)).setCell ⟨gb254, 1, none⟩ (.int .i64 t252)).heap[gb249]? = some (.cells #[.int .i64 a2_0, .int .i64 a2_1, .int .i64 a2_2, .int .i64 a2_3, .int .i64 a2_4, .int .i64 a2_5] 29 (0, 0))) := ⟨bs_⟩
   have n2_ : Aside0 (((w44.setCell ⟨gb254, 0, none⟩ (.int .i64 t251)).setCell ⟨gb254, 1, none⟩ (.int .i64 t252)).heap[gb254]? = some (.cells #[.int .i64 t251, .int .i64 t252] 24 (0, 0))) := ⟨bs_⟩
   have n3_ : Aside0 (Below w.heap.size w ((w44.setCell ⟨gb254, 0, none⟩ (.int .i64 t251)).setCell ⟨gb254, 1, none⟩ (.int .i64 t252))) := ⟨hb_⟩
   (try clear BK248)
   (try clear BK249)
   (try clear BK254)
   (try clear HB)
   generalize ((w44.setCell ⟨gb254, 0, none⟩ (.int .i64 t251)).setCell ⟨gb254, 1, none⟩ (.int .i64 t252)) = w48 at n0_ n1_ n2_ n3_ ⊢
   have BK248 := n0_
   have BK249 := n1_
   have BK254 := n2_
   have HB := n3_
   clear n0_ n1_ n2_ n3_
   replace BK248 := Aside0.mk (blk_drew BK248.out)
   replace BK249 := Aside0.mk (blk_drew BK249.out)
   replace BK254 := Aside0.mk (blk_drew BK254.out)
   replace HB := Aside0.mk (below_drew1 HB.out)
   refine start_ (n := 22) (S := fun w' => w'.cell? ⟨gb254, 0, none⟩ = some (.int .i64 t251) ∧ w'.cell? ⟨gb254, 1, none⟩ = some (.int .i64 t252) ∧ w'.cell? ⟨gb248, 0, none⟩ = some (.int .i64 a1_0) ∧ w'.cell? ⟨gb248, 1, none⟩ = some (.int .i64 a1_1)) (ds := []) (bm 22 0) (by kernel_rfl) rfl rfl ⟨(blk_cell BK254.out 0).trans rfl, (blk_cell BK254.out 1).trans rfl, (blk_cell BK248.out 0).trans rfl, (blk_cell BK248.out 1).trans rfl⟩ (fun hHeld => ?_); refine with_tabW promise_Fits.tab4 promise_Fits.bits4 (fun HT_ HW_ => ?_)
   generalize w48.drew = w49 at BK248 BK249 BK254 HB hHeld ⊢
   refine pu 0 (some 20) (bm 22 1) ?_
   refine pu 2 (some 22) (bm 22 5) ?_
   refine tk4 1 (some 21) (bm 22 7) ?_
   refine tk4 3 (some 23) (bm 22 15) ?_
   refine pu 4 (some 24) (bm 22 31) ?_
   refine pu 5 (some 25) (bm 22 63) ?_
   refine pv 6 (some 26) (bm 22 127) ?_
   refine pv 7 (some 27) (bm 22 255) ?_
   refine pv 8 (some 28) (bm 22 511) ?_
   refine pv 9 (some 29) (bm 22 1023) ?_
   refine pv 10 (some 30) (bm 22 2047) ?_
   refine pu 11 (some 31) (bm 22 4095) ?_
   refine pu 12 (some 32) (bm 22 8191) ?_
   refine pv 13 (some 33) (bm 22 16383) ?_
   refine pv 14 (some 34) (bm 22 32767) ?_
   refine pv 15 (some 35) (bm 22 65535) ?_
   refine pv 16 (some 36) (bm 22 131071) ?_
   refine pv 17 (some 37) (bm 22 262143) ?_
   refine pv 18 (some 38) (bm 22 524287) ?_
   refine pv 19 (some 39) (bm 22 1048575) ?_
   refine pu 20 (some 40) (bm 22 2097151) ?_
   refine pu 21 (some 6) (bm 22 4194303) ?_
   refine done_ (done_of HT_.out (by kernel_rfl)) ?_
   try go_wp2
   go_ret
   exact ⟨by first | rfl | (simp [errW_none, errW_some] <;> rfl) | (simp [*, errW_none, errW_some] <;> rfl), hb_⟩
 ·replace c5 := Bool.eq_false_iff.mpr c5
  subst c5
  have H1 : (some false) = some r := by rw [if_neg (show ¬ (false = true) by decide)] at H; exact H
  clear H
  have H := H1
  clear H1
  obtain rfl := Option.some.inj H
  go_enter Try.func29, Try.ntmps29
  go_wp2_with (first | ((with_reducible refine gate_dst (N := 4) rfl ?_); refine bx 4 #[.int .i64 a1_0, .int .i64 a1_1] 24 ?_; intro gb248 hg w50 hbox hb; have BK248 := Aside0.mk (hbox); have GW248 := ge_ hg; have GE248 := ge_ hg; replace HB := hs_ hb; clear hb hbox hg) | ((with_reducible refine gate_dst (N := 5) rfl ?_); refine bx 5 #[.int .i64 a2_0, .int .i64 a2_1, .int .i64 a2_2, .int .i64 a2_3, .int .i64 a2_4, .int .i64 a2_5] 29 ?_; intro gb249 hg w51 hbox hb; have BK249 := Aside0.mk (hbox); have GW249 := ge_ hg; have GE249 := ge_ hg; have NB248_249 := nl_ BK248 hg; have NB249_248 := nr_ BK248 hg; replace BK248 := bk_ BK248 hb; replace HB := hs_ hb; clear hb hbox hg; have hnb52 := NB249_248.out; have hnc52 := NB248_249.out; obtain ⟨hcz53_0, hcz53_1, hcz53_2, hcz53_3, hcz53_4, hcz53_5, hfz53_0, hfz53_1, hfz53_2, hfz53_3, hfz53_4, hfz53_5⟩ := bz6_ BK249) | ((with_reducible refine gate_callee (f := 68) rfl ?_); refine goesL_ (some 10) rfl rfl Try.func68 (by kernel_rfl) rfl #[.agg #[.int .i64 a2_0, .int .i64 a2_1, .int .i64 a2_2, .int .i64 a2_3, .int .i64 a2_4, .int .i64 a2_5]] rfl Z0 ?_; (with_reducible refine (promise_right.calls a2_0 a2_1 a2_2 a2_3 a2_4 a2_5 false _ A4.out).mono ?_); rintro e w54 ⟨rfl, hb⟩; refine ⟨_, rfl, ?_⟩; replace BK248 := bk_ BK248 hb; replace BK249 := bk_ BK249 hb; replace HB := hs_ hb; (try clear hb); (try clear hb2); (try clear hk); (try clear hi)))
  go_ret
  exact ⟨by first | rfl | (simp [errW_none, errW_some] <;> rfl) | (simp [*, errW_none, errW_some] <;> rfl), hb_⟩
end Go.Proofs.Ytckhjehibjdjdaa.P
namespace Go.Proofs.Ytckhjehibjdjdaa.P
open Go.RowKit Go.Proofs.YtckhjehibjdjdaaW.PrintWords Go.Proofs.YtckhjehibjdjdaaW.PrintLast Go.Proofs.YtckhjehibjdjdaaW.PrintMore
attribute [local go_sem] max2_int min2_int max_two min_two max_three min_three max_four min_four
set_option linter.unusedVariables false
set_option linter.unusedSimpArgs false
def promise_all.l0 : Nat → List (S52) → List (S41) → Int → Int → Option ((List (S52)))
 | 0, _, _, _, _ => none
 | k + 1, x3, x6, x7, x8 => if x8 < x7 then (if 0 ≤ x8 then (if x8 < (x6.length : Int) then (if x3.length + ((rd_T41 x6 x8).f4).length < 4398046511104 then (promise_all.l0 k (x3 ++ ((rd_T41 x6 x8).f4)) x6 x7 (wrap64 (x8 + 1))) else (none)) else (none)) else (none)) else (some x3)
def promise_all.f (k : Nat) (l0 : List (S41)) : Option ((List (S52))) := promise_all.l0 k ([] : List (S52)) l0 (l0.length : Int) 0
set_option maxHeartbeats 8000000 in
set_option maxRecDepth 100000 in
theorem promise_all.calls (k : Nat) (A0 : Option Addr) (c0 : Nat) (l0 : List (S41)) (r : List (S52)) (w : World) (hr0 : Kd.C k41 w A0 l0.length l0) (hc0 : l0.length ≤ c0) (h : promise_all.f k l0 = some r) :
  Calls Try.prog 69 #[.slice A0 l0.length c0] w fun e w' => ∃ v0_ : Value, e = .returned (v0_) ∧ Kd.R k52 52 w' w.heap.size (fun _ => True) v0_ r ∧ Below w.heap.size w w' := by
 have hu41 := Try.underlying41
 have HR0 := Aside0.mk hr0
 have HC0 := Aside0.mk hc0
 clear hr0 hc0
 have HB := Aside0.mk (Below.refl w.heap.size w)
 have H : (promise_all.l0 k ([] : List (S52)) l0 (l0.length : Int) 0) = some r := h
 clear h
 have H' := Aside0.mk H
 clear H
 go_enter Try.func69, Try.ntmps69
 go_wp2
 go_loopg [3, 8] k (fun kq v3 v8 w' => ∃ (x3_1 : List (S52)) (x8_1 : Int), v8 = .int .i64 x8_1 ∧ Aside0 (promise_all.l0 kq x3_1 l0 (l0.length : Int) x8_1 = some r) ∧ Aside0 (kq ≤ k) ∧ Aside0 (Kd.R k52 52 w' w.heap.size (fun _ => True) v3 x3_1) ∧ Aside0 (Below w.heap.size w w'))
 case atStart => exact ⟨(([] : List (S52))), (0), Z1, H', ⟨Nat.le_refl _⟩, ⟨by first | exact Kd.R_nil _ _ _ _ _ | exact Kd.N_nil _ _ _ _ _ | exact Kd.V_nil _ _ _ _ _ | exact Kd.Q_nil _ _ _ _ _ | exact Kd.S_nil _ _ _ _ _⟩, ⟨hb_⟩⟩
 case round =>
  clear H'
  obtain ⟨x3_1, x8_1, rfl, HA, HK1, HO_3, HB⟩ := hrel
  cases gk with
  | zero => exact absurd HA.out (by simp [promise_all.l0])
  | succ k1 =>
   have H := HA.out
   clear HA
   simp only [promise_all.l0] at H
   by_cases c2 : x8_1 < (l0.length : Int)
   ·rw [if_pos c2] at H
    have c2b0 : decide (x8_1 < (l0.length : Int)) = true := decide_eq_true c2
    clear c2
    by_cases c3 : 0 ≤ x8_1
    ·rw [if_pos c3] at H
     have c3b0 : decide (0 ≤ x8_1) = true := decide_eq_true c3
     clear c3
     by_cases c4 : x8_1 < (l0.length : Int)
     ·rw [if_pos c4] at H
      have c4b0 : decide (x8_1 < (l0.length : Int)) = true := decide_eq_true c4
      clear c4
      by_cases c5 : x3_1.length + ((rd_T41 l0 x8_1).f4).length < 4398046511104
      ·rw [if_pos c5] at H
       have LMc5 := Aside0.mk c5
       clear c5
       obtain ⟨y889, hy889⟩ : ∃ y_ : List (S52), y_ = (x3_1 ++ ((rd_T41 l0 x8_1).f4)) := ⟨_, rfl⟩
       replace H : (promise_all.l0 k1 y889 l0 (l0.length : Int) (wrap64 (x8_1 + 1))) = some r := by first | (rw [hy889]; with_reducible exact H) | (have H2_ := (Option.bind_some _ _).symm.trans H; rw [hy889]; with_reducible exact H2_) | (have H2_ := (Option.bind_some _ _).symm.trans H; with_reducible exact H2_) | with_reducible exact H | (rw [hy889]; exact H) | exact H
       have Ny889 := Aside0.mk hy889
       clear hy889
       have H' := Aside0.mk H
       clear H
       have p887 : 0 ≤ (x8_1 : Int) := of_decide_eq_true Z2
       have q887 : x8_1 < (l0.length : Int) := of_decide_eq_true Z2
       obtain ⟨ad887, A887_4, c887_4, e887, hx887_0, hx887_1, hx887_2, hx887_3, hx887_4, hl887_4, hi887_4⟩ := at_T41 HR0.out x8_1 p887 q887
       cases e887
       replace hx887_0 := cx_ hx887_0
       replace hx887_1 := cx_ hx887_1
       replace hx887_2 := cx_ hx887_2
       replace hx887_3 := cx_ hx887_3
       replace hx887_4 := cx_ hx887_4
       have HR887_4 := Aside0.mk hi887_4
       have HC887_4 := Aside0.mk hl887_4
       clear hi887_4 hl887_4
       replace p887 := eq_true p887
       replace q887 := eq_true q887
       go_wp2_with (first | ((with_reducible refine gate_dst (N := 5) rfl ?_); refine bx 5 #[.int .i64 0, .int .i64 0, .int .i64 0, .bool false, .slice none 0 0] 41 ?_; intro gb888 hg w6 hbox hb; have BK888 := Aside0.mk (hbox); have GW888 := ge_ hg; have GE888 := ge_ hg; replace HO_3 := Aside0.mk (Kd.R_below (by (with_reducible repeat (first | apply Kd.R_alloc | apply Kd.R_drewN | apply Kd.R_drew)); exact HO_3.out) hb); replace HB := hs_ hb; clear hb hbox hg; obtain ⟨hcz7_0, hcz7_1, hcz7_2, hcz7_3, hcz7_4, hfz7_0, hfz7_1, hfz7_2, hfz7_3, hfz7_4⟩ := bz5_ BK888) | ((with_reducible refine gate_builtin (b := .append) (xs := #[.tmp 12, .tmp 14]) rfl ?_); at_builtin; refine Kd.R_append_rows k52 (w0 := w) w.heap.size rfl (.tmp 12) (.tmp 14) 39 52 (.agg #[(.int .i64 0), (.int .i64 0), (.int .u64 0), (.int .i64 0)]) 32 rfl Try.underlying39 info52 rfl (by decide) (by omega) u3 x3_1 ((rd_T41 l0 x8_1).f4) _ _ _ (fun _ => True) (fun _ => False) rfl rfl ?aO ?aR (fun _ _ h => h) (fun _ h => h.elim) ?aF ?aB ?aS ?aL ?_; (case aR => exact Kd.C_below HR887_4.out hb_); (case aB => exact hb_); (case aF => exact (fun _ _ => trivial)); (case aO => exact (by (with_reducible repeat (first | apply Kd.R_alloc | apply Kd.R_drewN | apply Kd.R_drew)); exact Kd.R_mono (Kd.R_far (p := ⟨gb888, 4, none⟩) (Kd.R_far (p := ⟨gb888, 3, none⟩) (Kd.R_far (p := ⟨gb888, 2, none⟩) (Kd.R_far (p := ⟨gb888, 1, none⟩) (Kd.R_far (p := ⟨gb888, 0, none⟩) (Kd.R_types HO_3.out BK888.out (by decide)) (fun _ hk => hk.2) (.int .i64 ((rd_T41 l0 x8_1).f0))) (fun _ hk => hk.2) (.int .i64 ((rd_T41 l0 x8_1).f1))) (fun _ hk => hk.2) (.int .i64 ((rd_T41 l0 x8_1).f2))) (fun _ hk => hk.2) (.bool ((rd_T41 l0 x8_1).f3))) (fun _ hk => hk.2) (.slice A887_4 ((rd_T41 l0 x8_1).f4).length c887_4)) (fun _ hk => trivial))); (case aS => exact (below_size hb_)); (case aL => have := LMc5.out; omega); intro v890 w8 ho hb hg hat; rw [← Ny889.out] at ho; have HO891 := Aside0.mk (ho); replace BK888 := Aside0.mk (blk_grown (g := gb888) (o := .cells #[.int .i64 ((rd_T41 l0 x8_1).f0), .int .i64 ((rd_T41 l0 x8_1).f1), .int .i64 ((rd_T41 l0 x8_1).f2), .bool ((rd_T41 l0 x8_1).f3), .slice A887_4 ((rd_T41 l0 x8_1).f4).length c887_4] 41 (0, 0)) (by (with_reducible repeat (first | refine blk_drewN ?_ _ | refine blk_drew ?_ | refine blk_alloc ?_ _)); refine blk_put (cs := #[.int .i64 ((rd_T41 l0 x8_1).f0), .int .i64 ((rd_T41 l0 x8_1).f1), .int .i64 ((rd_T41 l0 x8_1).f2), .bool ((rd_T41 l0 x8_1).f3), .slice none 0 0]) ?_ 4 _ rfl; (with_reducible repeat (first | refine blk_drewN ?_ _ | refine blk_drew ?_ | refine blk_alloc ?_ _)); refine blk_put (cs := #[.int .i64 ((rd_T41 l0 x8_1).f0), .int .i64 ((rd_T41 l0 x8_1).f1), .int .i64 ((rd_T41 l0 x8_1).f2), .bool false, .slice none 0 0]) ?_ 3 _ rfl; (with_reducible repeat (first | refine blk_drewN ?_ _ | refine blk_drew ?_ | refine blk_alloc ?_ _)); refine blk_put (cs := #[.int .i64 ((rd_T41 l0 x8_1).f0), .int .i64 ((rd_T41 l0 x8_1).f1), .int .i64 0, .bool false, .slice none 0 0]) ?_ 2 _ rfl; (with_reducible repeat (first | refine blk_drewN ?_ _ | refine blk_drew ?_ | refine blk_alloc ?_ _)); refine blk_put (cs := #[.int .i64 ((rd_T41 l0 x8_1).f0), .int .i64 0, .int .i64 0, .bool false, .slice none 0 0]) ?_ 1 _ rfl; (with_reducible repeat (first | refine blk_drewN ?_ _ | refine blk_drew ?_ | refine blk_alloc ?_ _)); refine blk_put (cs := #[.int .i64 0, .int .i64 0, .int .i64 0, .bool false, .slice none 0 0]) ?_ 0 _ rfl; (with_reducible repeat (first | refine blk_drewN ?_ _ | refine blk_drew ?_ | refine blk_alloc ?_ _)); exact BK888.out) hg (Kd.R_ne HO_3.out BK888.out (by decide))); replace HB := Aside0.mk (hb); clear HO_3; clear ho hb hg hat))
       go_roundg k1
       case measure => have := HK1.out; omega
       case rel => exact ⟨(y889), (wrap64 (x8_1 + 1)), Z1, H', ⟨by have := HK1.out; omega⟩, ⟨by (with_reducible repeat (first | apply Kd.R_alloc | apply Kd.R_drewN | apply Kd.R_drew)); exact HO891.out⟩, ⟨hb_⟩⟩
      ·rw [if_neg c5] at H
       exact absurd H (by simp)
     ·rw [if_neg c4] at H
      exact absurd H (by simp)
    ·rw [if_neg c3] at H
     exact absurd H (by simp)
   ·rw [if_neg c2] at H
    have c2b0 : decide (x8_1 < (l0.length : Int)) = false := decide_eq_false c2
    clear c2
    obtain rfl := Option.some.inj H
    go_wp2
    go_ret
    exact ⟨_, by first | rfl | (simp [errW_none, errW_some] <;> rfl) | (simp [*, errW_none, errW_some] <;> rfl), by (with_reducible repeat (first | apply Kd.R_alloc | apply Kd.R_drewN | apply Kd.R_drew)); exact HO_3.out, hb_⟩
end Go.Proofs.Ytckhjehibjdjdaa.P
namespace Go.Proofs.Ytckhjehibjdjdaa.P
open Go.RowKit Go.Proofs.YtckhjehibjdjdaaW.PrintWords
open Go.Proofs.Ytckhjehibjdjdaa.Bits Go.Proofs.Ytckhjehibjdjdaa.Mp
set_option linter.unusedVariables false
set_option linter.unusedSimpArgs false
theorem w_id {x : Int} (h : -9223372036854775808 ≤ x ∧ x ≤ 9223372036854775807) : wrap64 x = x := by unfold wrap64; omega
theorem rd51' (l : List S51) (i : Nat) (h : i < l.length) : rd_T51 l (i : Int) = l[i] := by
 simp [rd_T51, List.getD_eq_getElem?_getD, List.getElem?_eq_getElem h]
theorem rd41' (l : List S41) (i : Nat) (h : i < l.length) : rd_T41 l (i : Int) = l[i] := by
 simp [rd_T41, List.getD_eq_getElem?_getD, List.getElem?_eq_getElem h]
def freeOk (f : S51) : Bool := decide (0 ≤ f.f1) && decide (f.f1 < 18446744073709551616) && w64B f.f2
theorem eachI_nn {a b : Int} (ha : 0 ≤ a) (hb : 0 ≤ b) : 0 ≤ eachI a b := by
 unfold eachI; split
 ·omega
 ·exact Int.ediv_nonneg ha hb
theorem fitV_bd (g c mn mx m cp : Int) : 0 ≤ fitV g c mn mx m cp ∧ fitV g c mn mx m cp ≤ 16 := by
 unfold fitV
 split
 ·rename_i h
  have hg := h.1
  simp only [goodShape, Bool.and_eq_true, decide_eq_true_eq] at hg
  have h1 := eachI_nn (popI_bd m).1 (show 0 ≤ g by omega)
  have h2 := eachI_nn h.2 (show 0 ≤ c by omega)
  unfold fitN
  omega
 ·omega
def roomS (g c mn mx : Int) (view : List S51) : Int := (view.map fun f => fitV g c mn mx f.f1 f.f2).sum
theorem room_l (g c mn mx : Int) (n : Nat) : ∀ (k : Nat) (view : List S51) (s : Int) (i : Nat), view.length ≤ 4398046511104 → (∀ f ∈ view, freeOk f = true) → i ≤ view.length → view.length - i = n → n + 1 ≤ k → 0 ≤ s → s ≤ 16 * i →
  pack_Room.l0 k s view (view.length : Int) (i : Int) g c mn mx = some (s + roomS g c mn mx (view.drop i)) := by
 induction n with
 | zero =>
  intro k view s i hl hv hi hn hk h0 hs
  obtain ⟨k, rfl⟩ : ∃ m, k = m + 1 := ⟨k - 1, by omega⟩
  rw [pack_Room.l0, if_neg (by omega), List.drop_eq_nil_of_le (by omega)]
  simp [roomS]
 | succ n ih =>
  intro k view s i hl hv hi hn hk h0 hs
  obtain ⟨k, rfl⟩ : ∃ m, k = m + 1 := ⟨k - 1, by omega⟩
  have hil : i < view.length := by omega
  have hf := hv _ (List.getElem_mem hil)
  simp only [freeOk, w64B, Bool.and_eq_true, decide_eq_true_eq] at hf
  have hb := fitV_bd g c mn mx (view[i]).f1 (view[i]).f2
  have e1 : (i : Int) + 1 = ((i + 1 : Nat) : Int) := by omega
  have hfit : shape_Fits.f g c mn mx (view[i]).f0.f0 (view[i]).f0.f1 (view[i]).f1 (view[i]).f2 = some (fitV g c mn mx (view[i]).f1 (view[i]).f2) := by
   unfold shape_Fits.f; rw [if_pos ⟨hf.1.1, hf.1.2, hf.2.2⟩]
  rw [pack_Room.l0, if_pos (by omega), if_pos (by omega), if_pos (by omega), rd51' view i hil, hfit, Option.bind_some, w_id (by omega), w_id (by omega), e1,
   ih k view _ (i + 1) hl hv (by omega) (by omega) (by omega) (by omega) (by omega), List.drop_eq_getElem_cons hil]
  simp only [roomS, List.map_cons, List.sum_cons]
  congr 1
  omega
theorem room_eq (k : Nat) (view : List S51) (g c mn mx : Int) (hk : view.length + 1 ≤ k) (hl : view.length ≤ 4398046511104) (hv : ∀ f ∈ view, freeOk f = true) :
  pack_Room.f k view g c mn mx = some (roomS g c mn mx view) := by
 have := room_l g c mn mx view.length k view 0 0 hl hv (by omega) (by omega) hk (by omega) (by omega)
 rw [List.drop_zero] at this
 unfold pack_Room.f
 rw [show ((0 : Nat) : Int) = 0 from rfl] at this
 rw [this]; simp
def rightB (m g c mn mx : Int) : Bool := goodShape g c mn mx && decide (1 ≤ m) && decide (m ≤ 16)
theorem right_eq (q m g c mn mx : Int) : promise_right.f q m g c mn mx = some (rightB m g c mn mx) := by
 unfold promise_right.f shape_Check.f rightB
 by_cases h : goodShape g c mn mx = true
 ·rw [if_pos h, Option.bind_some, if_pos rfl, h]
  by_cases h1 : 1 ≤ m
  ·rw [if_pos (by omega), decide_eq_true h1]; simp
  ·rw [if_neg (by omega), decide_eq_false h1]; simp
 ·rw [if_neg h, Option.bind_some, if_neg (by decide)]
  simp [h]
def fitsB (view : List S51) (lg lc m g c mn mx : Int) : Bool := rightB m g c mn mx && decide (g * m ≤ lg) && decide (c * m ≤ lc) && decide (m ≤ roomS g c mn mx view)
theorem mul_bd {a b A B : Int} (ha : 0 ≤ a) (hA : a ≤ A) (hb : 0 ≤ b) (hB : b ≤ B) : 0 ≤ a * b ∧ a * b ≤ A * B :=
 ⟨Int.mul_nonneg ha hb, Int.mul_le_mul hA hB hb (by omega)⟩
theorem fits_eq (k : Nat) (view : List S51) (lg lc q m g c mn mx : Int) (hk : view.length + 1 ≤ k) (hl : view.length ≤ 4398046511104) (hv : ∀ f ∈ view, freeOk f = true) :
  promise_Fits.f k view lg lc q m g c mn mx = some (fitsB view lg lc m g c mn mx) := by
 unfold promise_Fits.f fitsB
 rw [right_eq, Option.bind_some]
 by_cases hr : rightB m g c mn mx = true
 ·have hr' := hr
  simp only [rightB, Bool.and_eq_true, decide_eq_true_eq] at hr'
  have hg := hr'.1.1
  have hg' := hg
  simp only [goodShape, Bool.and_eq_true, decide_eq_true_eq] at hg'
  have b1 := mul_bd (a := g) (b := m) (A := 16) (B := 16) (by omega) (by omega) (by omega) (by omega)
  have b2 := mul_bd (a := c) (b := m) (A := 1024) (B := 16) (by omega) (by omega) (by omega) (by omega)
  have hu : shape_Units.f g c mn mx m = some (g * m, c * m, 0) := by
   unfold shape_Units.f shape_Check.f
   rw [if_pos hg, Option.bind_some, if_pos rfl, if_neg (by omega), if_neg (by omega), w_id (by omega), w_id (by omega)]
  rw [if_pos hr, hu, Option.bind_some, hr]
  simp only [Bool.true_and]
  by_cases h1 : g * m ≤ lg
  ·rw [if_pos h1, decide_eq_true h1]
   by_cases h2 : c * m ≤ lc
   ·rw [if_pos h2, decide_eq_true h2, room_eq k view g c mn mx hk hl hv, Option.bind_some]
    simp
   ·rw [if_neg h2, decide_eq_false h2]; simp
  ·rw [if_neg h1, decide_eq_false h1]; simp
 ·rw [if_neg hr]
  simp [hr]
theorem all_l (n : Nat) : ∀ (k : Nat) (ends : List S41) (acc : List S52) (i : Nat), ends.length ≤ 1000000 → i ≤ ends.length → ends.length - i = n → n + 1 ≤ k → acc.length + ((ends.drop i).flatMap fun h => h.f4).length < 4398046511104 →
  promise_all.l0 k acc ends (ends.length : Int) (i : Int) = some (acc ++ (ends.drop i).flatMap fun h => h.f4) := by
 induction n with
 | zero =>
  intro k ends acc i hl hi hn hk hs
  obtain ⟨k, rfl⟩ : ∃ m, k = m + 1 := ⟨k - 1, by omega⟩
  rw [promise_all.l0, if_neg (by omega), List.drop_eq_nil_of_le (by omega)]
  simp
 | succ n ih =>
  intro k ends acc i hl hi hn hk hs
  obtain ⟨k, rfl⟩ : ∃ m, k = m + 1 := ⟨k - 1, by omega⟩
  have hil : i < ends.length := by omega
  have e1 : (i : Int) + 1 = ((i + 1 : Nat) : Int) := by omega
  rw [List.drop_eq_getElem_cons hil] at hs ⊢
  simp only [List.flatMap_cons, List.length_append] at hs
  rw [promise_all.l0, if_pos (by omega), if_pos (by omega), if_pos (by omega), rd41' ends i hil, if_pos (by omega), w_id (by omega), e1, ih k ends _ (i + 1) hl (by omega) (by omega) (by omega) (by rw [List.length_append]; omega)]
  rw [List.flatMap_cons, List.append_assoc]
theorem all_eq (k : Nat) (ends : List S41) (hk : ends.length + 1 ≤ k) (hl : ends.length ≤ 1000000) (hs : (ends.flatMap fun h => h.f4).length < 4398046511104) : promise_all.f k ends = some (ends.flatMap fun h => h.f4) := by
 have := all_l ends.length k ends [] 0 hl (by omega) (by omega) hk (by simpa using hs)
 rw [List.drop_zero] at this
 unfold promise_all.f
 exact this
def goE (q m g c mn mx : Int) : List S41 → Int → List S51 → Int × Int → Int
 | [], t, view, left => if fitsB view left.1 left.2 m g c mn mx = true then t else 1073741825
 | h :: l, t, view, left =>
  if h.f2 > t then
   if fitsB view left.1 left.2 m g c mn mx = true then t
   else if h.f2 ≥ 1073741825 then 1073741825
   else goE q m g c mn mx l h.f2 (turned51 moreE moreF view h.f4).1 (addL (decide (h.f1 = q)) left h.f4)
  else goE q m g c mn mx l t (turned51 moreE moreF view h.f4).1 (addL (decide (h.f1 = q)) left h.f4)
def skey41 (h : S41) : Int := h.f2
def earliestB (now : Int) (view : List S51) (lg lc : Int) (ends : List S41) (q m g c mn mx : Int) : Int × Int :=
 if now < 0 ∨ now > 1073741824 ∨ rightB m g c mn mx = false then (0, 1)
 else if (turned51 moreE moreF view (ends.flatMap fun h => h.f4)).2 ≠ 0 then (0, (turned51 moreE moreF view (ends.flatMap fun h => h.f4)).2)
 else (goE q m g c mn mx (isort skey41 ends) now view (lg, lc), 0)
def okE (view : List S51) (ends : List S41) : Bool := decide (ends.length ≤ 1000) && spotsOk view (ends.flatMap fun h => h.f4) && view.all freeOk && (ends.flatMap fun h => h.f4).all maskOk && decide ((ends.flatMap fun h => h.f4).length < 4000000000)
def promise_Earliest.f (now : Int) (view : List S51) (lg lc : Int) (ends : List S41) (q m g c mn mx : Int) : Option (Int × Int) := if okE view ends = true then some (earliestB now view lg lc ends q m g c mn mx) else none
theorem or_u64 {a b : Int} (ha : 0 ≤ a ∧ a < 18446744073709551616) (hb : 0 ≤ b ∧ b < 18446744073709551616) : 0 ≤ Go.bits .or .u64 a b ∧ Go.bits .or .u64 a b < 18446744073709551616 := by
 obtain ⟨x, rfl⟩ := Int.eq_ofNat_of_zero_le ha.1
 obtain ⟨y, rfl⟩ := Int.eq_ofNat_of_zero_le hb.1
 rw [bits_or_u64_nat x y (by omega) (by omega)]
 have := Nat.or_lt_two_pow (x := x) (y := y) (n := 64) (by omega) (by omega)
 omega
theorem w64_wrap (x : Int) : w64B (wrap64 x) = true := by unfold w64B wrap64; simp; omega
def viewOk (view : List S51) : Prop := view.length < 4398046511104 ∧ (∀ f ∈ view, freeOk f = true) ∧ ∀ f ∈ view, (w64B f.f0.f0 && w64B f.f0.f1) = true
theorem moreF_ok {f : S51} {s : S52} (hf : freeOk f = true) (hs : maskOk s = true) : freeOk (moreF f s) = true := by
 simp only [freeOk, maskOk, Bool.and_eq_true, decide_eq_true_eq] at *
 have := or_u64 hf.1 hs
 exact ⟨this, w64_wrap _⟩
theorem turned_ok (ix : Int → Int → Option Int) : ∀ (slots : List S52) (out : List S51), viewOk out → (∀ s ∈ slots, maskOk s = true) → (∀ a b k, ix a b = some k → 0 ≤ k ∧ k < out.length) → viewOk (turnedL moreE moreF ix out slots).1
 | [], out, h, _, _ => h
 | s :: ss, out, h, hs, hix => by
  have h0 : viewOk [] := ⟨by simp, by simp, by simp⟩
  rw [turnedL]
  split
  ·exact h0
  ·cases hk : ix s.f0.f0 s.f0.f1 with
   | none => exact h0
   | some k =>
    simp only
    split
    ·have hkb := hix _ _ _ hk
     obtain ⟨kn, rfl⟩ := Int.eq_ofNat_of_zero_le hkb.1
     have hkl : kn < out.length := by omega
     rw [Int.toNat_natCast, rd51' out kn hkl]
     have hm := List.getElem_mem hkl
     refine turned_ok ix ss _ ⟨by rw [List.length_set]; exact h.1, fun f hf => ?_, fun f hf => ?_⟩ (fun x hx => hs x (by simp [hx])) (fun a b k hh => by rw [List.length_set]; exact hix a b k hh)
     ·rcases List.mem_or_eq_of_mem_set hf with hf | rfl
      ·exact h.2.1 f hf
      ·exact moreF_ok (h.2.1 _ hm) (hs s (by simp))
     ·rcases List.mem_or_eq_of_mem_set hf with hf | rfl
      ·exact h.2.2 f hf
      ·exact h.2.2 out[kn] hm
    ·exact h0
theorem turned51_ok {view : List S51} {slots : List S52} (h : viewOk view) (hs : ∀ s ∈ slots, maskOk s = true) : viewOk (turned51 moreE moreF view slots).1 :=
 turned_ok _ slots view h hs (fun a b k hh => ixS_bd view view.length a b k hh)
theorem more_eq {view : List S51} {slots : List S52} (h : viewOk view) (hs : ∀ s ∈ slots, (w64B s.f0.f0 && w64B s.f0.f1) = true) : pack_More.f view slots = some (turned51 moreE moreF view slots) := by
 unfold pack_More.f
 rw [if_pos]
 unfold spotsOk
 rw [decide_eq_true h.1, List.all_eq_true.2 h.2.2, List.all_eq_true.2 hs]; rfl
end Go.Proofs.Ytckhjehibjdjdaa.P
namespace Go.Proofs.Ytckhjehibjdjdaa.P
set_option linter.unusedVariables false
set_option linter.unusedSimpArgs false
section
variable {α : Type} (key : α → Int)
def mrg : List α → List α → List α
 | [], V => V
 | u :: U, [] => u :: U
 | u :: U, v :: V => if key v < key u then v :: mrg (u :: U) V else u :: mrg U (v :: V)
termination_by U V => U.length + V.length
def Srt (l : List α) : Prop := l.Pairwise (fun a b => key a ≤ key b)
theorem mrg_nil_left (V : List α) : mrg key [] V = V := by rw [mrg]
theorem mrg_nil_right (U : List α) : mrg key U [] = U := by cases U <;> rw [mrg]
theorem mrg_perm (U V : List α) : (mrg key U V).Perm (U ++ V) := by
 fun_induction mrg key U V with
 | case1 V => simp
 | case2 u U => simp
 | case3 u U v V h ih => exact (ih.cons v).trans (by simpa using (List.perm_middle (a := v) (l₁ := u :: U) (l₂ := V)).symm)
 | case4 u U v V h ih => exact ih.cons u
theorem mrg_length (U V : List α) : (mrg key U V).length = U.length + V.length := by rw [(mrg_perm key U V).length_eq, List.length_append]
theorem mrg_sorted (U V : List α) (hU : Srt key U) (hV : Srt key V) : Srt key (mrg key U V) := by
 fun_induction mrg key U V with
 | case1 V => exact hV
 | case2 u U => exact hU
 | case3 u U v V h ih =>
  refine List.pairwise_cons.2 ⟨fun x hx => ?_, ih hU (List.pairwise_cons.1 hV).2⟩
  rcases List.mem_append.1 ((mrg_perm key _ _).mem_iff.1 hx) with hx | hx
  ·rcases List.mem_cons.1 hx with rfl | hx
   ·omega
   ·have := (List.pairwise_cons.1 hU).1 x hx; omega
  ·exact (List.pairwise_cons.1 hV).1 x hx
 | case4 u U v V h ih =>
  refine List.pairwise_cons.2 ⟨fun x hx => ?_, ih (List.pairwise_cons.1 hU).2 hV⟩
  rcases List.mem_append.1 ((mrg_perm key _ _).mem_iff.1 hx) with hx | hx
  ·exact (List.pairwise_cons.1 hU).1 x hx
  ·rcases List.mem_cons.1 hx with rfl | hx
   ·omega
   ·have := (List.pairwise_cons.1 hV).1 x hx; omega
theorem mrg_right_first (U V1 V2 : List α) (h : ∀ x ∈ U, ∀ y ∈ V1, key y < key x) : mrg key U (V1 ++ V2) = V1 ++ mrg key U V2 := by
 induction V1 with
 | nil => rfl
 | cons v V ih =>
  cases U with
  | nil => rw [mrg_nil_left, mrg_nil_left]
  | cons u U =>
   rw [List.cons_append, mrg, if_pos (h u (by simp) v (by simp)), ih (fun x hx y hy => h x hx y (by simp [hy]))]; rfl
theorem mrg_left_first (U1 U2 V : List α) (h : ∀ x ∈ U1, ∀ y ∈ V, key x ≤ key y) : mrg key (U1 ++ U2) V = U1 ++ mrg key U2 V := by
 induction U1 with
 | nil => rfl
 | cons u U ih =>
  cases V with
  | nil => rw [mrg_nil_right, mrg_nil_right]
  | cons v V =>
   have := h u (by simp) v (by simp)
   rw [List.cons_append, mrg, if_neg (by omega), ih (fun x hx y hy => h x (by simp [hx]) y hy)]; rfl
theorem mrg_split (U1 U2 V1 V2 : List α) (h12 : ∀ x ∈ U1, ∀ y ∈ V2, key x ≤ key y) (h21 : ∀ x ∈ U2, ∀ y ∈ V1, key y < key x) :
  mrg key (U1 ++ U2) (V1 ++ V2) = mrg key U1 V1 ++ mrg key U2 V2 := by
 fun_induction mrg key U1 V1 with
 | case1 V => rw [List.nil_append]; exact mrg_right_first key U2 V V2 h21
 | case2 u U => rw [List.nil_append]; exact mrg_left_first key (u :: U) U2 V2 h12
 | case3 u U v V h ih =>
  rw [List.cons_append, List.cons_append, mrg, if_pos h]
  show v :: mrg key (u :: U ++ U2) (V ++ V2) = _
  rw [ih h12 (fun x hx y hy => h21 x hx y (by simp [hy]))]; rfl
 | case4 u U v V h ih =>
  rw [List.cons_append, List.cons_append, mrg, if_neg h]
  show u :: mrg key (U ++ U2) (v :: V ++ V2) = _
  rw [ih (fun x hx y hy => h12 x (by simp [hx]) y hy) h21]; rfl
theorem mrg_one_left (u : α) (V1 V2 : List α) (h1 : ∀ y ∈ V1, key y < key u) (h2 : ∀ y ∈ V2, key u ≤ key y) : mrg key [u] (V1 ++ V2) = V1 ++ u :: V2 := by
 rw [mrg_right_first key [u] V1 V2 (fun x hx y hy => by rw [List.mem_singleton.1 hx]; exact h1 y hy)]
 have := mrg_left_first key [u] [] V2 (fun x hx y hy => by rw [List.mem_singleton.1 hx]; exact h2 y hy)
 rw [List.append_nil, mrg_nil_left] at this
 rw [this]; rfl
theorem mrg_one_right (v : α) (U1 U2 : List α) (h1 : ∀ x ∈ U1, key x ≤ key v) (h2 : ∀ x ∈ U2, key v < key x) : mrg key (U1 ++ U2) [v] = U1 ++ v :: U2 := by
 rw [mrg_left_first key U1 U2 [v] (fun x hx y hy => by rw [List.mem_singleton.1 hy]; exact h1 x hx)]
 have := mrg_right_first key U2 [v] [] (fun x hx y hy => by rw [List.mem_singleton.1 hy]; exact h2 x hx)
 rw [List.append_nil, mrg_nil_right] at this
 rw [this]; rfl
theorem insK_eq (x : α) (L : List α) (h : Srt key L) : insK key x L = mrg key L [x] := by
 induction L with
 | nil => simp [insK, mrg]
 | cons y L ih =>
  have hs := (List.pairwise_cons.1 h)
  rw [insK, mrg]
  split
  ·rename_i hlt
   rw [mrg_nil_right]
  ·rw [ih hs.2]
theorem mrg_ins (U V : List α) (x : α) (hU : Srt key U) (hV : Srt key V) : mrg key U (insK key x V) = insK key x (mrg key U V) := by
 rw [insK_eq key x V hV, insK_eq key x _ (mrg_sorted key U V hU hV)]
 fun_induction mrg key U V with
 | case1 V => rw [mrg_nil_left]
 | case2 u U => rw [mrg_nil_left]
 | case3 u U v V h ih =>
  have i := ih hU (List.pairwise_cons.1 hV).2
  by_cases hx : key x < key v
  ·have e1 : mrg key (v :: V) [x] = x :: v :: V := by rw [mrg, if_pos hx, mrg_nil_right]
   have e2 : mrg key (v :: mrg key (u :: U) V) [x] = x :: v :: mrg key (u :: U) V := by rw [mrg, if_pos hx, mrg_nil_right]
   rw [e1, e2, mrg, if_pos (by omega), mrg, if_pos h]
  ·have e1 : mrg key (v :: V) [x] = v :: mrg key V [x] := by rw [mrg, if_neg hx]
   have e2 : mrg key (v :: mrg key (u :: U) V) [x] = v :: mrg key (mrg key (u :: U) V) [x] := by rw [mrg, if_neg hx]
   rw [e1, e2, mrg, if_pos h, i]
 | case4 u U v V h ih =>
  have i := ih (List.pairwise_cons.1 hU).2 hV
  by_cases hx : key x < key v
  ·have e1 : mrg key (v :: V) [x] = x :: v :: V := by rw [mrg, if_pos hx, mrg_nil_right]
   rw [e1] at i ⊢
   by_cases hu : key x < key u
   ·have e2 : mrg key (u :: mrg key U (v :: V)) [x] = x :: u :: mrg key U (v :: V) := by rw [mrg, if_pos hu, mrg_nil_right]
    rw [e2, mrg, if_pos hu, mrg, if_neg h]
   ·have e2 : mrg key (u :: mrg key U (v :: V)) [x] = u :: mrg key (mrg key U (v :: V)) [x] := by rw [mrg, if_neg hu]
    rw [e2, mrg, if_neg hu, i]
  ·have e1 : mrg key (v :: V) [x] = v :: mrg key V [x] := by rw [mrg, if_neg hx]
   have e2 : mrg key (u :: mrg key U (v :: V)) [x] = u :: mrg key (mrg key U (v :: V)) [x] := by rw [mrg, if_neg (by omega)]
   rw [e2, ← i, e1, mrg, if_neg h]
theorem isort_append_n (l1 : List α) : ∀ (n : Nat) (l2 : List α), l2.length = n → isort key (l1 ++ l2) = mrg key (isort key l1) (isort key l2)
 | 0, l2, h => by
  rw [List.eq_nil_of_length_eq_zero h, List.append_nil]; show _ = mrg key _ []; rw [mrg_nil_right]
 | n + 1, l2, h => by
  have hne : l2 ≠ [] := fun e => by rw [e] at h; cases h
  have e := List.dropLast_concat_getLast hne
  have hl : l2.dropLast.length = n := by rw [List.length_dropLast]; omega
  have ih := isort_append_n l1 n l2.dropLast hl
  rw [← e, ← List.append_assoc, isort_snoc, isort_snoc, ih, mrg_ins key _ _ _ (isort_sorted key l1) (isort_sorted key _)]
theorem isort_append (l1 l2 : List α) : isort key (l1 ++ l2) = mrg key (isort key l1) (isort key l2) := isort_append_n key l1 _ l2 rfl
end
end Go.Proofs.Ytckhjehibjdjdaa.P
namespace Go.Proofs.Ytckhjehibjdjdaa.P
set_option linter.unusedVariables false
set_option linter.unusedSimpArgs false
section
variable {α : Type}
def sw1 (xs : List α) (p q : Nat) : List α := match xs[p]?, xs[q]? with
 | some x, some y => (xs.set p y).set q x
 | _, _ => xs
def swR (xs : List α) (a b : Nat) : Nat → List α
 | 0 => xs
 | i + 1 => sw1 (swR xs a b i) (a + i) (b + i)
theorem sw1_len (xs : List α) (p q : Nat) : (sw1 xs p q).length = xs.length := by
 unfold sw1; split <;> simp
theorem swR_len (xs : List α) (a b : Nat) : ∀ i, (swR xs a b i).length = xs.length
 | 0 => rfl
 | i + 1 => by rw [swR, sw1_len, swR_len xs a b i]
theorem sw1_eq {xs : List α} {p q : Nat} {x y : α} (hx : xs[p]? = some x) (hy : xs[q]? = some y) : sw1 xs p q = (xs.set p y).set q x := by
 unfold sw1; rw [hx, hy]
theorem swR_get (xs : List α) (a b c : Nat) (hab : a + c ≤ b) (hb : b + c ≤ xs.length) : ∀ i, i ≤ c → ∀ j, (swR xs a b i)[j]? = if a ≤ j ∧ j < a + i then xs[j - a + b]? else if b ≤ j ∧ j < b + i then xs[j - b + a]? else xs[j]? := by
 intro i
 induction i with
 | zero => intro _ j; rw [swR, if_neg (by omega), if_neg (by omega)]
 | succ i ih =>
  intro hi j
  have I := ih (by omega)
  have h1 : (swR xs a b i)[a + i]? = xs[a + i]? := by rw [I, if_neg (by omega), if_neg (by omega)]
  have h2 : (swR xs a b i)[b + i]? = xs[b + i]? := by rw [I, if_neg (by omega), if_neg (by omega)]
  have e1 : xs[a + i]? = some xs[a + i] := List.getElem?_eq_getElem (by omega)
  have e2 : xs[b + i]? = some xs[b + i] := List.getElem?_eq_getElem (by omega)
  have hl := swR_len xs a b i
  rw [swR, sw1_eq (h1.trans e1) (h2.trans e2), List.getElem?_set, List.length_set, hl]
  by_cases hj : b + i = j
  ·rw [if_pos hj, if_pos (by omega), if_neg (by omega), if_pos (by omega), ← e1]
   congr 1; omega
  ·rw [if_neg hj, List.getElem?_set, hl]
   by_cases hj2 : a + i = j
   ·rw [if_pos hj2, if_pos (by omega), if_pos (by omega), ← e2]
    congr 1; omega
   ·rw [if_neg hj2, I]
    by_cases c1 : a ≤ j ∧ j < a + i
    ·rw [if_pos c1, if_pos (by omega)]
    ·rw [if_neg c1, if_neg (show ¬ (a ≤ j ∧ j < a + (i + 1)) by omega)]
     by_cases c2 : b ≤ j ∧ j < b + i
     ·rw [if_pos c2, if_pos (by omega)]
     ·rw [if_neg c2, if_neg (show ¬ (b ≤ j ∧ j < b + (i + 1)) by omega)]
theorem swR_lists (X A Y B Z : List α) (h : A.length = B.length) : swR (X ++ (A ++ (Y ++ (B ++ Z)))) X.length (X.length + A.length + Y.length) A.length = X ++ (B ++ (Y ++ (A ++ Z))) := by
 apply List.ext_getElem?
 intro j
 rw [swR_get _ _ _ A.length (by omega) (by simp only [List.length_append]; omega) _ (Nat.le_refl _)]
 simp only [List.getElem?_append, List.length_append]
 repeat' split
 all_goals first | rfl | omega | (congr 1; omega)
end
end Go.Proofs.Ytckhjehibjdjdaa.P
namespace Go.Proofs.Ytckhjehibjdjdaa.P
open Go.RowKit Go.Shelf Go.Proofs.YtckhjehibjdjdaaW.PrintWords Go.Proofs.YtckhjehibjdjdaaW.PrintLast Go.Proofs.YtckhjehibjdjdaaW.PrintMore
attribute [local go_sem] Oper.semAt_some
set_option linter.unusedVariables false
set_option linter.unusedSimpArgs false
set_option maxHeartbeats 8000000 in
set_option maxRecDepth 100000 in
theorem swapRange_any (g n cap base a b c : Nat) (ok : Nat → Prop) (xs : List (HV)) (w : World) (hr : Kd.R kh 41 w base ok (.slice (some ⟨g, 0, none⟩) n cap) xs) (hab : a + c ≤ b) (hb : b + c ≤ n) (hn : n ≤ 4611686018427387904) (hok : ∀ k, ok k → k < w.heap.size) :
  Calls Try.prog 139 #[.slice (some ⟨g, 0, none⟩) n cap, .int .i64 a, .int .i64 b, .int .i64 c, .func (.func 72) #[] #[]] w fun e w' => e = .returned (.tuple #[]) ∧ Kd.R kh 41 w' base ok (.slice (some ⟨g, 0, none⟩) n cap) (swR xs a b c) ∧ w.grownBy w' (some g) := by
 have hu41 := Try.underlying41
 have HR := Aside0.mk hr
 have hxl : xs.length = n := (Kd.R_reads' hr).1.symm
 clear hr
 go_enter Try.func139, Try.ntmps139
 go_wp2
 go_loopw [10] (fun v10 wr => ∃ i : Nat, i ≤ c ∧ v10 = .int .i64 (i : Int) ∧ Aside0 (Kd.R kh 41 wr base ok (.slice (some ⟨g, 0, none⟩) n cap) (swR xs a b i)) ∧ Aside0 (w.grownBy wr (some g))) (fun v10 _ => c - (intOf v10).toNat)
 case atStart => exact ⟨0, Nat.zero_le _, rfl, HR, ⟨grown_refl _ _⟩⟩
 case round =>
  obtain ⟨i, hi, rfl, HA, HG⟩ := hrel
  by_cases hlt : i < c
  ·have hlt' : (i : Int) < c := by omega
   have hl := swR_len xs a b i
   have hgx := List.getElem?_eq_getElem (show a + i < (swR xs a b i).length by omega)
   have hgy := List.getElem?_eq_getElem (show b + i < (swR xs a b i).length by omega)
   have HST := Aside0.mk (show swR xs a b (i + 1) = _ from sw1_eq hgx hgy)
   generalize (swR xs a b i)[a + i] = x at *
   generalize (swR xs a b i)[b + i] = y at *
   obtain ⟨x0, x1, x2, x3, x4⟩ := at_kh HA.out (a + i) x hgx
   obtain ⟨y0, y1, y2, y3, y4⟩ := at_kh HA.out (b + i) y hgy
   obtain ⟨g', cap', cur, hv, _, _, hh⟩ := ownh HA.out (by omega)
   injection hv with ha hn1 hc1
   injection ha with ha
   injection ha with ha
   subst ha
   clear hn1 hc1 hgx hgy
   have z0 := blk_frozen hh ((a + i) * 5)
   have z1 := blk_frozen hh ((a + i) * 5 + 1)
   have z2 := blk_frozen hh ((a + i) * 5 + 2)
   have z3 := blk_frozen hh ((a + i) * 5 + 3)
   have z4 := blk_frozen hh ((a + i) * 5 + 4)
   have v0 := blk_frozen hh ((b + i) * 5)
   have v1 := blk_frozen hh ((b + i) * 5 + 1)
   have v2 := blk_frozen hh ((b + i) * 5 + 2)
   have v3 := blk_frozen hh ((b + i) * 5 + 3)
   have v4 := blk_frozen hh ((b + i) * 5 + 4)
   clear hh
   have p1 := put_kh HA.out (a + i) (by omega) y
   have p2 := put_kh p1.1 (b + i) (by omega) x
   have hR5 := Kd.R_drew p2.1
   have hG5 := grown_drew (grown_grown (grown_grown HG.out p1.2) p2.2)
   rw [← HST.out] at hR5
   simp only [hc, World.setCells, Nat.add_assoc, Nat.reduceAdd] at hR5 hG5
   have HR5 := Aside0.mk hR5
   have HG5 := Aside0.mk hG5
   clear hR5 hG5 p1 p2 HST
   have e1 : IntKind.i64.wrap ((a : Int) + (i : Int)) = (a : Int) + (i : Int) := by rw [IntKind.wrap_i64]; omega
   have e2 : IntKind.i64.wrap ((b : Int) + (i : Int)) = (b : Int) + (i : Int) := by rw [IntKind.wrap_i64]; omega
   have i0 : (0 : Int) ≤ (a : Int) + (i : Int) := by omega
   have i1 : (a : Int) + (i : Int) < n := by omega
   have i2 : (0 : Int) ≤ (b : Int) + (i : Int) := by omega
   have i3 : (b : Int) + (i : Int) < n := by omega
   have i4 : ((a : Int) + (i : Int)).toNat = a + i := by omega
   have i5 : ((b : Int) + (i : Int)).toNat = b + i := by omega
   go_wp2
   go_region
   revert HR5 HG5
   generalize World.drew _ = w5
   intro HR5 HG5
   go_wp2
   go_roundw
   case rel => exact ⟨i + 1, by omega, by go_num, HR5, HG5⟩
   case measure => simp [intOf]; omega
  ·obtain rfl : i = c := by omega
   go_wp2
   go_end0
   exact ⟨rfl, HA.out, HG.out⟩
theorem swap_lists (g n cap base : Nat) (ok : Nat → Prop) (X A Y B Z : List HV) (w : World) (a b c : Nat) (hr : Kd.R kh 41 w base ok (.slice (some ⟨g, 0, none⟩) n cap) (X ++ (A ++ (Y ++ (B ++ Z))))) (ha : a = X.length) (hb : b = X.length + A.length + Y.length) (hc : c = A.length) (hB : A.length = B.length) (hn : n ≤ 4611686018427387904) (hok : ∀ k, ok k → k < w.heap.size) :
  Calls Try.prog 139 #[.slice (some ⟨g, 0, none⟩) n cap, .int .i64 a, .int .i64 b, .int .i64 c, .func (.func 72) #[] #[]] w fun e w' => e = .returned (.tuple #[]) ∧ Kd.R kh 41 w' base ok (.slice (some ⟨g, 0, none⟩) n cap) (X ++ (B ++ (Y ++ (A ++ Z)))) ∧ w.grownBy w' (some g) := by
 have hl := (Kd.R_reads' hr).1
 simp only [List.length_append] at hl
 subst ha hb hc
 rw [← swR_lists X A Y B Z hB]
 exact swapRange_any g n cap base _ _ _ ok _ w hr (by omega) (by omega) hn hok
set_option maxHeartbeats 8000000 in
set_option maxRecDepth 100000 in
theorem rotate_any (g n cap base a m b : Nat) (ok : Nat → Prop) (X U V Z : List HV) (w : World) (hr : Kd.R kh 41 w base ok (.slice (some ⟨g, 0, none⟩) n cap) (X ++ (U ++ (V ++ Z)))) (ha : a = X.length) (hm : m = X.length + U.length) (hb : b = X.length + U.length + V.length) (hU : 0 < U.length) (hV : 0 < V.length) (hn : n ≤ 1000000000000) (hok : ∀ k, ok k → k < w.heap.size) :
  Calls Try.prog 136 #[.slice (some ⟨g, 0, none⟩) n cap, .int .i64 a, .int .i64 m, .int .i64 b, .func (.func 72) #[] #[]] w fun e w' => e = .returned (.tuple #[]) ∧ Kd.R kh 41 w' base ok (.slice (some ⟨g, 0, none⟩) n cap) (X ++ (V ++ (U ++ Z))) ∧ w.grownBy w' (some g) := by
 have HR := Aside0.mk hr
 have hxl := (Kd.R_reads' hr).1
 simp only [List.length_append] at hxl
 have HOK := Aside0.mk hok
 obtain ⟨ui, hui⟩ : ∃ ui, U.length = ui := ⟨_, rfl⟩
 obtain ⟨vj, hvj⟩ : ∃ vj, V.length = vj := ⟨_, rfl⟩
 have HUI := Aside0.mk hui
 have HVJ := Aside0.mk hvj
 have bm : m ≤ n ∧ b ≤ n ∧ ui ≤ m ∧ a ≤ m ∧ m ≤ b ∧ 0 < ui ∧ 0 < vj := by omega
 have hs1 : IntKind.i64.wrap ((m : Int) - (a : Int)) = (ui : Int) := by rw [IntKind.wrap_i64]; omega
 have hs2 : IntKind.i64.wrap ((b : Int) - (m : Int)) = (vj : Int) := by rw [IntKind.wrap_i64]; omega
 have hs1' : (m : Int) - (a : Int) = (ui : Int) := by omega
 have hs2' : (b : Int) - (m : Int) = (vj : Int) := by omega
 have HM := Aside0.mk hm
 have HXL := Aside0.mk hxl
 obtain ⟨b1, b2, b3, b4, b5, b6, b7⟩ := bm
 clear hr hok hui hvj hxl hm ha hb hU hV
 go_enter Try.func136, Try.ntmps136
 go_wp2
 go_loopw [10, 11] (fun v10 v11 wr => ∃ (i j : Nat) (X1 U1 V1 Z1 : List HV), v10 = .int .i64 (i : Int) ∧ v11 = .int .i64 (j : Int) ∧ 0 < i ∧ 0 < j ∧ Aside0 (U1.length = i) ∧ Aside0 (V1.length = j) ∧ Aside0 (X1.length + i = m) ∧ Aside0 (X1 ++ (V1 ++ (U1 ++ Z1)) = X ++ (V ++ (U ++ Z))) ∧
  Aside0 (Kd.R kh 41 wr base ok (.slice (some ⟨g, 0, none⟩) n cap) (X1 ++ (U1 ++ (V1 ++ Z1)))) ∧ Aside0 (w.grownBy wr (some g))) (fun v10 v11 _ => (intOf v10).toNat + (intOf v11).toNat)
 case atStart => exact ⟨ui, vj, X, U, V, Z, by first | rfl | (simp [hs1']; done), by first | rfl | (simp [hs2']; done), b6, b7, HUI, HVJ, ⟨by have := HM.out; have := HUI.out; omega⟩, ⟨rfl⟩, HR, ⟨grown_refl _ _⟩⟩
 case round =>
  clear HR HUI HVJ HM
  obtain ⟨i, j, X1, U1, V1, Z1, rfl, rfl, hi, hj, HU, HV, HX, HT, HA, HG⟩ := hrel
  have hlen : X1.length + (i + (j + Z1.length)) = n := by
   have := (Kd.R_reads' HA.out).1
   simp only [List.length_append] at this
   have := HU.out; have := HV.out; omega
  have hok1 : ∀ k, ok k → k < wr.heap.size := fun k hk => Nat.lt_of_lt_of_le (HOK.out k hk) HG.out.size
  have hxm := HX.out
  by_cases hij : i = j
  ·subst hij
   have e0 : ((i : Int) != (i : Int)) = false := by simp
   have e1 : IntKind.i64.wrap ((m : Int) - (i : Int)) = ((m - i : Nat) : Int) := by rw [IntKind.wrap_i64]; omega
   have e2 : (m : Int) - (i : Int) = ((m - i : Nat) : Int) := by omega
   have hcall := swap_lists g n cap base ok X1 U1 [] V1 Z1 wr (m - i) m i HA.out (by omega) (by have := HU.out; simp; omega) HU.out.symm (by have := HU.out; have := HV.out; omega) (by omega) hok1
   rw [List.nil_append, HT.out] at hcall
   have HC := Aside0.mk hcall
   clear hcall hok1 hxm
   go_wp2_with (go_at_call 139; refine HC.out.mono ?_; rintro e w5 ⟨rfl, hr5, hg5⟩; have HR5 := Aside0.mk hr5; have HG5 := Aside0.mk (grown_grown HG.out hg5); clear hr5 hg5)
   go_end0
   exact ⟨rfl, HR5.out, HG5.out⟩
  ·have e0 : ((i : Int) != (j : Int)) = true := by simp; omega
   by_cases hgt : j < i
   ·have e1 : decide ((j : Int) < (i : Int)) = true := by simp; omega
    have e2 : (m : Int) - (i : Int) = ((m - i : Nat) : Int) := by omega
    have hsp : U1 = U1.take j ++ U1.drop j := (List.take_append_drop j U1).symm
    have hl1 : (U1.take j).length = j := by rw [List.length_take]; have := HU.out; omega
    have hl2 : (U1.drop j).length = i - j := by rw [List.length_drop]; have := HU.out; omega
    generalize U1.take j = P at *
    generalize U1.drop j = Q at *
    subst hsp
    have hA := HA.out
    rw [List.append_assoc] at hA
    have hcall := swap_lists g n cap base ok X1 P Q V1 Z1 wr (m - i) m j hA (by omega) (by omega) hl1.symm (by have := HV.out; omega) (by omega) hok1
    have HC := Aside0.mk hcall
    have HT2 := Aside0.mk (show (X1 ++ V1) ++ (P ++ (Q ++ Z1)) = X ++ (V ++ (U ++ Z)) from by rw [← HT.out]; simp)
    clear hcall hok1 hA HT HU HA
    have HL1 := Aside0.mk hl1
    have HL2 := Aside0.mk hl2
    have HX2 := Aside0.mk (show (X1 ++ V1).length + (i - j) = m from by rw [List.length_append]; have := HV.out; omega)
    clear hl1 hl2 hxm HX
    go_wp2_with (go_at_call 139; refine HC.out.mono ?_; rintro e w5 ⟨rfl, hr5, hg5⟩; have HR5 := Aside0.mk (show Kd.R kh 41 w5 base ok (.slice (some ⟨g, 0, none⟩) n cap) ((X1 ++ V1) ++ (Q ++ (P ++ Z1))) from by rw [List.append_assoc]; exact hr5); have HG5 := Aside0.mk (grown_grown HG.out hg5); clear hr5 hg5)
    go_roundw
    case rel => exact ⟨i - j, j, X1 ++ V1, Q, P, Z1, by go_num, rfl, by omega, hj, HL2, HL1, HX2, HT2, HR5, HG5⟩
    case measure => simp [intOf]; omega
   ·have e1 : decide ((j : Int) < (i : Int)) = false := by simp; omega
    have e2 : (m : Int) - (i : Int) = ((m - i : Nat) : Int) := by omega
    have e3 : (m : Int) + (j : Int) - (i : Int) = ((m + j - i : Nat) : Int) := by omega
    have hsp : V1 = V1.take (j - i) ++ V1.drop (j - i) := (List.take_append_drop _ V1).symm
    have hl1 : (V1.take (j - i)).length = j - i := by rw [List.length_take]; have := HV.out; omega
    have hl2 : (V1.drop (j - i)).length = i := by rw [List.length_drop]; have := HV.out; omega
    generalize V1.take (j - i) = P at *
    generalize V1.drop (j - i) = Q at *
    subst hsp
    have hA := HA.out
    rw [List.append_assoc] at hA
    have hcall := swap_lists g n cap base ok X1 U1 P Q Z1 wr (m - i) (m + j - i) i hA (by omega) (by have := HU.out; omega) HU.out.symm (by have := HU.out; omega) (by omega) hok1
    have HC := Aside0.mk hcall
    have HT2 := Aside0.mk (show X1 ++ (P ++ (Q ++ (U1 ++ Z1))) = X ++ (V ++ (U ++ Z)) from by rw [← HT.out]; simp)
    clear hcall hok1 hA HT HV HA
    have HL1 := Aside0.mk hl1
    have HL2 := Aside0.mk hl2
    clear hl1 hl2 hxm
    go_wp2_with (go_at_call 139; refine HC.out.mono ?_; rintro e w5 ⟨rfl, hr5, hg5⟩; have HR5 := Aside0.mk hr5; have HG5 := Aside0.mk (grown_grown HG.out hg5); clear hr5 hg5)
    go_roundw
    case rel => exact ⟨i, j - i, X1, Q, P, U1 ++ Z1, rfl, by go_num, hi, by omega, HL2, HL1, HX, HT2, HR5, HG5⟩
    case measure => simp [intOf]; omega
end Go.Proofs.Ytckhjehibjdjdaa.P
namespace Go.Proofs.Ytckhjehibjdjdaa.P
open Go.RowKit Go.Shelf Go.Proofs.YtckhjehibjdjdaaW.PrintWords Go.Proofs.YtckhjehibjdjdaaW.PrintLast Go.Proofs.YtckhjehibjdjdaaW.PrintMore
attribute [local go_sem] Oper.semAt_some
set_option linter.unusedVariables false
set_option linter.unusedSimpArgs false
theorem int_i64 {a b : Int} (h : a = b) : Value.int .i64 a = Value.int .i64 b := by rw [h]
theorem cmpI_lt (x y : Int) : decide (cmpI x y < 0) = decide (x < y) := by
 unfold cmpI
 by_cases h : x < y
 ·rw [if_pos h, decide_eq_true h]; rfl
 ·rw [if_neg h, decide_eq_false h]; split <;> rfl
theorem row_at {X V Z : List HV} (u : HV) {h m : Nat} (hm : m = X.length + 1) (h1 : m ≤ h) (h2 : h - m < V.length) : (X ++ (u :: (V ++ Z)))[h]? = some V[h - m] := by
 rw [List.getElem?_append_right (by omega), show h - X.length = (h - m) + 1 by omega, List.getElem?_cons_succ, List.getElem?_append_left h2, List.getElem?_eq_getElem h2]
theorem srt_take {V : List HV} (hV : Srt hkey V) {k : Nat} (hk : k < V.length) {u : HV} (h : hkey V[k] < hkey u) : ∀ y ∈ V.take (k + 1), hkey y < hkey u := fun y hy => by
 obtain ⟨j, hj, rfl⟩ := List.mem_iff_getElem.1 hy
 rw [List.length_take] at hj
 rw [List.getElem_take]
 by_cases e : j = k
 ·subst e; exact h
 ·have := List.pairwise_iff_getElem.1 hV j k (by omega) hk (by omega)
  omega
theorem srt_drop {V : List HV} (hV : Srt hkey V) {k : Nat} (hk : k < V.length) {u : HV} (h : ¬ hkey V[k] < hkey u) : ∀ y ∈ V.drop k, hkey u ≤ hkey y := fun y hy => by
 obtain ⟨j, hj, rfl⟩ := List.mem_iff_getElem.1 hy
 rw [List.length_drop] at hj
 rw [List.getElem_drop]
 by_cases e : j = 0
 ·subst e; simp only [Nat.add_zero]; omega
 ·have := List.pairwise_iff_getElem.1 hV k (k + j) hk (by omega) (by omega)
  omega
theorem bub (X A : List HV) (u v : HV) (B : List HV) : ((X ++ (A ++ (u :: v :: B))).set (X.length + A.length) v).set (X.length + A.length + 1) u = X ++ ((A ++ [v]) ++ (u :: B)) := by
 rw [List.set_append_right _ _ (by omega), List.set_append_right _ _ (by omega), List.set_append_right _ _ (by omega), List.set_append_right _ _ (by omega), show X.length + A.length - X.length - A.length = 0 by omega, show X.length + A.length + 1 - X.length - A.length = 1 by omega]
 simp
set_option maxHeartbeats 8000000 in
set_option maxRecDepth 100000 in
theorem symMerge_left (g n cap base a m b : Nat) (ok : Nat → Prop) (X V Z : List HV) (u : HV) (w : World) (hr : Kd.R kh 41 w base ok (.slice (some ⟨g, 0, none⟩) n cap) (X ++ (u :: (V ++ Z)))) (ha : a = X.length) (hm : m = X.length + 1) (hb : b = X.length + 1 + V.length) (hV : Srt hkey V) (hn : n ≤ 1000000000000) (hok : ∀ k, ok k → k < w.heap.size) :
  Calls Try.prog 121 #[.slice (some ⟨g, 0, none⟩) n cap, .int .i64 a, .int .i64 m, .int .i64 b, .func (.func 72) #[] #[]] w fun e w' => e = .returned (.tuple #[]) ∧ Kd.R kh 41 w' base ok (.slice (some ⟨g, 0, none⟩) n cap) (X ++ (mrg hkey [u] V ++ Z)) ∧ w.grownBy w' (some g) := by
 have hu41 := Try.underlying41
 have HR := Aside0.mk hr
 have HOK := Aside0.mk hok
 have HVS := Aside0.mk hV
 have hxl := (Kd.R_reads' hr).1
 simp only [List.length_append, List.length_cons] at hxl
 have bm : a < n ∧ m ≤ n ∧ b ≤ n ∧ m ≤ b := by omega
 obtain ⟨b1, b2, b3, b4⟩ := bm
 have hma : ((m : Int) - (a : Int) == 1) = true := by simp; omega
 have HM := Aside0.mk (And.intro hm (show m = a + 1 by omega))
 have HB := Aside0.mk (And.intro (show b = m + V.length by omega) hxl)
 have HAL := Aside0.mk ha
 clear hr hok hV hxl hm ha hb
 go_enter Try.func121, Try.ntmps121
 go_wp2
 go_loopw [10, 11] (fun v10 v11 wr => ∃ (i j : Nat), v10 = .int .i64 (i : Int) ∧ v11 = .int .i64 (j : Int) ∧ m ≤ i ∧ i ≤ j ∧ j ≤ b ∧ Aside0 (∀ y ∈ V.take (i - m), hkey y < hkey u) ∧ Aside0 (∀ y ∈ V.drop (j - m), hkey u ≤ hkey y) ∧
  Aside0 (Kd.R kh 41 wr base ok (.slice (some ⟨g, 0, none⟩) n cap) (X ++ (u :: (V ++ Z)))) ∧ Aside0 (w.grownBy wr (some g))) (fun v10 v11 _ => (intOf v11).toNat - (intOf v10).toNat)
 case atStart => exact ⟨m, b, rfl, rfl, Nat.le_refl _, b4, Nat.le_refl _, ⟨by simp⟩, ⟨by rw [List.drop_eq_nil_of_le (by have := HB.out; omega)]; simp⟩, HR, ⟨grown_refl _ _⟩⟩
 case round =>
  clear HR
  obtain ⟨i, j, rfl, rfl, hi, hij, hj, HT, HD, HA, HG⟩ := hrel
  by_cases hlt : i < j
  ·have hlt' : (i : Int) < j := by omega
   obtain ⟨h, hh⟩ : ∃ h, h = (i + j) / 2 := ⟨_, rfl⟩
   have hh1 : i ≤ h ∧ h < j := by omega
   have h3 : h - m < V.length := by have := HB.out; omega
   have hry := row_at (Z := Z) u HM.out.1 (Nat.le_trans hi hh1.1) h3
   have hru : (X ++ (u :: (V ++ Z)))[a]? = some u := by rw [List.getElem?_append_right (by have := HAL.out; omega), show a - X.length = 0 by have := HAL.out; omega]; rfl
   have hgy := at_kh HA.out h V[h - m] hry
   have hgu := at_kh HA.out a u hru
   have ST := Aside0.mk (fun hl => srt_take HVS.out h3 (u := u) hl)
   have SD := Aside0.mk (fun hl => srt_drop HVS.out h3 (u := u) hl)
   generalize V[h - m] = y at *
   obtain ⟨y0, y1, y2, y3, y4⟩ := hgy
   obtain ⟨x0, x1, x2, x3, x4⟩ := hgu
   have HRY := Aside0.mk hry
   have HRU := Aside0.mk hru
   have HHH := Aside0.mk hh
   have c0 : (0 : Int) ≤ (i : Int) + (j : Int) := by omega
   have c1 : (i : Int) + (j : Int) ≤ 2000000000000 := by omega
   have i0 : (0 : Int) ≤ ((i : Int) + (j : Int)) / 2 := by omega
   have i1 : ((i : Int) + (j : Int)) / 2 < n := by omega
   have i2 : (((i : Int) + (j : Int)) / 2).toNat = h := by omega
   have i3 : (a : Int) < n := by omega
   have hh2 : (i ≤ h ∧ h < j) := hh1
   clear hry hru hh hh1
   go_wp2
   go_still_tail 9, (by kernel_rfl)
   change wpList _ _ _ _ _ wr.drew
   have hAd := Kd.R_drew HA.out
   have hGd := grown_drew HG.out
   clear x0 x1 x2 x3 x4 y0 y1 y2 y3 y4
   generalize wr.drew = w3 at *
   have HA3 := Aside0.mk hAd
   have HG3 := Aside0.mk hGd
   clear hAd hGd HA HG
   have hcl := cmpI_lt y.1.f2 u.1.f2
   by_cases hlt2 : hkey y < hkey u
   ·rw [decide_eq_true (show y.1.f2 < u.1.f2 from hlt2)] at hcl
    have HST := Aside0.mk (ST.out (by omega))
    clear hlt2 ST SD
    go_wp2_with (go_at_call 72; refine (cmpH_any y u _).mono ?_; rintro e w4 ⟨rfl, hb4⟩; have HA4 := Aside0.mk (Kd.R_below HA3.out hb4); have HG4 := Aside0.mk (grown_below HG3.out hb4); clear hb4)
    go_roundw
    case rel => exact ⟨h + 1, j, int_i64 (by have := HHH.out; omega), rfl, by omega, by omega, hj, ⟨by rw [show h + 1 - m = h - m + 1 by omega]; exact HST.out⟩, HD, HA4, HG4⟩
    case measure => simp [intOf]; omega
   ·rw [decide_eq_false (show ¬ y.1.f2 < u.1.f2 from hlt2)] at hcl
    have HSD := Aside0.mk (SD.out (by omega))
    clear hlt2 ST SD
    go_wp2_with (go_at_call 72; refine (cmpH_any y u _).mono ?_; rintro e w4 ⟨rfl, hb4⟩; have HA4 := Aside0.mk (Kd.R_below HA3.out hb4); have HG4 := Aside0.mk (grown_below HG3.out hb4); clear hb4)
    go_roundw
    case rel => exact ⟨i, h, rfl, int_i64 (by have := HHH.out; omega), hi, by omega, by omega, HT, HSD, HA4, HG4⟩
    case measure => simp [intOf]; omega
  ·obtain rfl : i = j := by omega
   have hV1 : V.take (i - m) ++ V.drop (i - m) = V := List.take_append_drop _ V
   have hml : mrg hkey [u] V = V.take (i - m) ++ u :: V.drop (i - m) := by
    have := mrg_one_left hkey u (V.take (i - m)) (V.drop (i - m)) HT.out HD.out
    rw [hV1] at this
    exact this
   have HAa := HA.out
   rw [← hV1] at HAa
   have hlA : (V.take (i - m)).length = i - m := by rw [List.length_take]; have := HB.out; omega
   have HA2 := Aside0.mk HAa
   have HLA := Aside0.mk hlA
   have HML := Aside0.mk hml
   generalize V.take (i - m) = A at *
   generalize V.drop (i - m) = B at *
   clear HT HD HA HAa hlA hV1 hml HVS
   go_wp2
   obtain ⟨wo, hwo⟩ : ∃ wo : World, wo = wr := ⟨_, rfl⟩
   subst hwo
   go_loopw [13] (fun v13 w2 => ∃ (k : Nat) (A1 A2 : List HV), v13 = .int .i64 (k : Int) ∧ a ≤ k ∧ k + 1 ≤ i ∧ Aside0 (A1.length = k - a) ∧ Aside0 (A1 ++ A2 = A) ∧ Aside0 (Kd.R kh 41 w2 base ok (.slice (some ⟨g, 0, none⟩) n cap) (X ++ (A1 ++ (u :: (A2 ++ (B ++ Z)))))) ∧ Aside0 (w.grownBy w2 (some g))) (fun v13 _ => i - (intOf v13).toNat)
   case atStart => exact ⟨a, [], A, rfl, Nat.le_refl _, by have := HM.out; omega, ⟨by simp⟩, ⟨rfl⟩, ⟨by have := HA2.out; rw [List.append_assoc] at this; exact this⟩, HG⟩
   case round =>
    clear HA2 HG
    obtain ⟨k, A1, A2, rfl, hk, hki, HL1, HAA, HA, HG⟩ := hrel
    by_cases hk2 : k + 1 < i
    ·cases A2 with
     | nil =>
      exfalso
      have h1 := HAA.out; have h2 := HL1.out; have h3 := HLA.out; have h4 := HM.out
      rw [List.append_nil] at h1
      rw [h1] at h2
      omega
     | cons v A2 =>
      have hlt' : (k : Int) < (i : Int) - 1 := by omega
      have hX := HAL.out
      have hL1 := HL1.out
      have hpos : X.length + A1.length = k := by omega
      have hru : (X ++ (A1 ++ (u :: (v :: A2 ++ (B ++ Z)))))[k]? = some u := by rw [List.getElem?_append_right (by omega), List.getElem?_append_right (by omega), show k - X.length - A1.length = 0 by omega]; rfl
      have hrv : (X ++ (A1 ++ (u :: (v :: A2 ++ (B ++ Z)))))[k + 1]? = some v := by rw [List.getElem?_append_right (by omega), List.getElem?_append_right (by omega), show k + 1 - X.length - A1.length = 1 by omega]; rfl
      obtain ⟨x0, x1, x2, x3, x4⟩ := at_kh HA.out k u hru
      obtain ⟨y0, y1, y2, y3, y4⟩ := at_kh HA.out (k + 1) v hrv
      obtain ⟨g', cap', cur, hv, _, _, hh⟩ := ownh HA.out (by simp only [List.length_append, List.length_cons]; omega)
      injection hv with ha hn1 hc1
      injection ha with ha
      injection ha with ha
      subst ha
      clear hn1 hc1 hru hrv
      have z0 := blk_frozen hh (k * 5)
      have z1 := blk_frozen hh (k * 5 + 1)
      have z2 := blk_frozen hh (k * 5 + 2)
      have z3 := blk_frozen hh (k * 5 + 3)
      have z4 := blk_frozen hh (k * 5 + 4)
      have v0 := blk_frozen hh ((k + 1) * 5)
      have v1 := blk_frozen hh ((k + 1) * 5 + 1)
      have v2 := blk_frozen hh ((k + 1) * 5 + 2)
      have v3 := blk_frozen hh ((k + 1) * 5 + 3)
      have v4 := blk_frozen hh ((k + 1) * 5 + 4)
      clear hh
      have p1 := put_kh HA.out k (by omega) v
      have p2 := put_kh p1.1 (k + 1) (by omega) u
      have hR5 := Kd.R_drew p2.1
      have hG5 := grown_drew (grown_grown (grown_grown HG.out p1.2) p2.2)
      have hbub := bub X A1 u v (A2 ++ (B ++ Z))
      rw [hpos] at hbub
      rw [show (X ++ (A1 ++ (u :: (v :: A2 ++ (B ++ Z))))) = X ++ (A1 ++ (u :: v :: (A2 ++ (B ++ Z)))) from rfl, hbub] at hR5
      simp only [hc, World.setCells, Nat.add_assoc, Nat.reduceAdd] at hR5 hG5
      have HR5 := Aside0.mk hR5
      have HG5 := Aside0.mk hG5
      have HL5 := Aside0.mk (show (A1 ++ [v]).length = k + 1 - a from by rw [List.length_append, List.length_singleton]; omega)
      have HA5 := Aside0.mk (show (A1 ++ [v]) ++ A2 = A from by rw [← HAA.out]; simp)
      clear hR5 hG5 p1 p2 hbub hX hL1 hpos HL1 HAA
      have e1 : IntKind.i64.wrap ((k : Int) + 1) = (k : Int) + 1 := by rw [IntKind.wrap_i64]; omega
      have i0 : (0 : Int) ≤ (k : Int) + 1 := by omega
      have i1 : (k : Int) + 1 < n := by omega
      have i2 : (k : Int) < n := by omega
      have i4 : ((k : Int) + 1).toNat = k + 1 := by omega
      go_wp2
      go_region
      revert HR5 HG5
      generalize World.drew _ = w5
      intro HR5 HG5
      go_wp2
      go_roundw
      case rel => exact ⟨k + 1, A1 ++ [v], A2, by go_num, by omega, by omega, HL5, HA5, HR5, HG5⟩
      case measure => simp [intOf]; omega
    ·have hlt' : ¬ (k : Int) < (i : Int) - 1 := by omega
     have hA2 : A2 = [] := by
      have h1 := congrArg List.length HAA.out; have h2 := HL1.out; have h3 := HLA.out; have h4 := HM.out
      rw [List.length_append] at h1
      exact List.eq_nil_of_length_eq_zero (by omega)
     subst hA2
     have hAA := HAA.out
     rw [List.append_nil] at hAA
     have hfin := HA.out
     rw [hAA] at hfin
     have HF := Aside0.mk (show Kd.R kh 41 wr base ok (.slice (some ⟨g, 0, none⟩) n cap) (X ++ ((A ++ u :: B) ++ Z)) from by simpa using hfin)
     clear hAA hfin HAA HL1
     go_wp2
     first | go_end0 | refine bodyPost_ret (results_none rfl _ _ _) rfl ?_
     exact ⟨rfl, by rw [HML.out]; exact HF.out, HG.out⟩
end Go.Proofs.Ytckhjehibjdjdaa.P
namespace Go.Proofs.Ytckhjehibjdjdaa.P
open Go.RowKit Go.Shelf Go.Proofs.YtckhjehibjdjdaaW.PrintWords Go.Proofs.YtckhjehibjdjdaaW.PrintLast Go.Proofs.YtckhjehibjdjdaaW.PrintMore
attribute [local go_sem] Oper.semAt_some
set_option linter.unusedVariables false
set_option linter.unusedSimpArgs false
theorem row_at2 {X U R : List HV} {h a : Nat} (ha : a = X.length) (h1 : a ≤ h) (h2 : h - a < U.length) : (X ++ (U ++ R))[h]? = some U[h - a] := by
 rw [List.getElem?_append_right (by omega), show h - X.length = h - a by omega, List.getElem?_append_left h2, List.getElem?_eq_getElem h2]
theorem srt_take2 {U : List HV} (hU : Srt hkey U) {k : Nat} (hk : k < U.length) {v : HV} (h : ¬ hkey v < hkey U[k]) : ∀ y ∈ U.take (k + 1), hkey y ≤ hkey v := fun y hy => by
 obtain ⟨j, hj, rfl⟩ := List.mem_iff_getElem.1 hy
 rw [List.length_take] at hj
 rw [List.getElem_take]
 by_cases e : j = k
 ·subst e; omega
 ·have := List.pairwise_iff_getElem.1 hU j k (by omega) hk (by omega)
  omega
theorem srt_drop2 {U : List HV} (hU : Srt hkey U) {k : Nat} (hk : k < U.length) {v : HV} (h : hkey v < hkey U[k]) : ∀ y ∈ U.drop k, hkey v < hkey y := fun y hy => by
 obtain ⟨j, hj, rfl⟩ := List.mem_iff_getElem.1 hy
 rw [List.length_drop] at hj
 rw [List.getElem_drop]
 by_cases e : j = 0
 ·subst e; simp only [Nat.add_zero]; exact h
 ·have := List.pairwise_iff_getElem.1 hU k (k + j) hk (by omega) (by omega)
  omega
theorem bub2 (X B : List HV) (y v : HV) (R : List HV) : ((X ++ ((B ++ [y]) ++ (v :: R))).set (X.length + B.length + 1) y).set (X.length + B.length) v = X ++ (B ++ (v :: (y :: R))) := by
 rw [List.append_assoc, List.set_append_right _ _ (by omega), List.set_append_right _ _ (by omega), List.set_append_right _ _ (by omega), List.set_append_right _ _ (by omega), show X.length + B.length - X.length - B.length = 0 by omega, show X.length + B.length + 1 - X.length - B.length = 1 by omega]
 simp
theorem snoc_of {α : Type} (l : List α) (h : 0 < l.length) : ∃ l' y, l = l' ++ [y] := by
 have hne : l ≠ [] := fun e => by rw [e] at h; simp at h
 exact ⟨l.dropLast, l.getLast hne, (List.dropLast_concat_getLast hne).symm⟩
set_option maxHeartbeats 8000000 in
set_option maxRecDepth 100000 in
theorem symMerge_right (g n cap base a m b : Nat) (ok : Nat → Prop) (X U Z : List HV) (v : HV) (w : World) (hr : Kd.R kh 41 w base ok (.slice (some ⟨g, 0, none⟩) n cap) (X ++ (U ++ (v :: Z)))) (ha : a = X.length) (hm : m = X.length + U.length) (hb : b = X.length + U.length + 1) (hU1 : 1 < U.length) (hU : Srt hkey U) (hn : n ≤ 1000000000000) (hok : ∀ k, ok k → k < w.heap.size) :
  Calls Try.prog 121 #[.slice (some ⟨g, 0, none⟩) n cap, .int .i64 a, .int .i64 m, .int .i64 b, .func (.func 72) #[] #[]] w fun e w' => e = .returned (.tuple #[]) ∧ Kd.R kh 41 w' base ok (.slice (some ⟨g, 0, none⟩) n cap) (X ++ (mrg hkey U [v] ++ Z)) ∧ w.grownBy w' (some g) := by
 have hu41 := Try.underlying41
 have HR := Aside0.mk hr
 have HOK := Aside0.mk hok
 have HUS := Aside0.mk hU
 have hxl := (Kd.R_reads' hr).1
 simp only [List.length_append, List.length_cons] at hxl
 have bm : a < n ∧ m < n ∧ b ≤ n ∧ a ≤ m := by omega
 obtain ⟨b1, b2, b3, b4⟩ := bm
 have hma : ((m : Int) - (a : Int) == 1) = false := by simp; omega
 have hbm : ((b : Int) - (m : Int) == 1) = true := by simp; omega
 have HM := Aside0.mk (And.intro (show m = a + U.length by omega) hxl)
 have HAL := Aside0.mk ha
 clear hr hok hU hxl hm ha hb hU1
 go_enter Try.func121, Try.ntmps121
 go_wp2
 go_loopw [14, 15] (fun v14 v15 wr => ∃ (i j : Nat), v14 = .int .i64 (i : Int) ∧ v15 = .int .i64 (j : Int) ∧ a ≤ i ∧ i ≤ j ∧ j ≤ m ∧ Aside0 (∀ y ∈ U.take (i - a), hkey y ≤ hkey v) ∧ Aside0 (∀ y ∈ U.drop (j - a), hkey v < hkey y) ∧
  Aside0 (Kd.R kh 41 wr base ok (.slice (some ⟨g, 0, none⟩) n cap) (X ++ (U ++ (v :: Z)))) ∧ Aside0 (w.grownBy wr (some g))) (fun v14 v15 _ => (intOf v15).toNat - (intOf v14).toNat)
 case atStart => exact ⟨a, m, rfl, rfl, Nat.le_refl _, b4, Nat.le_refl _, ⟨by simp⟩, ⟨by rw [List.drop_eq_nil_of_le (by have := HM.out; omega)]; simp⟩, HR, ⟨grown_refl _ _⟩⟩
 case round =>
  clear HR
  obtain ⟨i, j, rfl, rfl, hi, hij, hj, HT, HD, HA, HG⟩ := hrel
  by_cases hlt : i < j
  ·have hlt' : (i : Int) < j := by omega
   obtain ⟨h, hh⟩ : ∃ h, h = (i + j) / 2 := ⟨_, rfl⟩
   have hh1 : i ≤ h ∧ h < j := by omega
   have h3 : h - a < U.length := by have := HM.out; omega
   have hry := row_at2 (R := v :: Z) HAL.out (Nat.le_trans hi hh1.1) h3
   have hrv : (X ++ (U ++ (v :: Z)))[m]? = some v := by rw [List.getElem?_append_right (by have := HAL.out; omega), List.getElem?_append_right (by have := HAL.out; have := HM.out; omega), show m - X.length - U.length = 0 by have := HAL.out; have := HM.out; omega]; rfl
   have hgy := at_kh HA.out h U[h - a] hry
   have hgv := at_kh HA.out m v hrv
   have ST := Aside0.mk (fun hl => srt_take2 HUS.out h3 (v := v) hl)
   have SD := Aside0.mk (fun hl => srt_drop2 HUS.out h3 (v := v) hl)
   generalize U[h - a] = y at *
   obtain ⟨y0, y1, y2, y3, y4⟩ := hgy
   obtain ⟨x0, x1, x2, x3, x4⟩ := hgv
   have HHH := Aside0.mk hh
   have c0 : (0 : Int) ≤ (i : Int) + (j : Int) := by omega
   have c1 : (i : Int) + (j : Int) ≤ 2000000000000 := by omega
   have i0 : (0 : Int) ≤ ((i : Int) + (j : Int)) / 2 := by omega
   have i1 : ((i : Int) + (j : Int)) / 2 < n := by omega
   have i2 : (((i : Int) + (j : Int)) / 2).toNat = h := by omega
   have i3 : (m : Int) < n := by omega
   have hh2 : (i ≤ h ∧ h < j) := hh1
   clear hry hrv hh hh1
   go_wp2
   go_still_tail 9, (by kernel_rfl)
   change wpList _ _ _ _ _ wr.drew
   have hAd := Kd.R_drew HA.out
   have hGd := grown_drew HG.out
   clear x0 x1 x2 x3 x4 y0 y1 y2 y3 y4
   generalize wr.drew = w3 at *
   have HA3 := Aside0.mk hAd
   have HG3 := Aside0.mk hGd
   clear hAd hGd HA HG
   have hcl := cmpI_lt v.1.f2 y.1.f2
   by_cases hlt2 : hkey v < hkey y
   ·rw [decide_eq_true (show v.1.f2 < y.1.f2 from hlt2)] at hcl
    have HSD := Aside0.mk (SD.out (by omega))
    clear hlt2 ST SD
    go_wp2_with (go_at_call 72; refine (cmpH_any v y _).mono ?_; rintro e w4 ⟨rfl, hb4⟩; have HA4 := Aside0.mk (Kd.R_below HA3.out hb4); have HG4 := Aside0.mk (grown_below HG3.out hb4); clear hb4)
    go_roundw
    case rel => exact ⟨i, h, rfl, int_i64 (by have := HHH.out; omega), hi, by omega, by omega, HT, HSD, HA4, HG4⟩
    case measure => simp [intOf]; omega
   ·rw [decide_eq_false (show ¬ v.1.f2 < y.1.f2 from hlt2)] at hcl
    have HST := Aside0.mk (ST.out (by omega))
    clear hlt2 ST SD
    go_wp2_with (go_at_call 72; refine (cmpH_any v y _).mono ?_; rintro e w4 ⟨rfl, hb4⟩; have HA4 := Aside0.mk (Kd.R_below HA3.out hb4); have HG4 := Aside0.mk (grown_below HG3.out hb4); clear hb4)
    go_roundw
    case rel => exact ⟨h + 1, j, int_i64 (by have := HHH.out; omega), rfl, by omega, by omega, hj, ⟨by rw [show h + 1 - a = h - a + 1 by omega]; exact HST.out⟩, HD, HA4, HG4⟩
    case measure => simp [intOf]; omega
  ·obtain rfl : i = j := by omega
   have hV1 : U.take (i - a) ++ U.drop (i - a) = U := List.take_append_drop _ U
   have hml : mrg hkey U [v] = U.take (i - a) ++ v :: U.drop (i - a) := by
    have := mrg_one_right hkey v (U.take (i - a)) (U.drop (i - a)) HT.out HD.out
    rw [hV1] at this
    exact this
   have HAa := HA.out
   rw [← hV1] at HAa
   have hlA : (U.take (i - a)).length = i - a := by rw [List.length_take]; have := HM.out; omega
   have hlB : (U.drop (i - a)).length = m - i := by rw [List.length_drop]; have := HM.out; omega
   have HA2 := Aside0.mk HAa
   have HLA := Aside0.mk (And.intro hlA hlB)
   have HML := Aside0.mk hml
   generalize U.take (i - a) = A at *
   generalize U.drop (i - a) = B at *
   obtain ⟨XA, hXA⟩ : ∃ XA, XA = X ++ A := ⟨_, rfl⟩
   have HLX := Aside0.mk (show XA.length = i from by rw [hXA, List.length_append]; have := HAL.out; omega)
   have HXA := Aside0.mk hXA
   clear HT HD HA HAa hlA hlB hV1 hml HUS hXA
   go_wp2
   obtain ⟨wo, hwo⟩ : ∃ wo : World, wo = wr := ⟨_, rfl⟩
   subst hwo
   go_loopw [17] (fun v17 w2 => ∃ (k : Nat) (B1 B2 : List HV), v17 = .int .i64 (k : Int) ∧ i ≤ k ∧ k ≤ m ∧ Aside0 (B1.length = k - i) ∧ Aside0 (B1 ++ B2 = B) ∧ Aside0 (Kd.R kh 41 w2 base ok (.slice (some ⟨g, 0, none⟩) n cap) (XA ++ (B1 ++ (v :: (B2 ++ Z))))) ∧ Aside0 (w.grownBy w2 (some g))) (fun v17 _ => (intOf v17).toNat - i)
   case atStart => exact ⟨m, B, [], rfl, by omega, Nat.le_refl _, ⟨by have := HLA.out; omega⟩, ⟨by simp⟩, ⟨by have := HA2.out; rw [HXA.out]; simpa using this⟩, HG⟩
   case round =>
    clear HA2 HG
    obtain ⟨k, B1, B2, rfl, hk, hki, HL1, HAA, HA, HG⟩ := hrel
    by_cases hk2 : i < k
    ·obtain ⟨B', y, hB'⟩ := snoc_of B1 Z4
     subst hB'
     have hlt' : (i : Int) < (k : Int) := by omega
     have hX := HAL.out
     have hL1 := HL1.out
     rw [List.length_append, List.length_singleton] at hL1
     have hLX := HLX.out
     have hpos : XA.length + B'.length + 1 = k := by omega
     have hrv : (XA ++ ((B' ++ [y]) ++ (v :: (B2 ++ Z))))[k]? = some v := by rw [List.getElem?_append_right (by omega), List.getElem?_append_right (by simp only [List.length_append, List.length_singleton]; omega), show k - XA.length - (B' ++ [y]).length = 0 by simp only [List.length_append, List.length_singleton]; omega]; rfl
     have hry : (XA ++ ((B' ++ [y]) ++ (v :: (B2 ++ Z))))[k - 1]? = some y := by rw [List.append_assoc, List.getElem?_append_right (by omega), List.getElem?_append_right (by omega), show k - 1 - XA.length - B'.length = 0 by omega]; rfl
     obtain ⟨x0, x1, x2, x3, x4⟩ := at_kh HA.out k v hrv
     obtain ⟨y0, y1, y2, y3, y4⟩ := at_kh HA.out (k - 1) y hry
     obtain ⟨k', hk'⟩ : ∃ k', k = k' + 1 := ⟨k - 1, by omega⟩
     subst hk'
     rw [Nat.add_sub_cancel] at y0 y1 y2 y3 y4
     obtain ⟨g', cap', cur, hv, _, _, hh⟩ := ownh HA.out (by simp only [List.length_append, List.length_cons]; omega)
     injection hv with ha hn1 hc1
     injection ha with ha
     injection ha with ha
     subst ha
     clear hn1 hc1 hrv hry
     have z0 := blk_frozen hh (k' * 5)
     have z1 := blk_frozen hh (k' * 5 + 1)
     have z2 := blk_frozen hh (k' * 5 + 2)
     have z3 := blk_frozen hh (k' * 5 + 3)
     have z4 := blk_frozen hh (k' * 5 + 4)
     have v0 := blk_frozen hh ((k' + 1) * 5)
     have v1 := blk_frozen hh ((k' + 1) * 5 + 1)
     have v2 := blk_frozen hh ((k' + 1) * 5 + 2)
     have v3 := blk_frozen hh ((k' + 1) * 5 + 3)
     have v4 := blk_frozen hh ((k' + 1) * 5 + 4)
     clear hh
     have p1 := put_kh HA.out (k' + 1) (by omega) y
     have p2 := put_kh p1.1 k' (by omega) v
     have hR5 := Kd.R_drew p2.1
     have hG5 := grown_drew (grown_grown (grown_grown HG.out p1.2) p2.2)
     have hbub := bub2 XA B' y v (B2 ++ Z)
     rw [show XA.length + B'.length = k' by omega] at hbub
     rw [hbub] at hR5
     simp only [hc, World.setCells, Nat.add_assoc, Nat.reduceAdd] at hR5 hG5
     have HR5 := Aside0.mk hR5
     have HG5 := Aside0.mk hG5
     have HL5 := Aside0.mk (show B'.length = k' - i from by omega)
     have HA5 := Aside0.mk (show B' ++ (y :: B2) = B from by rw [← HAA.out]; simp)
     clear hR5 hG5 p1 p2 hbub hX hL1 hLX hpos HL1 HAA HA HG
     have e1 : IntKind.i64.wrap ((k' : Int) + 1 - 1) = (k' : Int) := by rw [IntKind.wrap_i64]; omega
     have i0 : (0 : Int) ≤ (k' : Int) + 1 := by omega
     have i1 : (k' : Int) + 1 < n := by omega
     have i2 : (k' : Int) < n := by omega
     have i4 : ((k' : Int) + 1).toNat = k' + 1 := by omega
     have i5 : (k' : Int) + 1 - 1 = (k' : Int) := by omega
     go_wp2
     go_region
     revert HR5 HG5
     generalize World.drew _ = w5
     intro HR5 HG5
     go_wp2
     go_roundw
     case rel => exact ⟨k', B', y :: B2, by first | rfl | exact int_i64 (by omega), by omega, by omega, HL5, HA5, HR5, HG5⟩
     case measure => simp [intOf]; omega
    ·obtain rfl : i = k := by omega
     have hlt' : ¬ (i : Int) < (i : Int) := by omega
     have hB1 : B1 = [] := List.eq_nil_of_length_eq_zero Z4
     subst hB1
     have hAA := HAA.out
     rw [List.nil_append] at hAA
     have hfin := HA.out
     rw [hAA, HXA.out] at hfin
     have HF := Aside0.mk (show Kd.R kh 41 wr base ok (.slice (some ⟨g, 0, none⟩) n cap) (X ++ ((A ++ v :: B) ++ Z)) from by simpa using hfin)
     clear hAA hfin HAA HL1
     go_wp2
     first | go_end0 | refine bodyPost_ret (results_none rfl _ _ _) rfl ?_
     exact ⟨rfl, by rw [HML.out]; exact HF.out, HG.out⟩
end Go.Proofs.Ytckhjehibjdjdaa.P
namespace Go.Proofs.Ytckhjehibjdjdaa.P
open Go.RowKit Go.Shelf Go.Proofs.YtckhjehibjdjdaaW.PrintWords Go.Proofs.YtckhjehibjdjdaaW.PrintLast Go.Proofs.YtckhjehibjdjdaaW.PrintMore
attribute [local go_sem] Oper.semAt_some
set_option linter.unusedVariables false
set_option linter.unusedSimpArgs false
theorem srt_le {V : List HV} (hV : Srt hkey V) {i j : Nat} {x y : HV} (hij : i ≤ j) (hx : V[i]? = some x) (hy : V[j]? = some y) : hkey x ≤ hkey y := by
 obtain ⟨hi, rfl⟩ := List.getElem?_eq_some_iff.1 hx
 obtain ⟨hj, rfl⟩ := List.getElem?_eq_some_iff.1 hy
 by_cases e : i = j
 ·subst e; exact Int.le_refl _
 ·exact List.pairwise_iff_getElem.1 hV i j hi hj (by omega)
theorem split12 {U V : List HV} (hU : Srt hkey U) (hV : Srt hkey V) {p q : Nat} (hp : p ≤ U.length) (h : p = 0 ∨ V.length ≤ q ∨ ∀ x y, U[p - 1]? = some x → V[q]? = some y → hkey x ≤ hkey y) : ∀ x ∈ U.take p, ∀ y ∈ V.drop q, hkey x ≤ hkey y := fun x hx y hy => by
 obtain ⟨i, hi, rfl⟩ := List.mem_iff_getElem.1 hx
 obtain ⟨j, hj, rfl⟩ := List.mem_iff_getElem.1 hy
 rw [List.length_take] at hi
 rw [List.length_drop] at hj
 rw [List.getElem_take, List.getElem_drop]
 rcases h with h | h | h
 ·omega
 ·omega
 ·have h1 := srt_le hU (i := i) (j := p - 1) (by omega) (List.getElem?_eq_getElem (by omega)) (List.getElem?_eq_getElem (by omega))
  have h2 := srt_le hV (i := q) (j := q + j) (by omega) (List.getElem?_eq_getElem (by omega)) (List.getElem?_eq_getElem (by omega))
  have h3 := h _ _ (List.getElem?_eq_getElem (show p - 1 < U.length by omega)) (List.getElem?_eq_getElem (show q < V.length by omega))
  omega
theorem split21 {U V : List HV} (hU : Srt hkey U) (hV : Srt hkey V) {p q : Nat} (hq : q ≤ V.length) (h : U.length ≤ p ∨ q = 0 ∨ ∀ x y, U[p]? = some x → V[q - 1]? = some y → hkey y < hkey x) : ∀ x ∈ U.drop p, ∀ y ∈ V.take q, hkey y < hkey x := fun x hx y hy => by
 obtain ⟨i, hi, rfl⟩ := List.mem_iff_getElem.1 hx
 obtain ⟨j, hj, rfl⟩ := List.mem_iff_getElem.1 hy
 rw [List.length_drop] at hi
 rw [List.length_take] at hj
 rw [List.getElem_take, List.getElem_drop]
 rcases h with h | h | h
 ·omega
 ·omega
 ·have h1 := srt_le hU (i := p) (j := p + i) (by omega) (List.getElem?_eq_getElem (by omega)) (List.getElem?_eq_getElem (by omega))
  have h2 := srt_le hV (i := j) (j := q - 1) (by omega) (List.getElem?_eq_getElem (by omega)) (List.getElem?_eq_getElem (by omega))
  have h3 := h _ _ (List.getElem?_eq_getElem (show p < U.length by omega)) (List.getElem?_eq_getElem (show q - 1 < V.length by omega))
  omega
def SymC (sz : Nat) : Prop := ∀ (g n cap base a m b : Nat) (ok : Nat → Prop) (X U V Z : List HV) (w : World), U.length + V.length = sz → Kd.R kh 41 w base ok (.slice (some ⟨g, 0, none⟩) n cap) (X ++ (U ++ (V ++ Z))) → a = X.length → m = X.length + U.length → b = X.length + U.length + V.length → 0 < U.length → 0 < V.length → Srt hkey U → Srt hkey V → n ≤ 1000000000000 → (∀ k, ok k → k < w.heap.size) →
  Calls Try.prog 121 #[.slice (some ⟨g, 0, none⟩) n cap, .int .i64 a, .int .i64 m, .int .i64 b, .func (.func 72) #[] #[]] w fun e w' => e = .returned (.tuple #[]) ∧ Kd.R kh 41 w' base ok (.slice (some ⟨g, 0, none⟩) n cap) (X ++ (mrg hkey U V ++ Z)) ∧ w.grownBy w' (some g)
set_option maxHeartbeats 16000000 in
set_option maxRecDepth 100000 in
theorem symMerge_gen (sz : Nat) (IH : ∀ s, s < sz → SymC s) (g n cap base a m b : Nat) (ok : Nat → Prop) (X U V Z : List HV) (w : World) (hsz : U.length + V.length = sz) (hr : Kd.R kh 41 w base ok (.slice (some ⟨g, 0, none⟩) n cap) (X ++ (U ++ (V ++ Z)))) (ha : a = X.length) (hm : m = X.length + U.length) (hb : b = X.length + U.length + V.length) (hU2 : 1 < U.length) (hV2 : 1 < V.length) (hU : Srt hkey U) (hV : Srt hkey V) (hn : n ≤ 1000000000000) (hok : ∀ k, ok k → k < w.heap.size) :
  Calls Try.prog 121 #[.slice (some ⟨g, 0, none⟩) n cap, .int .i64 a, .int .i64 m, .int .i64 b, .func (.func 72) #[] #[]] w fun e w' => e = .returned (.tuple #[]) ∧ Kd.R kh 41 w' base ok (.slice (some ⟨g, 0, none⟩) n cap) (X ++ (mrg hkey U V ++ Z)) ∧ w.grownBy w' (some g) := by
 have hu41 := Try.underlying41
 have HR := Aside0.mk hr
 have HOK := Aside0.mk hok
 have HS := Aside0.mk (And.intro hU hV)
 have HIH := Aside0.mk IH
 have hxl := (Kd.R_reads' hr).1
 simp only [List.length_append] at hxl
 obtain ⟨mid, hmid⟩ : ∃ mid, mid = (a + b) / 2 := ⟨_, rfl⟩
 have bm : a + 1 < m ∧ m + 1 < b ∧ b ≤ n ∧ a < mid ∧ mid < b ∧ 2 * mid ≤ a + b ∧ a + b ≤ 2 * mid + 1 := by omega
 obtain ⟨b1, b2, b3, b4, b5, b6, b7⟩ := bm
 obtain ⟨lo, hi, hlh⟩ : ∃ lo hi : Nat, (mid < m ∧ lo + b = mid + m ∧ hi = mid) ∨ (¬ mid < m ∧ lo = a ∧ hi = m) := by
  by_cases h : mid < m
  ·exact ⟨mid + m - b, mid, .inl ⟨h, by omega, rfl⟩⟩
  ·exact ⟨a, m, .inr ⟨h, rfl, rfl⟩⟩
 have bl : a ≤ lo ∧ lo ≤ hi ∧ hi ≤ m ∧ hi ≤ mid ∧ mid + m ≤ lo + b := by omega
 obtain ⟨l1, l2, l3, l4, l5⟩ := bl
 have HLH := Aside0.mk hlh
 have hma : ((m : Int) - (a : Int) == 1) = false := by simp; omega
 have hbm : ((b : Int) - (m : Int) == 1) = false := by simp; omega
 have hmd : ((a : Int) + (b : Int)) / 2 = (mid : Int) := by omega
 have HLN := Aside0.mk (show X.length = a ∧ U.length = m - a ∧ V.length = b - m ∧ U.length + V.length = sz from by omega)
 clear hr hok hU hV hxl hm ha hb hU2 hV2 IH hsz hmid
 rcases hlh with ⟨q1, q2, q3⟩ | ⟨q1, q2, q3⟩
 ·have t1 : decide ((mid : Int) < (m : Int)) = true := by simp; omega
  have t2 : (mid : Int) + (m : Int) - (b : Int) = (lo : Int) := by omega
  have t3 : (mid : Int) < (m : Int) := by omega
  subst q3
  clear q2 t1
  go_enter Try.func121, Try.ntmps121
  go_wp2
  go_loopw [20, 21] (fun v20 v21 wr => ∃ (s r : Nat), v20 = .int .i64 (s : Int) ∧ v21 = .int .i64 (r : Int) ∧ lo ≤ s ∧ s ≤ r ∧ r ≤ hi ∧ Aside0 (∀ c x y, lo ≤ c → c < s → U[c - a]? = some x → V[hi + m - 1 - c - m]? = some y → hkey x ≤ hkey y) ∧ Aside0 (∀ c x y, r ≤ c → c < hi → U[c - a]? = some x → V[hi + m - 1 - c - m]? = some y → hkey y < hkey x) ∧
   Aside0 (Kd.R kh 41 wr base ok (.slice (some ⟨g, 0, none⟩) n cap) (X ++ (U ++ (V ++ Z)))) ∧ Aside0 (w.grownBy wr (some g))) (fun v20 v21 _ => (intOf v21).toNat - (intOf v20).toNat)
  case atStart => exact ⟨lo, hi, rfl, rfl, Nat.le_refl _, l2, Nat.le_refl _, ⟨fun c x y h1 h2 => by omega⟩, ⟨fun c x y h1 h2 => by omega⟩, HR, ⟨grown_refl _ _⟩⟩
  case round =>
   clear HR
   obtain ⟨s, r, rfl, rfl, hls, hsr, hrh, HT, HD, HA, HG⟩ := hrel
   by_cases hlt : s < r
   ·have hlt' : (s : Int) < r := by omega
    obtain ⟨c, hc⟩ : ∃ c, c = (s + r) / 2 := ⟨_, rfl⟩
    have hc1 : s ≤ c ∧ c < r := by omega
    obtain ⟨hc2, hc3⟩ := hc1
    obtain ⟨d, hd⟩ : ∃ d, d = hi + m - 1 - c := ⟨_, rfl⟩
    have hd1 : m ≤ d ∧ d < b := by omega
    have hxu : U[c - a]? = some _ := List.getElem?_eq_getElem (show c - a < U.length by have := HLN.out; omega)
    have hyv : V[d - m]? = some _ := List.getElem?_eq_getElem (show d - m < V.length by have := HLN.out; omega)
    generalize U[c - a]'_ = x at *
    generalize V[d - m]'_ = y at *
    have hrx : (X ++ (U ++ (V ++ Z)))[c]? = some x := by rw [List.getElem?_append_right Z6, List.getElem?_append_left Z6, show c - X.length = c - a by have := HLN.out; omega]; exact hxu
    have hry : (X ++ (U ++ (V ++ Z)))[d]? = some y := by rw [List.getElem?_append_right Z6, List.getElem?_append_right Z6, List.getElem?_append_left Z6, show d - X.length - U.length = d - m by have := HLN.out; omega]; exact hyv
    obtain ⟨x0, x1, x2, x3, x4⟩ := at_kh HA.out c x hrx
    obtain ⟨y0, y1, y2, y3, y4⟩ := at_kh HA.out d y hry
    have HXU := Aside0.mk hxu
    have HYV := Aside0.mk hyv
    have HDD := Aside0.mk hd
    have hcc : ((s : Int) + (r : Int)) / 2 = (c : Int) := by omega
    have hdd : (hi : Int) + (m : Int) - 1 - (c : Int) = (d : Int) := by omega
    have hdw : IntKind.i64.wrap ((hi : Int) + (m : Int) - 1 - (c : Int)) = (d : Int) := by rw [IntKind.wrap_i64]; omega
    have hdw2 : IntKind.i64.wrap (d : Int) = (d : Int) := by rw [IntKind.wrap_i64]; omega
    have j0 : (c : Int) < n := by omega
    have j1 : (d : Int) < n := by omega
    have c0 : (0 : Int) ≤ (s : Int) + (r : Int) := by omega
    have c1 : (s : Int) + (r : Int) ≤ 2000000000000 := by omega
    clear hxu hyv hrx hry hd hc
    go_wp2
    go_still_tail 11, (by kernel_rfl)
    change wpList _ _ _ _ _ wr.drew
    have hAd := Kd.R_drew HA.out
    have hGd := grown_drew HG.out
    clear x0 x1 x2 x3 x4 y0 y1 y2 y3 y4
    generalize wr.drew = w3 at *
    have HA3 := Aside0.mk hAd
    have HG3 := Aside0.mk hGd
    clear hAd hGd HA HG
    have hcl := cmpI_lt y.1.f2 x.1.f2
    by_cases hlt2 : hkey y < hkey x
    ·rw [decide_eq_true (show y.1.f2 < x.1.f2 from hlt2)] at hcl
     have HLT := Aside0.mk hlt2
     clear hlt2
     go_wp2_with (go_at_call 72; refine (cmpH_any y x _).mono ?_; rintro e w4 ⟨rfl, hb4⟩; have HA4 := Aside0.mk (Kd.R_below HA3.out hb4); have HG4 := Aside0.mk (grown_below HG3.out hb4); clear hb4)
     go_roundw
     case rel => exact ⟨s, c, rfl, by first | rfl | exact int_i64 (by omega), hls, hc2, by omega, HT, ⟨fun c' x' y' h1 h2 h3 h4 => by
      by_cases e : r ≤ c'
      ·exact HD.out c' x' y' e h2 h3 h4
      ·have k1 := srt_le HS.out.1 (i := c - a) (j := c' - a) (by omega) HXU.out h3
       have k2 := srt_le HS.out.2 (i := hi + m - 1 - c' - m) (j := d - m) (by have := HDD.out; omega) h4 HYV.out
       have := HLT.out
       omega⟩, HA4, HG4⟩
     case measure => simp [intOf]; omega
    ·rw [decide_eq_false (show ¬ y.1.f2 < x.1.f2 from hlt2)] at hcl
     have HLT := Aside0.mk (show hkey x ≤ hkey y by omega)
     clear hlt2
     go_wp2_with (go_at_call 72; refine (cmpH_any y x _).mono ?_; rintro e w4 ⟨rfl, hb4⟩; have HA4 := Aside0.mk (Kd.R_below HA3.out hb4); have HG4 := Aside0.mk (grown_below HG3.out hb4); clear hb4)
     go_roundw
     case rel => exact ⟨c + 1, r, by first | exact int_i64 (by omega) | go_num, rfl, by omega, by omega, hrh, ⟨fun c' x' y' h1 h2 h3 h4 => by
      by_cases e : c' < s
      ·exact HT.out c' x' y' h1 e h3 h4
      ·have k1 := srt_le HS.out.1 (i := c' - a) (j := c - a) (by omega) h3 HXU.out
       have k2 := srt_le HS.out.2 (i := d - m) (j := hi + m - 1 - c' - m) (by have := HDD.out; omega) HYV.out h4
       have := HLT.out
       omega⟩, HD, HA4, HG4⟩
     case measure => simp [intOf]; omega
   ·obtain rfl : s = r := by omega
    obtain ⟨e, he⟩ : ∃ e, e = hi + m - s := ⟨_, rfl⟩
    have he1 : m ≤ e ∧ e ≤ b ∧ e + s = hi + m := by omega
    obtain ⟨e1, e2, e3⟩ := he1
    have h12 := split12 HS.out.1 HS.out.2 (p := s - a) (q := e - m) Z6 (by
     by_cases h1 : s = a
     ·exact .inl (by omega)
     ·by_cases h2 : e = b
      ·exact .inr (.inl Z6)
      ·exact .inr (.inr fun x y hx hy => HT.out (s - 1) x y (by have := HLH.out; omega) (by omega) (by rw [show s - 1 - a = s - a - 1 by omega]; exact hx) (by rw [show hi + m - 1 - (s - 1) - m = e - m by omega]; exact hy)))
    have h21 := split21 HS.out.1 HS.out.2 (p := s - a) (q := e - m) Z6 (by
     by_cases h1 : s = m
     ·exact .inl Z6
     ·by_cases h2 : e = m
      ·exact .inr (.inl (by omega))
      ·exact .inr (.inr fun x y hx hy => HD.out s x y (by omega) (by have := HLH.out; omega) hx (by rw [show hi + m - 1 - s - m = e - m - 1 by omega]; exact hy)))
    have hU1 : U.take (s - a) ++ U.drop (s - a) = U := List.take_append_drop _ U
    have hV1 : V.take (e - m) ++ V.drop (e - m) = V := List.take_append_drop _ V
    have hml := mrg_split hkey _ _ _ _ h12 h21
    rw [hU1, hV1] at hml
    have hS1 : Srt hkey (U.take (s - a)) ∧ Srt hkey (U.drop (s - a)) ∧ Srt hkey (V.take (e - m)) ∧ Srt hkey (V.drop (e - m)) := ⟨HS.out.1.sublist (List.take_sublist _ _), HS.out.1.sublist (List.drop_sublist _ _), HS.out.2.sublist (List.take_sublist _ _), HS.out.2.sublist (List.drop_sublist _ _)⟩
    have hl1 : (U.take (s - a)).length = s - a ∧ (U.drop (s - a)).length = m - s ∧ (V.take (e - m)).length = e - m ∧ (V.drop (e - m)).length = b - e := by
     rw [List.length_take, List.length_drop, List.length_take, List.length_drop]; have := HLN.out; omega
    have hA0 := HA.out
    rw [← hU1, ← hV1] at hA0
    have HML := Aside0.mk hml
    generalize U.take (s - a) = U1 at *
    generalize U.drop (s - a) = U2 at *
    generalize V.take (e - m) = V1 at *
    generalize V.drop (e - m) = V2 at *
    have HS1 := Aside0.mk hS1
    have HL1 := Aside0.mk hl1
    have HA0 := Aside0.mk (show Kd.R kh 41 wr base ok (.slice (some ⟨g, 0, none⟩) n cap) (X ++ (U1 ++ (U2 ++ (V1 ++ (V2 ++ Z))))) from by simpa using hA0)
    have hok1 : ∀ k, ok k → k < wr.heap.size := fun k hk => Nat.lt_of_lt_of_le (HOK.out k hk) HG.out.size
    have HOK1 := Aside0.mk hok1
    have hen : (hi : Int) + (m : Int) - (s : Int) = (e : Int) := by omega
    have hbnd : a ≤ s ∧ s ≤ m ∧ s ≤ hi := by omega
    obtain ⟨n1, n2, n3⟩ := hbnd
    clear h12 h21 hU1 hV1 hml hS1 hl1 hA0 HA HT HD hok1 he
    have hcs : (a < s ∧ m < e ∧ s < m ∧ e < b) ∨ (a < s ∧ m < e ∧ s < m ∧ b ≤ e) ∨ (a < s ∧ m < e ∧ m ≤ s ∧ e < b) ∨ (a < s ∧ e ≤ m ∧ s < m ∧ e < b) ∨ (a < s ∧ e ≤ m ∧ m ≤ s ∧ e < b) ∨ (s ≤ a ∧ m < e ∧ s < m ∧ e < b) ∨ (s ≤ a ∧ m < e ∧ s < m ∧ b ≤ e) := by omega
    rcases hcs with ⟨k1, k2, k3, k4⟩ | ⟨k1, k2, k3, k4⟩ | ⟨k1, k2, k3, k4⟩ | ⟨k1, k2, k3, k4⟩ | ⟨k1, k2, k3, k4⟩ | ⟨k1, k2, k3, k4⟩ | ⟨k1, k2, k3, k4⟩
    ·have z1 : (s : Int) < (m : Int) := by omega
     have z2 : (m : Int) < (e : Int) := by omega
     have z3 : (a : Int) < (s : Int) := by omega
     have z4 : (s : Int) < (hi : Int) := by omega
     have z5 : (hi : Int) < (e : Int) := by omega
     have z6 : (e : Int) < (b : Int) := by omega
     have HRB := Aside0.mk (show Kd.R kh 41 wr base ok (.slice (some ⟨g, 0, none⟩) n cap) ((X ++ U1) ++ (U2 ++ (V1 ++ (V2 ++ Z)))) from by simpa using HA0.out)
     go_wp2_with (go_at_call 136; refine (rotate_any g n cap base s m e ok (X ++ U1) U2 V1 (V2 ++ Z) wr HRB.out Z3 Z3 Z3 Z4 Z4 hn HOK1.out).mono ?_; rintro e' w5 ⟨rfl, hr5, hg5⟩; have HR5 := Aside0.mk (show Kd.R kh 41 w5 base ok (.slice (some ⟨g, 0, none⟩) n cap) (X ++ (U1 ++ (V1 ++ (U2 ++ (V2 ++ Z))))) from by simpa using hr5); have HG5 := Aside0.mk (grown_grown HG.out hg5); have HOK5 := Aside0.mk (fun k hk => Nat.lt_of_lt_of_le (HOK1.out k hk) hg5.size); clear hr5 hg5)
     refine (HIH.out (U1.length + V1.length) Z9 g n cap base a s hi ok X U1 V1 (U2 ++ (V2 ++ Z)) w5 rfl HR5.out Z6 Z8 Z8 Z4 Z4 HS1.out.1 HS1.out.2.2.1 hn HOK5.out).mono ?_
     rintro e' w6 ⟨rfl, hr6, hg6⟩
     have HR6 := Aside0.mk hr6
     have HG6 := Aside0.mk (grown_grown HG5.out hg6)
     have HOK6 := Aside0.mk (fun k hk => Nat.lt_of_lt_of_le (HOK5.out k hk) hg6.size)
     clear hr6 hg6
     go_wp2_with fail
     have HML1 := Aside0.mk (show (X ++ mrg hkey U1 V1).length = hi from by rw [List.length_append, mrg_length]; have := HLN.out; have := HL1.out; omega)
     have HR7 := Aside0.mk (show Kd.R kh 41 w6 base ok (.slice (some ⟨g, 0, none⟩) n cap) ((X ++ mrg hkey U1 V1) ++ (U2 ++ (V2 ++ Z))) from by rw [List.append_assoc]; exact HR6.out)
     refine (HIH.out (U2.length + V2.length) Z9 g n cap base hi e b ok (X ++ mrg hkey U1 V1) U2 V2 Z w6 rfl HR7.out (by have := HML1.out; omega) Z7 Z7 Z4 Z4 HS1.out.2.1 HS1.out.2.2.2 hn HOK6.out).mono ?_
     rintro e' w7 ⟨rfl, hr7, hg7⟩
     have HR8 := Aside0.mk hr7
     have HG8 := Aside0.mk (grown_grown HG6.out hg7)
     clear hr7 hg7
     go_wp2_with fail
     go_end0
     exact ⟨rfl, by rw [HML.out]; have := HR8.out; simpa using this, HG8.out⟩
    ·have z1 : (s : Int) < (m : Int) := by omega
     have z2 : (m : Int) < (e : Int) := by omega
     have z3 : (a : Int) < (s : Int) := by omega
     have z4 : (s : Int) < (hi : Int) := by omega
     have z5 : (hi : Int) < (e : Int) := by omega
     have z6 : decide ((e : Int) < (b : Int)) = false := by simp; omega
     have HRB := Aside0.mk (show Kd.R kh 41 wr base ok (.slice (some ⟨g, 0, none⟩) n cap) ((X ++ U1) ++ (U2 ++ (V1 ++ (V2 ++ Z)))) from by simpa using HA0.out)
     go_wp2_with (go_at_call 136; refine (rotate_any g n cap base s m e ok (X ++ U1) U2 V1 (V2 ++ Z) wr HRB.out Z3 Z3 Z3 Z4 Z4 hn HOK1.out).mono ?_; rintro e' w5 ⟨rfl, hr5, hg5⟩; have HR5 := Aside0.mk (show Kd.R kh 41 w5 base ok (.slice (some ⟨g, 0, none⟩) n cap) (X ++ (U1 ++ (V1 ++ (U2 ++ (V2 ++ Z))))) from by simpa using hr5); have HG5 := Aside0.mk (grown_grown HG.out hg5); have HOK5 := Aside0.mk (fun k hk => Nat.lt_of_lt_of_le (HOK1.out k hk) hg5.size); clear hr5 hg5)
     refine (HIH.out (U1.length + V1.length) Z9 g n cap base a s hi ok X U1 V1 (U2 ++ (V2 ++ Z)) w5 rfl HR5.out Z6 Z8 Z8 Z4 Z4 HS1.out.1 HS1.out.2.2.1 hn HOK5.out).mono ?_
     rintro e' w6 ⟨rfl, hr6, hg6⟩
     have HR6 := Aside0.mk hr6
     have HG6 := Aside0.mk (grown_grown HG5.out hg6)
     have HOK6 := Aside0.mk (fun k hk => Nat.lt_of_lt_of_le (HOK5.out k hk) hg6.size)
     clear hr6 hg6
     go_wp2_with fail
     have HML1 := Aside0.mk (show (X ++ mrg hkey U1 V1).length = hi from by rw [List.length_append, mrg_length]; have := HLN.out; have := HL1.out; omega)
     have HR7 := Aside0.mk (show Kd.R kh 41 w6 base ok (.slice (some ⟨g, 0, none⟩) n cap) ((X ++ mrg hkey U1 V1) ++ (U2 ++ (V2 ++ Z))) from by rw [List.append_assoc]; exact HR6.out)
     have hem : V2 = [] := List.eq_nil_of_length_eq_zero Z4
     have HR8 := Aside0.mk (show Kd.R kh 41 w6 base ok (.slice (some ⟨g, 0, none⟩) n cap) ((X ++ mrg hkey U1 V1) ++ (mrg hkey U2 V2 ++ Z)) from by have := HR7.out; rw [hem] at this ⊢; rw [mrg_nil_right]; simpa using this)
     have HG8 := HG6
     clear hem
     go_end0
     exact ⟨rfl, by rw [HML.out]; have := HR8.out; simpa using this, HG8.out⟩
    ·exfalso; omega
    ·have z1 : (s : Int) < (m : Int) := by omega
     have z2 : decide ((m : Int) < (e : Int)) = false := by simp; omega
     have z3 : (a : Int) < (s : Int) := by omega
     have z4 : decide ((s : Int) < (hi : Int)) = false := by simp; omega
     have z5 : (hi : Int) < (e : Int) := by omega
     have z6 : (e : Int) < (b : Int) := by omega
     have hem : V1 = [] := List.eq_nil_of_length_eq_zero Z4
     have HR5 := Aside0.mk (show Kd.R kh 41 wr base ok (.slice (some ⟨g, 0, none⟩) n cap) (X ++ (U1 ++ (V1 ++ (U2 ++ (V2 ++ Z))))) from by have := HA0.out; rw [hem] at this ⊢; simpa using this)
     have HG5 := HG
     have HOK5 := HOK1
     clear hem
     go_wp2_with fail
     have hem : V1 = [] := List.eq_nil_of_length_eq_zero Z4
     have HR6 := Aside0.mk (show Kd.R kh 41 wr base ok (.slice (some ⟨g, 0, none⟩) n cap) (X ++ (mrg hkey U1 V1 ++ (U2 ++ (V2 ++ Z)))) from by have := HR5.out; rw [hem] at this ⊢; rw [mrg_nil_right]; simpa using this)
     have HG6 := HG5
     have HOK6 := HOK5
     clear hem
     have HML1 := Aside0.mk (show (X ++ mrg hkey U1 V1).length = hi from by rw [List.length_append, mrg_length]; have := HLN.out; have := HL1.out; omega)
     have HR7 := Aside0.mk (show Kd.R kh 41 wr base ok (.slice (some ⟨g, 0, none⟩) n cap) ((X ++ mrg hkey U1 V1) ++ (U2 ++ (V2 ++ Z))) from by rw [List.append_assoc]; exact HR6.out)
     refine (HIH.out (U2.length + V2.length) Z9 g n cap base hi e b ok (X ++ mrg hkey U1 V1) U2 V2 Z wr rfl HR7.out (by have := HML1.out; omega) Z7 Z7 Z4 Z4 HS1.out.2.1 HS1.out.2.2.2 hn HOK6.out).mono ?_
     rintro e' w7 ⟨rfl, hr7, hg7⟩
     have HR8 := Aside0.mk hr7
     have HG8 := Aside0.mk (grown_grown HG6.out hg7)
     clear hr7 hg7
     go_wp2_with fail
     go_end0
     exact ⟨rfl, by rw [HML.out]; have := HR8.out; simpa using this, HG8.out⟩
    ·exfalso; omega
    ·exfalso; omega
    ·have z1 : (s : Int) < (m : Int) := by omega
     have z2 : (m : Int) < (e : Int) := by omega
     have z3 : decide ((a : Int) < (s : Int)) = false := by simp; omega
     have z4 : (s : Int) < (hi : Int) := by omega
     have z5 : (hi : Int) < (e : Int) := by omega
     have z6 : decide ((e : Int) < (b : Int)) = false := by simp; omega
     have HRB := Aside0.mk (show Kd.R kh 41 wr base ok (.slice (some ⟨g, 0, none⟩) n cap) ((X ++ U1) ++ (U2 ++ (V1 ++ (V2 ++ Z)))) from by simpa using HA0.out)
     go_wp2_with (go_at_call 136; refine (rotate_any g n cap base s m e ok (X ++ U1) U2 V1 (V2 ++ Z) wr HRB.out Z3 Z3 Z3 Z4 Z4 hn HOK1.out).mono ?_; rintro e' w5 ⟨rfl, hr5, hg5⟩; have HR5 := Aside0.mk (show Kd.R kh 41 w5 base ok (.slice (some ⟨g, 0, none⟩) n cap) (X ++ (U1 ++ (V1 ++ (U2 ++ (V2 ++ Z))))) from by simpa using hr5); have HG5 := Aside0.mk (grown_grown HG.out hg5); have HOK5 := Aside0.mk (fun k hk => Nat.lt_of_lt_of_le (HOK1.out k hk) hg5.size); clear hr5 hg5)
     have hem : U1 = [] := List.eq_nil_of_length_eq_zero Z4
     have HR6 := Aside0.mk (show Kd.R kh 41 w5 base ok (.slice (some ⟨g, 0, none⟩) n cap) (X ++ (mrg hkey U1 V1 ++ (U2 ++ (V2 ++ Z)))) from by have := HR5.out; rw [hem] at this ⊢; rw [mrg_nil_left]; simpa using this)
     have HG6 := HG5
     have HOK6 := HOK5
     clear hem
     have HML1 := Aside0.mk (show (X ++ mrg hkey U1 V1).length = hi from by rw [List.length_append, mrg_length]; have := HLN.out; have := HL1.out; omega)
     have HR7 := Aside0.mk (show Kd.R kh 41 w5 base ok (.slice (some ⟨g, 0, none⟩) n cap) ((X ++ mrg hkey U1 V1) ++ (U2 ++ (V2 ++ Z))) from by rw [List.append_assoc]; exact HR6.out)
     have hem : V2 = [] := List.eq_nil_of_length_eq_zero Z4
     have HR8 := Aside0.mk (show Kd.R kh 41 w5 base ok (.slice (some ⟨g, 0, none⟩) n cap) ((X ++ mrg hkey U1 V1) ++ (mrg hkey U2 V2 ++ Z)) from by have := HR7.out; rw [hem] at this ⊢; rw [mrg_nil_right]; simpa using this)
     have HG8 := HG6
     clear hem
     go_end0
     exact ⟨rfl, by rw [HML.out]; have := HR8.out; simpa using this, HG8.out⟩
 ·have t1 : decide ((mid : Int) < (m : Int)) = false := by simp; omega
  subst q2 q3
  go_enter Try.func121, Try.ntmps121
  go_wp2
  go_loopw [20, 21] (fun v20 v21 wr => ∃ (s r : Nat), v20 = .int .i64 (s : Int) ∧ v21 = .int .i64 (r : Int) ∧ lo ≤ s ∧ s ≤ r ∧ r ≤ hi ∧ Aside0 (∀ c x y, lo ≤ c → c < s → U[c - lo]? = some x → V[mid + hi - 1 - c - hi]? = some y → hkey x ≤ hkey y) ∧ Aside0 (∀ c x y, r ≤ c → c < hi → U[c - lo]? = some x → V[mid + hi - 1 - c - hi]? = some y → hkey y < hkey x) ∧
   Aside0 (Kd.R kh 41 wr base ok (.slice (some ⟨g, 0, none⟩) n cap) (X ++ (U ++ (V ++ Z)))) ∧ Aside0 (w.grownBy wr (some g))) (fun v20 v21 _ => (intOf v21).toNat - (intOf v20).toNat)
  case atStart => exact ⟨lo, hi, rfl, rfl, Nat.le_refl _, l2, Nat.le_refl _, ⟨fun c x y h1 h2 => by omega⟩, ⟨fun c x y h1 h2 => by omega⟩, HR, ⟨grown_refl _ _⟩⟩
  case round =>
   clear HR
   obtain ⟨s, r, rfl, rfl, hls, hsr, hrh, HT, HD, HA, HG⟩ := hrel
   by_cases hlt : s < r
   ·have hlt' : (s : Int) < r := by omega
    obtain ⟨c, hc⟩ : ∃ c, c = (s + r) / 2 := ⟨_, rfl⟩
    have hc1 : s ≤ c ∧ c < r := by omega
    obtain ⟨hc2, hc3⟩ := hc1
    obtain ⟨d, hd⟩ : ∃ d, d = mid + hi - 1 - c := ⟨_, rfl⟩
    have hd1 : hi ≤ d ∧ d < b := by omega
    have hxu : U[c - lo]? = some _ := List.getElem?_eq_getElem (show c - lo < U.length by have := HLN.out; omega)
    have hyv : V[d - hi]? = some _ := List.getElem?_eq_getElem (show d - hi < V.length by have := HLN.out; omega)
    generalize U[c - lo]'_ = x at *
    generalize V[d - hi]'_ = y at *
    have hrx : (X ++ (U ++ (V ++ Z)))[c]? = some x := by rw [List.getElem?_append_right Z6, List.getElem?_append_left Z6, show c - X.length = c - lo by have := HLN.out; omega]; exact hxu
    have hry : (X ++ (U ++ (V ++ Z)))[d]? = some y := by rw [List.getElem?_append_right Z6, List.getElem?_append_right Z6, List.getElem?_append_left Z6, show d - X.length - U.length = d - hi by have := HLN.out; omega]; exact hyv
    obtain ⟨x0, x1, x2, x3, x4⟩ := at_kh HA.out c x hrx
    obtain ⟨y0, y1, y2, y3, y4⟩ := at_kh HA.out d y hry
    have HXU := Aside0.mk hxu
    have HYV := Aside0.mk hyv
    have HDD := Aside0.mk hd
    have hcc : ((s : Int) + (r : Int)) / 2 = (c : Int) := by omega
    have hdd : (mid : Int) + (hi : Int) - 1 - (c : Int) = (d : Int) := by omega
    have hdw : IntKind.i64.wrap ((mid : Int) + (hi : Int) - 1 - (c : Int)) = (d : Int) := by rw [IntKind.wrap_i64]; omega
    have hdw2 : IntKind.i64.wrap (d : Int) = (d : Int) := by rw [IntKind.wrap_i64]; omega
    have j0 : (c : Int) < n := by omega
    have j1 : (d : Int) < n := by omega
    have c0 : (0 : Int) ≤ (s : Int) + (r : Int) := by omega
    have c1 : (s : Int) + (r : Int) ≤ 2000000000000 := by omega
    clear hxu hyv hrx hry hd hc
    go_wp2
    go_still_tail 11, (by kernel_rfl)
    change wpList _ _ _ _ _ wr.drew
    have hAd := Kd.R_drew HA.out
    have hGd := grown_drew HG.out
    clear x0 x1 x2 x3 x4 y0 y1 y2 y3 y4
    generalize wr.drew = w3 at *
    have HA3 := Aside0.mk hAd
    have HG3 := Aside0.mk hGd
    clear hAd hGd HA HG
    have hcl := cmpI_lt y.1.f2 x.1.f2
    by_cases hlt2 : hkey y < hkey x
    ·rw [decide_eq_true (show y.1.f2 < x.1.f2 from hlt2)] at hcl
     have HLT := Aside0.mk hlt2
     clear hlt2
     go_wp2_with (go_at_call 72; refine (cmpH_any y x _).mono ?_; rintro e w4 ⟨rfl, hb4⟩; have HA4 := Aside0.mk (Kd.R_below HA3.out hb4); have HG4 := Aside0.mk (grown_below HG3.out hb4); clear hb4)
     go_roundw
     case rel => exact ⟨s, c, rfl, by first | rfl | exact int_i64 (by omega), hls, hc2, by omega, HT, ⟨fun c' x' y' h1 h2 h3 h4 => by
      by_cases e : r ≤ c'
      ·exact HD.out c' x' y' e h2 h3 h4
      ·have k1 := srt_le HS.out.1 (i := c - lo) (j := c' - lo) (by omega) HXU.out h3
       have k2 := srt_le HS.out.2 (i := mid + hi - 1 - c' - hi) (j := d - hi) (by have := HDD.out; omega) h4 HYV.out
       have := HLT.out
       omega⟩, HA4, HG4⟩
     case measure => simp [intOf]; omega
    ·rw [decide_eq_false (show ¬ y.1.f2 < x.1.f2 from hlt2)] at hcl
     have HLT := Aside0.mk (show hkey x ≤ hkey y by omega)
     clear hlt2
     go_wp2_with (go_at_call 72; refine (cmpH_any y x _).mono ?_; rintro e w4 ⟨rfl, hb4⟩; have HA4 := Aside0.mk (Kd.R_below HA3.out hb4); have HG4 := Aside0.mk (grown_below HG3.out hb4); clear hb4)
     go_roundw
     case rel => exact ⟨c + 1, r, by first | exact int_i64 (by omega) | go_num, rfl, by omega, by omega, hrh, ⟨fun c' x' y' h1 h2 h3 h4 => by
      by_cases e : c' < s
      ·exact HT.out c' x' y' h1 e h3 h4
      ·have k1 := srt_le HS.out.1 (i := c' - lo) (j := c - lo) (by omega) h3 HXU.out
       have k2 := srt_le HS.out.2 (i := d - hi) (j := mid + hi - 1 - c' - hi) (by have := HDD.out; omega) HYV.out h4
       have := HLT.out
       omega⟩, HD, HA4, HG4⟩
     case measure => simp [intOf]; omega
   ·obtain rfl : s = r := by omega
    obtain ⟨e, he⟩ : ∃ e, e = mid + hi - s := ⟨_, rfl⟩
    have he1 : hi ≤ e ∧ e ≤ b ∧ e + s = mid + hi := by omega
    obtain ⟨e1, e2, e3⟩ := he1
    have h12 := split12 HS.out.1 HS.out.2 (p := s - lo) (q := e - hi) Z6 (by
     by_cases h1 : s = lo
     ·exact .inl (by omega)
     ·by_cases h2 : e = b
      ·exact .inr (.inl Z6)
      ·exact .inr (.inr fun x y hx hy => HT.out (s - 1) x y (by have := HLH.out; omega) (by omega) (by rw [show s - 1 - lo = s - lo - 1 by omega]; exact hx) (by rw [show mid + hi - 1 - (s - 1) - hi = e - hi by omega]; exact hy)))
    have h21 := split21 HS.out.1 HS.out.2 (p := s - lo) (q := e - hi) Z6 (by
     by_cases h1 : s = hi
     ·exact .inl Z6
     ·by_cases h2 : e = hi
      ·exact .inr (.inl (by omega))
      ·exact .inr (.inr fun x y hx hy => HD.out s x y (by omega) (by have := HLH.out; omega) hx (by rw [show mid + hi - 1 - s - hi = e - hi - 1 by omega]; exact hy)))
    have hU1 : U.take (s - lo) ++ U.drop (s - lo) = U := List.take_append_drop _ U
    have hV1 : V.take (e - hi) ++ V.drop (e - hi) = V := List.take_append_drop _ V
    have hml := mrg_split hkey _ _ _ _ h12 h21
    rw [hU1, hV1] at hml
    have hS1 : Srt hkey (U.take (s - lo)) ∧ Srt hkey (U.drop (s - lo)) ∧ Srt hkey (V.take (e - hi)) ∧ Srt hkey (V.drop (e - hi)) := ⟨HS.out.1.sublist (List.take_sublist _ _), HS.out.1.sublist (List.drop_sublist _ _), HS.out.2.sublist (List.take_sublist _ _), HS.out.2.sublist (List.drop_sublist _ _)⟩
    have hl1 : (U.take (s - lo)).length = s - lo ∧ (U.drop (s - lo)).length = hi - s ∧ (V.take (e - hi)).length = e - hi ∧ (V.drop (e - hi)).length = b - e := by
     rw [List.length_take, List.length_drop, List.length_take, List.length_drop]; have := HLN.out; omega
    have hA0 := HA.out
    rw [← hU1, ← hV1] at hA0
    have HML := Aside0.mk hml
    generalize U.take (s - lo) = U1 at *
    generalize U.drop (s - lo) = U2 at *
    generalize V.take (e - hi) = V1 at *
    generalize V.drop (e - hi) = V2 at *
    have HS1 := Aside0.mk hS1
    have HL1 := Aside0.mk hl1
    have HA0 := Aside0.mk (show Kd.R kh 41 wr base ok (.slice (some ⟨g, 0, none⟩) n cap) (X ++ (U1 ++ (U2 ++ (V1 ++ (V2 ++ Z))))) from by simpa using hA0)
    have hok1 : ∀ k, ok k → k < wr.heap.size := fun k hk => Nat.lt_of_lt_of_le (HOK.out k hk) HG.out.size
    have HOK1 := Aside0.mk hok1
    have hen : (mid : Int) + (hi : Int) - (s : Int) = (e : Int) := by omega
    have hbnd : lo ≤ s ∧ s ≤ hi ∧ s ≤ mid := by omega
    obtain ⟨n1, n2, n3⟩ := hbnd
    clear h12 h21 hU1 hV1 hml hS1 hl1 hA0 HA HT HD hok1 he
    have hcs : (lo < s ∧ hi < e ∧ s < hi ∧ e < b) ∨ (lo < s ∧ hi < e ∧ s < hi ∧ b ≤ e) ∨ (lo < s ∧ hi < e ∧ hi ≤ s ∧ e < b) ∨ (lo < s ∧ e ≤ hi ∧ s < hi ∧ e < b) ∨ (lo < s ∧ e ≤ hi ∧ hi ≤ s ∧ e < b) ∨ (s ≤ lo ∧ hi < e ∧ s < hi ∧ e < b) ∨ (s ≤ lo ∧ hi < e ∧ s < hi ∧ b ≤ e) := by omega
    rcases hcs with ⟨k1, k2, k3, k4⟩ | ⟨k1, k2, k3, k4⟩ | ⟨k1, k2, k3, k4⟩ | ⟨k1, k2, k3, k4⟩ | ⟨k1, k2, k3, k4⟩ | ⟨k1, k2, k3, k4⟩ | ⟨k1, k2, k3, k4⟩
    ·have z1 : (s : Int) < (hi : Int) := by omega
     have z2 : (hi : Int) < (e : Int) := by omega
     have z3 : (lo : Int) < (s : Int) := by omega
     have z4 : (s : Int) < (mid : Int) := by omega
     have z5 : (mid : Int) < (e : Int) := by omega
     have z6 : (e : Int) < (b : Int) := by omega
     have HRB := Aside0.mk (show Kd.R kh 41 wr base ok (.slice (some ⟨g, 0, none⟩) n cap) ((X ++ U1) ++ (U2 ++ (V1 ++ (V2 ++ Z)))) from by simpa using HA0.out)
     go_wp2_with (go_at_call 136; refine (rotate_any g n cap base s hi e ok (X ++ U1) U2 V1 (V2 ++ Z) wr HRB.out Z3 Z3 Z3 Z4 Z4 hn HOK1.out).mono ?_; rintro e' w5 ⟨rfl, hr5, hg5⟩; have HR5 := Aside0.mk (show Kd.R kh 41 w5 base ok (.slice (some ⟨g, 0, none⟩) n cap) (X ++ (U1 ++ (V1 ++ (U2 ++ (V2 ++ Z))))) from by simpa using hr5); have HG5 := Aside0.mk (grown_grown HG.out hg5); have HOK5 := Aside0.mk (fun k hk => Nat.lt_of_lt_of_le (HOK1.out k hk) hg5.size); clear hr5 hg5)
     refine (HIH.out (U1.length + V1.length) Z9 g n cap base lo s mid ok X U1 V1 (U2 ++ (V2 ++ Z)) w5 rfl HR5.out Z6 Z8 Z8 Z4 Z4 HS1.out.1 HS1.out.2.2.1 hn HOK5.out).mono ?_
     rintro e' w6 ⟨rfl, hr6, hg6⟩
     have HR6 := Aside0.mk hr6
     have HG6 := Aside0.mk (grown_grown HG5.out hg6)
     have HOK6 := Aside0.mk (fun k hk => Nat.lt_of_lt_of_le (HOK5.out k hk) hg6.size)
     clear hr6 hg6
     go_wp2_with fail
     have HML1 := Aside0.mk (show (X ++ mrg hkey U1 V1).length = mid from by rw [List.length_append, mrg_length]; have := HLN.out; have := HL1.out; omega)
     have HR7 := Aside0.mk (show Kd.R kh 41 w6 base ok (.slice (some ⟨g, 0, none⟩) n cap) ((X ++ mrg hkey U1 V1) ++ (U2 ++ (V2 ++ Z))) from by rw [List.append_assoc]; exact HR6.out)
     refine (HIH.out (U2.length + V2.length) Z9 g n cap base mid e b ok (X ++ mrg hkey U1 V1) U2 V2 Z w6 rfl HR7.out (by have := HML1.out; omega) Z7 Z7 Z4 Z4 HS1.out.2.1 HS1.out.2.2.2 hn HOK6.out).mono ?_
     rintro e' w7 ⟨rfl, hr7, hg7⟩
     have HR8 := Aside0.mk hr7
     have HG8 := Aside0.mk (grown_grown HG6.out hg7)
     clear hr7 hg7
     go_wp2_with fail
     go_end0
     exact ⟨rfl, by rw [HML.out]; have := HR8.out; simpa using this, HG8.out⟩
    ·exfalso; omega
    ·have z1 : decide ((s : Int) < (hi : Int)) = false := by simp; omega
     have z2 : (hi : Int) < (e : Int) := by omega
     have z3 : (lo : Int) < (s : Int) := by omega
     have z4 : (s : Int) < (mid : Int) := by omega
     have z5 : decide ((mid : Int) < (e : Int)) = false := by simp; omega
     have z6 : (e : Int) < (b : Int) := by omega
     have hem : U2 = [] := List.eq_nil_of_length_eq_zero Z4
     have HR5 := Aside0.mk (show Kd.R kh 41 wr base ok (.slice (some ⟨g, 0, none⟩) n cap) (X ++ (U1 ++ (V1 ++ (U2 ++ (V2 ++ Z))))) from by have := HA0.out; rw [hem] at this ⊢; simpa using this)
     have HG5 := HG
     have HOK5 := HOK1
     clear hem
     go_wp2_with fail
     refine (HIH.out (U1.length + V1.length) Z9 g n cap base lo s mid ok X U1 V1 (U2 ++ (V2 ++ Z)) wr rfl HR5.out Z6 Z8 Z8 Z4 Z4 HS1.out.1 HS1.out.2.2.1 hn HOK5.out).mono ?_
     rintro e' w6 ⟨rfl, hr6, hg6⟩
     have HR6 := Aside0.mk hr6
     have HG6 := Aside0.mk (grown_grown HG5.out hg6)
     have HOK6 := Aside0.mk (fun k hk => Nat.lt_of_lt_of_le (HOK5.out k hk) hg6.size)
     clear hr6 hg6
     go_wp2_with fail
     have HML1 := Aside0.mk (show (X ++ mrg hkey U1 V1).length = mid from by rw [List.length_append, mrg_length]; have := HLN.out; have := HL1.out; omega)
     have HR7 := Aside0.mk (show Kd.R kh 41 w6 base ok (.slice (some ⟨g, 0, none⟩) n cap) ((X ++ mrg hkey U1 V1) ++ (U2 ++ (V2 ++ Z))) from by rw [List.append_assoc]; exact HR6.out)
     have hem : U2 = [] := List.eq_nil_of_length_eq_zero Z4
     have HR8 := Aside0.mk (show Kd.R kh 41 w6 base ok (.slice (some ⟨g, 0, none⟩) n cap) ((X ++ mrg hkey U1 V1) ++ (mrg hkey U2 V2 ++ Z)) from by have := HR7.out; rw [hem] at this ⊢; rw [mrg_nil_left]; simpa using this)
     have HG8 := HG6
     clear hem
     go_end0
     exact ⟨rfl, by rw [HML.out]; have := HR8.out; simpa using this, HG8.out⟩
    ·exfalso; omega
    ·have z1 : decide ((s : Int) < (hi : Int)) = false := by simp; omega
     have z2 : decide ((hi : Int) < (e : Int)) = false := by simp; omega
     have z3 : (lo : Int) < (s : Int) := by omega
     have z4 : decide ((s : Int) < (mid : Int)) = false := by simp; omega
     have z5 : decide ((mid : Int) < (e : Int)) = false := by simp; omega
     have z6 : (e : Int) < (b : Int) := by omega
     have hem : U2 = [] := List.eq_nil_of_length_eq_zero Z4
     have HR5 := Aside0.mk (show Kd.R kh 41 wr base ok (.slice (some ⟨g, 0, none⟩) n cap) (X ++ (U1 ++ (V1 ++ (U2 ++ (V2 ++ Z))))) from by have := HA0.out; rw [hem] at this ⊢; simpa using this)
     have HG5 := HG
     have HOK5 := HOK1
     clear hem
     go_wp2_with fail
     have hem : V1 = [] := List.eq_nil_of_length_eq_zero Z4
     have HR6 := Aside0.mk (show Kd.R kh 41 wr base ok (.slice (some ⟨g, 0, none⟩) n cap) (X ++ (mrg hkey U1 V1 ++ (U2 ++ (V2 ++ Z)))) from by have := HR5.out; rw [hem] at this ⊢; rw [mrg_nil_right]; simpa using this)
     have HG6 := HG5
     have HOK6 := HOK5
     clear hem
     have HML1 := Aside0.mk (show (X ++ mrg hkey U1 V1).length = mid from by rw [List.length_append, mrg_length]; have := HLN.out; have := HL1.out; omega)
     have HR7 := Aside0.mk (show Kd.R kh 41 wr base ok (.slice (some ⟨g, 0, none⟩) n cap) ((X ++ mrg hkey U1 V1) ++ (U2 ++ (V2 ++ Z))) from by rw [List.append_assoc]; exact HR6.out)
     have hem : U2 = [] := List.eq_nil_of_length_eq_zero Z4
     have HR8 := Aside0.mk (show Kd.R kh 41 wr base ok (.slice (some ⟨g, 0, none⟩) n cap) ((X ++ mrg hkey U1 V1) ++ (mrg hkey U2 V2 ++ Z)) from by have := HR7.out; rw [hem] at this ⊢; rw [mrg_nil_left]; simpa using this)
     have HG8 := HG6
     clear hem
     go_end0
     exact ⟨rfl, by rw [HML.out]; have := HR8.out; simpa using this, HG8.out⟩
    ·have z1 : (s : Int) < (hi : Int) := by omega
     have z2 : (hi : Int) < (e : Int) := by omega
     have z3 : decide ((lo : Int) < (s : Int)) = false := by simp; omega
     have z4 : (s : Int) < (mid : Int) := by omega
     have z5 : (mid : Int) < (e : Int) := by omega
     have z6 : (e : Int) < (b : Int) := by omega
     have HRB := Aside0.mk (show Kd.R kh 41 wr base ok (.slice (some ⟨g, 0, none⟩) n cap) ((X ++ U1) ++ (U2 ++ (V1 ++ (V2 ++ Z)))) from by simpa using HA0.out)
     go_wp2_with (go_at_call 136; refine (rotate_any g n cap base s hi e ok (X ++ U1) U2 V1 (V2 ++ Z) wr HRB.out Z3 Z3 Z3 Z4 Z4 hn HOK1.out).mono ?_; rintro e' w5 ⟨rfl, hr5, hg5⟩; have HR5 := Aside0.mk (show Kd.R kh 41 w5 base ok (.slice (some ⟨g, 0, none⟩) n cap) (X ++ (U1 ++ (V1 ++ (U2 ++ (V2 ++ Z))))) from by simpa using hr5); have HG5 := Aside0.mk (grown_grown HG.out hg5); have HOK5 := Aside0.mk (fun k hk => Nat.lt_of_lt_of_le (HOK1.out k hk) hg5.size); clear hr5 hg5)
     have hem : U1 = [] := List.eq_nil_of_length_eq_zero Z4
     have HR6 := Aside0.mk (show Kd.R kh 41 w5 base ok (.slice (some ⟨g, 0, none⟩) n cap) (X ++ (mrg hkey U1 V1 ++ (U2 ++ (V2 ++ Z)))) from by have := HR5.out; rw [hem] at this ⊢; rw [mrg_nil_left]; simpa using this)
     have HG6 := HG5
     have HOK6 := HOK5
     clear hem
     have HML1 := Aside0.mk (show (X ++ mrg hkey U1 V1).length = mid from by rw [List.length_append, mrg_length]; have := HLN.out; have := HL1.out; omega)
     have HR7 := Aside0.mk (show Kd.R kh 41 w5 base ok (.slice (some ⟨g, 0, none⟩) n cap) ((X ++ mrg hkey U1 V1) ++ (U2 ++ (V2 ++ Z))) from by rw [List.append_assoc]; exact HR6.out)
     refine (HIH.out (U2.length + V2.length) Z9 g n cap base mid e b ok (X ++ mrg hkey U1 V1) U2 V2 Z w5 rfl HR7.out (by have := HML1.out; omega) Z7 Z7 Z4 Z4 HS1.out.2.1 HS1.out.2.2.2 hn HOK6.out).mono ?_
     rintro e' w7 ⟨rfl, hr7, hg7⟩
     have HR8 := Aside0.mk hr7
     have HG8 := Aside0.mk (grown_grown HG6.out hg7)
     clear hr7 hg7
     go_wp2_with fail
     go_end0
     exact ⟨rfl, by rw [HML.out]; have := HR8.out; simpa using this, HG8.out⟩
    ·have z1 : (s : Int) < (hi : Int) := by omega
     have z2 : (hi : Int) < (e : Int) := by omega
     have z3 : decide ((lo : Int) < (s : Int)) = false := by simp; omega
     have z4 : (s : Int) < (mid : Int) := by omega
     have z5 : (mid : Int) < (e : Int) := by omega
     have z6 : decide ((e : Int) < (b : Int)) = false := by simp; omega
     have HRB := Aside0.mk (show Kd.R kh 41 wr base ok (.slice (some ⟨g, 0, none⟩) n cap) ((X ++ U1) ++ (U2 ++ (V1 ++ (V2 ++ Z)))) from by simpa using HA0.out)
     go_wp2_with (go_at_call 136; refine (rotate_any g n cap base s hi e ok (X ++ U1) U2 V1 (V2 ++ Z) wr HRB.out Z3 Z3 Z3 Z4 Z4 hn HOK1.out).mono ?_; rintro e' w5 ⟨rfl, hr5, hg5⟩; have HR5 := Aside0.mk (show Kd.R kh 41 w5 base ok (.slice (some ⟨g, 0, none⟩) n cap) (X ++ (U1 ++ (V1 ++ (U2 ++ (V2 ++ Z))))) from by simpa using hr5); have HG5 := Aside0.mk (grown_grown HG.out hg5); have HOK5 := Aside0.mk (fun k hk => Nat.lt_of_lt_of_le (HOK1.out k hk) hg5.size); clear hr5 hg5)
     have hem : U1 = [] := List.eq_nil_of_length_eq_zero Z4
     have HR6 := Aside0.mk (show Kd.R kh 41 w5 base ok (.slice (some ⟨g, 0, none⟩) n cap) (X ++ (mrg hkey U1 V1 ++ (U2 ++ (V2 ++ Z)))) from by have := HR5.out; rw [hem] at this ⊢; rw [mrg_nil_left]; simpa using this)
     have HG6 := HG5
     have HOK6 := HOK5
     clear hem
     have HML1 := Aside0.mk (show (X ++ mrg hkey U1 V1).length = mid from by rw [List.length_append, mrg_length]; have := HLN.out; have := HL1.out; omega)
     have HR7 := Aside0.mk (show Kd.R kh 41 w5 base ok (.slice (some ⟨g, 0, none⟩) n cap) ((X ++ mrg hkey U1 V1) ++ (U2 ++ (V2 ++ Z))) from by rw [List.append_assoc]; exact HR6.out)
     have hem : V2 = [] := List.eq_nil_of_length_eq_zero Z4
     have HR8 := Aside0.mk (show Kd.R kh 41 w5 base ok (.slice (some ⟨g, 0, none⟩) n cap) ((X ++ mrg hkey U1 V1) ++ (mrg hkey U2 V2 ++ Z)) from by have := HR7.out; rw [hem] at this ⊢; rw [mrg_nil_right]; simpa using this)
     have HG8 := HG6
     clear hem
     go_end0
     exact ⟨rfl, by rw [HML.out]; have := HR8.out; simpa using this, HG8.out⟩
theorem symMerge_any : ∀ sz, SymC sz := fun sz => by
 induction sz using Nat.strongRecOn with
 | ind sz IH =>
  intro g n cap base a m b ok X U V Z w hsz hr ha hm hb hU0 hV0 hU hV hn hok
  by_cases h1 : U.length = 1
  ·obtain ⟨u, rfl⟩ := List.length_eq_one_iff.1 h1
   exact symMerge_left g n cap base a m b ok X V Z u w hr ha (by simpa using hm) (by simpa using hb) hV hn hok
  ·by_cases h2 : V.length = 1
   ·obtain ⟨v, rfl⟩ := List.length_eq_one_iff.1 h2
    exact symMerge_right g n cap base a m b ok X U Z v w hr ha hm (by simpa using hb) (by omega) hU hn hok
   ·exact symMerge_gen sz IH g n cap base a m b ok X U V Z w hsz hr ha hm hb (by omega) (by omega) hU hV hn hok
end Go.Proofs.Ytckhjehibjdjdaa.P
namespace Go.Proofs.Ytckhjehibjdjdaa.P
open Go.RowKit Go.Shelf Go.Proofs.YtckhjehibjdjdaaW.PrintWords Go.Proofs.YtckhjehibjdjdaaW.PrintLast Go.Proofs.YtckhjehibjdjdaaW.PrintMore
attribute [local go_sem] Oper.semAt_some
set_option linter.unusedVariables false
set_option linter.unusedSimpArgs false
theorem pre_get (X l : List HV) {a i : Nat} (ha : a = X.length) (h : a ≤ i) : (X ++ l)[i]? = l[i - a]? := by
 rw [List.getElem?_append_right (by omega), ha]
theorem pre_set (X l : List HV) {a i : Nat} (ha : a = X.length) (h : a ≤ i) (v : HV) : (X ++ l).set i v = X ++ l.set (i - a) v := by
 rw [List.set_append_right _ _ (by omega), ha]
set_option maxHeartbeats 8000000 in
set_option maxRecDepth 100000 in
theorem insert_gen (g n cap base a b c : Nat) (ok : Nat → Prop) (X xs : List (HV)) (w : World) (hr : Kd.R kh 41 w base ok (.slice (some ⟨g, 0, none⟩) n cap) (X ++ xs)) (ha : a = X.length) (hb : b = a + c) (hc : c ≤ xs.length) (hn : n ≤ 1000000000000) (h2 : 2 ≤ c) (hok : ∀ k, ok k → k < w.heap.size) :
  Calls Try.prog 120 #[.slice (some ⟨g, 0, none⟩) n cap, .int .i64 a, .int .i64 b, .func (.func 72) #[] #[]] w fun e w' => e = .returned (.tuple #[]) ∧ Kd.R kh 41 w' base ok (.slice (some ⟨g, 0, none⟩) n cap) (X ++ (isort hkey (xs.take c) ++ xs.drop c)) ∧ w.grownBy w' (some g) := by
 have hu41 := Try.underlying41
 have HR := Aside0.mk hr
 have hxl := (Kd.R_reads' hr).1
 rw [List.length_append] at hxl
 have bb : a + 2 ≤ b ∧ b ≤ n := by omega
 obtain ⟨bb1, bb2⟩ := bb
 have HXL := Aside0.mk (show X.length = a ∧ a + xs.length = n ∧ b = a + c ∧ c ≤ xs.length from by omega)
 clear hr hxl ha hb hc h2
 go_enter Try.func120, Try.ntmps120
 go_wp2
 go_loopw [8] (fun v8 wr => ∃ p : Nat, a + 1 ≤ p ∧ p ≤ b ∧ v8 = .int .i64 (p : Int) ∧ Aside0 (Kd.R kh 41 wr base ok (.slice (some ⟨g, 0, none⟩) n cap) (X ++ (isort hkey (xs.take (p - a)) ++ xs.drop (p - a)))) ∧ Aside0 (w.grownBy wr (some g))) (fun v8 _ => b - (intOf v8).toNat)
 case atStart => exact ⟨a + 1, Nat.le_refl _, by omega, by go_num, ⟨by
  have : isort hkey (xs.take (a + 1 - a)) ++ xs.drop (a + 1 - a) = xs := by
   rw [show a + 1 - a = 1 by omega]
   cases xs with
   | nil => rfl
   | cons x xs => simp [isort, insK]
  rw [this]; exact HR.out⟩, ⟨grown_refl _ _⟩⟩
 case round =>
  obtain ⟨p, hi1, hib, rfl, HA, HG⟩ := hrel
  by_cases hlt : p < b
  ·have hlt' : (p : Int) < b := by omega
   obtain ⟨i, hpi⟩ : ∃ i, i = p - a := ⟨_, rfl⟩
   have hix : i < xs.length := by have := HXL.out; omega
   have hLl : (isort hkey (xs.take i)).length = i := by rw [(isort_perm hkey _).length_eq, List.length_take]; omega
   have hz : isort hkey (xs.take i) ++ xs.drop i = zAt (isort hkey (xs.take i)) xs[i] (xs.drop (i + 1)) i := by
    unfold zAt
    have t1 : (isort hkey (xs.take i)).take i = isort hkey (xs.take i) := List.take_of_length_le (by omega)
    have t2 : (isort hkey (xs.take i)).drop i = [] := List.drop_eq_nil_of_le (by omega)
    rw [t1, t2, List.nil_append, List.drop_eq_getElem_cons hix]
   have hstep := isort_take hkey xs i hix
   have hsrt := isort_sorted hkey (xs.take i)
   rw [← hpi, hz] at HA
   have hrl : (xs.drop (i + 1)).length = xs.length - (i + 1) := List.length_drop
   clear hz
   have HST := Aside0.mk hstep
   have HPI := Aside0.mk (And.intro hpi (show p + 1 - a = i + 1 by omega))
   clear hstep
   generalize hL : isort hkey (xs.take i) = L at *
   generalize hx : xs[i] = x at *
   generalize hre : xs.drop (i + 1) = rest at *
   have HSRT := Aside0.mk hsrt
   have HRE := Aside0.mk hre
   have HLL := Aside0.mk (show L.length = i ∧ a + i + 1 + rest.length = n ∧ i + a = p from by have := HXL.out; omega)
   clear hsrt hL hx hre hpi hLl hrl
   go_wp2
   obtain ⟨wo, hwo⟩ : ∃ wo : World, wo = wr := ⟨_, rfl⟩
   subst hwo
   go_loopg [9] p (fun kq v9 w2 => ∃ q : Nat, a ≤ q ∧ q ≤ p ∧ v9 = .int .i64 (q : Int) ∧ Aside0 (kq = q) ∧ Aside0 (∀ y ∈ L.drop (q - a), hkey x < hkey y) ∧ Aside0 (Kd.R kh 41 w2 base ok (.slice (some ⟨g, 0, none⟩) n cap) (X ++ zAt L x rest (q - a))) ∧ Aside0 (w.grownBy w2 (some g)))
   case atStart => exact ⟨p, by omega, Nat.le_refl _, rfl, ⟨rfl⟩, ⟨fun y hy => by rw [List.drop_eq_nil_of_le (by have := HLL.out; omega)] at hy; cases hy⟩, ⟨by rw [← HPI.out.1]; exact HA.out⟩, HG⟩
   case round =>
    clear HA HG
    obtain ⟨q, hqa, hj, rfl, HQ, HD, HA, HG⟩ := hrel
    by_cases hq0 : q ≤ a
    ·have hqe : q - a = 0 := by omega
     have hdone : X ++ (isort hkey (xs.take (p + 1 - a)) ++ xs.drop (p + 1 - a)) = X ++ zAt L x rest (q - a) := by
      have hd := HD.out
      rw [hqe] at hd ⊢
      rw [HPI.out.2, HST.out, HRE.out, insK_at hkey x L 0 (by simp) hd]
      simp [zAt]
     rw [← hdone] at HA
     have hd1 : decide ((a : Int) < (q : Int)) = false := by simp; omega
     have hd2 : decide (a < q) = false := by simp; omega
     clear hdone hqe
     go_wp2
     go_quiet (fail)
     go_wp2
     go_roundw
     case rel => exact ⟨p + 1, by omega, by omega, by go_num, HA, ⟨grown_below HG.out (pw_below_drewN (Below.refl _ _) _)⟩⟩
     case measure => simp [intOf]; omega
    ·obtain ⟨m, rfl⟩ : ∃ m, q = m + 1 := ⟨q - 1, by omega⟩
     have hm : m - a < L.length := by have := HLL.out; omega
     have hxp : (X ++ zAt L x rest (m + 1 - a))[m + 1]? = some x := by
      rw [pre_get X _ HXL.out.1.symm (by omega)]; exact zAt_get L x rest (m + 1 - a) (by omega)
     have hyp : (X ++ zAt L x rest (m + 1 - a))[m]? = some L[m - a] := by
      rw [pre_get X _ HXL.out.1.symm (by omega), show m + 1 - a = m - a + 1 by omega]; exact zAt_get1 L x rest (m - a) hm
     obtain ⟨x0, x1, x2, x3, x4⟩ := at_kh HA.out (m + 1) x hxp
     obtain ⟨y0, y1, y2, y3, y4⟩ := at_kh HA.out m L[m - a] hyp
     have hzs : ((X ++ zAt L x rest (m + 1 - a)).set (m + 1) L[m - a]).set m x = X ++ zAt L x rest (m - a) := by
      rw [pre_set X _ HXL.out.1.symm (by omega), pre_set X _ HXL.out.1.symm (by omega), show m + 1 - a = m - a + 1 by omega, zAt_step L x rest (m - a) hm]
     have hd := List.drop_eq_getElem_cons hm
     have ht := List.take_succ_eq_append_getElem hm
     generalize L[m - a] = y at *
     have HZS := Aside0.mk hzs
     have HXP := Aside0.mk hxp
     have HYP := Aside0.mk hyp
     have HDR := Aside0.mk hd
     have HTK := Aside0.mk ht
     clear hzs hd ht hxp hyp
     have e1 : IntKind.i64.wrap (m : Int) = (m : Int) := by rw [IntKind.wrap_i64]; omega
     have i0 : (0 : Int) ≤ (m : Int) + 1 := by omega
     have i1 : (a : Int) < (m : Int) + 1 := by omega
     have i2 : (m : Int) + 1 < n := by omega
     have i3 : (m : Int) < n := by omega
     have i4 : ((m : Int) + 1).toNat = m + 1 := by omega
     go_wp2
     go_still_tail 14, (by kernel_rfl)
     change wpList _ _ _ _ _ wr.drew
     have hAd := Kd.R_drew HA.out
     have hGd := grown_drew HG.out
     clear x0 x1 x2 x3 x4 y0 y1 y2 y3 y4
     generalize wr.drew = w3 at *
     have HA3 := Aside0.mk hAd
     have HG3 := Aside0.mk hGd
     clear hAd hGd HA HG
     by_cases hlt2 : hkey x < hkey y
     ·have hcmp : cmpI x.1.f2 y.1.f2 = -1 := by unfold hkey at hlt2; unfold cmpI; rw [if_pos hlt2]
      have HLT := Aside0.mk hlt2
      clear hlt2
      go_wp2_with (go_at_call 72; refine (cmpH_any x y _).mono ?_; rintro e w4 ⟨rfl, hb4⟩; rw [hcmp]; have HA4 := Aside0.mk (Kd.R_below HA3.out hb4); have HG4 := Aside0.mk (grown_below HG3.out hb4); clear hb4)
      obtain ⟨x0, x1, x2, x3, x4⟩ := at_kh HA4.out (m + 1) x HXP.out
      obtain ⟨y0, y1, y2, y3, y4⟩ := at_kh HA4.out m y HYP.out
      obtain ⟨g', cap', cur, hv, _, _, hh⟩ := ownh HA4.out (by rw [List.length_append, zAt_len _ _ _ _ (by omega)]; omega)
      injection hv with ha hn1 hc1
      injection ha with ha
      injection ha with ha
      subst ha
      clear hn1 hc1
      have z0 := blk_frozen hh ((m + 1) * 5)
      have z1 := blk_frozen hh ((m + 1) * 5 + 1)
      have z2 := blk_frozen hh ((m + 1) * 5 + 2)
      have z3 := blk_frozen hh ((m + 1) * 5 + 3)
      have z4 := blk_frozen hh ((m + 1) * 5 + 4)
      have v0 := blk_frozen hh (m * 5)
      have v1 := blk_frozen hh (m * 5 + 1)
      have v2 := blk_frozen hh (m * 5 + 2)
      have v3 := blk_frozen hh (m * 5 + 3)
      have v4 := blk_frozen hh (m * 5 + 4)
      clear hh
      have p1 := put_kh HA4.out (m + 1) (by omega) y
      have p2 := put_kh p1.1 m (by omega) x
      have hR5 := Kd.R_drew p2.1
      have hG5 := grown_drew (grown_grown (grown_grown HG4.out p1.2) p2.2)
      rw [HZS.out] at hR5
      simp only [hc, World.setCells, Nat.add_assoc, Nat.reduceAdd] at hR5 hG5
      have HR5 := Aside0.mk hR5
      have HG5 := Aside0.mk hG5
      clear hR5 hG5 p1 p2
      go_region
      revert HR5 HG5
      generalize World.drew _ = w5
      intro HR5 HG5
      go_wp2
      go_roundg m
      case rel => exact ⟨m, by omega, by omega, rfl, ⟨rfl⟩, ⟨fun z hz => by
       rw [HDR.out] at hz
       rcases List.mem_cons.1 hz with rfl | hz
       ·exact HLT.out
       ·exact HD.out z (by rw [show m + 1 - a = m - a + 1 by omega]; exact hz)⟩, HR5, HG5⟩
      case measure => have := HQ.out; omega
     ·have hcmp : decide (cmpI x.1.f2 y.1.f2 < 0) = false := by
       unfold hkey at hlt2; unfold cmpI; rw [if_neg hlt2]; split <;> simp
      have HLT := Aside0.mk hlt2
      clear hlt2
      go_wp2_with (go_at_call 72; refine (cmpH_any x y _).mono ?_; rintro e w4 ⟨rfl, hb4⟩; have HA4 := Aside0.mk (Kd.R_below HA3.out hb4); have HG4 := Aside0.mk (grown_below HG3.out hb4); clear hb4)
      have hdone : X ++ (isort hkey (xs.take (p + 1 - a)) ++ xs.drop (p + 1 - a)) = X ++ zAt L x rest (m + 1 - a) := by
       have hd := HD.out
       rw [show m + 1 - a = m - a + 1 by omega] at hd ⊢
       rw [HPI.out.2, HST.out, HRE.out, insK_at hkey x L (m - a + 1) (fun z hz => by
        rw [HTK.out] at hz
        have hp := HSRT.out
        rw [← List.take_append_drop (m - a) L, List.pairwise_append] at hp
        rcases List.mem_append.1 hz with hz | hz
        ·have := hp.2.2 z hz y (by rw [HDR.out]; simp)
         have := HLT.out
         omega
        ·obtain rfl := List.mem_singleton.1 hz
         have := HLT.out
         omega) hd]
       simp [zAt]
      rw [← hdone] at HA4
      clear hdone
      go_roundw
      case rel => exact ⟨p + 1, by omega, by omega, by go_num, HA4, HG4⟩
      case measure => simp [intOf]; omega
  ·have hlt' : ¬ (p : Int) < b := by omega
   obtain rfl : p = b := by omega
   have hpc : p - a = c := by have := HXL.out; omega
   rw [hpc] at HA
   go_wp2
   go_end0
   exact ⟨rfl, HA.out, HG.out⟩
end Go.Proofs.Ytckhjehibjdjdaa.P
namespace Go.Proofs.Ytckhjehibjdjdaa.P
set_option linter.unusedVariables false
set_option linter.unusedSimpArgs false
section
variable {α : Type} (key : α → Int)
def sp (bs : Nat) : Nat → List α → List α
 | 0, _ => []
 | k + 1, l => isort key (l.take bs) ++ sp bs k (l.drop bs)
def sc (bs : Nat) (l : List α) : List α := sp key bs (l.length / bs) l ++ isort key (l.drop (bs * (l.length / bs)))
theorem isort_len (l : List α) : (isort key l).length = l.length := (isort_perm key l).length_eq
theorem sp_len (bs : Nat) : ∀ (k : Nat) (l : List α), bs * k ≤ l.length → (sp key bs k l).length = bs * k
 | 0, _, _ => by simp [sp]
 | k + 1, l, h => by
  rw [Nat.mul_succ] at h ⊢
  rw [sp, List.length_append, isort_len, List.length_take, sp_len bs k (l.drop bs) (by rw [List.length_drop]; omega)]
  omega
theorem sp_snoc (bs : Nat) : ∀ (k : Nat) (l : List α), sp key bs (k + 1) l = sp key bs k l ++ isort key ((l.drop (bs * k)).take bs)
 | 0, l => by simp [sp]
 | k + 1, l => by
  have e : (l.drop bs).drop (bs * k) = l.drop (bs * (k + 1)) := by rw [List.drop_drop]; congr 1; rw [Nat.mul_succ]; omega
  rw [sp, sp_snoc bs k (l.drop bs), sp, e, List.append_assoc]
theorem sc_small (bs : Nat) (l : List α) (h0 : 0 < bs) (h : l.length ≤ bs) : sc key bs l = isort key l := by
 unfold sc
 by_cases e : l.length = bs
 ·rw [e, Nat.div_self h0, sp, sp, List.take_of_length_le (by omega), List.drop_eq_nil_of_le (by omega)]
  simp [isort]
 ·rw [Nat.div_eq_of_lt (by omega)]; simp [sp]
theorem sc_cons (bs : Nat) (l : List α) (h0 : 0 < bs) (h : bs ≤ l.length) : sc key bs l = isort key (l.take bs) ++ sc key bs (l.drop bs) := by
 have e : l.length / bs = (l.drop bs).length / bs + 1 := by
  rw [List.length_drop]
  have : l.length = (l.length - bs) + bs := by omega
  rw [this, Nat.add_div_right _ h0]; simp
 have e2 : l.drop (bs * ((l.drop bs).length / bs + 1)) = (l.drop bs).drop (bs * ((l.drop bs).length / bs)) := by
  rw [List.drop_drop]; congr 1; rw [Nat.mul_succ]; omega
 unfold sc
 rw [e, sp, List.append_assoc, e2]
theorem sc_two (bs : Nat) (l : List α) (h0 : 0 < bs) (h : 2 * bs ≤ l.length) : sc key bs l = isort key (l.take bs) ++ (isort key ((l.drop bs).take bs) ++ sc key bs (l.drop (2 * bs))) := by
 rw [sc_cons key bs l h0 (by omega), sc_cons key bs (l.drop bs) h0 (by rw [List.length_drop]; omega), List.drop_drop, show bs + bs = 2 * bs by omega]
theorem take_two (bs : Nat) (l : List α) : l.take (2 * bs) = l.take bs ++ (l.drop bs).take bs := by
 rw [show 2 * bs = bs + bs by omega, List.take_add]
theorem sc_part (bs : Nat) (l : List α) (h0 : 0 < bs) (h1 : bs ≤ l.length) (h2 : l.length < 2 * bs) : sc key bs l = isort key (l.take bs) ++ isort key (l.drop bs) := by
 rw [sc_cons key bs l h0 h1, sc_small key bs (l.drop bs) h0 (by rw [List.length_drop]; omega)]
end
end Go.Proofs.Ytckhjehibjdjdaa.P
namespace Go.Proofs.Ytckhjehibjdjdaa.P
open Go.RowKit Go.Shelf Go.Proofs.YtckhjehibjdjdaaW.PrintWords Go.Proofs.YtckhjehibjdjdaaW.PrintLast Go.Proofs.YtckhjehibjdjdaaW.PrintMore
attribute [local go_sem] Oper.semAt_some
set_option linter.unusedVariables false
set_option linter.unusedSimpArgs false
theorem insert_part (g n cap base a b c : Nat) (ok : Nat → Prop) (X xs : List (HV)) (w : World) (hr : Kd.R kh 41 w base ok (.slice (some ⟨g, 0, none⟩) n cap) (X ++ xs)) (ha : a = X.length) (hb : b = a + c) (hc : c ≤ xs.length) (hn : n ≤ 1000000000000) (hok : ∀ k, ok k → k < w.heap.size) :
  Calls Try.prog 120 #[.slice (some ⟨g, 0, none⟩) n cap, .int .i64 a, .int .i64 b, .func (.func 72) #[] #[]] w fun e w' => e = .returned (.tuple #[]) ∧ Kd.R kh 41 w' base ok (.slice (some ⟨g, 0, none⟩) n cap) (X ++ (isort hkey (xs.take c) ++ xs.drop c)) ∧ w.grownBy w' (some g) := by
 by_cases h2 : 2 ≤ c
 ·exact insert_gen g n cap base a b c ok X xs w hr ha hb hc hn h2 hok
 ·have hl := (Kd.R_reads' hr).1
  rw [List.length_append] at hl
  refine (insert_none (.slice (some ⟨g, 0, none⟩) n cap) a b (by omega) (by omega) w).mono ?_
  rintro e w' ⟨rfl, rfl⟩
  rw [isort_one hkey (xs.take c) (by rw [List.length_take]; omega), List.take_append_drop]
  exact ⟨rfl, hr, grown_refl _ _⟩
set_option maxHeartbeats 16000000 in
set_option maxRecDepth 100000 in
theorem stable_gen (g n cap base : Nat) (ok : Nat → Prop) (xs : List HV) (w : World) (hr : Kd.R kh 41 w base ok (.slice (some ⟨g, 0, none⟩) n cap) xs) (hn : n ≤ 100000000000) (hok : ∀ k, ok k → k < w.heap.size) :
  Calls Try.prog 103 #[.slice (some ⟨g, 0, none⟩) n cap, .int .i64 n, .func (.func 72) #[] #[]] w fun e w' => e = .returned (.tuple #[]) ∧ Kd.R kh 41 w' base ok (.slice (some ⟨g, 0, none⟩) n cap) (isort hkey xs) ∧ w.grownBy w' (some g) := by
 have hxl := (Kd.R_reads' hr).1
 have HR := Aside0.mk hr
 have HOK := Aside0.mk hok
 have HXL := Aside0.mk hxl
 clear hr hok hxl
 go_enter Try.func103, Try.ntmps103
 go_wp2
 go_loopw [7, 8] (fun v7 v8 wr => ∃ (i a b : Nat), v7 = .int .i64 (a : Int) ∧ v8 = .int .i64 (b : Int) ∧ Aside0 (a = 20 * i ∧ b = 20 * i + 20) ∧ a ≤ n ∧ Aside0 (Kd.R kh 41 wr base ok (.slice (some ⟨g, 0, none⟩) n cap) (sp hkey 20 i xs ++ xs.drop (20 * i))) ∧ Aside0 (w.grownBy wr (some g))) (fun v7 _ _ => n - (intOf v7).toNat)
 case atStart => exact ⟨0, 0, 20, rfl, rfl, ⟨by omega⟩, Nat.zero_le _, ⟨by simpa [sp] using HR.out⟩, ⟨grown_refl _ _⟩⟩
 case round =>
  clear HR
  obtain ⟨i, a, b, rfl, rfl, HI, han, HA, HG⟩ := hrel
  have hok1 : ∀ k, ok k → k < wr.heap.size := fun k hk => Nat.lt_of_lt_of_le (HOK.out k hk) HG.out.size
  by_cases hlt : b ≤ n
  ·have hlt' : (b : Int) ≤ n := by omega
   have HC := Aside0.mk (insert_part g n cap base a b 20 ok (sp hkey 20 i xs) (xs.drop (20 * i)) wr HA.out (by rw [sp_len hkey 20 i xs (by have := HI.out; have := HXL.out; omega)]; exact HI.out.1) (by have := HI.out; omega) (by rw [List.length_drop]; have := HI.out; have := HXL.out; omega) (by omega) hok1)
   have HE := Aside0.mk (show sp hkey 20 i xs ++ (isort hkey ((xs.drop (20 * i)).take 20) ++ (xs.drop (20 * i)).drop 20) = sp hkey 20 (i + 1) xs ++ xs.drop (20 * (i + 1)) from by
    rw [sp_snoc, List.append_assoc, List.drop_drop, Nat.mul_succ])
   clear hok1 HA
   go_wp2_with (go_at_call 120; refine HC.out.mono ?_; rintro e w5 ⟨rfl, hr5, hg5⟩; rw [HE.out] at hr5; have HR5 := Aside0.mk hr5; have HG5 := Aside0.mk (grown_grown HG.out hg5); clear hr5 hg5)
   go_roundw
   case rel => exact ⟨i + 1, b, b + 20, rfl, by go_num, ⟨by have := HI.out; omega⟩, hlt, HR5, HG5⟩
   case measure => simp [intOf]; have := HI.out; omega
  ·have hlt' : ¬ (b : Int) ≤ n := by omega
   have hdiv : n / 20 = i := by have := HI.out; omega
   have hC := insert_part g n cap base a n (n - a) ok (sp hkey 20 i xs) (xs.drop (20 * i)) wr HA.out (by rw [sp_len hkey 20 i xs (by have := HI.out; have := HXL.out; omega)]; exact HI.out.1) (by omega) (by rw [List.length_drop]; have := HI.out; have := HXL.out; omega) (by omega) hok1
   have HE := Aside0.mk (show sp hkey 20 i xs ++ (isort hkey ((xs.drop (20 * i)).take (n - a)) ++ (xs.drop (20 * i)).drop (n - a)) = sc hkey 20 xs from by
    unfold sc
    rw [← HXL.out, hdiv, List.take_of_length_le (by rw [List.length_drop]; have := HI.out; have := HXL.out; omega), show (xs.drop (20 * i)).drop (n - a) = [] from List.drop_eq_nil_of_le (by rw [List.length_drop]; have := HI.out; have := HXL.out; omega), List.append_nil])
   have HC := Aside0.mk hC
   clear hok1 HA hC hdiv
   go_wp2_with (go_at_call 120; refine HC.out.mono ?_; rintro e w5 ⟨rfl, hr5, hg5⟩; rw [HE.out] at hr5; have HR5 := Aside0.mk hr5; have HG5 := Aside0.mk (grown_grown HG.out hg5); clear hr5 hg5)
   clear HC HE HG HI hlt hlt' han
   go_loopw [6, 7, 8, 9] (fun v6 v7 v8 v9 wr => ∃ bs : Nat, v6 = .int .i64 (bs : Int) ∧ 20 ≤ bs ∧ bs ≤ 200000000000 ∧ Aside0 (Kd.R kh 41 wr base ok (.slice (some ⟨g, 0, none⟩) n cap) (sc hkey bs xs)) ∧ Aside0 (w.grownBy wr (some g))) (fun v6 _ _ _ _ => n - (intOf v6).toNat)
   case atStart => exact ⟨20, rfl, by omega, by omega, HR5, HG5⟩
   case round =>
    clear HR5 HG5
    obtain ⟨bs, rfl, hb20, hbM, HA, HG⟩ := hrel
    by_cases hbn : bs < n
    ·have hbn' : (bs : Int) < n := by omega
     go_wp2
     obtain ⟨wo, hwo⟩ : ∃ wo : World, wo = wr := ⟨_, rfl⟩
     subst hwo
     go_loopw [7, 8] (fun v7 v8 wr => ∃ (i a b : Nat), v7 = .int .i64 (a : Int) ∧ v8 = .int .i64 (b : Int) ∧ Aside0 (a = 2 * bs * i ∧ b = 2 * bs * i + 2 * bs) ∧ a ≤ n ∧ b ≤ n + 2 * bs ∧ Aside0 (Kd.R kh 41 wr base ok (.slice (some ⟨g, 0, none⟩) n cap) (sp hkey (2 * bs) i xs ++ sc hkey bs (xs.drop (2 * bs * i)))) ∧ Aside0 (w.grownBy wr (some g))) (fun v7 _ _ => n - (intOf v7).toNat)
     case atStart => exact ⟨0, 0, 2 * bs, rfl, by go_num, ⟨by omega⟩, Nat.zero_le _, by omega, ⟨by simpa [sp] using HA.out⟩, HG⟩
     case round =>
      clear HA HG
      obtain ⟨i, a, b, rfl, rfl, HI, han, hbb, HA, HG⟩ := hrel
      have hok1 : ∀ k, ok k → k < wr.heap.size := fun k hk => Nat.lt_of_lt_of_le (HOK.out k hk) HG.out.size
      have hspl : (sp hkey (2 * bs) i xs).length = a := by rw [sp_len hkey (2 * bs) i xs (by have := HI.out; have := HXL.out; omega)]; exact HI.out.1.symm
      by_cases hlt : b ≤ n
      ·have hlt' : (b : Int) ≤ n := by omega
       have hll : 2 * bs ≤ (xs.drop (2 * bs * i)).length := by rw [List.length_drop]; have := HI.out; have := HXL.out; omega
       have h2 := sc_two hkey bs (xs.drop (2 * bs * i)) (by omega) hll
       have hAr := HA.out
       rw [h2] at hAr
       have l1 : (isort hkey ((xs.drop (2 * bs * i)).take bs)).length = bs := by rw [isort_len, List.length_take]; omega
       have l2 : (isort hkey (((xs.drop (2 * bs * i)).drop bs).take bs)).length = bs := by rw [isort_len, List.length_take, List.length_drop]; omega
       have HC := Aside0.mk (symMerge_any _ g n cap base a (a + bs) b ok _ _ _ _ wr rfl hAr hspl.symm (by omega) (by have := HI.out; omega) (by omega) (by omega) (isort_sorted hkey _) (isort_sorted hkey _) (by omega) hok1)
       have HE := Aside0.mk (show sp hkey (2 * bs) i xs ++ (mrg hkey (isort hkey ((xs.drop (2 * bs * i)).take bs)) (isort hkey (((xs.drop (2 * bs * i)).drop bs).take bs)) ++ sc hkey bs ((xs.drop (2 * bs * i)).drop (2 * bs))) = sp hkey (2 * bs) (i + 1) xs ++ sc hkey bs (xs.drop (2 * bs * (i + 1))) from by
        rw [← isort_append, ← take_two, sp_snoc, List.append_assoc, List.drop_drop, Nat.mul_succ])
       have e2 : IntKind.i64.wrap ((a : Int) + (bs : Int)) = ((a + bs : Nat) : Int) := by rw [IntKind.wrap_i64]; omega
       have e3 : IntKind.i64.wrap ((a + bs : Nat) : Int) = ((a + bs : Nat) : Int) := by rw [IntKind.wrap_i64]; omega
       clear hok1 HA hAr l1 l2 h2 hll hspl
       go_wp2_with (go_at_call 121; refine HC.out.mono ?_; rintro e w5 ⟨rfl, hr5, hg5⟩; rw [HE.out] at hr5; have HR5 := Aside0.mk hr5; have HG5 := Aside0.mk (grown_grown HG.out hg5); clear hr5 hg5)
       go_roundw
       case rel => exact ⟨i + 1, b, b + 2 * bs, rfl, by first | go_num | exact int_i64 (by omega), ⟨by have := HI.out; rw [Nat.mul_succ]; omega⟩, hlt, by omega, HR5, HG5⟩
       case measure => simp [intOf]; have := HI.out; omega
      ·have hlt' : ¬ (b : Int) ≤ n := by omega
       have hll : (xs.drop (2 * bs * i)).length = n - a ∧ n - a < 2 * bs := by rw [List.length_drop]; have := HI.out; have := HXL.out; omega
       have hdiv : n / (2 * bs) = i := by
        have h1 := HI.out
        exact Nat.div_eq_of_lt_le (by rw [Nat.mul_comm]; omega) (by rw [Nat.mul_comm, Nat.mul_succ]; omega)
       have HSC := Aside0.mk (show sc hkey (2 * bs) xs = sp hkey (2 * bs) i xs ++ isort hkey (xs.drop (2 * bs * i)) from by unfold sc; rw [← HXL.out, hdiv])
       by_cases hm : a + bs < n
       ·have hm' : (a : Int) + (bs : Int) < n := by omega
        have hm2 : ((a + bs : Nat) : Int) < n := by omega
        have h2 := sc_part hkey bs (xs.drop (2 * bs * i)) (by omega) (by omega) (by omega)
        have hAr := HA.out
        rw [h2, ← List.append_nil (isort hkey ((xs.drop (2 * bs * i)).drop bs))] at hAr
        have l1 : (isort hkey ((xs.drop (2 * bs * i)).take bs)).length = bs := by rw [isort_len, List.length_take]; omega
        have l2 : (isort hkey ((xs.drop (2 * bs * i)).drop bs)).length = n - a - bs := by rw [isort_len, List.length_drop]; omega
        have HC := Aside0.mk (symMerge_any _ g n cap base a (a + bs) n ok _ _ _ _ wr rfl hAr hspl.symm (by omega) (by omega) (by omega) (by omega) (isort_sorted hkey _) (isort_sorted hkey _) (by omega) hok1)
        have HE := Aside0.mk (show sp hkey (2 * bs) i xs ++ (mrg hkey (isort hkey ((xs.drop (2 * bs * i)).take bs)) (isort hkey ((xs.drop (2 * bs * i)).drop bs)) ++ []) = sc hkey (2 * bs) xs from by
         rw [← isort_append, List.take_append_drop, List.append_nil, HSC.out])
        have e2 : IntKind.i64.wrap ((a : Int) + (bs : Int)) = ((a + bs : Nat) : Int) := by rw [IntKind.wrap_i64]; omega
        have e3 : IntKind.i64.wrap ((a + bs : Nat) : Int) = ((a + bs : Nat) : Int) := by rw [IntKind.wrap_i64]; omega
        clear hok1 HA hAr l1 l2 h2 hll hspl hdiv
        go_wp2_with (go_at_call 121; refine HC.out.mono ?_; rintro e w5 ⟨rfl, hr5, hg5⟩; rw [HE.out] at hr5; have HR5 := Aside0.mk hr5; have HG5 := Aside0.mk (grown_grown HG.out hg5); clear hr5 hg5)
        go_roundw
        case rel => exact ⟨2 * bs, by first | go_num | exact int_i64 (by omega), by omega, by omega, HR5, HG5⟩
        case measure => simp [intOf]; omega
       ·have hm' : ¬ (a : Int) + (bs : Int) < n := by omega
        have hAr := HA.out
        rw [sc_small hkey bs (xs.drop (2 * bs * i)) (by omega) (by omega), ← HSC.out] at hAr
        have HR5 := Aside0.mk hAr
        clear hok1 HA hAr hll hspl hdiv
        go_wp2
        go_roundw
        case rel => exact ⟨2 * bs, by first | go_num | exact int_i64 (by omega), by omega, by omega, HR5, HG⟩
        case measure => simp [intOf]; omega
    ·have hbn' : ¬ (bs : Int) < n := by omega
     have hfin := HA.out
     rw [sc_small hkey bs xs (by omega) (by have := HXL.out; omega)] at hfin
     have HF := Aside0.mk hfin
     clear hfin HA
     go_wp2
     go_end0
     exact ⟨rfl, HF.out, HG.out⟩
end Go.Proofs.Ytckhjehibjdjdaa.P
namespace Go.Proofs.Ytckhjehibjdjdaa.P
open Go.RowKit Go.Shelf Go.Proofs.YtckhjehibjdjdaaW.PrintWords Go.Proofs.YtckhjehibjdjdaaW.PrintLast Go.Proofs.YtckhjehibjdjdaaW.PrintMore
attribute [local go_sem] Oper.semAt_some
set_option linter.unusedVariables false
set_option linter.unusedSimpArgs false
theorem stable_big (A : Option Addr) (n cap base : Nat) (ok : Nat → Prop) (xs : List HV) (w : World) (hr : Kd.R kh 41 w base ok (.slice A n cap) xs) (hn : n ≤ 100000000000) (hok : ∀ k, ok k → k < w.heap.size) (g : Nat) (hg : ∀ a, A = some a → a.block = g) :
  Calls Try.prog 103 #[.slice A n cap, .int .i64 n, .func (.func 72) #[] #[]] w fun e w' => e = .returned (.tuple #[]) ∧ Kd.R kh 41 w' base ok (.slice A n cap) (isort hkey xs) ∧ w.grownBy w' (some g) := by
 by_cases h2 : n ≤ 20
 ·exact stable_any A n cap base ok xs w hr h2 hok g hg
 ·have hl := (Kd.R_reads' hr).1
  obtain ⟨g', cap', cur, hv, _, _, _⟩ := ownh hr (by omega)
  injection hv with ha hn1 hc1
  subst ha
  obtain rfl : g' = g := hg _ rfl
  exact stable_gen g' n cap base ok xs w hr hn hok
set_option maxHeartbeats 8000000 in
set_option maxRecDepth 100000 in
theorem sort_big (A : Option Addr) (n cap base : Nat) (ok : Nat → Prop) (xs : List HV) (w : World) (hr : Kd.R kh 41 w base ok (.slice A n cap) xs) (hn : n ≤ 100000000000) (hok : ∀ k, ok k → k < w.heap.size) (g : Nat) (hg : ∀ a, A = some a → a.block = g) :
  Calls Try.prog 71 #[.slice A n cap, .func (.func 72) #[] #[]] w fun e w' => e = .returned (.tuple #[]) ∧ Kd.R kh 41 w' base ok (.slice A n cap) (isort hkey xs) ∧ w.grownBy w' (some g) := by
 have HI := Aside0.mk (stable_big A n cap base ok xs w hr hn hok g hg)
 clear hr hok hg
 go_enter Try.func71, Try.ntmps71
 go_wp2_with (go_at_call 103; refine HI.out.mono ?_; rintro e w1 ⟨rfl, hr1, hg1⟩; have HR1 := Aside0.mk hr1; have HG1 := Aside0.mk hg1; clear hr1 hg1)
 go_end0
 exact ⟨rfl, HR1.out, HG1.out⟩
end Go.Proofs.Ytckhjehibjdjdaa.P
namespace Go.Proofs.Ytckhjehibjdjdaa.P
open Go.RowKit Go.Shelf Go.Proofs.YtckhjehibjdjdaaW.PrintWords Go.Proofs.YtckhjehibjdjdaaW.PrintLast Go.Proofs.YtckhjehibjdjdaaW.PrintMore
attribute [local go_sem] Oper.semAt_some
set_option linter.unusedVariables false
set_option linter.unusedSimpArgs false
theorem sort_n2 (A : Option Addr) (n cap base : Nat) (xs : List HV) (w : World) (hr : Kd.R kh 41 w base (fun _ => True) (.slice A n cap) xs) (hn : n ≤ 100000) :
  Calls Try.prog 71 #[.slice A n cap, .func (.func 72) #[] #[]] w fun e w' => e = .returned (.tuple #[]) ∧ Kd.R kh 41 w' base (fun k => base ≤ k ∧ k < w.heap.size) (.slice A n cap) (isort hkey xs) ∧ w.grownBy w' (some (blkOf A w.heap.size)) :=
 sort_big A n cap base _ xs w (Kd.R_mono (Kd.R_bound hr) (fun k hk => ⟨hk.2.1, hk.2.2.1⟩)) (Nat.le_trans hn (by decide)) (fun k hk => hk.2) (blkOf A w.heap.size) (fun a ha => by rw [ha]; rfl)
theorem KP.under {w W W' : World} {S : Nat → Prop} (h : KP W W' S) (hb : Below w.heap.size w W) (hs : ∀ k, S k → w.heap.size ≤ k) : Below w.heap.size w W' :=
 ⟨h.os.trans hb.os, h.tape.trans hb.tape, h.output.trans hb.output, Nat.le_trans hb.size h.kept.1, fun k hk => (h.kept.2 k (Nat.lt_of_lt_of_le hk hb.size) (fun hh => by have := hs k hh; omega)).trans (hb.block k hk)⟩
theorem KP.trans {w W W' : World} {S : Nat → Prop} (h : KP w W S) (h' : KP W W' S) : KP w W' S :=
 ⟨⟨Nat.le_trans h.kept.1 h'.kept.1, fun i hi hs => (h'.kept.2 i (Nat.lt_of_lt_of_le hi h.kept.1) hs).trans (h.kept.2 i hi hs)⟩, h'.os.trans h.os, h'.tape.trans h.tape, h'.output.trans h.output⟩
set_option maxHeartbeats 8000000 in
set_option maxRecDepth 100000 in
theorem early_any (now : Int) (A1 : Option Addr) (c1 : Nat) (l1 : List S51) (lg lc : Int) (A3 : Option Addr) (c3 : Nat) (l3 : List S41) (q m g c mn mx : Int) (w : World) (hr1 : Kd.C k51 w A1 l1.length l1) (hc1 : l1.length ≤ c1) (hr3 : Kd.C k41 w A3 l3.length l3) (hc3 : l3.length ≤ c3)
  (hn : l3.length ≤ 1000) (hv : viewOk l1) (hs : ∀ s ∈ l3.flatMap (fun h => h.f4), maskOk s = true ∧ (w64B s.f0.f0 && w64B s.f0.f1) = true) (hlen : (l3.flatMap fun h => h.f4).length < 4000000000) :
  Calls Try.prog 27 #[.int .i64 now, .slice A1 l1.length c1, .agg #[.int .i64 lg, .int .i64 lc], .slice A3 l3.length c3, .agg #[.int .i64 q, .int .i64 m, .int .i64 g, .int .i64 c, .int .i64 mn, .int .i64 mx]] w fun e w' => e = .returned (.tuple #[.int .i64 (earliestB now l1 lg lc l3 q m g c mn mx).1, .int .i64 (earliestB now l1 lg lc l3 q m g c mn mx).2]) ∧ Below w.heap.size w w' := by
 have hu22 := Try.underlying22
 have hu24 := Try.underlying24
 have hu25 := Try.underlying25
 have hu29 := Try.underlying29
 have hu41 := Try.underlying41
 have HR1 := Aside0.mk hr1
 have HR3 := Aside0.mk hr3
 have HC1 := Aside0.mk hc1
 have HC3 := Aside0.mk hc3
 have HN := Aside0.mk hn
 have HVO := Aside0.mk hv
 have HS := Aside0.mk hs
 have HLEN := Aside0.mk hlen
 have HRT := Aside0.mk (fun w => promise_right.calls q m g c mn mx _ w (right_eq q m g c mn mx))
 clear hr1 hr3 hc1 hc3 hn hv hs hlen
 by_cases hbad : now < 0 ∨ now > 1073741824 ∨ rightB m g c mn mx = false
 ·have HE : earliestB now l1 lg lc l3 q m g c mn mx = (0, 1) := by unfold earliestB; rw [if_pos hbad]
  rw [HE]
  clear HE
  have hRT0 := right_eq q m g c mn mx
  by_cases h0 : now < 0
  ·have d0 : decide (now < 0) = true := by simpa using h0
   clear h0 hbad hRT0
   go_enter Try.func27, Try.ntmps27
   go_wp2_with (first | ((with_reducible refine gate_dst (N := 6) rfl ?_); refine bx 6 #[.slice A1 l1.length c1] 22 ?_; intro gv hgv w1 hx1 hb1; have wgv : w.heap.size ≤ gv := (by omega); have hgv2 := blk_lt hx1; have HX1 := Aside0.mk hx1; have HB1 := Aside0.mk hb1; clear hx1 hb1) | ((with_reducible refine gate_dst (N := 7) rfl ?_); refine bx 7 #[.int .i64 lg, .int .i64 lc] 24 ?_; intro gl hgl w2 hx2 hb2; have wgl : w.heap.size ≤ gl := (by have := HB1.out.size; omega); have hgl2 := blk_lt hx2; have HX1b := Aside0.mk (blk_below HX1.out hb2); have HX2 := Aside0.mk hx2; have HB2 := Aside0.mk (below_step HB1.out hb2); have hs2 := hb2.size; have nvl : gv ≠ gl := (by omega); clear hx2 hb2) | ((with_reducible refine gate_dst (N := 9) rfl ?_); refine bx 9 #[.int .i64 q, .int .i64 m, .int .i64 g, .int .i64 c, .int .i64 mn, .int .i64 mx] 29 ?_; intro gw hgw w3 hx3 hb3; have HX1c := Aside0.mk (blk_below HX1b.out hb3); have HX2b := Aside0.mk (blk_below HX2.out hb3); have HX3 := Aside0.mk hx3; have HB3 := Aside0.mk (below_step HB2.out hb3); have nvw : gv ≠ gw := (by omega); have nlw : gl ≠ gw := (by omega); have f0 : w3.cell? ⟨gw, 0, none⟩ = some (.int .i64 q) := (blk_cell hx3 0).trans rfl; have f1 : w3.cell? ⟨gw, 1, none⟩ = some (.int .i64 m) := (blk_cell hx3 1).trans rfl; have f2 : w3.cell? ⟨gw, 2, none⟩ = some (.int .i64 g) := (blk_cell hx3 2).trans rfl; have f3 : w3.cell? ⟨gw, 3, none⟩ = some (.int .i64 c) := (blk_cell hx3 3).trans rfl; have f4 : w3.cell? ⟨gw, 4, none⟩ = some (.int .i64 mn) := (blk_cell hx3 4).trans rfl; have f5 : w3.cell? ⟨gw, 5, none⟩ = some (.int .i64 mx) := (blk_cell hx3 5).trans rfl; clear hx3 hb3 hgv hgl hgw hgv2 hgl2 hs2 HX1 HX1b HX2 HB1 HB2) | (go_at_call 68; refine (HRT.out _).mono ?_; rintro e w4 ⟨rfl, hb4⟩; have HX4v := Aside0.mk (blk_below HX1c.out hb4); have HX4l := Aside0.mk (blk_below HX2b.out hb4); have HX4w := Aside0.mk (blk_below HX3.out hb4); have HB4 := Aside0.mk (below_step HB3.out hb4); clear hb4 f0 f1 f2 f3 f4 f5 HX1c HX2b HX3 HB3))
   all_goals go_ret2
   all_goals exact ⟨rfl, HB3.out⟩
  ·have d0 : decide (now < 0) = false := by simpa using h0
   by_cases h1 : now > 1073741824
   ·have d1 : decide (1073741824 < now) = true := by simpa using h1
    clear h0 h1 hbad hRT0
    go_enter Try.func27, Try.ntmps27
    go_wp2_with (first | ((with_reducible refine gate_dst (N := 6) rfl ?_); refine bx 6 #[.slice A1 l1.length c1] 22 ?_; intro gv hgv w1 hx1 hb1; have wgv : w.heap.size ≤ gv := (by omega); have hgv2 := blk_lt hx1; have HX1 := Aside0.mk hx1; have HB1 := Aside0.mk hb1; clear hx1 hb1) | ((with_reducible refine gate_dst (N := 7) rfl ?_); refine bx 7 #[.int .i64 lg, .int .i64 lc] 24 ?_; intro gl hgl w2 hx2 hb2; have wgl : w.heap.size ≤ gl := (by have := HB1.out.size; omega); have hgl2 := blk_lt hx2; have HX1b := Aside0.mk (blk_below HX1.out hb2); have HX2 := Aside0.mk hx2; have HB2 := Aside0.mk (below_step HB1.out hb2); have hs2 := hb2.size; have nvl : gv ≠ gl := (by omega); clear hx2 hb2) | ((with_reducible refine gate_dst (N := 9) rfl ?_); refine bx 9 #[.int .i64 q, .int .i64 m, .int .i64 g, .int .i64 c, .int .i64 mn, .int .i64 mx] 29 ?_; intro gw hgw w3 hx3 hb3; have HX1c := Aside0.mk (blk_below HX1b.out hb3); have HX2b := Aside0.mk (blk_below HX2.out hb3); have HX3 := Aside0.mk hx3; have HB3 := Aside0.mk (below_step HB2.out hb3); have nvw : gv ≠ gw := (by omega); have nlw : gl ≠ gw := (by omega); have f0 : w3.cell? ⟨gw, 0, none⟩ = some (.int .i64 q) := (blk_cell hx3 0).trans rfl; have f1 : w3.cell? ⟨gw, 1, none⟩ = some (.int .i64 m) := (blk_cell hx3 1).trans rfl; have f2 : w3.cell? ⟨gw, 2, none⟩ = some (.int .i64 g) := (blk_cell hx3 2).trans rfl; have f3 : w3.cell? ⟨gw, 3, none⟩ = some (.int .i64 c) := (blk_cell hx3 3).trans rfl; have f4 : w3.cell? ⟨gw, 4, none⟩ = some (.int .i64 mn) := (blk_cell hx3 4).trans rfl; have f5 : w3.cell? ⟨gw, 5, none⟩ = some (.int .i64 mx) := (blk_cell hx3 5).trans rfl; clear hx3 hb3 hgv hgl hgw hgv2 hgl2 hs2 HX1 HX1b HX2 HB1 HB2) | (go_at_call 68; refine (HRT.out _).mono ?_; rintro e w4 ⟨rfl, hb4⟩; have HX4v := Aside0.mk (blk_below HX1c.out hb4); have HX4l := Aside0.mk (blk_below HX2b.out hb4); have HX4w := Aside0.mk (blk_below HX3.out hb4); have HB4 := Aside0.mk (below_step HB3.out hb4); clear hb4 f0 f1 f2 f3 f4 f5 HX1c HX2b HX3 HB3))
    all_goals go_ret2
    all_goals exact ⟨rfl, HB3.out⟩
   ·have d1 : decide (1073741824 < now) = false := by simpa using h1
    have hr : rightB m g c mn mx = false := by
     rcases hbad with h | h | h
     ·exact absurd h h0
     ·exact absurd h h1
     ·exact h
    rw [hr] at HRT
    clear h0 h1 hbad hRT0 hr
    go_enter Try.func27, Try.ntmps27
    go_wp2_with (first | ((with_reducible refine gate_dst (N := 6) rfl ?_); refine bx 6 #[.slice A1 l1.length c1] 22 ?_; intro gv hgv w1 hx1 hb1; have wgv : w.heap.size ≤ gv := (by omega); have hgv2 := blk_lt hx1; have HX1 := Aside0.mk hx1; have HB1 := Aside0.mk hb1; clear hx1 hb1) | ((with_reducible refine gate_dst (N := 7) rfl ?_); refine bx 7 #[.int .i64 lg, .int .i64 lc] 24 ?_; intro gl hgl w2 hx2 hb2; have wgl : w.heap.size ≤ gl := (by have := HB1.out.size; omega); have hgl2 := blk_lt hx2; have HX1b := Aside0.mk (blk_below HX1.out hb2); have HX2 := Aside0.mk hx2; have HB2 := Aside0.mk (below_step HB1.out hb2); have hs2 := hb2.size; have nvl : gv ≠ gl := (by omega); clear hx2 hb2) | ((with_reducible refine gate_dst (N := 9) rfl ?_); refine bx 9 #[.int .i64 q, .int .i64 m, .int .i64 g, .int .i64 c, .int .i64 mn, .int .i64 mx] 29 ?_; intro gw hgw w3 hx3 hb3; have HX1c := Aside0.mk (blk_below HX1b.out hb3); have HX2b := Aside0.mk (blk_below HX2.out hb3); have HX3 := Aside0.mk hx3; have HB3 := Aside0.mk (below_step HB2.out hb3); have nvw : gv ≠ gw := (by omega); have nlw : gl ≠ gw := (by omega); have f0 : w3.cell? ⟨gw, 0, none⟩ = some (.int .i64 q) := (blk_cell hx3 0).trans rfl; have f1 : w3.cell? ⟨gw, 1, none⟩ = some (.int .i64 m) := (blk_cell hx3 1).trans rfl; have f2 : w3.cell? ⟨gw, 2, none⟩ = some (.int .i64 g) := (blk_cell hx3 2).trans rfl; have f3 : w3.cell? ⟨gw, 3, none⟩ = some (.int .i64 c) := (blk_cell hx3 3).trans rfl; have f4 : w3.cell? ⟨gw, 4, none⟩ = some (.int .i64 mn) := (blk_cell hx3 4).trans rfl; have f5 : w3.cell? ⟨gw, 5, none⟩ = some (.int .i64 mx) := (blk_cell hx3 5).trans rfl; clear hx3 hb3 hgv hgl hgw hgv2 hgl2 hs2 HX1 HX1b HX2 HB1 HB2) | (go_at_call 68; refine (HRT.out _).mono ?_; rintro e w4 ⟨rfl, hb4⟩; have HX4v := Aside0.mk (blk_below HX1c.out hb4); have HX4l := Aside0.mk (blk_below HX2b.out hb4); have HX4w := Aside0.mk (blk_below HX3.out hb4); have HB4 := Aside0.mk (below_step HB3.out hb4); clear hb4 f0 f1 f2 f3 f4 f5 HX1c HX2b HX3 HB3))
    all_goals go_ret2
    all_goals exact ⟨rfl, HB4.out⟩
 ·have hn0 : ¬ now < 0 := fun h => hbad (.inl h)
  have hn1 : ¬ now > 1073741824 := fun h => hbad (.inr (.inl h))
  have hrt : rightB m g c mn mx = true := by
   cases h : rightB m g c mn mx with
   | true => rfl
   | false => exact absurd (.inr (.inr h)) hbad
  have HE : earliestB now l1 lg lc l3 q m g c mn mx = (if (turned51 moreE moreF l1 (l3.flatMap fun h => h.f4)).2 ≠ 0 then (0, (turned51 moreE moreF l1 (l3.flatMap fun h => h.f4)).2)
   else (goE q m g c mn mx (isort skey41 l3) now l1 (lg, lc), 0)) := by unfold earliestB; rw [if_neg hbad]
  rw [HE]
  rw [hrt] at HRT
  have hm0 := more_eq HVO.out (fun s hs => (HS.out s hs).2)
  have ha0 := all_eq (l3.length + 1) l3 (Nat.le_refl _) (by have := HN.out; omega) (by have := HLEN.out; omega)
  generalize hall : l3.flatMap (fun h => h.f4) = al at *
  generalize hmr : turned51 moreE moreF l1 al = mr at *
  obtain ⟨mv, me⟩ := mr
  have HM := Aside0.mk hm0
  have HA := Aside0.mk ha0
  have HALL := Aside0.mk hall
  clear hm0 ha0 hmr hall
  obtain ⟨ps, hmap, hpC, hsl⟩ := holds_of HR3.out
  have hpl : ps.length = l3.length := by rw [← hmap, List.length_map]
  have hsm : (isort hkey ps).map (fun x => x.1) = isort skey41 l3 := by
   have := isort_map skey41 (fun x : HV => x.1) ps []
   rw [hmap] at this
   exact this
  have HMAP := Aside0.mk hmap
  have HPC := Aside0.mk hpC
  have HSL := Aside0.mk hsl
  have HPL := Aside0.mk hpl
  have hwl : wrap64 ((ps.length : Int) + 1) = (ps.length : Int) + 1 := w_id (by have := HN.out; omega)
  rw [← hsm]
  have hperm := isort_perm hkey ps
  obtain ⟨SP, hSP⟩ : ∃ SP, isort hkey ps = SP := ⟨_, rfl⟩
  rw [hSP] at hperm ⊢
  have HSPE := Aside0.mk hSP
  have HPERM := Aside0.mk hperm
  clear hmap hpC hsl hpl hsm hSP hperm
  have d0 : decide (now < 0) = false := by simpa using hn0
  have d1 : decide (1073741824 < now) = false := by simpa using hn1
  clear HE hbad hrt hn0 hn1
  go_enter Try.func27, Try.ntmps27
  go_wp2_with (first | ((with_reducible refine gate_dst (N := 6) rfl ?_); refine bx 6 #[.slice A1 l1.length c1] 22 ?_; intro gv hgv w1 hx1 hb1; have wgv : w.heap.size ≤ gv := (by omega); have hgv2 := blk_lt hx1; have HX1 := Aside0.mk hx1; have HB1 := Aside0.mk hb1; clear hx1 hb1) | ((with_reducible refine gate_dst (N := 7) rfl ?_); refine bx 7 #[.int .i64 lg, .int .i64 lc] 24 ?_; intro gl hgl w2 hx2 hb2; have wgl : w.heap.size ≤ gl := (by have := HB1.out.size; omega); have hgl2 := blk_lt hx2; have HX1b := Aside0.mk (blk_below HX1.out hb2); have HX2 := Aside0.mk hx2; have HB2 := Aside0.mk (below_step HB1.out hb2); have hs2 := hb2.size; have nvl : gv ≠ gl := (by omega); clear hx2 hb2) | ((with_reducible refine gate_dst (N := 9) rfl ?_); refine bx 9 #[.int .i64 q, .int .i64 m, .int .i64 g, .int .i64 c, .int .i64 mn, .int .i64 mx] 29 ?_; intro gw hgw w3 hx3 hb3; have HX1c := Aside0.mk (blk_below HX1b.out hb3); have HX2b := Aside0.mk (blk_below HX2.out hb3); have HX3 := Aside0.mk hx3; have HB3 := Aside0.mk (below_step HB2.out hb3); have nvw : gv ≠ gw := (by omega); have nlw : gl ≠ gw := (by omega); have f0 : w3.cell? ⟨gw, 0, none⟩ = some (.int .i64 q) := (blk_cell hx3 0).trans rfl; have f1 : w3.cell? ⟨gw, 1, none⟩ = some (.int .i64 m) := (blk_cell hx3 1).trans rfl; have f2 : w3.cell? ⟨gw, 2, none⟩ = some (.int .i64 g) := (blk_cell hx3 2).trans rfl; have f3 : w3.cell? ⟨gw, 3, none⟩ = some (.int .i64 c) := (blk_cell hx3 3).trans rfl; have f4 : w3.cell? ⟨gw, 4, none⟩ = some (.int .i64 mn) := (blk_cell hx3 4).trans rfl; have f5 : w3.cell? ⟨gw, 5, none⟩ = some (.int .i64 mx) := (blk_cell hx3 5).trans rfl; clear hx3 hb3 hgv hgl hgw hgv2 hgl2 hs2 HX1 HX1b HX2 HB1 HB2) | (go_at_call 68; refine (HRT.out _).mono ?_; rintro e w4 ⟨rfl, hb4⟩; have HX4v := Aside0.mk (blk_below HX1c.out hb4); have HX4l := Aside0.mk (blk_below HX2b.out hb4); have HX4w := Aside0.mk (blk_below HX3.out hb4); have HB4 := Aside0.mk (below_step HB3.out hb4); clear hb4 f0 f1 f2 f3 f4 f5 HX1c HX2b HX3 HB3))
  have k4 : w4.cell? ⟨gv, 0, none⟩ = some (.slice A1 l1.length c1) := (blk_cell HX4v.out 0).trans rfl
  go_region_held3 (fun w' => w'.cell? ⟨gv, 0, none⟩ = some (.slice A1 l1.length c1)) (first | exact k4 | assumption) (first | (go_at_call 69; refine (promise_all.calls (l3.length + 1) A3 c3 l3 _ _ (Kd.C_below HR3.out (below_drew1 HB4.out)) HC3.out HA.out).mono ?_; rintro e w5 ⟨v5, rfl, ho5, hb5⟩; obtain ⟨A5, c5, rfl, hc5, hr5⟩ := Kd.R_reads ho5; have k5 : w5.cell? ⟨gv, 0, none⟩ = some (.slice A1 l1.length c1) := pw_cell_below hb5 k4; have HB5 := Aside0.mk (below_step (below_drew1 (Below.refl w4.heap.size w4)) hb5); have HR5 := Aside0.mk (And.intro hc5 hr5); clear ho5 hb5 hc5 hr5) | (go_at_call 52; refine (pack_More.calls A1 c1 l1 A5 c5 al mv me _ (Kd.C_below HR1.out (below_step HB4.out HB5.out)) HC1.out HR5.out.2 HR5.out.1 HM.out).mono ?_; rintro e w6 ⟨v6, rfl, ho6, hb6⟩; have k6 : w6.cell? ⟨gv, 0, none⟩ = some (.slice A1 l1.length c1) := pw_cell_below hb6 k5; have HB6 := Aside0.mk (below_step HB5.out hb6); clear ho6 hb6))
  clear k4 k5 k6
  by_cases hme : me = 0
  ·subst hme
   go_wp2_with (first | (go_at_call 70; refine (clone70_n A3 c3 l3.length ps _ HPL.out (Kd.C_below HPC.out (below_step HB4.out HB6.out)) (by have := HPL.out; have := HN.out; omega)).mono ?_; rintro e w7 ⟨v7, rfl, ho7, hb7⟩; obtain ⟨A7, c7, rfl, hc7, _⟩ := Kd.R_reads ho7; have HO7 := Aside0.mk ho7; have HB7 := Aside0.mk hb7; clear ho7 hb7 hc7) | (go_at_call 71; refine (sort_n2 A7 ps.length c7 w6.heap.size ps _ HO7.out (by have := HPL.out; have := HN.out; omega)).mono ?_; rintro e w8 ⟨rfl, ho8, hg8⟩; rw [HSPE.out] at ho8; have HO8 := Aside0.mk ho8; have HG8 := Aside0.mk hg8; clear ho8 hg8))
   have hB6 := below_step HB4.out HB6.out
   have hB7 := below_step hB6 HB7.out
   have hbb := blkOf_base HO7.out HB7.out.size
   have hs46 := HB6.out.size
   have gv4 := blk_lt HX4v.out
   have gl4 := blk_lt HX4l.out
   have gw4 := blk_lt HX4w.out
   have hB8 : Below w.heap.size w w8 := hB7.grown HG8.out hB7.size (fun k e => by cases e; have := HB4.out.size; omega)
   have hmv : ∀ k, k < w4.heap.size → w8.heap[k]? = w4.heap[k]? := fun k hk => by
    rw [HG8.out.block k (by have := HB7.out.size; omega) (fun e => by cases e; omega), HB7.out.block k (by omega), HB6.out.block k hk]
   have HXv := Aside0.mk ((hmv gv gv4).trans HX4v.out)
   have HXl := Aside0.mk ((hmv gl gl4).trans HX4l.out)
   have HXw := Aside0.mk ((hmv gw gw4).trans HX4w.out)
   have HFv := Aside0.mk (Kd.F_mono (ok' := fun k => k ≠ gv ∧ k ≠ gl) (Foot.step (Kd.C_F k51_heap HR1.out) (fun k hk _ => hB8.block k hk)) (fun k hk => ⟨by omega, by omega⟩))
   have HSO := Aside0.mk (fun (x : HV) (hx : x ∈ SP) => (show SlotsOk w8 (fun k => k ≠ gv ∧ k ≠ gl) x from
    let h0 := HSL.out x (HPERM.out.mem_iff.1 hx)
    ⟨h0.1, h0.2.1, Kd.F_mono (Foot.step h0.2.2 (fun k hk _ => hB8.block k hk)) (fun k hk => ⟨by omega, by omega⟩)⟩))
   have HMK := Aside0.mk (fun (x : HV) (hx : x ∈ SP) (s : S52) (hs : s ∈ x.1.f4) => HS.out s (by
    rw [← HALL.out]
    refine List.mem_flatMap.2 ⟨x.1, ?_, hs⟩
    rw [← HMAP.out]
    exact List.mem_map.2 ⟨x, HPERM.out.mem_iff.1 hx, rfl⟩))
   have HLS := Aside0.mk (HPERM.out.length_eq)
   have HPN := Aside0.mk (show ps.length ≤ 1000 by have := HPL.out; have := HN.out; omega)
   have HB8 := Aside0.mk hB8
   have HBS := Aside0.mk (show gv < w6.heap.size ∧ gl < w6.heap.size ∧ gw < w6.heap.size by omega)
   clear hB6 hB7 hbb hs46 gv4 gl4 gw4 hB8 hmv HO7 HB7 HG8 HX4v HX4l HX4w
   rw [hwl]
   go_loopw [48, 16] (fun v48 v16 wr => ∃ (k : Nat) (t : Int) (view : List S51) (left : Int × Int) (Av : Option Addr) (cv : Nat), k ≤ SP.length ∧ v48 = .int .i64 (k : Int) ∧ v16 = .int .i64 t ∧
    Aside0 (goE q m g c mn mx (SP.map (fun x => x.1)) now l1 (lg, lc) = goE q m g c mn mx ((SP.drop k).map (fun x => x.1)) t view left) ∧
    Aside0 (wr.heap[gv]? = some (.cells #[.slice Av view.length cv] 22 (0, 0))) ∧ Aside0 (wr.heap[gl]? = some (.cells #[.int .i64 left.1, .int .i64 left.2] 24 (0, 0))) ∧ Aside0 (wr.heap[gw]? = some (.cells #[.int .i64 q, .int .i64 m, .int .i64 g, .int .i64 c, .int .i64 mn, .int .i64 mx] 29 (0, 0))) ∧
    Aside0 (Kd.F k51 wr (fun k => k ≠ gv ∧ k ≠ gl) Av view.length view) ∧ Aside0 (view.length ≤ cv) ∧ Aside0 (viewOk view) ∧ Aside0 (∀ x ∈ SP, SlotsOk wr (fun k => k ≠ gv ∧ k ≠ gl) x) ∧
    Aside0 (Kd.R kh 41 wr w6.heap.size (fun k => w6.heap.size ≤ k) (.slice A7 ps.length c7) SP) ∧ Aside0 (Below w.heap.size w wr)) (fun v48 _ _ => SP.length + 1 - (intOf v48).toNat)
   case atStart => exact ⟨0, now, l1, (lg, lc), A1, c1, Nat.zero_le _, rfl, rfl, ⟨rfl⟩, HXv, HXl, HXw, HFv, HC1, HVO, HSO, ⟨Kd.R_mono HO8.out (fun _ hk => hk.1)⟩, HB8⟩
   case round =>
    clear HXv HXl HXw HFv HSO HO8 HB8
    obtain ⟨k, t, view, ⟨lg', lc'⟩, Av, cv, hk, rfl, rfl, HG, HXV, HXL, HXW, HFV, HCV, HVW, HSP, HRW, HBW⟩ := hrel
    have hspl : SP.length = ps.length := HLS.out
    have hpn := HPN.out
    have HFit := fits_eq (view.length + 1) view lg' lc' q m g c mn mx (Nat.le_refl _) (by have := HVW.out.1; omega) HVW.out.2.1
    have HCF := Aside0.mk (promise_Fits.calls (view.length + 1) Av cv view lg' lc' q m g c mn mx _ wr (Kd.F_now HFV.out) HCV.out HFit)
    have fv : wr.cell? ⟨gv, 0, none⟩ = some (.slice Av view.length cv) := (blk_cell HXV.out 0).trans rfl
    have fl0 : wr.cell? ⟨gl, 0, none⟩ = some (.int .i64 lg') := (blk_cell HXL.out 0).trans rfl
    have fl1 : wr.cell? ⟨gl, 1, none⟩ = some (.int .i64 lc') := (blk_cell HXL.out 1).trans rfl
    have fw0 : wr.cell? ⟨gw, 0, none⟩ = some (.int .i64 q) := (blk_cell HXW.out 0).trans rfl
    have fw1 : wr.cell? ⟨gw, 1, none⟩ = some (.int .i64 m) := (blk_cell HXW.out 1).trans rfl
    have fw2 : wr.cell? ⟨gw, 2, none⟩ = some (.int .i64 g) := (blk_cell HXW.out 2).trans rfl
    have fw3 : wr.cell? ⟨gw, 3, none⟩ = some (.int .i64 c) := (blk_cell HXW.out 3).trans rfl
    have fw4 : wr.cell? ⟨gw, 4, none⟩ = some (.int .i64 mn) := (blk_cell HXW.out 4).trans rfl
    have fw5 : wr.cell? ⟨gw, 5, none⟩ = some (.int .i64 mx) := (blk_cell HXW.out 5).trans rfl
    clear HFit
    by_cases hkn : k = SP.length
    ·have h1 : (k : Int) < (ps.length : Int) + 1 := by omega
     have h2 : ((k : Int) == (ps.length : Int)) = true := by simp; omega
     rw [List.drop_eq_nil_of_le (by omega)] at HG
     simp only [List.map_nil, goE] at HG
     cases hf : fitsB view lg' lc' m g c mn mx with
     | true =>
      rw [hf] at HCF
      rw [hf, if_pos rfl] at HG
      clear hf hkn
      go_wp2_with (go_at_call 29; refine HCF.out.mono ?_; rintro e w9 ⟨rfl, hb9⟩; have HB9 := Aside0.mk (below_step HBW.out hb9); clear hb9)
      all_goals go_ret2
      all_goals exact ⟨by rw [HG.out]; rfl, HB9.out⟩
     | false =>
      rw [hf] at HCF
      rw [hf, if_neg (by decide)] at HG
      clear hf hkn
      go_wp2_with (go_at_call 29; refine HCF.out.mono ?_; rintro e w9 ⟨rfl, hb9⟩; have HB9 := Aside0.mk (below_step HBW.out hb9); clear hb9)
      all_goals go_ret2
      all_goals exact ⟨by rw [HG.out]; rfl, HB9.out⟩
    ·have hkl : k < SP.length := by omega
     have h1 : (k : Int) < (ps.length : Int) + 1 := by omega
     have h2 : ((k : Int) == (ps.length : Int)) = false := by simp; omega
     have h3 : (k : Int) < (ps.length : Int) := by omega
     have h4 : (0 : Int) ≤ (k : Int) := by omega
     obtain ⟨g7, cap7, cur7, hv7, hok7, _, hh7⟩ := ownh HRW.out (by omega)
     injection hv7 with ha7 hn7 hc7
     subst ha7
     clear hn7 hc7
     have hget := List.getElem?_eq_getElem hkl
     obtain ⟨y0, y1, y2, y3, y4⟩ := at_kh HRW.out k SP[k] hget
     have hSx := HSP.out SP[k] (List.getElem_mem hkl)
     have hMx := HMK.out SP[k] (List.getElem_mem hkl)
     rw [List.drop_eq_getElem_cons hkl, List.map_cons, goE] at HG
     generalize SP[k] = x at *
     have HSX := Aside0.mk hSx
     have HMX := Aside0.mk hMx
     clear hget hSx hMx hkn
     have hmv1 := more_eq HVW.out (fun s hs => (HMX.out s hs).2)
     have hvok := turned51_ok HVW.out (fun s hs => (HMX.out s hs).1)
     generalize turned51 moreE moreF view x.1.f4 = mr2 at *
     obtain ⟨v2, e2⟩ := mr2
     have HMV := Aside0.mk hmv1
     have HVOK := Aside0.mk hvok
     clear hmv1 hvok
     have hwk : ∀ k, (k = gv ∨ k = gl) → w.heap.size ≤ k := fun k hk => by rcases hk with rfl | rfl <;> omega
     by_cases hgt : x.1.f2 > t
     ·have b3 : decide (t < x.1.f2) = true := by simpa using hgt
      rw [if_pos hgt] at HG
      clear hgt
      cases hf : fitsB view lg' lc' m g c mn mx with
      | true =>
       rw [hf] at HCF
       rw [hf, if_pos rfl] at HG
       clear hf
       go_wp2_with (go_at_call 29; refine HCF.out.mono ?_; rintro e w9 ⟨rfl, hb9⟩; have HB9 := Aside0.mk (below_step HBW.out hb9); clear hb9)
       all_goals go_ret2
       all_goals exact ⟨by rw [HG.out]; rfl, HB9.out⟩
      | false =>
       rw [hf] at HCF
       rw [hf, if_neg (by decide)] at HG
       clear hf
       by_cases hge : x.1.f2 ≥ 1073741825
       ·have b4 : decide ((1073741825 : Int) ≤ x.1.f2) = true := by simpa using hge
        rw [if_pos hge] at HG
        clear hge
        go_wp2_with (go_at_call 29; refine HCF.out.mono ?_; rintro e w9 ⟨rfl, hb9⟩; have z2 := pw_cell_below hb9 y2; have HB9 := Aside0.mk (below_step HBW.out hb9); clear hb9)
        all_goals go_ret2
        all_goals exact ⟨by rw [HG.out]; rfl, HB9.out⟩
       ·have b4 : decide ((1073741825 : Int) ≤ x.1.f2) = false := by simpa using hge
        rw [if_neg hge] at HG
        clear hge
        go_wp2_with (first | (go_at_call 29; refine HCF.out.mono ?_; rintro e w8b ⟨rfl, hb8⟩; have z0 := pw_cell_below hb8 y0; have z1 := pw_cell_below hb8 y1; have z2 := pw_cell_below hb8 y2; have z3 := pw_cell_below hb8 y3; have z4 := pw_cell_below hb8 y4; have HK8 := Aside0.mk (KP.below (KP.refl wr (fun k => k = gv ∨ k = gl)) hb8); have HXV8 := Aside0.mk (blk_below HXV.out hb8); have HXW8 := Aside0.mk (blk_below HXW.out hb8); have HXL8 := Aside0.mk (blk_below HXL.out hb8); have HFV8 := Aside0.mk (Kd.F_below HFV.out hb8); have HSX8 := Aside0.mk (show SlotsOk w8b (fun k => k ≠ gv ∧ k ≠ gl) x from ⟨HSX.out.1, HSX.out.2.1, Kd.F_below HSX.out.2.2 hb8⟩); clear hb8) | (go_at_call 74; refine (end_any gv gw gl x view Av cv q m g c mn mx lg' lc' v2 e2 w8b HXV8.out HXW8.out HXL8.out nvw nvl (fun e => nlw e.symm) HFV8.out HCV.out HSX8.out (fun s hs => (HMX.out s hs).1) HMV.out).mono ?_; rintro e w9 ⟨rfl, hk9, ⟨A9, c9, hv9, hc9, hf9⟩, hl9⟩; have HK9b := Aside0.mk hk9; have HV9 := Aside0.mk hv9; have HC9 := Aside0.mk hc9; have HF9 := Aside0.mk hf9; have HL9 := Aside0.mk hl9; clear hk9 hv9 hc9 hf9 hl9))
        have HK9 := Aside0.mk (HK8.out.trans HK9b.out)
        have HB9 := Aside0.mk (HK9.out.under HBW.out hwk)
        have HW9 := Aside0.mk (blk_kept HXW.out HK9.out.kept (fun h => by rcases h with h | h; exact nvw h.symm; exact nlw h.symm))
        have HS9 := Aside0.mk (fun (z : HV) (hz : z ∈ SP) => (show SlotsOk w9 (fun k => k ≠ gv ∧ k ≠ gl) z from ⟨(HSP.out z hz).1, (HSP.out z hz).2.1, Kd.F_kept (HSP.out z hz).2.2 HK9.out.kept (fun k hk hs => by rcases hs with h | h; exact hk.1 h; exact hk.2 h)⟩))
        have HR9 := Aside0.mk (Kd.R_kept HRW.out HK9.out.kept (fun k hk hs => by have := HBS.out; rcases hs with h | h <;> omega))
        go_roundw
        case rel => exact ⟨k + 1, x.1.f2, v2, _, A9, c9, by omega, by go_num, rfl, HG, HV9, HL9, HW9, HF9, HC9, HVOK, HS9, HR9, HB9⟩
        case measure => simp [intOf]; omega
     ·have b3 : decide (t < x.1.f2) = false := by simpa using hgt
      rw [if_neg hgt] at HG
      clear hgt
      go_wp2_with (first | (go_at_call 74; refine (end_any gv gw gl x view Av cv q m g c mn mx lg' lc' v2 e2 wr HXV.out HXW.out HXL.out nvw nvl (fun e => nlw e.symm) HFV.out HCV.out HSX.out (fun s hs => (HMX.out s hs).1) HMV.out).mono ?_; rintro e w9 ⟨rfl, hk9, ⟨A9, c9, hv9, hc9, hf9⟩, hl9⟩; have HK9 := Aside0.mk hk9; have HV9 := Aside0.mk hv9; have HC9 := Aside0.mk hc9; have HF9 := Aside0.mk hf9; have HL9 := Aside0.mk hl9; clear hk9 hv9 hc9 hf9 hl9))
      have HB9 := Aside0.mk (HK9.out.under HBW.out hwk)
      have HW9 := Aside0.mk (blk_kept HXW.out HK9.out.kept (fun h => by rcases h with h | h; exact nvw h.symm; exact nlw h.symm))
      have HS9 := Aside0.mk (fun (z : HV) (hz : z ∈ SP) => (show SlotsOk w9 (fun k => k ≠ gv ∧ k ≠ gl) z from ⟨(HSP.out z hz).1, (HSP.out z hz).2.1, Kd.F_kept (HSP.out z hz).2.2 HK9.out.kept (fun k hk hs => by rcases hs with h | h; exact hk.1 h; exact hk.2 h)⟩))
      have HR9 := Aside0.mk (Kd.R_kept HRW.out HK9.out.kept (fun k hk hs => by have := HBS.out; rcases hs with h | h <;> omega))
      go_roundw
      case rel => exact ⟨k + 1, t, v2, _, A9, c9, by omega, by go_num, rfl, HG, HV9, HL9, HW9, HF9, HC9, HVOK, HS9, HR9, HB9⟩
      case measure => simp [intOf]; omega
  ·have bme : (me == 0) = false := by simpa using hme
   go_wp2
   go_ret2
   exact ⟨by simp [hme], below_step HB4.out HB6.out⟩
theorem okE_out {view : List S51} {ends : List S41} (h : okE view ends = true) : ends.length ≤ 1000 ∧ viewOk view ∧ (∀ s ∈ ends.flatMap (fun h => h.f4), maskOk s = true ∧ (w64B s.f0.f0 && w64B s.f0.f1) = true) ∧ (ends.flatMap fun h => h.f4).length < 4000000000 := by
 unfold okE spotsOk at h
 rw [Bool.and_eq_true, Bool.and_eq_true, Bool.and_eq_true, Bool.and_eq_true, Bool.and_eq_true, Bool.and_eq_true] at h
 obtain ⟨⟨⟨⟨h1, ⟨h2, h3⟩, h4⟩, h5⟩, h6⟩, h7⟩ := h
 exact ⟨of_decide_eq_true h1, ⟨of_decide_eq_true h2, fun f hf => List.all_eq_true.1 h5 f hf, fun f hf => List.all_eq_true.1 h3 f hf⟩, fun s hs => ⟨List.all_eq_true.1 h6 s hs, List.all_eq_true.1 h4 s hs⟩, of_decide_eq_true h7⟩
theorem promise_Earliest.calls (a0 : Int) (A1 : Option Addr) (c1 : Nat) (l1 : List (S51)) (a2_0 : Int) (a2_1 : Int) (A3 : Option Addr) (c3 : Nat) (l3 : List (S41)) (a4_0 : Int) (a4_1 : Int) (a4_2 : Int) (a4_3 : Int) (a4_4 : Int) (a4_5 : Int) (r1 : Int) (r2 : Int) (w : World) (hr1 : Kd.C k51 w A1 l1.length l1) (hc1 : l1.length ≤ c1) (hr3 : Kd.C k41 w A3 l3.length l3) (hc3 : l3.length ≤ c3) (h : promise_Earliest.f a0 l1 a2_0 a2_1 l3 a4_0 a4_1 a4_2 a4_3 a4_4 a4_5 = some (r1, r2)) :
  Calls Try.prog 27 #[.int .i64 a0, .slice A1 l1.length c1, .agg #[.int .i64 a2_0, .int .i64 a2_1], .slice A3 l3.length c3, .agg #[.int .i64 a4_0, .int .i64 a4_1, .int .i64 a4_2, .int .i64 a4_3, .int .i64 a4_4, .int .i64 a4_5]] w fun e w' => e = .returned (.tuple #[.int .i64 r1, .int .i64 r2]) ∧ Below w.heap.size w w' := by
 unfold promise_Earliest.f at h
 by_cases ho : okE l1 l3 = true
 ·rw [if_pos ho] at h
  obtain ⟨h1, h2, h3, h4⟩ := okE_out ho
  have e := Option.some.inj h
  have e1 : r1 = (earliestB a0 l1 a2_0 a2_1 l3 a4_0 a4_1 a4_2 a4_3 a4_4 a4_5).1 := by rw [e]
  have e2 : r2 = (earliestB a0 l1 a2_0 a2_1 l3 a4_0 a4_1 a4_2 a4_3 a4_4 a4_5).2 := by rw [e]
  rw [e1, e2]
  exact early_any a0 A1 c1 l1 a2_0 a2_1 A3 c3 l3 a4_0 a4_1 a4_2 a4_3 a4_4 a4_5 w hr1 hc1 hr3 hc3 h1 h2 h3 h4
 ·rw [if_neg ho] at h; cases h
end Go.Proofs.Ytckhjehibjdjdaa.P
namespace Go.Proofs.Ytckhjehibjdjdaa.P
open Go.RowKit Go.Proofs.YtckhjehibjdjdaaW.PrintWords Go.Proofs.YtckhjehibjdjdaaW.PrintLast Go.Proofs.YtckhjehibjdjdaaW.PrintMore
attribute [local go_sem] max2_int min2_int max_two min_two max_three min_three max_four min_four
set_option linter.unusedVariables false
set_option linter.unusedSimpArgs false
def ensemblelaw12_awake.f  : Option (Bool) := (some (([(⟨0, 0, 7, false, (([(⟨(⟨0, 0⟩ : S48), 14, 0⟩ : S52)] : List (S52)))⟩ : S41)] : List (S41)) : List (S41))).bind fun y105 => ((promise_Earliest.f 3 (([(⟨(⟨0, 0⟩ : S48), 1, 0⟩ : S51)] : List (S51))) 9 0 y105 0 2 1 0 1 2).bind fun bt111 => ((promise_Earliest.f 3 (([(⟨(⟨0, 0⟩ : S48), 1, 0⟩ : S51)] : List (S51))) 9 0 y105 0 1 1 0 1 2).bind fun bt116 => (if bt111.1 = 7 then (if bt116.1 = 3 then (if bt111.2 = 0 then (some (bt116.2 == 0)) else (some false)) else (some false)) else (some false))))
set_option maxHeartbeats 8000000 in
set_option maxRecDepth 100000 in
theorem ensemblelaw12_awake.calls  (r : Bool) (w : World) (h : ensemblelaw12_awake.f  = some r) (hr_ : r = true := by rfl) :
  Calls Try.prog 25 #[] w fun e w' => e = .returned (.bool r) ∧ Below w.heap.size w w' := by
 have hu27 := Try.underlying27
 have hu29 := Try.underlying29
 have hu52 := Try.underlying52
 have hu41 := Try.underlying41
 have hu51 := Try.underlying51
 have hu24 := Try.underlying24
 have HB := Aside0.mk (Below.refl w.heap.size w)
 have H : ((some (([(⟨0, 0, 7, false, (([(⟨(⟨0, 0⟩ : S48), 14, 0⟩ : S52)] : List (S52)))⟩ : S41)] : List (S41)) : List (S41))).bind fun y105 => ((promise_Earliest.f 3 (([(⟨(⟨0, 0⟩ : S48), 1, 0⟩ : S51)] : List (S51))) 9 0 y105 0 2 1 0 1 2).bind fun bt111 => ((promise_Earliest.f 3 (([(⟨(⟨0, 0⟩ : S48), 1, 0⟩ : S51)] : List (S51))) 9 0 y105 0 1 1 0 1 2).bind fun bt116 => (if bt111.1 = 7 then (if bt116.1 = 3 then (if bt111.2 = 0 then (some (bt116.2 == 0)) else (some false)) else (some false)) else (some false))))) = some r := h
 clear h
 obtain ⟨y102, hy102⟩ : ∃ y_ : List (S52), y_ = (([(⟨(⟨0, 0⟩ : S48), 14, 0⟩ : S52)] : List (S52))) := ⟨_, rfl⟩
 replace H : ((some (([(⟨0, 0, 7, false, y102⟩ : S41)] : List (S41)) : List (S41))).bind fun y105 => ((promise_Earliest.f 3 (([(⟨(⟨0, 0⟩ : S48), 1, 0⟩ : S51)] : List (S51))) 9 0 y105 0 2 1 0 1 2).bind fun bt111 => ((promise_Earliest.f 3 (([(⟨(⟨0, 0⟩ : S48), 1, 0⟩ : S51)] : List (S51))) 9 0 y105 0 1 1 0 1 2).bind fun bt116 => (if bt111.1 = 7 then (if bt116.1 = 3 then (if bt111.2 = 0 then (some (bt116.2 == 0)) else (some false)) else (some false)) else (some false))))) = some r := by first | (rw [hy102]; with_reducible exact H) | (have H2_ := (Option.bind_some _ _).symm.trans H; rw [hy102]; with_reducible exact H2_) | (have H2_ := (Option.bind_some _ _).symm.trans H; with_reducible exact H2_) | with_reducible exact H | (rw [hy102]; exact H) | exact H
 have Ny102 := Aside0.mk hy102
 clear hy102
 obtain ⟨y105, hy105⟩ : ∃ y_ : List (S41), y_ = (([(⟨0, 0, 7, false, y102⟩ : S41)] : List (S41))) := ⟨_, rfl⟩
 replace H : ((promise_Earliest.f 3 (([(⟨(⟨0, 0⟩ : S48), 1, 0⟩ : S51)] : List (S51))) 9 0 y105 0 2 1 0 1 2).bind fun bt111 => ((promise_Earliest.f 3 (([(⟨(⟨0, 0⟩ : S48), 1, 0⟩ : S51)] : List (S51))) 9 0 y105 0 1 1 0 1 2).bind fun bt116 => (if bt111.1 = 7 then (if bt116.1 = 3 then (if bt111.2 = 0 then (some (bt116.2 == 0)) else (some false)) else (some false)) else (some false)))) = some r := by first | (rw [hy105]; with_reducible exact H) | (have H2_ := (Option.bind_some _ _).symm.trans H; rw [hy105]; with_reducible exact H2_) | (have H2_ := (Option.bind_some _ _).symm.trans H; with_reducible exact H2_) | with_reducible exact H | (rw [hy105]; exact H) | exact H
 have Ny105 := Aside0.mk hy105
 clear hy105
 obtain ⟨y108, hy108⟩ : ∃ y_ : List (S51), y_ = (([(⟨(⟨0, 0⟩ : S48), 1, 0⟩ : S51)] : List (S51))) := ⟨_, rfl⟩
 replace H : ((promise_Earliest.f 3 y108 9 0 y105 0 2 1 0 1 2).bind fun bt111 => ((promise_Earliest.f 3 (([(⟨(⟨0, 0⟩ : S48), 1, 0⟩ : S51)] : List (S51))) 9 0 y105 0 1 1 0 1 2).bind fun bt116 => (if bt111.1 = 7 then (if bt116.1 = 3 then (if bt111.2 = 0 then (some (bt116.2 == 0)) else (some false)) else (some false)) else (some false)))) = some r := by first | (rw [hy108]; with_reducible exact H) | (have H2_ := (Option.bind_some _ _).symm.trans H; rw [hy108]; with_reducible exact H2_) | (have H2_ := (Option.bind_some _ _).symm.trans H; with_reducible exact H2_) | with_reducible exact H | (rw [hy108]; exact H) | exact H
 have Ny108 := Aside0.mk hy108
 clear hy108
 replace H := Option.bind_eq_some_iff.mp H
 obtain ⟨⟨t111, t112⟩, A10, H⟩ := H
 replace H : ((promise_Earliest.f 3 (([(⟨(⟨0, 0⟩ : S48), 1, 0⟩ : S51)] : List (S51))) 9 0 y105 0 1 1 0 1 2).bind fun bt116 => (if t111 = 7 then (if bt116.1 = 3 then (if t112 = 0 then (some (bt116.2 == 0)) else (some false)) else (some false)) else (some false))) = some r := H
 have A1 := Aside0.mk A10
 clear A10
 obtain ⟨y113, hy113⟩ : ∃ y_ : List (S51), y_ = (([(⟨(⟨0, 0⟩ : S48), 1, 0⟩ : S51)] : List (S51))) := ⟨_, rfl⟩
 replace H : ((promise_Earliest.f 3 y113 9 0 y105 0 1 1 0 1 2).bind fun bt116 => (if t111 = 7 then (if bt116.1 = 3 then (if t112 = 0 then (some (bt116.2 == 0)) else (some false)) else (some false)) else (some false))) = some r := by first | (rw [hy113]; with_reducible exact H) | (have H2_ := (Option.bind_some _ _).symm.trans H; rw [hy113]; with_reducible exact H2_) | (have H2_ := (Option.bind_some _ _).symm.trans H; with_reducible exact H2_) | with_reducible exact H | (rw [hy113]; exact H) | exact H
 have Ny113 := Aside0.mk hy113
 clear hy113
 replace H := Option.bind_eq_some_iff.mp H
 obtain ⟨⟨t116, t117⟩, A20, H⟩ := H
 replace H : (if t111 = 7 then (if t116 = 3 then (if t112 = 0 then (some (t117 == 0)) else (some false)) else (some false)) else (some false)) = some r := H
 have A2 := Aside0.mk A20
 clear A20
 by_cases c3 : t111 = 7
 ·rw [if_pos c3] at H
  have c3b0 : (t111 == 7) = true := beq_iff_eq.mpr c3
  have c3b1 : (t111 != 7) = false := bne_eq_false_iff_eq.mpr c3
  clear c3
  by_cases c4 : t116 = 3
  ·rw [if_pos c4] at H
   have c4b0 : (t116 == 3) = true := beq_iff_eq.mpr c4
   have c4b1 : (t116 != 3) = false := bne_eq_false_iff_eq.mpr c4
   clear c4
   by_cases c5 : t112 = 0
   ·rw [if_pos c5] at H
    have c5b0 : (t112 == 0) = true := beq_iff_eq.mpr c5
    have c5b1 : (t112 != 0) = false := bne_eq_false_iff_eq.mpr c5
    clear c5
    clear hr_
    obtain rfl := Option.some.inj H
    go_enter Try.func25, Try.ntmps25
    go_wp2_with (first | ((with_reducible refine gate_dst (N := 1) rfl ?_); refine bx 1 #[.int .i64 0, .int .i64 0, .int .i64 0, .int .i64 0, .int .i64 0, .int .i64 0] 29 ?_; intro gb101 hg w6 hbox hb; have BK101 := Aside0.mk (hbox); have GW101 := ge_ hg; have GE101 := ge_ hg; replace HB := hs_ hb; clear hb hbox hg; obtain ⟨hcz7_0, hcz7_1, hcz7_2, hcz7_3, hcz7_4, hcz7_5, hfz7_0, hfz7_1, hfz7_2, hfz7_3, hfz7_4, hfz7_5⟩ := bz6_ BK101) | ((with_reducible refine gate_dst (N := 10) rfl ?_); refine Kd.R_lit k52 _ 52 ?hg (N := 10) ?hd (xs := ([(⟨(⟨0, 0⟩ : S48), 14, 0⟩ : S52)] : List (S52))) (inner := [.int .i64 0, .int .i64 0, .int .u64 14, .int .i64 0]) (ok := fun _ => True) (okp := fun _ => True) ?hr ?hp (fun _ hk => hk) trivial (Below.refl _ _) (Nat.le_refl _) (by simp) ?_; (case hd => rfl); (case hg => rfl); (case hr => first | (go_simp; done) | (go_simp; rfl)); (case hp => exact (Reps.c4 (show Kd.M k52 _ _ _ (⟨(⟨0, 0⟩ : S48), 14, 0⟩ : S52) [.int .i64 0, .int .i64 0, .int .u64 14, .int .i64 0] from (k52_mkM _ _ _ (⟨(⟨0, 0⟩ : S48), 14, 0⟩ : S52) )) (Reps.none _ _))); intro v103 w8 ho9 hb hg_ hnew_; clear hg_ hnew_; (first | rw [← Ny102.out] at ho9 | (simp only [Int.reduceToNat] at ho9; rw [← Ny102.out] at ho9)); have HO104 := Aside0.mk (Kd.R_lower ho9 (below_size hb_)); replace BK101 := Aside0.mk (blk_below (g := gb101) (o := .cells #[.int .i64 0, .int .i64 2, .int .i64 1, .int .i64 0, .int .i64 1, .int .i64 2] 29 (0, 0)) (by (with_reducible repeat (first | refine blk_drewN ?_ _ | refine blk_drew ?_ | refine blk_alloc ?_ _)); refine blk_put (cs := #[.int .i64 0, .int .i64 2, .int .i64 1, .int .i64 0, .int .i64 1, .int .i64 0]) ?_ 5 _ rfl; (with_reducible repeat (first | refine blk_drewN ?_ _ | refine blk_drew ?_ | refine blk_alloc ?_ _)); refine blk_put (cs := #[.int .i64 0, .int .i64 2, .int .i64 1, .int .i64 0, .int .i64 0, .int .i64 0]) ?_ 4 _ rfl; (with_reducible repeat (first | refine blk_drewN ?_ _ | refine blk_drew ?_ | refine blk_alloc ?_ _)); refine blk_put (cs := #[.int .i64 0, .int .i64 2, .int .i64 1, .int .i64 0, .int .i64 0, .int .i64 0]) ?_ 3 _ rfl; (with_reducible repeat (first | refine blk_drewN ?_ _ | refine blk_drew ?_ | refine blk_alloc ?_ _)); refine blk_put (cs := #[.int .i64 0, .int .i64 2, .int .i64 0, .int .i64 0, .int .i64 0, .int .i64 0]) ?_ 2 _ rfl; (with_reducible repeat (first | refine blk_drewN ?_ _ | refine blk_drew ?_ | refine blk_alloc ?_ _)); refine blk_put (cs := #[.int .i64 0, .int .i64 0, .int .i64 0, .int .i64 0, .int .i64 0, .int .i64 0]) ?_ 1 _ rfl; (with_reducible repeat (first | refine blk_drewN ?_ _ | refine blk_drew ?_ | refine blk_alloc ?_ _)); refine blk_put (cs := #[.int .i64 0, .int .i64 0, .int .i64 0, .int .i64 0, .int .i64 0, .int .i64 0]) ?_ 0 _ rfl; (with_reducible repeat (first | refine blk_drewN ?_ _ | refine blk_drew ?_ | refine blk_alloc ?_ _)); exact BK101.out) hb); replace HB := hs_ hb; clear hb ho9; obtain ⟨Ao10, co10, eo10⟩ := Kd.R_slice HO104.out; subst eo10) | ((with_reducible refine gate_dst (N := 12) rfl ?_); refine Kd.N_lit k41 _ 41 ?hg (N' := 12) ?hd (xs := ([(⟨0, 0, 7, false, y102⟩ : S41)] : List (S41))) (inner := [.int .i64 0, .int .i64 0, .int .i64 7, .bool false, .slice Ao10 y102.length co10]) (ok := (fun k_ => k_ ≠ gb101)) (okp := (fun k_ => k_ ≠ gb101)) ?hr ?hp (fun _ hk => hk) ((show ∀ k_, w8.heap.size ≤ k_ → (fun k_ => k_ ≠ gb101) k_ from fun k_ hk => Kd.freshB (g := gb101) (o := .cells #[.int .i64 0, .int .i64 2, .int .i64 1, .int .i64 0, .int .i64 1, .int .i64 2] 29 (0, 0)) (bo_ BK101) k_ hk) _ (Nat.le_refl _)) (Below.refl _ _) (Nat.le_refl _) (by simp) ?_; (case hd => rfl); (case hg => rfl); (case hr => first | (go_simp; done) | (go_simp; rfl)); (case hp => exact (Reps.c5 (show Kd.FK k41 _ _ (⟨0, 0, 7, false, y102⟩ : S41) [.int .i64 0, .int .i64 0, .int .i64 7, .bool false, .slice Ao10 y102.length co10] from (k41_mkF _ _ (⟨0, 0, 7, false, y102⟩ : S41) (Kd.R_reads' (Kd.R_mono (ok' := (fun k_ => k_ ≠ gb101)) (Kd.R_types (HO104.out) BK101.out (by decide)) (fun k_ hk => hk.2))).2.1 (Kd.R_F (Kd.R_mono (ok' := (fun k_ => k_ ≠ gb101)) (Kd.R_types (HO104.out) BK101.out (by decide)) (fun k_ hk => hk.2))))) (Reps.none _ _))); intro v106 w11 ho12 hb hg_ hnew_; clear hg_ hnew_; (first | rw [← Ny105.out] at ho12 | (simp only [Int.reduceToNat] at ho12; rw [← Ny105.out] at ho12)); have HO107 := Aside0.mk (Kd.N_lower ho12 (below_size hb_)); replace BK101 := bk_ BK101 hb; replace HB := hs_ hb; clear HO104; clear hb ho12) | ((with_reducible refine gate_dst (N := 15) rfl ?_); refine Kd.R_lit k51 _ 51 ?hg (N := 15) ?hd (xs := ([(⟨(⟨0, 0⟩ : S48), 1, 0⟩ : S51)] : List (S51))) (inner := [.int .i64 0, .int .i64 0, .int .u64 1, .int .i64 0]) (ok := fun _ => True) (okp := fun _ => True) ?hr ?hp (fun _ hk => hk) trivial (Below.refl _ _) (Nat.le_refl _) (by simp) ?_; (case hd => rfl); (case hg => rfl); (case hr => first | (go_simp; done) | (go_simp; rfl)); (case hp => exact (Reps.c4 (show Kd.M k51 _ _ _ (⟨(⟨0, 0⟩ : S48), 1, 0⟩ : S51) [.int .i64 0, .int .i64 0, .int .u64 1, .int .i64 0] from (k51_mkM _ _ _ (⟨(⟨0, 0⟩ : S48), 1, 0⟩ : S51) )) (Reps.none _ _))); intro v109 w13 ho14 hb hg_ hnew_; clear hg_ hnew_; (first | rw [← Ny108.out] at ho14 | (simp only [Int.reduceToNat] at ho14; rw [← Ny108.out] at ho14)); have HO110 := Aside0.mk (Kd.R_lower ho14 (below_size hb_)); replace HO107 := Aside0.mk (Kd.N_elder' (by (with_reducible repeat (first | apply Kd.N_alloc | apply Kd.N_drewN | apply Kd.N_drew)); exact HO107.out) (Kd.R_base ho14) hb); replace BK101 := bk_ BK101 hb; replace HB := hs_ hb; clear hb ho14; obtain ⟨hcz15_0, hcz15_1, hcz15_2, hcz15_3, hcz15_4, hcz15_5, hfz15_0, hfz15_1, hfz15_2, hfz15_3, hfz15_4, hfz15_5⟩ := bz6_ BK101; obtain ⟨Ao16, co16, eo16⟩ := Kd.R_slice HO110.out; subst eo16; obtain ⟨Ao17, co17, eo17⟩ := Kd.N_slice HO107.out; subst eo17) | ((with_reducible refine gate_callee (f := 27) rfl ?_); refine goesL_ (some 19) rfl rfl Try.func27 (by kernel_rfl) rfl #[.int .i64 3, .slice Ao16 y108.length co16, .agg #[.int .i64 9, .int .i64 0], .slice Ao17 y105.length co17, .agg #[.int .i64 0, .int .i64 2, .int .i64 1, .int .i64 0, .int .i64 1, .int .i64 2]] rfl Z0 ?_; (with_reducible refine (promise_Earliest.calls 3 _ _ y108 9 0 _ _ y105 0 2 1 0 1 2 t111 t112 _ ?side1 ?side2 ?side3 ?side4 A1.out).mono ?_); (case side1 => repeat (first | exact (Kd.R_reads' HO110.out).2.2 | (with_reducible refine Kd.C_alloc ?_ _) | (with_reducible refine Kd.C_drewN ?_ _) | (with_reducible refine Kd.C_drew ?_))); (case side2 => exact (Kd.R_reads' HO110.out).2.1); (case side3 => repeat (first | exact (Kd.N_reads' HO107.out).2.2 | (with_reducible refine Kd.C_alloc ?_ _) | (with_reducible refine Kd.C_drewN ?_ _) | (with_reducible refine Kd.C_drew ?_))); (case side4 => exact (Kd.N_reads' HO107.out).2.1); rintro e w18 ⟨rfl, hb⟩; refine ⟨_, rfl, ?_⟩; replace HO107 := Aside0.mk (Kd.N_below (by (with_reducible repeat (first | apply Kd.N_alloc | apply Kd.N_drewN | apply Kd.N_drew)); exact HO107.out) hb); replace HO110 := Aside0.mk (Kd.R_below (by (with_reducible repeat (first | apply Kd.R_alloc | apply Kd.R_drewN | apply Kd.R_drew)); exact HO110.out) hb); replace BK101 := bk_ BK101 hb; replace HB := hs_ hb; (try clear hb); (try clear hb2); (try clear hk); (try clear hi); obtain ⟨hcz19_0, hcz19_1, hcz19_2, hcz19_3, hcz19_4, hcz19_5, hfz19_0, hfz19_1, hfz19_2, hfz19_3, hfz19_4, hfz19_5⟩ := bz6_ BK101) | ((with_reducible refine gate_dst (N := 25) rfl ?_); refine Kd.R_lit k51 _ 51 ?hg (N := 25) ?hd (xs := ([(⟨(⟨0, 0⟩ : S48), 1, 0⟩ : S51)] : List (S51))) (inner := [.int .i64 0, .int .i64 0, .int .u64 1, .int .i64 0]) (ok := fun _ => True) (okp := fun _ => True) ?hr ?hp (fun _ hk => hk) trivial (Below.refl _ _) (Nat.le_refl _) (by simp) ?_; (case hd => rfl); (case hg => rfl); (case hr => first | (go_simp; done) | (go_simp; rfl)); (case hp => exact (Reps.c4 (show Kd.M k51 _ _ _ (⟨(⟨0, 0⟩ : S48), 1, 0⟩ : S51) [.int .i64 0, .int .i64 0, .int .u64 1, .int .i64 0] from (k51_mkM _ _ _ (⟨(⟨0, 0⟩ : S48), 1, 0⟩ : S51) )) (Reps.none _ _))); intro v114 w20 ho21 hb hg_ hnew_; clear hg_ hnew_; (first | rw [← Ny113.out] at ho21 | (simp only [Int.reduceToNat] at ho21; rw [← Ny113.out] at ho21)); have HO115 := Aside0.mk (Kd.R_lower (Kd.R_new' ho21 (Kd.R_lt (by (with_reducible repeat (first | apply Kd.R_alloc | apply Kd.R_drewN | apply Kd.R_drew)); exact (Kd.R_mono (Kd.R_far (p := ⟨gb101, 1, none⟩) (Kd.R_types HO110.out BK101.out (by decide)) (fun _ hk => hk.2) (.int .i64 1)) (fun _ h_ => h_.1))))) (below_size hb_)); replace HO107 := Aside0.mk (Kd.N_elder' (by (with_reducible repeat (first | apply Kd.N_alloc | apply Kd.N_drewN | apply Kd.N_drew)); exact (Kd.N_mono (Kd.N_far (p := ⟨gb101, 1, none⟩) (Kd.N_mono HO107.out (fun k_ hk => (⟨hk, hk.1⟩ : _ ∧ k_ ≠ gb101))) (fun _ hk => hk.2) (.int .i64 1)) (fun _ h_ => h_.1))) (Kd.R_base ho21) hb); replace HO110 := Aside0.mk (Kd.R_elder' (by (with_reducible repeat (first | apply Kd.R_alloc | apply Kd.R_drewN | apply Kd.R_drew)); exact (Kd.R_mono (Kd.R_far (p := ⟨gb101, 1, none⟩) (Kd.R_types HO110.out BK101.out (by decide)) (fun _ hk => hk.2) (.int .i64 1)) (fun _ h_ => h_.1))) (Kd.R_base ho21) hb); replace BK101 := Aside0.mk (blk_below (g := gb101) (o := .cells #[.int .i64 0, .int .i64 1, .int .i64 1, .int .i64 0, .int .i64 1, .int .i64 2] 29 (0, 0)) (by (with_reducible repeat (first | refine blk_drewN ?_ _ | refine blk_drew ?_ | refine blk_alloc ?_ _)); refine blk_put (cs := #[.int .i64 0, .int .i64 2, .int .i64 1, .int .i64 0, .int .i64 1, .int .i64 2]) ?_ 1 _ rfl; (with_reducible repeat (first | refine blk_drewN ?_ _ | refine blk_drew ?_ | refine blk_alloc ?_ _)); exact BK101.out) hb); replace HB := hs_ hb; clear hb ho21; obtain ⟨hcz22_0, hcz22_1, hcz22_2, hcz22_3, hcz22_4, hcz22_5, hfz22_0, hfz22_1, hfz22_2, hfz22_3, hfz22_4, hfz22_5⟩ := bz6_ BK101; obtain ⟨Ao23, co23, eo23⟩ := Kd.R_slice HO115.out; subst eo23) | ((with_reducible refine gate_callee (f := 27) rfl ?_); refine goesL_ (some 29) rfl rfl Try.func27 (by kernel_rfl) rfl #[.int .i64 3, .slice Ao23 y113.length co23, .agg #[.int .i64 9, .int .i64 0], .slice Ao17 y105.length co17, .agg #[.int .i64 0, .int .i64 1, .int .i64 1, .int .i64 0, .int .i64 1, .int .i64 2]] rfl Z0 ?_; (with_reducible refine (promise_Earliest.calls 3 _ _ y113 9 0 _ _ y105 0 1 1 0 1 2 t116 t117 _ ?side1 ?side2 ?side3 ?side4 A2.out).mono ?_); (case side1 => repeat (first | exact (Kd.R_reads' HO115.out).2.2 | (with_reducible refine Kd.C_alloc ?_ _) | (with_reducible refine Kd.C_drewN ?_ _) | (with_reducible refine Kd.C_drew ?_))); (case side2 => exact (Kd.R_reads' HO115.out).2.1); (case side3 => repeat (first | exact (Kd.N_reads' HO107.out).2.2 | (with_reducible refine Kd.C_alloc ?_ _) | (with_reducible refine Kd.C_drewN ?_ _) | (with_reducible refine Kd.C_drew ?_))); (case side4 => exact (Kd.N_reads' HO107.out).2.1); rintro e w24 ⟨rfl, hb⟩; refine ⟨_, rfl, ?_⟩; replace HO107 := Aside0.mk (Kd.N_below (by (with_reducible repeat (first | apply Kd.N_alloc | apply Kd.N_drewN | apply Kd.N_drew)); exact HO107.out) hb); replace HO110 := Aside0.mk (Kd.R_below (by (with_reducible repeat (first | apply Kd.R_alloc | apply Kd.R_drewN | apply Kd.R_drew)); exact HO110.out) hb); replace HO115 := Aside0.mk (Kd.R_below (by (with_reducible repeat (first | apply Kd.R_alloc | apply Kd.R_drewN | apply Kd.R_drew)); exact HO115.out) hb); replace BK101 := bk_ BK101 hb; replace HB := hs_ hb; (try clear hb); (try clear hb2); (try clear hk); (try clear hi)))
    go_ret
    exact ⟨by first | rfl | (simp [errW_none, errW_some] <;> rfl) | (simp [*, errW_none, errW_some] <;> rfl), hb_⟩
   ·rw [if_neg c5] at H
    have c5b0 : (t112 == 0) = false := beq_eq_false_iff_ne.mpr c5
    have c5b1 : (t112 != 0) = true := bne_iff_ne.mpr c5
    rw [hr_] at H
    cases H
  ·rw [if_neg c4] at H
   have c4b0 : (t116 == 3) = false := beq_eq_false_iff_ne.mpr c4
   have c4b1 : (t116 != 3) = true := bne_iff_ne.mpr c4
   rw [hr_] at H
   cases H
 ·rw [if_neg c3] at H
  have c3b0 : (t111 == 7) = false := beq_eq_false_iff_ne.mpr c3
  have c3b1 : (t111 != 7) = true := bne_iff_ne.mpr c3
  rw [hr_] at H
  cases H
end Go.Proofs.Ytckhjehibjdjdaa.P
namespace Go.Proofs.Ytckhjehibjdjdaa.P
open Go.RowKit Go.Proofs.YtckhjehibjdjdaaW.PrintWords Go.Proofs.YtckhjehibjdjdaaW.PrintLast Go.Proofs.YtckhjehibjdjdaaW.PrintMore
attribute [local go_sem] max2_int min2_int max_two min_two max_three min_three max_four min_four
set_option linter.unusedVariables false
set_option linter.unusedSimpArgs false
theorem eqA48 (d : Nat) (w : World) (x0 y0 : Int) (x1 y1 : Int) :
  (Op.equalIn (d + 2) 48 (.agg #[.int .i64 x0, .int .i64 x1]) (.agg #[.int .i64 y0, .int .i64 y1])).run Try.prog w = .ok (x0 == y0 && (x1 == y1)) w := by
 refine eqA_of Try.underlying48 (by kernel_rfl) ?_
 refine eqf_cons (by rfl) (by go_simp; rfl) (by go_simp; rfl) (by go_simp) ?_
 exact eqf_last (by rfl) (by go_simp; rfl) (by go_simp; rfl) (by go_simp)
end Go.Proofs.Ytckhjehibjdjdaa.P
namespace Go.Proofs.Ytckhjehibjdjdaa.P
open Go.RowKit Go.Proofs.YtckhjehibjdjdaaW.PrintWords Go.Proofs.YtckhjehibjdjdaaW.PrintLast Go.Proofs.YtckhjehibjdjdaaW.PrintMore
attribute [local go_sem] max2_int min2_int max_two min_two max_three min_three max_four min_four
set_option linter.unusedVariables false
set_option linter.unusedSimpArgs false
attribute [local go_sem high] eqA48
def ensembleref05_find.l0 : Nat → List (S51) → Int → Int → Int → Option (Int)
 | 0, _, _, _, _ => none
 | k + 1, x0, x5, x119000, x119001 => if x5 < (x0.length : Int) then (if 0 ≤ x5 then (if (((rd_T51 x0 x5).f0.f0) == x119000 && (((rd_T51 x0 x5).f0.f1) == x119001)) = true then (some x5) else (ensembleref05_find.l0 k x0 (wrap64 (x5 + 1)) x119000 x119001)) else (none)) else (some (-1))
def ensembleref05_find.f (k : Nat) (l0 : List (S51)) (a1_0 : Int) (a1_1 : Int) : Option (Int) := ensembleref05_find.l0 k l0 0 a1_0 a1_1
set_option maxHeartbeats 8000000 in
set_option maxRecDepth 100000 in
theorem ensembleref05_find.calls (k : Nat) (A0 : Option Addr) (c0 : Nat) (l0 : List (S51)) (a1_0 : Int) (a1_1 : Int) (r : Int) (w : World) (hr0 : Kd.C k51 w A0 l0.length l0) (hc0 : l0.length ≤ c0) (h : ensembleref05_find.f k l0 a1_0 a1_1 = some r) :
  Calls Try.prog 79 #[.slice A0 l0.length c0, .agg #[.int .i64 a1_0, .int .i64 a1_1]] w fun e w' => e = .returned (.int .i64 r) ∧ Below w.heap.size w w' := by
 have hu48 := Try.underlying48
 have HR0 := Aside0.mk hr0
 have HC0 := Aside0.mk hc0
 clear hr0 hc0
 have HB := Aside0.mk (Below.refl w.heap.size w)
 have H : (ensembleref05_find.l0 k l0 0 a1_0 a1_1) = some r := h
 clear h
 have H' := Aside0.mk H
 clear H
 go_enter Try.func79, Try.ntmps79
 go_wp2_with (first | ((with_reducible refine gate_dst (N := 3) rfl ?_); refine bx 3 #[.int .i64 a1_0, .int .i64 a1_1] 48 ?_; intro gb118 hg w3 hbox hb; have BK118 := Aside0.mk (hbox); have GW118 := ge_ hg; have GE118 := ge_ hg; replace HB := hs_ hb; clear hb hbox hg))
 repeat (go_quiet (first | ((with_reducible refine gate_dst (N := 3) rfl ?_); refine bx 3 #[.int .i64 a1_0, .int .i64 a1_1] 48 ?_; intro gb118 hg w3 hbox hb; have BK118 := Aside0.mk (hbox); have GW118 := ge_ hg; have GE118 := ge_ hg; replace HB := hs_ hb; clear hb hbox hg)); try go_wp2_with (first | ((with_reducible refine gate_dst (N := 3) rfl ?_); refine bx 3 #[.int .i64 a1_0, .int .i64 a1_1] 48 ?_; intro gb118 hg w3 hbox hb; have BK118 := Aside0.mk (hbox); have GW118 := ge_ hg; have GE118 := ge_ hg; replace HB := hs_ hb; clear hb hbox hg)))
 go_loopg [5] k (fun kq v5 w' => ∃ (x5_1 : Int), v5 = .int .i64 x5_1 ∧ Aside0 (ensembleref05_find.l0 kq l0 x5_1 a1_0 a1_1 = some r) ∧ Aside0 (kq ≤ k) ∧ Aside0 (w'.heap[gb118]? = some (.cells #[.int .i64 a1_0, .int .i64 a1_1] 48 (0, 0))) ∧ Aside0 (Below w.heap.size w w'))
 case atStart => exact ⟨(0), Z1, H', ⟨Nat.le_refl _⟩, ⟨bo_ BK118⟩, ⟨hb_⟩⟩
 case round =>
  clear H'
  try clear p2
  obtain ⟨x5_1, rfl, HA, HK1, BK118, HB⟩ := hrel
  cases gk with
  | zero => exact absurd HA.out (by simp [ensembleref05_find.l0])
  | succ k1 =>
   have H := HA.out
   clear HA
   simp only [ensembleref05_find.l0] at H
   by_cases c4 : x5_1 < (l0.length : Int)
   ·rw [if_pos c4] at H
    have c4b0 : decide (x5_1 < (l0.length : Int)) = true := decide_eq_true c4
    clear c4
    by_cases c5 : 0 ≤ x5_1
    ·rw [if_pos c5] at H
     have c5b0 : decide (0 ≤ x5_1) = true := decide_eq_true c5
     clear c5
     by_cases c6 : (((rd_T51 l0 x5_1).f0.f0) == a1_0 && (((rd_T51 l0 x5_1).f0.f1) == a1_1)) = true
     ·rw [if_pos c6] at H
      have c6b0 : (((rd_T51 l0 x5_1).f0.f0) == a1_0 && (((rd_T51 l0 x5_1).f0.f1) == a1_1)) = true := c6
      (try (have c6b1 : decide (((rd_T51 l0 x5_1).f0.f0) = a1_0 && (((rd_T51 l0 x5_1).f0.f1) == a1_1)) = true := by simpa using c6))
      (try (have c6b2 : (((rd_T51 l0 x5_1).f0.f0) == a1_0 && (((rd_T51 l0 x5_1).f0.f1) == a1_1)) = true := by simpa using c6))
      clear c6
      obtain rfl := Option.some.inj H
      have p119 : 0 ≤ (x5_1 : Int) := of_decide_eq_true Z2
      have q119 : x5_1 < (l0.length : Int) := of_decide_eq_true Z2
      obtain ⟨ad119, e119, hx119_0, hx119_1, hx119_2, hx119_3⟩ := at_T51 HR0.out x5_1 p119 q119
      cases e119
      replace hx119_0 := cx_ hx119_0
      replace hx119_1 := cx_ hx119_1
      replace hx119_2 := cx_ hx119_2
      replace hx119_3 := cx_ hx119_3
      replace p119 := eq_true p119
      replace q119 := eq_true q119
      obtain ⟨hcz7_0, hcz7_1, hfz7_0, hfz7_1⟩ := bz2_ BK118
      go_wp2
      repeat (go_quiet (fail); try go_wp2)
      go_ret
      exact ⟨by first | rfl | (simp [errW_none, errW_some] <;> rfl) | (simp [*, errW_none, errW_some] <;> rfl), hb_⟩
     ·rw [if_neg c6] at H
      have c6b0 : (((rd_T51 l0 x5_1).f0.f0) == a1_0 && (((rd_T51 l0 x5_1).f0.f1) == a1_1)) = false := by simpa using c6
      (try (have c6b1 : decide (((rd_T51 l0 x5_1).f0.f0) = a1_0 && (((rd_T51 l0 x5_1).f0.f1) == a1_1)) = false := by simpa using c6))
      (try (have c6b2 : (((rd_T51 l0 x5_1).f0.f0) == a1_0 && (((rd_T51 l0 x5_1).f0.f1) == a1_1)) = false := by simpa using c6))
      (try (have c6b3 : ¬ (((rd_T51 l0 x5_1).f0.f0) = a1_0 && (((rd_T51 l0 x5_1).f0.f1) == a1_1)) := by simpa using c6))
      clear c6
      have H' := Aside0.mk H
      clear H
      have p119 : 0 ≤ (x5_1 : Int) := of_decide_eq_true Z2
      have q119 : x5_1 < (l0.length : Int) := of_decide_eq_true Z2
      obtain ⟨ad119, e119, hx119_0, hx119_1, hx119_2, hx119_3⟩ := at_T51 HR0.out x5_1 p119 q119
      cases e119
      replace hx119_0 := cx_ hx119_0
      replace hx119_1 := cx_ hx119_1
      replace hx119_2 := cx_ hx119_2
      replace hx119_3 := cx_ hx119_3
      replace p119 := eq_true p119
      replace q119 := eq_true q119
      obtain ⟨hcz8_0, hcz8_1, hfz8_0, hfz8_1⟩ := bz2_ BK118
      go_wp2
      repeat (go_quiet (fail); try go_wp2)
      go_roundg k1
      case measure => have := HK1.out; omega
      case rel => exact ⟨(wrap64 (x5_1 + 1)), Z1, H', ⟨by have := HK1.out; omega⟩, ⟨bo_ BK118⟩, ⟨hb_⟩⟩
    ·rw [if_neg c5] at H
     exact absurd H (by simp)
   ·rw [if_neg c4] at H
    have c4b0 : decide (x5_1 < (l0.length : Int)) = false := decide_eq_false c4
    clear c4
    obtain rfl := Option.some.inj H
    go_wp2
    repeat (go_quiet (fail); try go_wp2)
    go_ret
    exact ⟨by first | rfl | (simp [errW_none, errW_some] <;> rfl) | (simp [*, errW_none, errW_some] <;> rfl), hb_⟩
end Go.Proofs.Ytckhjehibjdjdaa.P
namespace Go.Proofs.Ytckhjehibjdjdaa.P
open Go.RowKit Go.Proofs.YtckhjehibjdjdaaW.PrintWords Go.Proofs.YtckhjehibjdjdaaW.PrintLast Go.Proofs.YtckhjehibjdjdaaW.PrintMore
attribute [local go_sem] max2_int min2_int max_two min_two max_three min_three max_four min_four
set_option linter.unusedVariables false
set_option linter.unusedSimpArgs false
def ensembleref05_Right.l0 : Nat → List (S51) → Int → Option (Bool)
 | 0, _, _ => none
 | k + 1, x0, x3 => if x3 < (x0.length : Int) then (if 0 ≤ x3 then (if ((rd_T51 x0 x3).f2) < 0 then (some false) else (if ((rd_T51 x0 x3).f2) > 1048576 then (some false) else (if x3 ≤ (x0.length : Int) then ((ensembleref05_find.f k (x0.take (x3 : Int).toNat) ((rd_T51 x0 x3).f0.f0) ((rd_T51 x0 x3).f0.f1)).bind fun t127 => (if t127 ≥ 0 then (some false) else (ensembleref05_Right.l0 k x0 (wrap64 (x3 + 1))))) else (none)))) else (none)) else (some true)
def ensembleref05_Right.f (k : Nat) (l0 : List (S51)) : Option (Bool) := ensembleref05_Right.l0 k l0 0
def ensembleref05_Right.T4 : Bool × List (List Nat × List Nat) := (true, [([], []), ([], []), ([0, 1], [0, 1]), ([2], [2]), ([3], [3]), ([4], [4]), ([5], [5]), ([6], [6]), ([6], [6]), ([7, 8, 6], [6, 7, 8]), ([9, 6], [6, 9]), ([10, 6], [6, 10]), ([11, 6], [6, 11]), ([6, 12], [6, 12]), ([13, 6], [13]), ([14], [14]), ([14], [14]), ([15, 16, 14], [14, 15, 16]), ([14], [14]), ([14], [14]), ([18, 19, 14], [14, 18, 19]), ([20, 14], [14, 20]), ([21, 14], [14, 21]), ([17, 22, 14, 14], [14, 17, 22]), ([23, 14], [14, 23]), ([14, 24], [14, 24])])
def ensembleref05_Right.B4 : List Nat := [0, 0, 3, 7, 15, 31, 63, 127, 127, 511, 1023, 2047, 4095, 8191, 16383, 32767, 32767, 131071, 32767, 32767, 819199, 1867775, 3964927, 8388607, 16777215, 33554431]
theorem ensembleref05_Right.tab4 : rtab .any (opsOf Try.f67 4) = ensembleref05_Right.T4 := by kernel_rfl
theorem ensembleref05_Right.bits4 : waitsOk ensembleref05_Right.T4.2 ensembleref05_Right.B4 = true := by kernel_rfl
set_option maxHeartbeats 8000000 in
set_option maxRecDepth 100000 in
theorem ensembleref05_Right.calls (k : Nat) (A0 : Option Addr) (c0 : Nat) (l0 : List (S51)) (r : Bool) (w : World) (hr0 : Kd.C k51 w A0 l0.length l0) (hc0 : l0.length ≤ c0) (h : ensembleref05_Right.f k l0 = some r) :
  Calls Try.prog 67 #[.slice A0 l0.length c0] w fun e w' => e = .returned (.bool r) ∧ Below w.heap.size w w' := by
 have hu48 := Try.underlying48
 have HR0 := Aside0.mk hr0
 have HC0 := Aside0.mk hc0
 clear hr0 hc0
 have HB := Aside0.mk (Below.refl w.heap.size w)
 have H : (ensembleref05_Right.l0 k l0 0) = some r := h
 clear h
 have H' := Aside0.mk H
 clear H
 go_enter Try.func67, Try.ntmps67
 go_wp2
 go_loopg [3] k (fun kq v3 w' => ∃ (x3_1 : Int), v3 = .int .i64 x3_1 ∧ Aside0 (ensembleref05_Right.l0 kq l0 x3_1 = some r) ∧ Aside0 (kq ≤ k) ∧ Aside0 (Below w.heap.size w w'))
 case atStart => exact ⟨(0), Z1, H', ⟨Nat.le_refl _⟩, ⟨hb_⟩⟩
 case round =>
  clear H'
  obtain ⟨x3_1, rfl, HA, HK1, HB⟩ := hrel
  cases gk with
  | zero => exact absurd HA.out (by simp [ensembleref05_Right.l0])
  | succ k1 =>
   have H := HA.out
   clear HA
   simp only [ensembleref05_Right.l0] at H
   by_cases c2 : x3_1 < (l0.length : Int)
   ·rw [if_pos c2] at H
    have c2b0 : decide (x3_1 < (l0.length : Int)) = true := decide_eq_true c2
    clear c2
    by_cases c3 : 0 ≤ x3_1
    ·rw [if_pos c3] at H
     have c3b0 : decide (0 ≤ x3_1) = true := decide_eq_true c3
     clear c3
     by_cases c4 : ((rd_T51 l0 x3_1).f2) < 0
     ·rw [if_pos c4] at H
      have c4b0 : decide (((rd_T51 l0 x3_1).f2) < 0) = true := decide_eq_true c4
      clear c4
      obtain rfl := Option.some.inj H
      try go_wp2
      replace HB := Aside0.mk (below_drew1 HB.out)
      have p120 : 0 ≤ (x3_1 : Int) := of_decide_eq_true Z2
      have q120 : x3_1 < (l0.length : Int) := of_decide_eq_true Z2
      obtain ⟨ad120, e120, hx120_0, hx120_1, hx120_2, hx120_3⟩ := at_T51 HR0.out x3_1 p120 q120
      have hw120_3 := hx120_3
      have hw120_2 := hx120_2
      have hw120_1 := hx120_1
      have hw120_0 := hx120_0
      cases e120
      replace hx120_0 := cx_ hx120_0
      replace hx120_1 := cx_ hx120_1
      replace hx120_2 := cx_ hx120_2
      replace hx120_3 := cx_ hx120_3
      replace p120 := eq_true p120
      replace q120 := eq_true q120
      refine start_ (n := 26) (S := fun w' => w'.cell? (ad120.add ((x3_1).toNat * 4)) = some (.int .i64 ((rd_T51 l0 x3_1).f0.f0)) ∧ w'.cell? ⟨(ad120.add ((x3_1).toNat * 4)).block, (ad120.add ((x3_1).toNat * 4)).off + 1, none⟩ = some (.int .i64 ((rd_T51 l0 x3_1).f0.f1)) ∧ w'.cell? ⟨(ad120.add ((x3_1).toNat * 4)).block, (ad120.add ((x3_1).toNat * 4)).off + 2, none⟩ = some (.int .u64 ((rd_T51 l0 x3_1).f1)) ∧ w'.cell? ⟨(ad120.add ((x3_1).toNat * 4)).block, (ad120.add ((x3_1).toNat * 4)).off + 3, none⟩ = some (.int .i64 ((rd_T51 l0 x3_1).f2))) (ds := []) (bm 26 0) (by kernel_rfl) rfl rfl ⟨((HB.out.cell (World.block_lt_of_cell? w _ hw120_0)).trans hw120_0), ((HB.out.cell (World.block_lt_of_cell? w _ hw120_1)).trans hw120_1), ((HB.out.cell (World.block_lt_of_cell? w _ hw120_2)).trans hw120_2), ((HB.out.cell (World.block_lt_of_cell? w _ hw120_3)).trans hw120_3)⟩ (fun hHeld => ?_); refine with_tabW ensembleref05_Right.tab4 ensembleref05_Right.bits4 (fun HT_ HW_ => ?_)
      generalize wr.drew = w5 at HB hx120_0 hx120_1 hx120_2 hx120_3 hHeld ⊢
      refine pu 0 (some 10) (bm 26 1) ?_
      refine pu 1 (some 11) (bm 26 3) ?_
      refine pu 2 (some 12) (bm 26 7) ?_
      refine pu 3 (some 13) (bm 26 15) ?_
      refine tk4 4 (some 14) (bm 26 31) ?_
      refine pu 5 (some 15) (bm 26 63) ?_
      refine pu 6 (some 16) (bm 26 127) ?_
      refine pv 7 (some 17) (bm 26 255) ?_
      refine pv 8 (some 18) (bm 26 511) ?_
      refine pv 9 (some 19) (bm 26 1023) ?_
      refine pv 10 (some 20) (bm 26 2047) ?_
      refine pv 11 (some 21) (bm 26 4095) ?_
      refine pv 12 (some 22) (bm 26 8191) ?_
      refine pu 13 (some 23) (bm 26 16383) ?_
      refine pu 14 (some 24) (bm 26 32767) ?_
      refine pv 15 (some 25) (bm 26 65535) ?_
      refine pv 16 (some 26) (bm 26 131071) ?_
      refine pv 17 (some 27) (bm 26 262143) ?_
      refine pv 18 (some 28) (bm 26 524287) ?_
      refine pv 19 (some 29) (bm 26 1048575) ?_
      refine pv 20 (some 30) (bm 26 2097151) ?_
      refine pv 21 (some 31) (bm 26 4194303) ?_
      refine pv 22 (some 32) (bm 26 8388607) ?_
      refine pv 23 (some 33) (bm 26 16777215) ?_
      refine pv 24 (some 34) (bm 26 33554431) ?_
      refine pu 25 (some 35) (bm 26 67108863) ?_
      refine done_ (done_of HT_.out (by kernel_rfl)) ?_
      try go_wp2
      go_ret
      exact ⟨by first | rfl | (simp [errW_none, errW_some] <;> rfl) | (simp [*, errW_none, errW_some] <;> rfl), hb_⟩
     ·rw [if_neg c4] at H
      have c4b0 : decide (((rd_T51 l0 x3_1).f2) < 0) = false := decide_eq_false c4
      clear c4
      by_cases c6 : ((rd_T51 l0 x3_1).f2) > 1048576
      ·rw [if_pos c6] at H
       have c6b0 : decide (1048576 < ((rd_T51 l0 x3_1).f2)) = true := decide_eq_true c6
       clear c6
       obtain rfl := Option.some.inj H
       try go_wp2
       replace HB := Aside0.mk (below_drew1 HB.out)
       have p120 : 0 ≤ (x3_1 : Int) := of_decide_eq_true Z2
       have q120 : x3_1 < (l0.length : Int) := of_decide_eq_true Z2
       obtain ⟨ad120, e120, hx120_0, hx120_1, hx120_2, hx120_3⟩ := at_T51 HR0.out x3_1 p120 q120
       have hw120_3 := hx120_3
       have hw120_2 := hx120_2
       have hw120_1 := hx120_1
       have hw120_0 := hx120_0
       cases e120
       replace hx120_0 := cx_ hx120_0
       replace hx120_1 := cx_ hx120_1
       replace hx120_2 := cx_ hx120_2
       replace hx120_3 := cx_ hx120_3
       replace p120 := eq_true p120
       replace q120 := eq_true q120
       have p121 : 0 ≤ (x3_1 : Int) := of_decide_eq_true Z2
       have q121 : x3_1 < (l0.length : Int) := of_decide_eq_true Z2
       obtain ⟨ad121, e121, hx121_0, hx121_1, hx121_2, hx121_3⟩ := at_T51 HR0.out x3_1 p121 q121
       have hw121_3 := hx121_3
       have hw121_2 := hx121_2
       have hw121_1 := hx121_1
       have hw121_0 := hx121_0
       obtain rfl : ad120 = ad121 := (by injection e121)
       replace hx121_0 := cx_ hx121_0
       replace hx121_1 := cx_ hx121_1
       replace hx121_2 := cx_ hx121_2
       replace hx121_3 := cx_ hx121_3
       replace p121 := eq_true p121
       replace q121 := eq_true q121
       refine start_ (n := 26) (S := fun w' => w'.cell? (ad120.add ((x3_1).toNat * 4)) = some (.int .i64 ((rd_T51 l0 x3_1).f0.f0)) ∧ w'.cell? ⟨(ad120.add ((x3_1).toNat * 4)).block, (ad120.add ((x3_1).toNat * 4)).off + 1, none⟩ = some (.int .i64 ((rd_T51 l0 x3_1).f0.f1)) ∧ w'.cell? ⟨(ad120.add ((x3_1).toNat * 4)).block, (ad120.add ((x3_1).toNat * 4)).off + 2, none⟩ = some (.int .u64 ((rd_T51 l0 x3_1).f1)) ∧ w'.cell? ⟨(ad120.add ((x3_1).toNat * 4)).block, (ad120.add ((x3_1).toNat * 4)).off + 3, none⟩ = some (.int .i64 ((rd_T51 l0 x3_1).f2)) ∧ w'.cell? (ad120.add ((x3_1).toNat * 4)) = some (.int .i64 ((rd_T51 l0 x3_1).f0.f0)) ∧ w'.cell? ⟨(ad120.add ((x3_1).toNat * 4)).block, (ad120.add ((x3_1).toNat * 4)).off + 1, none⟩ = some (.int .i64 ((rd_T51 l0 x3_1).f0.f1)) ∧ w'.cell? ⟨(ad120.add ((x3_1).toNat * 4)).block, (ad120.add ((x3_1).toNat * 4)).off + 2, none⟩ = some (.int .u64 ((rd_T51 l0 x3_1).f1)) ∧ w'.cell? ⟨(ad120.add ((x3_1).toNat * 4)).block, (ad120.add ((x3_1).toNat * 4)).off + 3, none⟩ = some (.int .i64 ((rd_T51 l0 x3_1).f2))) (ds := []) (bm 26 0) (by kernel_rfl) rfl rfl ⟨((HB.out.cell (World.block_lt_of_cell? w _ hw120_0)).trans hw120_0), ((HB.out.cell (World.block_lt_of_cell? w _ hw120_1)).trans hw120_1), ((HB.out.cell (World.block_lt_of_cell? w _ hw120_2)).trans hw120_2), ((HB.out.cell (World.block_lt_of_cell? w _ hw120_3)).trans hw120_3), ((HB.out.cell (World.block_lt_of_cell? w _ hw121_0)).trans hw121_0), ((HB.out.cell (World.block_lt_of_cell? w _ hw121_1)).trans hw121_1), ((HB.out.cell (World.block_lt_of_cell? w _ hw121_2)).trans hw121_2), ((HB.out.cell (World.block_lt_of_cell? w _ hw121_3)).trans hw121_3)⟩ (fun hHeld => ?_); refine with_tabW ensembleref05_Right.tab4 ensembleref05_Right.bits4 (fun HT_ HW_ => ?_)
       generalize wr.drew = w7 at HB hx120_0 hx120_1 hx120_2 hx120_3 hx121_0 hx121_1 hx121_2 hx121_3 hHeld ⊢
       refine pu 0 (some 10) (bm 26 1) ?_
       refine pu 1 (some 11) (bm 26 3) ?_
       refine pu 2 (some 12) (bm 26 7) ?_
       refine pu 3 (some 13) (bm 26 15) ?_
       refine tk8 4 (some 14) (bm 26 31) ?_
       refine pu 5 (some 15) (bm 26 63) ?_
       refine pu 6 (some 16) (bm 26 127) ?_
       refine pu 7 (some 17) (bm 26 255) ?_
       refine pu 8 (some 18) (bm 26 511) ?_
       refine pu 9 (some 19) (bm 26 1023) ?_
       refine pu 10 (some 20) (bm 26 2047) ?_
       refine tk8 11 (some 21) (bm 26 4095) ?_
       refine pu 12 (some 22) (bm 26 8191) ?_
       refine pu 13 (some 23) (bm 26 16383) ?_
       refine pu 14 (some 24) (bm 26 32767) ?_
       refine pv 15 (some 25) (bm 26 65535) ?_
       refine pv 16 (some 26) (bm 26 131071) ?_
       refine pv 17 (some 27) (bm 26 262143) ?_
       refine pv 18 (some 28) (bm 26 524287) ?_
       refine pv 19 (some 29) (bm 26 1048575) ?_
       refine pv 20 (some 30) (bm 26 2097151) ?_
       refine pv 21 (some 31) (bm 26 4194303) ?_
       refine pv 22 (some 32) (bm 26 8388607) ?_
       refine pv 23 (some 33) (bm 26 16777215) ?_
       refine pv 24 (some 34) (bm 26 33554431) ?_
       refine pu 25 (some 35) (bm 26 67108863) ?_
       refine done_ (done_of HT_.out (by kernel_rfl)) ?_
       try go_wp2
       go_ret
       exact ⟨by first | rfl | (simp [errW_none, errW_some] <;> rfl) | (simp [*, errW_none, errW_some] <;> rfl), hb_⟩
      ·rw [if_neg c6] at H
       have c6b0 : decide (1048576 < ((rd_T51 l0 x3_1).f2)) = false := decide_eq_false c6
       clear c6
       have c8b0 := eq_true (of_decide_eq_true Z2 : 0 ≤ x3_1)
       by_cases c9 : x3_1 ≤ (l0.length : Int)
       ·rw [if_pos c9] at H
        have c9b0 := eq_true c9
        have c9b1 : decide (x3_1 ≤ (l0.length : Int)) = true := decide_eq_true c9
        clear c9
        obtain ⟨y122, hy122⟩ : ∃ y_ : List (S51), y_ = (l0.take (x3_1 : Int).toNat) := ⟨_, rfl⟩
        replace H : ((ensembleref05_find.f k1 y122 ((rd_T51 l0 x3_1).f0.f0) ((rd_T51 l0 x3_1).f0.f1)).bind fun t127 => (if t127 ≥ 0 then (some false) else (ensembleref05_Right.l0 k1 l0 (wrap64 (x3_1 + 1))))) = some r := by first | (rw [hy122]; with_reducible exact H) | (have H2_ := (Option.bind_some _ _).symm.trans H; rw [hy122]; with_reducible exact H2_) | (have H2_ := (Option.bind_some _ _).symm.trans H; with_reducible exact H2_) | with_reducible exact H | (rw [hy122]; exact H) | exact H
        have Ny122 := Aside0.mk hy122
        clear hy122
        replace H := Option.bind_eq_some_iff.mp H
        obtain ⟨t127, A100, H⟩ := H
        replace H : (if t127 ≥ 0 then (some false) else (ensembleref05_Right.l0 k1 l0 (wrap64 (x3_1 + 1)))) = some r := H
        have A10 := Aside0.mk A100
        clear A100
        by_cases c11 : t127 ≥ 0
        ·rw [if_pos c11] at H
         have c11b0 : decide (0 ≤ t127) = true := decide_eq_true c11
         clear c11
         obtain rfl := Option.some.inj H
         try go_wp2
         replace HB := Aside0.mk (below_drew1 HB.out)
         have p120 : 0 ≤ (x3_1 : Int) := of_decide_eq_true Z2
         have q120 : x3_1 < (l0.length : Int) := of_decide_eq_true Z2
         obtain ⟨ad120, e120, hx120_0, hx120_1, hx120_2, hx120_3⟩ := at_T51 HR0.out x3_1 p120 q120
         have hw120_3 := hx120_3
         have hw120_2 := hx120_2
         have hw120_1 := hx120_1
         have hw120_0 := hx120_0
         cases e120
         replace hx120_0 := cx_ hx120_0
         replace hx120_1 := cx_ hx120_1
         replace hx120_2 := cx_ hx120_2
         replace hx120_3 := cx_ hx120_3
         replace p120 := eq_true p120
         replace q120 := eq_true q120
         have p121 : 0 ≤ (x3_1 : Int) := of_decide_eq_true Z2
         have q121 : x3_1 < (l0.length : Int) := of_decide_eq_true Z2
         obtain ⟨ad121, e121, hx121_0, hx121_1, hx121_2, hx121_3⟩ := at_T51 HR0.out x3_1 p121 q121
         have hw121_3 := hx121_3
         have hw121_2 := hx121_2
         have hw121_1 := hx121_1
         have hw121_0 := hx121_0
         obtain rfl : ad120 = ad121 := (by injection e121)
         replace hx121_0 := cx_ hx121_0
         replace hx121_1 := cx_ hx121_1
         replace hx121_2 := cx_ hx121_2
         replace hx121_3 := cx_ hx121_3
         replace p121 := eq_true p121
         replace q121 := eq_true q121
         have q13 : (x3_1 : Int) ≤ ((l0.length : Int) : Int) := of_decide_eq_true Z2
         obtain ⟨i013, hi013, _, hsz13, _⟩ := info_parts info51
         have hroom13 : l0.length ≤ c0 := HC0.out
         have hC13 : Kd.C k51 _ (some ad120) l0.length l0 := HR0.out
         have hcut13 := cut_to (P := Try.prog) 22 51 .i64 Try.underlying22 hi013 (some ad120) l0.length c0 x3_1 (of_decide_eq_true Z2) q13 hroom13
         have hr13 := Kd.C_take (m := (x3_1 : Int).toNat) hC13 (by omega)
         have hy13 : y122.length = (x3_1 : Int).toNat := (by rw [Ny122.out, List.length_take]; omega)
         rw [← Ny122.out] at hr13
         rw [← hy13] at hcut13
         have HR125 := Aside0.mk hr13
         have HC125 := Aside0.mk (show y122.length ≤ c0 from by omega)
         clear hr13 hC13 hroom13 hi013 hsz13
         have KY13 := Aside0.mk hy13
         clear hy13
         replace q13 := eq_true q13
         have p126 : 0 ≤ (x3_1 : Int) := of_decide_eq_true Z2
         have q126 : x3_1 < (l0.length : Int) := of_decide_eq_true Z2
         obtain ⟨ad126, e126, hx126_0, hx126_1, hx126_2, hx126_3⟩ := at_T51 HR0.out x3_1 p126 q126
         have hw126_3 := hx126_3
         have hw126_2 := hx126_2
         have hw126_1 := hx126_1
         have hw126_0 := hx126_0
         obtain rfl : ad120 = ad126 := (by injection e126)
         replace hx126_0 := cx_ hx126_0
         replace hx126_1 := cx_ hx126_1
         replace hx126_2 := cx_ hx126_2
         replace hx126_3 := cx_ hx126_3
         replace p126 := eq_true p126
         replace q126 := eq_true q126
         refine start_ (n := 26) (S := fun w' => w'.cell? (ad120.add ((x3_1).toNat * 4)) = some (.int .i64 ((rd_T51 l0 x3_1).f0.f0)) ∧ w'.cell? ⟨(ad120.add ((x3_1).toNat * 4)).block, (ad120.add ((x3_1).toNat * 4)).off + 1, none⟩ = some (.int .i64 ((rd_T51 l0 x3_1).f0.f1)) ∧ w'.cell? ⟨(ad120.add ((x3_1).toNat * 4)).block, (ad120.add ((x3_1).toNat * 4)).off + 2, none⟩ = some (.int .u64 ((rd_T51 l0 x3_1).f1)) ∧ w'.cell? ⟨(ad120.add ((x3_1).toNat * 4)).block, (ad120.add ((x3_1).toNat * 4)).off + 3, none⟩ = some (.int .i64 ((rd_T51 l0 x3_1).f2)) ∧ w'.cell? (ad120.add ((x3_1).toNat * 4)) = some (.int .i64 ((rd_T51 l0 x3_1).f0.f0)) ∧ w'.cell? ⟨(ad120.add ((x3_1).toNat * 4)).block, (ad120.add ((x3_1).toNat * 4)).off + 1, none⟩ = some (.int .i64 ((rd_T51 l0 x3_1).f0.f1)) ∧ w'.cell? ⟨(ad120.add ((x3_1).toNat * 4)).block, (ad120.add ((x3_1).toNat * 4)).off + 2, none⟩ = some (.int .u64 ((rd_T51 l0 x3_1).f1)) ∧ w'.cell? ⟨(ad120.add ((x3_1).toNat * 4)).block, (ad120.add ((x3_1).toNat * 4)).off + 3, none⟩ = some (.int .i64 ((rd_T51 l0 x3_1).f2)) ∧ w'.cell? (ad120.add ((x3_1).toNat * 4)) = some (.int .i64 ((rd_T51 l0 x3_1).f0.f0)) ∧ w'.cell? ⟨(ad120.add ((x3_1).toNat * 4)).block, (ad120.add ((x3_1).toNat * 4)).off + 1, none⟩ = some (.int .i64 ((rd_T51 l0 x3_1).f0.f1)) ∧ w'.cell? ⟨(ad120.add ((x3_1).toNat * 4)).block, (ad120.add ((x3_1).toNat * 4)).off + 2, none⟩ = some (.int .u64 ((rd_T51 l0 x3_1).f1)) ∧ w'.cell? ⟨(ad120.add ((x3_1).toNat * 4)).block, (ad120.add ((x3_1).toNat * 4)).off + 3, none⟩ = some (.int .i64 ((rd_T51 l0 x3_1).f2))) (ds := []) (bm 26 0) (by kernel_rfl) rfl rfl ⟨((HB.out.cell (World.block_lt_of_cell? w _ hw120_0)).trans hw120_0), ((HB.out.cell (World.block_lt_of_cell? w _ hw120_1)).trans hw120_1), ((HB.out.cell (World.block_lt_of_cell? w _ hw120_2)).trans hw120_2), ((HB.out.cell (World.block_lt_of_cell? w _ hw120_3)).trans hw120_3), ((HB.out.cell (World.block_lt_of_cell? w _ hw121_0)).trans hw121_0), ((HB.out.cell (World.block_lt_of_cell? w _ hw121_1)).trans hw121_1), ((HB.out.cell (World.block_lt_of_cell? w _ hw121_2)).trans hw121_2), ((HB.out.cell (World.block_lt_of_cell? w _ hw121_3)).trans hw121_3), ((HB.out.cell (World.block_lt_of_cell? w _ hw126_0)).trans hw126_0), ((HB.out.cell (World.block_lt_of_cell? w _ hw126_1)).trans hw126_1), ((HB.out.cell (World.block_lt_of_cell? w _ hw126_2)).trans hw126_2), ((HB.out.cell (World.block_lt_of_cell? w _ hw126_3)).trans hw126_3)⟩ (fun hHeld => ?_); refine with_tabW ensembleref05_Right.tab4 ensembleref05_Right.bits4 (fun HT_ HW_ => ?_)
         generalize wr.drew = w12 at HB HR125 hx120_0 hx120_1 hx120_2 hx120_3 hx121_0 hx121_1 hx121_2 hx121_3 hx126_0 hx126_1 hx126_2 hx126_3 hHeld ⊢
         refine pu 0 (some 10) (bm 26 1) ?_
         refine pu 1 (some 11) (bm 26 3) ?_
         refine pu 2 (some 12) (bm 26 7) ?_
         refine pu 3 (some 13) (bm 26 15) ?_
         refine tk12 4 (some 14) (bm 26 31) ?_
         refine pu 5 (some 15) (bm 26 63) ?_
         refine pu 6 (some 16) (bm 26 127) ?_
         refine pu 7 (some 17) (bm 26 255) ?_
         refine pu 8 (some 18) (bm 26 511) ?_
         refine pu 9 (some 19) (bm 26 1023) ?_
         refine pu 10 (some 20) (bm 26 2047) ?_
         refine tk12 11 (some 21) (bm 26 4095) ?_
         refine pu 12 (some 22) (bm 26 8191) ?_
         refine pu 13 (some 23) (bm 26 16383) ?_
         refine pu 14 (some 24) (bm 26 32767) ?_
         refine pu 15 (some 25) (bm 26 65535) ?_
         refine pu 16 (some 26) (bm 26 131071) ?_
         refine pu 17 (some 27) (bm 26 262143) ?_
         refine pu 18 (some 28) (bm 26 524287) ?_
         refine pu 19 (some 29) (bm 26 1048575) ?_
         refine pu 20 (some 30) (bm 26 2097151) ?_
         refine pu 21 (some 31) (bm 26 4194303) ?_
         refine tk12 22 (some 32) (bm 26 8388607) ?_
         refine one_ (i := 23) (N := some 33) (bm 26 16777215) rfl rfl (one_of HT_.out (by kernel_rfl)) (by decide) (fun K hK => ?_)
         refine goes_ Try.func79 (by kernel_rfl) rfl #[.slice (some ad120) y122.length c0, .agg #[.int .i64 ((rd_T51 l0 x3_1).f0.f0), .int .i64 ((rd_T51 l0 x3_1).f0.f1)]] (by rfl) rfl rfl Z0 ?_
         with_reducible refine (ensembleref05_find.calls k1 _ _ y122 ((rd_T51 l0 x3_1).f0.f0) ((rd_T51 l0 x3_1).f0.f1) t127 _ ?side1 ?side2 A10.out).mono ?_
         (case side1 => exact cs_ HR125)
         (case side2 => exact HC125.out)
         rintro e w14 ⟨rfl, hb⟩
         refine ⟨_, rfl, ?_⟩
         replace HB := hs_ hb
         (try clear hb)
         (try clear hb2)
         (try clear hk)
         (try clear hi)
         refine hK.out _ _ ⟨((HB.out.cell (World.block_lt_of_cell? w _ hw120_0)).trans hw120_0), ((HB.out.cell (World.block_lt_of_cell? w _ hw120_1)).trans hw120_1), ((HB.out.cell (World.block_lt_of_cell? w _ hw120_2)).trans hw120_2), ((HB.out.cell (World.block_lt_of_cell? w _ hw120_3)).trans hw120_3), ((HB.out.cell (World.block_lt_of_cell? w _ hw121_0)).trans hw121_0), ((HB.out.cell (World.block_lt_of_cell? w _ hw121_1)).trans hw121_1), ((HB.out.cell (World.block_lt_of_cell? w _ hw121_2)).trans hw121_2), ((HB.out.cell (World.block_lt_of_cell? w _ hw121_3)).trans hw121_3), ((HB.out.cell (World.block_lt_of_cell? w _ hw126_0)).trans hw126_0), ((HB.out.cell (World.block_lt_of_cell? w _ hw126_1)).trans hw126_1), ((HB.out.cell (World.block_lt_of_cell? w _ hw126_2)).trans hw126_2), ((HB.out.cell (World.block_lt_of_cell? w _ hw126_3)).trans hw126_3)⟩ (fun hHeld => ?_)
         clear hK K
         refine norm_ (a' := ?_) ?_ ?_
         rotate_left
         ·show Act.put _ (some 33) _ = _
          simp only [Act.put, List.setIfInBounds_toArray, List.set_cons_zero, List.set_cons_succ, i64_w, i32_w]
          rfl
         refine pu 24 (some 34) (bm 26 33554431) ?_
         refine pu 25 (some 35) (bm 26 67108863) ?_
         refine done_ (done_of HT_.out (by kernel_rfl)) ?_
         try go_wp2
         go_ret
         exact ⟨by first | rfl | (simp [errW_none, errW_some] <;> rfl) | (simp [*, errW_none, errW_some] <;> rfl), hb_⟩
        ·rw [if_neg c11] at H
         have c11b0 : decide (0 ≤ t127) = false := decide_eq_false c11
         clear c11
         have H' := Aside0.mk H
         clear H
         try go_wp2
         replace HB := Aside0.mk (below_drew1 HB.out)
         have p120 : 0 ≤ (x3_1 : Int) := of_decide_eq_true Z2
         have q120 : x3_1 < (l0.length : Int) := of_decide_eq_true Z2
         obtain ⟨ad120, e120, hx120_0, hx120_1, hx120_2, hx120_3⟩ := at_T51 HR0.out x3_1 p120 q120
         have hw120_3 := hx120_3
         have hw120_2 := hx120_2
         have hw120_1 := hx120_1
         have hw120_0 := hx120_0
         cases e120
         replace hx120_0 := cx_ hx120_0
         replace hx120_1 := cx_ hx120_1
         replace hx120_2 := cx_ hx120_2
         replace hx120_3 := cx_ hx120_3
         replace p120 := eq_true p120
         replace q120 := eq_true q120
         have p121 : 0 ≤ (x3_1 : Int) := of_decide_eq_true Z2
         have q121 : x3_1 < (l0.length : Int) := of_decide_eq_true Z2
         obtain ⟨ad121, e121, hx121_0, hx121_1, hx121_2, hx121_3⟩ := at_T51 HR0.out x3_1 p121 q121
         have hw121_3 := hx121_3
         have hw121_2 := hx121_2
         have hw121_1 := hx121_1
         have hw121_0 := hx121_0
         obtain rfl : ad120 = ad121 := (by injection e121)
         replace hx121_0 := cx_ hx121_0
         replace hx121_1 := cx_ hx121_1
         replace hx121_2 := cx_ hx121_2
         replace hx121_3 := cx_ hx121_3
         replace p121 := eq_true p121
         replace q121 := eq_true q121
         have q16 : (x3_1 : Int) ≤ ((l0.length : Int) : Int) := of_decide_eq_true Z2
         obtain ⟨i016, hi016, _, hsz16, _⟩ := info_parts info51
         have hroom16 : l0.length ≤ c0 := HC0.out
         have hC16 : Kd.C k51 _ (some ad120) l0.length l0 := HR0.out
         have hcut16 := cut_to (P := Try.prog) 22 51 .i64 Try.underlying22 hi016 (some ad120) l0.length c0 x3_1 (of_decide_eq_true Z2) q16 hroom16
         have hr16 := Kd.C_take (m := (x3_1 : Int).toNat) hC16 (by omega)
         have hy16 : y122.length = (x3_1 : Int).toNat := (by rw [Ny122.out, List.length_take]; omega)
         rw [← Ny122.out] at hr16
         rw [← hy16] at hcut16
         have HR125 := Aside0.mk hr16
         have HC125 := Aside0.mk (show y122.length ≤ c0 from by omega)
         clear hr16 hC16 hroom16 hi016 hsz16
         have KY16 := Aside0.mk hy16
         clear hy16
         replace q16 := eq_true q16
         have p126 : 0 ≤ (x3_1 : Int) := of_decide_eq_true Z2
         have q126 : x3_1 < (l0.length : Int) := of_decide_eq_true Z2
         obtain ⟨ad126, e126, hx126_0, hx126_1, hx126_2, hx126_3⟩ := at_T51 HR0.out x3_1 p126 q126
         have hw126_3 := hx126_3
         have hw126_2 := hx126_2
         have hw126_1 := hx126_1
         have hw126_0 := hx126_0
         obtain rfl : ad120 = ad126 := (by injection e126)
         replace hx126_0 := cx_ hx126_0
         replace hx126_1 := cx_ hx126_1
         replace hx126_2 := cx_ hx126_2
         replace hx126_3 := cx_ hx126_3
         replace p126 := eq_true p126
         replace q126 := eq_true q126
         refine start_ (n := 26) (S := fun w' => w'.cell? (ad120.add ((x3_1).toNat * 4)) = some (.int .i64 ((rd_T51 l0 x3_1).f0.f0)) ∧ w'.cell? ⟨(ad120.add ((x3_1).toNat * 4)).block, (ad120.add ((x3_1).toNat * 4)).off + 1, none⟩ = some (.int .i64 ((rd_T51 l0 x3_1).f0.f1)) ∧ w'.cell? ⟨(ad120.add ((x3_1).toNat * 4)).block, (ad120.add ((x3_1).toNat * 4)).off + 2, none⟩ = some (.int .u64 ((rd_T51 l0 x3_1).f1)) ∧ w'.cell? ⟨(ad120.add ((x3_1).toNat * 4)).block, (ad120.add ((x3_1).toNat * 4)).off + 3, none⟩ = some (.int .i64 ((rd_T51 l0 x3_1).f2)) ∧ w'.cell? (ad120.add ((x3_1).toNat * 4)) = some (.int .i64 ((rd_T51 l0 x3_1).f0.f0)) ∧ w'.cell? ⟨(ad120.add ((x3_1).toNat * 4)).block, (ad120.add ((x3_1).toNat * 4)).off + 1, none⟩ = some (.int .i64 ((rd_T51 l0 x3_1).f0.f1)) ∧ w'.cell? ⟨(ad120.add ((x3_1).toNat * 4)).block, (ad120.add ((x3_1).toNat * 4)).off + 2, none⟩ = some (.int .u64 ((rd_T51 l0 x3_1).f1)) ∧ w'.cell? ⟨(ad120.add ((x3_1).toNat * 4)).block, (ad120.add ((x3_1).toNat * 4)).off + 3, none⟩ = some (.int .i64 ((rd_T51 l0 x3_1).f2)) ∧ w'.cell? (ad120.add ((x3_1).toNat * 4)) = some (.int .i64 ((rd_T51 l0 x3_1).f0.f0)) ∧ w'.cell? ⟨(ad120.add ((x3_1).toNat * 4)).block, (ad120.add ((x3_1).toNat * 4)).off + 1, none⟩ = some (.int .i64 ((rd_T51 l0 x3_1).f0.f1)) ∧ w'.cell? ⟨(ad120.add ((x3_1).toNat * 4)).block, (ad120.add ((x3_1).toNat * 4)).off + 2, none⟩ = some (.int .u64 ((rd_T51 l0 x3_1).f1)) ∧ w'.cell? ⟨(ad120.add ((x3_1).toNat * 4)).block, (ad120.add ((x3_1).toNat * 4)).off + 3, none⟩ = some (.int .i64 ((rd_T51 l0 x3_1).f2))) (ds := []) (bm 26 0) (by kernel_rfl) rfl rfl ⟨((HB.out.cell (World.block_lt_of_cell? w _ hw120_0)).trans hw120_0), ((HB.out.cell (World.block_lt_of_cell? w _ hw120_1)).trans hw120_1), ((HB.out.cell (World.block_lt_of_cell? w _ hw120_2)).trans hw120_2), ((HB.out.cell (World.block_lt_of_cell? w _ hw120_3)).trans hw120_3), ((HB.out.cell (World.block_lt_of_cell? w _ hw121_0)).trans hw121_0), ((HB.out.cell (World.block_lt_of_cell? w _ hw121_1)).trans hw121_1), ((HB.out.cell (World.block_lt_of_cell? w _ hw121_2)).trans hw121_2), ((HB.out.cell (World.block_lt_of_cell? w _ hw121_3)).trans hw121_3), ((HB.out.cell (World.block_lt_of_cell? w _ hw126_0)).trans hw126_0), ((HB.out.cell (World.block_lt_of_cell? w _ hw126_1)).trans hw126_1), ((HB.out.cell (World.block_lt_of_cell? w _ hw126_2)).trans hw126_2), ((HB.out.cell (World.block_lt_of_cell? w _ hw126_3)).trans hw126_3)⟩ (fun hHeld => ?_); refine with_tabW ensembleref05_Right.tab4 ensembleref05_Right.bits4 (fun HT_ HW_ => ?_)
         generalize wr.drew = w15 at HB HR125 hx120_0 hx120_1 hx120_2 hx120_3 hx121_0 hx121_1 hx121_2 hx121_3 hx126_0 hx126_1 hx126_2 hx126_3 hHeld ⊢
         refine pu 0 (some 10) (bm 26 1) ?_
         refine pu 1 (some 11) (bm 26 3) ?_
         refine pu 2 (some 12) (bm 26 7) ?_
         refine pu 3 (some 13) (bm 26 15) ?_
         refine tk12 4 (some 14) (bm 26 31) ?_
         refine pu 5 (some 15) (bm 26 63) ?_
         refine pu 6 (some 16) (bm 26 127) ?_
         refine pu 7 (some 17) (bm 26 255) ?_
         refine pu 8 (some 18) (bm 26 511) ?_
         refine pu 9 (some 19) (bm 26 1023) ?_
         refine pu 10 (some 20) (bm 26 2047) ?_
         refine tk12 11 (some 21) (bm 26 4095) ?_
         refine pu 12 (some 22) (bm 26 8191) ?_
         refine pu 13 (some 23) (bm 26 16383) ?_
         refine pu 14 (some 24) (bm 26 32767) ?_
         refine pu 15 (some 25) (bm 26 65535) ?_
         refine pu 16 (some 26) (bm 26 131071) ?_
         refine pu 17 (some 27) (bm 26 262143) ?_
         refine pu 18 (some 28) (bm 26 524287) ?_
         refine pu 19 (some 29) (bm 26 1048575) ?_
         refine pu 20 (some 30) (bm 26 2097151) ?_
         refine pu 21 (some 31) (bm 26 4194303) ?_
         refine tk12 22 (some 32) (bm 26 8388607) ?_
         refine one_ (i := 23) (N := some 33) (bm 26 16777215) rfl rfl (one_of HT_.out (by kernel_rfl)) (by decide) (fun K hK => ?_)
         refine goes_ Try.func79 (by kernel_rfl) rfl #[.slice (some ad120) y122.length c0, .agg #[.int .i64 ((rd_T51 l0 x3_1).f0.f0), .int .i64 ((rd_T51 l0 x3_1).f0.f1)]] (by rfl) rfl rfl Z0 ?_
         with_reducible refine (ensembleref05_find.calls k1 _ _ y122 ((rd_T51 l0 x3_1).f0.f0) ((rd_T51 l0 x3_1).f0.f1) t127 _ ?side1 ?side2 A10.out).mono ?_
         (case side1 => exact cs_ HR125)
         (case side2 => exact HC125.out)
         rintro e w17 ⟨rfl, hb⟩
         refine ⟨_, rfl, ?_⟩
         replace HB := hs_ hb
         (try clear hb)
         (try clear hb2)
         (try clear hk)
         (try clear hi)
         refine hK.out _ _ ⟨((HB.out.cell (World.block_lt_of_cell? w _ hw120_0)).trans hw120_0), ((HB.out.cell (World.block_lt_of_cell? w _ hw120_1)).trans hw120_1), ((HB.out.cell (World.block_lt_of_cell? w _ hw120_2)).trans hw120_2), ((HB.out.cell (World.block_lt_of_cell? w _ hw120_3)).trans hw120_3), ((HB.out.cell (World.block_lt_of_cell? w _ hw121_0)).trans hw121_0), ((HB.out.cell (World.block_lt_of_cell? w _ hw121_1)).trans hw121_1), ((HB.out.cell (World.block_lt_of_cell? w _ hw121_2)).trans hw121_2), ((HB.out.cell (World.block_lt_of_cell? w _ hw121_3)).trans hw121_3), ((HB.out.cell (World.block_lt_of_cell? w _ hw126_0)).trans hw126_0), ((HB.out.cell (World.block_lt_of_cell? w _ hw126_1)).trans hw126_1), ((HB.out.cell (World.block_lt_of_cell? w _ hw126_2)).trans hw126_2), ((HB.out.cell (World.block_lt_of_cell? w _ hw126_3)).trans hw126_3)⟩ (fun hHeld => ?_)
         clear hK K
         refine norm_ (a' := ?_) ?_ ?_
         rotate_left
         ·show Act.put _ (some 33) _ = _
          simp only [Act.put, List.setIfInBounds_toArray, List.set_cons_zero, List.set_cons_succ, i64_w, i32_w]
          rfl
         refine pu 24 (some 34) (bm 26 33554431) ?_
         refine pu 25 (some 35) (bm 26 67108863) ?_
         refine done_ (done_of HT_.out (by kernel_rfl)) ?_
         try go_wp2
         go_roundg k1
         case measure => have := HK1.out; omega
         case rel => exact ⟨(wrap64 (x3_1 + 1)), Z1, H', ⟨by have := HK1.out; omega⟩, ⟨hb_⟩⟩
       ·rw [if_neg c9] at H
        exact absurd H (by simp)
    ·rw [if_neg c3] at H
     exact absurd H (by simp)
   ·rw [if_neg c2] at H
    have c2b0 : decide (x3_1 < (l0.length : Int)) = false := decide_eq_false c2
    clear c2
    obtain rfl := Option.some.inj H
    go_wp2
    go_ret
    exact ⟨by first | rfl | (simp [errW_none, errW_some] <;> rfl) | (simp [*, errW_none, errW_some] <;> rfl), hb_⟩
end Go.Proofs.Ytckhjehibjdjdaa.P
namespace Go.Proofs.Ytckhjehibjdjdaa.P
open Go.RowKit Go.Proofs.YtckhjehibjdjdaaW.PrintWords Go.Proofs.YtckhjehibjdjdaaW.PrintLast Go.Proofs.YtckhjehibjdjdaaW.PrintMore
attribute [local go_sem] max2_int min2_int max_two min_two max_three min_three max_four min_four
set_option linter.unusedVariables false
set_option linter.unusedSimpArgs false
mutual
def ensembleref12_Few.j0 : Nat → List (S41) → Bool → Option (Bool)
 | 0, _, _ => none
 | k + 1, x2, x40 => if x40 = true then (some false) else (ensembleref12_Few.l0 k x2 0)
def ensembleref12_Few.l0 : Nat → List (S41) → Int → Option (Bool)
 | 0, _, _ => none
 | k + 1, x2, x7 => if x7 < (x2.length : Int) then (if 0 ≤ x7 then (if (((rd_T41 x2 x7).f4).length : Int) > 20 then (some false) else (ensembleref12_Few.l0 k x2 (wrap64 (x7 + 1)))) else (none)) else (some true)
end
def ensembleref12_Few.f (k : Nat) (l0 : List (S51)) (a1_0 : Int) (a1_1 : Int) (l2 : List (S41)) : Option (Bool) := if (l0.length : Int) > 70 then (ensembleref12_Few.j0 k l2 true) else ((ensembleref05_Right.f k l0).bind fun t129 => (if t129 = true then (if (l2.length : Int) > 20 then (ensembleref12_Few.j0 k l2 true) else (if a1_0 < (-1048576) then (ensembleref12_Few.j0 k l2 true) else (if a1_0 > 1048576 then (ensembleref12_Few.j0 k l2 true) else (if a1_1 < (-1048576) then (ensembleref12_Few.j0 k l2 true) else (ensembleref12_Few.j0 k l2 (decide (a1_1 > 1048576))))))) else (ensembleref12_Few.j0 k l2 true)))
set_option maxHeartbeats 8000000 in
set_option maxRecDepth 100000 in
theorem ensembleref12_Few.calls (k : Nat) (A0 : Option Addr) (c0 : Nat) (l0 : List (S51)) (a1_0 : Int) (a1_1 : Int) (A2 : Option Addr) (c2 : Nat) (l2 : List (S41)) (r : Bool) (w : World) (hr0 : Kd.C k51 w A0 l0.length l0) (hc0 : l0.length ≤ c0) (hr2 : Kd.C k41 w A2 l2.length l2) (hc2 : l2.length ≤ c2) (h : ensembleref12_Few.f k l0 a1_0 a1_1 l2 = some r) :
  Calls Try.prog 26 #[.slice A0 l0.length c0, .agg #[.int .i64 a1_0, .int .i64 a1_1], .slice A2 l2.length c2] w fun e w' => e = .returned (.bool r) ∧ Below w.heap.size w w' := by
 have hu24 := Try.underlying24
 have HR0 := Aside0.mk hr0
 have HC0 := Aside0.mk hc0
 clear hr0 hc0
 have HR2 := Aside0.mk hr2
 have HC2 := Aside0.mk hc2
 clear hr2 hc2
 have HB := Aside0.mk (Below.refl w.heap.size w)
 have H : (if (l0.length : Int) > 70 then (ensembleref12_Few.j0 k l2 true) else ((ensembleref05_Right.f k l0).bind fun t129 => (if t129 = true then (if (l2.length : Int) > 20 then (ensembleref12_Few.j0 k l2 true) else (if a1_0 < (-1048576) then (ensembleref12_Few.j0 k l2 true) else (if a1_0 > 1048576 then (ensembleref12_Few.j0 k l2 true) else (if a1_1 < (-1048576) then (ensembleref12_Few.j0 k l2 true) else (ensembleref12_Few.j0 k l2 (decide (a1_1 > 1048576))))))) else (ensembleref12_Few.j0 k l2 true)))) = some r := h
 clear h
 have HC4 := Aside0.mk H
 clear H
 go_enter Try.func26, Try.ntmps26
 go_upto_region 1 with (first | ((with_reducible refine gate_dst (N := 4) rfl ?_); (try (refine gate_guard (by rfl) ?_; dsimp only)); refine bx 4 #[.int .i64 a1_0, .int .i64 a1_1] 24 ?_; intro gb128 hg w5 hbox hb; have BK128 := Aside0.mk (hbox); have GW128 := ge_ hg; have GE128 := ge_ hg; replace HB := hs_ hb; clear hb hbox hg))
 (try simp only [Act.put, List.setIfInBounds_toArray, List.set_cons_zero, List.set_cons_succ])
 go_cut [40] (fun v40 wc => ∃ (kq : Nat) (x40_3 : Bool), v40 = .bool x40_3 ∧ Aside0 (ensembleref12_Few.j0 kq l2 x40_3 = some r) ∧ Aside0 (kq ≤ k) ∧ Aside0 (wc.heap[gb128]? = some (.cells #[.int .i64 a1_0, .int .i64 a1_1] 24 (0, 0))) ∧ Aside0 (Below w.heap.size w wc))
 case first =>
  have H := HC4.out
  clear HC4
  by_cases c6 : (l0.length : Int) > 70
  ·rw [if_pos c6] at H
   have c6b0 : decide (70 < (l0.length : Int)) = true := decide_eq_true c6
   have c6b1 : decide (70 < l0.length) = true := decide_eq_true (by omega)
   clear c6
   (first | rw [c6b0] | (simp only [i64_w, i32_w]; rw [c6b0]) | skip)
   have H' := Aside0.mk H
   clear H
   go_wp2
   go_meet
   case rel => exact ⟨_, (true), Z1, H', ⟨by first | omega | exact Nat.le_refl _⟩, ⟨bo_ BK128⟩, ⟨hb_⟩⟩
  ·rw [if_neg c6] at H
   have c6b0 : decide (70 < (l0.length : Int)) = false := decide_eq_false c6
   have c6b1 : decide (70 < l0.length) = false := decide_eq_false (by omega)
   clear c6
   (first | rw [c6b0] | (simp only [i64_w, i32_w]; rw [c6b0]) | skip)
   replace H := Option.bind_eq_some_iff.mp H
   obtain ⟨t129, A70, H⟩ := H
   replace H : (if t129 = true then (if (l2.length : Int) > 20 then (ensembleref12_Few.j0 k l2 true) else (if a1_0 < (-1048576) then (ensembleref12_Few.j0 k l2 true) else (if a1_0 > 1048576 then (ensembleref12_Few.j0 k l2 true) else (if a1_1 < (-1048576) then (ensembleref12_Few.j0 k l2 true) else (ensembleref12_Few.j0 k l2 (decide (a1_1 > 1048576))))))) else (ensembleref12_Few.j0 k l2 true)) = some r := H
   have A7 := Aside0.mk A70
   clear A70
   by_cases c8 : t129 = true
   ·subst c8
    have H1 : (if (l2.length : Int) > 20 then (ensembleref12_Few.j0 k l2 true) else (if a1_0 < (-1048576) then (ensembleref12_Few.j0 k l2 true) else (if a1_0 > 1048576 then (ensembleref12_Few.j0 k l2 true) else (if a1_1 < (-1048576) then (ensembleref12_Few.j0 k l2 true) else (ensembleref12_Few.j0 k l2 (decide (a1_1 > 1048576))))))) = some r := by rw [if_pos rfl] at H; exact H
    clear H
    have H := H1
    clear H1
    by_cases c9 : (l2.length : Int) > 20
    ·rw [if_pos c9] at H
     have c9b0 : decide (20 < (l2.length : Int)) = true := decide_eq_true c9
     have c9b1 : decide (20 < l2.length) = true := decide_eq_true (by omega)
     clear c9
     have H' := Aside0.mk H
     clear H
     go_wp2_with (first | (go_at_call 67; (with_reducible refine (ensembleref05_Right.calls k _ _ l0 true _ ?side1 ?side2 A7.out).mono ?_); (case side1 => exact cs_ HR0); (case side2 => exact HC0.out); rintro e w10 ⟨rfl, hb⟩; replace BK128 := bk_ BK128 hb; replace HB := hs_ hb; (try clear hb); (try clear hb2); (try clear hk); (try clear hi)))
     go_meet
     case rel => exact ⟨_, (true), Z1, H', ⟨by first | omega | exact Nat.le_refl _⟩, ⟨bo_ BK128⟩, ⟨hb_⟩⟩
    ·rw [if_neg c9] at H
     have c9b0 : decide (20 < (l2.length : Int)) = false := decide_eq_false c9
     have c9b1 : decide (20 < l2.length) = false := decide_eq_false (by omega)
     clear c9
     by_cases c11 : a1_0 < (-1048576)
     ·rw [if_pos c11] at H
      have c11b0 : decide (a1_0 < (-1048576)) = true := decide_eq_true c11
      clear c11
      have H' := Aside0.mk H
      clear H
      go_wp2_with (first | (go_at_call 67; (with_reducible refine (ensembleref05_Right.calls k _ _ l0 true _ ?side1 ?side2 A7.out).mono ?_); (case side1 => exact cs_ HR0); (case side2 => exact HC0.out); rintro e w12 ⟨rfl, hb⟩; replace BK128 := bk_ BK128 hb; replace HB := hs_ hb; (try clear hb); (try clear hb2); (try clear hk); (try clear hi); obtain ⟨hcz13_0, hcz13_1, hfz13_0, hfz13_1⟩ := bz2_ BK128))
      go_meet
      case rel => exact ⟨_, (true), Z1, H', ⟨by first | omega | exact Nat.le_refl _⟩, ⟨bo_ BK128⟩, ⟨hb_⟩⟩
     ·rw [if_neg c11] at H
      have c11b0 : decide (a1_0 < (-1048576)) = false := decide_eq_false c11
      clear c11
      by_cases c14 : a1_0 > 1048576
      ·rw [if_pos c14] at H
       have c14b0 : decide (1048576 < a1_0) = true := decide_eq_true c14
       clear c14
       have H' := Aside0.mk H
       clear H
       go_wp2_with (first | (go_at_call 67; (with_reducible refine (ensembleref05_Right.calls k _ _ l0 true _ ?side1 ?side2 A7.out).mono ?_); (case side1 => exact cs_ HR0); (case side2 => exact HC0.out); rintro e w15 ⟨rfl, hb⟩; replace BK128 := bk_ BK128 hb; replace HB := hs_ hb; (try clear hb); (try clear hb2); (try clear hk); (try clear hi); obtain ⟨hcz16_0, hcz16_1, hfz16_0, hfz16_1⟩ := bz2_ BK128))
       go_meet
       case rel => exact ⟨_, (true), Z1, H', ⟨by first | omega | exact Nat.le_refl _⟩, ⟨bo_ BK128⟩, ⟨hb_⟩⟩
      ·rw [if_neg c14] at H
       have c14b0 : decide (1048576 < a1_0) = false := decide_eq_false c14
       clear c14
       by_cases c17 : a1_1 < (-1048576)
       ·rw [if_pos c17] at H
        have c17b0 : decide (a1_1 < (-1048576)) = true := decide_eq_true c17
        clear c17
        have H' := Aside0.mk H
        clear H
        go_wp2_with (first | (go_at_call 67; (with_reducible refine (ensembleref05_Right.calls k _ _ l0 true _ ?side1 ?side2 A7.out).mono ?_); (case side1 => exact cs_ HR0); (case side2 => exact HC0.out); rintro e w18 ⟨rfl, hb⟩; replace BK128 := bk_ BK128 hb; replace HB := hs_ hb; (try clear hb); (try clear hb2); (try clear hk); (try clear hi); obtain ⟨hcz19_0, hcz19_1, hfz19_0, hfz19_1⟩ := bz2_ BK128))
        go_meet
        case rel => exact ⟨_, (true), Z1, H', ⟨by first | omega | exact Nat.le_refl _⟩, ⟨bo_ BK128⟩, ⟨hb_⟩⟩
       ·rw [if_neg c17] at H
        have c17b0 : decide (a1_1 < (-1048576)) = false := decide_eq_false c17
        clear c17
        have H' := Aside0.mk H
        clear H
        go_wp2_with (first | (go_at_call 67; (with_reducible refine (ensembleref05_Right.calls k _ _ l0 true _ ?side1 ?side2 A7.out).mono ?_); (case side1 => exact cs_ HR0); (case side2 => exact HC0.out); rintro e w20 ⟨rfl, hb⟩; replace BK128 := bk_ BK128 hb; replace HB := hs_ hb; (try clear hb); (try clear hb2); (try clear hk); (try clear hi); obtain ⟨hcz21_0, hcz21_1, hfz21_0, hfz21_1⟩ := bz2_ BK128))
        go_meet
        case rel => exact ⟨_, (decide (a1_1 > 1048576)), Z1, H', ⟨by first | omega | exact Nat.le_refl _⟩, ⟨bo_ BK128⟩, ⟨hb_⟩⟩
   ·replace c8 := Bool.eq_false_iff.mpr c8
    subst c8
    have H1 : (ensembleref12_Few.j0 k l2 true) = some r := by rw [if_neg (show ¬ (false = true) by decide)] at H; exact H
    clear H
    have H := H1
    clear H1
    have H' := Aside0.mk H
    clear H
    go_wp2_with (first | (go_at_call 67; (with_reducible refine (ensembleref05_Right.calls k _ _ l0 false _ ?side1 ?side2 A7.out).mono ?_); (case side1 => exact cs_ HR0); (case side2 => exact HC0.out); rintro e w22 ⟨rfl, hb⟩; replace BK128 := bk_ BK128 hb; replace HB := hs_ hb; (try clear hb); (try clear hb2); (try clear hk); (try clear hi)))
    go_meet
    case rel => exact ⟨_, (true), Z1, H', ⟨by first | omega | exact Nat.le_refl _⟩, ⟨bo_ BK128⟩, ⟨hb_⟩⟩
 case rest =>
  clear HC4
  try clear c1
  try clear c2
  try clear p2
  try clear c6
  try clear c6b0
  try clear c6b1
  try clear c8
  try clear c9
  try clear c9b0
  try clear c9b1
  try clear c11
  try clear c11b0
  try clear c14
  try clear c14b0
  try clear c17
  try clear c17b0
  try clear hcz13_0
  try clear hcz13_1
  try clear hcz16_0
  try clear hcz16_1
  try clear hcz19_0
  try clear hcz19_1
  try clear hcz21_0
  try clear hcz21_1
  try clear hfz13_0
  try clear hfz13_1
  try clear hfz16_0
  try clear hfz16_1
  try clear hfz19_0
  try clear hfz19_1
  try clear hfz21_0
  try clear hfz21_1
  obtain ⟨kq, x40_3, rfl, HA, HJ3, BK128, HB⟩ := hcut
  cases kq with
  | zero => exact absurd HA.out (by simp [ensembleref12_Few.j0])
  | succ kj3 =>
   have H := HA.out
   clear HA
   simp only [ensembleref12_Few.j0] at H
   by_cases c23 : x40_3 = true
   ·subst c23
    have H1 : (some false) = some r := by rw [if_pos rfl] at H; exact H
    clear H
    have H := H1
    clear H1
    obtain rfl := Option.some.inj H
    go_wp2
    go_ret
    exact ⟨by first | rfl | (simp [errW_none, errW_some] <;> rfl) | (simp [*, errW_none, errW_some] <;> rfl), hb_⟩
   ·replace c23 := Bool.eq_false_iff.mpr c23
    subst c23
    have H1 : (ensembleref12_Few.l0 kj3 l2 0) = some r := by rw [if_neg (show ¬ (false = true) by decide)] at H; exact H
    clear H
    have H := H1
    clear H1
    have H' := Aside0.mk H
    clear H
    go_wp2
    go_loopg [7] kj3 (fun kq v7 w' => ∃ (x7_2 : Int), v7 = .int .i64 x7_2 ∧ Aside0 (ensembleref12_Few.l0 kq l2 x7_2 = some r) ∧ Aside0 (kq ≤ kj3) ∧ Aside0 (w'.heap[gb128]? = some (.cells #[.int .i64 a1_0, .int .i64 a1_1] 24 (0, 0))) ∧ Aside0 (Below w.heap.size w w'))
    case atStart => exact ⟨(0), Z1, H', ⟨Nat.le_refl _⟩, ⟨bo_ BK128⟩, ⟨hb_⟩⟩
    case round =>
     clear H'
     try clear c1
     try clear c2
     try clear p2
     try clear c6
     try clear c6b0
     try clear c6b1
     try clear c8
     try clear c9
     try clear c9b0
     try clear c9b1
     try clear c11
     try clear c11b0
     try clear c14
     try clear c14b0
     try clear c17
     try clear c17b0
     try clear c23
     try clear hcz13_0
     try clear hcz13_1
     try clear hcz16_0
     try clear hcz16_1
     try clear hcz19_0
     try clear hcz19_1
     try clear hcz21_0
     try clear hcz21_1
     try clear hfz13_0
     try clear hfz13_1
     try clear hfz16_0
     try clear hfz16_1
     try clear hfz19_0
     try clear hfz19_1
     try clear hfz21_0
     try clear hfz21_1
     try clear p2
     obtain ⟨x7_2, rfl, HA, HK2, BK128, HB⟩ := hrel
     cases gk with
     | zero => exact absurd HA.out (by simp [ensembleref12_Few.l0])
     | succ k2 =>
      have H := HA.out
      clear HA
      simp only [ensembleref12_Few.l0] at H
      by_cases c24 : x7_2 < (l2.length : Int)
      ·rw [if_pos c24] at H
       have c24b0 : decide (x7_2 < (l2.length : Int)) = true := decide_eq_true c24
       clear c24
       by_cases c25 : 0 ≤ x7_2
       ·rw [if_pos c25] at H
        have c25b0 : decide (0 ≤ x7_2) = true := decide_eq_true c25
        clear c25
        by_cases c26 : (((rd_T41 l2 x7_2).f4).length : Int) > 20
        ·rw [if_pos c26] at H
         have c26b0 : decide (20 < (((rd_T41 l2 x7_2).f4).length : Int)) = true := decide_eq_true c26
         have c26b1 : decide (20 < ((rd_T41 l2 x7_2).f4).length) = true := decide_eq_true (by omega)
         clear c26
         obtain rfl := Option.some.inj H
         have p130 : 0 ≤ (x7_2 : Int) := of_decide_eq_true Z2
         have q130 : x7_2 < (l2.length : Int) := of_decide_eq_true Z2
         obtain ⟨ad130, A130_4, c130_4, e130, hx130_0, hx130_1, hx130_2, hx130_3, hx130_4, hl130_4, hi130_4⟩ := at_T41 HR2.out x7_2 p130 q130
         cases e130
         replace hx130_0 := cx_ hx130_0
         replace hx130_1 := cx_ hx130_1
         replace hx130_2 := cx_ hx130_2
         replace hx130_3 := cx_ hx130_3
         replace hx130_4 := cx_ hx130_4
         have HR130_4 := Aside0.mk hi130_4
         have HC130_4 := Aside0.mk hl130_4
         clear hi130_4 hl130_4
         replace p130 := eq_true p130
         replace q130 := eq_true q130
         go_wp2
         go_ret
         exact ⟨by first | rfl | (simp [errW_none, errW_some] <;> rfl) | (simp [*, errW_none, errW_some] <;> rfl), hb_⟩
        ·rw [if_neg c26] at H
         have c26b0 : decide (20 < (((rd_T41 l2 x7_2).f4).length : Int)) = false := decide_eq_false c26
         have c26b1 : decide (20 < ((rd_T41 l2 x7_2).f4).length) = false := decide_eq_false (by omega)
         clear c26
         have H' := Aside0.mk H
         clear H
         have p130 : 0 ≤ (x7_2 : Int) := of_decide_eq_true Z2
         have q130 : x7_2 < (l2.length : Int) := of_decide_eq_true Z2
         obtain ⟨ad130, A130_4, c130_4, e130, hx130_0, hx130_1, hx130_2, hx130_3, hx130_4, hl130_4, hi130_4⟩ := at_T41 HR2.out x7_2 p130 q130
         cases e130
         replace hx130_0 := cx_ hx130_0
         replace hx130_1 := cx_ hx130_1
         replace hx130_2 := cx_ hx130_2
         replace hx130_3 := cx_ hx130_3
         replace hx130_4 := cx_ hx130_4
         have HR130_4 := Aside0.mk hi130_4
         have HC130_4 := Aside0.mk hl130_4
         clear hi130_4 hl130_4
         replace p130 := eq_true p130
         replace q130 := eq_true q130
         go_wp2
         go_roundg k2
         case measure => have := HJ3.out; have := HK2.out; omega
         case rel => exact ⟨(wrap64 (x7_2 + 1)), Z1, H', ⟨by have := HJ3.out; have := HK2.out; omega⟩, ⟨bo_ BK128⟩, ⟨hb_⟩⟩
       ·rw [if_neg c25] at H
        exact absurd H (by simp)
      ·rw [if_neg c24] at H
       have c24b0 : decide (x7_2 < (l2.length : Int)) = false := decide_eq_false c24
       clear c24
       obtain rfl := Option.some.inj H
       go_wp2
       go_ret
       exact ⟨by first | rfl | (simp [errW_none, errW_some] <;> rfl) | (simp [*, errW_none, errW_some] <;> rfl), hb_⟩
end Go.Proofs.Ytckhjehibjdjdaa.P
