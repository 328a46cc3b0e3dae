/- PromiseKeeps: part 2 of the walk and of the plain law that it comes to. No condition. -/
import Derived.Test.YtckhjehibjdjdaaZPromiseKeeps1
import Derived.ArgAppend
import Derived.Below
import Derived.BigQuiet
import Derived.Deep.AppendLies
import Derived.Deep.CutBlock
import Derived.Deep.DeepCutAuto
import Derived.Deep.Draws
import Derived.Deep.LoopGhost
import Derived.Deep.OwnRows
import Derived.Deep.QuietTactic
import Derived.Deep.RegionHeld3
import Derived.KernelRfl
import Derived.Laws.Bits64
import Derived.Laws.Bits64b
import Derived.Laws.BitsLemmas
import Derived.Laws.BytesArg
import Derived.Laws.IdiomCopy
import Derived.Laws.MakeOwn
import Derived.Laws.OwnMore
import Derived.Laws.Rows
import Derived.Laws.Slices
import Derived.Lib.AppendStr
import Derived.Lib.ConvBytes
import Derived.LoopIn
import Derived.LoopN
import Derived.LoopNIn
import Derived.Maps.AppendAt
import Derived.OrdersHeld
import Derived.OwnWalk
import Derived.OwnWalkIn
import Derived.RangeFuncBound
import Derived.RangeFuncBox
import Derived.RangeFuncCalls
import Derived.RangeFuncFrom
import Derived.RangeFuncLeaves
import Derived.RowKit
import Derived.RowKit3
import Derived.Shelf.Abstract
import Derived.Shelf.RegionOpen
import Derived.Tactics
import Derived.TacticsInMore
import Derived.WalkKit
import Derived.WideLaws
namespace Go.Proofs.Ytckhjehibjdjdaa.P
open Go.RowKit Go.Proofs.YtckhjehibjdjdaaW.PrintWords Go.Proofs.YtckhjehibjdjdaaW.PrintLast Go.Proofs.YtckhjehibjdjdaaW.PrintMore
attribute [local go_sem] max2_int min2_int max_two min_two max_three min_three max_four min_four
set_option linter.unusedVariables false
set_option linter.unusedSimpArgs false
def ensembleref12_Fits.f (k : Nat) (l0 : List (S51)) (a1_0 : Int) (a1_1 : Int) (a2_0 : Int) (a2_1 : Int) (a2_2 : Int) (a2_3 : Int) (a2_4 : Int) (a2_5 : Int) : Option (Bool) := (ensembleref12_Right.f a2_0 a2_1 a2_2 a2_3 a2_4 a2_5).bind fun t171 => (if t171 = true then ((ensembleref04_Units.f k a2_2 a2_3 a2_4 a2_5 a2_1).bind fun bt172 => (if bt172.1 ≤ a1_0 then (if bt172.2 ≤ a1_1 then ((ensembleref05_Room.f k l0 a2_2 a2_3 a2_4 a2_5).bind fun t175 => (some (decide (t175 ≥ a2_1)))) else (some false)) else (some false))) else (some false))
def ensembleref12_Fits.T4 : Bool × List (List Nat × List Nat) := (true, [([], []), ([0], [0]), ([], []), ([2], [2]), ([1, 3], [1, 3]), ([4], [4]), ([5], [5]), ([6, 5], [5, 6]), ([5], [5]), ([8, 5], [5, 8]), ([7, 9, 5], [5, 7, 9]), ([5, 10], [5, 10]), ([11, 5], [11]), ([12], [12]), ([12], [12]), ([14, 12], [12, 14]), ([13, 15, 12, 12], [12, 13, 15]), ([12], [12]), ([17, 12], [12, 17]), ([16, 18, 12], [12, 16, 18]), ([12, 19], [12, 19]), ([20, 16, 0, 1, 2, 3, 4, 5, 6, 7, 8, 9, 10, 11, 12, 13, 14, 15, 16, 17, 18, 19, 20], [20])])
def ensembleref12_Fits.B4 : List Nat := [0, 1, 0, 4, 15, 31, 63, 127, 63, 319, 1023, 2047, 4095, 8191, 8191, 24575, 65535, 8191, 139263, 524287, 1048575, 2097151]
theorem ensembleref12_Fits.tab4 : rtab .any (opsOf Try.f30 4) = ensembleref12_Fits.T4 := by kernel_rfl
theorem ensembleref12_Fits.bits4 : waitsOk ensembleref12_Fits.T4.2 ensembleref12_Fits.B4 = true := by kernel_rfl
set_option maxHeartbeats 8000000 in
set_option maxRecDepth 100000 in
theorem ensembleref12_Fits.calls (k : Nat) (A0 : Option Addr) (c0 : Nat) (l0 : List (S51)) (a1_0 : Int) (a1_1 : Int) (a2_0 : Int) (a2_1 : Int) (a2_2 : Int) (a2_3 : Int) (a2_4 : Int) (a2_5 : Int) (r : Bool) (w : World) (hr0 : Kd.C k51 w A0 l0.length l0) (hc0 : l0.length ≤ c0) (h : ensembleref12_Fits.f k l0 a1_0 a1_1 a2_0 a2_1 a2_2 a2_3 a2_4 a2_5 = some r) :
  Calls Try.prog 30 #[.slice A0 l0.length c0, .agg #[.int .i64 a1_0, .int .i64 a1_1], .agg #[.int .i64 a2_0, .int .i64 a2_1, .int .i64 a2_2, .int .i64 a2_3, .int .i64 a2_4, .int .i64 a2_5]] w fun e w' => e = .returned (.bool r) ∧ Below w.heap.size w w' := by
 have hu24 := Try.underlying24
 have hu29 := Try.underlying29
 have hu27 := Try.underlying27
 have HR0 := Aside0.mk hr0
 have HC0 := Aside0.mk hc0
 clear hr0 hc0
 have HB := Aside0.mk (Below.refl w.heap.size w)
 have H : ((ensembleref12_Right.f a2_0 a2_1 a2_2 a2_3 a2_4 a2_5).bind fun t171 => (if t171 = true then ((ensembleref04_Units.f k a2_2 a2_3 a2_4 a2_5 a2_1).bind fun bt172 => (if bt172.1 ≤ a1_0 then (if bt172.2 ≤ a1_1 then ((ensembleref05_Room.f k l0 a2_2 a2_3 a2_4 a2_5).bind fun t175 => (some (decide (t175 ≥ a2_1)))) else (some false)) else (some false))) else (some false))) = some r := h
 clear h
 replace H := Option.bind_eq_some_iff.mp H
 obtain ⟨t171, A40, H⟩ := H
 replace H : (if t171 = true then ((ensembleref04_Units.f k a2_2 a2_3 a2_4 a2_5 a2_1).bind fun bt172 => (if bt172.1 ≤ a1_0 then (if bt172.2 ≤ a1_1 then ((ensembleref05_Room.f k l0 a2_2 a2_3 a2_4 a2_5).bind fun t175 => (some (decide (t175 ≥ a2_1)))) else (some false)) else (some false))) else (some false)) = some r := H
 have A4 := Aside0.mk A40
 clear A40
 by_cases c5 : t171 = true
 ·subst c5
  have H1 : ((ensembleref04_Units.f k a2_2 a2_3 a2_4 a2_5 a2_1).bind fun bt172 => (if bt172.1 ≤ a1_0 then (if bt172.2 ≤ a1_1 then ((ensembleref05_Room.f k l0 a2_2 a2_3 a2_4 a2_5).bind fun t175 => (some (decide (t175 ≥ a2_1)))) else (some false)) else (some false))) = some r := by rw [if_pos rfl] at H; exact H
  clear H
  have H := H1
  clear H1
  replace H := Option.bind_eq_some_iff.mp H
  obtain ⟨⟨t172, t173⟩, A60, H⟩ := H
  replace H : (if t172 ≤ a1_0 then (if t173 ≤ a1_1 then ((ensembleref05_Room.f k l0 a2_2 a2_3 a2_4 a2_5).bind fun t175 => (some (decide (t175 ≥ a2_1)))) else (some false)) else (some false)) = some r := H
  have A6 := Aside0.mk A60
  clear A60
  by_cases c7 : t172 ≤ a1_0
  ·rw [if_pos c7] at H
   have c7b0 : decide (t172 ≤ a1_0) = true := decide_eq_true c7
   clear c7
   by_cases c8 : t173 ≤ a1_1
   ·rw [if_pos c8] at H
    have c8b0 : decide (t173 ≤ a1_1) = true := decide_eq_true c8
    clear c8
    replace H := Option.bind_eq_some_iff.mp H
    obtain ⟨t175, A90, H⟩ := H
    replace H : (some (decide (t175 ≥ a2_1))) = some r := H
    have A9 := Aside0.mk A90
    clear A90
    obtain rfl := Option.some.inj H
    go_enter Try.func30, Try.ntmps30
    try go_wp2_with (first | ((with_reducible refine gate_dst (N := 4) rfl ?_); refine bx 4 #[.int .i64 a1_0, .int .i64 a1_1] 24 ?_; intro gb169 hg w10 hbox hb; have n0_ := Aside0.mk (below_step Z0 hb); have n1_ := Aside0.mk (hbox); have n2_ := Aside0.mk ((by rw [hg]; exact (below_size Z0) : w.heap.size ≤ gb169)); have n3_ := Aside0.mk ((by rw [hg]; exact (below_size Z0) : w.heap.size ≤ gb169)); clear HB; have HB := n0_; have BK169 := n1_; have GW169 := n2_; have GE169 := n3_; clear n0_ n1_ n2_ n3_; clear hb hbox hg) | ((with_reducible refine gate_dst (N := 5) rfl ?_); refine bx 5 #[.int .i64 a2_0, .int .i64 a2_1, .int .i64 a2_2, .int .i64 a2_3, .int .i64 a2_4, .int .i64 a2_5] 29 ?_; intro gb170 hg w11 hbox hb; have n0_ := Aside0.mk (blk_below (g := gb169) (o := .cells #[.int .i64 a1_0, .int .i64 a1_1] 24 (0, 0)) (by (with_reducible repeat (first | refine blk_drewN ?_ _ | refine blk_drew ?_ | refine blk_alloc ?_ _)); exact BK169.out) hb); have n1_ := Aside0.mk (below_step (by repeat (first | (with_reducible first | exact HB.out | apply below_alloc | apply pw_below_drewN | apply below_drew1 | refine below_set ?_ GE169.out) | exact HB.out)) hb); have n2_ := Aside0.mk (hbox); have n3_ := Aside0.mk ((by rw [hg]; exact (below_size (by repeat (first | (with_reducible first | exact HB.out | apply below_alloc | apply pw_below_drewN | apply below_drew1 | refine below_set ?_ GE169.out) | exact HB.out))) : w.heap.size ≤ gb170)); have n4_ := Aside0.mk ((by rw [hg]; exact (below_size (by repeat (first | (with_reducible first | exact HB.out | apply below_alloc | apply pw_below_drewN | apply below_drew1 | refine below_set ?_ GE169.out) | exact HB.out))) : w.heap.size ≤ gb170)); have n5_ := Aside0.mk ((by rw [hg]; exact Nat.ne_of_lt (blk_lt (g := gb169) (o := .cells #[.int .i64 a1_0, .int .i64 a1_1] 24 (0, 0)) (by (with_reducible repeat (first | refine blk_drewN ?_ _ | refine blk_drew ?_ | refine blk_alloc ?_ _)); exact BK169.out)) : gb169 ≠ gb170)); have n6_ := Aside0.mk ((by rw [hg]; exact Nat.ne_of_gt (blk_lt (g := gb169) (o := .cells #[.int .i64 a1_0, .int .i64 a1_1] 24 (0, 0)) (by (with_reducible repeat (first | refine blk_drewN ?_ _ | refine blk_drew ?_ | refine blk_alloc ?_ _)); exact BK169.out)) : gb170 ≠ gb169)); clear BK169; clear HB; have BK169 := n0_; have HB := n1_; have BK170 := n2_; have GW170 := n3_; have GE170 := n4_; have NB169_170 := n5_; have NB170_169 := n6_; clear n0_ n1_ n2_ n3_ n4_ n5_ n6_; clear hb hbox hg; have hnb12 := NB170_169.out; have hnc12 := NB169_170.out; have hcz13_0 : w11.cell? ⟨gb170, 0, none⟩ = some (.int .i64 a2_0) := (blk_cell BK170.out 0).trans rfl; have hcz13_1 : w11.cell? ⟨gb170, 1, none⟩ = some (.int .i64 a2_1) := (blk_cell BK170.out 1).trans rfl; have hcz13_2 : w11.cell? ⟨gb170, 2, none⟩ = some (.int .i64 a2_2) := (blk_cell BK170.out 2).trans rfl; have hcz13_3 : w11.cell? ⟨gb170, 3, none⟩ = some (.int .i64 a2_3) := (blk_cell BK170.out 3).trans rfl; have hcz13_4 : w11.cell? ⟨gb170, 4, none⟩ = some (.int .i64 a2_4) := (blk_cell BK170.out 4).trans rfl; have hcz13_5 : w11.cell? ⟨gb170, 5, none⟩ = some (.int .i64 a2_5) := (blk_cell BK170.out 5).trans rfl; have hfz13_0 := blk_frozen BK170.out 0; have hfz13_1 := blk_frozen BK170.out 1; have hfz13_2 := blk_frozen BK170.out 2; have hfz13_3 := blk_frozen BK170.out 3; have hfz13_4 := blk_frozen BK170.out 4; have hfz13_5 := blk_frozen BK170.out 5) | ((with_reducible refine gate_callee (f := 33) rfl ?_); refine goesL_ (some 9) rfl rfl Try.func33 (by kernel_rfl) rfl #[.agg #[.int .i64 a2_0, .int .i64 a2_1, .int .i64 a2_2, .int .i64 a2_3, .int .i64 a2_4, .int .i64 a2_5]] rfl Z1 ?_; (with_reducible refine (ensembleref12_Right.calls a2_0 a2_1 a2_2 a2_3 a2_4 a2_5 true _ A4.out).mono ?_); rintro e w14 ⟨rfl, hb⟩; refine ⟨_, rfl, ?_⟩; have n0_ := Aside0.mk (blk_below (g := gb169) (o := .cells #[.int .i64 a1_0, .int .i64 a1_1] 24 (0, 0)) (by (with_reducible repeat (first | refine blk_drewN ?_ _ | refine blk_drew ?_ | refine blk_alloc ?_ _)); exact BK169.out) hb); have n1_ := Aside0.mk (blk_below (g := gb170) (o := .cells #[.int .i64 a2_0, .int .i64 a2_1, .int .i64 a2_2, .int .i64 a2_3, .int .i64 a2_4, .int .i64 a2_5] 29 (0, 0)) (by (with_reducible repeat (first | refine blk_drewN ?_ _ | refine blk_drew ?_ | refine blk_alloc ?_ _)); exact BK170.out) hb); have n2_ := Aside0.mk (below_step (by repeat (first | (with_reducible first | exact HB.out | apply below_alloc | apply pw_below_drewN | apply below_drew1 | refine below_set ?_ GE169.out | refine below_set ?_ GE170.out) | exact HB.out)) hb); clear BK169; clear BK170; clear HB; have BK169 := n0_; have BK170 := n1_; have HB := n2_; clear n0_ n1_ n2_; (try clear hb); (try clear hb2); (try clear hk); (try clear hi); have hcz15_0 : w14.cell? ⟨gb170, 0, none⟩ = some (.int .i64 a2_0) := (blk_cell BK170.out 0).trans rfl; have hcz15_1 : w14.cell? ⟨gb170, 1, none⟩ = some (.int .i64 a2_1) := (blk_cell BK170.out 1).trans rfl; have hcz15_2 : w14.cell? ⟨gb170, 2, none⟩ = some (.int .i64 a2_2) := (blk_cell BK170.out 2).trans rfl; have hcz15_3 : w14.cell? ⟨gb170, 3, none⟩ = some (.int .i64 a2_3) := (blk_cell BK170.out 3).trans rfl; have hcz15_4 : w14.cell? ⟨gb170, 4, none⟩ = some (.int .i64 a2_4) := (blk_cell BK170.out 4).trans rfl; have hcz15_5 : w14.cell? ⟨gb170, 5, none⟩ = some (.int .i64 a2_5) := (blk_cell BK170.out 5).trans rfl; have hfz15_0 := blk_frozen BK170.out 0; have hfz15_1 := blk_frozen BK170.out 1; have hfz15_2 := blk_frozen BK170.out 2; have hfz15_3 := blk_frozen BK170.out 3; have hfz15_4 := blk_frozen BK170.out 4; have hfz15_5 := blk_frozen BK170.out 5) | ((with_reducible refine gate_callee (f := 77) rfl ?_); refine goesL_ (some 15) rfl rfl Try.func77 (by kernel_rfl) rfl #[.agg #[.int .i64 a2_2, .int .i64 a2_3, .int .i64 a2_4, .int .i64 a2_5], .int .i64 a2_1] rfl Z1 ?_; (with_reducible refine (ensembleref04_Units.calls k a2_2 a2_3 a2_4 a2_5 a2_1 t172 t173 _ A6.out).mono ?_); rintro e w16 ⟨rfl, hb⟩; refine ⟨_, rfl, ?_⟩; have n0_ := Aside0.mk (blk_below (g := gb169) (o := .cells #[.int .i64 a1_0, .int .i64 a1_1] 24 (0, 0)) (by (with_reducible repeat (first | refine blk_drewN ?_ _ | refine blk_drew ?_ | refine blk_alloc ?_ _)); exact BK169.out) hb); have n1_ := Aside0.mk (blk_below (g := gb170) (o := .cells #[.int .i64 a2_0, .int .i64 a2_1, .int .i64 a2_2, .int .i64 a2_3, .int .i64 a2_4, .int .i64 a2_5] 29 (0, 0)) (by (with_reducible repeat (first | refine blk_drewN ?_ _ | refine blk_drew ?_ | refine blk_alloc ?_ _)); exact BK170.out) hb); have n2_ := Aside0.mk (below_step (by repeat (first | (with_reducible first | exact HB.out | apply below_alloc | apply pw_below_drewN | apply below_drew1 | refine below_set ?_ GE169.out | refine below_set ?_ GE170.out) | exact HB.out)) hb); clear BK169; clear BK170; clear HB; have BK169 := n0_; have BK170 := n1_; have HB := n2_; clear n0_ n1_ n2_; (try clear hb); (try clear hb2); (try clear hk); (try clear hi)) | ((with_reducible refine gate_dst (N := 7) rfl ?_); refine bx 7 #[.int .i64 0, .int .i64 0] 24 ?_; intro gb174 hg w17 hbox hb; have n0_ := Aside0.mk (blk_below (g := gb169) (o := .cells #[.int .i64 a1_0, .int .i64 a1_1] 24 (0, 0)) (by (with_reducible repeat (first | refine blk_drewN ?_ _ | refine blk_drew ?_ | refine blk_alloc ?_ _)); exact BK169.out) hb); have n1_ := Aside0.mk (blk_below (g := gb170) (o := .cells #[.int .i64 a2_0, .int .i64 a2_1, .int .i64 a2_2, .int .i64 a2_3, .int .i64 a2_4, .int .i64 a2_5] 29 (0, 0)) (by (with_reducible repeat (first | refine blk_drewN ?_ _ | refine blk_drew ?_ | refine blk_alloc ?_ _)); exact BK170.out) hb); have n2_ := Aside0.mk (below_step (by repeat (first | (with_reducible first | exact HB.out | apply below_alloc | apply pw_below_drewN | apply below_drew1 | refine below_set ?_ GE169.out | refine below_set ?_ GE170.out) | exact HB.out)) hb); have n3_ := Aside0.mk (hbox); have n4_ := Aside0.mk ((by rw [hg]; exact (below_size (by repeat (first | (with_reducible first | exact HB.out | apply below_alloc | apply pw_below_drewN | apply below_drew1 | refine below_set ?_ GE169.out | refine below_set ?_ GE170.out) | exact HB.out))) : w.heap.size ≤ gb174)); have n5_ := Aside0.mk ((by rw [hg]; exact (below_size (by repeat (first | (with_reducible first | exact HB.out | apply below_alloc | apply pw_below_drewN | apply below_drew1 | refine below_set ?_ GE169.out | refine below_set ?_ GE170.out) | exact HB.out))) : w.heap.size ≤ gb174)); have n6_ := Aside0.mk ((by rw [hg]; exact Nat.ne_of_lt (blk_lt (g := gb169) (o := .cells #[.int .i64 a1_0, .int .i64 a1_1] 24 (0, 0)) (by (with_reducible repeat (first | refine blk_drewN ?_ _ | refine blk_drew ?_ | refine blk_alloc ?_ _)); exact BK169.out)) : gb169 ≠ gb174)); have n7_ := Aside0.mk ((by rw [hg]; exact Nat.ne_of_gt (blk_lt (g := gb169) (o := .cells #[.int .i64 a1_0, .int .i64 a1_1] 24 (0, 0)) (by (with_reducible repeat (first | refine blk_drewN ?_ _ | refine blk_drew ?_ | refine blk_alloc ?_ _)); exact BK169.out)) : gb174 ≠ gb169)); have n8_ := Aside0.mk ((by rw [hg]; exact Nat.ne_of_lt (blk_lt (g := gb170) (o := .cells #[.int .i64 a2_0, .int .i64 a2_1, .int .i64 a2_2, .int .i64 a2_3, .int .i64 a2_4, .int .i64 a2_5] 29 (0, 0)) (by (with_reducible repeat (first | refine blk_drewN ?_ _ | refine blk_drew ?_ | refine blk_alloc ?_ _)); exact BK170.out)) : gb170 ≠ gb174)); have n9_ := Aside0.mk ((by rw [hg]; exact Nat.ne_of_gt (blk_lt (g := gb170) (o := .cells #[.int .i64 a2_0, .int .i64 a2_1, .int .i64 a2_2, .int .i64 a2_3, .int .i64 a2_4, .int .i64 a2_5] 29 (0, 0)) (by (with_reducible repeat (first | refine blk_drewN ?_ _ | refine blk_drew ?_ | refine blk_alloc ?_ _)); exact BK170.out)) : gb174 ≠ gb170)); clear BK169; clear BK170; clear HB; have BK169 := n0_; have BK170 := n1_; have HB := n2_; have BK174 := n3_; have GW174 := n4_; have GE174 := n5_; have NB169_174 := n6_; have NB174_169 := n7_; have NB170_174 := n8_; have NB174_170 := n9_; clear n0_ n1_ n2_ n3_ n4_ n5_ n6_ n7_ n8_ n9_; clear hb hbox hg; have hnb18 := NB174_169.out; have hnc18 := NB169_174.out; have hnb19 := NB174_170.out; have hnc19 := NB170_174.out; have hcz20_0 : w17.cell? ⟨gb174, 0, none⟩ = some (.int .i64 0) := (blk_cell BK174.out 0).trans rfl; have hcz20_1 : w17.cell? ⟨gb174, 1, none⟩ = some (.int .i64 0) := (blk_cell BK174.out 1).trans rfl; have hfz20_0 := blk_frozen BK174.out 0; have hfz20_1 := blk_frozen BK174.out 1))
    have n0_ : Aside0 (((w17.setCell ⟨gb174, 0, none⟩ (.int .i64 t172)).setCell ⟨gb174, 1, none⟩ (.int .i64 t173)).heap[gb169]? = some (.cells #[.int .i64 a1_0, .int .i64 a1_1] 24 (0, 0))) := ⟨by (with_reducible repeat (first | refine blk_drewN ?_ _ | refine blk_drew ?_ | refine blk_alloc ?_ _)); refine blk_far ?_ NB169_174.out _; (with_reducible repeat (first | refine blk_drewN ?_ _ | refine blk_drew ?_ | refine blk_alloc ?_ _)); refine blk_far ?_ NB169_174.out _; (with_reducible repeat (first | refine blk_drewN ?_ _ | refine blk_drew ?_ | refine blk_alloc ?_ _)); exact BK169.out⟩
    have n1_ : Aside0 (((w17.setCell ⟨gb174, 0, none⟩ (.int .i64 t172)).setCell ⟨gb174, 1, none⟩ (.int .i64 t173)).heap[gb170]? = some (.cells #[.int .i64 a2_0, .int .i64 a2_1, .int .i64 a2_2, .int .i64 a2_3, .int .i64 a2_4, .int .i64 a2_5] 29 (0, 0))) := ⟨by (with_reducible repeat (first | refine blk_drewN ?_ _ | refine blk_drew ?_ | refine blk_alloc ?_ _)); refine blk_far ?_ NB170_174.out _; (with_reducible repeat (first | refine blk_drewN ?_ _ | refine blk_drew ?_ | refine blk_alloc ?_ _)); refine blk_far ?_ NB170_174.out _; (with_reducible repeat (first | refine blk_drewN ?_ _ | refine blk_drew ?_ | refine blk_alloc ?_ _)); exact BK170.out⟩
    have n2_ : Aside0 (((w17.setCell ⟨gb174, 0, none⟩ (.int .i64 t172)).setCell ⟨gb174, 1, none⟩ (.int .i64 t173)).heap[gb174]? = some (.cells #[.int .i64 t172, .int .i64 t173] 24 (0, 0))) := ⟨by (with_reducible repeat (first | refine blk_drewN ?_ _ | refine blk_drew ?_ | refine blk_alloc ?_ _)); refine blk_put (cs := #[.int .i64 t172, .int .i64 0]) ?_ 1 _ rfl; (with_reducible repeat (first | refine blk_drewN ?_ _ | refine blk_drew ?_ | refine blk_alloc ?_ _)); refine blk_put (cs := #[.int .i64 0, .int .i64 0]) ?_ 0 _ rfl; (with_reducible repeat (first | refine blk_drewN ?_ _ | refine blk_drew ?_ | refine blk_alloc ?_ _)); exact BK174.out⟩
    have n3_ : Aside0 (Below w.heap.size w ((w17.setCell ⟨gb174, 0, none⟩ (.int .i64 t172)).setCell ⟨gb174, 1, none⟩ (.int .i64 t173))) := ⟨by repeat (first | (with_reducible first | exact HB.out | apply below_alloc | apply pw_below_drewN | apply below_drew1 | refine below_set ?_ GE169.out | refine below_set ?_ GE170.out | refine below_set ?_ GE174.out) | exact HB.out)⟩
    (try clear BK169)
    (try clear BK170)
    (try clear BK174)
    (try clear HB)
    generalize ((w17.setCell ⟨gb174, 0, none⟩ (.int .i64 t172)).setCell ⟨gb174, 1, none⟩ (.int .i64 t173)) = w21 at n0_ n1_ n2_ n3_ ⊢
    have BK169 := n0_
    have BK170 := n1_
    have BK174 := n2_
    have HB := n3_
    clear n0_ n1_ n2_ n3_
    have n0_ := Aside0.mk (blk_drew BK169.out)
    have n1_ := Aside0.mk (blk_drew BK170.out)
    have n2_ := Aside0.mk (blk_drew BK174.out)
    have n3_ := Aside0.mk (below_drew1 HB.out)
    clear BK169
    clear BK170
    clear BK174
    clear HB
    have BK169 := n0_
    have BK170 := n1_
    have BK174 := n2_
    have HB := n3_
    clear n0_ n1_ n2_ n3_
    refine start_ (n := 22) (S := fun w' => w'.cell? ⟨gb174, 0, none⟩ = some (.int .i64 t172) ∧ w'.cell? ⟨gb174, 1, none⟩ = some (.int .i64 t173) ∧ w'.cell? ⟨gb169, 0, none⟩ = some (.int .i64 a1_0) ∧ w'.cell? ⟨gb169, 1, none⟩ = some (.int .i64 a1_1) ∧ w'.cell? ⟨gb170, 0, none⟩ = some (.int .i64 a2_0) ∧ w'.cell? ⟨gb170, 1, none⟩ = some (.int .i64 a2_1) ∧ w'.cell? ⟨gb170, 2, none⟩ = some (.int .i64 a2_2) ∧ w'.cell? ⟨gb170, 3, none⟩ = some (.int .i64 a2_3) ∧ w'.cell? ⟨gb170, 4, none⟩ = some (.int .i64 a2_4) ∧ w'.cell? ⟨gb170, 5, none⟩ = some (.int .i64 a2_5)) (ds := []) (bm 22 0) (by kernel_rfl) rfl rfl ⟨(blk_cell BK174.out 0).trans rfl, (blk_cell BK174.out 1).trans rfl, (blk_cell BK169.out 0).trans rfl, (blk_cell BK169.out 1).trans rfl, (blk_cell BK170.out 0).trans rfl, (blk_cell BK170.out 1).trans rfl, (blk_cell BK170.out 2).trans rfl, (blk_cell BK170.out 3).trans rfl, (blk_cell BK170.out 4).trans rfl, (blk_cell BK170.out 5).trans rfl⟩ (fun hHeld => ?_); refine with_tabW ensembleref12_Fits.tab4 ensembleref12_Fits.bits4 (fun HT_ HW_ => ?_)
    generalize w21.drew = w22 at BK169 BK170 BK174 HB hHeld ⊢
    refine pu 0 (some 16) (bm 22 1) ?_
    refine pu 2 (some 18) (bm 22 5) ?_
    refine tk10 1 (some 17) (bm 22 7) ?_
    refine tk10 3 (some 19) (bm 22 15) ?_
    refine pu 4 (some 20) (bm 22 31) ?_
    refine pu 5 (some 21) (bm 22 63) ?_
    refine pu 6 (some 22) (bm 22 127) ?_
    refine pu 8 (some 24) (bm 22 383) ?_
    refine tk10 7 (some 23) (bm 22 511) ?_
    refine tk10 9 (some 25) (bm 22 1023) ?_
    refine pu 10 (some 26) (bm 22 2047) ?_
    refine pu 11 (some 27) (bm 22 4095) ?_
    refine pu 12 (some 28) (bm 22 8191) ?_
    refine pu 13 (some 29) (bm 22 16383) ?_
    refine pu 14 (some 30) (bm 22 32767) ?_
    refine pu 17 (some 33) (bm 22 163839) ?_
    refine tk10 15 (some 31) (bm 22 196607) ?_
    refine tk10 18 (some 34) (bm 22 458751) ?_
    refine one_ (i := 16) (N := some 32) (bm 22 524287) rfl rfl (one_of HT_.out (by kernel_rfl)) (by decide) (fun K hK => ?_)
    refine goes_ Try.func34 (by kernel_rfl) rfl #[.slice A0 l0.length c0, .agg #[.int .i64 a2_2, .int .i64 a2_3, .int .i64 a2_4, .int .i64 a2_5]] (by rfl) rfl rfl Z1 ?_
    with_reducible refine (ensembleref05_Room.calls k _ _ l0 a2_2 a2_3 a2_4 a2_5 t175 _ ?side1 ?side2 A9.out).mono ?_
    (case side1 => repeat (first | exact (Kd.C_below HR0.out HB.out) | (with_reducible refine Kd.C_alloc ?_ _) | (with_reducible refine Kd.C_drewN ?_ _) | (with_reducible refine Kd.C_drew ?_)))
    (case side2 => exact HC0.out)
    rintro e w23 ⟨rfl, hb⟩
    refine ⟨_, rfl, ?_⟩
    have n0_ := Aside0.mk (blk_below (g := gb169) (o := .cells #[.int .i64 a1_0, .int .i64 a1_1] 24 (0, 0)) (by (with_reducible repeat (first | refine blk_drewN ?_ _ | refine blk_drew ?_ | refine blk_alloc ?_ _)); exact BK169.out) hb)
    have n1_ := Aside0.mk (blk_below (g := gb170) (o := .cells #[.int .i64 a2_0, .int .i64 a2_1, .int .i64 a2_2, .int .i64 a2_3, .int .i64 a2_4, .int .i64 a2_5] 29 (0, 0)) (by (with_reducible repeat (first | refine blk_drewN ?_ _ | refine blk_drew ?_ | refine blk_alloc ?_ _)); exact BK170.out) hb)
    have n2_ := Aside0.mk (blk_below (g := gb174) (o := .cells #[.int .i64 t172, .int .i64 t173] 24 (0, 0)) (by (with_reducible repeat (first | refine blk_drewN ?_ _ | refine blk_drew ?_ | refine blk_alloc ?_ _)); exact BK174.out) hb)
    have n3_ := Aside0.mk (below_step (by repeat (first | (with_reducible first | exact HB.out | apply below_alloc | apply pw_below_drewN | apply below_drew1 | refine below_set ?_ GE169.out | refine below_set ?_ GE170.out | refine below_set ?_ GE174.out) | exact HB.out)) hb)
    clear BK169
    clear BK170
    clear BK174
    clear HB
    have BK169 := n0_
    have BK170 := n1_
    have BK174 := n2_
    have HB := n3_
    clear n0_ n1_ n2_ n3_
    (try clear hb)
    (try clear hb2)
    (try clear hk)
    (try clear hi)
    refine hK.out _ _ ⟨(blk_cell BK174.out 0).trans rfl, (blk_cell BK174.out 1).trans rfl, (blk_cell BK169.out 0).trans rfl, (blk_cell BK169.out 1).trans rfl, (blk_cell BK170.out 0).trans rfl, (blk_cell BK170.out 1).trans rfl, (blk_cell BK170.out 2).trans rfl, (blk_cell BK170.out 3).trans rfl, (blk_cell BK170.out 4).trans rfl, (blk_cell BK170.out 5).trans rfl⟩ (fun hHeld => ?_)
    clear hK K
    refine norm_ (a' := ?_) ?_ ?_
    rotate_left
    ·show Act.put _ (some 32) _ = _
     simp only [Act.put, List.setIfInBounds_toArray, List.set_cons_zero, List.set_cons_succ, i64_w, i32_w]
     rfl
    refine pu 19 (some 35) (bm 22 1048575) ?_
    refine pu 20 (some 36) (bm 22 2097151) ?_
    refine pu 21 (some 6) (bm 22 4194303) ?_
    refine done_ (done_of HT_.out (by kernel_rfl)) ?_
    try go_wp2
    go_ret
    exact ⟨by first | rfl | (simp [errW_none, errW_some] <;> rfl) | (simp [*, errW_none, errW_some] <;> rfl), by repeat (first | (with_reducible first | exact HB.out | apply below_alloc | apply pw_below_drewN | apply below_drew1 | refine below_set ?_ GE169.out | refine below_set ?_ GE170.out | refine below_set ?_ GE174.out) | exact HB.out)⟩
   ·rw [if_neg c8] at H
    have c8b0 : decide (t173 ≤ a1_1) = false := decide_eq_false c8
    clear c8
    obtain rfl := Option.some.inj H
    go_enter Try.func30, Try.ntmps30
    try go_wp2_with (first | ((with_reducible refine gate_dst (N := 4) rfl ?_); refine bx 4 #[.int .i64 a1_0, .int .i64 a1_1] 24 ?_; intro gb169 hg w24 hbox hb; have n0_ := Aside0.mk (below_step Z0 hb); have n1_ := Aside0.mk (hbox); have n2_ := Aside0.mk ((by rw [hg]; exact (below_size Z0) : w.heap.size ≤ gb169)); have n3_ := Aside0.mk ((by rw [hg]; exact (below_size Z0) : w.heap.size ≤ gb169)); clear HB; have HB := n0_; have BK169 := n1_; have GW169 := n2_; have GE169 := n3_; clear n0_ n1_ n2_ n3_; clear hb hbox hg) | ((with_reducible refine gate_dst (N := 5) rfl ?_); refine bx 5 #[.int .i64 a2_0, .int .i64 a2_1, .int .i64 a2_2, .int .i64 a2_3, .int .i64 a2_4, .int .i64 a2_5] 29 ?_; intro gb170 hg w25 hbox hb; have n0_ := Aside0.mk (blk_below (g := gb169) (o := .cells #[.int .i64 a1_0, .int .i64 a1_1] 24 (0, 0)) (by (with_reducible repeat (first | refine blk_drewN ?_ _ | refine blk_drew ?_ | refine blk_alloc ?_ _)); exact BK169.out) hb); have n1_ := Aside0.mk (below_step (by repeat (first | (with_reducible first | exact HB.out | apply below_alloc | apply pw_below_drewN | apply below_drew1 | refine below_set ?_ GE169.out) | exact HB.out)) hb); have n2_ := Aside0.mk (hbox); have n3_ := Aside0.mk ((by rw [hg]; exact (below_size (by repeat (first | (with_reducible first | exact HB.out | apply below_alloc | apply pw_below_drewN | apply below_drew1 | refine below_set ?_ GE169.out) | exact HB.out))) : w.heap.size ≤ gb170)); have n4_ := Aside0.mk ((by rw [hg]; exact (below_size (by repeat (first | (with_reducible first | exact HB.out | apply below_alloc | apply pw_below_drewN | apply below_drew1 | refine below_set ?_ GE169.out) | exact HB.out))) : w.heap.size ≤ gb170)); have n5_ := Aside0.mk ((by rw [hg]; exact Nat.ne_of_lt (blk_lt (g := gb169) (o := .cells #[.int .i64 a1_0, .int .i64 a1_1] 24 (0, 0)) (by (with_reducible repeat (first | refine blk_drewN ?_ _ | refine blk_drew ?_ | refine blk_alloc ?_ _)); exact BK169.out)) : gb169 ≠ gb170)); have n6_ := Aside0.mk ((by rw [hg]; exact Nat.ne_of_gt (blk_lt (g := gb169) (o := .cells #[.int .i64 a1_0, .int .i64 a1_1] 24 (0, 0)) (by (with_reducible repeat (first | refine blk_drewN ?_ _ | refine blk_drew ?_ | refine blk_alloc ?_ _)); exact BK169.out)) : gb170 ≠ gb169)); clear BK169; clear HB; have BK169 := n0_; have HB := n1_; have BK170 := n2_; have GW170 := n3_; have GE170 := n4_; have NB169_170 := n5_; have NB170_169 := n6_; clear n0_ n1_ n2_ n3_ n4_ n5_ n6_; clear hb hbox hg; have hnb26 := NB170_169.out; have hnc26 := NB169_170.out; have hcz27_0 : w25.cell? ⟨gb170, 0, none⟩ = some (.int .i64 a2_0) := (blk_cell BK170.out 0).trans rfl; have hcz27_1 : w25.cell? ⟨gb170, 1, none⟩ = some (.int .i64 a2_1) := (blk_cell BK170.out 1).trans rfl; have hcz27_2 : w25.cell? ⟨gb170, 2, none⟩ = some (.int .i64 a2_2) := (blk_cell BK170.out 2).trans rfl; have hcz27_3 : w25.cell? ⟨gb170, 3, none⟩ = some (.int .i64 a2_3) := (blk_cell BK170.out 3).trans rfl; have hcz27_4 : w25.cell? ⟨gb170, 4, none⟩ = some (.int .i64 a2_4) := (blk_cell BK170.out 4).trans rfl; have hcz27_5 : w25.cell? ⟨gb170, 5, none⟩ = some (.int .i64 a2_5) := (blk_cell BK170.out 5).trans rfl; have hfz27_0 := blk_frozen BK170.out 0; have hfz27_1 := blk_frozen BK170.out 1; have hfz27_2 := blk_frozen BK170.out 2; have hfz27_3 := blk_frozen BK170.out 3; have hfz27_4 := blk_frozen BK170.out 4; have hfz27_5 := blk_frozen BK170.out 5) | ((with_reducible refine gate_callee (f := 33) rfl ?_); refine goesL_ (some 9) rfl rfl Try.func33 (by kernel_rfl) rfl #[.agg #[.int .i64 a2_0, .int .i64 a2_1, .int .i64 a2_2, .int .i64 a2_3, .int .i64 a2_4, .int .i64 a2_5]] rfl Z1 ?_; (with_reducible refine (ensembleref12_Right.calls a2_0 a2_1 a2_2 a2_3 a2_4 a2_5 true _ A4.out).mono ?_); rintro e w28 ⟨rfl, hb⟩; refine ⟨_, rfl, ?_⟩; have n0_ := Aside0.mk (blk_below (g := gb169) (o := .cells #[.int .i64 a1_0, .int .i64 a1_1] 24 (0, 0)) (by (with_reducible repeat (first | refine blk_drewN ?_ _ | refine blk_drew ?_ | refine blk_alloc ?_ _)); exact BK169.out) hb); have n1_ := Aside0.mk (blk_below (g := gb170) (o := .cells #[.int .i64 a2_0, .int .i64 a2_1, .int .i64 a2_2, .int .i64 a2_3, .int .i64 a2_4, .int .i64 a2_5] 29 (0, 0)) (by (with_reducible repeat (first | refine blk_drewN ?_ _ | refine blk_drew ?_ | refine blk_alloc ?_ _)); exact BK170.out) hb); have n2_ := Aside0.mk (below_step (by repeat (first | (with_reducible first | exact HB.out | apply below_alloc | apply pw_below_drewN | apply below_drew1 | refine below_set ?_ GE169.out | refine below_set ?_ GE170.out) | exact HB.out)) hb); clear BK169; clear BK170; clear HB; have BK169 := n0_; have BK170 := n1_; have HB := n2_; clear n0_ n1_ n2_; (try clear hb); (try clear hb2); (try clear hk); (try clear hi); have hcz29_0 : w28.cell? ⟨gb170, 0, none⟩ = some (.int .i64 a2_0) := (blk_cell BK170.out 0).trans rfl; have hcz29_1 : w28.cell? ⟨gb170, 1, none⟩ = some (.int .i64 a2_1) := (blk_cell BK170.out 1).trans rfl; have hcz29_2 : w28.cell? ⟨gb170, 2, none⟩ = some (.int .i64 a2_2) := (blk_cell BK170.out 2).trans rfl; have hcz29_3 : w28.cell? ⟨gb170, 3, none⟩ = some (.int .i64 a2_3) := (blk_cell BK170.out 3).trans rfl; have hcz29_4 : w28.cell? ⟨gb170, 4, none⟩ = some (.int .i64 a2_4) := (blk_cell BK170.out 4).trans rfl; have hcz29_5 : w28.cell? ⟨gb170, 5, none⟩ = some (.int .i64 a2_5) := (blk_cell BK170.out 5).trans rfl; have hfz29_0 := blk_frozen BK170.out 0; have hfz29_1 := blk_frozen BK170.out 1; have hfz29_2 := blk_frozen BK170.out 2; have hfz29_3 := blk_frozen BK170.out 3; have hfz29_4 := blk_frozen BK170.out 4; have hfz29_5 := blk_frozen BK170.out 5) | ((with_reducible refine gate_callee (f := 77) rfl ?_); refine goesL_ (some 15) rfl rfl Try.func77 (by kernel_rfl) rfl #[.agg #[.int .i64 a2_2, .int .i64 a2_3, .int .i64 a2_4, .int .i64 a2_5], .int .i64 a2_1] rfl Z1 ?_; (with_reducible refine (ensembleref04_Units.calls k a2_2 a2_3 a2_4 a2_5 a2_1 t172 t173 _ A6.out).mono ?_); rintro e w30 ⟨rfl, hb⟩; refine ⟨_, rfl, ?_⟩; have n0_ := Aside0.mk (blk_below (g := gb169) (o := .cells #[.int .i64 a1_0, .int .i64 a1_1] 24 (0, 0)) (by (with_reducible repeat (first | refine blk_drewN ?_ _ | refine blk_drew ?_ | refine blk_alloc ?_ _)); exact BK169.out) hb); have n1_ := Aside0.mk (blk_below (g := gb170) (o := .cells #[.int .i64 a2_0, .int .i64 a2_1, .int .i64 a2_2, .int .i64 a2_3, .int .i64 a2_4, .int .i64 a2_5] 29 (0, 0)) (by (with_reducible repeat (first | refine blk_drewN ?_ _ | refine blk_drew ?_ | refine blk_alloc ?_ _)); exact BK170.out) hb); have n2_ := Aside0.mk (below_step (by repeat (first | (with_reducible first | exact HB.out | apply below_alloc | apply pw_below_drewN | apply below_drew1 | refine below_set ?_ GE169.out | refine below_set ?_ GE170.out) | exact HB.out)) hb); clear BK169; clear BK170; clear HB; have BK169 := n0_; have BK170 := n1_; have HB := n2_; clear n0_ n1_ n2_; (try clear hb); (try clear hb2); (try clear hk); (try clear hi)) | ((with_reducible refine gate_dst (N := 7) rfl ?_); refine bx 7 #[.int .i64 0, .int .i64 0] 24 ?_; intro gb174 hg w31 hbox hb; have n0_ := Aside0.mk (blk_below (g := gb169) (o := .cells #[.int .i64 a1_0, .int .i64 a1_1] 24 (0, 0)) (by (with_reducible repeat (first | refine blk_drewN ?_ _ | refine blk_drew ?_ | refine blk_alloc ?_ _)); exact BK169.out) hb); have n1_ := Aside0.mk (blk_below (g := gb170) (o := .cells #[.int .i64 a2_0, .int .i64 a2_1, .int .i64 a2_2, .int .i64 a2_3, .int .i64 a2_4, .int .i64 a2_5] 29 (0, 0)) (by (with_reducible repeat (first | refine blk_drewN ?_ _ | refine blk_drew ?_ | refine blk_alloc ?_ _)); exact BK170.out) hb); have n2_ := Aside0.mk (below_step (by repeat (first | (with_reducible first | exact HB.out | apply below_alloc | apply pw_below_drewN | apply below_drew1 | refine below_set ?_ GE169.out | refine below_set ?_ GE170.out) | exact HB.out)) hb); have n3_ := Aside0.mk (hbox); have n4_ := Aside0.mk ((by rw [hg]; exact (below_size (by repeat (first | (with_reducible first | exact HB.out | apply below_alloc | apply pw_below_drewN | apply below_drew1 | refine below_set ?_ GE169.out | refine below_set ?_ GE170.out) | exact HB.out))) : w.heap.size ≤ gb174)); have n5_ := Aside0.mk ((by rw [hg]; exact (below_size (by repeat (first | (with_reducible first | exact HB.out | apply below_alloc | apply pw_below_drewN | apply below_drew1 | refine below_set ?_ GE169.out | refine below_set ?_ GE170.out) | exact HB.out))) : w.heap.size ≤ gb174)); have n6_ := Aside0.mk ((by rw [hg]; exact Nat.ne_of_lt (blk_lt (g := gb169) (o := .cells #[.int .i64 a1_0, .int .i64 a1_1] 24 (0, 0)) (by (with_reducible repeat (first | refine blk_drewN ?_ _ | refine blk_drew ?_ | refine blk_alloc ?_ _)); exact BK169.out)) : gb169 ≠ gb174)); have n7_ := Aside0.mk ((by rw [hg]; exact Nat.ne_of_gt (blk_lt (g := gb169) (o := .cells #[.int .i64 a1_0, .int .i64 a1_1] 24 (0, 0)) (by (with_reducible repeat (first | refine blk_drewN ?_ _ | refine blk_drew ?_ | refine blk_alloc ?_ _)); exact BK169.out)) : gb174 ≠ gb169)); have n8_ := Aside0.mk ((by rw [hg]; exact Nat.ne_of_lt (blk_lt (g := gb170) (o := .cells #[.int .i64 a2_0, .int .i64 a2_1, .int .i64 a2_2, .int .i64 a2_3, .int .i64 a2_4, .int .i64 a2_5] 29 (0, 0)) (by (with_reducible repeat (first | refine blk_drewN ?_ _ | refine blk_drew ?_ | refine blk_alloc ?_ _)); exact BK170.out)) : gb170 ≠ gb174)); have n9_ := Aside0.mk ((by rw [hg]; exact Nat.ne_of_gt (blk_lt (g := gb170) (o := .cells #[.int .i64 a2_0, .int .i64 a2_1, .int .i64 a2_2, .int .i64 a2_3, .int .i64 a2_4, .int .i64 a2_5] 29 (0, 0)) (by (with_reducible repeat (first | refine blk_drewN ?_ _ | refine blk_drew ?_ | refine blk_alloc ?_ _)); exact BK170.out)) : gb174 ≠ gb170)); clear BK169; clear BK170; clear HB; have BK169 := n0_; have BK170 := n1_; have HB := n2_; have BK174 := n3_; have GW174 := n4_; have GE174 := n5_; have NB169_174 := n6_; have NB174_169 := n7_; have NB170_174 := n8_; have NB174_170 := n9_; clear n0_ n1_ n2_ n3_ n4_ n5_ n6_ n7_ n8_ n9_; clear hb hbox hg; have hnb32 := NB174_169.out; have hnc32 := NB169_174.out; have hnb33 := NB174_170.out; have hnc33 := NB170_174.out; have hcz34_0 : w31.cell? ⟨gb174, 0, none⟩ = some (.int .i64 0) := (blk_cell BK174.out 0).trans rfl; have hcz34_1 : w31.cell? ⟨gb174, 1, none⟩ = some (.int .i64 0) := (blk_cell BK174.out 1).trans rfl; have hfz34_0 := blk_frozen BK174.out 0; have hfz34_1 := blk_frozen BK174.out 1))
    have n0_ : Aside0 (((w31.setCell ⟨gb174, 0, none⟩ (.int .i64 t172)).setCell ⟨gb174, 1, none⟩ (.int .i64 t173)).heap[gb169]? = some (.cells #[.int .i64 a1_0, .int .i64 a1_1] 24 (0, 0))) := ⟨by (with_reducible repeat (first | refine blk_drewN ?_ _ | refine blk_drew ?_ | refine blk_alloc ?_ _)); refine blk_far ?_ NB169_174.out _; (with_reducible repeat (first | refine blk_drewN ?_ _ | refine blk_drew ?_ | refine blk_alloc ?_ _)); refine blk_far ?_ NB169_174.out _; (with_reducible repeat (first | refine blk_drewN ?_ _ | refine blk_drew ?_ | refine blk_alloc ?_ _)); exact BK169.out⟩
    have n1_ : Aside0 (((w31.setCell ⟨gb174, 0, none⟩ (.int .i64 t172)).setCell ⟨gb174, 1, none⟩ (.int .i64 t173)).heap[gb170]? = some (.cells #[.int .i64 a2_0, .int .i64 a2_1, .int .i64 a2_2, .int .i64 a2_3, .int .i64 a2_4, .int .i64 a2_5] 29 (0, 0))) := ⟨by (with_reducible repeat (first | refine blk_drewN ?_ _ | refine blk_drew ?_ | refine blk_alloc ?_ _)); refine blk_far ?_ NB170_174.out _; (with_reducible repeat (first | refine blk_drewN ?_ _ | refine blk_drew ?_ | refine blk_alloc ?_ _)); refine blk_far ?_ NB170_174.out _; (with_reducible repeat (first | refine blk_drewN ?_ _ | refine blk_drew ?_ | refine blk_alloc ?_ _)); exact BK170.out⟩
    have n2_ : Aside0 (((w31.setCell ⟨gb174, 0, none⟩ (.int .i64 t172)).setCell ⟨gb174, 1, none⟩ (.int .i64 t173)).heap[gb174]? = some (.cells #[.int .i64 t172, .int .i64 t173] 24 (0, 0))) := ⟨by (with_reducible repeat (first | refine blk_drewN ?_ _ | refine blk_drew ?_ | refine blk_alloc ?_ _)); refine blk_put (cs := #[.int .i64 t172, .int .i64 0]) ?_ 1 _ rfl; (with_reducible repeat (first | refine blk_drewN ?_ _ | refine blk_drew ?_ | refine blk_alloc ?_ _)); refine blk_put (cs := #[.int .i64 0, .int .i64 0]) ?_ 0 _ rfl; (with_reducible repeat (first | refine blk_drewN ?_ _ | refine blk_drew ?_ | refine blk_alloc ?_ _)); exact BK174.out⟩
    have n3_ : Aside0 (Below w.heap.size w ((w31.setCell ⟨gb174, 0, none⟩ (.int .i64 t172)).setCell ⟨gb174, 1, none⟩ (.int .i64 t173))) := ⟨by repeat (first | (with_reducible first | exact HB.out | apply below_alloc | apply pw_below_drewN | apply below_drew1 | refine below_set ?_ GE169.out | refine below_set ?_ GE170.out | refine below_set ?_ GE174.out) | exact HB.out)⟩
    (try clear BK169)
    (try clear BK170)
    (try clear BK174)
    (try clear HB)
    generalize ((w31.setCell ⟨gb174, 0, none⟩ (.int .i64 t172)).setCell ⟨gb174, 1, none⟩ (.int .i64 t173)) = w35 at n0_ n1_ n2_ n3_ ⊢
    have BK169 := n0_
    have BK170 := n1_
    have BK174 := n2_
    have HB := n3_
    clear n0_ n1_ n2_ n3_
    have n0_ := Aside0.mk (blk_drew BK169.out)
    have n1_ := Aside0.mk (blk_drew BK170.out)
    have n2_ := Aside0.mk (blk_drew BK174.out)
    have n3_ := Aside0.mk (below_drew1 HB.out)
    clear BK169
    clear BK170
    clear BK174
    clear HB
    have BK169 := n0_
    have BK170 := n1_
    have BK174 := n2_
    have HB := n3_
    clear n0_ n1_ n2_ n3_
    refine start_ (n := 22) (S := fun w' => w'.cell? ⟨gb174, 0, none⟩ = some (.int .i64 t172) ∧ w'.cell? ⟨gb174, 1, none⟩ = some (.int .i64 t173) ∧ w'.cell? ⟨gb169, 0, none⟩ = some (.int .i64 a1_0) ∧ w'.cell? ⟨gb169, 1, none⟩ = some (.int .i64 a1_1)) (ds := []) (bm 22 0) (by kernel_rfl) rfl rfl ⟨(blk_cell BK174.out 0).trans rfl, (blk_cell BK174.out 1).trans rfl, (blk_cell BK169.out 0).trans rfl, (blk_cell BK169.out 1).trans rfl⟩ (fun hHeld => ?_); refine with_tabW ensembleref12_Fits.tab4 ensembleref12_Fits.bits4 (fun HT_ HW_ => ?_)
    generalize w35.drew = w36 at BK169 BK170 BK174 HB hHeld ⊢
    refine pu 0 (some 16) (bm 22 1) ?_
    refine pu 2 (some 18) (bm 22 5) ?_
    refine tk4 1 (some 17) (bm 22 7) ?_
    refine tk4 3 (some 19) (bm 22 15) ?_
    refine pu 4 (some 20) (bm 22 31) ?_
    refine pu 5 (some 21) (bm 22 63) ?_
    refine pu 6 (some 22) (bm 22 127) ?_
    refine pu 8 (some 24) (bm 22 383) ?_
    refine tk4 7 (some 23) (bm 22 511) ?_
    refine tk4 9 (some 25) (bm 22 1023) ?_
    refine pu 10 (some 26) (bm 22 2047) ?_
    refine pu 11 (some 27) (bm 22 4095) ?_
    refine pu 12 (some 28) (bm 22 8191) ?_
    refine pure_ (i := 13) (N := some 29) (v := undef) (a' := ?_) (bm 22 16383) rfl rfl (any_of HT_.out (by kernel_rfl)) (fun _ _ _ h => h) (Or.inr ⟨by rfl, rfl⟩) ?_ ?_
    rotate_left
    ·simp only [Act.put, List.setIfInBounds_toArray, List.set_cons_zero, List.set_cons_succ, i64_w, i32_w]
     rfl
    refine pure_ (i := 14) (N := some 30) (v := undef) (a' := ?_) (bm 22 32767) rfl rfl (any_of HT_.out (by kernel_rfl)) (fun _ _ _ h => h) (Or.inr ⟨by rfl, rfl⟩) ?_ ?_
    rotate_left
    ·simp only [Act.put, List.setIfInBounds_toArray, List.set_cons_zero, List.set_cons_succ, i64_w, i32_w]
     rfl
    refine pure_ (i := 15) (N := some 31) (v := undef) (a' := ?_) (bm 22 65535) rfl rfl (any_of HT_.out (by kernel_rfl)) (fun _ _ _ h => h) (Or.inr ⟨by rfl, rfl⟩) ?_ ?_
    rotate_left
    ·simp only [Act.put, List.setIfInBounds_toArray, List.set_cons_zero, List.set_cons_succ, i64_w, i32_w]
     rfl
    refine pure_ (i := 16) (N := some 32) (v := undef) (a' := ?_) (bm 22 131071) rfl rfl (any_of HT_.out (by kernel_rfl)) (fun _ _ _ h => h) (Or.inr ⟨by rfl, rfl⟩) ?_ ?_
    rotate_left
    ·simp only [Act.put, List.setIfInBounds_toArray, List.set_cons_zero, List.set_cons_succ, i64_w, i32_w]
     rfl
    refine pure_ (i := 17) (N := some 33) (v := undef) (a' := ?_) (bm 22 262143) rfl rfl (any_of HT_.out (by kernel_rfl)) (fun _ _ _ h => h) (Or.inr ⟨by rfl, rfl⟩) ?_ ?_
    rotate_left
    ·simp only [Act.put, List.setIfInBounds_toArray, List.set_cons_zero, List.set_cons_succ, i64_w, i32_w]
     rfl
    refine pure_ (i := 18) (N := some 34) (v := undef) (a' := ?_) (bm 22 524287) rfl rfl (any_of HT_.out (by kernel_rfl)) (fun _ _ _ h => h) (Or.inr ⟨by rfl, rfl⟩) ?_ ?_
    rotate_left
    ·simp only [Act.put, List.setIfInBounds_toArray, List.set_cons_zero, List.set_cons_succ, i64_w, i32_w]
     rfl
    refine pure_ (i := 19) (N := some 35) (v := undef) (a' := ?_) (bm 22 1048575) rfl rfl (any_of HT_.out (by kernel_rfl)) (fun _ _ _ h => h) (Or.inr ⟨by rfl, rfl⟩) ?_ ?_
    rotate_left
    ·simp only [Act.put, List.setIfInBounds_toArray, List.set_cons_zero, List.set_cons_succ, i64_w, i32_w]
     rfl
    refine pu 20 (some 36) (bm 22 2097151) ?_
    refine pu 21 (some 6) (bm 22 4194303) ?_
    refine done_ (done_of HT_.out (by kernel_rfl)) ?_
    try go_wp2
    go_ret
    exact ⟨by first | rfl | (simp [errW_none, errW_some] <;> rfl) | (simp [*, errW_none, errW_some] <;> rfl), by repeat (first | (with_reducible first | exact HB.out | apply below_alloc | apply pw_below_drewN | apply below_drew1 | refine below_set ?_ GE169.out | refine below_set ?_ GE170.out | refine below_set ?_ GE174.out) | exact HB.out)⟩
  ·rw [if_neg c7] at H
   have c7b0 : decide (t172 ≤ a1_0) = false := decide_eq_false c7
   clear c7
   obtain rfl := Option.some.inj H
   go_enter Try.func30, Try.ntmps30
   try go_wp2_with (first | ((with_reducible refine gate_dst (N := 4) rfl ?_); refine bx 4 #[.int .i64 a1_0, .int .i64 a1_1] 24 ?_; intro gb169 hg w37 hbox hb; have n0_ := Aside0.mk (below_step Z0 hb); have n1_ := Aside0.mk (hbox); have n2_ := Aside0.mk ((by rw [hg]; exact (below_size Z0) : w.heap.size ≤ gb169)); have n3_ := Aside0.mk ((by rw [hg]; exact (below_size Z0) : w.heap.size ≤ gb169)); clear HB; have HB := n0_; have BK169 := n1_; have GW169 := n2_; have GE169 := n3_; clear n0_ n1_ n2_ n3_; clear hb hbox hg) | ((with_reducible refine gate_dst (N := 5) rfl ?_); refine bx 5 #[.int .i64 a2_0, .int .i64 a2_1, .int .i64 a2_2, .int .i64 a2_3, .int .i64 a2_4, .int .i64 a2_5] 29 ?_; intro gb170 hg w38 hbox hb; have n0_ := Aside0.mk (blk_below (g := gb169) (o := .cells #[.int .i64 a1_0, .int .i64 a1_1] 24 (0, 0)) (by (with_reducible repeat (first | refine blk_drewN ?_ _ | refine blk_drew ?_ | refine blk_alloc ?_ _)); exact BK169.out) hb); have n1_ := Aside0.mk (below_step (by repeat (first | (with_reducible first | exact HB.out | apply below_alloc | apply pw_below_drewN | apply below_drew1 | refine below_set ?_ GE169.out) | exact HB.out)) hb); have n2_ := Aside0.mk (hbox); have n3_ := Aside0.mk ((by rw [hg]; exact (below_size (by repeat (first | (with_reducible first | exact HB.out | apply below_alloc | apply pw_below_drewN | apply below_drew1 | refine below_set ?_ GE169.out) | exact HB.out))) : w.heap.size ≤ gb170)); have n4_ := Aside0.mk ((by rw [hg]; exact (below_size (by repeat (first | (with_reducible first | exact HB.out | apply below_alloc | apply pw_below_drewN | apply below_drew1 | refine below_set ?_ GE169.out) | exact HB.out))) : w.heap.size ≤ gb170)); have n5_ := Aside0.mk ((by rw [hg]; exact Nat.ne_of_lt (blk_lt (g := gb169) (o := .cells #[.int .i64 a1_0, .int .i64 a1_1] 24 (0, 0)) (by (with_reducible repeat (first | refine blk_drewN ?_ _ | refine blk_drew ?_ | refine blk_alloc ?_ _)); exact BK169.out)) : gb169 ≠ gb170)); have n6_ := Aside0.mk ((by rw [hg]; exact Nat.ne_of_gt (blk_lt (g := gb169) (o := .cells #[.int .i64 a1_0, .int .i64 a1_1] 24 (0, 0)) (by (with_reducible repeat (first | refine blk_drewN ?_ _ | refine blk_drew ?_ | refine blk_alloc ?_ _)); exact BK169.out)) : gb170 ≠ gb169)); clear BK169; clear HB; have BK169 := n0_; have HB := n1_; have BK170 := n2_; have GW170 := n3_; have GE170 := n4_; have NB169_170 := n5_; have NB170_169 := n6_; clear n0_ n1_ n2_ n3_ n4_ n5_ n6_; clear hb hbox hg; have hnb39 := NB170_169.out; have hnc39 := NB169_170.out; have hcz40_0 : w38.cell? ⟨gb170, 0, none⟩ = some (.int .i64 a2_0) := (blk_cell BK170.out 0).trans rfl; have hcz40_1 : w38.cell? ⟨gb170, 1, none⟩ = some (.int .i64 a2_1) := (blk_cell BK170.out 1).trans rfl; have hcz40_2 : w38.cell? ⟨gb170, 2, none⟩ = some (.int .i64 a2_2) := (blk_cell BK170.out 2).trans rfl; have hcz40_3 : w38.cell? ⟨gb170, 3, none⟩ = some (.int .i64 a2_3) := (blk_cell BK170.out 3).trans rfl; have hcz40_4 : w38.cell? ⟨gb170, 4, none⟩ = some (.int .i64 a2_4) := (blk_cell BK170.out 4).trans rfl; have hcz40_5 : w38.cell? ⟨gb170, 5, none⟩ = some (.int .i64 a2_5) := (blk_cell BK170.out 5).trans rfl; have hfz40_0 := blk_frozen BK170.out 0; have hfz40_1 := blk_frozen BK170.out 1; have hfz40_2 := blk_frozen BK170.out 2; have hfz40_3 := blk_frozen BK170.out 3; have hfz40_4 := blk_frozen BK170.out 4; have hfz40_5 := blk_frozen BK170.out 5) | ((with_reducible refine gate_callee (f := 33) rfl ?_); refine goesL_ (some 9) rfl rfl Try.func33 (by kernel_rfl) rfl #[.agg #[.int .i64 a2_0, .int .i64 a2_1, .int .i64 a2_2, .int .i64 a2_3, .int .i64 a2_4, .int .i64 a2_5]] rfl Z1 ?_; (with_reducible refine (ensembleref12_Right.calls a2_0 a2_1 a2_2 a2_3 a2_4 a2_5 true _ A4.out).mono ?_); rintro e w41 ⟨rfl, hb⟩; refine ⟨_, rfl, ?_⟩; have n0_ := Aside0.mk (blk_below (g := gb169) (o := .cells #[.int .i64 a1_0, .int .i64 a1_1] 24 (0, 0)) (by (with_reducible repeat (first | refine blk_drewN ?_ _ | refine blk_drew ?_ | refine blk_alloc ?_ _)); exact BK169.out) hb); have n1_ := Aside0.mk (blk_below (g := gb170) (o := .cells #[.int .i64 a2_0, .int .i64 a2_1, .int .i64 a2_2, .int .i64 a2_3, .int .i64 a2_4, .int .i64 a2_5] 29 (0, 0)) (by (with_reducible repeat (first | refine blk_drewN ?_ _ | refine blk_drew ?_ | refine blk_alloc ?_ _)); exact BK170.out) hb); have n2_ := Aside0.mk (below_step (by repeat (first | (with_reducible first | exact HB.out | apply below_alloc | apply pw_below_drewN | apply below_drew1 | refine below_set ?_ GE169.out | refine below_set ?_ GE170.out) | exact HB.out)) hb); clear BK169; clear BK170; clear HB; have BK169 := n0_; have BK170 := n1_; have HB := n2_; clear n0_ n1_ n2_; (try clear hb); (try clear hb2); (try clear hk); (try clear hi); have hcz42_0 : w41.cell? ⟨gb170, 0, none⟩ = some (.int .i64 a2_0) := (blk_cell BK170.out 0).trans rfl; have hcz42_1 : w41.cell? ⟨gb170, 1, none⟩ = some (.int .i64 a2_1) := (blk_cell BK170.out 1).trans rfl; have hcz42_2 : w41.cell? ⟨gb170, 2, none⟩ = some (.int .i64 a2_2) := (blk_cell BK170.out 2).trans rfl; have hcz42_3 : w41.cell? ⟨gb170, 3, none⟩ = some (.int .i64 a2_3) := (blk_cell BK170.out 3).trans rfl; have hcz42_4 : w41.cell? ⟨gb170, 4, none⟩ = some (.int .i64 a2_4) := (blk_cell BK170.out 4).trans rfl; have hcz42_5 : w41.cell? ⟨gb170, 5, none⟩ = some (.int .i64 a2_5) := (blk_cell BK170.out 5).trans rfl; have hfz42_0 := blk_frozen BK170.out 0; have hfz42_1 := blk_frozen BK170.out 1; have hfz42_2 := blk_frozen BK170.out 2; have hfz42_3 := blk_frozen BK170.out 3; have hfz42_4 := blk_frozen BK170.out 4; have hfz42_5 := blk_frozen BK170.out 5) | ((with_reducible refine gate_callee (f := 77) rfl ?_); refine goesL_ (some 15) rfl rfl Try.func77 (by kernel_rfl) rfl #[.agg #[.int .i64 a2_2, .int .i64 a2_3, .int .i64 a2_4, .int .i64 a2_5], .int .i64 a2_1] rfl Z1 ?_; (with_reducible refine (ensembleref04_Units.calls k a2_2 a2_3 a2_4 a2_5 a2_1 t172 t173 _ A6.out).mono ?_); rintro e w43 ⟨rfl, hb⟩; refine ⟨_, rfl, ?_⟩; have n0_ := Aside0.mk (blk_below (g := gb169) (o := .cells #[.int .i64 a1_0, .int .i64 a1_1] 24 (0, 0)) (by (with_reducible repeat (first | refine blk_drewN ?_ _ | refine blk_drew ?_ | refine blk_alloc ?_ _)); exact BK169.out) hb); have n1_ := Aside0.mk (blk_below (g := gb170) (o := .cells #[.int .i64 a2_0, .int .i64 a2_1, .int .i64 a2_2, .int .i64 a2_3, .int .i64 a2_4, .int .i64 a2_5] 29 (0, 0)) (by (with_reducible repeat (first | refine blk_drewN ?_ _ | refine blk_drew ?_ | refine blk_alloc ?_ _)); exact BK170.out) hb); have n2_ := Aside0.mk (below_step (by repeat (first | (with_reducible first | exact HB.out | apply below_alloc | apply pw_below_drewN | apply below_drew1 | refine below_set ?_ GE169.out | refine below_set ?_ GE170.out) | exact HB.out)) hb); clear BK169; clear BK170; clear HB; have BK169 := n0_; have BK170 := n1_; have HB := n2_; clear n0_ n1_ n2_; (try clear hb); (try clear hb2); (try clear hk); (try clear hi)) | ((with_reducible refine gate_dst (N := 7) rfl ?_); refine bx 7 #[.int .i64 0, .int .i64 0] 24 ?_; intro gb174 hg w44 hbox hb; have n0_ := Aside0.mk (blk_below (g := gb169) (o := .cells #[.int .i64 a1_0, .int .i64 a1_1] 24 (0, 0)) (by (with_reducible repeat (first | refine blk_drewN ?_ _ | refine blk_drew ?_ | refine blk_alloc ?_ _)); exact BK169.out) hb); have n1_ := Aside0.mk (blk_below (g := gb170) (o := .cells #[.int .i64 a2_0, .int .i64 a2_1, .int .i64 a2_2, .int .i64 a2_3, .int .i64 a2_4, .int .i64 a2_5] 29 (0, 0)) (by (with_reducible repeat (first | refine blk_drewN ?_ _ | refine blk_drew ?_ | refine blk_alloc ?_ _)); exact BK170.out) hb); have n2_ := Aside0.mk (below_step (by repeat (first | (with_reducible first | exact HB.out | apply below_alloc | apply pw_below_drewN | apply below_drew1 | refine below_set ?_ GE169.out | refine below_set ?_ GE170.out) | exact HB.out)) hb); have n3_ := Aside0.mk (hbox); have n4_ := Aside0.mk ((by rw [hg]; exact (below_size (by repeat (first | (with_reducible first | exact HB.out | apply below_alloc | apply pw_below_drewN | apply below_drew1 | refine below_set ?_ GE169.out | refine below_set ?_ GE170.out) | exact HB.out))) : w.heap.size ≤ gb174)); have n5_ := Aside0.mk ((by rw [hg]; exact (below_size (by repeat (first | (with_reducible first | exact HB.out | apply below_alloc | apply pw_below_drewN | apply below_drew1 | refine below_set ?_ GE169.out | refine below_set ?_ GE170.out) | exact HB.out))) : w.heap.size ≤ gb174)); have n6_ := Aside0.mk ((by rw [hg]; exact Nat.ne_of_lt (blk_lt (g := gb169) (o := .cells #[.int .i64 a1_0, .int .i64 a1_1] 24 (0, 0)) (by (with_reducible repeat (first | refine blk_drewN ?_ _ | refine blk_drew ?_ | refine blk_alloc ?_ _)); exact BK169.out)) : gb169 ≠ gb174)); have n7_ := Aside0.mk ((by rw [hg]; exact Nat.ne_of_gt (blk_lt (g := gb169) (o := .cells #[.int .i64 a1_0, .int .i64 a1_1] 24 (0, 0)) (by (with_reducible repeat (first | refine blk_drewN ?_ _ | refine blk_drew ?_ | refine blk_alloc ?_ _)); exact BK169.out)) : gb174 ≠ gb169)); have n8_ := Aside0.mk ((by rw [hg]; exact Nat.ne_of_lt (blk_lt (g := gb170) (o := .cells #[.int .i64 a2_0, .int .i64 a2_1, .int .i64 a2_2, .int .i64 a2_3, .int .i64 a2_4, .int .i64 a2_5] 29 (0, 0)) (by (with_reducible repeat (first | refine blk_drewN ?_ _ | refine blk_drew ?_ | refine blk_alloc ?_ _)); exact BK170.out)) : gb170 ≠ gb174)); have n9_ := Aside0.mk ((by rw [hg]; exact Nat.ne_of_gt (blk_lt (g := gb170) (o := .cells #[.int .i64 a2_0, .int .i64 a2_1, .int .i64 a2_2, .int .i64 a2_3, .int .i64 a2_4, .int .i64 a2_5] 29 (0, 0)) (by (with_reducible repeat (first | refine blk_drewN ?_ _ | refine blk_drew ?_ | refine blk_alloc ?_ _)); exact BK170.out)) : gb174 ≠ gb170)); clear BK169; clear BK170; clear HB; have BK169 := n0_; have BK170 := n1_; have HB := n2_; have BK174 := n3_; have GW174 := n4_; have GE174 := n5_; have NB169_174 := n6_; have NB174_169 := n7_; have NB170_174 := n8_; have NB174_170 := n9_; clear n0_ n1_ n2_ n3_ n4_ n5_ n6_ n7_ n8_ n9_; clear hb hbox hg; have hnb45 := NB174_169.out; have hnc45 := NB169_174.out; have hnb46 := NB174_170.out; have hnc46 := NB170_174.out; have hcz47_0 : w44.cell? ⟨gb174, 0, none⟩ = some (.int .i64 0) := (blk_cell BK174.out 0).trans rfl; have hcz47_1 : w44.cell? ⟨gb174, 1, none⟩ = some (.int .i64 0) := (blk_cell BK174.out 1).trans rfl; have hfz47_0 := blk_frozen BK174.out 0; have hfz47_1 := blk_frozen BK174.out 1))
   have n0_ : Aside0 (((w44.setCell ⟨gb174, 0, none⟩ (.int .i64 t172)).setCell ⟨gb174, 1, none⟩ (.int .i64 t173)).heap[gb169]? = some (.cells #[.int .i64 a1_0, .int .i64 a1_1] 24 (0, 0))) := ⟨by (with_reducible repeat (first | refine blk_drewN ?_ _ | refine blk_drew ?_ | refine blk_alloc ?_ _)); refine blk_far ?_ NB169_174.out _; (with_reducible repeat (first | refine blk_drewN ?_ _ | refine blk_drew ?_ | refine blk_alloc ?_ _)); refine blk_far ?_ NB169_174.out _; (with_reducible repeat (first | refine blk_drewN ?_ _ | refine blk_drew ?_ | refine blk_alloc ?_ _)); exact BK169.out⟩
   have n1_ : Aside0 (((w44.setCell ⟨gb174, 0, none⟩ (.int .i64 t172)).setCell ⟨gb174, 1, none⟩ (.int .i64 t173)).heap[gb170]? = some (.cells #[.int .i64 a2_0, .int .i64 a2_1, .int .i64 a2_2, .int .i64 a2_3, .int .i64 a2_4, .int .i64 a2_5] 29 (0, 0))) := ⟨by (with_reducible repeat (first | refine blk_drewN ?_ _ | refine blk_drew ?_ | refine blk_alloc ?_ _)); refine blk_far ?_ NB170_174.out _; (with_reducible repeat (first | refine blk_drewN ?_ _ | refine blk_drew ?_ | refine blk_alloc ?_ _)); refine blk_far ?_ NB170_174.out _; (with_reducible repeat (first | refine blk_drewN ?_ _ | refine blk_drew ?_ | refine blk_alloc ?_ _)); exact BK170.out⟩
   have n2_ : Aside0 (((w44.setCell ⟨gb174, 0, none⟩ (.int .i64 t172)).setCell ⟨gb174, 1, none⟩ (.int .i64 t173)).heap[gb174]? = some (.cells #[.int .i64 t172, .int .i64 t173] 24 (0, 0))) := ⟨by (with_reducible repeat (first | refine blk_drewN ?_ _ | refine blk_drew ?_ | refine blk_alloc ?_ _)); refine blk_put (cs := #[.int .i64 t172, .int .i64 0]) ?_ 1 _ rfl; (with_reducible repeat (first | refine blk_drewN ?_ _ | refine blk_drew ?_ | refine blk_alloc ?_ _)); refine blk_put (cs := #[.int .i64 0, .int .i64 0]) ?_ 0 _ rfl; (with_reducible repeat (first | refine blk_drewN ?_ _ | refine blk_drew ?_ | refine blk_alloc ?_ _)); exact BK174.out⟩
   have n3_ : Aside0 (Below w.heap.size w ((w44.setCell ⟨gb174, 0, none⟩ (.int .i64 t172)).setCell ⟨gb174, 1, none⟩ (.int .i64 t173))) := ⟨by repeat (first | (with_reducible first | exact HB.out | apply below_alloc | apply pw_below_drewN | apply below_drew1 | refine below_set ?_ GE169.out | refine below_set ?_ GE170.out | refine below_set ?_ GE174.out) | exact HB.out)⟩
   (try clear BK169)
   (try clear BK170)
   (try clear BK174)
   (try clear HB)
   generalize ((w44.setCell ⟨gb174, 0, none⟩ (.int .i64 t172)).setCell ⟨gb174, 1, none⟩ (.int .i64 t173)) = w48 at n0_ n1_ n2_ n3_ ⊢
   have BK169 := n0_
   have BK170 := n1_
   have BK174 := n2_
   have HB := n3_
   clear n0_ n1_ n2_ n3_
   have n0_ := Aside0.mk (blk_drew BK169.out)
   have n1_ := Aside0.mk (blk_drew BK170.out)
   have n2_ := Aside0.mk (blk_drew BK174.out)
   have n3_ := Aside0.mk (below_drew1 HB.out)
   clear BK169
   clear BK170
   clear BK174
   clear HB
   have BK169 := n0_
   have BK170 := n1_
   have BK174 := n2_
   have HB := n3_
   clear n0_ n1_ n2_ n3_
   refine start_ (n := 22) (S := fun w' => w'.cell? ⟨gb174, 0, none⟩ = some (.int .i64 t172) ∧ w'.cell? ⟨gb174, 1, none⟩ = some (.int .i64 t173) ∧ w'.cell? ⟨gb169, 0, none⟩ = some (.int .i64 a1_0) ∧ w'.cell? ⟨gb169, 1, none⟩ = some (.int .i64 a1_1)) (ds := []) (bm 22 0) (by kernel_rfl) rfl rfl ⟨(blk_cell BK174.out 0).trans rfl, (blk_cell BK174.out 1).trans rfl, (blk_cell BK169.out 0).trans rfl, (blk_cell BK169.out 1).trans rfl⟩ (fun hHeld => ?_); refine with_tabW ensembleref12_Fits.tab4 ensembleref12_Fits.bits4 (fun HT_ HW_ => ?_)
   generalize w48.drew = w49 at BK169 BK170 BK174 HB hHeld ⊢
   refine pu 0 (some 16) (bm 22 1) ?_
   refine pu 2 (some 18) (bm 22 5) ?_
   refine tk4 1 (some 17) (bm 22 7) ?_
   refine tk4 3 (some 19) (bm 22 15) ?_
   refine pu 4 (some 20) (bm 22 31) ?_
   refine pu 5 (some 21) (bm 22 63) ?_
   refine pure_ (i := 6) (N := some 22) (v := undef) (a' := ?_) (bm 22 127) rfl rfl (any_of HT_.out (by kernel_rfl)) (fun _ _ _ h => h) (Or.inr ⟨by rfl, rfl⟩) ?_ ?_
   rotate_left
   ·simp only [Act.put, List.setIfInBounds_toArray, List.set_cons_zero, List.set_cons_succ, i64_w, i32_w]
    rfl
   refine pure_ (i := 7) (N := some 23) (v := undef) (a' := ?_) (bm 22 255) rfl rfl (any_of HT_.out (by kernel_rfl)) (fun _ _ _ h => h) (Or.inr ⟨by rfl, rfl⟩) ?_ ?_
   rotate_left
   ·simp only [Act.put, List.setIfInBounds_toArray, List.set_cons_zero, List.set_cons_succ, i64_w, i32_w]
    rfl
   refine pure_ (i := 8) (N := some 24) (v := undef) (a' := ?_) (bm 22 511) rfl rfl (any_of HT_.out (by kernel_rfl)) (fun _ _ _ h => h) (Or.inr ⟨by rfl, rfl⟩) ?_ ?_
   rotate_left
   ·simp only [Act.put, List.setIfInBounds_toArray, List.set_cons_zero, List.set_cons_succ, i64_w, i32_w]
    rfl
   refine pure_ (i := 9) (N := some 25) (v := undef) (a' := ?_) (bm 22 1023) rfl rfl (any_of HT_.out (by kernel_rfl)) (fun _ _ _ h => h) (Or.inr ⟨by rfl, rfl⟩) ?_ ?_
   rotate_left
   ·simp only [Act.put, List.setIfInBounds_toArray, List.set_cons_zero, List.set_cons_succ, i64_w, i32_w]
    rfl
   refine pure_ (i := 10) (N := some 26) (v := undef) (a' := ?_) (bm 22 2047) rfl rfl (any_of HT_.out (by kernel_rfl)) (fun _ _ _ h => h) (Or.inr ⟨by rfl, rfl⟩) ?_ ?_
   rotate_left
   ·simp only [Act.put, List.setIfInBounds_toArray, List.set_cons_zero, List.set_cons_succ, i64_w, i32_w]
    rfl
   refine pu 11 (some 27) (bm 22 4095) ?_
   refine pu 12 (some 28) (bm 22 8191) ?_
   refine pure_ (i := 13) (N := some 29) (v := undef) (a' := ?_) (bm 22 16383) rfl rfl (any_of HT_.out (by kernel_rfl)) (fun _ _ _ h => h) (Or.inr ⟨by rfl, rfl⟩) ?_ ?_
   rotate_left
   ·simp only [Act.put, List.setIfInBounds_toArray, List.set_cons_zero, List.set_cons_succ, i64_w, i32_w]
    rfl
   refine pure_ (i := 14) (N := some 30) (v := undef) (a' := ?_) (bm 22 32767) rfl rfl (any_of HT_.out (by kernel_rfl)) (fun _ _ _ h => h) (Or.inr ⟨by rfl, rfl⟩) ?_ ?_
   rotate_left
   ·simp only [Act.put, List.setIfInBounds_toArray, List.set_cons_zero, List.set_cons_succ, i64_w, i32_w]
    rfl
   refine pure_ (i := 15) (N := some 31) (v := undef) (a' := ?_) (bm 22 65535) rfl rfl (any_of HT_.out (by kernel_rfl)) (fun _ _ _ h => h) (Or.inr ⟨by rfl, rfl⟩) ?_ ?_
   rotate_left
   ·simp only [Act.put, List.setIfInBounds_toArray, List.set_cons_zero, List.set_cons_succ, i64_w, i32_w]
    rfl
   refine pure_ (i := 16) (N := some 32) (v := undef) (a' := ?_) (bm 22 131071) rfl rfl (any_of HT_.out (by kernel_rfl)) (fun _ _ _ h => h) (Or.inr ⟨by rfl, rfl⟩) ?_ ?_
   rotate_left
   ·simp only [Act.put, List.setIfInBounds_toArray, List.set_cons_zero, List.set_cons_succ, i64_w, i32_w]
    rfl
   refine pure_ (i := 17) (N := some 33) (v := undef) (a' := ?_) (bm 22 262143) rfl rfl (any_of HT_.out (by kernel_rfl)) (fun _ _ _ h => h) (Or.inr ⟨by rfl, rfl⟩) ?_ ?_
   rotate_left
   ·simp only [Act.put, List.setIfInBounds_toArray, List.set_cons_zero, List.set_cons_succ, i64_w, i32_w]
    rfl
   refine pure_ (i := 18) (N := some 34) (v := undef) (a' := ?_) (bm 22 524287) rfl rfl (any_of HT_.out (by kernel_rfl)) (fun _ _ _ h => h) (Or.inr ⟨by rfl, rfl⟩) ?_ ?_
   rotate_left
   ·simp only [Act.put, List.setIfInBounds_toArray, List.set_cons_zero, List.set_cons_succ, i64_w, i32_w]
    rfl
   refine pure_ (i := 19) (N := some 35) (v := undef) (a' := ?_) (bm 22 1048575) rfl rfl (any_of HT_.out (by kernel_rfl)) (fun _ _ _ h => h) (Or.inr ⟨by rfl, rfl⟩) ?_ ?_
   rotate_left
   ·simp only [Act.put, List.setIfInBounds_toArray, List.set_cons_zero, List.set_cons_succ, i64_w, i32_w]
    rfl
   refine pu 20 (some 36) (bm 22 2097151) ?_
   refine pu 21 (some 6) (bm 22 4194303) ?_
   refine done_ (done_of HT_.out (by kernel_rfl)) ?_
   try go_wp2
   go_ret
   exact ⟨by first | rfl | (simp [errW_none, errW_some] <;> rfl) | (simp [*, errW_none, errW_some] <;> rfl), by repeat (first | (with_reducible first | exact HB.out | apply below_alloc | apply pw_below_drewN | apply below_drew1 | refine below_set ?_ GE169.out | refine below_set ?_ GE170.out | refine below_set ?_ GE174.out) | exact HB.out)⟩
 ·replace c5 := Bool.eq_false_iff.mpr c5
  subst c5
  have H1 : (some false) = some r := by rw [if_neg (show ¬ (false = true) by decide)] at H; exact H
  clear H
  have H := H1
  clear H1
  obtain rfl := Option.some.inj H
  go_enter Try.func30, Try.ntmps30
  go_wp2_with (first | ((with_reducible refine gate_dst (N := 4) rfl ?_); refine bx 4 #[.int .i64 a1_0, .int .i64 a1_1] 24 ?_; intro gb169 hg w50 hbox hb; have n0_ := Aside0.mk (below_step Z0 hb); have n1_ := Aside0.mk (hbox); have n2_ := Aside0.mk ((by rw [hg]; exact (below_size Z0) : w.heap.size ≤ gb169)); have n3_ := Aside0.mk ((by rw [hg]; exact (below_size Z0) : w.heap.size ≤ gb169)); clear HB; have HB := n0_; have BK169 := n1_; have GW169 := n2_; have GE169 := n3_; clear n0_ n1_ n2_ n3_; clear hb hbox hg) | ((with_reducible refine gate_dst (N := 5) rfl ?_); refine bx 5 #[.int .i64 a2_0, .int .i64 a2_1, .int .i64 a2_2, .int .i64 a2_3, .int .i64 a2_4, .int .i64 a2_5] 29 ?_; intro gb170 hg w51 hbox hb; have n0_ := Aside0.mk (blk_below (g := gb169) (o := .cells #[.int .i64 a1_0, .int .i64 a1_1] 24 (0, 0)) (by (with_reducible repeat (first | refine blk_drewN ?_ _ | refine blk_drew ?_ | refine blk_alloc ?_ _)); exact BK169.out) hb); have n1_ := Aside0.mk (below_step (by repeat (first | (with_reducible first | exact HB.out | apply below_alloc | apply pw_below_drewN | apply below_drew1 | refine below_set ?_ GE169.out) | exact HB.out)) hb); have n2_ := Aside0.mk (hbox); have n3_ := Aside0.mk ((by rw [hg]; exact (below_size (by repeat (first | (with_reducible first | exact HB.out | apply below_alloc | apply pw_below_drewN | apply below_drew1 | refine below_set ?_ GE169.out) | exact HB.out))) : w.heap.size ≤ gb170)); have n4_ := Aside0.mk ((by rw [hg]; exact (below_size (by repeat (first | (with_reducible first | exact HB.out | apply below_alloc | apply pw_below_drewN | apply below_drew1 | refine below_set ?_ GE169.out) | exact HB.out))) : w.heap.size ≤ gb170)); have n5_ := Aside0.mk ((by rw [hg]; exact Nat.ne_of_lt (blk_lt (g := gb169) (o := .cells #[.int .i64 a1_0, .int .i64 a1_1] 24 (0, 0)) (by (with_reducible repeat (first | refine blk_drewN ?_ _ | refine blk_drew ?_ | refine blk_alloc ?_ _)); exact BK169.out)) : gb169 ≠ gb170)); have n6_ := Aside0.mk ((by rw [hg]; exact Nat.ne_of_gt (blk_lt (g := gb169) (o := .cells #[.int .i64 a1_0, .int .i64 a1_1] 24 (0, 0)) (by (with_reducible repeat (first | refine blk_drewN ?_ _ | refine blk_drew ?_ | refine blk_alloc ?_ _)); exact BK169.out)) : gb170 ≠ gb169)); clear BK169; clear HB; have BK169 := n0_; have HB := n1_; have BK170 := n2_; have GW170 := n3_; have GE170 := n4_; have NB169_170 := n5_; have NB170_169 := n6_; clear n0_ n1_ n2_ n3_ n4_ n5_ n6_; clear hb hbox hg; have hnb52 := NB170_169.out; have hnc52 := NB169_170.out; have hcz53_0 : w51.cell? ⟨gb170, 0, none⟩ = some (.int .i64 a2_0) := (blk_cell BK170.out 0).trans rfl; have hcz53_1 : w51.cell? ⟨gb170, 1, none⟩ = some (.int .i64 a2_1) := (blk_cell BK170.out 1).trans rfl; have hcz53_2 : w51.cell? ⟨gb170, 2, none⟩ = some (.int .i64 a2_2) := (blk_cell BK170.out 2).trans rfl; have hcz53_3 : w51.cell? ⟨gb170, 3, none⟩ = some (.int .i64 a2_3) := (blk_cell BK170.out 3).trans rfl; have hcz53_4 : w51.cell? ⟨gb170, 4, none⟩ = some (.int .i64 a2_4) := (blk_cell BK170.out 4).trans rfl; have hcz53_5 : w51.cell? ⟨gb170, 5, none⟩ = some (.int .i64 a2_5) := (blk_cell BK170.out 5).trans rfl; have hfz53_0 := blk_frozen BK170.out 0; have hfz53_1 := blk_frozen BK170.out 1; have hfz53_2 := blk_frozen BK170.out 2; have hfz53_3 := blk_frozen BK170.out 3; have hfz53_4 := blk_frozen BK170.out 4; have hfz53_5 := blk_frozen BK170.out 5) | ((with_reducible refine gate_callee (f := 33) rfl ?_); refine goesL_ (some 9) rfl rfl Try.func33 (by kernel_rfl) rfl #[.agg #[.int .i64 a2_0, .int .i64 a2_1, .int .i64 a2_2, .int .i64 a2_3, .int .i64 a2_4, .int .i64 a2_5]] rfl Z1 ?_; (with_reducible refine (ensembleref12_Right.calls a2_0 a2_1 a2_2 a2_3 a2_4 a2_5 false _ A4.out).mono ?_); rintro e w54 ⟨rfl, hb⟩; refine ⟨_, rfl, ?_⟩; have n0_ := Aside0.mk (blk_below (g := gb169) (o := .cells #[.int .i64 a1_0, .int .i64 a1_1] 24 (0, 0)) (by (with_reducible repeat (first | refine blk_drewN ?_ _ | refine blk_drew ?_ | refine blk_alloc ?_ _)); exact BK169.out) hb); have n1_ := Aside0.mk (blk_below (g := gb170) (o := .cells #[.int .i64 a2_0, .int .i64 a2_1, .int .i64 a2_2, .int .i64 a2_3, .int .i64 a2_4, .int .i64 a2_5] 29 (0, 0)) (by (with_reducible repeat (first | refine blk_drewN ?_ _ | refine blk_drew ?_ | refine blk_alloc ?_ _)); exact BK170.out) hb); have n2_ := Aside0.mk (below_step (by repeat (first | (with_reducible first | exact HB.out | apply below_alloc | apply pw_below_drewN | apply below_drew1 | refine below_set ?_ GE169.out | refine below_set ?_ GE170.out) | exact HB.out)) hb); clear BK169; clear BK170; clear HB; have BK169 := n0_; have BK170 := n1_; have HB := n2_; clear n0_ n1_ n2_; (try clear hb); (try clear hb2); (try clear hk); (try clear hi)))
  go_ret
  exact ⟨by first | rfl | (simp [errW_none, errW_some] <;> rfl) | (simp [*, errW_none, errW_some] <;> rfl), by repeat (first | (with_reducible first | exact HB.out | apply below_alloc | apply pw_below_drewN | apply below_drew1 | refine below_set ?_ GE169.out | refine below_set ?_ GE170.out) | exact HB.out)⟩
end Go.Proofs.Ytckhjehibjdjdaa.P
namespace Go.Proofs.Ytckhjehibjdjdaa.P
open Go.RowKit Go.Proofs.YtckhjehibjdjdaaW.PrintWords Go.Proofs.YtckhjehibjdjdaaW.PrintLast Go.Proofs.YtckhjehibjdjdaaW.PrintMore
attribute [local go_sem] max2_int min2_int max_two min_two max_three min_three max_four min_four
set_option linter.unusedVariables false
set_option linter.unusedSimpArgs false
def ensembleref05_masks.l0 : Nat → Int → Int → List Int → Int → Option (Int)
 | 0, _, _, _, _ => none
 | k + 1, x1, x5, x6, x7 => if x7 < (x6.length : Int) then (if 0 ≤ x7 then ((ensembleref01_Has.f k x1 (rd x6 x7)).bind fun t180 => (if t180 = true then (ensembleref05_masks.l0 k x1 (wrap64 (x5 + 1)) x6 (wrap64 (x7 + 1))) else (ensembleref05_masks.l0 k x1 x5 x6 (wrap64 (x7 + 1))))) else (none)) else (some x5)
def ensembleref05_masks.f (k : Nat) (a0 : Int) (a1 : Int) : Option (Int) := (ensembleref01_Units.f k a0).bind fun t176 => (ensembleref05_masks.l0 k a1 0 t176 0)
set_option maxHeartbeats 8000000 in
set_option maxRecDepth 100000 in
theorem ensembleref05_masks.calls (k : Nat) (a0 : Int) (a1 : Int) (r : Int) (w : World) (h : ensembleref05_masks.f k a0 a1 = some r) :
  Calls Try.prog 80 #[.int .u64 a0, .int .u64 a1] w fun e w' => e = .returned (.int .i64 r) ∧ Below w.heap.size w w' := by
 have HB := Aside0.mk (Below.refl w.heap.size w)
 have H : ((ensembleref01_Units.f k a0).bind fun t176 => (ensembleref05_masks.l0 k a1 0 t176 0)) = some r := h
 clear h
 replace H := Option.bind_eq_some_iff.mp H
 obtain ⟨t176, A30, H⟩ := H
 replace H : (ensembleref05_masks.l0 k a1 0 t176 0) = some r := H
 have A3 := Aside0.mk A30
 clear A30
 have H' := Aside0.mk H
 clear H
 go_enter Try.func80, Try.ntmps80
 go_wp2_with (first | ((with_reducible refine gate_callee (f := 82) rfl ?_); refine goesL_ (some 9) rfl rfl Try.func82 (by kernel_rfl) rfl #[.int .u64 a0] rfl Z1 ?_; (with_reducible refine (ensembleref01_Units.calls k a0 t176 _ A3.out).mono ?_); rintro e w4 ⟨v177, rfl, ho0, hb⟩; refine ⟨_, rfl, ?_⟩; have n0_ := Aside0.mk (Kd.R_lower ho0 (below_size Z0)); have n1_ := Aside0.mk (below_step Z0 hb); clear HB; have HO178 := n0_; have HB := n1_; clear n0_ n1_; (try clear hb); (try clear hb2); (try clear hk); (try clear hi); (try clear ho0)))
 go_loopg [5, 7] k (fun kq v5 v7 w' => ∃ (x5_1 : Int) (x7_1 : Int), v5 = .int .i64 x5_1 ∧ v7 = .int .i64 x7_1 ∧ Aside0 (ensembleref05_masks.l0 kq a1 x5_1 t176 x7_1 = some r) ∧ Aside0 (kq ≤ k) ∧ Aside0 (Kd.R (Kd.int .i64) 3 w' w.heap.size (fun _ => True) v177 t176) ∧ Aside0 (Below w.heap.size w w'))
 case atStart => exact ⟨(0), (0), Z4, Z4, H', ⟨Nat.le_refl _⟩, ⟨by (with_reducible repeat (first | apply Kd.R_alloc | apply Kd.R_drewN | apply Kd.R_drew)); exact HO178.out⟩, ⟨by repeat (first | (with_reducible first | exact HB.out | apply below_alloc | apply pw_below_drewN | apply below_drew1) | exact HB.out)⟩⟩
 case round =>
  clear H'
  try clear p2
  obtain ⟨x5_1, x7_1, rfl, rfl, HA, HK1, HO_6, HB⟩ := hrel
  cases gk with
  | zero => exact absurd HA.out (by simp [ensembleref05_masks.l0])
  | succ k1 =>
   have H := HA.out
   clear HA
   simp only [ensembleref05_masks.l0] at H
   by_cases c5 : x7_1 < (t176.length : Int)
   ·rw [if_pos c5] at H
    have c5b0 : decide (x7_1 < (t176.length : Int)) = true := decide_eq_true c5
    clear c5
    by_cases c6 : 0 ≤ x7_1
    ·rw [if_pos c6] at H
     have c6b0 : decide (0 ≤ x7_1) = true := decide_eq_true c6
     clear c6
     replace H := Option.bind_eq_some_iff.mp H
     obtain ⟨t180, A70, H⟩ := H
     replace H : (if t180 = true then (ensembleref05_masks.l0 k1 a1 (wrap64 (x5_1 + 1)) t176 (wrap64 (x7_1 + 1))) else (ensembleref05_masks.l0 k1 a1 x5_1 t176 (wrap64 (x7_1 + 1)))) = some r := H
     have A7 := Aside0.mk A70
     clear A70
     by_cases c8 : t180 = true
     ·subst c8
      have H1 : (ensembleref05_masks.l0 k1 a1 (wrap64 (x5_1 + 1)) t176 (wrap64 (x7_1 + 1))) = some r := by rw [if_pos rfl] at H; exact H
      clear H
      have H := H1
      clear H1
      have H' := Aside0.mk H
      clear H
      obtain ⟨Ao9, co9, eo9⟩ := Kd.R_slice HO_6.out
      subst eo9
      have p179 : 0 ≤ (x7_1 : Int) := of_decide_eq_true Z2
      have q179 : x7_1 < (t176.length : Int) := of_decide_eq_true Z2
      obtain ⟨ad179, e179, hx179_0⟩ := Kd.at_int (Kd.R_reads' HO_6.out).2.2 x7_1 p179 q179
      cases e179
      replace p179 := eq_true p179
      replace q179 := eq_true q179
      go_wp2_with (first | ((with_reducible refine gate_callee (f := 106) rfl ?_); refine goesL_ (some 21) rfl rfl Try.func106 (by kernel_rfl) rfl #[.int .u64 a1, .int .i64 (rd t176 x7_1)] rfl Z1 ?_; (with_reducible refine (ensembleref01_Has.calls k1 a1 (rd t176 x7_1) true _ A7.out).mono ?_); rintro e w' ⟨rfl, ⟨nd, rfl⟩⟩; refine ⟨_, rfl, ?_⟩))
      go_roundg k1
      case measure => have := HK1.out; omega
      case rel => exact ⟨(wrap64 (x5_1 + 1)), (wrap64 (x7_1 + 1)), Z4, Z4, H', ⟨by have := HK1.out; omega⟩, ⟨by (with_reducible repeat (first | apply Kd.R_alloc | apply Kd.R_drewN | apply Kd.R_drew)); exact HO_6.out⟩, ⟨by repeat (first | (with_reducible first | exact HB.out | apply below_alloc | apply pw_below_drewN | apply below_drew1) | exact HB.out)⟩⟩
     ·replace c8 := Bool.eq_false_iff.mpr c8
      subst c8
      have H1 : (ensembleref05_masks.l0 k1 a1 x5_1 t176 (wrap64 (x7_1 + 1))) = some r := by rw [if_neg (show ¬ (false = true) by decide)] at H; exact H
      clear H
      have H := H1
      clear H1
      have H' := Aside0.mk H
      clear H
      obtain ⟨Ao10, co10, eo10⟩ := Kd.R_slice HO_6.out
      subst eo10
      have p179 : 0 ≤ (x7_1 : Int) := of_decide_eq_true Z2
      have q179 : x7_1 < (t176.length : Int) := of_decide_eq_true Z2
      obtain ⟨ad179, e179, hx179_0⟩ := Kd.at_int (Kd.R_reads' HO_6.out).2.2 x7_1 p179 q179
      cases e179
      replace p179 := eq_true p179
      replace q179 := eq_true q179
      go_wp2_with (first | ((with_reducible refine gate_callee (f := 106) rfl ?_); refine goesL_ (some 21) rfl rfl Try.func106 (by kernel_rfl) rfl #[.int .u64 a1, .int .i64 (rd t176 x7_1)] rfl Z1 ?_; (with_reducible refine (ensembleref01_Has.calls k1 a1 (rd t176 x7_1) false _ A7.out).mono ?_); rintro e w' ⟨rfl, ⟨nd, rfl⟩⟩; refine ⟨_, rfl, ?_⟩))
      go_roundg k1
      case measure => have := HK1.out; omega
      case rel => exact ⟨(x5_1), (wrap64 (x7_1 + 1)), Z4, Z4, H', ⟨by have := HK1.out; omega⟩, ⟨by (with_reducible repeat (first | apply Kd.R_alloc | apply Kd.R_drewN | apply Kd.R_drew)); exact HO_6.out⟩, ⟨by repeat (first | (with_reducible first | exact HB.out | apply below_alloc | apply pw_below_drewN | apply below_drew1) | exact HB.out)⟩⟩
    ·rw [if_neg c6] at H
     exact absurd H (by simp)
   ·rw [if_neg c5] at H
    have c5b0 : decide (x7_1 < (t176.length : Int)) = false := decide_eq_false c5
    clear c5
    obtain rfl := Option.some.inj H
    obtain ⟨Ao11, co11, eo11⟩ := Kd.R_slice HO_6.out
    subst eo11
    go_wp2
    go_ret
    exact ⟨by first | rfl | (simp [errW_none, errW_some] <;> rfl) | (simp [*, errW_none, errW_some] <;> rfl), by repeat (first | (with_reducible first | exact HB.out | apply below_alloc | apply pw_below_drewN | apply below_drew1) | exact HB.out)⟩
end Go.Proofs.Ytckhjehibjdjdaa.P
namespace Go.Proofs.Ytckhjehibjdjdaa.P
open Go.RowKit Go.Proofs.YtckhjehibjdjdaaW.PrintWords Go.Proofs.YtckhjehibjdjdaaW.PrintLast Go.Proofs.YtckhjehibjdjdaaW.PrintMore
attribute [local go_sem] max2_int min2_int max_two min_two max_three min_three max_four min_four
set_option linter.unusedVariables false
set_option linter.unusedSimpArgs false
theorem eqA48 (d : Nat) (w : World) (x0 y0 : Int) (x1 y1 : Int) :
  (Op.equalIn (d + 2) 48 (.agg #[.int .i64 x0, .int .i64 x1]) (.agg #[.int .i64 y0, .int .i64 y1])).run Try.prog w = .ok (x0 == y0 && (x1 == y1)) w := by
 refine eqA_of Try.underlying48 (by kernel_rfl) ?_
 refine eqf_cons (by rfl) (by go_simp; rfl) (by go_simp; rfl) (by go_simp) ?_
 exact eqf_last (by rfl) (by go_simp; rfl) (by go_simp; rfl) (by go_simp)
end Go.Proofs.Ytckhjehibjdjdaa.P
namespace Go.Proofs.Ytckhjehibjdjdaa.P
open Go.RowKit Go.Proofs.YtckhjehibjdjdaaW.PrintWords Go.Proofs.YtckhjehibjdjdaaW.PrintLast Go.Proofs.YtckhjehibjdjdaaW.PrintMore
attribute [local go_sem] max2_int min2_int max_two min_two max_three min_three max_four min_four
set_option linter.unusedVariables false
set_option linter.unusedSimpArgs false
attribute [local go_sem high] eqA48
def ensembleref05_find.l0 : Nat → List (S51) → Int → Int → Int → Option (Int)
 | 0, _, _, _, _ => none
 | k + 1, x0, x5, x119000, x119001 => if x5 < (x0.length : Int) then (if 0 ≤ x5 then (if (((rd_T51 x0 x5).f0.f0) == x119000 && (((rd_T51 x0 x5).f0.f1) == x119001)) = true then (some x5) else (ensembleref05_find.l0 k x0 (wrap64 (x5 + 1)) x119000 x119001)) else (none)) else (some (-1))
def ensembleref05_find.f (k : Nat) (l0 : List (S51)) (a1_0 : Int) (a1_1 : Int) : Option (Int) := ensembleref05_find.l0 k l0 0 a1_0 a1_1
set_option maxHeartbeats 8000000 in
set_option maxRecDepth 100000 in
theorem ensembleref05_find.calls (k : Nat) (A0 : Option Addr) (c0 : Nat) (l0 : List (S51)) (a1_0 : Int) (a1_1 : Int) (r : Int) (w : World) (hr0 : Kd.C k51 w A0 l0.length l0) (hc0 : l0.length ≤ c0) (h : ensembleref05_find.f k l0 a1_0 a1_1 = some r) :
  Calls Try.prog 79 #[.slice A0 l0.length c0, .agg #[.int .i64 a1_0, .int .i64 a1_1]] w fun e w' => e = .returned (.int .i64 r) ∧ Below w.heap.size w w' := by
 have hu48 := Try.underlying48
 have HR0 := Aside0.mk hr0
 have HC0 := Aside0.mk hc0
 clear hr0 hc0
 have HB := Aside0.mk (Below.refl w.heap.size w)
 have H : (ensembleref05_find.l0 k l0 0 a1_0 a1_1) = some r := h
 clear h
 have H' := Aside0.mk H
 clear H
 go_enter Try.func79, Try.ntmps79
 go_wp2_with (first | ((with_reducible refine gate_dst (N := 3) rfl ?_); refine bx 3 #[.int .i64 a1_0, .int .i64 a1_1] 48 ?_; intro gb118 hg w3 hbox hb; have n0_ := Aside0.mk (below_step Z0 hb); have n1_ := Aside0.mk (hbox); have n2_ := Aside0.mk ((by rw [hg]; exact (below_size Z0) : w.heap.size ≤ gb118)); have n3_ := Aside0.mk ((by rw [hg]; exact (below_size Z0) : w.heap.size ≤ gb118)); clear HB; have HB := n0_; have BK118 := n1_; have GW118 := n2_; have GE118 := n3_; clear n0_ n1_ n2_ n3_; clear hb hbox hg))
 repeat (go_quiet (first | ((with_reducible refine gate_dst (N := 3) rfl ?_); refine bx 3 #[.int .i64 a1_0, .int .i64 a1_1] 48 ?_; intro gb118 hg w3 hbox hb; have n0_ := Aside0.mk (below_step Z0 hb); have n1_ := Aside0.mk (hbox); have n2_ := Aside0.mk ((by rw [hg]; exact (below_size Z0) : w.heap.size ≤ gb118)); have n3_ := Aside0.mk ((by rw [hg]; exact (below_size Z0) : w.heap.size ≤ gb118)); clear HB; have HB := n0_; have BK118 := n1_; have GW118 := n2_; have GE118 := n3_; clear n0_ n1_ n2_ n3_; clear hb hbox hg)); try go_wp2_with (first | ((with_reducible refine gate_dst (N := 3) rfl ?_); refine bx 3 #[.int .i64 a1_0, .int .i64 a1_1] 48 ?_; intro gb118 hg w3 hbox hb; have n0_ := Aside0.mk (below_step Z0 hb); have n1_ := Aside0.mk (hbox); have n2_ := Aside0.mk ((by rw [hg]; exact (below_size Z0) : w.heap.size ≤ gb118)); have n3_ := Aside0.mk ((by rw [hg]; exact (below_size Z0) : w.heap.size ≤ gb118)); clear HB; have HB := n0_; have BK118 := n1_; have GW118 := n2_; have GE118 := n3_; clear n0_ n1_ n2_ n3_; clear hb hbox hg)))
 go_loopg [5] k (fun kq v5 w' => ∃ (x5_1 : Int), v5 = .int .i64 x5_1 ∧ Aside0 (ensembleref05_find.l0 kq l0 x5_1 a1_0 a1_1 = some r) ∧ Aside0 (kq ≤ k) ∧ Aside0 (w'.heap[gb118]? = some (.cells #[.int .i64 a1_0, .int .i64 a1_1] 48 (0, 0))) ∧ Aside0 (Below w.heap.size w w'))
 case atStart => exact ⟨(0), Z4, H', ⟨Nat.le_refl _⟩, ⟨by (with_reducible repeat (first | refine blk_drewN ?_ _ | refine blk_drew ?_ | refine blk_alloc ?_ _)); exact BK118.out⟩, ⟨by repeat (first | (with_reducible first | exact HB.out | apply below_alloc | apply pw_below_drewN | apply below_drew1 | refine below_set ?_ GE118.out) | exact HB.out)⟩⟩
 case round =>
  clear H'
  try clear p2
  obtain ⟨x5_1, rfl, HA, HK1, BK118, HB⟩ := hrel
  cases gk with
  | zero => exact absurd HA.out (by simp [ensembleref05_find.l0])
  | succ k1 =>
   have H := HA.out
   clear HA
   simp only [ensembleref05_find.l0] at H
   by_cases c4 : x5_1 < (l0.length : Int)
   ·rw [if_pos c4] at H
    have c4b0 : decide (x5_1 < (l0.length : Int)) = true := decide_eq_true c4
    clear c4
    by_cases c5 : 0 ≤ x5_1
    ·rw [if_pos c5] at H
     have c5b0 : decide (0 ≤ x5_1) = true := decide_eq_true c5
     clear c5
     by_cases c6 : (((rd_T51 l0 x5_1).f0.f0) == a1_0 && (((rd_T51 l0 x5_1).f0.f1) == a1_1)) = true
     ·rw [if_pos c6] at H
      have c6b0 : (((rd_T51 l0 x5_1).f0.f0) == a1_0 && (((rd_T51 l0 x5_1).f0.f1) == a1_1)) = true := c6
      (try (have c6b1 : decide (((rd_T51 l0 x5_1).f0.f0) = a1_0 && (((rd_T51 l0 x5_1).f0.f1) == a1_1)) = true := by simpa using c6))
      (try (have c6b2 : (((rd_T51 l0 x5_1).f0.f0) == a1_0 && (((rd_T51 l0 x5_1).f0.f1) == a1_1)) = true := by simpa using c6))
      clear c6
      obtain rfl := Option.some.inj H
      have p119 : 0 ≤ (x5_1 : Int) := of_decide_eq_true Z2
      have q119 : x5_1 < (l0.length : Int) := of_decide_eq_true Z2
      obtain ⟨ad119, e119, hx119_0, hx119_1, hx119_2, hx119_3⟩ := at_T51 HR0.out x5_1 p119 q119
      cases e119
      replace hx119_0 := (HB.out.cell (World.block_lt_of_cell? w _ hx119_0)).trans hx119_0
      replace hx119_1 := (HB.out.cell (World.block_lt_of_cell? w _ hx119_1)).trans hx119_1
      replace hx119_2 := (HB.out.cell (World.block_lt_of_cell? w _ hx119_2)).trans hx119_2
      replace hx119_3 := (HB.out.cell (World.block_lt_of_cell? w _ hx119_3)).trans hx119_3
      replace p119 := eq_true p119
      replace q119 := eq_true q119
      have hcz7_0 : wr.cell? ⟨gb118, 0, none⟩ = some (.int .i64 a1_0) := (blk_cell BK118.out 0).trans rfl
      have hcz7_1 : wr.cell? ⟨gb118, 1, none⟩ = some (.int .i64 a1_1) := (blk_cell BK118.out 1).trans rfl
      have hfz7_0 := blk_frozen BK118.out 0
      have hfz7_1 := blk_frozen BK118.out 1
      go_wp2
      repeat (go_quiet (fail); try go_wp2)
      go_ret
      exact ⟨by first | rfl | (simp [errW_none, errW_some] <;> rfl) | (simp [*, errW_none, errW_some] <;> rfl), by repeat (first | (with_reducible first | exact HB.out | apply below_alloc | apply pw_below_drewN | apply below_drew1 | refine below_set ?_ GE118.out) | exact HB.out)⟩
     ·rw [if_neg c6] at H
      have c6b0 : (((rd_T51 l0 x5_1).f0.f0) == a1_0 && (((rd_T51 l0 x5_1).f0.f1) == a1_1)) = false := by simpa using c6
      (try (have c6b1 : decide (((rd_T51 l0 x5_1).f0.f0) = a1_0 && (((rd_T51 l0 x5_1).f0.f1) == a1_1)) = false := by simpa using c6))
      (try (have c6b2 : (((rd_T51 l0 x5_1).f0.f0) == a1_0 && (((rd_T51 l0 x5_1).f0.f1) == a1_1)) = false := by simpa using c6))
      (try (have c6b3 : ¬ (((rd_T51 l0 x5_1).f0.f0) = a1_0 && (((rd_T51 l0 x5_1).f0.f1) == a1_1)) := by simpa using c6))
      clear c6
      have H' := Aside0.mk H
      clear H
      have p119 : 0 ≤ (x5_1 : Int) := of_decide_eq_true Z2
      have q119 : x5_1 < (l0.length : Int) := of_decide_eq_true Z2
      obtain ⟨ad119, e119, hx119_0, hx119_1, hx119_2, hx119_3⟩ := at_T51 HR0.out x5_1 p119 q119
      cases e119
      replace hx119_0 := (HB.out.cell (World.block_lt_of_cell? w _ hx119_0)).trans hx119_0
      replace hx119_1 := (HB.out.cell (World.block_lt_of_cell? w _ hx119_1)).trans hx119_1
      replace hx119_2 := (HB.out.cell (World.block_lt_of_cell? w _ hx119_2)).trans hx119_2
      replace hx119_3 := (HB.out.cell (World.block_lt_of_cell? w _ hx119_3)).trans hx119_3
      replace p119 := eq_true p119
      replace q119 := eq_true q119
      have hcz8_0 : wr.cell? ⟨gb118, 0, none⟩ = some (.int .i64 a1_0) := (blk_cell BK118.out 0).trans rfl
      have hcz8_1 : wr.cell? ⟨gb118, 1, none⟩ = some (.int .i64 a1_1) := (blk_cell BK118.out 1).trans rfl
      have hfz8_0 := blk_frozen BK118.out 0
      have hfz8_1 := blk_frozen BK118.out 1
      go_wp2
      repeat (go_quiet (fail); try go_wp2)
      go_roundg k1
      case measure => have := HK1.out; omega
      case rel => exact ⟨(wrap64 (x5_1 + 1)), Z4, H', ⟨by have := HK1.out; omega⟩, ⟨by (with_reducible repeat (first | refine blk_drewN ?_ _ | refine blk_drew ?_ | refine blk_alloc ?_ _)); exact BK118.out⟩, ⟨by repeat (first | (with_reducible first | exact HB.out | apply below_alloc | apply pw_below_drewN | apply below_drew1 | refine below_set ?_ GE118.out) | exact HB.out)⟩⟩
    ·rw [if_neg c5] at H
     exact absurd H (by simp)
   ·rw [if_neg c4] at H
    have c4b0 : decide (x5_1 < (l0.length : Int)) = false := decide_eq_false c4
    clear c4
    obtain rfl := Option.some.inj H
    go_wp2
    repeat (go_quiet (fail); try go_wp2)
    go_ret
    exact ⟨by first | rfl | (simp [errW_none, errW_some] <;> rfl) | (simp [*, errW_none, errW_some] <;> rfl), by repeat (first | (with_reducible first | exact HB.out | apply below_alloc | apply pw_below_drewN | apply below_drew1 | refine below_set ?_ GE118.out) | exact HB.out)⟩
end Go.Proofs.Ytckhjehibjdjdaa.P
namespace Go.Proofs.Ytckhjehibjdjdaa.P
open Go.RowKit Go.Proofs.YtckhjehibjdjdaaW.PrintWords Go.Proofs.YtckhjehibjdjdaaW.PrintLast Go.Proofs.YtckhjehibjdjdaaW.PrintMore
attribute [local go_sem] max2_int min2_int max_two min_two max_three min_three max_four min_four
set_option linter.unusedVariables false
set_option linter.unusedSimpArgs false
def ensembleref05_More.l0 : Nat → List (S52) → List (S51) → Int → Option ((List (S51)) × Int)
 | 0, _, _, _ => none
 | k + 1, x1, x6, x7 => if x7 < (x1.length : Int) then (if 0 ≤ x7 then (if ((rd_T52 x1 x7).f2) < 0 then (some (([] : List (S51)), 1)) else ((ensembleref05_find.f k x6 ((rd_T52 x1 x7).f0.f0) ((rd_T52 x1 x7).f0.f1)).bind fun t189 => (if t189 < 0 then (some (([] : List (S51)), 3)) else (if 0 ≤ t189 then (if t189 < (x6.length : Int) then ((ensembleref05_masks.f k ((rd_T52 x1 x7).f1) ((rd_T51 x6 t189).f1)).bind fun t191 => (if t191 > 0 then (some (([] : List (S51)), 4)) else (if ((rd_T52 x1 x7).f2) > (wrap64 (1048576 - ((rd_T51 x6 t189).f2))) then (some (([] : List (S51)), 14)) else ((some (x6.set (t189 : Int).toNat (⟨(⟨(rd_T51 x6 t189).f0.f0, (rd_T51 x6 t189).f0.f1⟩ : S48), IntKind.u64.wrap (((rd_T51 x6 t189).f1) + ((rd_T52 x1 x7).f1)), (rd_T51 x6 t189).f2⟩ : S51) : List (S51))).bind fun y194 => (ensembleref05_More.l0 k x1 (y194.set (t189 : Int).toNat (⟨(⟨(rd_T51 y194 t189).f0.f0, (rd_T51 y194 t189).f0.f1⟩ : S48), (rd_T51 y194 t189).f1, wrap64 (((rd_T51 y194 t189).f2) + ((rd_T52 x1 x7).f2))⟩ : S51)) (wrap64 (x7 + 1))))))) else (none)) else (none))))) else (none)) else (some (x6, 0))
def ensembleref05_More.f (k : Nat) (l0 : List (S51)) (l1 : List (S52)) : Option ((List (S51)) × Int) := (some (([] : List (S51)) : List (S51))).bind fun y181 => (if y181.length + l0.length < 4398046511104 then (ensembleref05_More.l0 k l1 (y181 ++ l0) 0) else (none))
def ensembleref05_More.T11 : Bool × List (List Nat × List Nat) := (true, [([], []), ([0], [0]), ([], []), ([], []), ([2, 3], [2, 3]), ([4], [4]), ([5], [5]), ([1, 6], [1, 6]), ([7], [7])])
def ensembleref05_More.B11 : List Nat := [0, 1, 0, 0, 12, 28, 60, 127, 255]
theorem ensembleref05_More.tab11 : rtab .any (opsOf Try.f32 11) = ensembleref05_More.T11 := by kernel_rfl
theorem ensembleref05_More.bits11 : waitsOk ensembleref05_More.T11.2 ensembleref05_More.B11 = true := by kernel_rfl
def ensembleref05_More.T13 : Bool × List (List Nat × List Nat) := (true, [([], []), ([0], [0]), ([], []), ([], []), ([2, 3], [2, 3]), ([4], [4]), ([5], [5]), ([6], [6]), ([1, 7], [1, 7])])
def ensembleref05_More.B13 : List Nat := [0, 1, 0, 0, 12, 28, 60, 124, 255]
theorem ensembleref05_More.tab13 : rtab .any (opsOf Try.f32 13) = ensembleref05_More.T13 := by kernel_rfl
theorem ensembleref05_More.bits13 : waitsOk ensembleref05_More.T13.2 ensembleref05_More.B13 = true := by kernel_rfl
def ensembleref05_More.T15 : Bool × List (List Nat × List Nat) := (true, [([], []), ([], []), ([], []), ([], []), ([2, 3], [2, 3]), ([4], [4]), ([5], [5]), ([], []), ([7], [7]), ([6, 8], [6, 8]), ([0, 1, 0, 1, 2, 3, 4, 5, 6, 7, 8, 9], [0, 1]), ([10, 0, 1, 2, 3, 4, 5, 6, 7, 8, 9], [10]), ([11, 9, 0, 1, 2, 3, 4, 5, 6, 7, 8, 9], [9, 11])])
def ensembleref05_More.B15 : List Nat := [0, 0, 0, 0, 12, 28, 60, 0, 128, 508, 1023, 2047, 4095]
theorem ensembleref05_More.tab15 : rtab .any (opsOf Try.f32 15) = ensembleref05_More.T15 := by kernel_rfl
theorem ensembleref05_More.bits15 : waitsOk ensembleref05_More.T15.2 ensembleref05_More.B15 = true := by kernel_rfl
def ensembleref05_More.T16 : Bool × List (List Nat × List Nat) := (true, [([], []), ([], []), ([], []), ([], []), ([2, 3], [2, 3]), ([4], [4]), ([5], [5]), ([], []), ([7], [7]), ([6, 8], [6, 8]), ([0, 1, 0, 1, 2, 3, 4, 5, 6, 7, 8, 9], [0, 1]), ([10, 0, 1, 2, 3, 4, 5, 6, 7, 8, 9], [10]), ([11, 9, 0, 1, 2, 3, 4, 5, 6, 7, 8, 9], [9, 11])])
def ensembleref05_More.B16 : List Nat := [0, 0, 0, 0, 12, 28, 60, 0, 128, 508, 1023, 2047, 4095]
theorem ensembleref05_More.tab16 : rtab .any (opsOf Try.f32 16) = ensembleref05_More.T16 := by kernel_rfl
theorem ensembleref05_More.bits16 : waitsOk ensembleref05_More.T16.2 ensembleref05_More.B16 = true := by kernel_rfl
set_option maxHeartbeats 8000000 in
set_option maxRecDepth 100000 in
theorem ensembleref05_More.calls (k : Nat) (A0 : Option Addr) (c0 : Nat) (l0 : List (S51)) (A1 : Option Addr) (c1 : Nat) (l1 : List (S52)) (r1 : List (S51)) (r2 : Int) (w : World) (hr0 : Kd.C k51 w A0 l0.length l0) (hc0 : l0.length ≤ c0) (hr1 : Kd.C k52 w A1 l1.length l1) (hc1 : l1.length ≤ c1) (h : ensembleref05_More.f k l0 l1 = some (r1, r2)) :
  Calls Try.prog 32 #[.slice A0 l0.length c0, .slice A1 l1.length c1] w fun e w' => ∃ v0_ : Value, e = .returned (.tuple #[v0_, .int .i64 r2]) ∧ Kd.R k51 51 w' w.heap.size (fun _ => True) v0_ r1 ∧ Below w.heap.size w w' := by
 have hu52 := Try.underlying52
 have hu48 := Try.underlying48
 have HR0 := Aside0.mk hr0
 have HC0 := Aside0.mk hc0
 clear hr0 hc0
 have HR1 := Aside0.mk hr1
 have HC1 := Aside0.mk hc1
 clear hr1 hc1
 have HB := Aside0.mk (Below.refl w.heap.size w)
 have H : ((some (([] : List (S51)) : List (S51))).bind fun y181 => (if y181.length + l0.length < 4398046511104 then (ensembleref05_More.l0 k l1 (y181 ++ l0) 0) else (none))) = some (r1, r2) := h
 clear h
 obtain ⟨y181, hy181⟩ : ∃ y_ : List (S51), y_ = (([] : List (S51))) := ⟨_, rfl⟩
 replace H : (if y181.length + l0.length < 4398046511104 then (ensembleref05_More.l0 k l1 (y181 ++ l0) 0) else (none)) = some (r1, r2) := by first | (rw [hy181]; with_reducible exact H) | (have H2_ := (Option.bind_some _ _).symm.trans H; rw [hy181]; with_reducible exact H2_) | (have H2_ := (Option.bind_some _ _).symm.trans H; with_reducible exact H2_) | with_reducible exact H | (rw [hy181]; exact H) | exact H
 have Ny181 := Aside0.mk hy181
 clear hy181
 by_cases c3 : y181.length + l0.length < 4398046511104
 ·rw [if_pos c3] at H
  have LMc3 := Aside0.mk c3
  clear c3
  obtain ⟨y184, hy184⟩ : ∃ y_ : List (S51), y_ = (y181 ++ l0) := ⟨_, rfl⟩
  replace H : (ensembleref05_More.l0 k l1 y184 0) = some (r1, r2) := by first | (rw [hy184]; with_reducible exact H) | (have H2_ := (Option.bind_some _ _).symm.trans H; rw [hy184]; with_reducible exact H2_) | (have H2_ := (Option.bind_some _ _).symm.trans H; with_reducible exact H2_) | with_reducible exact H | (rw [hy184]; exact H) | exact H
  have Ny184 := Aside0.mk hy184
  clear hy184
  have H' := Aside0.mk H
  clear H
  go_enter Try.func32, Try.ntmps32
  go_wp2_with (first | ((with_reducible refine gate_dst (N := 10) rfl ?_); refine Kd.R_lit k51 _ 51 ?hg (N := 10) ?hd (xs := ([] : List (S51))) (inner := []) (ok := fun _ => True) (okp := fun _ => True) ?hr ?hp (fun _ hk => hk) trivial (Below.refl _ _) (Nat.le_refl _) (by simp) ?_; (case hd => rfl); (case hg => rfl); (case hr => first | (go_simp; done) | (go_simp; rfl)); (case hp => exact (Reps.none _ _)); intro v182 w4 ho5 hb hg_ hnew_; clear hg_ hnew_; (first | rw [← Ny181.out] at ho5 | (simp only [Int.reduceToNat] at ho5; rw [← Ny181.out] at ho5)); have n0_ := Aside0.mk (Kd.R_lower ho5 (below_size Z0)); have n1_ := Aside0.mk (below_step Z0 hb); clear HB; have HO183 := n0_; have HB := n1_; clear n0_ n1_; clear hb ho5) | ((with_reducible refine gate_builtin (b := .append) (xs := #[.tmp 10, .tmp 11]) rfl ?_); at_builtin; refine Kd.R_append_rows k51 (w0 := w) w.heap.size rfl (.tmp 10) (.tmp 11) 22 51 (.agg #[(.int .i64 0), (.int .i64 0), (.int .u64 0), (.int .i64 0)]) 32 rfl Try.underlying22 info51 rfl (by decide) (by omega) v182 y181 l0 _ _ _ (fun _ => True) (fun _ => False) rfl rfl ?aO ?aR (fun _ _ h => h) (fun _ h => h.elim) ?aF ?aB ?aS ?aL ?_; (case aR => repeat (first | exact (Kd.C_below HR0.out HB.out) | (with_reducible refine Kd.C_alloc ?_ _) | (with_reducible refine Kd.C_drewN ?_ _) | (with_reducible refine Kd.C_drew ?_))); (case aB => exact Z0); (case aF => exact (fun _ _ => trivial)); (case aO => exact (by (with_reducible repeat (first | apply Kd.R_alloc | apply Kd.R_drewN | apply Kd.R_drew)); exact HO183.out)); (case aS => exact (below_size Z0)); (case aL => have := LMc3.out; omega); intro v185 w6 ho hb hg hat; rw [← Ny184.out] at ho; have n0_ := Aside0.mk (hb); have n1_ := Aside0.mk (ho); clear HB; clear HO183; have HB := n0_; have HO186 := n1_; clear n0_ n1_; clear ho hb hg hat))
  go_loopg [7] k (fun kq v7 w' => ∃ (x6_1 : List (S51)) (x7_1 : Int), v7 = .int .i64 x7_1 ∧ Aside0 (ensembleref05_More.l0 kq l1 x6_1 x7_1 = some (r1, r2)) ∧ Aside0 (kq ≤ k) ∧ Aside0 (Kd.R k51 51 w' w.heap.size (fun _ => True) v185 x6_1) ∧ Aside0 (Below w.heap.size w w'))
  case atStart => exact ⟨(y184), (0), Z4, H', ⟨Nat.le_refl _⟩, ⟨by (with_reducible repeat (first | apply Kd.R_alloc | apply Kd.R_drewN | apply Kd.R_drew)); exact HO186.out⟩, ⟨by repeat (first | (with_reducible first | exact HB.out | apply below_alloc | apply pw_below_drewN | apply below_drew1) | exact HB.out)⟩⟩
  case round =>
   clear H'
   try clear c1
   try clear p2
   try clear c3
   obtain ⟨x6_1, x7_1, rfl, HA, HK1, HO_6, HB⟩ := hrel
   cases gk with
   | zero => exact absurd HA.out (by simp [ensembleref05_More.l0])
   | succ k1 =>
    have H := HA.out
    clear HA
    simp only [ensembleref05_More.l0] at H
    by_cases c7 : x7_1 < (l1.length : Int)
    ·rw [if_pos c7] at H
     have c7b0 : decide (x7_1 < (l1.length : Int)) = true := decide_eq_true c7
     clear c7
     by_cases c8 : 0 ≤ x7_1
     ·rw [if_pos c8] at H
      have c8b0 : decide (0 ≤ x7_1) = true := decide_eq_true c8
      clear c8
      by_cases c9 : ((rd_T52 l1 x7_1).f2) < 0
      ·rw [if_pos c9] at H
       have c9b0 : decide (((rd_T52 l1 x7_1).f2) < 0) = true := decide_eq_true c9
       clear c9
       simp only [Option.some.injEq, Prod.mk.injEq] at H
       obtain ⟨rfl, rfl⟩ := H
       have p187 : 0 ≤ (x7_1 : Int) := of_decide_eq_true Z2
       have q187 : x7_1 < (l1.length : Int) := of_decide_eq_true Z2
       obtain ⟨ad187, e187, hx187_0, hx187_1, hx187_2, hx187_3⟩ := at_T52 HR1.out x7_1 p187 q187
       cases e187
       replace hx187_0 := (HB.out.cell (World.block_lt_of_cell? w _ hx187_0)).trans hx187_0
       replace hx187_1 := (HB.out.cell (World.block_lt_of_cell? w _ hx187_1)).trans hx187_1
       replace hx187_2 := (HB.out.cell (World.block_lt_of_cell? w _ hx187_2)).trans hx187_2
       replace hx187_3 := (HB.out.cell (World.block_lt_of_cell? w _ hx187_3)).trans hx187_3
       replace p187 := eq_true p187
       replace q187 := eq_true q187
       go_wp2_with (first | ((with_reducible refine gate_dst (N := 8) rfl ?_); refine bx 8 #[.int .i64 0, .int .i64 0, .int .u64 0, .int .i64 0] 52 ?_; intro gb188 hg w10 hbox hb; have n0_ := Aside0.mk (Kd.R_below Z10 hb); have n1_ := Aside0.mk (below_step Z0 hb); have n2_ := Aside0.mk (hbox); have n3_ := Aside0.mk ((by rw [hg]; exact (below_size Z0) : w.heap.size ≤ gb188)); have n4_ := Aside0.mk ((by rw [hg]; exact (below_size Z0) : w.heap.size ≤ gb188)); clear HO_6; clear HB; have HO_6 := n0_; have HB := n1_; have BK188 := n2_; have GW188 := n3_; have GE188 := n4_; clear n0_ n1_ n2_ n3_ n4_; clear hb hbox hg; have hcz11_0 : w10.cell? ⟨gb188, 0, none⟩ = some (.int .i64 0) := (blk_cell BK188.out 0).trans rfl; have hcz11_1 : w10.cell? ⟨gb188, 1, none⟩ = some (.int .i64 0) := (blk_cell BK188.out 1).trans rfl; have hcz11_2 : w10.cell? ⟨gb188, 2, none⟩ = some (.int .u64 0) := (blk_cell BK188.out 2).trans rfl; have hcz11_3 : w10.cell? ⟨gb188, 3, none⟩ = some (.int .i64 0) := (blk_cell BK188.out 3).trans rfl; have hfz11_0 := blk_frozen BK188.out 0; have hfz11_1 := blk_frozen BK188.out 1; have hfz11_2 := blk_frozen BK188.out 2; have hfz11_3 := blk_frozen BK188.out 3))
       go_ret2
       exact ⟨_, by first | rfl | (simp [errW_none, errW_some] <;> rfl) | (simp [*, errW_none, errW_some] <;> rfl), by first | exact Kd.R_nil _ _ _ _ _ | exact Kd.N_nil _ _ _ _ _ | exact Kd.V_nil _ _ _ _ _ | exact Kd.Q_nil _ _ _ _ _ | exact Kd.S_nil _ _ _ _ _, by repeat (first | (with_reducible first | exact HB.out | apply below_alloc | apply pw_below_drewN | apply below_drew1 | refine below_set ?_ GE188.out) | exact HB.out)⟩
      ·rw [if_neg c9] at H
       have c9b0 : decide (((rd_T52 l1 x7_1).f2) < 0) = false := decide_eq_false c9
       clear c9
       replace H := Option.bind_eq_some_iff.mp H
       obtain ⟨t189, A120, H⟩ := H
       replace H : (if t189 < 0 then (some (([] : List (S51)), 3)) else (if 0 ≤ t189 then (if t189 < (x6_1.length : Int) then ((ensembleref05_masks.f k1 ((rd_T52 l1 x7_1).f1) ((rd_T51 x6_1 t189).f1)).bind fun t191 => (if t191 > 0 then (some (([] : List (S51)), 4)) else (if ((rd_T52 l1 x7_1).f2) > (wrap64 (1048576 - ((rd_T51 x6_1 t189).f2))) then (some (([] : List (S51)), 14)) else ((some (x6_1.set (t189 : Int).toNat (⟨(⟨(rd_T51 x6_1 t189).f0.f0, (rd_T51 x6_1 t189).f0.f1⟩ : S48), IntKind.u64.wrap (((rd_T51 x6_1 t189).f1) + ((rd_T52 l1 x7_1).f1)), (rd_T51 x6_1 t189).f2⟩ : S51) : List (S51))).bind fun y194 => (ensembleref05_More.l0 k1 l1 (y194.set (t189 : Int).toNat (⟨(⟨(rd_T51 y194 t189).f0.f0, (rd_T51 y194 t189).f0.f1⟩ : S48), (rd_T51 y194 t189).f1, wrap64 (((rd_T51 y194 t189).f2) + ((rd_T52 l1 x7_1).f2))⟩ : S51)) (wrap64 (x7_1 + 1))))))) else (none)) else (none))) = some (r1, r2) := H
       have A12 := Aside0.mk A120
       clear A120
       by_cases c13 : t189 < 0
       ·rw [if_pos c13] at H
        have c13b0 : decide (t189 < 0) = true := decide_eq_true c13
        clear c13
        simp only [Option.some.injEq, Prod.mk.injEq] at H
        obtain ⟨rfl, rfl⟩ := H
        have p187 : 0 ≤ (x7_1 : Int) := of_decide_eq_true Z2
        have q187 : x7_1 < (l1.length : Int) := of_decide_eq_true Z2
        obtain ⟨ad187, e187, hx187_0, hx187_1, hx187_2, hx187_3⟩ := at_T52 HR1.out x7_1 p187 q187
        cases e187
        replace hx187_0 := (HB.out.cell (World.block_lt_of_cell? w _ hx187_0)).trans hx187_0
        replace hx187_1 := (HB.out.cell (World.block_lt_of_cell? w _ hx187_1)).trans hx187_1
        replace hx187_2 := (HB.out.cell (World.block_lt_of_cell? w _ hx187_2)).trans hx187_2
        replace hx187_3 := (HB.out.cell (World.block_lt_of_cell? w _ hx187_3)).trans hx187_3
        replace p187 := eq_true p187
        replace q187 := eq_true q187
        go_wp2_with (first | ((with_reducible refine gate_dst (N := 8) rfl ?_); refine bx 8 #[.int .i64 0, .int .i64 0, .int .u64 0, .int .i64 0] 52 ?_; intro gb188 hg w14 hbox hb; have n0_ := Aside0.mk (Kd.R_below Z10 hb); have n1_ := Aside0.mk (below_step Z0 hb); have n2_ := Aside0.mk (hbox); have n3_ := Aside0.mk ((by rw [hg]; exact (below_size Z0) : w.heap.size ≤ gb188)); have n4_ := Aside0.mk ((by rw [hg]; exact (below_size Z0) : w.heap.size ≤ gb188)); clear HO_6; clear HB; have HO_6 := n0_; have HB := n1_; have BK188 := n2_; have GW188 := n3_; have GE188 := n4_; clear n0_ n1_ n2_ n3_ n4_; clear hb hbox hg; have hcz15_0 : w14.cell? ⟨gb188, 0, none⟩ = some (.int .i64 0) := (blk_cell BK188.out 0).trans rfl; have hcz15_1 : w14.cell? ⟨gb188, 1, none⟩ = some (.int .i64 0) := (blk_cell BK188.out 1).trans rfl; have hcz15_2 : w14.cell? ⟨gb188, 2, none⟩ = some (.int .u64 0) := (blk_cell BK188.out 2).trans rfl; have hcz15_3 : w14.cell? ⟨gb188, 3, none⟩ = some (.int .i64 0) := (blk_cell BK188.out 3).trans rfl; have hfz15_0 := blk_frozen BK188.out 0; have hfz15_1 := blk_frozen BK188.out 1; have hfz15_2 := blk_frozen BK188.out 2; have hfz15_3 := blk_frozen BK188.out 3; obtain ⟨Ao16, co16, eo16⟩ := Kd.R_slice HO_6.out; subst eo16) | ((with_reducible refine gate_callee (f := 79) rfl ?_); refine goesL_ (some 29) rfl rfl Try.func79 (by kernel_rfl) rfl #[.slice Ao16 x6_1.length co16, .agg #[.int .i64 ((rd_T52 l1 x7_1).f0.f0), .int .i64 ((rd_T52 l1 x7_1).f0.f1)]] rfl Z1 ?_; (with_reducible refine (ensembleref05_find.calls k1 _ _ x6_1 ((rd_T52 l1 x7_1).f0.f0) ((rd_T52 l1 x7_1).f0.f1) t189 _ ?side1 ?side2 A12.out).mono ?_); (case side1 => refine (Kd.R_reads' (e := 51) (base := w.heap.size) (ok := fun k_ => True) (n := x6_1.length) (c := co16) ?_).2.2; exact Z3); (case side2 => exact (Kd.R_reads' HO_6.out).2.1); rintro e w17 ⟨rfl, hb⟩; refine ⟨_, rfl, ?_⟩; have n0_ := Aside0.mk (Kd.R_below Z3 hb); have n1_ := Aside0.mk (blk_below (g := gb188) (o := .cells #[.int .i64 ((rd_T52 l1 x7_1).f0.f0), .int .i64 ((rd_T52 l1 x7_1).f0.f1), .int .u64 ((rd_T52 l1 x7_1).f1), .int .i64 ((rd_T52 l1 x7_1).f2)] 52 (0, 0)) (by (with_reducible repeat (first | refine blk_drewN ?_ _ | refine blk_drew ?_ | refine blk_alloc ?_ _)); refine blk_put (cs := #[.int .i64 ((rd_T52 l1 x7_1).f0.f0), .int .i64 ((rd_T52 l1 x7_1).f0.f1), .int .u64 ((rd_T52 l1 x7_1).f1), .int .i64 0]) ?_ 3 _ rfl; (with_reducible repeat (first | refine blk_drewN ?_ _ | refine blk_drew ?_ | refine blk_alloc ?_ _)); refine blk_put (cs := #[.int .i64 ((rd_T52 l1 x7_1).f0.f0), .int .i64 ((rd_T52 l1 x7_1).f0.f1), .int .u64 0, .int .i64 0]) ?_ 2 _ rfl; (with_reducible repeat (first | refine blk_drewN ?_ _ | refine blk_drew ?_ | refine blk_alloc ?_ _)); refine blk_put (cs := #[.int .i64 ((rd_T52 l1 x7_1).f0.f0), .int .i64 0, .int .u64 0, .int .i64 0]) ?_ 1 _ rfl; (with_reducible repeat (first | refine blk_drewN ?_ _ | refine blk_drew ?_ | refine blk_alloc ?_ _)); refine blk_put (cs := #[.int .i64 0, .int .i64 0, .int .u64 0, .int .i64 0]) ?_ 0 _ rfl; (with_reducible repeat (first | refine blk_drewN ?_ _ | refine blk_drew ?_ | refine blk_alloc ?_ _)); exact BK188.out) hb); have n2_ := Aside0.mk (below_step (by repeat (first | (with_reducible first | exact HB.out | apply below_alloc | apply pw_below_drewN | apply below_drew1 | refine below_set ?_ GE188.out) | exact HB.out)) hb); clear HO_6; clear BK188; clear HB; have HO_6 := n0_; have BK188 := n1_; have HB := n2_; clear n0_ n1_ n2_; (try clear hb); (try clear hb2); (try clear hk); (try clear hi)))
        go_ret2
        exact ⟨_, by first | rfl | (simp [errW_none, errW_some] <;> rfl) | (simp [*, errW_none, errW_some] <;> rfl), by first | exact Kd.R_nil _ _ _ _ _ | exact Kd.N_nil _ _ _ _ _ | exact Kd.V_nil _ _ _ _ _ | exact Kd.Q_nil _ _ _ _ _ | exact Kd.S_nil _ _ _ _ _, by repeat (first | (with_reducible first | exact HB.out | apply below_alloc | apply pw_below_drewN | apply below_drew1 | refine below_set ?_ GE188.out) | exact HB.out)⟩
       ·rw [if_neg c13] at H
        have c13b0 : decide (t189 < 0) = false := decide_eq_false c13
        clear c13
        by_cases c18 : 0 ≤ t189
        ·rw [if_pos c18] at H
         have c18b0 : decide (0 ≤ t189) = true := decide_eq_true c18
         clear c18
         by_cases c19 : t189 < (x6_1.length : Int)
         ·rw [if_pos c19] at H
          have c19b0 : decide (t189 < (x6_1.length : Int)) = true := decide_eq_true c19
          clear c19
          replace H := Option.bind_eq_some_iff.mp H
          obtain ⟨t191, A200, H⟩ := H
          replace H : (if t191 > 0 then (some (([] : List (S51)), 4)) else (if ((rd_T52 l1 x7_1).f2) > (wrap64 (1048576 - ((rd_T51 x6_1 t189).f2))) then (some (([] : List (S51)), 14)) else ((some (x6_1.set (t189 : Int).toNat (⟨(⟨(rd_T51 x6_1 t189).f0.f0, (rd_T51 x6_1 t189).f0.f1⟩ : S48), IntKind.u64.wrap (((rd_T51 x6_1 t189).f1) + ((rd_T52 l1 x7_1).f1)), (rd_T51 x6_1 t189).f2⟩ : S51) : List (S51))).bind fun y194 => (ensembleref05_More.l0 k1 l1 (y194.set (t189 : Int).toNat (⟨(⟨(rd_T51 y194 t189).f0.f0, (rd_T51 y194 t189).f0.f1⟩ : S48), (rd_T51 y194 t189).f1, wrap64 (((rd_T51 y194 t189).f2) + ((rd_T52 l1 x7_1).f2))⟩ : S51)) (wrap64 (x7_1 + 1)))))) = some (r1, r2) := H
          have A20 := Aside0.mk A200
          clear A200
          by_cases c21 : t191 > 0
          ·rw [if_pos c21] at H
           have c21b0 : decide (0 < t191) = true := decide_eq_true c21
           clear c21
           simp only [Option.some.injEq, Prod.mk.injEq] at H
           obtain ⟨rfl, rfl⟩ := H
           have p187 : 0 ≤ (x7_1 : Int) := of_decide_eq_true Z2
           have q187 : x7_1 < (l1.length : Int) := of_decide_eq_true Z2
           obtain ⟨ad187, e187, hx187_0, hx187_1, hx187_2, hx187_3⟩ := at_T52 HR1.out x7_1 p187 q187
           cases e187
           replace hx187_0 := (HB.out.cell (World.block_lt_of_cell? w _ hx187_0)).trans hx187_0
           replace hx187_1 := (HB.out.cell (World.block_lt_of_cell? w _ hx187_1)).trans hx187_1
           replace hx187_2 := (HB.out.cell (World.block_lt_of_cell? w _ hx187_2)).trans hx187_2
           replace hx187_3 := (HB.out.cell (World.block_lt_of_cell? w _ hx187_3)).trans hx187_3
           replace p187 := eq_true p187
           replace q187 := eq_true q187
           try go_wp2_with (first | ((with_reducible refine gate_dst (N := 8) rfl ?_); refine bx 8 #[.int .i64 0, .int .i64 0, .int .u64 0, .int .i64 0] 52 ?_; intro gb188 hg w22 hbox hb; have n0_ := Aside0.mk (Kd.R_below Z10 hb); have n1_ := Aside0.mk (below_step Z0 hb); have n2_ := Aside0.mk (hbox); have n3_ := Aside0.mk ((by rw [hg]; exact (below_size Z0) : w.heap.size ≤ gb188)); have n4_ := Aside0.mk ((by rw [hg]; exact (below_size Z0) : w.heap.size ≤ gb188)); clear HO_6; clear HB; have HO_6 := n0_; have HB := n1_; have BK188 := n2_; have GW188 := n3_; have GE188 := n4_; clear n0_ n1_ n2_ n3_ n4_; clear hb hbox hg; have hcz23_0 : w22.cell? ⟨gb188, 0, none⟩ = some (.int .i64 0) := (blk_cell BK188.out 0).trans rfl; have hcz23_1 : w22.cell? ⟨gb188, 1, none⟩ = some (.int .i64 0) := (blk_cell BK188.out 1).trans rfl; have hcz23_2 : w22.cell? ⟨gb188, 2, none⟩ = some (.int .u64 0) := (blk_cell BK188.out 2).trans rfl; have hcz23_3 : w22.cell? ⟨gb188, 3, none⟩ = some (.int .i64 0) := (blk_cell BK188.out 3).trans rfl; have hfz23_0 := blk_frozen BK188.out 0; have hfz23_1 := blk_frozen BK188.out 1; have hfz23_2 := blk_frozen BK188.out 2; have hfz23_3 := blk_frozen BK188.out 3; obtain ⟨Ao24, co24, eo24⟩ := Kd.R_slice HO_6.out; subst eo24) | ((with_reducible refine gate_callee (f := 79) rfl ?_); refine goesL_ (some 29) rfl rfl Try.func79 (by kernel_rfl) rfl #[.slice Ao24 x6_1.length co24, .agg #[.int .i64 ((rd_T52 l1 x7_1).f0.f0), .int .i64 ((rd_T52 l1 x7_1).f0.f1)]] rfl Z1 ?_; (with_reducible refine (ensembleref05_find.calls k1 _ _ x6_1 ((rd_T52 l1 x7_1).f0.f0) ((rd_T52 l1 x7_1).f0.f1) t189 _ ?side1 ?side2 A12.out).mono ?_); (case side1 => refine (Kd.R_reads' (e := 51) (base := w.heap.size) (ok := fun k_ => True) (n := x6_1.length) (c := co24) ?_).2.2; exact Z3); (case side2 => exact (Kd.R_reads' HO_6.out).2.1); rintro e w25 ⟨rfl, hb⟩; refine ⟨_, rfl, ?_⟩; have n0_ := Aside0.mk (Kd.R_below Z3 hb); have n1_ := Aside0.mk (blk_below (g := gb188) (o := .cells #[.int .i64 ((rd_T52 l1 x7_1).f0.f0), .int .i64 ((rd_T52 l1 x7_1).f0.f1), .int .u64 ((rd_T52 l1 x7_1).f1), .int .i64 ((rd_T52 l1 x7_1).f2)] 52 (0, 0)) (by (with_reducible repeat (first | refine blk_drewN ?_ _ | refine blk_drew ?_ | refine blk_alloc ?_ _)); refine blk_put (cs := #[.int .i64 ((rd_T52 l1 x7_1).f0.f0), .int .i64 ((rd_T52 l1 x7_1).f0.f1), .int .u64 ((rd_T52 l1 x7_1).f1), .int .i64 0]) ?_ 3 _ rfl; (with_reducible repeat (first | refine blk_drewN ?_ _ | refine blk_drew ?_ | refine blk_alloc ?_ _)); refine blk_put (cs := #[.int .i64 ((rd_T52 l1 x7_1).f0.f0), .int .i64 ((rd_T52 l1 x7_1).f0.f1), .int .u64 0, .int .i64 0]) ?_ 2 _ rfl; (with_reducible repeat (first | refine blk_drewN ?_ _ | refine blk_drew ?_ | refine blk_alloc ?_ _)); refine blk_put (cs := #[.int .i64 ((rd_T52 l1 x7_1).f0.f0), .int .i64 0, .int .u64 0, .int .i64 0]) ?_ 1 _ rfl; (with_reducible repeat (first | refine blk_drewN ?_ _ | refine blk_drew ?_ | refine blk_alloc ?_ _)); refine blk_put (cs := #[.int .i64 0, .int .i64 0, .int .u64 0, .int .i64 0]) ?_ 0 _ rfl; (with_reducible repeat (first | refine blk_drewN ?_ _ | refine blk_drew ?_ | refine blk_alloc ?_ _)); exact BK188.out) hb); have n2_ := Aside0.mk (below_step (by repeat (first | (with_reducible first | exact HB.out | apply below_alloc | apply pw_below_drewN | apply below_drew1 | refine below_set ?_ GE188.out) | exact HB.out)) hb); clear HO_6; clear BK188; clear HB; have HO_6 := n0_; have BK188 := n1_; have HB := n2_; clear n0_ n1_ n2_; (try clear hb); (try clear hb2); (try clear hk); (try clear hi)))
           have n0_ := Aside0.mk (Kd.R_drew HO_6.out)
           have n1_ := Aside0.mk (blk_drew BK188.out)
           have n2_ := Aside0.mk (below_drew1 HB.out)
           clear HO_6
           clear BK188
           clear HB
           have HO_6 := n0_
           have BK188 := n1_
           have HB := n2_
           clear n0_ n1_ n2_
           have p190 : 0 ≤ (t189 : Int) := of_decide_eq_true Z2
           have q190 : t189 < (x6_1.length : Int) := of_decide_eq_true Z2
           obtain ⟨ad190, e190, hx190_0, hx190_1, hx190_2, hx190_3⟩ := at_T51 (Kd.R_reads' HO_6.out).2.2 t189 p190 q190
           cases e190
           replace p190 := eq_true p190
           replace q190 := eq_true q190
           refine start_ (n := 9) (S := fun w' => w'.cell? ⟨gb188, 0, none⟩ = some (.int .i64 ((rd_T52 l1 x7_1).f0.f0)) ∧ w'.cell? ⟨gb188, 1, none⟩ = some (.int .i64 ((rd_T52 l1 x7_1).f0.f1)) ∧ w'.cell? ⟨gb188, 2, none⟩ = some (.int .u64 ((rd_T52 l1 x7_1).f1)) ∧ w'.cell? ⟨gb188, 3, none⟩ = some (.int .i64 ((rd_T52 l1 x7_1).f2)) ∧ w'.cell? (ad190.add ((t189).toNat * 4)) = some (.int .i64 ((rd_T51 x6_1 t189).f0.f0)) ∧ w'.cell? ⟨(ad190.add ((t189).toNat * 4)).block, (ad190.add ((t189).toNat * 4)).off + 1, none⟩ = some (.int .i64 ((rd_T51 x6_1 t189).f0.f1)) ∧ w'.cell? ⟨(ad190.add ((t189).toNat * 4)).block, (ad190.add ((t189).toNat * 4)).off + 2, none⟩ = some (.int .u64 ((rd_T51 x6_1 t189).f1)) ∧ w'.cell? ⟨(ad190.add ((t189).toNat * 4)).block, (ad190.add ((t189).toNat * 4)).off + 3, none⟩ = some (.int .i64 ((rd_T51 x6_1 t189).f2))) (ds := []) (bm 9 0) (by kernel_rfl) rfl rfl ⟨(blk_cell BK188.out 0).trans rfl, (blk_cell BK188.out 1).trans rfl, (blk_cell BK188.out 2).trans rfl, (blk_cell BK188.out 3).trans rfl, hx190_0, hx190_1, hx190_2, hx190_3⟩ (fun hHeld => ?_); refine with_tabW ensembleref05_More.tab11 ensembleref05_More.bits11 (fun HT_ HW_ => ?_)
           generalize w25.drew = w26 at HO_6 BK188 HB hx190_0 hx190_1 hx190_2 hx190_3 hHeld ⊢
           refine pu 0 (some 32) (bm 9 1) ?_
           refine pu 2 (some 34) (bm 9 5) ?_
           refine pu 3 (some 35) (bm 9 13) ?_
           refine pu 4 (some 36) (bm 9 29) ?_
           refine pu 5 (some 37) (bm 9 61) ?_
           refine tk8 1 (some 33) (bm 9 63) ?_
           refine tk8 6 (some 38) (bm 9 127) ?_
           refine one_ (i := 7) (N := some 39) (bm 9 255) rfl rfl (one_of HT_.out (by kernel_rfl)) (by decide) (fun K hK => ?_)
           refine goes_ Try.func80 (by kernel_rfl) rfl #[.int .u64 ((rd_T52 l1 x7_1).f1), .int .u64 ((rd_T51 x6_1 t189).f1)] (by rfl) rfl rfl Z1 ?_
           with_reducible refine (ensembleref05_masks.calls k1 ((rd_T52 l1 x7_1).f1) ((rd_T51 x6_1 t189).f1) t191 _ A20.out).mono ?_
           rintro e w27 ⟨rfl, hb⟩
           have HS4_ := (hb.cell (World.block_lt_of_cell? _ _ (hHeld.2.2.2.2.1))).trans (hHeld.2.2.2.2.1)
           have HS5_ := (hb.cell (World.block_lt_of_cell? _ _ (hHeld.2.2.2.2.2.1))).trans (hHeld.2.2.2.2.2.1)
           have HS6_ := (hb.cell (World.block_lt_of_cell? _ _ (hHeld.2.2.2.2.2.2.1))).trans (hHeld.2.2.2.2.2.2.1)
           have HS7_ := (hb.cell (World.block_lt_of_cell? _ _ (hHeld.2.2.2.2.2.2.2))).trans (hHeld.2.2.2.2.2.2.2)
           refine ⟨_, rfl, ?_⟩
           have n0_ := Aside0.mk (Kd.R_below Z10 hb)
           have n1_ := Aside0.mk (blk_below (g := gb188) (o := .cells #[.int .i64 ((rd_T52 l1 x7_1).f0.f0), .int .i64 ((rd_T52 l1 x7_1).f0.f1), .int .u64 ((rd_T52 l1 x7_1).f1), .int .i64 ((rd_T52 l1 x7_1).f2)] 52 (0, 0)) (by (with_reducible repeat (first | refine blk_drewN ?_ _ | refine blk_drew ?_ | refine blk_alloc ?_ _)); exact BK188.out) hb)
           have n2_ := Aside0.mk (below_step (by repeat (first | (with_reducible first | exact HB.out | apply below_alloc | apply pw_below_drewN | apply below_drew1 | refine below_set ?_ GE188.out) | exact HB.out)) hb)
           clear HO_6
           clear BK188
           clear HB
           have HO_6 := n0_
           have BK188 := n1_
           have HB := n2_
           clear n0_ n1_ n2_
           (try clear hb)
           (try clear hb2)
           (try clear hk)
           (try clear hi)
           refine hK.out _ _ ⟨(blk_cell BK188.out 0).trans rfl, (blk_cell BK188.out 1).trans rfl, (blk_cell BK188.out 2).trans rfl, (blk_cell BK188.out 3).trans rfl, HS4_, HS5_, HS6_, HS7_⟩ (fun hHeld => ?_)
           clear hK K
           refine norm_ (a' := ?_) ?_ ?_
           rotate_left
           ·show Act.put _ (some 39) _ = _
            simp only [Act.put, List.setIfInBounds_toArray, List.set_cons_zero, List.set_cons_succ, i64_w, i32_w]
            rfl
           refine pu 8 (some 40) (bm 9 511) ?_
           refine done_ (done_of HT_.out (by kernel_rfl)) ?_
           try go_wp2
           go_ret2
           exact ⟨_, by first | rfl | (simp [errW_none, errW_some] <;> rfl) | (simp [*, errW_none, errW_some] <;> rfl), by first | exact Kd.R_nil _ _ _ _ _ | exact Kd.N_nil _ _ _ _ _ | exact Kd.V_nil _ _ _ _ _ | exact Kd.Q_nil _ _ _ _ _ | exact Kd.S_nil _ _ _ _ _, by repeat (first | (with_reducible first | exact HB.out | apply below_alloc | apply pw_below_drewN | apply below_drew1 | refine below_set ?_ GE188.out) | exact HB.out)⟩
          ·rw [if_neg c21] at H
           have c21b0 : decide (0 < t191) = false := decide_eq_false c21
           clear c21
           by_cases c28 : ((rd_T52 l1 x7_1).f2) > (wrap64 (1048576 - ((rd_T51 x6_1 t189).f2)))
           ·rw [if_pos c28] at H
            have c28b0 : decide ((wrap64 (1048576 - ((rd_T51 x6_1 t189).f2))) < ((rd_T52 l1 x7_1).f2)) = true := decide_eq_true c28
            clear c28
            simp only [Option.some.injEq, Prod.mk.injEq] at H
            obtain ⟨rfl, rfl⟩ := H
            have p187 : 0 ≤ (x7_1 : Int) := of_decide_eq_true Z2
            have q187 : x7_1 < (l1.length : Int) := of_decide_eq_true Z2
            obtain ⟨ad187, e187, hx187_0, hx187_1, hx187_2, hx187_3⟩ := at_T52 HR1.out x7_1 p187 q187
            cases e187
            replace hx187_0 := (HB.out.cell (World.block_lt_of_cell? w _ hx187_0)).trans hx187_0
            replace hx187_1 := (HB.out.cell (World.block_lt_of_cell? w _ hx187_1)).trans hx187_1
            replace hx187_2 := (HB.out.cell (World.block_lt_of_cell? w _ hx187_2)).trans hx187_2
            replace hx187_3 := (HB.out.cell (World.block_lt_of_cell? w _ hx187_3)).trans hx187_3
            replace p187 := eq_true p187
            replace q187 := eq_true q187
            try go_wp2_with (first | ((with_reducible refine gate_dst (N := 8) rfl ?_); refine bx 8 #[.int .i64 0, .int .i64 0, .int .u64 0, .int .i64 0] 52 ?_; intro gb188 hg w29 hbox hb; have n0_ := Aside0.mk (Kd.R_below Z10 hb); have n1_ := Aside0.mk (below_step Z0 hb); have n2_ := Aside0.mk (hbox); have n3_ := Aside0.mk ((by rw [hg]; exact (below_size Z0) : w.heap.size ≤ gb188)); have n4_ := Aside0.mk ((by rw [hg]; exact (below_size Z0) : w.heap.size ≤ gb188)); clear HO_6; clear HB; have HO_6 := n0_; have HB := n1_; have BK188 := n2_; have GW188 := n3_; have GE188 := n4_; clear n0_ n1_ n2_ n3_ n4_; clear hb hbox hg; have hcz30_0 : w29.cell? ⟨gb188, 0, none⟩ = some (.int .i64 0) := (blk_cell BK188.out 0).trans rfl; have hcz30_1 : w29.cell? ⟨gb188, 1, none⟩ = some (.int .i64 0) := (blk_cell BK188.out 1).trans rfl; have hcz30_2 : w29.cell? ⟨gb188, 2, none⟩ = some (.int .u64 0) := (blk_cell BK188.out 2).trans rfl; have hcz30_3 : w29.cell? ⟨gb188, 3, none⟩ = some (.int .i64 0) := (blk_cell BK188.out 3).trans rfl; have hfz30_0 := blk_frozen BK188.out 0; have hfz30_1 := blk_frozen BK188.out 1; have hfz30_2 := blk_frozen BK188.out 2; have hfz30_3 := blk_frozen BK188.out 3; obtain ⟨Ao31, co31, eo31⟩ := Kd.R_slice HO_6.out; subst eo31) | ((with_reducible refine gate_callee (f := 79) rfl ?_); refine goesL_ (some 29) rfl rfl Try.func79 (by kernel_rfl) rfl #[.slice Ao31 x6_1.length co31, .agg #[.int .i64 ((rd_T52 l1 x7_1).f0.f0), .int .i64 ((rd_T52 l1 x7_1).f0.f1)]] rfl Z1 ?_; (with_reducible refine (ensembleref05_find.calls k1 _ _ x6_1 ((rd_T52 l1 x7_1).f0.f0) ((rd_T52 l1 x7_1).f0.f1) t189 _ ?side1 ?side2 A12.out).mono ?_); (case side1 => refine (Kd.R_reads' (e := 51) (base := w.heap.size) (ok := fun k_ => True) (n := x6_1.length) (c := co31) ?_).2.2; exact Z3); (case side2 => exact (Kd.R_reads' HO_6.out).2.1); rintro e w32 ⟨rfl, hb⟩; refine ⟨_, rfl, ?_⟩; have n0_ := Aside0.mk (Kd.R_below Z3 hb); have n1_ := Aside0.mk (blk_below (g := gb188) (o := .cells #[.int .i64 ((rd_T52 l1 x7_1).f0.f0), .int .i64 ((rd_T52 l1 x7_1).f0.f1), .int .u64 ((rd_T52 l1 x7_1).f1), .int .i64 ((rd_T52 l1 x7_1).f2)] 52 (0, 0)) (by (with_reducible repeat (first | refine blk_drewN ?_ _ | refine blk_drew ?_ | refine blk_alloc ?_ _)); refine blk_put (cs := #[.int .i64 ((rd_T52 l1 x7_1).f0.f0), .int .i64 ((rd_T52 l1 x7_1).f0.f1), .int .u64 ((rd_T52 l1 x7_1).f1), .int .i64 0]) ?_ 3 _ rfl; (with_reducible repeat (first | refine blk_drewN ?_ _ | refine blk_drew ?_ | refine blk_alloc ?_ _)); refine blk_put (cs := #[.int .i64 ((rd_T52 l1 x7_1).f0.f0), .int .i64 ((rd_T52 l1 x7_1).f0.f1), .int .u64 0, .int .i64 0]) ?_ 2 _ rfl; (with_reducible repeat (first | refine blk_drewN ?_ _ | refine blk_drew ?_ | refine blk_alloc ?_ _)); refine blk_put (cs := #[.int .i64 ((rd_T52 l1 x7_1).f0.f0), .int .i64 0, .int .u64 0, .int .i64 0]) ?_ 1 _ rfl; (with_reducible repeat (first | refine blk_drewN ?_ _ | refine blk_drew ?_ | refine blk_alloc ?_ _)); refine blk_put (cs := #[.int .i64 0, .int .i64 0, .int .u64 0, .int .i64 0]) ?_ 0 _ rfl; (with_reducible repeat (first | refine blk_drewN ?_ _ | refine blk_drew ?_ | refine blk_alloc ?_ _)); exact BK188.out) hb); have n2_ := Aside0.mk (below_step (by repeat (first | (with_reducible first | exact HB.out | apply below_alloc | apply pw_below_drewN | apply below_drew1 | refine below_set ?_ GE188.out) | exact HB.out)) hb); clear HO_6; clear BK188; clear HB; have HO_6 := n0_; have BK188 := n1_; have HB := n2_; clear n0_ n1_ n2_; (try clear hb); (try clear hb2); (try clear hk); (try clear hi)))
            have n0_ := Aside0.mk (Kd.R_drew HO_6.out)
            have n1_ := Aside0.mk (blk_drew BK188.out)
            have n2_ := Aside0.mk (below_drew1 HB.out)
            clear HO_6
            clear BK188
            clear HB
            have HO_6 := n0_
            have BK188 := n1_
            have HB := n2_
            clear n0_ n1_ n2_
            have p190 : 0 ≤ (t189 : Int) := of_decide_eq_true Z2
            have q190 : t189 < (x6_1.length : Int) := of_decide_eq_true Z2
            obtain ⟨ad190, e190, hx190_0, hx190_1, hx190_2, hx190_3⟩ := at_T51 (Kd.R_reads' HO_6.out).2.2 t189 p190 q190
            cases e190
            replace p190 := eq_true p190
            replace q190 := eq_true q190
            refine start_ (n := 9) (S := fun w' => w'.cell? ⟨gb188, 0, none⟩ = some (.int .i64 ((rd_T52 l1 x7_1).f0.f0)) ∧ w'.cell? ⟨gb188, 1, none⟩ = some (.int .i64 ((rd_T52 l1 x7_1).f0.f1)) ∧ w'.cell? ⟨gb188, 2, none⟩ = some (.int .u64 ((rd_T52 l1 x7_1).f1)) ∧ w'.cell? ⟨gb188, 3, none⟩ = some (.int .i64 ((rd_T52 l1 x7_1).f2)) ∧ w'.cell? (ad190.add ((t189).toNat * 4)) = some (.int .i64 ((rd_T51 x6_1 t189).f0.f0)) ∧ w'.cell? ⟨(ad190.add ((t189).toNat * 4)).block, (ad190.add ((t189).toNat * 4)).off + 1, none⟩ = some (.int .i64 ((rd_T51 x6_1 t189).f0.f1)) ∧ w'.cell? ⟨(ad190.add ((t189).toNat * 4)).block, (ad190.add ((t189).toNat * 4)).off + 2, none⟩ = some (.int .u64 ((rd_T51 x6_1 t189).f1)) ∧ w'.cell? ⟨(ad190.add ((t189).toNat * 4)).block, (ad190.add ((t189).toNat * 4)).off + 3, none⟩ = some (.int .i64 ((rd_T51 x6_1 t189).f2))) (ds := []) (bm 9 0) (by kernel_rfl) rfl rfl ⟨(blk_cell BK188.out 0).trans rfl, (blk_cell BK188.out 1).trans rfl, (blk_cell BK188.out 2).trans rfl, (blk_cell BK188.out 3).trans rfl, hx190_0, hx190_1, hx190_2, hx190_3⟩ (fun hHeld => ?_); refine with_tabW ensembleref05_More.tab11 ensembleref05_More.bits11 (fun HT_ HW_ => ?_)
            generalize w32.drew = w33 at HO_6 BK188 HB hx190_0 hx190_1 hx190_2 hx190_3 hHeld ⊢
            refine pu 0 (some 32) (bm 9 1) ?_
            refine pu 2 (some 34) (bm 9 5) ?_
            refine pu 3 (some 35) (bm 9 13) ?_
            refine pu 4 (some 36) (bm 9 29) ?_
            refine pu 5 (some 37) (bm 9 61) ?_
            refine tk8 1 (some 33) (bm 9 63) ?_
            refine tk8 6 (some 38) (bm 9 127) ?_
            refine one_ (i := 7) (N := some 39) (bm 9 255) rfl rfl (one_of HT_.out (by kernel_rfl)) (by decide) (fun K hK => ?_)
            refine goes_ Try.func80 (by kernel_rfl) rfl #[.int .u64 ((rd_T52 l1 x7_1).f1), .int .u64 ((rd_T51 x6_1 t189).f1)] (by rfl) rfl rfl Z1 ?_
            with_reducible refine (ensembleref05_masks.calls k1 ((rd_T52 l1 x7_1).f1) ((rd_T51 x6_1 t189).f1) t191 _ A20.out).mono ?_
            rintro e w34 ⟨rfl, hb⟩
            have HS4_ := (hb.cell (World.block_lt_of_cell? _ _ (hHeld.2.2.2.2.1))).trans (hHeld.2.2.2.2.1)
            have HS5_ := (hb.cell (World.block_lt_of_cell? _ _ (hHeld.2.2.2.2.2.1))).trans (hHeld.2.2.2.2.2.1)
            have HS6_ := (hb.cell (World.block_lt_of_cell? _ _ (hHeld.2.2.2.2.2.2.1))).trans (hHeld.2.2.2.2.2.2.1)
            have HS7_ := (hb.cell (World.block_lt_of_cell? _ _ (hHeld.2.2.2.2.2.2.2))).trans (hHeld.2.2.2.2.2.2.2)
            refine ⟨_, rfl, ?_⟩
            have n0_ := Aside0.mk (Kd.R_below Z10 hb)
            have n1_ := Aside0.mk (blk_below (g := gb188) (o := .cells #[.int .i64 ((rd_T52 l1 x7_1).f0.f0), .int .i64 ((rd_T52 l1 x7_1).f0.f1), .int .u64 ((rd_T52 l1 x7_1).f1), .int .i64 ((rd_T52 l1 x7_1).f2)] 52 (0, 0)) (by (with_reducible repeat (first | refine blk_drewN ?_ _ | refine blk_drew ?_ | refine blk_alloc ?_ _)); exact BK188.out) hb)
            have n2_ := Aside0.mk (below_step (by repeat (first | (with_reducible first | exact HB.out | apply below_alloc | apply pw_below_drewN | apply below_drew1 | refine below_set ?_ GE188.out) | exact HB.out)) hb)
            clear HO_6
            clear BK188
            clear HB
            have HO_6 := n0_
            have BK188 := n1_
            have HB := n2_
            clear n0_ n1_ n2_
            (try clear hb)
            (try clear hb2)
            (try clear hk)
            (try clear hi)
            refine hK.out _ _ ⟨(blk_cell BK188.out 0).trans rfl, (blk_cell BK188.out 1).trans rfl, (blk_cell BK188.out 2).trans rfl, (blk_cell BK188.out 3).trans rfl, HS4_, HS5_, HS6_, HS7_⟩ (fun hHeld => ?_)
            clear hK K
            refine norm_ (a' := ?_) ?_ ?_
            rotate_left
            ·show Act.put _ (some 39) _ = _
             simp only [Act.put, List.setIfInBounds_toArray, List.set_cons_zero, List.set_cons_succ, i64_w, i32_w]
             rfl
            refine pu 8 (some 40) (bm 9 511) ?_
            refine done_ (done_of HT_.out (by kernel_rfl)) ?_
            try go_wp2
            have n0_ := Aside0.mk (Kd.R_drew HO_6.out)
            have n1_ := Aside0.mk (blk_drew BK188.out)
            have n2_ := Aside0.mk (below_drew1 HB.out)
            clear HO_6
            clear BK188
            clear HB
            have HO_6 := n0_
            have BK188 := n1_
            have HB := n2_
            clear n0_ n1_ n2_
            have p192 : 0 ≤ (t189 : Int) := of_decide_eq_true Z2
            have q192 : t189 < (x6_1.length : Int) := of_decide_eq_true Z2
            obtain ⟨ad192, e192, hx192_0, hx192_1, hx192_2, hx192_3⟩ := at_T51 (Kd.R_reads' HO_6.out).2.2 t189 p192 q192
            obtain rfl : ad190 = ad192 := (by injection e192)
            replace p192 := eq_true p192
            replace q192 := eq_true q192
            refine start_ (n := 9) (S := fun w' => w'.cell? ⟨gb188, 0, none⟩ = some (.int .i64 ((rd_T52 l1 x7_1).f0.f0)) ∧ w'.cell? ⟨gb188, 1, none⟩ = some (.int .i64 ((rd_T52 l1 x7_1).f0.f1)) ∧ w'.cell? ⟨gb188, 2, none⟩ = some (.int .u64 ((rd_T52 l1 x7_1).f1)) ∧ w'.cell? ⟨gb188, 3, none⟩ = some (.int .i64 ((rd_T52 l1 x7_1).f2)) ∧ w'.cell? (ad190.add ((t189).toNat * 4)) = some (.int .i64 ((rd_T51 x6_1 t189).f0.f0)) ∧ w'.cell? ⟨(ad190.add ((t189).toNat * 4)).block, (ad190.add ((t189).toNat * 4)).off + 1, none⟩ = some (.int .i64 ((rd_T51 x6_1 t189).f0.f1)) ∧ w'.cell? ⟨(ad190.add ((t189).toNat * 4)).block, (ad190.add ((t189).toNat * 4)).off + 2, none⟩ = some (.int .u64 ((rd_T51 x6_1 t189).f1)) ∧ w'.cell? ⟨(ad190.add ((t189).toNat * 4)).block, (ad190.add ((t189).toNat * 4)).off + 3, none⟩ = some (.int .i64 ((rd_T51 x6_1 t189).f2))) (ds := []) (bm 9 0) (by kernel_rfl) rfl rfl ⟨(blk_cell BK188.out 0).trans rfl, (blk_cell BK188.out 1).trans rfl, (blk_cell BK188.out 2).trans rfl, (blk_cell BK188.out 3).trans rfl, hx192_0, hx192_1, hx192_2, hx192_3⟩ (fun hHeld => ?_); refine with_tabW ensembleref05_More.tab13 ensembleref05_More.bits13 (fun HT_ HW_ => ?_)
            generalize w34.drew = w35 at HO_6 BK188 HB hx192_0 hx192_1 hx192_2 hx192_3 hHeld ⊢
            refine pu 0 (some 41) (bm 9 1) ?_
            refine pu 2 (some 43) (bm 9 5) ?_
            refine pu 3 (some 44) (bm 9 13) ?_
            refine pu 4 (some 45) (bm 9 29) ?_
            refine pu 5 (some 46) (bm 9 61) ?_
            refine tk8 1 (some 42) (bm 9 63) ?_
            refine tk8 6 (some 47) (bm 9 127) ?_
            refine pu 7 (some 48) (bm 9 255) ?_
            refine pu 8 (some 49) (bm 9 511) ?_
            refine done_ (done_of HT_.out (by kernel_rfl)) ?_
            try go_wp2
            go_ret2
            exact ⟨_, by first | rfl | (simp [errW_none, errW_some] <;> rfl) | (simp [*, errW_none, errW_some] <;> rfl), by first | exact Kd.R_nil _ _ _ _ _ | exact Kd.N_nil _ _ _ _ _ | exact Kd.V_nil _ _ _ _ _ | exact Kd.Q_nil _ _ _ _ _ | exact Kd.S_nil _ _ _ _ _, by repeat (first | (with_reducible first | exact HB.out | apply below_alloc | apply pw_below_drewN | apply below_drew1 | refine below_set ?_ GE188.out) | exact HB.out)⟩
           ·rw [if_neg c28] at H
            have c28b0 : decide ((wrap64 (1048576 - ((rd_T51 x6_1 t189).f2))) < ((rd_T52 l1 x7_1).f2)) = false := decide_eq_false c28
            clear c28
            obtain ⟨y194, hy194⟩ : ∃ y_ : List (S51), y_ = (x6_1.set (t189 : Int).toNat (⟨(⟨(rd_T51 x6_1 t189).f0.f0, (rd_T51 x6_1 t189).f0.f1⟩ : S48), IntKind.u64.wrap (((rd_T51 x6_1 t189).f1) + ((rd_T52 l1 x7_1).f1)), (rd_T51 x6_1 t189).f2⟩ : S51)) := ⟨_, rfl⟩
            replace H : (ensembleref05_More.l0 k1 l1 (y194.set (t189 : Int).toNat (⟨(⟨(rd_T51 y194 t189).f0.f0, (rd_T51 y194 t189).f0.f1⟩ : S48), (rd_T51 y194 t189).f1, wrap64 (((rd_T51 y194 t189).f2) + ((rd_T52 l1 x7_1).f2))⟩ : S51)) (wrap64 (x7_1 + 1))) = some (r1, r2) := by first | (rw [hy194]; with_reducible exact H) | (have H2_ := (Option.bind_some _ _).symm.trans H; rw [hy194]; with_reducible exact H2_) | (have H2_ := (Option.bind_some _ _).symm.trans H; with_reducible exact H2_) | with_reducible exact H | (rw [hy194]; exact H) | exact H
            have Ny194 := Aside0.mk hy194
            clear hy194
            obtain ⟨y196, hy196⟩ : ∃ y_ : List (S51), y_ = (y194.set (t189 : Int).toNat (⟨(⟨(rd_T51 y194 t189).f0.f0, (rd_T51 y194 t189).f0.f1⟩ : S48), (rd_T51 y194 t189).f1, wrap64 (((rd_T51 y194 t189).f2) + ((rd_T52 l1 x7_1).f2))⟩ : S51)) := ⟨_, rfl⟩
            replace H : (ensembleref05_More.l0 k1 l1 y196 (wrap64 (x7_1 + 1))) = some (r1, r2) := by first | (rw [hy196]; with_reducible exact H) | (have H2_ := (Option.bind_some _ _).symm.trans H; rw [hy196]; with_reducible exact H2_) | (have H2_ := (Option.bind_some _ _).symm.trans H; with_reducible exact H2_) | with_reducible exact H | (rw [hy196]; exact H) | exact H
            have Ny196 := Aside0.mk hy196
            clear hy196
            have H' := Aside0.mk H
            clear H
            have p187 : 0 ≤ (x7_1 : Int) := of_decide_eq_true Z2
            have q187 : x7_1 < (l1.length : Int) := of_decide_eq_true Z2
            obtain ⟨ad187, e187, hx187_0, hx187_1, hx187_2, hx187_3⟩ := at_T52 HR1.out x7_1 p187 q187
            cases e187
            replace hx187_0 := (HB.out.cell (World.block_lt_of_cell? w _ hx187_0)).trans hx187_0
            replace hx187_1 := (HB.out.cell (World.block_lt_of_cell? w _ hx187_1)).trans hx187_1
            replace hx187_2 := (HB.out.cell (World.block_lt_of_cell? w _ hx187_2)).trans hx187_2
            replace hx187_3 := (HB.out.cell (World.block_lt_of_cell? w _ hx187_3)).trans hx187_3
            replace p187 := eq_true p187
            replace q187 := eq_true q187
            try go_wp2_with (first | ((with_reducible refine gate_dst (N := 8) rfl ?_); refine bx 8 #[.int .i64 0, .int .i64 0, .int .u64 0, .int .i64 0] 52 ?_; intro gb188 hg w38 hbox hb; have n0_ := Aside0.mk (Kd.R_below Z10 hb); have n1_ := Aside0.mk (below_step Z0 hb); have n2_ := Aside0.mk (hbox); have n3_ := Aside0.mk ((by rw [hg]; exact (below_size Z0) : w.heap.size ≤ gb188)); have n4_ := Aside0.mk ((by rw [hg]; exact (below_size Z0) : w.heap.size ≤ gb188)); clear HO_6; clear HB; have HO_6 := n0_; have HB := n1_; have BK188 := n2_; have GW188 := n3_; have GE188 := n4_; clear n0_ n1_ n2_ n3_ n4_; clear hb hbox hg; have hcz39_0 : w38.cell? ⟨gb188, 0, none⟩ = some (.int .i64 0) := (blk_cell BK188.out 0).trans rfl; have hcz39_1 : w38.cell? ⟨gb188, 1, none⟩ = some (.int .i64 0) := (blk_cell BK188.out 1).trans rfl; have hcz39_2 : w38.cell? ⟨gb188, 2, none⟩ = some (.int .u64 0) := (blk_cell BK188.out 2).trans rfl; have hcz39_3 : w38.cell? ⟨gb188, 3, none⟩ = some (.int .i64 0) := (blk_cell BK188.out 3).trans rfl; have hfz39_0 := blk_frozen BK188.out 0; have hfz39_1 := blk_frozen BK188.out 1; have hfz39_2 := blk_frozen BK188.out 2; have hfz39_3 := blk_frozen BK188.out 3; obtain ⟨Ao40, co40, eo40⟩ := Kd.R_slice HO_6.out; subst eo40) | ((with_reducible refine gate_callee (f := 79) rfl ?_); refine goesL_ (some 29) rfl rfl Try.func79 (by kernel_rfl) rfl #[.slice Ao40 x6_1.length co40, .agg #[.int .i64 ((rd_T52 l1 x7_1).f0.f0), .int .i64 ((rd_T52 l1 x7_1).f0.f1)]] rfl Z1 ?_; (with_reducible refine (ensembleref05_find.calls k1 _ _ x6_1 ((rd_T52 l1 x7_1).f0.f0) ((rd_T52 l1 x7_1).f0.f1) t189 _ ?side1 ?side2 A12.out).mono ?_); (case side1 => refine (Kd.R_reads' (e := 51) (base := w.heap.size) (ok := fun k_ => True) (n := x6_1.length) (c := co40) ?_).2.2; exact Z3); (case side2 => exact (Kd.R_reads' HO_6.out).2.1); rintro e w41 ⟨rfl, hb⟩; refine ⟨_, rfl, ?_⟩; have n0_ := Aside0.mk (Kd.R_below Z3 hb); have n1_ := Aside0.mk (blk_below (g := gb188) (o := .cells #[.int .i64 ((rd_T52 l1 x7_1).f0.f0), .int .i64 ((rd_T52 l1 x7_1).f0.f1), .int .u64 ((rd_T52 l1 x7_1).f1), .int .i64 ((rd_T52 l1 x7_1).f2)] 52 (0, 0)) (by (with_reducible repeat (first | refine blk_drewN ?_ _ | refine blk_drew ?_ | refine blk_alloc ?_ _)); refine blk_put (cs := #[.int .i64 ((rd_T52 l1 x7_1).f0.f0), .int .i64 ((rd_T52 l1 x7_1).f0.f1), .int .u64 ((rd_T52 l1 x7_1).f1), .int .i64 0]) ?_ 3 _ rfl; (with_reducible repeat (first | refine blk_drewN ?_ _ | refine blk_drew ?_ | refine blk_alloc ?_ _)); refine blk_put (cs := #[.int .i64 ((rd_T52 l1 x7_1).f0.f0), .int .i64 ((rd_T52 l1 x7_1).f0.f1), .int .u64 0, .int .i64 0]) ?_ 2 _ rfl; (with_reducible repeat (first | refine blk_drewN ?_ _ | refine blk_drew ?_ | refine blk_alloc ?_ _)); refine blk_put (cs := #[.int .i64 ((rd_T52 l1 x7_1).f0.f0), .int .i64 0, .int .u64 0, .int .i64 0]) ?_ 1 _ rfl; (with_reducible repeat (first | refine blk_drewN ?_ _ | refine blk_drew ?_ | refine blk_alloc ?_ _)); refine blk_put (cs := #[.int .i64 0, .int .i64 0, .int .u64 0, .int .i64 0]) ?_ 0 _ rfl; (with_reducible repeat (first | refine blk_drewN ?_ _ | refine blk_drew ?_ | refine blk_alloc ?_ _)); exact BK188.out) hb); have n2_ := Aside0.mk (below_step (by repeat (first | (with_reducible first | exact HB.out | apply below_alloc | apply pw_below_drewN | apply below_drew1 | refine below_set ?_ GE188.out) | exact HB.out)) hb); clear HO_6; clear BK188; clear HB; have HO_6 := n0_; have BK188 := n1_; have HB := n2_; clear n0_ n1_ n2_; (try clear hb); (try clear hb2); (try clear hk); (try clear hi)))
            have n0_ := Aside0.mk (Kd.R_drew HO_6.out)
            have n1_ := Aside0.mk (blk_drew BK188.out)
            have n2_ := Aside0.mk (below_drew1 HB.out)
            clear HO_6
            clear BK188
            clear HB
            have HO_6 := n0_
            have BK188 := n1_
            have HB := n2_
            clear n0_ n1_ n2_
            have p190 : 0 ≤ (t189 : Int) := of_decide_eq_true Z2
            have q190 : t189 < (x6_1.length : Int) := of_decide_eq_true Z2
            obtain ⟨ad190, e190, hx190_0, hx190_1, hx190_2, hx190_3⟩ := at_T51 (Kd.R_reads' HO_6.out).2.2 t189 p190 q190
            cases e190
            replace p190 := eq_true p190
            replace q190 := eq_true q190
            refine start_ (n := 9) (S := fun w' => w'.cell? ⟨gb188, 0, none⟩ = some (.int .i64 ((rd_T52 l1 x7_1).f0.f0)) ∧ w'.cell? ⟨gb188, 1, none⟩ = some (.int .i64 ((rd_T52 l1 x7_1).f0.f1)) ∧ w'.cell? ⟨gb188, 2, none⟩ = some (.int .u64 ((rd_T52 l1 x7_1).f1)) ∧ w'.cell? ⟨gb188, 3, none⟩ = some (.int .i64 ((rd_T52 l1 x7_1).f2)) ∧ w'.cell? (ad190.add ((t189).toNat * 4)) = some (.int .i64 ((rd_T51 x6_1 t189).f0.f0)) ∧ w'.cell? ⟨(ad190.add ((t189).toNat * 4)).block, (ad190.add ((t189).toNat * 4)).off + 1, none⟩ = some (.int .i64 ((rd_T51 x6_1 t189).f0.f1)) ∧ w'.cell? ⟨(ad190.add ((t189).toNat * 4)).block, (ad190.add ((t189).toNat * 4)).off + 2, none⟩ = some (.int .u64 ((rd_T51 x6_1 t189).f1)) ∧ w'.cell? ⟨(ad190.add ((t189).toNat * 4)).block, (ad190.add ((t189).toNat * 4)).off + 3, none⟩ = some (.int .i64 ((rd_T51 x6_1 t189).f2))) (ds := []) (bm 9 0) (by kernel_rfl) rfl rfl ⟨(blk_cell BK188.out 0).trans rfl, (blk_cell BK188.out 1).trans rfl, (blk_cell BK188.out 2).trans rfl, (blk_cell BK188.out 3).trans rfl, hx190_0, hx190_1, hx190_2, hx190_3⟩ (fun hHeld => ?_); refine with_tabW ensembleref05_More.tab11 ensembleref05_More.bits11 (fun HT_ HW_ => ?_)
            generalize w41.drew = w42 at HO_6 BK188 HB hx190_0 hx190_1 hx190_2 hx190_3 hHeld ⊢
            refine pu 0 (some 32) (bm 9 1) ?_
            refine pu 2 (some 34) (bm 9 5) ?_
            refine pu 3 (some 35) (bm 9 13) ?_
            refine pu 4 (some 36) (bm 9 29) ?_
            refine pu 5 (some 37) (bm 9 61) ?_
            refine tk8 1 (some 33) (bm 9 63) ?_
            refine tk8 6 (some 38) (bm 9 127) ?_
            refine one_ (i := 7) (N := some 39) (bm 9 255) rfl rfl (one_of HT_.out (by kernel_rfl)) (by decide) (fun K hK => ?_)
            refine goes_ Try.func80 (by kernel_rfl) rfl #[.int .u64 ((rd_T52 l1 x7_1).f1), .int .u64 ((rd_T51 x6_1 t189).f1)] (by rfl) rfl rfl Z1 ?_
            with_reducible refine (ensembleref05_masks.calls k1 ((rd_T52 l1 x7_1).f1) ((rd_T51 x6_1 t189).f1) t191 _ A20.out).mono ?_
            rintro e w43 ⟨rfl, hb⟩
            have HS4_ := (hb.cell (World.block_lt_of_cell? _ _ (hHeld.2.2.2.2.1))).trans (hHeld.2.2.2.2.1)
            have HS5_ := (hb.cell (World.block_lt_of_cell? _ _ (hHeld.2.2.2.2.2.1))).trans (hHeld.2.2.2.2.2.1)
            have HS6_ := (hb.cell (World.block_lt_of_cell? _ _ (hHeld.2.2.2.2.2.2.1))).trans (hHeld.2.2.2.2.2.2.1)
            have HS7_ := (hb.cell (World.block_lt_of_cell? _ _ (hHeld.2.2.2.2.2.2.2))).trans (hHeld.2.2.2.2.2.2.2)
            refine ⟨_, rfl, ?_⟩
            have n0_ := Aside0.mk (Kd.R_below Z10 hb)
            have n1_ := Aside0.mk (blk_below (g := gb188) (o := .cells #[.int .i64 ((rd_T52 l1 x7_1).f0.f0), .int .i64 ((rd_T52 l1 x7_1).f0.f1), .int .u64 ((rd_T52 l1 x7_1).f1), .int .i64 ((rd_T52 l1 x7_1).f2)] 52 (0, 0)) (by (with_reducible repeat (first | refine blk_drewN ?_ _ | refine blk_drew ?_ | refine blk_alloc ?_ _)); exact BK188.out) hb)
            have n2_ := Aside0.mk (below_step (by repeat (first | (with_reducible first | exact HB.out | apply below_alloc | apply pw_below_drewN | apply below_drew1 | refine below_set ?_ GE188.out) | exact HB.out)) hb)
            clear HO_6
            clear BK188
            clear HB
            have HO_6 := n0_
            have BK188 := n1_
            have HB := n2_
            clear n0_ n1_ n2_
            (try clear hb)
            (try clear hb2)
            (try clear hk)
            (try clear hi)
            refine hK.out _ _ ⟨(blk_cell BK188.out 0).trans rfl, (blk_cell BK188.out 1).trans rfl, (blk_cell BK188.out 2).trans rfl, (blk_cell BK188.out 3).trans rfl, HS4_, HS5_, HS6_, HS7_⟩ (fun hHeld => ?_)
            clear hK K
            refine norm_ (a' := ?_) ?_ ?_
            rotate_left
            ·show Act.put _ (some 39) _ = _
             simp only [Act.put, List.setIfInBounds_toArray, List.set_cons_zero, List.set_cons_succ, i64_w, i32_w]
             rfl
            refine pu 8 (some 40) (bm 9 511) ?_
            refine done_ (done_of HT_.out (by kernel_rfl)) ?_
            try go_wp2
            have n0_ := Aside0.mk (Kd.R_drew HO_6.out)
            have n1_ := Aside0.mk (blk_drew BK188.out)
            have n2_ := Aside0.mk (below_drew1 HB.out)
            clear HO_6
            clear BK188
            clear HB
            have HO_6 := n0_
            have BK188 := n1_
            have HB := n2_
            clear n0_ n1_ n2_
            have p192 : 0 ≤ (t189 : Int) := of_decide_eq_true Z2
            have q192 : t189 < (x6_1.length : Int) := of_decide_eq_true Z2
            obtain ⟨ad192, e192, hx192_0, hx192_1, hx192_2, hx192_3⟩ := at_T51 (Kd.R_reads' HO_6.out).2.2 t189 p192 q192
            obtain rfl : ad190 = ad192 := (by injection e192)
            replace p192 := eq_true p192
            replace q192 := eq_true q192
            refine start_ (n := 9) (S := fun w' => w'.cell? ⟨gb188, 0, none⟩ = some (.int .i64 ((rd_T52 l1 x7_1).f0.f0)) ∧ w'.cell? ⟨gb188, 1, none⟩ = some (.int .i64 ((rd_T52 l1 x7_1).f0.f1)) ∧ w'.cell? ⟨gb188, 2, none⟩ = some (.int .u64 ((rd_T52 l1 x7_1).f1)) ∧ w'.cell? ⟨gb188, 3, none⟩ = some (.int .i64 ((rd_T52 l1 x7_1).f2)) ∧ w'.cell? (ad190.add ((t189).toNat * 4)) = some (.int .i64 ((rd_T51 x6_1 t189).f0.f0)) ∧ w'.cell? ⟨(ad190.add ((t189).toNat * 4)).block, (ad190.add ((t189).toNat * 4)).off + 1, none⟩ = some (.int .i64 ((rd_T51 x6_1 t189).f0.f1)) ∧ w'.cell? ⟨(ad190.add ((t189).toNat * 4)).block, (ad190.add ((t189).toNat * 4)).off + 2, none⟩ = some (.int .u64 ((rd_T51 x6_1 t189).f1)) ∧ w'.cell? ⟨(ad190.add ((t189).toNat * 4)).block, (ad190.add ((t189).toNat * 4)).off + 3, none⟩ = some (.int .i64 ((rd_T51 x6_1 t189).f2))) (ds := []) (bm 9 0) (by kernel_rfl) rfl rfl ⟨(blk_cell BK188.out 0).trans rfl, (blk_cell BK188.out 1).trans rfl, (blk_cell BK188.out 2).trans rfl, (blk_cell BK188.out 3).trans rfl, hx192_0, hx192_1, hx192_2, hx192_3⟩ (fun hHeld => ?_); refine with_tabW ensembleref05_More.tab13 ensembleref05_More.bits13 (fun HT_ HW_ => ?_)
            generalize w43.drew = w44 at HO_6 BK188 HB hx192_0 hx192_1 hx192_2 hx192_3 hHeld ⊢
            refine pu 0 (some 41) (bm 9 1) ?_
            refine pu 2 (some 43) (bm 9 5) ?_
            refine pu 3 (some 44) (bm 9 13) ?_
            refine pu 4 (some 45) (bm 9 29) ?_
            refine pu 5 (some 46) (bm 9 61) ?_
            refine tk8 1 (some 42) (bm 9 63) ?_
            refine tk8 6 (some 47) (bm 9 127) ?_
            refine pu 7 (some 48) (bm 9 255) ?_
            refine pu 8 (some 49) (bm 9 511) ?_
            refine done_ (done_of HT_.out (by kernel_rfl)) ?_
            try go_wp2
            have n0_ := Aside0.mk (Kd.R_drew HO_6.out)
            have n1_ := Aside0.mk (blk_drew BK188.out)
            have n2_ := Aside0.mk (below_drew1 HB.out)
            clear HO_6
            clear BK188
            clear HB
            have HO_6 := n0_
            have BK188 := n1_
            have HB := n2_
            clear n0_ n1_ n2_
            have p193 : 0 ≤ (t189 : Int) := of_decide_eq_true Z2
            have q193 : t189 < (x6_1.length : Int) := of_decide_eq_true Z2
            obtain ⟨ad193, e193, hx193_0, hx193_1, hx193_2, hx193_3⟩ := at_T51 (Kd.R_reads' HO_6.out).2.2 t189 p193 q193
            obtain rfl : ad190 = ad193 := (by injection e193)
            replace p193 := eq_true p193
            replace q193 := eq_true q193
            have p36 : 0 ≤ (t189 : Int) := of_decide_eq_true Z2
            have q36 : (t189 : Int) < ((x6_1.length : Int) : Int) := of_decide_eq_true Z2
            obtain ⟨go36, co36, eo36, gb36, gl36, cl36, HG36⟩ := Kd.R_form HO_6.out (by omega)
            (first | cases eo36 | (injection eo36 with ea_ en_ ec_; (first | subst ea_ | (injection ea_ with ea_; subst ea_)); subst ec_; clear en_))
            have GB36 := Aside0.mk gb36
            have GG36 := Aside0.mk HG36
            clear gb36 gl36 HG36
            (first | simp only [add_plain] at hx190_0 | skip)
            (first | simp only [add_plain] at hx190_1 | skip)
            (first | simp only [add_plain] at hx190_2 | skip)
            (first | simp only [add_plain] at hx190_3 | skip)
            (first | simp only [add_plain] at hx192_0 | skip)
            (first | simp only [add_plain] at hx192_1 | skip)
            (first | simp only [add_plain] at hx192_2 | skip)
            (first | simp only [add_plain] at hx192_3 | skip)
            (first | simp only [add_plain] at hx193_0 | skip)
            (first | simp only [add_plain] at hx193_1 | skip)
            (first | simp only [add_plain] at hx193_2 | skip)
            (first | simp only [add_plain] at hx193_3 | skip)
            obtain ⟨ce36, hcl36, hM36, hcc36, hfr36⟩ := Kd.R_elem HO_6.out z51 (t189 : Int) p36 q36
            obtain rfl := k51_openM hM36
            have hx36_0 : World.cell? _ ⟨go36, (t189 : Int).toNat * 4, none⟩ = some (.int .i64 ((rd_T51 x6_1 t189).f0.f0)) := hcc36 0 _ rfl
            have hx36_1 : World.cell? _ ⟨go36, (t189 : Int).toNat * 4 + 1, none⟩ = some (.int .i64 ((rd_T51 x6_1 t189).f0.f1)) := hcc36 1 _ rfl
            have hx36_2 : World.cell? _ ⟨go36, (t189 : Int).toNat * 4 + 2, none⟩ = some (.int .u64 ((rd_T51 x6_1 t189).f1)) := hcc36 2 _ rfl
            have hx36_3 : World.cell? _ ⟨go36, (t189 : Int).toNat * 4 + 3, none⟩ = some (.int .i64 ((rd_T51 x6_1 t189).f2)) := hcc36 3 _ rfl
            have hf36_0 : World.frozen? _ ⟨go36, (t189 : Int).toNat * 4, none⟩ = false := hfr36 0
            have hf36_1 : World.frozen? _ ⟨go36, (t189 : Int).toNat * 4 + 1, none⟩ = false := hfr36 1
            have hf36_2 : World.frozen? _ ⟨go36, (t189 : Int).toNat * 4 + 2, none⟩ = false := hfr36 2
            have hf36_3 : World.frozen? _ ⟨go36, (t189 : Int).toNat * 4 + 3, none⟩ = false := hfr36 3
            clear hcl36 hcc36 hfr36 hM36
            replace p36 := eq_true p36
            replace q36 := eq_true q36
            obtain ⟨ce46, hcl46, hM46, hcc46, hfr46⟩ := Kd.R_elem HO_6.out z51 (t189 : Int) (of_decide_eq_true Z2) (by have h_ : (t189 : Int) < ((x6_1.length : Int) : Int) := of_decide_eq_true Z2; first | exact h_ | (have e_ := (Kd.R_reads' HO_6.out).1; omega) | simpa using h_)
            obtain rfl := k51_openM hM46
            have HP46 := (Kd.R_seg HO_6.out (t189 : Int) (of_decide_eq_true Z2) (by have h_ : (t189 : Int) < ((x6_1.length : Int) : Int) := of_decide_eq_true Z2; first | exact h_ | (have e_ := (Kd.R_reads' HO_6.out).1; omega) | simpa using h_) (seg := [.int .u64 (IntKind.u64.wrap (((rd_T51 x6_1 t189).f1) + ((rd_T52 l1 x7_1).f1)))]) (j := 2) hcl46 hcc46 (show 3 ≤ 4 from by decide) (x' := (⟨(⟨(rd_T51 x6_1 t189).f0.f0, (rd_T51 x6_1 t189).f0.f1⟩ : S48), IntKind.u64.wrap (((rd_T51 x6_1 t189).f1) + ((rd_T52 l1 x7_1).f1)), (rd_T51 x6_1 t189).f2⟩ : S51)) (k51_mkM _ _ _ (⟨(⟨(rd_T51 x6_1 t189).f0.f0, (rd_T51 x6_1 t189).f0.f1⟩ : S48), IntKind.u64.wrap (((rd_T51 x6_1 t189).f1) + ((rd_T52 l1 x7_1).f1)), (rd_T51 x6_1 t189).f2⟩ : S51) ) (fun _ hk => hk)).1
            rw [← Ny194.out] at HP46
            have HQ46 := Aside0.mk HP46
            clear hcl46 hcc46 hfr46 hM46 HP46
            refine start_ (n := 13) (S := fun w' => w'.cell? ⟨gb188, 0, none⟩ = some (.int .i64 ((rd_T52 l1 x7_1).f0.f0)) ∧ w'.cell? ⟨gb188, 1, none⟩ = some (.int .i64 ((rd_T52 l1 x7_1).f0.f1)) ∧ w'.cell? ⟨gb188, 2, none⟩ = some (.int .u64 ((rd_T52 l1 x7_1).f1)) ∧ w'.cell? ⟨gb188, 3, none⟩ = some (.int .i64 ((rd_T52 l1 x7_1).f2)) ∧ w'.cell? ⟨go36, ((t189).toNat * 4), none⟩ = some (.int .i64 ((rd_T51 x6_1 t189).f0.f0)) ∧ w'.cell? ⟨go36, ((t189).toNat * 4) + 1, none⟩ = some (.int .i64 ((rd_T51 x6_1 t189).f0.f1)) ∧ w'.cell? ⟨go36, ((t189).toNat * 4) + 2, none⟩ = some (.int .u64 ((rd_T51 x6_1 t189).f1)) ∧ w'.cell? ⟨go36, ((t189).toNat * 4) + 3, none⟩ = some (.int .i64 ((rd_T51 x6_1 t189).f2))) (ds := [12]) (bm 13 0) (by kernel_rfl) rfl rfl ⟨(blk_cell BK188.out 0).trans rfl, (blk_cell BK188.out 1).trans rfl, (blk_cell BK188.out 2).trans rfl, (blk_cell BK188.out 3).trans rfl, hx193_0, hx193_1, hx193_2, hx193_3⟩ (fun hHeld => ?_); refine with_tabW ensembleref05_More.tab15 ensembleref05_More.bits15 (fun HT_ HW_ => ?_)
            generalize w44.drew = w45 at HO_6 BK188 HB GG36 HQ46 hf36_0 hf36_1 hf36_2 hf36_3 hx190_0 hx190_1 hx190_2 hx190_3 hx192_0 hx192_1 hx192_2 hx192_3 hx193_0 hx193_1 hx193_2 hx193_3 hx36_0 hx36_1 hx36_2 hx36_3 hHeld ⊢
            refine pu 0 (some 50) (bm 13 1) ?_
            refine pu 1 (some 51) (bm 13 3) ?_
            refine pu 2 (some 52) (bm 13 7) ?_
            refine pu 3 (some 53) (bm 13 15) ?_
            refine pu 4 (some 54) (bm 13 31) ?_
            refine pu 5 (some 55) (bm 13 63) ?_
            refine pu 7 (some 57) (bm 13 191) ?_
            refine tk8 6 (some 56) (bm 13 255) ?_
            refine tk8 8 (some 58) (bm 13 511) ?_
            refine pu 9 (some 59) (bm 13 1023) ?_
            refine pu 10 (some 60) (bm 13 2047) ?_
            refine pu 11 (some 61) (bm 13 4095) ?_
            refine last_ (i := 12) (N := none) (bm 13 8191) rfl rfl (one_of HT_.out (by kernel_rfl)) (by decide) (fun K hK => ?_)
            refine skip_ (w1 := ?_) (by rfl) rfl ?_ ?_
            rotate_left
            ·go_simp
             rfl
            refine hK.out _ _ ?_
            clear hK K
            refine done_ (done_of HT_.out (by kernel_rfl)) ?_
            try go_wp2
            have n0_ : Aside0 (Kd.R k51 51 (w45.setCell ⟨go36, (t189 : Int).toNat * 4 + 2, none⟩ (.int .u64 (IntKind.u64.wrap (((rd_T51 x6_1 t189).f1) + ((rd_T52 l1 x7_1).f1))))) w.heap.size (fun _ => True) (.slice (some ⟨go36, 0, none⟩) x6_1.length co40) y194) := ⟨by (with_reducible repeat (first | apply Kd.R_alloc | apply Kd.R_drewN | apply Kd.R_drew)); exact HQ46.out⟩
            have n1_ : Aside0 ((w45.setCell ⟨go36, (t189 : Int).toNat * 4 + 2, none⟩ (.int .u64 (IntKind.u64.wrap (((rd_T51 x6_1 t189).f1) + ((rd_T52 l1 x7_1).f1))))).heap[gb188]? = some (.cells #[.int .i64 ((rd_T52 l1 x7_1).f0.f0), .int .i64 ((rd_T52 l1 x7_1).f0.f1), .int .u64 ((rd_T52 l1 x7_1).f1), .int .i64 ((rd_T52 l1 x7_1).f2)] 52 (0, 0))) := ⟨by (with_reducible repeat (first | refine blk_drewN ?_ _ | refine blk_drew ?_ | refine blk_alloc ?_ _)); refine blk_far ?_ (by have h_ := Kd.R_ne HO_6.out BK188.out (by decide); intro e_; exact h_ (by rw [e_]; rfl)) _; (with_reducible repeat (first | refine blk_drewN ?_ _ | refine blk_drew ?_ | refine blk_alloc ?_ _)); exact BK188.out⟩
            have n2_ : Aside0 (Below w.heap.size w (w45.setCell ⟨go36, (t189 : Int).toNat * 4 + 2, none⟩ (.int .u64 (IntKind.u64.wrap (((rd_T51 x6_1 t189).f1) + ((rd_T52 l1 x7_1).f1)))))) := ⟨by repeat (first | (with_reducible first | exact HB.out | apply below_alloc | apply pw_below_drewN | apply below_drew1 | refine below_set ?_ GB36.out | refine below_set ?_ GE188.out) | exact HB.out)⟩
            (try clear HO_6)
            (try clear BK188)
            (try clear HB)
            generalize (w45.setCell ⟨go36, (t189 : Int).toNat * 4 + 2, none⟩ (.int .u64 (IntKind.u64.wrap (((rd_T51 x6_1 t189).f1) + ((rd_T52 l1 x7_1).f1))))) = w47 at n0_ n1_ n2_ ⊢
            have HO_6 := n0_
            have BK188 := n1_
            have HB := n2_
            clear n0_ n1_ n2_
            have n0_ := Aside0.mk (Kd.R_drew HO_6.out)
            have n1_ := Aside0.mk (blk_drew BK188.out)
            have n2_ := Aside0.mk (below_drew1 HB.out)
            clear HO_6
            clear BK188
            clear HB
            have HO_6 := n0_
            have BK188 := n1_
            have HB := n2_
            clear n0_ n1_ n2_
            have p195 : 0 ≤ (t189 : Int) := of_decide_eq_true Z2
            have q195 : t189 < (y194.length : Int) := (by have h_ : (t189 : Int) < ((x6_1.length : Int) : Int) := of_decide_eq_true Z2; first | (have e_ := (Kd.R_reads' HO_6.out).1; omega) | simpa only [Ny194.out, List.length_set] using h_)
            have ql195 : ((t189 : Int) < ((x6_1.length : Int) : Int)) = True := eq_true (of_decide_eq_true Z2)
            obtain ⟨ad195, e195, hx195_0, hx195_1, hx195_2, hx195_3⟩ := at_T51 (Kd.R_reads' HO_6.out).2.2 t189 p195 q195
            obtain rfl : (⟨go36, 0, none⟩ : Addr) = ad195 := (by injection e195)
            (first | simp only [add_plain] at hx195_0 | simp only [add_at] at hx195_0 | simp only [Addr.add, Nat.zero_add] at hx195_0 | skip)
            (first | simp only [add_plain] at hx195_1 | simp only [add_at] at hx195_1 | simp only [Addr.add, Nat.zero_add] at hx195_1 | skip)
            (first | simp only [add_plain] at hx195_2 | simp only [add_at] at hx195_2 | simp only [Addr.add, Nat.zero_add] at hx195_2 | skip)
            (first | simp only [add_plain] at hx195_3 | simp only [add_at] at hx195_3 | simp only [Addr.add, Nat.zero_add] at hx195_3 | skip)
            replace p195 := eq_true p195
            replace q195 := eq_true q195
            have p37 : 0 ≤ (t189 : Int) := of_decide_eq_true Z2
            have q37 : (t189 : Int) < ((x6_1.length : Int) : Int) := of_decide_eq_true Z2
            obtain ⟨ce37, hcl37, hM37, hcc37, hfr37⟩ := Kd.R_elem HO_6.out z51 (t189 : Int) p37 q37
            obtain rfl := k51_openM hM37
            have hx37_0 : World.cell? _ ⟨go36, (t189 : Int).toNat * 4, none⟩ = some (.int .i64 ((rd_T51 y194 t189).f0.f0)) := hcc37 0 _ rfl
            have hx37_1 : World.cell? _ ⟨go36, (t189 : Int).toNat * 4 + 1, none⟩ = some (.int .i64 ((rd_T51 y194 t189).f0.f1)) := hcc37 1 _ rfl
            have hx37_2 : World.cell? _ ⟨go36, (t189 : Int).toNat * 4 + 2, none⟩ = some (.int .u64 ((rd_T51 y194 t189).f1)) := hcc37 2 _ rfl
            have hx37_3 : World.cell? _ ⟨go36, (t189 : Int).toNat * 4 + 3, none⟩ = some (.int .i64 ((rd_T51 y194 t189).f2)) := hcc37 3 _ rfl
            have hf37_0 : World.frozen? _ ⟨go36, (t189 : Int).toNat * 4, none⟩ = false := hfr37 0
            have hf37_1 : World.frozen? _ ⟨go36, (t189 : Int).toNat * 4 + 1, none⟩ = false := hfr37 1
            have hf37_2 : World.frozen? _ ⟨go36, (t189 : Int).toNat * 4 + 2, none⟩ = false := hfr37 2
            have hf37_3 : World.frozen? _ ⟨go36, (t189 : Int).toNat * 4 + 3, none⟩ = false := hfr37 3
            clear hcl37 hcc37 hfr37 hM37
            replace p37 := eq_true p37
            replace q37 := eq_true q37
            obtain ⟨ce49, hcl49, hM49, hcc49, hfr49⟩ := Kd.R_elem HO_6.out z51 (t189 : Int) (of_decide_eq_true Z2) (by have h_ : (t189 : Int) < ((x6_1.length : Int) : Int) := of_decide_eq_true Z2; first | exact h_ | (have e_ := (Kd.R_reads' HO_6.out).1; omega) | simpa using h_)
            obtain rfl := k51_openM hM49
            have HP49 := (Kd.R_seg HO_6.out (t189 : Int) (of_decide_eq_true Z2) (by have h_ : (t189 : Int) < ((x6_1.length : Int) : Int) := of_decide_eq_true Z2; first | exact h_ | (have e_ := (Kd.R_reads' HO_6.out).1; omega) | simpa using h_) (seg := [.int .i64 (wrap64 (((rd_T51 y194 t189).f2) + ((rd_T52 l1 x7_1).f2)))]) (j := 3) hcl49 hcc49 (show 4 ≤ 4 from by decide) (x' := (⟨(⟨(rd_T51 y194 t189).f0.f0, (rd_T51 y194 t189).f0.f1⟩ : S48), (rd_T51 y194 t189).f1, wrap64 (((rd_T51 y194 t189).f2) + ((rd_T52 l1 x7_1).f2))⟩ : S51)) (k51_mkM _ _ _ (⟨(⟨(rd_T51 y194 t189).f0.f0, (rd_T51 y194 t189).f0.f1⟩ : S48), (rd_T51 y194 t189).f1, wrap64 (((rd_T51 y194 t189).f2) + ((rd_T52 l1 x7_1).f2))⟩ : S51) ) (fun _ hk => hk)).1
            rw [← Ny196.out] at HP49
            have HQ49 := Aside0.mk HP49
            clear hcl49 hcc49 hfr49 hM49 HP49
            refine start_ (n := 13) (S := fun w' => w'.cell? ⟨gb188, 0, none⟩ = some (.int .i64 ((rd_T52 l1 x7_1).f0.f0)) ∧ w'.cell? ⟨gb188, 1, none⟩ = some (.int .i64 ((rd_T52 l1 x7_1).f0.f1)) ∧ w'.cell? ⟨gb188, 2, none⟩ = some (.int .u64 ((rd_T52 l1 x7_1).f1)) ∧ w'.cell? ⟨gb188, 3, none⟩ = some (.int .i64 ((rd_T52 l1 x7_1).f2)) ∧ w'.cell? ⟨go36, (t189).toNat * 4, none⟩ = some (.int .i64 ((rd_T51 y194 t189).f0.f0)) ∧ w'.cell? ⟨go36, (t189).toNat * 4 + 1, none⟩ = some (.int .i64 ((rd_T51 y194 t189).f0.f1)) ∧ w'.cell? ⟨go36, (t189).toNat * 4 + 2, none⟩ = some (.int .u64 ((rd_T51 y194 t189).f1)) ∧ w'.cell? ⟨go36, (t189).toNat * 4 + 3, none⟩ = some (.int .i64 ((rd_T51 y194 t189).f2))) (ds := [12]) (bm 13 0) (by kernel_rfl) rfl rfl ⟨(blk_cell BK188.out 0).trans rfl, (blk_cell BK188.out 1).trans rfl, (blk_cell BK188.out 2).trans rfl, (blk_cell BK188.out 3).trans rfl, hx195_0, hx195_1, hx195_2, hx195_3⟩ (fun hHeld => ?_); refine with_tabW ensembleref05_More.tab16 ensembleref05_More.bits16 (fun HT_ HW_ => ?_)
            generalize w47.drew = w48 at HO_6 BK188 HB HQ46 HQ49 hf37_0 hf37_1 hf37_2 hf37_3 hx195_0 hx195_1 hx195_2 hx195_3 hx37_0 hx37_1 hx37_2 hx37_3 hHeld ⊢
            refine pu 0 (some 62) (bm 13 1) ?_
            refine pu 1 (some 63) (bm 13 3) ?_
            refine pu 2 (some 64) (bm 13 7) ?_
            refine pu 3 (some 65) (bm 13 15) ?_
            refine pu 4 (some 66) (bm 13 31) ?_
            refine pu 5 (some 67) (bm 13 63) ?_
            refine pu 7 (some 69) (bm 13 191) ?_
            refine tk8 6 (some 68) (bm 13 255) ?_
            refine tk8 8 (some 70) (bm 13 511) ?_
            refine pu 9 (some 71) (bm 13 1023) ?_
            refine pu 10 (some 72) (bm 13 2047) ?_
            refine pu 11 (some 73) (bm 13 4095) ?_
            refine last_ (i := 12) (N := none) (bm 13 8191) rfl rfl (one_of HT_.out (by kernel_rfl)) (by decide) (fun K hK => ?_)
            refine skip_ (w1 := ?_) (by rfl) rfl ?_ ?_
            rotate_left
            ·go_simp
             rfl
            refine hK.out _ _ ?_
            clear hK K
            refine done_ (done_of HT_.out (by kernel_rfl)) ?_
            try go_wp2
            go_roundg k1
            case measure => have := HK1.out; omega
            case rel => exact ⟨(y196), (wrap64 (x7_1 + 1)), Z4, H', ⟨by have := HK1.out; omega⟩, ⟨by (with_reducible repeat (first | apply Kd.R_alloc | apply Kd.R_drewN | apply Kd.R_drew)); exact HQ49.out⟩, ⟨by repeat (first | (with_reducible first | exact HB.out | apply below_alloc | apply pw_below_drewN | apply below_drew1 | refine below_set ?_ GB36.out | refine below_set ?_ GE188.out) | exact HB.out)⟩⟩
         ·rw [if_neg c19] at H
          exact absurd H (by simp)
        ·rw [if_neg c18] at H
         exact absurd H (by simp)
     ·rw [if_neg c8] at H
      exact absurd H (by simp)
    ·rw [if_neg c7] at H
     have c7b0 : decide (x7_1 < (l1.length : Int)) = false := decide_eq_false c7
     clear c7
     simp only [Option.some.injEq, Prod.mk.injEq] at H
     obtain ⟨rfl, rfl⟩ := H
     go_wp2
     go_ret2
     exact ⟨_, by first | rfl | (simp [errW_none, errW_some] <;> rfl) | (simp [*, errW_none, errW_some] <;> rfl), by (with_reducible repeat (first | apply Kd.R_alloc | apply Kd.R_drewN | apply Kd.R_drew)); exact HO_6.out, by repeat (first | (with_reducible first | exact HB.out | apply below_alloc | apply pw_below_drewN | apply below_drew1) | exact HB.out)⟩
 ·rw [if_neg c3] at H
  exact absurd H (by simp)
end Go.Proofs.Ytckhjehibjdjdaa.P
namespace Go.Proofs.Ytckhjehibjdjdaa.P
open Go.RowKit Go.Proofs.YtckhjehibjdjdaaW.PrintWords Go.Proofs.YtckhjehibjdjdaaW.PrintLast Go.Proofs.YtckhjehibjdjdaaW.PrintMore
attribute [local go_sem] max2_int min2_int max_two min_two max_three min_three max_four min_four
set_option linter.unusedVariables false
set_option linter.unusedSimpArgs false
def ensembleref08_Units.l0 : Nat → List (S52) → Int → Int → Int → Option (Int × Int)
 | 0, _, _, _, _ => none
 | k + 1, x0, x4, x199000, x199001 => if x4 < (x0.length : Int) then (if 0 ≤ x4 then ((ensembleref01_Units.f k ((rd_T52 x0 x4).f1)).bind fun t200 => (ensembleref08_Units.l0 k x0 (wrap64 (x4 + 1)) (wrap64 (x199000 + (t200.length : Int))) (wrap64 (x199001 + ((rd_T52 x0 x4).f2))))) else (none)) else (some (x199000, x199001))
def ensembleref08_Units.f (k : Nat) (l0 : List (S52)) : Option (Int × Int) := ensembleref08_Units.l0 k l0 0 0 0
def ensembleref08_Units.T5 : Bool × List (List Nat × List Nat) := (true, [([], []), ([0], [0]), ([], []), ([], []), ([2, 3], [2, 3]), ([4], [4]), ([5], [5]), ([6], [6]), ([7], [7]), ([1, 8], [1, 8]), ([0, 1, 2, 3, 4, 5, 6, 7, 8, 9], []), ([10, 9, 7, 0, 1, 2, 3, 4, 5, 6, 7, 8, 9], [9, 10])])
def ensembleref08_Units.B5 : List Nat := [0, 1, 0, 0, 12, 28, 60, 124, 252, 511, 1023, 2047]
theorem ensembleref08_Units.tab5 : rtab .any (opsOf Try.f42 5) = ensembleref08_Units.T5 := by kernel_rfl
theorem ensembleref08_Units.bits5 : waitsOk ensembleref08_Units.T5.2 ensembleref08_Units.B5 = true := by kernel_rfl
def ensembleref08_Units.T6 : Bool × List (List Nat × List Nat) := (true, [([], []), ([0], [0]), ([], []), ([], []), ([2, 3], [2, 3]), ([4], [4]), ([5], [5]), ([1, 6], [1, 6]), ([0, 1, 2, 3, 4, 5, 6, 7], []), ([8, 7, 0, 1, 2, 3, 4, 5, 6, 7], [7, 8])])
def ensembleref08_Units.B6 : List Nat := [0, 1, 0, 0, 12, 28, 60, 127, 255, 511]
theorem ensembleref08_Units.tab6 : rtab .any (opsOf Try.f42 6) = ensembleref08_Units.T6 := by kernel_rfl
theorem ensembleref08_Units.bits6 : waitsOk ensembleref08_Units.T6.2 ensembleref08_Units.B6 = true := by kernel_rfl
set_option maxHeartbeats 8000000 in
set_option maxRecDepth 100000 in
theorem ensembleref08_Units.calls (k : Nat) (A0 : Option Addr) (c0 : Nat) (l0 : List (S52)) (r1 : Int) (r2 : Int) (w : World) (hr0 : Kd.C k52 w A0 l0.length l0) (hc0 : l0.length ≤ c0) (h : ensembleref08_Units.f k l0 = some (r1, r2)) :
  Calls Try.prog 42 #[.slice A0 l0.length c0] w fun e w' => e = .returned (.agg #[.int .i64 r1, .int .i64 r2]) ∧ Below w.heap.size w w' := by
 have hu24 := Try.underlying24
 have HR0 := Aside0.mk hr0
 have HC0 := Aside0.mk hc0
 clear hr0 hc0
 have HB := Aside0.mk (Below.refl w.heap.size w)
 have H : (ensembleref08_Units.l0 k l0 0 0 0) = some (r1, r2) := h
 clear h
 have H' := Aside0.mk H
 clear H
 go_enter Try.func42, Try.ntmps42
 go_wp2_with (first | ((with_reducible refine gate_dst (N := 2) rfl ?_); refine bx 2 #[.int .i64 0, .int .i64 0] 24 ?_; intro gb197 hg w2 hbox hb; have n0_ := Aside0.mk (below_step Z0 hb); have n1_ := Aside0.mk (hbox); have n2_ := Aside0.mk ((by rw [hg]; exact (below_size Z0) : w.heap.size ≤ gb197)); have n3_ := Aside0.mk ((by rw [hg]; exact (below_size Z0) : w.heap.size ≤ gb197)); clear HB; have HB := n0_; have BK197 := n1_; have GW197 := n2_; have GE197 := n3_; clear n0_ n1_ n2_ n3_; clear hb hbox hg) | ((with_reducible refine gate_dst (N := 3) rfl ?_); refine bx 3 #[.int .i64 0, .int .i64 0] 24 ?_; intro gb198 hg w3 hbox hb; have n0_ := Aside0.mk (blk_below (g := gb197) (o := .cells #[.int .i64 0, .int .i64 0] 24 (0, 0)) (by (with_reducible repeat (first | refine blk_drewN ?_ _ | refine blk_drew ?_ | refine blk_alloc ?_ _)); exact BK197.out) hb); have n1_ := Aside0.mk (below_step (by repeat (first | (with_reducible first | exact HB.out | apply below_alloc | apply pw_below_drewN | apply below_drew1 | refine below_set ?_ GE197.out) | exact HB.out)) hb); have n2_ := Aside0.mk (hbox); have n3_ := Aside0.mk ((by rw [hg]; exact (below_size (by repeat (first | (with_reducible first | exact HB.out | apply below_alloc | apply pw_below_drewN | apply below_drew1 | refine below_set ?_ GE197.out) | exact HB.out))) : w.heap.size ≤ gb198)); have n4_ := Aside0.mk ((by rw [hg]; exact (below_size (by repeat (first | (with_reducible first | exact HB.out | apply below_alloc | apply pw_below_drewN | apply below_drew1 | refine below_set ?_ GE197.out) | exact HB.out))) : w.heap.size ≤ gb198)); have n5_ := Aside0.mk ((by rw [hg]; exact Nat.ne_of_lt (blk_lt (g := gb197) (o := .cells #[.int .i64 0, .int .i64 0] 24 (0, 0)) (by (with_reducible repeat (first | refine blk_drewN ?_ _ | refine blk_drew ?_ | refine blk_alloc ?_ _)); exact BK197.out)) : gb197 ≠ gb198)); have n6_ := Aside0.mk ((by rw [hg]; exact Nat.ne_of_gt (blk_lt (g := gb197) (o := .cells #[.int .i64 0, .int .i64 0] 24 (0, 0)) (by (with_reducible repeat (first | refine blk_drewN ?_ _ | refine blk_drew ?_ | refine blk_alloc ?_ _)); exact BK197.out)) : gb198 ≠ gb197)); clear BK197; clear HB; have BK197 := n0_; have HB := n1_; have BK198 := n2_; have GW198 := n3_; have GE198 := n4_; have NB197_198 := n5_; have NB198_197 := n6_; clear n0_ n1_ n2_ n3_ n4_ n5_ n6_; clear hb hbox hg; have hnb4 := NB198_197.out; have hnc4 := NB197_198.out; have hcz5_0 : w3.cell? ⟨gb198, 0, none⟩ = some (.int .i64 0) := (blk_cell BK198.out 0).trans rfl; have hcz5_1 : w3.cell? ⟨gb198, 1, none⟩ = some (.int .i64 0) := (blk_cell BK198.out 1).trans rfl; have hfz5_0 := blk_frozen BK198.out 0; have hfz5_1 := blk_frozen BK198.out 1))
 go_loopg [4] k (fun kq v4 w' => ∃ (x4_1 : Int) (x199000_1 : Int) (x199001_1 : Int), v4 = .int .i64 x4_1 ∧ Aside0 (ensembleref08_Units.l0 kq l0 x4_1 x199000_1 x199001_1 = some (r1, r2)) ∧ Aside0 (kq ≤ k) ∧ Aside0 (w'.heap[gb197]? = some (.cells #[.int .i64 0, .int .i64 0] 24 (0, 0))) ∧ Aside0 (w'.heap[gb198]? = some (.cells #[.int .i64 x199000_1, .int .i64 x199001_1] 24 (0, 0))) ∧ Aside0 (Below w.heap.size w w'))
 case atStart => exact ⟨(0), (0), (0), Z4, H', ⟨Nat.le_refl _⟩, ⟨by (with_reducible repeat (first | refine blk_drewN ?_ _ | refine blk_drew ?_ | refine blk_alloc ?_ _)); refine blk_far ?_ NB197_198.out _; (with_reducible repeat (first | refine blk_drewN ?_ _ | refine blk_drew ?_ | refine blk_alloc ?_ _)); refine blk_far ?_ NB197_198.out _; (with_reducible repeat (first | refine blk_drewN ?_ _ | refine blk_drew ?_ | refine blk_alloc ?_ _)); exact BK197.out⟩, ⟨by (with_reducible repeat (first | refine blk_drewN ?_ _ | refine blk_drew ?_ | refine blk_alloc ?_ _)); refine blk_put (cs := #[.int .i64 0, .int .i64 0]) ?_ 1 _ rfl; (with_reducible repeat (first | refine blk_drewN ?_ _ | refine blk_drew ?_ | refine blk_alloc ?_ _)); refine blk_put (cs := #[.int .i64 0, .int .i64 0]) ?_ 0 _ rfl; (with_reducible repeat (first | refine blk_drewN ?_ _ | refine blk_drew ?_ | refine blk_alloc ?_ _)); exact BK198.out⟩, ⟨by repeat (first | (with_reducible first | exact HB.out | apply below_alloc | apply pw_below_drewN | apply below_drew1 | refine below_set ?_ GE197.out | refine below_set ?_ GE198.out) | exact HB.out)⟩⟩
 case round =>
  clear H'
  try clear p2
  try clear c4
  try clear hcz5_0
  try clear hcz5_1
  try clear hfz5_0
  try clear hfz5_1
  obtain ⟨x4_1, x199000_1, x199001_1, rfl, HA, HK1, BK197, BK198, HB⟩ := hrel
  cases gk with
  | zero => exact absurd HA.out (by simp [ensembleref08_Units.l0])
  | succ k1 =>
   have H := HA.out
   clear HA
   simp only [ensembleref08_Units.l0] at H
   by_cases c6 : x4_1 < (l0.length : Int)
   ·rw [if_pos c6] at H
    have c6b0 : decide (x4_1 < (l0.length : Int)) = true := decide_eq_true c6
    clear c6
    by_cases c7 : 0 ≤ x4_1
    ·rw [if_pos c7] at H
     have c7b0 : decide (0 ≤ x4_1) = true := decide_eq_true c7
     clear c7
     replace H := Option.bind_eq_some_iff.mp H
     obtain ⟨t200, A80, H⟩ := H
     replace H : (ensembleref08_Units.l0 k1 l0 (wrap64 (x4_1 + 1)) (wrap64 (x199000_1 + (t200.length : Int))) (wrap64 (x199001_1 + ((rd_T52 l0 x4_1).f2)))) = some (r1, r2) := H
     have A8 := Aside0.mk A80
     clear A80
     have H' := Aside0.mk H
     clear H
     try go_wp2
     have n0_ := Aside0.mk (blk_drew BK197.out)
     have n1_ := Aside0.mk (blk_drew BK198.out)
     have n2_ := Aside0.mk (below_drew1 HB.out)
     clear BK197
     clear BK198
     clear HB
     have BK197 := n0_
     have BK198 := n1_
     have HB := n2_
     clear n0_ n1_ n2_
     have p199 : 0 ≤ (x4_1 : Int) := of_decide_eq_true Z2
     have q199 : x4_1 < (l0.length : Int) := of_decide_eq_true Z2
     obtain ⟨ad199, e199, hx199_0, hx199_1, hx199_2, hx199_3⟩ := at_T52 HR0.out x4_1 p199 q199
     have hw199_3 := hx199_3
     have hw199_2 := hx199_2
     have hw199_1 := hx199_1
     have hw199_0 := hx199_0
     cases e199
     replace hx199_0 := (HB.out.cell (World.block_lt_of_cell? w _ hx199_0)).trans hx199_0
     replace hx199_1 := (HB.out.cell (World.block_lt_of_cell? w _ hx199_1)).trans hx199_1
     replace hx199_2 := (HB.out.cell (World.block_lt_of_cell? w _ hx199_2)).trans hx199_2
     replace hx199_3 := (HB.out.cell (World.block_lt_of_cell? w _ hx199_3)).trans hx199_3
     replace p199 := eq_true p199
     replace q199 := eq_true q199
     refine start_ (n := 12) (S := fun w' => w'.cell? ⟨gb198, 0, none⟩ = some (.int .i64 x199000_1) ∧ w'.cell? ⟨gb198, 1, none⟩ = some (.int .i64 x199001_1) ∧ w'.cell? (ad199.add ((x4_1).toNat * 4)) = some (.int .i64 ((rd_T52 l0 x4_1).f0.f0)) ∧ w'.cell? ⟨(ad199.add ((x4_1).toNat * 4)).block, (ad199.add ((x4_1).toNat * 4)).off + 1, none⟩ = some (.int .i64 ((rd_T52 l0 x4_1).f0.f1)) ∧ w'.cell? ⟨(ad199.add ((x4_1).toNat * 4)).block, (ad199.add ((x4_1).toNat * 4)).off + 2, none⟩ = some (.int .u64 ((rd_T52 l0 x4_1).f1)) ∧ w'.cell? ⟨(ad199.add ((x4_1).toNat * 4)).block, (ad199.add ((x4_1).toNat * 4)).off + 3, none⟩ = some (.int .i64 ((rd_T52 l0 x4_1).f2))) (ds := [11]) (bm 12 0) (by kernel_rfl) rfl rfl ⟨(blk_cell BK198.out 0).trans rfl, (blk_cell BK198.out 1).trans rfl, ((HB.out.cell (World.block_lt_of_cell? w _ hw199_0)).trans hw199_0), ((HB.out.cell (World.block_lt_of_cell? w _ hw199_1)).trans hw199_1), ((HB.out.cell (World.block_lt_of_cell? w _ hw199_2)).trans hw199_2), ((HB.out.cell (World.block_lt_of_cell? w _ hw199_3)).trans hw199_3)⟩ (fun hHeld => ?_); refine with_tabW ensembleref08_Units.tab5 ensembleref08_Units.bits5 (fun HT_ HW_ => ?_)
     generalize wr.drew = w9 at BK197 BK198 HB hx199_0 hx199_1 hx199_2 hx199_3 hHeld ⊢
     refine pu 0 (some 12) (bm 12 1) ?_
     refine pu 2 (some 14) (bm 12 5) ?_
     refine pu 3 (some 15) (bm 12 13) ?_
     refine pu 4 (some 16) (bm 12 29) ?_
     refine pu 5 (some 17) (bm 12 61) ?_
     refine tk6 1 (some 13) (bm 12 63) ?_
     refine tk6 6 (some 18) (bm 12 127) ?_
     refine one_ (i := 7) (N := some 19) (bm 12 255) rfl rfl (one_of HT_.out (by kernel_rfl)) (by decide) (fun K hK => ?_)
     refine goes_ Try.func82 (by kernel_rfl) rfl #[.int .u64 ((rd_T52 l0 x4_1).f1)] (by rfl) rfl rfl Z1 ?_
     with_reducible refine (ensembleref01_Units.calls k1 ((rd_T52 l0 x4_1).f1) t200 _ A8.out).mono ?_
     rintro e w10 ⟨v201, rfl, ho0, hb⟩
     refine ⟨_, rfl, ?_⟩
     have n0_ := Aside0.mk (Kd.R_lower ho0 (below_size (by repeat (first | (with_reducible first | exact HB.out | apply below_alloc | apply pw_below_drewN | apply below_drew1 | refine below_set ?_ GE197.out | refine below_set ?_ GE198.out) | exact HB.out))))
     have n1_ := Aside0.mk (blk_below (g := gb197) (o := .cells #[.int .i64 0, .int .i64 0] 24 (0, 0)) (by (with_reducible repeat (first | refine blk_drewN ?_ _ | refine blk_drew ?_ | refine blk_alloc ?_ _)); exact BK197.out) hb)
     have n2_ := Aside0.mk (blk_below (g := gb198) (o := .cells #[.int .i64 x199000_1, .int .i64 x199001_1] 24 (0, 0)) (by (with_reducible repeat (first | refine blk_drewN ?_ _ | refine blk_drew ?_ | refine blk_alloc ?_ _)); exact BK198.out) hb)
     have n3_ := Aside0.mk (below_step (by repeat (first | (with_reducible first | exact HB.out | apply below_alloc | apply pw_below_drewN | apply below_drew1 | refine below_set ?_ GE197.out | refine below_set ?_ GE198.out) | exact HB.out)) hb)
     clear BK197
     clear BK198
     clear HB
     have HO202 := n0_
     have BK197 := n1_
     have BK198 := n2_
     have HB := n3_
     clear n0_ n1_ n2_ n3_
     (try clear hb)
     (try clear hb2)
     (try clear hk)
     (try clear hi)
     (try clear ho0)
     obtain ⟨Ao11, co11, eo11⟩ := Kd.R_slice HO202.out
     (first | subst eo11 | (injection eo11 with f1_ f2_ f3_; have f4_ := f1_.symm; have f5_ := f3_.symm; clear f1_ f2_ f3_; subst f4_; subst f5_))
     refine hK.out _ _ ⟨(blk_cell BK198.out 0).trans rfl, (blk_cell BK198.out 1).trans rfl, ((HB.out.cell (World.block_lt_of_cell? w _ hw199_0)).trans hw199_0), ((HB.out.cell (World.block_lt_of_cell? w _ hw199_1)).trans hw199_1), ((HB.out.cell (World.block_lt_of_cell? w _ hw199_2)).trans hw199_2), ((HB.out.cell (World.block_lt_of_cell? w _ hw199_3)).trans hw199_3)⟩ (fun hHeld => ?_)
     clear hK K
     refine norm_ (a' := ?_) ?_ ?_
     rotate_left
     ·show Act.put _ (some 19) _ = _
      simp only [Act.put, List.setIfInBounds_toArray, List.set_cons_zero, List.set_cons_succ, i64_w, i32_w]
      rfl
     refine pu 8 (some 20) (bm 12 511) ?_
     refine pu 9 (some 21) (bm 12 1023) ?_
     refine pu 10 (some 22) (bm 12 2047) ?_
     refine last_ (i := 11) (N := none) (bm 12 4095) rfl rfl (one_of HT_.out (by kernel_rfl)) (by decide) (fun K hK => ?_)
     have hs12 : w10.cell? ⟨gb198, 0, none⟩ = some (.int .i64 x199000_1) := (blk_cell BK198.out 0).trans rfl
     have hfs12 := blk_frozen BK198.out 0
     have hns12_0 := NB197_198.out
     have hms12_0 := NB198_197.out
     refine skip_ (w1 := ?_) (by rfl) rfl ?_ ?_
     rotate_left
     ·go_simp
      rfl
     refine hK.out _ _ ?_
     clear hK K
     refine done_ (done_of HT_.out (by kernel_rfl)) ?_
     try go_wp2
     have n0_ : Aside0 (Kd.R (Kd.int .i64) 3 (w10.setCell ⟨gb198, 0, none⟩ (.int .i64 (wrap64 (x199000_1 + (t200.length : Int))))) w.heap.size (fun _ => True) (.slice Ao11 t200.length co11) t200) := ⟨by (with_reducible repeat (first | apply Kd.R_alloc | apply Kd.R_drewN | apply Kd.R_drew)); exact Kd.R_mono (Kd.R_far (p := ⟨gb198, 0, none⟩) (Kd.R_types HO202.out BK198.out (by decide)) (fun _ hk => hk.2) (.int .i64 (wrap64 (x199000_1 + (t200.length : Int))))) (fun _ hk => trivial)⟩
     have n1_ : Aside0 ((w10.setCell ⟨gb198, 0, none⟩ (.int .i64 (wrap64 (x199000_1 + (t200.length : Int))))).heap[gb197]? = some (.cells #[.int .i64 0, .int .i64 0] 24 (0, 0))) := ⟨by (with_reducible repeat (first | refine blk_drewN ?_ _ | refine blk_drew ?_ | refine blk_alloc ?_ _)); refine blk_far ?_ NB197_198.out _; (with_reducible repeat (first | refine blk_drewN ?_ _ | refine blk_drew ?_ | refine blk_alloc ?_ _)); exact BK197.out⟩
     have n2_ : Aside0 ((w10.setCell ⟨gb198, 0, none⟩ (.int .i64 (wrap64 (x199000_1 + (t200.length : Int))))).heap[gb198]? = some (.cells #[.int .i64 (wrap64 (x199000_1 + (t200.length : Int))), .int .i64 x199001_1] 24 (0, 0))) := ⟨by (with_reducible repeat (first | refine blk_drewN ?_ _ | refine blk_drew ?_ | refine blk_alloc ?_ _)); refine blk_put (cs := #[.int .i64 x199000_1, .int .i64 x199001_1]) ?_ 0 _ rfl; (with_reducible repeat (first | refine blk_drewN ?_ _ | refine blk_drew ?_ | refine blk_alloc ?_ _)); exact BK198.out⟩
     have n3_ : Aside0 (Below w.heap.size w (w10.setCell ⟨gb198, 0, none⟩ (.int .i64 (wrap64 (x199000_1 + (t200.length : Int)))))) := ⟨by repeat (first | (with_reducible first | exact HB.out | apply below_alloc | apply pw_below_drewN | apply below_drew1 | refine below_set ?_ GE197.out | refine below_set ?_ GE198.out) | exact HB.out)⟩
     (try clear HO202)
     (try clear BK197)
     (try clear BK198)
     (try clear HB)
     generalize (w10.setCell ⟨gb198, 0, none⟩ (.int .i64 (wrap64 (x199000_1 + (t200.length : Int))))) = w13 at n0_ n1_ n2_ n3_ ⊢
     have HO202 := n0_
     have BK197 := n1_
     have BK198 := n2_
     have HB := n3_
     clear n0_ n1_ n2_ n3_
     have n0_ := Aside0.mk (Kd.R_drew HO202.out)
     have n1_ := Aside0.mk (blk_drew BK197.out)
     have n2_ := Aside0.mk (blk_drew BK198.out)
     have n3_ := Aside0.mk (below_drew1 HB.out)
     clear HO202
     clear BK197
     clear BK198
     clear HB
     have HO202 := n0_
     have BK197 := n1_
     have BK198 := n2_
     have HB := n3_
     clear n0_ n1_ n2_ n3_
     have p203 : 0 ≤ (x4_1 : Int) := of_decide_eq_true Z2
     have q203 : x4_1 < (l0.length : Int) := of_decide_eq_true Z2
     obtain ⟨ad203, e203, hx203_0, hx203_1, hx203_2, hx203_3⟩ := at_T52 HR0.out x4_1 p203 q203
     have hw203_3 := hx203_3
     have hw203_2 := hx203_2
     have hw203_1 := hx203_1
     have hw203_0 := hx203_0
     obtain rfl : ad199 = ad203 := (by injection e203)
     replace hx203_0 := (HB.out.cell (World.block_lt_of_cell? w _ hx203_0)).trans hx203_0
     replace hx203_1 := (HB.out.cell (World.block_lt_of_cell? w _ hx203_1)).trans hx203_1
     replace hx203_2 := (HB.out.cell (World.block_lt_of_cell? w _ hx203_2)).trans hx203_2
     replace hx203_3 := (HB.out.cell (World.block_lt_of_cell? w _ hx203_3)).trans hx203_3
     replace p203 := eq_true p203
     replace q203 := eq_true q203
     refine start_ (n := 10) (S := fun w' => w'.cell? ⟨gb198, 0, none⟩ = some (.int .i64 (wrap64 (x199000_1 + (t200.length : Int)))) ∧ w'.cell? ⟨gb198, 1, none⟩ = some (.int .i64 x199001_1) ∧ w'.cell? (ad199.add ((x4_1).toNat * 4)) = some (.int .i64 ((rd_T52 l0 x4_1).f0.f0)) ∧ w'.cell? ⟨(ad199.add ((x4_1).toNat * 4)).block, (ad199.add ((x4_1).toNat * 4)).off + 1, none⟩ = some (.int .i64 ((rd_T52 l0 x4_1).f0.f1)) ∧ w'.cell? ⟨(ad199.add ((x4_1).toNat * 4)).block, (ad199.add ((x4_1).toNat * 4)).off + 2, none⟩ = some (.int .u64 ((rd_T52 l0 x4_1).f1)) ∧ w'.cell? ⟨(ad199.add ((x4_1).toNat * 4)).block, (ad199.add ((x4_1).toNat * 4)).off + 3, none⟩ = some (.int .i64 ((rd_T52 l0 x4_1).f2))) (ds := [9]) (bm 10 0) (by kernel_rfl) rfl rfl ⟨(blk_cell BK198.out 0).trans rfl, (blk_cell BK198.out 1).trans rfl, ((HB.out.cell (World.block_lt_of_cell? w _ hw203_0)).trans hw203_0), ((HB.out.cell (World.block_lt_of_cell? w _ hw203_1)).trans hw203_1), ((HB.out.cell (World.block_lt_of_cell? w _ hw203_2)).trans hw203_2), ((HB.out.cell (World.block_lt_of_cell? w _ hw203_3)).trans hw203_3)⟩ (fun hHeld => ?_); refine with_tabW ensembleref08_Units.tab6 ensembleref08_Units.bits6 (fun HT_ HW_ => ?_)
     generalize w13.drew = w14 at HO202 BK197 BK198 HB hx203_0 hx203_1 hx203_2 hx203_3 hHeld ⊢
     refine pu 0 (some 23) (bm 10 1) ?_
     refine pu 2 (some 25) (bm 10 5) ?_
     refine pu 3 (some 26) (bm 10 13) ?_
     refine pu 4 (some 27) (bm 10 29) ?_
     refine pu 5 (some 28) (bm 10 61) ?_
     refine tk6 1 (some 24) (bm 10 63) ?_
     refine tk6 6 (some 29) (bm 10 127) ?_
     refine pu 7 (some 30) (bm 10 255) ?_
     refine pu 8 (some 31) (bm 10 511) ?_
     refine last_ (i := 9) (N := none) (bm 10 1023) rfl rfl (one_of HT_.out (by kernel_rfl)) (by decide) (fun K hK => ?_)
     have hs15 : w14.cell? ⟨gb198, 1, none⟩ = some (.int .i64 x199001_1) := (blk_cell BK198.out 1).trans rfl
     have hfs15 := blk_frozen BK198.out 1
     have hns15_0 := NB197_198.out
     have hms15_0 := NB198_197.out
     refine skip_ (w1 := ?_) (by rfl) rfl ?_ ?_
     rotate_left
     ·go_simp
      rfl
     refine hK.out _ _ ?_
     clear hK K
     refine done_ (done_of HT_.out (by kernel_rfl)) ?_
     try go_wp2
     go_roundg k1
     case measure => have := HK1.out; omega
     case rel => exact ⟨(wrap64 (x4_1 + 1)), (wrap64 (x199000_1 + (t200.length : Int))), (wrap64 (x199001_1 + ((rd_T52 l0 x4_1).f2))), Z4, H', ⟨by have := HK1.out; omega⟩, ⟨by (with_reducible repeat (first | refine blk_drewN ?_ _ | refine blk_drew ?_ | refine blk_alloc ?_ _)); refine blk_far ?_ NB197_198.out _; (with_reducible repeat (first | refine blk_drewN ?_ _ | refine blk_drew ?_ | refine blk_alloc ?_ _)); exact BK197.out⟩, ⟨by (with_reducible repeat (first | refine blk_drewN ?_ _ | refine blk_drew ?_ | refine blk_alloc ?_ _)); refine blk_put (cs := #[.int .i64 (wrap64 (x199000_1 + (t200.length : Int))), .int .i64 x199001_1]) ?_ 1 _ rfl; (with_reducible repeat (first | refine blk_drewN ?_ _ | refine blk_drew ?_ | refine blk_alloc ?_ _)); exact BK198.out⟩, ⟨by repeat (first | (with_reducible first | exact HB.out | apply below_alloc | apply pw_below_drewN | apply below_drew1 | refine below_set ?_ GE197.out | refine below_set ?_ GE198.out) | exact HB.out)⟩⟩
    ·rw [if_neg c7] at H
     exact absurd H (by simp)
   ·rw [if_neg c6] at H
    have c6b0 : decide (x4_1 < (l0.length : Int)) = false := decide_eq_false c6
    clear c6
    simp only [Option.some.injEq, Prod.mk.injEq] at H
    obtain ⟨rfl, rfl⟩ := H
    have hnb16 := NB198_197.out
    have hnc16 := NB197_198.out
    have hcz17_0 : wr.cell? ⟨gb198, 0, none⟩ = some (.int .i64 x199000_1) := (blk_cell BK198.out 0).trans rfl
    have hcz17_1 : wr.cell? ⟨gb198, 1, none⟩ = some (.int .i64 x199001_1) := (blk_cell BK198.out 1).trans rfl
    have hfz17_0 := blk_frozen BK198.out 0
    have hfz17_1 := blk_frozen BK198.out 1
    have hcz18_0 : wr.cell? ⟨gb197, 0, none⟩ = some (.int .i64 0) := (blk_cell BK197.out 0).trans rfl
    have hcz18_1 : wr.cell? ⟨gb197, 1, none⟩ = some (.int .i64 0) := (blk_cell BK197.out 1).trans rfl
    have hfz18_0 := blk_frozen BK197.out 0
    have hfz18_1 := blk_frozen BK197.out 1
    go_wp2
    refine bodyPost_ret (results_cell_row rfl _ _ gb197 24 #[.int .i64 x199000_1, .int .i64 x199001_1] (0, 0) _ rfl (by (with_reducible repeat (first | refine blk_drewN ?_ _ | refine blk_drew ?_ | refine blk_alloc ?_ _)); refine blk_put (cs := #[.int .i64 x199000_1, .int .i64 0]) ?_ 1 _ rfl; (with_reducible repeat (first | refine blk_drewN ?_ _ | refine blk_drew ?_ | refine blk_alloc ?_ _)); refine blk_put (cs := #[.int .i64 0, .int .i64 0]) ?_ 0 _ rfl; (with_reducible repeat (first | refine blk_drewN ?_ _ | refine blk_drew ?_ | refine blk_alloc ?_ _)); exact BK197.out) Try.underlying24 rfl (by kernel_rfl)) rfl ?_
    exact ⟨by first | rfl | (simp [errW_none, errW_some] <;> rfl) | (simp [*, errW_none, errW_some] <;> rfl), by repeat (first | (with_reducible first | exact HB.out | apply below_alloc | apply pw_below_drewN | apply below_drew1 | refine below_set ?_ GE197.out | refine below_set ?_ GE198.out) | exact HB.out)⟩
end Go.Proofs.Ytckhjehibjdjdaa.P
namespace Go.Proofs.Ytckhjehibjdjdaa.P
open Go.RowKit Go.Proofs.YtckhjehibjdjdaaW.PrintWords Go.Proofs.YtckhjehibjdjdaaW.PrintLast Go.Proofs.YtckhjehibjdjdaaW.PrintMore
attribute [local go_sem] max2_int min2_int max_two min_two max_three min_three max_four min_four
set_option linter.unusedVariables false
set_option linter.unusedSimpArgs false
def ensembleref12_All.l0 : Nat → List (S41) → Int → List (S52) → Int → Option ((List (S52)))
 | 0, _, _, _, _ => none
 | k + 1, x0, x1, x5, x6 => if x6 < (x0.length : Int) then (if 0 ≤ x6 then (if ((rd_T41 x0 x6).f2) ≤ x1 then (if x5.length + ((rd_T41 x0 x6).f4).length < 4398046511104 then (ensembleref12_All.l0 k x0 x1 (x5 ++ ((rd_T41 x0 x6).f4)) (wrap64 (x6 + 1))) else (none)) else (ensembleref12_All.l0 k x0 x1 x5 (wrap64 (x6 + 1)))) else (none)) else (some x5)
def ensembleref12_All.f (k : Nat) (l0 : List (S41)) (a1 : Int) : Option ((List (S52))) := ensembleref12_All.l0 k l0 a1 ([] : List (S52)) 0
set_option maxHeartbeats 8000000 in
set_option maxRecDepth 100000 in
theorem ensembleref12_All.calls (k : Nat) (A0 : Option Addr) (c0 : Nat) (l0 : List (S41)) (a1 : Int) (r : List (S52)) (w : World) (hr0 : Kd.C k41 w A0 l0.length l0) (hc0 : l0.length ≤ c0) (h : ensembleref12_All.f k l0 a1 = some r) :
  Calls Try.prog 78 #[.slice A0 l0.length c0, .int .i64 a1] w fun e w' => ∃ v0_ : Value, e = .returned (v0_) ∧ Kd.R k52 52 w' w.heap.size (fun _ => True) v0_ r ∧ Below w.heap.size w w' := by
 have HR0 := Aside0.mk hr0
 have HC0 := Aside0.mk hc0
 clear hr0 hc0
 have HB := Aside0.mk (Below.refl w.heap.size w)
 have H : (ensembleref12_All.l0 k l0 a1 ([] : List (S52)) 0) = some r := h
 clear h
 have H' := Aside0.mk H
 clear H
 go_enter Try.func78, Try.ntmps78
 go_wp2
 go_loopg [5, 6] k (fun kq v5 v6 w' => ∃ (x5_1 : List (S52)) (x6_1 : Int), v6 = .int .i64 x6_1 ∧ Aside0 (ensembleref12_All.l0 kq l0 a1 x5_1 x6_1 = some r) ∧ Aside0 (kq ≤ k) ∧ Aside0 (Kd.R k52 52 w' w.heap.size (fun _ => True) v5 x5_1) ∧ Aside0 (Below w.heap.size w w'))
 case atStart => exact ⟨(([] : List (S52))), (0), Z4, H', ⟨Nat.le_refl _⟩, ⟨by first | exact Kd.R_nil _ _ _ _ _ | exact Kd.N_nil _ _ _ _ _ | exact Kd.V_nil _ _ _ _ _ | exact Kd.Q_nil _ _ _ _ _ | exact Kd.S_nil _ _ _ _ _⟩, ⟨by repeat (first | (with_reducible first | exact HB.out | apply below_alloc | apply pw_below_drewN | apply below_drew1) | exact HB.out)⟩⟩
 case round =>
  clear H'
  try clear p2
  obtain ⟨x5_1, x6_1, rfl, HA, HK1, HO_5, HB⟩ := hrel
  cases gk with
  | zero => exact absurd HA.out (by simp [ensembleref12_All.l0])
  | succ k1 =>
   have H := HA.out
   clear HA
   simp only [ensembleref12_All.l0] at H
   by_cases c3 : x6_1 < (l0.length : Int)
   ·rw [if_pos c3] at H
    have c3b0 : decide (x6_1 < (l0.length : Int)) = true := decide_eq_true c3
    clear c3
    by_cases c4 : 0 ≤ x6_1
    ·rw [if_pos c4] at H
     have c4b0 : decide (0 ≤ x6_1) = true := decide_eq_true c4
     clear c4
     by_cases c5 : ((rd_T41 l0 x6_1).f2) ≤ a1
     ·rw [if_pos c5] at H
      have c5b0 : decide (((rd_T41 l0 x6_1).f2) ≤ a1) = true := decide_eq_true c5
      clear c5
      by_cases c6 : x5_1.length + ((rd_T41 l0 x6_1).f4).length < 4398046511104
      ·rw [if_pos c6] at H
       have LMc6 := Aside0.mk c6
       clear c6
       obtain ⟨y206, hy206⟩ : ∃ y_ : List (S52), y_ = (x5_1 ++ ((rd_T41 l0 x6_1).f4)) := ⟨_, rfl⟩
       replace H : (ensembleref12_All.l0 k1 l0 a1 y206 (wrap64 (x6_1 + 1))) = some r := by first | (rw [hy206]; with_reducible exact H) | (have H2_ := (Option.bind_some _ _).symm.trans H; rw [hy206]; with_reducible exact H2_) | (have H2_ := (Option.bind_some _ _).symm.trans H; with_reducible exact H2_) | with_reducible exact H | (rw [hy206]; exact H) | exact H
       have Ny206 := Aside0.mk hy206
       clear hy206
       have H' := Aside0.mk H
       clear H
       have p204 : 0 ≤ (x6_1 : Int) := of_decide_eq_true Z2
       have q204 : x6_1 < (l0.length : Int) := of_decide_eq_true Z2
       obtain ⟨ad204, A204_4, c204_4, e204, hx204_0, hx204_1, hx204_2, hx204_3, hx204_4, hl204_4, hi204_4⟩ := at_T41 HR0.out x6_1 p204 q204
       cases e204
       replace hx204_0 := (HB.out.cell (World.block_lt_of_cell? w _ hx204_0)).trans hx204_0
       replace hx204_1 := (HB.out.cell (World.block_lt_of_cell? w _ hx204_1)).trans hx204_1
       replace hx204_2 := (HB.out.cell (World.block_lt_of_cell? w _ hx204_2)).trans hx204_2
       replace hx204_3 := (HB.out.cell (World.block_lt_of_cell? w _ hx204_3)).trans hx204_3
       replace hx204_4 := (HB.out.cell (World.block_lt_of_cell? w _ hx204_4)).trans hx204_4
       have HR204_4 := Aside0.mk hi204_4
       have HC204_4 := Aside0.mk hl204_4
       clear hi204_4 hl204_4
       replace p204 := eq_true p204
       replace q204 := eq_true q204
       have p205 : 0 ≤ (x6_1 : Int) := of_decide_eq_true Z2
       have q205 : x6_1 < (l0.length : Int) := of_decide_eq_true Z2
       obtain ⟨ad205, A205_4, c205_4, e205, hx205_0, hx205_1, hx205_2, hx205_3, hx205_4, hl205_4, hi205_4⟩ := at_T41 HR0.out x6_1 p205 q205
       obtain rfl : ad204 = ad205 := (by injection e205)
       replace hx205_0 := (HB.out.cell (World.block_lt_of_cell? w _ hx205_0)).trans hx205_0
       replace hx205_1 := (HB.out.cell (World.block_lt_of_cell? w _ hx205_1)).trans hx205_1
       replace hx205_2 := (HB.out.cell (World.block_lt_of_cell? w _ hx205_2)).trans hx205_2
       replace hx205_3 := (HB.out.cell (World.block_lt_of_cell? w _ hx205_3)).trans hx205_3
       replace hx205_4 := (HB.out.cell (World.block_lt_of_cell? w _ hx205_4)).trans hx205_4
       have HR205_4 := Aside0.mk hi205_4
       have HC205_4 := Aside0.mk hl205_4
       clear hi205_4 hl205_4
       replace p205 := eq_true p205
       replace q205 := eq_true q205
       have ea_ := Option.some.inj (hx204_4.symm.trans hx205_4)
       injection ea_ with ea_ en_ ec_
       subst ea_
       subst ec_
       clear en_
       go_wp2_with (first | ((with_reducible refine gate_builtin (b := .append) (xs := #[.tmp 20, .tmp 25]) rfl ?_); at_builtin; refine Kd.R_append_rows k52 (w0 := w) w.heap.size rfl (.tmp 20) (.tmp 25) 39 52 (.agg #[(.int .i64 0), (.int .i64 0), (.int .u64 0), (.int .i64 0)]) 32 rfl Try.underlying39 info52 rfl (by decide) (by omega) u5 x5_1 ((rd_T41 l0 x6_1).f4) _ _ _ (fun _ => True) (fun _ => False) rfl rfl ?aO ?aR (fun _ _ h => h) (fun _ h => h.elim) ?aF ?aB ?aS ?aL ?_; (case aR => repeat (first | exact (Kd.C_below HR205_4.out HB.out) | (with_reducible refine Kd.C_alloc ?_ _) | (with_reducible refine Kd.C_drewN ?_ _) | (with_reducible refine Kd.C_drew ?_))); (case aB => exact Z0); (case aF => exact (fun _ _ => trivial)); (case aO => exact (by (with_reducible repeat (first | apply Kd.R_alloc | apply Kd.R_drewN | apply Kd.R_drew)); exact HO_5.out)); (case aS => exact (below_size Z0)); (case aL => have := LMc6.out; omega); intro v207 w7 ho hb hg hat; rw [← Ny206.out] at ho; have n0_ := Aside0.mk (hb); have n1_ := Aside0.mk (ho); clear HB; clear HO_5; have HB := n0_; have HO208 := n1_; clear n0_ n1_; clear ho hb hg hat))
       go_roundg k1
       case measure => have := HK1.out; omega
       case rel => exact ⟨(y206), (wrap64 (x6_1 + 1)), Z4, H', ⟨by have := HK1.out; omega⟩, ⟨by (with_reducible repeat (first | apply Kd.R_alloc | apply Kd.R_drewN | apply Kd.R_drew)); exact HO208.out⟩, ⟨by repeat (first | (with_reducible first | exact HB.out | apply below_alloc | apply pw_below_drewN | apply below_drew1) | exact HB.out)⟩⟩
      ·rw [if_neg c6] at H
       exact absurd H (by simp)
     ·rw [if_neg c5] at H
      have c5b0 : decide (((rd_T41 l0 x6_1).f2) ≤ a1) = false := decide_eq_false c5
      clear c5
      have H' := Aside0.mk H
      clear H
      have p204 : 0 ≤ (x6_1 : Int) := of_decide_eq_true Z2
      have q204 : x6_1 < (l0.length : Int) := of_decide_eq_true Z2
      obtain ⟨ad204, A204_4, c204_4, e204, hx204_0, hx204_1, hx204_2, hx204_3, hx204_4, hl204_4, hi204_4⟩ := at_T41 HR0.out x6_1 p204 q204
      cases e204
      replace hx204_0 := (HB.out.cell (World.block_lt_of_cell? w _ hx204_0)).trans hx204_0
      replace hx204_1 := (HB.out.cell (World.block_lt_of_cell? w _ hx204_1)).trans hx204_1
      replace hx204_2 := (HB.out.cell (World.block_lt_of_cell? w _ hx204_2)).trans hx204_2
      replace hx204_3 := (HB.out.cell (World.block_lt_of_cell? w _ hx204_3)).trans hx204_3
      replace hx204_4 := (HB.out.cell (World.block_lt_of_cell? w _ hx204_4)).trans hx204_4
      have HR204_4 := Aside0.mk hi204_4
      have HC204_4 := Aside0.mk hl204_4
      clear hi204_4 hl204_4
      replace p204 := eq_true p204
      replace q204 := eq_true q204
      go_wp2
      go_roundg k1
      case measure => have := HK1.out; omega
      case rel => exact ⟨(x5_1), (wrap64 (x6_1 + 1)), Z4, H', ⟨by have := HK1.out; omega⟩, ⟨by (with_reducible repeat (first | apply Kd.R_alloc | apply Kd.R_drewN | apply Kd.R_drew)); exact HO_5.out⟩, ⟨by repeat (first | (with_reducible first | exact HB.out | apply below_alloc | apply pw_below_drewN | apply below_drew1) | exact HB.out)⟩⟩
    ·rw [if_neg c4] at H
     exact absurd H (by simp)
   ·rw [if_neg c3] at H
    have c3b0 : decide (x6_1 < (l0.length : Int)) = false := decide_eq_false c3
    clear c3
    obtain rfl := Option.some.inj H
    go_wp2
    go_ret
    exact ⟨_, by first | rfl | (simp [errW_none, errW_some] <;> rfl) | (simp [*, errW_none, errW_some] <;> rfl), by (with_reducible repeat (first | apply Kd.R_alloc | apply Kd.R_drewN | apply Kd.R_drew)); exact HO_5.out, by repeat (first | (with_reducible first | exact HB.out | apply below_alloc | apply pw_below_drewN | apply below_drew1) | exact HB.out)⟩
end Go.Proofs.Ytckhjehibjdjdaa.P
namespace Go.Proofs.Ytckhjehibjdjdaa.P
open Go.RowKit Go.Proofs.YtckhjehibjdjdaaW.PrintWords Go.Proofs.YtckhjehibjdjdaaW.PrintLast Go.Proofs.YtckhjehibjdjdaaW.PrintMore
attribute [local go_sem] max2_int min2_int max_two min_two max_three min_three max_four min_four
set_option linter.unusedVariables false
set_option linter.unusedSimpArgs false
def ensembleref12_At.l0 : Nat → Int → List (S41) → List (S51) → Int → Int → Int → Int → Int → Int → Int → Int → Int → Option (Bool)
 | 0, _, _, _, _, _, _, _, _, _, _, _, _ => none
 | k + 1, x0, x3, x11, x13, x210000, x210001, x211000, x211001, x211002, x211003, x211004, x211005 => if x13 < (x3.length : Int) then (if 0 ≤ x13 then (if ((rd_T41 x3 x13).f2) ≤ x0 then (if ((rd_T41 x3 x13).f1) = x211000 then ((ensembleref08_Units.f k ((rd_T41 x3 x13).f4)).bind fun bt221 => (ensembleref12_At.l0 k x0 x3 x11 (wrap64 (x13 + 1)) (wrap64 (x210000 + bt221.1)) (wrap64 (x210001 + bt221.2)) x211000 x211001 x211002 x211003 x211004 x211005)) else (ensembleref12_At.l0 k x0 x3 x11 (wrap64 (x13 + 1)) x210000 x210001 x211000 x211001 x211002 x211003 x211004 x211005)) else (ensembleref12_At.l0 k x0 x3 x11 (wrap64 (x13 + 1)) x210000 x210001 x211000 x211001 x211002 x211003 x211004 x211005)) else (none)) else ((ensembleref12_Fits.f k x11 x210000 x210001 x211000 x211001 x211002 x211003 x211004 x211005).bind fun t224 => (some t224))
def ensembleref12_At.f (k : Nat) (a0 : Int) (l1 : List (S51)) (a2_0 : Int) (a2_1 : Int) (l3 : List (S41)) (a4_0 : Int) (a4_1 : Int) (a4_2 : Int) (a4_3 : Int) (a4_4 : Int) (a4_5 : Int) : Option (Bool) := (ensembleref12_All.f k l3 a0).bind fun t211 => ((ensembleref05_More.f k l1 t211).bind fun bt214 => (ensembleref12_At.l0 k a0 l3 bt214.1 0 a2_0 a2_1 a4_0 a4_1 a4_2 a4_3 a4_4 a4_5))
set_option maxHeartbeats 8000000 in
set_option maxRecDepth 100000 in
theorem ensembleref12_At.calls (k : Nat) (a0 : Int) (A1 : Option Addr) (c1 : Nat) (l1 : List (S51)) (a2_0 : Int) (a2_1 : Int) (A3 : Option Addr) (c3 : Nat) (l3 : List (S41)) (a4_0 : Int) (a4_1 : Int) (a4_2 : Int) (a4_3 : Int) (a4_4 : Int) (a4_5 : Int) (r : Bool) (w : World) (hr1 : Kd.C k51 w A1 l1.length l1) (hc1 : l1.length ≤ c1) (hr3 : Kd.C k41 w A3 l3.length l3) (hc3 : l3.length ≤ c3) (h : ensembleref12_At.f k a0 l1 a2_0 a2_1 l3 a4_0 a4_1 a4_2 a4_3 a4_4 a4_5 = some r) :
  Calls Try.prog 31 #[.int .i64 a0, .slice A1 l1.length c1, .agg #[.int .i64 a2_0, .int .i64 a2_1], .slice A3 l3.length c3, .agg #[.int .i64 a4_0, .int .i64 a4_1, .int .i64 a4_2, .int .i64 a4_3, .int .i64 a4_4, .int .i64 a4_5]] w fun e w' => e = .returned (.bool r) ∧ Below w.heap.size w w' := by
 have hu24 := Try.underlying24
 have hu29 := Try.underlying29
 have HR1 := Aside0.mk hr1
 have HC1 := Aside0.mk hc1
 clear hr1 hc1
 have HR3 := Aside0.mk hr3
 have HC3 := Aside0.mk hc3
 clear hr3 hc3
 have HB := Aside0.mk (Below.refl w.heap.size w)
 have H : ((ensembleref12_All.f k l3 a0).bind fun t211 => ((ensembleref05_More.f k l1 t211).bind fun bt214 => (ensembleref12_At.l0 k a0 l3 bt214.1 0 a2_0 a2_1 a4_0 a4_1 a4_2 a4_3 a4_4 a4_5))) = some r := h
 clear h
 replace H := Option.bind_eq_some_iff.mp H
 obtain ⟨t211, A60, H⟩ := H
 replace H : ((ensembleref05_More.f k l1 t211).bind fun bt214 => (ensembleref12_At.l0 k a0 l3 bt214.1 0 a2_0 a2_1 a4_0 a4_1 a4_2 a4_3 a4_4 a4_5)) = some r := H
 have A6 := Aside0.mk A60
 clear A60
 replace H := Option.bind_eq_some_iff.mp H
 obtain ⟨⟨t214, t215⟩, A70, H⟩ := H
 replace H : (ensembleref12_At.l0 k a0 l3 t214 0 a2_0 a2_1 a4_0 a4_1 a4_2 a4_3 a4_4 a4_5) = some r := H
 have A7 := Aside0.mk A70
 clear A70
 have H' := Aside0.mk H
 clear H
 go_enter Try.func31, Try.ntmps31
 go_wp2_with (first | ((with_reducible refine gate_dst (N := 7) rfl ?_); refine bx 7 #[.int .i64 a2_0, .int .i64 a2_1] 24 ?_; intro gb209 hg w8 hbox hb; have n0_ := Aside0.mk (below_step Z0 hb); have n1_ := Aside0.mk (hbox); have n2_ := Aside0.mk ((by rw [hg]; exact (below_size Z0) : w.heap.size ≤ gb209)); have n3_ := Aside0.mk ((by rw [hg]; exact (below_size Z0) : w.heap.size ≤ gb209)); clear HB; have HB := n0_; have BK209 := n1_; have GW209 := n2_; have GE209 := n3_; clear n0_ n1_ n2_ n3_; clear hb hbox hg) | ((with_reducible refine gate_dst (N := 9) rfl ?_); refine bx 9 #[.int .i64 a4_0, .int .i64 a4_1, .int .i64 a4_2, .int .i64 a4_3, .int .i64 a4_4, .int .i64 a4_5] 29 ?_; intro gb210 hg w9 hbox hb; have n0_ := Aside0.mk (blk_below (g := gb209) (o := .cells #[.int .i64 a2_0, .int .i64 a2_1] 24 (0, 0)) (by (with_reducible repeat (first | refine blk_drewN ?_ _ | refine blk_drew ?_ | refine blk_alloc ?_ _)); exact BK209.out) hb); have n1_ := Aside0.mk (below_step (by repeat (first | (with_reducible first | exact HB.out | apply below_alloc | apply pw_below_drewN | apply below_drew1 | refine below_set ?_ GE209.out) | exact HB.out)) hb); have n2_ := Aside0.mk (hbox); have n3_ := Aside0.mk ((by rw [hg]; exact (below_size (by repeat (first | (with_reducible first | exact HB.out | apply below_alloc | apply pw_below_drewN | apply below_drew1 | refine below_set ?_ GE209.out) | exact HB.out))) : w.heap.size ≤ gb210)); have n4_ := Aside0.mk ((by rw [hg]; exact (below_size (by repeat (first | (with_reducible first | exact HB.out | apply below_alloc | apply pw_below_drewN | apply below_drew1 | refine below_set ?_ GE209.out) | exact HB.out))) : w.heap.size ≤ gb210)); have n5_ := Aside0.mk ((by rw [hg]; exact Nat.ne_of_lt (blk_lt (g := gb209) (o := .cells #[.int .i64 a2_0, .int .i64 a2_1] 24 (0, 0)) (by (with_reducible repeat (first | refine blk_drewN ?_ _ | refine blk_drew ?_ | refine blk_alloc ?_ _)); exact BK209.out)) : gb209 ≠ gb210)); have n6_ := Aside0.mk ((by rw [hg]; exact Nat.ne_of_gt (blk_lt (g := gb209) (o := .cells #[.int .i64 a2_0, .int .i64 a2_1] 24 (0, 0)) (by (with_reducible repeat (first | refine blk_drewN ?_ _ | refine blk_drew ?_ | refine blk_alloc ?_ _)); exact BK209.out)) : gb210 ≠ gb209)); clear BK209; clear HB; have BK209 := n0_; have HB := n1_; have BK210 := n2_; have GW210 := n3_; have GE210 := n4_; have NB209_210 := n5_; have NB210_209 := n6_; clear n0_ n1_ n2_ n3_ n4_ n5_ n6_; clear hb hbox hg) | (go_at_call 78; (with_reducible refine (ensembleref12_All.calls k _ _ l3 a0 t211 _ ?side1 ?side2 A6.out).mono ?_); (case side1 => repeat (first | exact (Kd.C_below HR3.out HB.out) | (with_reducible refine Kd.C_alloc ?_ _) | (with_reducible refine Kd.C_drewN ?_ _) | (with_reducible refine Kd.C_drew ?_))); (case side2 => exact HC3.out); rintro e w10 ⟨v212, rfl, ho0, hb⟩; have n0_ := Aside0.mk (Kd.R_lower ho0 (below_size (by repeat (first | (with_reducible first | exact HB.out | apply below_alloc | apply pw_below_drewN | apply below_drew1 | refine below_set ?_ GE209.out | refine below_set ?_ GE210.out) | exact HB.out)))); have n1_ := Aside0.mk (blk_below (g := gb209) (o := .cells #[.int .i64 a2_0, .int .i64 a2_1] 24 (0, 0)) (by (with_reducible repeat (first | refine blk_drewN ?_ _ | refine blk_drew ?_ | refine blk_alloc ?_ _)); exact BK209.out) hb); have n2_ := Aside0.mk (blk_below (g := gb210) (o := .cells #[.int .i64 a4_0, .int .i64 a4_1, .int .i64 a4_2, .int .i64 a4_3, .int .i64 a4_4, .int .i64 a4_5] 29 (0, 0)) (by (with_reducible repeat (first | refine blk_drewN ?_ _ | refine blk_drew ?_ | refine blk_alloc ?_ _)); exact BK210.out) hb); have n3_ := Aside0.mk (below_step (by repeat (first | (with_reducible first | exact HB.out | apply below_alloc | apply pw_below_drewN | apply below_drew1 | refine below_set ?_ GE209.out | refine below_set ?_ GE210.out) | exact HB.out)) hb); clear BK209; clear BK210; clear HB; have HO213 := n0_; have BK209 := n1_; have BK210 := n2_; have HB := n3_; clear n0_ n1_ n2_ n3_; (try clear hb); (try clear hb2); (try clear hk); (try clear hi); (try clear ho0); obtain ⟨Ao11, co11, eo11⟩ := Kd.R_slice HO213.out; subst eo11) | (go_at_call 32; (with_reducible refine (ensembleref05_More.calls k _ _ l1 _ _ t211 t214 t215 _ ?side1 ?side2 ?side3 ?side4 A7.out).mono ?_); (case side1 => repeat (first | exact (Kd.C_below HR1.out HB.out) | (with_reducible refine Kd.C_alloc ?_ _) | (with_reducible refine Kd.C_drewN ?_ _) | (with_reducible refine Kd.C_drew ?_))); (case side2 => exact HC1.out); (case side3 => repeat (first | exact (Kd.R_reads' HO213.out).2.2 | (with_reducible refine Kd.C_alloc ?_ _) | (with_reducible refine Kd.C_drewN ?_ _) | (with_reducible refine Kd.C_drew ?_))); (case side4 => exact (Kd.R_reads' HO213.out).2.1); rintro e w12 ⟨v216, rfl, ho0, hb⟩; have n0_ := Aside0.mk (Kd.R_below (by (with_reducible repeat (first | apply Kd.R_alloc | apply Kd.R_drewN | apply Kd.R_drew)); exact HO213.out) hb); have n1_ := Aside0.mk (Kd.R_lower ho0 (below_size (by repeat (first | (with_reducible first | exact HB.out | apply below_alloc | apply pw_below_drewN | apply below_drew1 | refine below_set ?_ GE209.out | refine below_set ?_ GE210.out) | exact HB.out)))); have n2_ := Aside0.mk (blk_below (g := gb209) (o := .cells #[.int .i64 a2_0, .int .i64 a2_1] 24 (0, 0)) (by (with_reducible repeat (first | refine blk_drewN ?_ _ | refine blk_drew ?_ | refine blk_alloc ?_ _)); exact BK209.out) hb); have n3_ := Aside0.mk (blk_below (g := gb210) (o := .cells #[.int .i64 a4_0, .int .i64 a4_1, .int .i64 a4_2, .int .i64 a4_3, .int .i64 a4_4, .int .i64 a4_5] 29 (0, 0)) (by (with_reducible repeat (first | refine blk_drewN ?_ _ | refine blk_drew ?_ | refine blk_alloc ?_ _)); exact BK210.out) hb); have n4_ := Aside0.mk (below_step (by repeat (first | (with_reducible first | exact HB.out | apply below_alloc | apply pw_below_drewN | apply below_drew1 | refine below_set ?_ GE209.out | refine below_set ?_ GE210.out) | exact HB.out)) hb); clear HO213; clear BK209; clear BK210; clear HB; have HO213 := n0_; have HO217 := n1_; have BK209 := n2_; have BK210 := n3_; have HB := n4_; clear n0_ n1_ n2_ n3_ n4_; (try clear hb); (try clear hb2); (try clear hk); (try clear hi); (try clear ho0)))
 repeat (go_quiet (first | ((with_reducible refine gate_dst (N := 7) rfl ?_); refine bx 7 #[.int .i64 a2_0, .int .i64 a2_1] 24 ?_; intro gb209 hg w8 hbox hb; have n0_ := Aside0.mk (below_step Z0 hb); have n1_ := Aside0.mk (hbox); have n2_ := Aside0.mk ((by rw [hg]; exact (below_size Z0) : w.heap.size ≤ gb209)); have n3_ := Aside0.mk ((by rw [hg]; exact (below_size Z0) : w.heap.size ≤ gb209)); clear HB; have HB := n0_; have BK209 := n1_; have GW209 := n2_; have GE209 := n3_; clear n0_ n1_ n2_ n3_; clear hb hbox hg) | ((with_reducible refine gate_dst (N := 9) rfl ?_); refine bx 9 #[.int .i64 a4_0, .int .i64 a4_1, .int .i64 a4_2, .int .i64 a4_3, .int .i64 a4_4, .int .i64 a4_5] 29 ?_; intro gb210 hg w9 hbox hb; have n0_ := Aside0.mk (blk_below (g := gb209) (o := .cells #[.int .i64 a2_0, .int .i64 a2_1] 24 (0, 0)) (by (with_reducible repeat (first | refine blk_drewN ?_ _ | refine blk_drew ?_ | refine blk_alloc ?_ _)); exact BK209.out) hb); have n1_ := Aside0.mk (below_step (by repeat (first | (with_reducible first | exact HB.out | apply below_alloc | apply pw_below_drewN | apply below_drew1 | refine below_set ?_ GE209.out) | exact HB.out)) hb); have n2_ := Aside0.mk (hbox); have n3_ := Aside0.mk ((by rw [hg]; exact (below_size (by repeat (first | (with_reducible first | exact HB.out | apply below_alloc | apply pw_below_drewN | apply below_drew1 | refine below_set ?_ GE209.out) | exact HB.out))) : w.heap.size ≤ gb210)); have n4_ := Aside0.mk ((by rw [hg]; exact (below_size (by repeat (first | (with_reducible first | exact HB.out | apply below_alloc | apply pw_below_drewN | apply below_drew1 | refine below_set ?_ GE209.out) | exact HB.out))) : w.heap.size ≤ gb210)); have n5_ := Aside0.mk ((by rw [hg]; exact Nat.ne_of_lt (blk_lt (g := gb209) (o := .cells #[.int .i64 a2_0, .int .i64 a2_1] 24 (0, 0)) (by (with_reducible repeat (first | refine blk_drewN ?_ _ | refine blk_drew ?_ | refine blk_alloc ?_ _)); exact BK209.out)) : gb209 ≠ gb210)); have n6_ := Aside0.mk ((by rw [hg]; exact Nat.ne_of_gt (blk_lt (g := gb209) (o := .cells #[.int .i64 a2_0, .int .i64 a2_1] 24 (0, 0)) (by (with_reducible repeat (first | refine blk_drewN ?_ _ | refine blk_drew ?_ | refine blk_alloc ?_ _)); exact BK209.out)) : gb210 ≠ gb209)); clear BK209; clear HB; have BK209 := n0_; have HB := n1_; have BK210 := n2_; have GW210 := n3_; have GE210 := n4_; have NB209_210 := n5_; have NB210_209 := n6_; clear n0_ n1_ n2_ n3_ n4_ n5_ n6_; clear hb hbox hg) | (go_at_call 78; (with_reducible refine (ensembleref12_All.calls k _ _ l3 a0 t211 _ ?side1 ?side2 A6.out).mono ?_); (case side1 => repeat (first | exact (Kd.C_below HR3.out HB.out) | (with_reducible refine Kd.C_alloc ?_ _) | (with_reducible refine Kd.C_drewN ?_ _) | (with_reducible refine Kd.C_drew ?_))); (case side2 => exact HC3.out); rintro e w10 ⟨v212, rfl, ho0, hb⟩; have n0_ := Aside0.mk (Kd.R_lower ho0 (below_size (by repeat (first | (with_reducible first | exact HB.out | apply below_alloc | apply pw_below_drewN | apply below_drew1 | refine below_set ?_ GE209.out | refine below_set ?_ GE210.out) | exact HB.out)))); have n1_ := Aside0.mk (blk_below (g := gb209) (o := .cells #[.int .i64 a2_0, .int .i64 a2_1] 24 (0, 0)) (by (with_reducible repeat (first | refine blk_drewN ?_ _ | refine blk_drew ?_ | refine blk_alloc ?_ _)); exact BK209.out) hb); have n2_ := Aside0.mk (blk_below (g := gb210) (o := .cells #[.int .i64 a4_0, .int .i64 a4_1, .int .i64 a4_2, .int .i64 a4_3, .int .i64 a4_4, .int .i64 a4_5] 29 (0, 0)) (by (with_reducible repeat (first | refine blk_drewN ?_ _ | refine blk_drew ?_ | refine blk_alloc ?_ _)); exact BK210.out) hb); have n3_ := Aside0.mk (below_step (by repeat (first | (with_reducible first | exact HB.out | apply below_alloc | apply pw_below_drewN | apply below_drew1 | refine below_set ?_ GE209.out | refine below_set ?_ GE210.out) | exact HB.out)) hb); clear BK209; clear BK210; clear HB; have HO213 := n0_; have BK209 := n1_; have BK210 := n2_; have HB := n3_; clear n0_ n1_ n2_ n3_; (try clear hb); (try clear hb2); (try clear hk); (try clear hi); (try clear ho0); obtain ⟨Ao11, co11, eo11⟩ := Kd.R_slice HO213.out; subst eo11) | (go_at_call 32; (with_reducible refine (ensembleref05_More.calls k _ _ l1 _ _ t211 t214 t215 _ ?side1 ?side2 ?side3 ?side4 A7.out).mono ?_); (case side1 => repeat (first | exact (Kd.C_below HR1.out HB.out) | (with_reducible refine Kd.C_alloc ?_ _) | (with_reducible refine Kd.C_drewN ?_ _) | (with_reducible refine Kd.C_drew ?_))); (case side2 => exact HC1.out); (case side3 => repeat (first | exact (Kd.R_reads' HO213.out).2.2 | (with_reducible refine Kd.C_alloc ?_ _) | (with_reducible refine Kd.C_drewN ?_ _) | (with_reducible refine Kd.C_drew ?_))); (case side4 => exact (Kd.R_reads' HO213.out).2.1); rintro e w12 ⟨v216, rfl, ho0, hb⟩; have n0_ := Aside0.mk (Kd.R_below (by (with_reducible repeat (first | apply Kd.R_alloc | apply Kd.R_drewN | apply Kd.R_drew)); exact HO213.out) hb); have n1_ := Aside0.mk (Kd.R_lower ho0 (below_size (by repeat (first | (with_reducible first | exact HB.out | apply below_alloc | apply pw_below_drewN | apply below_drew1 | refine below_set ?_ GE209.out | refine below_set ?_ GE210.out) | exact HB.out)))); have n2_ := Aside0.mk (blk_below (g := gb209) (o := .cells #[.int .i64 a2_0, .int .i64 a2_1] 24 (0, 0)) (by (with_reducible repeat (first | refine blk_drewN ?_ _ | refine blk_drew ?_ | refine blk_alloc ?_ _)); exact BK209.out) hb); have n3_ := Aside0.mk (blk_below (g := gb210) (o := .cells #[.int .i64 a4_0, .int .i64 a4_1, .int .i64 a4_2, .int .i64 a4_3, .int .i64 a4_4, .int .i64 a4_5] 29 (0, 0)) (by (with_reducible repeat (first | refine blk_drewN ?_ _ | refine blk_drew ?_ | refine blk_alloc ?_ _)); exact BK210.out) hb); have n4_ := Aside0.mk (below_step (by repeat (first | (with_reducible first | exact HB.out | apply below_alloc | apply pw_below_drewN | apply below_drew1 | refine below_set ?_ GE209.out | refine below_set ?_ GE210.out) | exact HB.out)) hb); clear HO213; clear BK209; clear BK210; clear HB; have HO213 := n0_; have HO217 := n1_; have BK209 := n2_; have BK210 := n3_; have HB := n4_; clear n0_ n1_ n2_ n3_ n4_; (try clear hb); (try clear hb2); (try clear hk); (try clear hi); (try clear ho0))); try go_wp2_with (first | ((with_reducible refine gate_dst (N := 7) rfl ?_); refine bx 7 #[.int .i64 a2_0, .int .i64 a2_1] 24 ?_; intro gb209 hg w8 hbox hb; have n0_ := Aside0.mk (below_step Z0 hb); have n1_ := Aside0.mk (hbox); have n2_ := Aside0.mk ((by rw [hg]; exact (below_size Z0) : w.heap.size ≤ gb209)); have n3_ := Aside0.mk ((by rw [hg]; exact (below_size Z0) : w.heap.size ≤ gb209)); clear HB; have HB := n0_; have BK209 := n1_; have GW209 := n2_; have GE209 := n3_; clear n0_ n1_ n2_ n3_; clear hb hbox hg) | ((with_reducible refine gate_dst (N := 9) rfl ?_); refine bx 9 #[.int .i64 a4_0, .int .i64 a4_1, .int .i64 a4_2, .int .i64 a4_3, .int .i64 a4_4, .int .i64 a4_5] 29 ?_; intro gb210 hg w9 hbox hb; have n0_ := Aside0.mk (blk_below (g := gb209) (o := .cells #[.int .i64 a2_0, .int .i64 a2_1] 24 (0, 0)) (by (with_reducible repeat (first | refine blk_drewN ?_ _ | refine blk_drew ?_ | refine blk_alloc ?_ _)); exact BK209.out) hb); have n1_ := Aside0.mk (below_step (by repeat (first | (with_reducible first | exact HB.out | apply below_alloc | apply pw_below_drewN | apply below_drew1 | refine below_set ?_ GE209.out) | exact HB.out)) hb); have n2_ := Aside0.mk (hbox); have n3_ := Aside0.mk ((by rw [hg]; exact (below_size (by repeat (first | (with_reducible first | exact HB.out | apply below_alloc | apply pw_below_drewN | apply below_drew1 | refine below_set ?_ GE209.out) | exact HB.out))) : w.heap.size ≤ gb210)); have n4_ := Aside0.mk ((by rw [hg]; exact (below_size (by repeat (first | (with_reducible first | exact HB.out | apply below_alloc | apply pw_below_drewN | apply below_drew1 | refine below_set ?_ GE209.out) | exact HB.out))) : w.heap.size ≤ gb210)); have n5_ := Aside0.mk ((by rw [hg]; exact Nat.ne_of_lt (blk_lt (g := gb209) (o := .cells #[.int .i64 a2_0, .int .i64 a2_1] 24 (0, 0)) (by (with_reducible repeat (first | refine blk_drewN ?_ _ | refine blk_drew ?_ | refine blk_alloc ?_ _)); exact BK209.out)) : gb209 ≠ gb210)); have n6_ := Aside0.mk ((by rw [hg]; exact Nat.ne_of_gt (blk_lt (g := gb209) (o := .cells #[.int .i64 a2_0, .int .i64 a2_1] 24 (0, 0)) (by (with_reducible repeat (first | refine blk_drewN ?_ _ | refine blk_drew ?_ | refine blk_alloc ?_ _)); exact BK209.out)) : gb210 ≠ gb209)); clear BK209; clear HB; have BK209 := n0_; have HB := n1_; have BK210 := n2_; have GW210 := n3_; have GE210 := n4_; have NB209_210 := n5_; have NB210_209 := n6_; clear n0_ n1_ n2_ n3_ n4_ n5_ n6_; clear hb hbox hg) | (go_at_call 78; (with_reducible refine (ensembleref12_All.calls k _ _ l3 a0 t211 _ ?side1 ?side2 A6.out).mono ?_); (case side1 => repeat (first | exact (Kd.C_below HR3.out HB.out) | (with_reducible refine Kd.C_alloc ?_ _) | (with_reducible refine Kd.C_drewN ?_ _) | (with_reducible refine Kd.C_drew ?_))); (case side2 => exact HC3.out); rintro e w10 ⟨v212, rfl, ho0, hb⟩; have n0_ := Aside0.mk (Kd.R_lower ho0 (below_size (by repeat (first | (with_reducible first | exact HB.out | apply below_alloc | apply pw_below_drewN | apply below_drew1 | refine below_set ?_ GE209.out | refine below_set ?_ GE210.out) | exact HB.out)))); have n1_ := Aside0.mk (blk_below (g := gb209) (o := .cells #[.int .i64 a2_0, .int .i64 a2_1] 24 (0, 0)) (by (with_reducible repeat (first | refine blk_drewN ?_ _ | refine blk_drew ?_ | refine blk_alloc ?_ _)); exact BK209.out) hb); have n2_ := Aside0.mk (blk_below (g := gb210) (o := .cells #[.int .i64 a4_0, .int .i64 a4_1, .int .i64 a4_2, .int .i64 a4_3, .int .i64 a4_4, .int .i64 a4_5] 29 (0, 0)) (by (with_reducible repeat (first | refine blk_drewN ?_ _ | refine blk_drew ?_ | refine blk_alloc ?_ _)); exact BK210.out) hb); have n3_ := Aside0.mk (below_step (by repeat (first | (with_reducible first | exact HB.out | apply below_alloc | apply pw_below_drewN | apply below_drew1 | refine below_set ?_ GE209.out | refine below_set ?_ GE210.out) | exact HB.out)) hb); clear BK209; clear BK210; clear HB; have HO213 := n0_; have BK209 := n1_; have BK210 := n2_; have HB := n3_; clear n0_ n1_ n2_ n3_; (try clear hb); (try clear hb2); (try clear hk); (try clear hi); (try clear ho0); obtain ⟨Ao11, co11, eo11⟩ := Kd.R_slice HO213.out; subst eo11) | (go_at_call 32; (with_reducible refine (ensembleref05_More.calls k _ _ l1 _ _ t211 t214 t215 _ ?side1 ?side2 ?side3 ?side4 A7.out).mono ?_); (case side1 => repeat (first | exact (Kd.C_below HR1.out HB.out) | (with_reducible refine Kd.C_alloc ?_ _) | (with_reducible refine Kd.C_drewN ?_ _) | (with_reducible refine Kd.C_drew ?_))); (case side2 => exact HC1.out); (case side3 => repeat (first | exact (Kd.R_reads' HO213.out).2.2 | (with_reducible refine Kd.C_alloc ?_ _) | (with_reducible refine Kd.C_drewN ?_ _) | (with_reducible refine Kd.C_drew ?_))); (case side4 => exact (Kd.R_reads' HO213.out).2.1); rintro e w12 ⟨v216, rfl, ho0, hb⟩; have n0_ := Aside0.mk (Kd.R_below (by (with_reducible repeat (first | apply Kd.R_alloc | apply Kd.R_drewN | apply Kd.R_drew)); exact HO213.out) hb); have n1_ := Aside0.mk (Kd.R_lower ho0 (below_size (by repeat (first | (with_reducible first | exact HB.out | apply below_alloc | apply pw_below_drewN | apply below_drew1 | refine below_set ?_ GE209.out | refine below_set ?_ GE210.out) | exact HB.out)))); have n2_ := Aside0.mk (blk_below (g := gb209) (o := .cells #[.int .i64 a2_0, .int .i64 a2_1] 24 (0, 0)) (by (with_reducible repeat (first | refine blk_drewN ?_ _ | refine blk_drew ?_ | refine blk_alloc ?_ _)); exact BK209.out) hb); have n3_ := Aside0.mk (blk_below (g := gb210) (o := .cells #[.int .i64 a4_0, .int .i64 a4_1, .int .i64 a4_2, .int .i64 a4_3, .int .i64 a4_4, .int .i64 a4_5] 29 (0, 0)) (by (with_reducible repeat (first | refine blk_drewN ?_ _ | refine blk_drew ?_ | refine blk_alloc ?_ _)); exact BK210.out) hb); have n4_ := Aside0.mk (below_step (by repeat (first | (with_reducible first | exact HB.out | apply below_alloc | apply pw_below_drewN | apply below_drew1 | refine below_set ?_ GE209.out | refine below_set ?_ GE210.out) | exact HB.out)) hb); clear HO213; clear BK209; clear BK210; clear HB; have HO213 := n0_; have HO217 := n1_; have BK209 := n2_; have BK210 := n3_; have HB := n4_; clear n0_ n1_ n2_ n3_ n4_; (try clear hb); (try clear hb2); (try clear hk); (try clear hi); (try clear ho0))))
 go_loopg [13] k (fun kq v13 w' => ∃ (x13_1 : Int) (x210000_1 : Int) (x210001_1 : Int), v13 = .int .i64 x13_1 ∧ Aside0 (ensembleref12_At.l0 kq a0 l3 t214 x13_1 x210000_1 x210001_1 a4_0 a4_1 a4_2 a4_3 a4_4 a4_5 = some r) ∧ Aside0 (kq ≤ k) ∧ Aside0 (Kd.R k51 51 w' w.heap.size (fun _ => True) v216 t214) ∧ Aside0 (w'.heap[gb209]? = some (.cells #[.int .i64 x210000_1, .int .i64 x210001_1] 24 (0, 0))) ∧ Aside0 (w'.heap[gb210]? = some (.cells #[.int .i64 a4_0, .int .i64 a4_1, .int .i64 a4_2, .int .i64 a4_3, .int .i64 a4_4, .int .i64 a4_5] 29 (0, 0))) ∧ Aside0 (Below w.heap.size w w'))
 case atStart => exact ⟨(0), (a2_0), (a2_1), Z4, H', ⟨Nat.le_refl _⟩, ⟨by (with_reducible repeat (first | apply Kd.R_alloc | apply Kd.R_drewN | apply Kd.R_drew)); exact HO217.out⟩, ⟨by (with_reducible repeat (first | refine blk_drewN ?_ _ | refine blk_drew ?_ | refine blk_alloc ?_ _)); exact BK209.out⟩, ⟨by (with_reducible repeat (first | refine blk_drewN ?_ _ | refine blk_drew ?_ | refine blk_alloc ?_ _)); exact BK210.out⟩, ⟨by repeat (first | (with_reducible first | exact HB.out | apply below_alloc | apply pw_below_drewN | apply below_drew1 | refine below_set ?_ GE209.out | refine below_set ?_ GE210.out) | exact HB.out)⟩⟩
 case round =>
  clear H'
  try clear c1
  try clear p2
  try clear c3
  obtain ⟨x13_1, x210000_1, x210001_1, rfl, HA, HK1, HO_11, BK209, BK210, HB⟩ := hrel
  cases gk with
  | zero => exact absurd HA.out (by simp [ensembleref12_At.l0])
  | succ k1 =>
   have H := HA.out
   clear HA
   simp only [ensembleref12_At.l0] at H
   by_cases c13 : x13_1 < (l3.length : Int)
   ·rw [if_pos c13] at H
    have c13b0 : decide (x13_1 < (l3.length : Int)) = true := decide_eq_true c13
    clear c13
    by_cases c14 : 0 ≤ x13_1
    ·rw [if_pos c14] at H
     have c14b0 : decide (0 ≤ x13_1) = true := decide_eq_true c14
     clear c14
     by_cases c15 : ((rd_T41 l3 x13_1).f2) ≤ a0
     ·rw [if_pos c15] at H
      have c15b0 : decide (((rd_T41 l3 x13_1).f2) ≤ a0) = true := decide_eq_true c15
      clear c15
      by_cases c16 : ((rd_T41 l3 x13_1).f1) = a4_0
      ·rw [if_pos c16] at H
       have c16b0 : (((rd_T41 l3 x13_1).f1) == a4_0) = true := beq_iff_eq.mpr c16
       have c16b1 : (((rd_T41 l3 x13_1).f1) != a4_0) = false := bne_eq_false_iff_eq.mpr c16
       clear c16
       replace H := Option.bind_eq_some_iff.mp H
       obtain ⟨⟨t221, t222⟩, A170, H⟩ := H
       replace H : (ensembleref12_At.l0 k1 a0 l3 t214 (wrap64 (x13_1 + 1)) (wrap64 (x210000_1 + t221)) (wrap64 (x210001_1 + t222)) a4_0 a4_1 a4_2 a4_3 a4_4 a4_5) = some r := H
       have A17 := Aside0.mk A170
       clear A170
       have H' := Aside0.mk H
       clear H
       have p218 : 0 ≤ (x13_1 : Int) := of_decide_eq_true Z2
       have q218 : x13_1 < (l3.length : Int) := of_decide_eq_true Z2
       obtain ⟨ad218, A218_4, c218_4, e218, hx218_0, hx218_1, hx218_2, hx218_3, hx218_4, hl218_4, hi218_4⟩ := at_T41 HR3.out x13_1 p218 q218
       cases e218
       replace hx218_0 := (HB.out.cell (World.block_lt_of_cell? w _ hx218_0)).trans hx218_0
       replace hx218_1 := (HB.out.cell (World.block_lt_of_cell? w _ hx218_1)).trans hx218_1
       replace hx218_2 := (HB.out.cell (World.block_lt_of_cell? w _ hx218_2)).trans hx218_2
       replace hx218_3 := (HB.out.cell (World.block_lt_of_cell? w _ hx218_3)).trans hx218_3
       replace hx218_4 := (HB.out.cell (World.block_lt_of_cell? w _ hx218_4)).trans hx218_4
       have HR218_4 := Aside0.mk hi218_4
       have HC218_4 := Aside0.mk hl218_4
       clear hi218_4 hl218_4
       replace p218 := eq_true p218
       replace q218 := eq_true q218
       have p219 : 0 ≤ (x13_1 : Int) := of_decide_eq_true Z2
       have q219 : x13_1 < (l3.length : Int) := of_decide_eq_true Z2
       obtain ⟨ad219, A219_4, c219_4, e219, hx219_0, hx219_1, hx219_2, hx219_3, hx219_4, hl219_4, hi219_4⟩ := at_T41 HR3.out x13_1 p219 q219
       obtain rfl : ad218 = ad219 := (by injection e219)
       replace hx219_0 := (HB.out.cell (World.block_lt_of_cell? w _ hx219_0)).trans hx219_0
       replace hx219_1 := (HB.out.cell (World.block_lt_of_cell? w _ hx219_1)).trans hx219_1
       replace hx219_2 := (HB.out.cell (World.block_lt_of_cell? w _ hx219_2)).trans hx219_2
       replace hx219_3 := (HB.out.cell (World.block_lt_of_cell? w _ hx219_3)).trans hx219_3
       replace hx219_4 := (HB.out.cell (World.block_lt_of_cell? w _ hx219_4)).trans hx219_4
       have HR219_4 := Aside0.mk hi219_4
       have HC219_4 := Aside0.mk hl219_4
       clear hi219_4 hl219_4
       replace p219 := eq_true p219
       replace q219 := eq_true q219
       have ea_ := Option.some.inj (hx218_4.symm.trans hx219_4)
       injection ea_ with ea_ en_ ec_
       subst ea_
       subst ec_
       clear en_
       have hnb18 := NB210_209.out
       have hnc18 := NB209_210.out
       have hcz19_0 : wr.cell? ⟨gb210, 0, none⟩ = some (.int .i64 a4_0) := (blk_cell BK210.out 0).trans rfl
       have hcz19_1 : wr.cell? ⟨gb210, 1, none⟩ = some (.int .i64 a4_1) := (blk_cell BK210.out 1).trans rfl
       have hcz19_2 : wr.cell? ⟨gb210, 2, none⟩ = some (.int .i64 a4_2) := (blk_cell BK210.out 2).trans rfl
       have hcz19_3 : wr.cell? ⟨gb210, 3, none⟩ = some (.int .i64 a4_3) := (blk_cell BK210.out 3).trans rfl
       have hcz19_4 : wr.cell? ⟨gb210, 4, none⟩ = some (.int .i64 a4_4) := (blk_cell BK210.out 4).trans rfl
       have hcz19_5 : wr.cell? ⟨gb210, 5, none⟩ = some (.int .i64 a4_5) := (blk_cell BK210.out 5).trans rfl
       have hfz19_0 := blk_frozen BK210.out 0
       have hfz19_1 := blk_frozen BK210.out 1
       have hfz19_2 := blk_frozen BK210.out 2
       have hfz19_3 := blk_frozen BK210.out 3
       have hfz19_4 := blk_frozen BK210.out 4
       have hfz19_5 := blk_frozen BK210.out 5
       have p220 : 0 ≤ (x13_1 : Int) := of_decide_eq_true Z2
       have q220 : x13_1 < (l3.length : Int) := of_decide_eq_true Z2
       obtain ⟨ad220, A220_4, c220_4, e220, hx220_0, hx220_1, hx220_2, hx220_3, hx220_4, hl220_4, hi220_4⟩ := at_T41 HR3.out x13_1 p220 q220
       obtain rfl : ad218 = ad220 := (by injection e220)
       replace hx220_0 := (HB.out.cell (World.block_lt_of_cell? w _ hx220_0)).trans hx220_0
       replace hx220_1 := (HB.out.cell (World.block_lt_of_cell? w _ hx220_1)).trans hx220_1
       replace hx220_2 := (HB.out.cell (World.block_lt_of_cell? w _ hx220_2)).trans hx220_2
       replace hx220_3 := (HB.out.cell (World.block_lt_of_cell? w _ hx220_3)).trans hx220_3
       replace hx220_4 := (HB.out.cell (World.block_lt_of_cell? w _ hx220_4)).trans hx220_4
       have HR220_4 := Aside0.mk hi220_4
       have HC220_4 := Aside0.mk hl220_4
       clear hi220_4 hl220_4
       replace p220 := eq_true p220
       replace q220 := eq_true q220
       have ea_ := Option.some.inj (hx218_4.symm.trans hx220_4)
       injection ea_ with ea_ en_ ec_
       subst ea_
       subst ec_
       clear en_
       go_wp2_with (first | (go_at_call 42; (with_reducible refine (ensembleref08_Units.calls k1 _ _ ((rd_T41 l3 x13_1).f4) t221 t222 _ ?side1 ?side2 A17.out).mono ?_); (case side1 => repeat (first | exact (Kd.C_below HR220_4.out HB.out) | (with_reducible refine Kd.C_alloc ?_ _) | (with_reducible refine Kd.C_drewN ?_ _) | (with_reducible refine Kd.C_drew ?_))); (case side2 => exact HC220_4.out); rintro e w20 ⟨rfl, hb⟩; have n0_ := Aside0.mk (Kd.R_below Z7 hb); have n1_ := Aside0.mk (blk_below (g := gb209) (o := .cells #[.int .i64 x210000_1, .int .i64 x210001_1] 24 (0, 0)) (by (with_reducible repeat (first | refine blk_drewN ?_ _ | refine blk_drew ?_ | refine blk_alloc ?_ _)); exact BK209.out) hb); have n2_ := Aside0.mk (blk_below (g := gb210) (o := .cells #[.int .i64 a4_0, .int .i64 a4_1, .int .i64 a4_2, .int .i64 a4_3, .int .i64 a4_4, .int .i64 a4_5] 29 (0, 0)) (by (with_reducible repeat (first | refine blk_drewN ?_ _ | refine blk_drew ?_ | refine blk_alloc ?_ _)); exact BK210.out) hb); have n3_ := Aside0.mk (below_step (by repeat (first | (with_reducible first | exact HB.out | apply below_alloc | apply pw_below_drewN | apply below_drew1 | refine below_set ?_ GE209.out | refine below_set ?_ GE210.out) | exact HB.out)) hb); clear HO_11; clear BK209; clear BK210; clear HB; have HO_11 := n0_; have BK209 := n1_; have BK210 := n2_; have HB := n3_; clear n0_ n1_ n2_ n3_; (try clear hb); (try clear hb2); (try clear hk); (try clear hi)) | ((with_reducible refine gate_dst (N := 14) rfl ?_); refine bx 14 #[.int .i64 0, .int .i64 0] 24 ?_; intro gb223 hg w21 hbox hb; have n0_ := Aside0.mk (Kd.R_below Z7 hb); have n1_ := Aside0.mk (blk_below (g := gb209) (o := .cells #[.int .i64 x210000_1, .int .i64 x210001_1] 24 (0, 0)) (by (with_reducible repeat (first | refine blk_drewN ?_ _ | refine blk_drew ?_ | refine blk_alloc ?_ _)); exact BK209.out) hb); have n2_ := Aside0.mk (blk_below (g := gb210) (o := .cells #[.int .i64 a4_0, .int .i64 a4_1, .int .i64 a4_2, .int .i64 a4_3, .int .i64 a4_4, .int .i64 a4_5] 29 (0, 0)) (by (with_reducible repeat (first | refine blk_drewN ?_ _ | refine blk_drew ?_ | refine blk_alloc ?_ _)); exact BK210.out) hb); have n3_ := Aside0.mk (below_step (by repeat (first | (with_reducible first | exact HB.out | apply below_alloc | apply pw_below_drewN | apply below_drew1 | refine below_set ?_ GE209.out | refine below_set ?_ GE210.out) | exact HB.out)) hb); have n4_ := Aside0.mk (hbox); have n5_ := Aside0.mk ((by rw [hg]; exact (below_size (by repeat (first | (with_reducible first | exact HB.out | apply below_alloc | apply pw_below_drewN | apply below_drew1 | refine below_set ?_ GE209.out | refine below_set ?_ GE210.out) | exact HB.out))) : w.heap.size ≤ gb223)); have n6_ := Aside0.mk ((by rw [hg]; exact (below_size (by repeat (first | (with_reducible first | exact HB.out | apply below_alloc | apply pw_below_drewN | apply below_drew1 | refine below_set ?_ GE209.out | refine below_set ?_ GE210.out) | exact HB.out))) : w.heap.size ≤ gb223)); have n7_ := Aside0.mk ((by rw [hg]; exact Nat.ne_of_lt (blk_lt (g := gb209) (o := .cells #[.int .i64 x210000_1, .int .i64 x210001_1] 24 (0, 0)) (by (with_reducible repeat (first | refine blk_drewN ?_ _ | refine blk_drew ?_ | refine blk_alloc ?_ _)); exact BK209.out)) : gb209 ≠ gb223)); have n8_ := Aside0.mk ((by rw [hg]; exact Nat.ne_of_gt (blk_lt (g := gb209) (o := .cells #[.int .i64 x210000_1, .int .i64 x210001_1] 24 (0, 0)) (by (with_reducible repeat (first | refine blk_drewN ?_ _ | refine blk_drew ?_ | refine blk_alloc ?_ _)); exact BK209.out)) : gb223 ≠ gb209)); have n9_ := Aside0.mk ((by rw [hg]; exact Nat.ne_of_lt (blk_lt (g := gb210) (o := .cells #[.int .i64 a4_0, .int .i64 a4_1, .int .i64 a4_2, .int .i64 a4_3, .int .i64 a4_4, .int .i64 a4_5] 29 (0, 0)) (by (with_reducible repeat (first | refine blk_drewN ?_ _ | refine blk_drew ?_ | refine blk_alloc ?_ _)); exact BK210.out)) : gb210 ≠ gb223)); have n10_ := Aside0.mk ((by rw [hg]; exact Nat.ne_of_gt (blk_lt (g := gb210) (o := .cells #[.int .i64 a4_0, .int .i64 a4_1, .int .i64 a4_2, .int .i64 a4_3, .int .i64 a4_4, .int .i64 a4_5] 29 (0, 0)) (by (with_reducible repeat (first | refine blk_drewN ?_ _ | refine blk_drew ?_ | refine blk_alloc ?_ _)); exact BK210.out)) : gb223 ≠ gb210)); clear HO_11; clear BK209; clear BK210; clear HB; have HO_11 := n0_; have BK209 := n1_; have BK210 := n2_; have HB := n3_; have BK223 := n4_; have GW223 := n5_; have GE223 := n6_; have NB209_223 := n7_; have NB223_209 := n8_; have NB210_223 := n9_; have NB223_210 := n10_; clear n0_ n1_ n2_ n3_ n4_ n5_ n6_ n7_ n8_ n9_ n10_; clear hb hbox hg; have hnb22 := NB223_209.out; have hnc22 := NB209_223.out; have hnb23 := NB223_210.out; have hnc23 := NB210_223.out; have hcz24_0 : w21.cell? ⟨gb223, 0, none⟩ = some (.int .i64 0) := (blk_cell BK223.out 0).trans rfl; have hcz24_1 : w21.cell? ⟨gb223, 1, none⟩ = some (.int .i64 0) := (blk_cell BK223.out 1).trans rfl; have hfz24_0 := blk_frozen BK223.out 0; have hfz24_1 := blk_frozen BK223.out 1; have hcz25_0 : w21.cell? ⟨gb209, 0, none⟩ = some (.int .i64 x210000_1) := (blk_cell BK209.out 0).trans rfl; have hcz25_1 : w21.cell? ⟨gb209, 1, none⟩ = some (.int .i64 x210001_1) := (blk_cell BK209.out 1).trans rfl; have hfz25_0 := blk_frozen BK209.out 0; have hfz25_1 := blk_frozen BK209.out 1))
       repeat (go_quiet (first | (go_at_call 42; (with_reducible refine (ensembleref08_Units.calls k1 _ _ ((rd_T41 l3 x13_1).f4) t221 t222 _ ?side1 ?side2 A17.out).mono ?_); (case side1 => repeat (first | exact (Kd.C_below HR220_4.out HB.out) | (with_reducible refine Kd.C_alloc ?_ _) | (with_reducible refine Kd.C_drewN ?_ _) | (with_reducible refine Kd.C_drew ?_))); (case side2 => exact HC220_4.out); rintro e w20 ⟨rfl, hb⟩; have n0_ := Aside0.mk (Kd.R_below Z7 hb); have n1_ := Aside0.mk (blk_below (g := gb209) (o := .cells #[.int .i64 x210000_1, .int .i64 x210001_1] 24 (0, 0)) (by (with_reducible repeat (first | refine blk_drewN ?_ _ | refine blk_drew ?_ | refine blk_alloc ?_ _)); exact BK209.out) hb); have n2_ := Aside0.mk (blk_below (g := gb210) (o := .cells #[.int .i64 a4_0, .int .i64 a4_1, .int .i64 a4_2, .int .i64 a4_3, .int .i64 a4_4, .int .i64 a4_5] 29 (0, 0)) (by (with_reducible repeat (first | refine blk_drewN ?_ _ | refine blk_drew ?_ | refine blk_alloc ?_ _)); exact BK210.out) hb); have n3_ := Aside0.mk (below_step (by repeat (first | (with_reducible first | exact HB.out | apply below_alloc | apply pw_below_drewN | apply below_drew1 | refine below_set ?_ GE209.out | refine below_set ?_ GE210.out) | exact HB.out)) hb); clear HO_11; clear BK209; clear BK210; clear HB; have HO_11 := n0_; have BK209 := n1_; have BK210 := n2_; have HB := n3_; clear n0_ n1_ n2_ n3_; (try clear hb); (try clear hb2); (try clear hk); (try clear hi)) | ((with_reducible refine gate_dst (N := 14) rfl ?_); refine bx 14 #[.int .i64 0, .int .i64 0] 24 ?_; intro gb223 hg w21 hbox hb; have n0_ := Aside0.mk (Kd.R_below Z7 hb); have n1_ := Aside0.mk (blk_below (g := gb209) (o := .cells #[.int .i64 x210000_1, .int .i64 x210001_1] 24 (0, 0)) (by (with_reducible repeat (first | refine blk_drewN ?_ _ | refine blk_drew ?_ | refine blk_alloc ?_ _)); exact BK209.out) hb); have n2_ := Aside0.mk (blk_below (g := gb210) (o := .cells #[.int .i64 a4_0, .int .i64 a4_1, .int .i64 a4_2, .int .i64 a4_3, .int .i64 a4_4, .int .i64 a4_5] 29 (0, 0)) (by (with_reducible repeat (first | refine blk_drewN ?_ _ | refine blk_drew ?_ | refine blk_alloc ?_ _)); exact BK210.out) hb); have n3_ := Aside0.mk (below_step (by repeat (first | (with_reducible first | exact HB.out | apply below_alloc | apply pw_below_drewN | apply below_drew1 | refine below_set ?_ GE209.out | refine below_set ?_ GE210.out) | exact HB.out)) hb); have n4_ := Aside0.mk (hbox); have n5_ := Aside0.mk ((by rw [hg]; exact (below_size (by repeat (first | (with_reducible first | exact HB.out | apply below_alloc | apply pw_below_drewN | apply below_drew1 | refine below_set ?_ GE209.out | refine below_set ?_ GE210.out) | exact HB.out))) : w.heap.size ≤ gb223)); have n6_ := Aside0.mk ((by rw [hg]; exact (below_size (by repeat (first | (with_reducible first | exact HB.out | apply below_alloc | apply pw_below_drewN | apply below_drew1 | refine below_set ?_ GE209.out | refine below_set ?_ GE210.out) | exact HB.out))) : w.heap.size ≤ gb223)); have n7_ := Aside0.mk ((by rw [hg]; exact Nat.ne_of_lt (blk_lt (g := gb209) (o := .cells #[.int .i64 x210000_1, .int .i64 x210001_1] 24 (0, 0)) (by (with_reducible repeat (first | refine blk_drewN ?_ _ | refine blk_drew ?_ | refine blk_alloc ?_ _)); exact BK209.out)) : gb209 ≠ gb223)); have n8_ := Aside0.mk ((by rw [hg]; exact Nat.ne_of_gt (blk_lt (g := gb209) (o := .cells #[.int .i64 x210000_1, .int .i64 x210001_1] 24 (0, 0)) (by (with_reducible repeat (first | refine blk_drewN ?_ _ | refine blk_drew ?_ | refine blk_alloc ?_ _)); exact BK209.out)) : gb223 ≠ gb209)); have n9_ := Aside0.mk ((by rw [hg]; exact Nat.ne_of_lt (blk_lt (g := gb210) (o := .cells #[.int .i64 a4_0, .int .i64 a4_1, .int .i64 a4_2, .int .i64 a4_3, .int .i64 a4_4, .int .i64 a4_5] 29 (0, 0)) (by (with_reducible repeat (first | refine blk_drewN ?_ _ | refine blk_drew ?_ | refine blk_alloc ?_ _)); exact BK210.out)) : gb210 ≠ gb223)); have n10_ := Aside0.mk ((by rw [hg]; exact Nat.ne_of_gt (blk_lt (g := gb210) (o := .cells #[.int .i64 a4_0, .int .i64 a4_1, .int .i64 a4_2, .int .i64 a4_3, .int .i64 a4_4, .int .i64 a4_5] 29 (0, 0)) (by (with_reducible repeat (first | refine blk_drewN ?_ _ | refine blk_drew ?_ | refine blk_alloc ?_ _)); exact BK210.out)) : gb223 ≠ gb210)); clear HO_11; clear BK209; clear BK210; clear HB; have HO_11 := n0_; have BK209 := n1_; have BK210 := n2_; have HB := n3_; have BK223 := n4_; have GW223 := n5_; have GE223 := n6_; have NB209_223 := n7_; have NB223_209 := n8_; have NB210_223 := n9_; have NB223_210 := n10_; clear n0_ n1_ n2_ n3_ n4_ n5_ n6_ n7_ n8_ n9_ n10_; clear hb hbox hg; have hnb22 := NB223_209.out; have hnc22 := NB209_223.out; have hnb23 := NB223_210.out; have hnc23 := NB210_223.out; have hcz24_0 : w21.cell? ⟨gb223, 0, none⟩ = some (.int .i64 0) := (blk_cell BK223.out 0).trans rfl; have hcz24_1 : w21.cell? ⟨gb223, 1, none⟩ = some (.int .i64 0) := (blk_cell BK223.out 1).trans rfl; have hfz24_0 := blk_frozen BK223.out 0; have hfz24_1 := blk_frozen BK223.out 1; have hcz25_0 : w21.cell? ⟨gb209, 0, none⟩ = some (.int .i64 x210000_1) := (blk_cell BK209.out 0).trans rfl; have hcz25_1 : w21.cell? ⟨gb209, 1, none⟩ = some (.int .i64 x210001_1) := (blk_cell BK209.out 1).trans rfl; have hfz25_0 := blk_frozen BK209.out 0; have hfz25_1 := blk_frozen BK209.out 1)); try go_wp2_with (first | (go_at_call 42; (with_reducible refine (ensembleref08_Units.calls k1 _ _ ((rd_T41 l3 x13_1).f4) t221 t222 _ ?side1 ?side2 A17.out).mono ?_); (case side1 => repeat (first | exact (Kd.C_below HR220_4.out HB.out) | (with_reducible refine Kd.C_alloc ?_ _) | (with_reducible refine Kd.C_drewN ?_ _) | (with_reducible refine Kd.C_drew ?_))); (case side2 => exact HC220_4.out); rintro e w20 ⟨rfl, hb⟩; have n0_ := Aside0.mk (Kd.R_below Z7 hb); have n1_ := Aside0.mk (blk_below (g := gb209) (o := .cells #[.int .i64 x210000_1, .int .i64 x210001_1] 24 (0, 0)) (by (with_reducible repeat (first | refine blk_drewN ?_ _ | refine blk_drew ?_ | refine blk_alloc ?_ _)); exact BK209.out) hb); have n2_ := Aside0.mk (blk_below (g := gb210) (o := .cells #[.int .i64 a4_0, .int .i64 a4_1, .int .i64 a4_2, .int .i64 a4_3, .int .i64 a4_4, .int .i64 a4_5] 29 (0, 0)) (by (with_reducible repeat (first | refine blk_drewN ?_ _ | refine blk_drew ?_ | refine blk_alloc ?_ _)); exact BK210.out) hb); have n3_ := Aside0.mk (below_step (by repeat (first | (with_reducible first | exact HB.out | apply below_alloc | apply pw_below_drewN | apply below_drew1 | refine below_set ?_ GE209.out | refine below_set ?_ GE210.out) | exact HB.out)) hb); clear HO_11; clear BK209; clear BK210; clear HB; have HO_11 := n0_; have BK209 := n1_; have BK210 := n2_; have HB := n3_; clear n0_ n1_ n2_ n3_; (try clear hb); (try clear hb2); (try clear hk); (try clear hi)) | ((with_reducible refine gate_dst (N := 14) rfl ?_); refine bx 14 #[.int .i64 0, .int .i64 0] 24 ?_; intro gb223 hg w21 hbox hb; have n0_ := Aside0.mk (Kd.R_below Z7 hb); have n1_ := Aside0.mk (blk_below (g := gb209) (o := .cells #[.int .i64 x210000_1, .int .i64 x210001_1] 24 (0, 0)) (by (with_reducible repeat (first | refine blk_drewN ?_ _ | refine blk_drew ?_ | refine blk_alloc ?_ _)); exact BK209.out) hb); have n2_ := Aside0.mk (blk_below (g := gb210) (o := .cells #[.int .i64 a4_0, .int .i64 a4_1, .int .i64 a4_2, .int .i64 a4_3, .int .i64 a4_4, .int .i64 a4_5] 29 (0, 0)) (by (with_reducible repeat (first | refine blk_drewN ?_ _ | refine blk_drew ?_ | refine blk_alloc ?_ _)); exact BK210.out) hb); have n3_ := Aside0.mk (below_step (by repeat (first | (with_reducible first | exact HB.out | apply below_alloc | apply pw_below_drewN | apply below_drew1 | refine below_set ?_ GE209.out | refine below_set ?_ GE210.out) | exact HB.out)) hb); have n4_ := Aside0.mk (hbox); have n5_ := Aside0.mk ((by rw [hg]; exact (below_size (by repeat (first | (with_reducible first | exact HB.out | apply below_alloc | apply pw_below_drewN | apply below_drew1 | refine below_set ?_ GE209.out | refine below_set ?_ GE210.out) | exact HB.out))) : w.heap.size ≤ gb223)); have n6_ := Aside0.mk ((by rw [hg]; exact (below_size (by repeat (first | (with_reducible first | exact HB.out | apply below_alloc | apply pw_below_drewN | apply below_drew1 | refine below_set ?_ GE209.out | refine below_set ?_ GE210.out) | exact HB.out))) : w.heap.size ≤ gb223)); have n7_ := Aside0.mk ((by rw [hg]; exact Nat.ne_of_lt (blk_lt (g := gb209) (o := .cells #[.int .i64 x210000_1, .int .i64 x210001_1] 24 (0, 0)) (by (with_reducible repeat (first | refine blk_drewN ?_ _ | refine blk_drew ?_ | refine blk_alloc ?_ _)); exact BK209.out)) : gb209 ≠ gb223)); have n8_ := Aside0.mk ((by rw [hg]; exact Nat.ne_of_gt (blk_lt (g := gb209) (o := .cells #[.int .i64 x210000_1, .int .i64 x210001_1] 24 (0, 0)) (by (with_reducible repeat (first | refine blk_drewN ?_ _ | refine blk_drew ?_ | refine blk_alloc ?_ _)); exact BK209.out)) : gb223 ≠ gb209)); have n9_ := Aside0.mk ((by rw [hg]; exact Nat.ne_of_lt (blk_lt (g := gb210) (o := .cells #[.int .i64 a4_0, .int .i64 a4_1, .int .i64 a4_2, .int .i64 a4_3, .int .i64 a4_4, .int .i64 a4_5] 29 (0, 0)) (by (with_reducible repeat (first | refine blk_drewN ?_ _ | refine blk_drew ?_ | refine blk_alloc ?_ _)); exact BK210.out)) : gb210 ≠ gb223)); have n10_ := Aside0.mk ((by rw [hg]; exact Nat.ne_of_gt (blk_lt (g := gb210) (o := .cells #[.int .i64 a4_0, .int .i64 a4_1, .int .i64 a4_2, .int .i64 a4_3, .int .i64 a4_4, .int .i64 a4_5] 29 (0, 0)) (by (with_reducible repeat (first | refine blk_drewN ?_ _ | refine blk_drew ?_ | refine blk_alloc ?_ _)); exact BK210.out)) : gb223 ≠ gb210)); clear HO_11; clear BK209; clear BK210; clear HB; have HO_11 := n0_; have BK209 := n1_; have BK210 := n2_; have HB := n3_; have BK223 := n4_; have GW223 := n5_; have GE223 := n6_; have NB209_223 := n7_; have NB223_209 := n8_; have NB210_223 := n9_; have NB223_210 := n10_; clear n0_ n1_ n2_ n3_ n4_ n5_ n6_ n7_ n8_ n9_ n10_; clear hb hbox hg; have hnb22 := NB223_209.out; have hnc22 := NB209_223.out; have hnb23 := NB223_210.out; have hnc23 := NB210_223.out; have hcz24_0 : w21.cell? ⟨gb223, 0, none⟩ = some (.int .i64 0) := (blk_cell BK223.out 0).trans rfl; have hcz24_1 : w21.cell? ⟨gb223, 1, none⟩ = some (.int .i64 0) := (blk_cell BK223.out 1).trans rfl; have hfz24_0 := blk_frozen BK223.out 0; have hfz24_1 := blk_frozen BK223.out 1; have hcz25_0 : w21.cell? ⟨gb209, 0, none⟩ = some (.int .i64 x210000_1) := (blk_cell BK209.out 0).trans rfl; have hcz25_1 : w21.cell? ⟨gb209, 1, none⟩ = some (.int .i64 x210001_1) := (blk_cell BK209.out 1).trans rfl; have hfz25_0 := blk_frozen BK209.out 0; have hfz25_1 := blk_frozen BK209.out 1)))
       go_roundg k1
       case measure => have := HK1.out; omega
       case rel => exact ⟨(wrap64 (x13_1 + 1)), (wrap64 (x210000_1 + t221)), (wrap64 (x210001_1 + t222)), Z4, H', ⟨by have := HK1.out; omega⟩, ⟨by (with_reducible repeat (first | apply Kd.R_alloc | apply Kd.R_drewN | apply Kd.R_drew)); exact Kd.R_mono (Kd.R_far (p := ⟨gb209, 1, none⟩) (Kd.R_far (p := ⟨gb209, 0, none⟩) (Kd.R_far (p := ⟨gb223, 1, none⟩) (Kd.R_far (p := ⟨gb223, 0, none⟩) (Kd.R_types (Kd.R_types HO_11.out BK223.out (by decide)) BK209.out (by decide)) (fun _ hk => hk.1.2) (.int .i64 t221)) (fun _ hk => hk.1.2) (.int .i64 t222)) (fun _ hk => hk.2) (.int .i64 (wrap64 (x210000_1 + t221)))) (fun _ hk => hk.2) (.int .i64 (wrap64 (x210001_1 + t222)))) (fun _ hk => trivial)⟩, ⟨by (with_reducible repeat (first | refine blk_drewN ?_ _ | refine blk_drew ?_ | refine blk_alloc ?_ _)); refine blk_put (cs := #[.int .i64 (wrap64 (x210000_1 + t221)), .int .i64 x210001_1]) ?_ 1 _ rfl; (with_reducible repeat (first | refine blk_drewN ?_ _ | refine blk_drew ?_ | refine blk_alloc ?_ _)); refine blk_put (cs := #[.int .i64 x210000_1, .int .i64 x210001_1]) ?_ 0 _ rfl; (with_reducible repeat (first | refine blk_drewN ?_ _ | refine blk_drew ?_ | refine blk_alloc ?_ _)); refine blk_far ?_ NB209_223.out _; (with_reducible repeat (first | refine blk_drewN ?_ _ | refine blk_drew ?_ | refine blk_alloc ?_ _)); refine blk_far ?_ NB209_223.out _; (with_reducible repeat (first | refine blk_drewN ?_ _ | refine blk_drew ?_ | refine blk_alloc ?_ _)); exact BK209.out⟩, ⟨by (with_reducible repeat (first | refine blk_drewN ?_ _ | refine blk_drew ?_ | refine blk_alloc ?_ _)); refine blk_far ?_ NB210_209.out _; (with_reducible repeat (first | refine blk_drewN ?_ _ | refine blk_drew ?_ | refine blk_alloc ?_ _)); refine blk_far ?_ NB210_209.out _; (with_reducible repeat (first | refine blk_drewN ?_ _ | refine blk_drew ?_ | refine blk_alloc ?_ _)); refine blk_far ?_ NB210_223.out _; (with_reducible repeat (first | refine blk_drewN ?_ _ | refine blk_drew ?_ | refine blk_alloc ?_ _)); refine blk_far ?_ NB210_223.out _; (with_reducible repeat (first | refine blk_drewN ?_ _ | refine blk_drew ?_ | refine blk_alloc ?_ _)); exact BK210.out⟩, ⟨by repeat (first | (with_reducible first | exact HB.out | apply below_alloc | apply pw_below_drewN | apply below_drew1 | refine below_set ?_ GE209.out | refine below_set ?_ GE210.out | refine below_set ?_ GE223.out) | exact HB.out)⟩⟩
      ·rw [if_neg c16] at H
       have c16b0 : (((rd_T41 l3 x13_1).f1) == a4_0) = false := beq_eq_false_iff_ne.mpr c16
       have c16b1 : (((rd_T41 l3 x13_1).f1) != a4_0) = true := bne_iff_ne.mpr c16
       have H' := Aside0.mk H
       clear H
       have p218 : 0 ≤ (x13_1 : Int) := of_decide_eq_true Z2
       have q218 : x13_1 < (l3.length : Int) := of_decide_eq_true Z2
       obtain ⟨ad218, A218_4, c218_4, e218, hx218_0, hx218_1, hx218_2, hx218_3, hx218_4, hl218_4, hi218_4⟩ := at_T41 HR3.out x13_1 p218 q218
       cases e218
       replace hx218_0 := (HB.out.cell (World.block_lt_of_cell? w _ hx218_0)).trans hx218_0
       replace hx218_1 := (HB.out.cell (World.block_lt_of_cell? w _ hx218_1)).trans hx218_1
       replace hx218_2 := (HB.out.cell (World.block_lt_of_cell? w _ hx218_2)).trans hx218_2
       replace hx218_3 := (HB.out.cell (World.block_lt_of_cell? w _ hx218_3)).trans hx218_3
       replace hx218_4 := (HB.out.cell (World.block_lt_of_cell? w _ hx218_4)).trans hx218_4
       have HR218_4 := Aside0.mk hi218_4
       have HC218_4 := Aside0.mk hl218_4
       clear hi218_4 hl218_4
       replace p218 := eq_true p218
       replace q218 := eq_true q218
       have p219 : 0 ≤ (x13_1 : Int) := of_decide_eq_true Z2
       have q219 : x13_1 < (l3.length : Int) := of_decide_eq_true Z2
       obtain ⟨ad219, A219_4, c219_4, e219, hx219_0, hx219_1, hx219_2, hx219_3, hx219_4, hl219_4, hi219_4⟩ := at_T41 HR3.out x13_1 p219 q219
       obtain rfl : ad218 = ad219 := (by injection e219)
       replace hx219_0 := (HB.out.cell (World.block_lt_of_cell? w _ hx219_0)).trans hx219_0
       replace hx219_1 := (HB.out.cell (World.block_lt_of_cell? w _ hx219_1)).trans hx219_1
       replace hx219_2 := (HB.out.cell (World.block_lt_of_cell? w _ hx219_2)).trans hx219_2
       replace hx219_3 := (HB.out.cell (World.block_lt_of_cell? w _ hx219_3)).trans hx219_3
       replace hx219_4 := (HB.out.cell (World.block_lt_of_cell? w _ hx219_4)).trans hx219_4
       have HR219_4 := Aside0.mk hi219_4
       have HC219_4 := Aside0.mk hl219_4
       clear hi219_4 hl219_4
       replace p219 := eq_true p219
       replace q219 := eq_true q219
       have ea_ := Option.some.inj (hx218_4.symm.trans hx219_4)
       injection ea_ with ea_ en_ ec_
       subst ea_
       subst ec_
       clear en_
       have hnb26 := NB210_209.out
       have hnc26 := NB209_210.out
       have hcz27_0 : wr.cell? ⟨gb210, 0, none⟩ = some (.int .i64 a4_0) := (blk_cell BK210.out 0).trans rfl
       have hcz27_1 : wr.cell? ⟨gb210, 1, none⟩ = some (.int .i64 a4_1) := (blk_cell BK210.out 1).trans rfl
       have hcz27_2 : wr.cell? ⟨gb210, 2, none⟩ = some (.int .i64 a4_2) := (blk_cell BK210.out 2).trans rfl
       have hcz27_3 : wr.cell? ⟨gb210, 3, none⟩ = some (.int .i64 a4_3) := (blk_cell BK210.out 3).trans rfl
       have hcz27_4 : wr.cell? ⟨gb210, 4, none⟩ = some (.int .i64 a4_4) := (blk_cell BK210.out 4).trans rfl
       have hcz27_5 : wr.cell? ⟨gb210, 5, none⟩ = some (.int .i64 a4_5) := (blk_cell BK210.out 5).trans rfl
       have hfz27_0 := blk_frozen BK210.out 0
       have hfz27_1 := blk_frozen BK210.out 1
       have hfz27_2 := blk_frozen BK210.out 2
       have hfz27_3 := blk_frozen BK210.out 3
       have hfz27_4 := blk_frozen BK210.out 4
       have hfz27_5 := blk_frozen BK210.out 5
       go_wp2
       repeat (go_quiet (fail); try go_wp2)
       go_roundg k1
       case measure => have := HK1.out; omega
       case rel => exact ⟨(wrap64 (x13_1 + 1)), (x210000_1), (x210001_1), Z4, H', ⟨by have := HK1.out; omega⟩, ⟨by (with_reducible repeat (first | apply Kd.R_alloc | apply Kd.R_drewN | apply Kd.R_drew)); exact HO_11.out⟩, ⟨by (with_reducible repeat (first | refine blk_drewN ?_ _ | refine blk_drew ?_ | refine blk_alloc ?_ _)); exact BK209.out⟩, ⟨by (with_reducible repeat (first | refine blk_drewN ?_ _ | refine blk_drew ?_ | refine blk_alloc ?_ _)); exact BK210.out⟩, ⟨by repeat (first | (with_reducible first | exact HB.out | apply below_alloc | apply pw_below_drewN | apply below_drew1 | refine below_set ?_ GE209.out | refine below_set ?_ GE210.out) | exact HB.out)⟩⟩
     ·rw [if_neg c15] at H
      have c15b0 : decide (((rd_T41 l3 x13_1).f2) ≤ a0) = false := decide_eq_false c15
      clear c15
      have H' := Aside0.mk H
      clear H
      have p218 : 0 ≤ (x13_1 : Int) := of_decide_eq_true Z2
      have q218 : x13_1 < (l3.length : Int) := of_decide_eq_true Z2
      obtain ⟨ad218, A218_4, c218_4, e218, hx218_0, hx218_1, hx218_2, hx218_3, hx218_4, hl218_4, hi218_4⟩ := at_T41 HR3.out x13_1 p218 q218
      cases e218
      replace hx218_0 := (HB.out.cell (World.block_lt_of_cell? w _ hx218_0)).trans hx218_0
      replace hx218_1 := (HB.out.cell (World.block_lt_of_cell? w _ hx218_1)).trans hx218_1
      replace hx218_2 := (HB.out.cell (World.block_lt_of_cell? w _ hx218_2)).trans hx218_2
      replace hx218_3 := (HB.out.cell (World.block_lt_of_cell? w _ hx218_3)).trans hx218_3
      replace hx218_4 := (HB.out.cell (World.block_lt_of_cell? w _ hx218_4)).trans hx218_4
      have HR218_4 := Aside0.mk hi218_4
      have HC218_4 := Aside0.mk hl218_4
      clear hi218_4 hl218_4
      replace p218 := eq_true p218
      replace q218 := eq_true q218
      go_wp2
      repeat (go_quiet (fail); try go_wp2)
      go_roundg k1
      case measure => have := HK1.out; omega
      case rel => exact ⟨(wrap64 (x13_1 + 1)), (x210000_1), (x210001_1), Z4, H', ⟨by have := HK1.out; omega⟩, ⟨by (with_reducible repeat (first | apply Kd.R_alloc | apply Kd.R_drewN | apply Kd.R_drew)); exact HO_11.out⟩, ⟨by (with_reducible repeat (first | refine blk_drewN ?_ _ | refine blk_drew ?_ | refine blk_alloc ?_ _)); exact BK209.out⟩, ⟨by (with_reducible repeat (first | refine blk_drewN ?_ _ | refine blk_drew ?_ | refine blk_alloc ?_ _)); exact BK210.out⟩, ⟨by repeat (first | (with_reducible first | exact HB.out | apply below_alloc | apply pw_below_drewN | apply below_drew1 | refine below_set ?_ GE209.out | refine below_set ?_ GE210.out) | exact HB.out)⟩⟩
    ·rw [if_neg c14] at H
     exact absurd H (by simp)
   ·rw [if_neg c13] at H
    have c13b0 : decide (x13_1 < (l3.length : Int)) = false := decide_eq_false c13
    clear c13
    replace H := Option.bind_eq_some_iff.mp H
    obtain ⟨t224, A280, H⟩ := H
    replace H : (some t224) = some r := H
    have A28 := Aside0.mk A280
    clear A280
    obtain rfl := Option.some.inj H
    have hnb29 := NB209_210.out
    have hnc29 := NB210_209.out
    have hcz30_0 : wr.cell? ⟨gb209, 0, none⟩ = some (.int .i64 x210000_1) := (blk_cell BK209.out 0).trans rfl
    have hcz30_1 : wr.cell? ⟨gb209, 1, none⟩ = some (.int .i64 x210001_1) := (blk_cell BK209.out 1).trans rfl
    have hfz30_0 := blk_frozen BK209.out 0
    have hfz30_1 := blk_frozen BK209.out 1
    have hcz31_0 : wr.cell? ⟨gb210, 0, none⟩ = some (.int .i64 a4_0) := (blk_cell BK210.out 0).trans rfl
    have hcz31_1 : wr.cell? ⟨gb210, 1, none⟩ = some (.int .i64 a4_1) := (blk_cell BK210.out 1).trans rfl
    have hcz31_2 : wr.cell? ⟨gb210, 2, none⟩ = some (.int .i64 a4_2) := (blk_cell BK210.out 2).trans rfl
    have hcz31_3 : wr.cell? ⟨gb210, 3, none⟩ = some (.int .i64 a4_3) := (blk_cell BK210.out 3).trans rfl
    have hcz31_4 : wr.cell? ⟨gb210, 4, none⟩ = some (.int .i64 a4_4) := (blk_cell BK210.out 4).trans rfl
    have hcz31_5 : wr.cell? ⟨gb210, 5, none⟩ = some (.int .i64 a4_5) := (blk_cell BK210.out 5).trans rfl
    have hfz31_0 := blk_frozen BK210.out 0
    have hfz31_1 := blk_frozen BK210.out 1
    have hfz31_2 := blk_frozen BK210.out 2
    have hfz31_3 := blk_frozen BK210.out 3
    have hfz31_4 := blk_frozen BK210.out 4
    have hfz31_5 := blk_frozen BK210.out 5
    obtain ⟨Ao32, co32, eo32⟩ := Kd.R_slice HO_11.out
    subst eo32
    go_wp2_with (first | (go_at_call 30; (with_reducible refine (ensembleref12_Fits.calls k1 _ _ t214 x210000_1 x210001_1 a4_0 a4_1 a4_2 a4_3 a4_4 a4_5 t224 _ ?side1 ?side2 A28.out).mono ?_); (case side1 => repeat (first | exact (Kd.R_reads' HO_11.out).2.2 | (with_reducible refine Kd.C_alloc ?_ _) | (with_reducible refine Kd.C_drewN ?_ _) | (with_reducible refine Kd.C_drew ?_))); (case side2 => exact (Kd.R_reads' HO_11.out).2.1); rintro e w33 ⟨rfl, hb⟩; have n0_ := Aside0.mk (Kd.R_below Z7 hb); have n1_ := Aside0.mk (blk_below (g := gb209) (o := .cells #[.int .i64 x210000_1, .int .i64 x210001_1] 24 (0, 0)) (by (with_reducible repeat (first | refine blk_drewN ?_ _ | refine blk_drew ?_ | refine blk_alloc ?_ _)); exact BK209.out) hb); have n2_ := Aside0.mk (blk_below (g := gb210) (o := .cells #[.int .i64 a4_0, .int .i64 a4_1, .int .i64 a4_2, .int .i64 a4_3, .int .i64 a4_4, .int .i64 a4_5] 29 (0, 0)) (by (with_reducible repeat (first | refine blk_drewN ?_ _ | refine blk_drew ?_ | refine blk_alloc ?_ _)); exact BK210.out) hb); have n3_ := Aside0.mk (below_step (by repeat (first | (with_reducible first | exact HB.out | apply below_alloc | apply pw_below_drewN | apply below_drew1 | refine below_set ?_ GE209.out | refine below_set ?_ GE210.out) | exact HB.out)) hb); clear HO_11; clear BK209; clear BK210; clear HB; have HO_11 := n0_; have BK209 := n1_; have BK210 := n2_; have HB := n3_; clear n0_ n1_ n2_ n3_; (try clear hb); (try clear hb2); (try clear hk); (try clear hi)))
    repeat (go_quiet (first | (go_at_call 30; (with_reducible refine (ensembleref12_Fits.calls k1 _ _ t214 x210000_1 x210001_1 a4_0 a4_1 a4_2 a4_3 a4_4 a4_5 t224 _ ?side1 ?side2 A28.out).mono ?_); (case side1 => repeat (first | exact (Kd.R_reads' HO_11.out).2.2 | (with_reducible refine Kd.C_alloc ?_ _) | (with_reducible refine Kd.C_drewN ?_ _) | (with_reducible refine Kd.C_drew ?_))); (case side2 => exact (Kd.R_reads' HO_11.out).2.1); rintro e w33 ⟨rfl, hb⟩; have n0_ := Aside0.mk (Kd.R_below Z7 hb); have n1_ := Aside0.mk (blk_below (g := gb209) (o := .cells #[.int .i64 x210000_1, .int .i64 x210001_1] 24 (0, 0)) (by (with_reducible repeat (first | refine blk_drewN ?_ _ | refine blk_drew ?_ | refine blk_alloc ?_ _)); exact BK209.out) hb); have n2_ := Aside0.mk (blk_below (g := gb210) (o := .cells #[.int .i64 a4_0, .int .i64 a4_1, .int .i64 a4_2, .int .i64 a4_3, .int .i64 a4_4, .int .i64 a4_5] 29 (0, 0)) (by (with_reducible repeat (first | refine blk_drewN ?_ _ | refine blk_drew ?_ | refine blk_alloc ?_ _)); exact BK210.out) hb); have n3_ := Aside0.mk (below_step (by repeat (first | (with_reducible first | exact HB.out | apply below_alloc | apply pw_below_drewN | apply below_drew1 | refine below_set ?_ GE209.out | refine below_set ?_ GE210.out) | exact HB.out)) hb); clear HO_11; clear BK209; clear BK210; clear HB; have HO_11 := n0_; have BK209 := n1_; have BK210 := n2_; have HB := n3_; clear n0_ n1_ n2_ n3_; (try clear hb); (try clear hb2); (try clear hk); (try clear hi))); try go_wp2_with (first | (go_at_call 30; (with_reducible refine (ensembleref12_Fits.calls k1 _ _ t214 x210000_1 x210001_1 a4_0 a4_1 a4_2 a4_3 a4_4 a4_5 t224 _ ?side1 ?side2 A28.out).mono ?_); (case side1 => repeat (first | exact (Kd.R_reads' HO_11.out).2.2 | (with_reducible refine Kd.C_alloc ?_ _) | (with_reducible refine Kd.C_drewN ?_ _) | (with_reducible refine Kd.C_drew ?_))); (case side2 => exact (Kd.R_reads' HO_11.out).2.1); rintro e w33 ⟨rfl, hb⟩; have n0_ := Aside0.mk (Kd.R_below Z7 hb); have n1_ := Aside0.mk (blk_below (g := gb209) (o := .cells #[.int .i64 x210000_1, .int .i64 x210001_1] 24 (0, 0)) (by (with_reducible repeat (first | refine blk_drewN ?_ _ | refine blk_drew ?_ | refine blk_alloc ?_ _)); exact BK209.out) hb); have n2_ := Aside0.mk (blk_below (g := gb210) (o := .cells #[.int .i64 a4_0, .int .i64 a4_1, .int .i64 a4_2, .int .i64 a4_3, .int .i64 a4_4, .int .i64 a4_5] 29 (0, 0)) (by (with_reducible repeat (first | refine blk_drewN ?_ _ | refine blk_drew ?_ | refine blk_alloc ?_ _)); exact BK210.out) hb); have n3_ := Aside0.mk (below_step (by repeat (first | (with_reducible first | exact HB.out | apply below_alloc | apply pw_below_drewN | apply below_drew1 | refine below_set ?_ GE209.out | refine below_set ?_ GE210.out) | exact HB.out)) hb); clear HO_11; clear BK209; clear BK210; clear HB; have HO_11 := n0_; have BK209 := n1_; have BK210 := n2_; have HB := n3_; clear n0_ n1_ n2_ n3_; (try clear hb); (try clear hb2); (try clear hk); (try clear hi))))
    go_ret
    exact ⟨by first | rfl | (simp [errW_none, errW_some] <;> rfl) | (simp [*, errW_none, errW_some] <;> rfl), by repeat (first | (with_reducible first | exact HB.out | apply below_alloc | apply pw_below_drewN | apply below_drew1 | refine below_set ?_ GE209.out | refine below_set ?_ GE210.out) | exact HB.out)⟩
end Go.Proofs.Ytckhjehibjdjdaa.P
namespace Go.Proofs.Ytckhjehibjdjdaa.Bits
def pos (m : Nat) : List Nat := (List.range 64).filter fun i => m.testBit i
def orAll (l : List Nat) : Nat := l.foldl (fun a i => a ||| 2 ^ i) 0
def lowN (m n : Nat) : Nat := orAll ((pos m).take n)
def popN (m : Nat) : Nat := (pos m).length
theorem testBit_orFold (l : List Nat) (a j : Nat) : (l.foldl (fun a i => a ||| 2 ^ i) a).testBit j = (a.testBit j || decide (j ∈ l)) := by
 induction l generalizing a with
 | nil => simp
 | cons i l ih =>
  rw [List.foldl_cons, ih, Nat.testBit_or, Nat.testBit_two_pow, Bool.or_assoc]
  congr 1
  by_cases h : i = j
  ·simp [h]
  ·have h' : j ≠ i := fun e => h e.symm
   simp [h, h']
theorem testBit_orAll (l : List Nat) (j : Nat) : (orAll l).testBit j = decide (j ∈ l) := by
 unfold orAll; rw [testBit_orFold]; simp
theorem orAll_snoc (l : List Nat) (i : Nat) : orAll (l ++ [i]) = orAll l ||| 2 ^ i := by simp [orAll, List.foldl_append]
theorem mem_pos {m j : Nat} : j ∈ pos m ↔ j < 64 ∧ m.testBit j = true := by simp [pos]
theorem pos_zero : pos 0 = [] := by simp [pos]
theorem lt_of_testBit {m j : Nat} (hm : m < 2 ^ 64) (h : m.testBit j = true) : j < 64 := by
 rcases Nat.lt_or_ge j 64 with h1 | h1
 ·exact h1
 ·rw [Nat.testBit_lt_two_pow (Nat.lt_of_lt_of_le hm (Nat.pow_le_pow_right (by omega) h1))] at h
  cases h
theorem orAll_pos {m : Nat} (hm : m < 2 ^ 64) : orAll (pos m) = m := by
 apply Nat.eq_of_testBit_eq
 intro j
 rw [testBit_orAll]
 by_cases h : m.testBit j = true
 ·rw [h]; exact decide_eq_true (mem_pos.2 ⟨lt_of_testBit hm h, h⟩)
 ·have h' : m.testBit j = false := by simpa using h
  rw [h']; exact decide_eq_false (fun e => h (mem_pos.1 e).2)
theorem pos_sorted (m : Nat) : (pos m).Pairwise (· < ·) := List.Pairwise.filter _ List.pairwise_lt_range
def popI (m : Int) : Int := (popN m.toNat : Int)
def lowI (m n : Int) : Int := (lowN m.toNat n.toNat : Int)
end Go.Proofs.Ytckhjehibjdjdaa.Bits
namespace Go.Proofs.Ytckhjehibjdjdaa.P
open Go.RowKit Go.Shelf Go.Proofs.YtckhjehibjdjdaaW.PrintWords Go.Proofs.YtckhjehibjdjdaaW.PrintLast Go.Proofs.YtckhjehibjdjdaaW.PrintMore
open Go.Proofs.Ytckhjehibjdjdaa.Bits Go.Proofs.Ytckhjehibjdjdaa.RF
attribute [local go_sem] max2_int min2_int max_two min_two max_three min_three max_four min_four
attribute [local go_sem] Oper.semAt_some
set_option linter.unusedVariables false
set_option linter.unusedSimpArgs false
end Go.Proofs.Ytckhjehibjdjdaa.P
namespace Go.Proofs.Ytckhjehibjdjdaa.Bits
set_option linter.unusedVariables false
set_option linter.unusedSimpArgs false
def glue : List Nat → Nat
 | [] => 0
 | r :: l => 256 * glue l + r
def maskN (s : Nat) : Nat → Nat
 | 0 => 0
 | k + 1 => 256 * maskN s k + s
theorem and_split (q p r s : Nat) (hr : r < 256) (hs : s < 256) : (256 * q + r) &&& (256 * p + s) = 256 * (q &&& p) + (r &&& s) := by
 apply Nat.eq_of_testBit_eq
 intro j
 have hrs : (r &&& s) < 2 ^ 8 := Nat.lt_of_le_of_lt Nat.and_le_left hr
 have e1 := Nat.testBit_two_pow_mul_add q (i := 8) hr j
 have e2 := Nat.testBit_two_pow_mul_add p (i := 8) hs j
 have e3 := Nat.testBit_two_pow_mul_add (q &&& p) (i := 8) hrs j
 rw [show (2 : Nat) ^ 8 = 256 from rfl] at e1 e2 e3
 rw [Nat.testBit_and, e1, e2, e3]
 split <;> simp
theorem and_shift (q p r s j : Nat) (hj : j ≤ 8) (hr : r < 256) (hs : s < 2 ^ (8 - j)) : ((256 * q + r) / 2 ^ j) &&& (256 * p + s) = 256 * ((q / 2 ^ j) &&& p) + ((r / 2 ^ j) &&& s) := by
 have hs' : s < 256 := Nat.lt_of_lt_of_le hs (by have := Nat.pow_le_pow_right (n := 2) (by omega) (show 8 - j ≤ 8 by omega); simpa using this)
 apply Nat.eq_of_testBit_eq
 intro i
 have hrs : ((r / 2 ^ j) &&& s) < 2 ^ 8 := Nat.lt_of_le_of_lt Nat.and_le_right hs'
 have e1 := Nat.testBit_two_pow_mul_add q (i := 8) hr (i + j)
 have e2 := Nat.testBit_two_pow_mul_add p (i := 8) hs' i
 have e3 := Nat.testBit_two_pow_mul_add ((q / 2 ^ j) &&& p) (i := 8) hrs i
 rw [show (2 : Nat) ^ 8 = 256 from rfl] at e1 e2 e3
 rw [Nat.testBit_and, e2, e3, Nat.testBit_div_two_pow, e1]
 by_cases hi : i < 8
 ·rw [if_pos hi, if_pos hi, Nat.testBit_and, Nat.testBit_div_two_pow]
  by_cases h2 : i + j < 8
  ·rw [if_pos h2]
  ·rw [if_neg h2]
   have : s.testBit i = false := by
    apply Nat.testBit_lt_two_pow
    exact Nat.lt_of_lt_of_le hs (Nat.pow_le_pow_right (by omega) (by omega))
   rw [this]; simp
 ·rw [if_neg hi, if_neg hi, if_neg (by omega), Nat.testBit_and, Nat.testBit_div_two_pow]
  rw [show i + j - 8 = i - 8 + j by omega]
theorem glue_and (s : Nat) (hs : s < 256) : ∀ l : List Nat, (∀ r ∈ l, r < 256) → glue l &&& maskN s l.length = glue (l.map fun r => r &&& s)
 | [], _ => by simp [glue, maskN]
 | r :: l, h => by
  rw [glue, List.length_cons, maskN, and_split _ _ _ _ (h r (by simp)) hs, glue_and s hs l (fun x hx => h x (by simp [hx]))]; rfl
theorem glue_shift (s j : Nat) (hj : j ≤ 8) (hs : s < 2 ^ (8 - j)) : ∀ l : List Nat, (∀ r ∈ l, r < 256) → (glue l / 2 ^ j) &&& maskN s l.length = glue (l.map fun r => (r / 2 ^ j) &&& s)
 | [], _ => by simp [glue, maskN]
 | r :: l, h => by
  rw [glue, List.length_cons, maskN, and_shift _ _ _ _ _ hj (h r (by simp)) hs, glue_shift s j hj hs l (fun x hx => h x (by simp [hx]))]; rfl
theorem glue_add (f g : Nat → Nat) : ∀ l : List Nat, glue (l.map f) + glue (l.map g) = glue (l.map fun r => f r + g r)
 | [] => rfl
 | r :: l => by have := glue_add f g l; simp only [List.map_cons, glue] at *; omega
def s1 (r : Nat) : Nat := ((r / 2) &&& 85) + (r &&& 85)
def s2 (r : Nat) : Nat := ((r / 4) &&& 51) + (r &&& 51)
theorem s1_lt : ∀ r, r < 256 → s1 r < 256 := by decide +kernel
theorem s2_two : ∀ r, r < 256 → s2 (s1 r) % 16 ≤ 4 ∧ s2 (s1 r) / 16 ≤ 4 ∧ s2 (s1 r) % 16 + s2 (s1 r) / 16 = (List.range 8).countP (fun j => r.testBit j) := by decide +kernel
def bytes (m : Nat) : List Nat := [m % 256, m / 256 % 256, m / 65536 % 256, m / 16777216 % 256, m / 4294967296 % 256, m / 1099511627776 % 256, m / 281474976710656 % 256, m / 72057594037927936 % 256]
theorem glue_bytes (m : Nat) (h : m < 18446744073709551616) : glue (bytes m) = m := by
 simp only [glue, bytes]; omega
theorem bytes_lt (m : Nat) : ∀ r ∈ bytes m, r < 256 := by
 intro r hr
 simp only [bytes, List.mem_cons, List.not_mem_nil, or_false] at hr
 omega
def pairs (m : Nat) : Nat := ((m / 2) &&& 6148914691236517205) + (m &&& 6148914691236517205)
def fours (m : Nat) : Nat := ((m / 4) &&& 3689348814741910323) + (m &&& 3689348814741910323)
theorem pairs_eq (l : List Nat) (hl : l.length = 8) (h : ∀ r ∈ l, r < 256) : pairs (glue l) = glue (l.map s1) := by
 have e : (6148914691236517205 : Nat) = maskN 85 l.length := by rw [hl]; rfl
 unfold pairs
 rw [e, glue_and 85 (by omega) l h]
 have := glue_shift 85 1 (by omega) (by decide) l h
 rw [Nat.pow_one] at this
 rw [this, glue_add]
 rfl
theorem fours_eq (l : List Nat) (hl : l.length = 8) (h : ∀ r ∈ l, r < 256) : fours (glue l) = glue (l.map s2) := by
 have e : (3689348814741910323 : Nat) = maskN 51 l.length := by rw [hl]; rfl
 unfold fours
 rw [e, glue_and 51 (by omega) l h]
 have := glue_shift 51 2 (by omega) (by decide) l h
 rw [show (2 : Nat) ^ 2 = 4 from rfl] at this
 rw [this, glue_add]
 rfl
theorem and15 (u v : Nat) (hv : v < 16) (hu : u < 16) : (16 * u + v) &&& 15 = v := by
 have h : ∀ u, u < 16 → ∀ v, v < 16 → (16 * u + v) &&& 15 = v := by decide +kernel
 exact h u hu v hv
def eights (b : Nat) : Nat := ((b / 16 + b) % 18446744073709551616) &&& 1085102592571150095
theorem eights_eq (h0 h1 h2 h3 h4 h5 h6 h7 l0 l1 l2 l3 l4 l5 l6 l7 : Nat)
  (a0 : h0 ≤ 4) (a1 : h1 ≤ 4) (a2 : h2 ≤ 4) (a3 : h3 ≤ 4) (a4 : h4 ≤ 4) (a5 : h5 ≤ 4) (a6 : h6 ≤ 4) (a7 : h7 ≤ 4)
  (b0 : l0 ≤ 4) (b1 : l1 ≤ 4) (b2 : l2 ≤ 4) (b3 : l3 ≤ 4) (b4 : l4 ≤ 4) (b5 : l5 ≤ 4) (b6 : l6 ≤ 4) (b7 : l7 ≤ 4) :
  eights (glue [16 * h0 + l0, 16 * h1 + l1, 16 * h2 + l2, 16 * h3 + l3, 16 * h4 + l4, 16 * h5 + l5, 16 * h6 + l6, 16 * h7 + l7]) = glue [h0 + l0, h1 + l1, h2 + l2, h3 + l3, h4 + l4, h5 + l5, h6 + l6, h7 + l7] := by
 have e : (glue [16 * h0 + l0, 16 * h1 + l1, 16 * h2 + l2, 16 * h3 + l3, 16 * h4 + l4, 16 * h5 + l5, 16 * h6 + l6, 16 * h7 + l7] / 16 + glue [16 * h0 + l0, 16 * h1 + l1, 16 * h2 + l2, 16 * h3 + l3, 16 * h4 + l4, 16 * h5 + l5, 16 * h6 + l6, 16 * h7 + l7]) % 18446744073709551616
   = glue [16 * (h0 + l1) + (h0 + l0), 16 * (h1 + l2) + (h1 + l1), 16 * (h2 + l3) + (h2 + l2), 16 * (h3 + l4) + (h3 + l3), 16 * (h4 + l5) + (h4 + l4), 16 * (h5 + l6) + (h5 + l5), 16 * (h6 + l7) + (h6 + l6), 16 * h7 + (h7 + l7)] := by
  simp only [glue]; omega
 unfold eights
 rw [e]
 have e2 : (1085102592571150095 : Nat) = maskN 15 8 := rfl
 rw [e2, show (8 : Nat) = [16 * (h0 + l1) + (h0 + l0), 16 * (h1 + l2) + (h1 + l1), 16 * (h2 + l3) + (h2 + l2), 16 * (h3 + l4) + (h3 + l3), 16 * (h4 + l5) + (h4 + l4), 16 * (h5 + l6) + (h5 + l5), 16 * (h6 + l7) + (h6 + l6), 16 * h7 + (h7 + l7)].length from rfl, glue_and 15 (by omega)]
 ·simp only [List.map_cons, List.map_nil]
  rw [and15 _ _ (by omega) (by omega), and15 _ _ (by omega) (by omega), and15 _ _ (by omega) (by omega), and15 _ _ (by omega) (by omega), and15 _ _ (by omega) (by omega), and15 _ _ (by omega) (by omega), and15 _ _ (by omega) (by omega), and15 _ _ (by omega) (by omega)]
 ·intro r hr
  simp only [List.mem_cons, List.not_mem_nil, or_false] at hr
  omega
def tops (c : Nat) : Nat :=
 let d := (c + c / 256) % 18446744073709551616
 let e := (d + d / 65536) % 18446744073709551616
 ((e + e / 4294967296) % 18446744073709551616) % 128
theorem tops_eq (v0 v1 v2 v3 v4 v5 v6 v7 : Nat) (a0 : v0 ≤ 8) (a1 : v1 ≤ 8) (a2 : v2 ≤ 8) (a3 : v3 ≤ 8) (a4 : v4 ≤ 8) (a5 : v5 ≤ 8) (a6 : v6 ≤ 8) (a7 : v7 ≤ 8) :
  tops (glue [v0, v1, v2, v3, v4, v5, v6, v7]) = v0 + v1 + v2 + v3 + v4 + v5 + v6 + v7 := by
 have q1 : glue [v0, v1, v2, v3, v4, v5, v6, v7] / 256 = glue [v1, v2, v3, v4, v5, v6, v7] := by
  simp only [glue]; omega
 have e1 : (glue [v0, v1, v2, v3, v4, v5, v6, v7] + glue [v1, v2, v3, v4, v5, v6, v7]) % 18446744073709551616 = glue [v0 + v1, v1 + v2, v2 + v3, v3 + v4, v4 + v5, v5 + v6, v6 + v7, v7] := by
  rw [Nat.mod_eq_of_lt (by simp only [glue]; omega)]; simp only [glue]; omega
 have q2 : glue [v0 + v1, v1 + v2, v2 + v3, v3 + v4, v4 + v5, v5 + v6, v6 + v7, v7] / 65536 = glue [v2 + v3, v3 + v4, v4 + v5, v5 + v6, v6 + v7, v7] := by
  simp only [glue]; omega
 have e2 : (glue [v0 + v1, v1 + v2, v2 + v3, v3 + v4, v4 + v5, v5 + v6, v6 + v7, v7] + glue [v2 + v3, v3 + v4, v4 + v5, v5 + v6, v6 + v7, v7]) % 18446744073709551616 = glue [v0 + v1 + v2 + v3, v1 + v2 + v3 + v4, v2 + v3 + v4 + v5, v3 + v4 + v5 + v6, v4 + v5 + v6 + v7, v5 + v6 + v7, v6 + v7, v7] := by
  rw [Nat.mod_eq_of_lt (by simp only [glue]; omega)]; simp only [glue]; omega
 have q3 : glue [v0 + v1 + v2 + v3, v1 + v2 + v3 + v4, v2 + v3 + v4 + v5, v3 + v4 + v5 + v6, v4 + v5 + v6 + v7, v5 + v6 + v7, v6 + v7, v7] / 4294967296 = glue [v4 + v5 + v6 + v7, v5 + v6 + v7, v6 + v7, v7] := by
  simp only [glue]; omega
 have e3 : ((glue [v0 + v1 + v2 + v3, v1 + v2 + v3 + v4, v2 + v3 + v4 + v5, v3 + v4 + v5 + v6, v4 + v5 + v6 + v7, v5 + v6 + v7, v6 + v7, v7] + glue [v4 + v5 + v6 + v7, v5 + v6 + v7, v6 + v7, v7]) % 18446744073709551616) % 128 = v0 + v1 + v2 + v3 + v4 + v5 + v6 + v7 := by
  rw [Nat.mod_eq_of_lt (b := 18446744073709551616) (by clear q1 e1 q2 e2 q3; simp only [glue]; omega)]
  clear q1 e1 q2 e2 q3
  simp only [glue]
  omega
 unfold tops
 simp only [q1, e1, q2, e2, q3]
 exact e3
theorem countP_range64 (p : Nat → Bool) : (List.range 64).countP p = (List.range 8).countP (fun j => p j) + (List.range 8).countP (fun j => p (j + 8)) + (List.range 8).countP (fun j => p (j + 16)) + (List.range 8).countP (fun j => p (j + 24)) + (List.range 8).countP (fun j => p (j + 32)) + (List.range 8).countP (fun j => p (j + 40)) + (List.range 8).countP (fun j => p (j + 48)) + (List.range 8).countP (fun j => p (j + 56)) := by
 have e : List.range 64 = List.range 8 ++ (List.range 8).map (· + 8) ++ (List.range 8).map (· + 16) ++ (List.range 8).map (· + 24) ++ (List.range 8).map (· + 32) ++ (List.range 8).map (· + 40) ++ (List.range 8).map (· + 48) ++ (List.range 8).map (· + 56) := by decide
 rw [e]
 simp only [List.countP_append, List.countP_map]
 rfl
theorem byte_bits (m k : Nat) : (List.range 8).countP (fun j => m.testBit (j + k)) = (List.range 8).countP (fun j => (m / 2 ^ k % 256).testBit j) := by
 apply List.countP_congr
 intro j hj
 rw [List.mem_range] at hj
 rw [show (256 : Nat) = 2 ^ 8 from rfl, Nat.testBit_mod_two_pow, Nat.testBit_div_two_pow]
 simp [hj]
theorem popN_swar (m : Nat) (h : m < 18446744073709551616) : tops (eights (fours (pairs m))) = popN m := by
 have hp : popN m = (List.range 64).countP (fun j => m.testBit j) := by
  unfold popN pos; rw [List.countP_eq_length_filter]
 have e0 := byte_bits m 0
 have e1 := byte_bits m 8
 have e2 := byte_bits m 16
 have e3 := byte_bits m 24
 have e4 := byte_bits m 32
 have e5 := byte_bits m 40
 have e6 := byte_bits m 48
 have e7 := byte_bits m 56
 simp only [Nat.add_zero, Nat.pow_zero, Nat.div_one] at e0
 rw [show (2 : Nat) ^ 8 = 256 from rfl] at e1
 rw [show (2 : Nat) ^ 16 = 65536 from rfl] at e2
 rw [show (2 : Nat) ^ 24 = 16777216 from rfl] at e3
 rw [show (2 : Nat) ^ 32 = 4294967296 from rfl] at e4
 rw [show (2 : Nat) ^ 40 = 1099511627776 from rfl] at e5
 rw [show (2 : Nat) ^ 48 = 281474976710656 from rfl] at e6
 rw [show (2 : Nat) ^ 56 = 72057594037927936 from rfl] at e7
 rw [hp, countP_range64, e0, e1, e2, e3, e4, e5, e6, e7]
 have hg := glue_bytes m h
 rw [show pairs m = pairs (glue (bytes m)) by rw [hg], pairs_eq _ rfl (bytes_lt m), fours_eq _ (by simp [bytes]) (by
  intro r hr
  obtain ⟨x, hx, rfl⟩ := List.mem_map.1 hr
  exact s1_lt x (bytes_lt m x hx))]
 simp only [bytes, List.map_cons, List.map_nil]
 have q0 := s2_two (m % 256) (by omega)
 have q1 := s2_two (m / 256 % 256) (by omega)
 have q2 := s2_two (m / 65536 % 256) (by omega)
 have q3 := s2_two (m / 16777216 % 256) (by omega)
 have q4 := s2_two (m / 4294967296 % 256) (by omega)
 have q5 := s2_two (m / 1099511627776 % 256) (by omega)
 have q6 := s2_two (m / 281474976710656 % 256) (by omega)
 have q7 := s2_two (m / 72057594037927936 % 256) (by omega)
 have g : ∀ x : Nat, x = 16 * (x / 16) + x % 16 := fun x => by omega
 rw [g (s2 (s1 (m % 256))), g (s2 (s1 (m / 256 % 256))), g (s2 (s1 (m / 65536 % 256))), g (s2 (s1 (m / 16777216 % 256))), g (s2 (s1 (m / 4294967296 % 256))), g (s2 (s1 (m / 1099511627776 % 256))), g (s2 (s1 (m / 281474976710656 % 256))), g (s2 (s1 (m / 72057594037927936 % 256)))]
 rw [eights_eq _ _ _ _ _ _ _ _ _ _ _ _ _ _ _ _ q0.2.1 q1.2.1 q2.2.1 q3.2.1 q4.2.1 q5.2.1 q6.2.1 q7.2.1 q0.1 q1.1 q2.1 q3.1 q4.1 q5.1 q6.1 q7.1,
  tops_eq _ _ _ _ _ _ _ _ (by omega) (by omega) (by omega) (by omega) (by omega) (by omega) (by omega) (by omega)]
 omega
theorem wrapN (x : Nat) : IntKind.u64.wrap (x : Int) = ((x % 18446744073709551616 : Nat) : Int) := by
 rw [IntKind.wrap_u64]; omega
theorem andN (x y : Nat) (hx : x < 18446744073709551616) (hy : y < 18446744073709551616) : Go.bits .and .u64 (x : Int) (y : Int) = ((x &&& y : Nat) : Int) := bits_and_u64_nat x y hx hy
theorem and_le (x y : Nat) : x &&& y ≤ y := Nat.and_le_right
end Go.Proofs.Ytckhjehibjdjdaa.Bits
namespace Go.Proofs.Ytckhjehibjdjdaa.P
open Go.RowKit Go.Shelf Go.Proofs.YtckhjehibjdjdaaW.PrintWords Go.Proofs.YtckhjehibjdjdaaW.PrintLast Go.Proofs.YtckhjehibjdjdaaW.PrintMore
open Go.Proofs.Ytckhjehibjdjdaa.Bits Go.Proofs.Ytckhjehibjdjdaa.RF
attribute [local go_sem] max2_int min2_int max_two min_two max_three min_three max_four min_four
attribute [local go_sem] Oper.semAt_some
set_option linter.unusedVariables false
set_option linter.unusedSimpArgs false
theorem and127 (x : Nat) (h : x < 18446744073709551616) : Go.bits .and .i64 (wrap64 (x : Int)) 127 = ((x % 128 : Nat) : Int) := by
 have h1 : (BitVec.ofInt 64 (wrap64 (x : Int))).toNat = x := by
  rw [BitVec.toNat_ofInt]
  unfold wrap64
  omega
 have h2 : (BitVec.ofInt 64 (127 : Int)).toNat = 127 := by decide
 show IntKind.i64.wrap ((BitVec.ofInt 64 (wrap64 (x : Int)) &&& BitVec.ofInt 64 (127 : Int)).toNat : Int) = _
 rw [BitVec.toNat_and, h1, h2, show (127 : Nat) = 2 ^ 7 - 1 from rfl, Nat.and_two_pow_sub_one_eq_mod, IntKind.wrap_i64]
 omega
theorem ones_int (m : Nat) (hm : m < 18446744073709551616) (a b c d e f : Int)
  (ha : a = IntKind.u64.wrap (Go.bits .and .u64 ((m : Int) / 2) 6148914691236517205 + Go.bits .and .u64 (m : Int) 6148914691236517205))
  (hb : b = IntKind.u64.wrap (Go.bits .and .u64 (a / 4) 3689348814741910323 + Go.bits .and .u64 a 3689348814741910323))
  (hc : c = Go.bits .and .u64 (IntKind.u64.wrap (b / 16 + b)) 1085102592571150095)
  (hd : d = IntKind.u64.wrap (c + c / 256)) (he : e = IntKind.u64.wrap (d + d / 65536)) (hf : f = IntKind.u64.wrap (e + e / 4294967296)) :
  Go.bits .and .i64 (wrap64 f) 127 = popI (m : Int) := by
 have A : a = ((pairs m : Nat) : Int) := by
  rw [ha, show (m : Int) / 2 = ((m / 2 : Nat) : Int) by omega, show (6148914691236517205 : Int) = ((6148914691236517205 : Nat) : Int) from rfl, andN _ _ (by omega) (by omega), andN _ _ hm (by omega), ← Int.natCast_add, wrapN]
  have := and_le (m / 2) 6148914691236517205
  have := and_le m 6148914691236517205
  unfold pairs
  omega
 have pl : pairs m < 18446744073709551616 := by
  have := and_le (m / 2) 6148914691236517205
  have := and_le m 6148914691236517205
  unfold pairs
  omega
 have B : b = ((fours (pairs m) : Nat) : Int) := by
  rw [hb, A, show ((pairs m : Nat) : Int) / 4 = ((pairs m / 4 : Nat) : Int) by omega, show (3689348814741910323 : Int) = ((3689348814741910323 : Nat) : Int) from rfl, andN _ _ (by omega) (by omega), andN _ _ pl (by omega), ← Int.natCast_add, wrapN]
  have := and_le (pairs m / 4) 3689348814741910323
  have := and_le (pairs m) 3689348814741910323
  unfold fours
  omega
 have C : c = ((eights (fours (pairs m)) : Nat) : Int) := by
  rw [hc, B, show ((fours (pairs m) : Nat) : Int) / 16 + ((fours (pairs m) : Nat) : Int) = ((fours (pairs m) / 16 + fours (pairs m) : Nat) : Int) by omega, wrapN, show (1085102592571150095 : Int) = ((1085102592571150095 : Nat) : Int) from rfl, andN _ _ (by omega) (by omega)]
  rfl
 generalize hx : eights (fours (pairs m)) = x at C
 have D : d = (((x + x / 256) % 18446744073709551616 : Nat) : Int) := by
  rw [hd, C, show (x : Int) + (x : Int) / 256 = ((x + x / 256 : Nat) : Int) by omega, wrapN]
 generalize hy : (x + x / 256) % 18446744073709551616 = y at D
 have E : e = (((y + y / 65536) % 18446744073709551616 : Nat) : Int) := by
  rw [he, D, show (y : Int) + (y : Int) / 65536 = ((y + y / 65536 : Nat) : Int) by omega, wrapN]
 generalize hz : (y + y / 65536) % 18446744073709551616 = z at E
 have F : f = (((z + z / 4294967296) % 18446744073709551616 : Nat) : Int) := by
  rw [hf, E, show (z : Int) + (z : Int) / 4294967296 = ((z + z / 4294967296 : Nat) : Int) by omega, wrapN]
 rw [F, and127 _ (by omega)]
 unfold popI
 rw [Int.toNat_natCast, ← popN_swar m hm, hx]
 unfold tops
 simp only [hy, hz]
set_option maxHeartbeats 2000000 in
set_option maxRecDepth 100000 in
theorem ones_any (m : Nat) (hm : m < 2 ^ 64) (w : World) : Calls Try.prog 105 #[.int .u64 (m : Int)] w fun e w' => e = .returned (.int .i64 (popI (m : Int))) ∧ w' = w := by
 have hu49 := Try.underlying49
 have H := fun v (h : v = popI (m : Int)) => (congrArg (fun v => Ending.returned (.int .i64 v)) h)
 go_enter Try.func105, Try.ntmps105
 go_wp2
 go_ret
 refine ⟨H _ (ones_int m hm _ _ _ _ _ _ rfl rfl rfl rfl rfl rfl), rfl⟩
theorem count_any (m : Int) (h0 : 0 ≤ m) (h1 : m < 18446744073709551616) (w : World) : Calls Try.prog 75 #[.int .u64 m] w fun e w' => e = .returned (.int .i64 (popI m)) ∧ w' = w := by
 have hu49 := Try.underlying49
 obtain ⟨m, rfl⟩ := Int.eq_ofNat_of_zero_le h0
 have H := Aside0.mk (fun w => ones_any m (by omega) w)
 clear h0 h1
 go_enter Try.func75, Try.ntmps75
 go_wp2_with (go_at_call 105; refine (H.out _).mono ?_; rintro e w' ⟨rfl, rfl⟩)
 go_ret
 exact ⟨rfl, rfl⟩
end Go.Proofs.Ytckhjehibjdjdaa.P
