/- PromiseKeeps: part 4 of the walk and of the plain law that it comes to. No condition. -/
import Derived.Test.YtckhjehibjdjdaaZPromiseKeeps3
import Derived.ArgAppend
import Derived.Below
import Derived.BigQuiet
import Derived.BigRegion
import Derived.Carry
import Derived.Deep.AppendLies
import Derived.Deep.CutBlock
import Derived.Deep.DeepCutAuto
import Derived.Deep.Draws
import Derived.Deep.LoopGhost
import Derived.Deep.OwnRows
import Derived.Deep.QuietTactic
import Derived.Deep.RegionHeld3
import Derived.Deep.Slices
import Derived.DeepKeys3
import Derived.KernelRfl
import Derived.Laws.Bits64
import Derived.Laws.Bits64b
import Derived.Laws.BitsLemmas
import Derived.Laws.BytesArg
import Derived.Laws.IdiomCopy
import Derived.Laws.MakeOwn
import Derived.Laws.OwnMore
import Derived.Laws.Rows
import Derived.Laws.Slices
import Derived.Lib.AppendStr
import Derived.Lib.ConvBytes
import Derived.Lib.SliceRun
import Derived.LoopIn
import Derived.LoopN
import Derived.LoopNIn
import Derived.Maps.AppendAt
import Derived.Maps.Keyed
import Derived.Maps.Own
import Derived.Maps.OwnOps
import Derived.Maps.OwnSet
import Derived.Maps.Views
import Derived.OrdersHeld
import Derived.OwnWalk
import Derived.OwnWalkIn
import Derived.ProofKit
import Derived.RangeFuncBound
import Derived.RangeFuncBox
import Derived.RangeFuncCalls
import Derived.RangeFuncFrom
import Derived.RangeFuncLeaves
import Derived.RowKit
import Derived.RowKit3
import Derived.Shelf.Abstract
import Derived.Shelf.RegionOpen
import Derived.StillTailTactics
import Derived.Tactics
import Derived.TacticsInMore
import Derived.WalkKit
import Derived.WideLaws
namespace Go.Proofs.Ytckhjehibjdjdaa.P
open Go.RowKit Go.Proofs.YtckhjehibjdjdaaW.PrintWords Go.Proofs.YtckhjehibjdjdaaW.PrintLast Go.Proofs.YtckhjehibjdjdaaW.PrintMore
attribute [local go_sem] max2_int min2_int max_two min_two max_three min_three max_four min_four
set_option linter.unusedVariables false
set_option linter.unusedSimpArgs false
def ensemblelaw12_awake.f  : Option (Bool) := (some (([(⟨0, 0, 7, false, (([(⟨(⟨0, 0⟩ : S48), 14, 0⟩ : S52)] : List (S52)))⟩ : S41)] : List (S41)) : List (S41))).bind fun y105 => ((promise_Earliest.f 3 (([(⟨(⟨0, 0⟩ : S48), 1, 0⟩ : S51)] : List (S51))) 9 0 y105 0 2 1 0 1 2).bind fun bt111 => ((promise_Earliest.f 3 (([(⟨(⟨0, 0⟩ : S48), 1, 0⟩ : S51)] : List (S51))) 9 0 y105 0 1 1 0 1 2).bind fun bt116 => (if bt111.1 = 7 then (if bt116.1 = 3 then (if bt111.2 = 0 then (some (bt116.2 == 0)) else (some false)) else (some false)) else (some false))))
set_option maxHeartbeats 8000000 in
set_option maxRecDepth 100000 in
theorem ensemblelaw12_awake.calls  (r : Bool) (w : World) (h : ensemblelaw12_awake.f  = some r) :
  Calls Try.prog 25 #[] w fun e w' => e = .returned (.bool r) ∧ Below w.heap.size w w' := by
 have hu27 := Try.underlying27
 have hu29 := Try.underlying29
 have hu52 := Try.underlying52
 have hu41 := Try.underlying41
 have hu51 := Try.underlying51
 have hu24 := Try.underlying24
 have HB := Aside0.mk (Below.refl w.heap.size w)
 have H : ((some (([(⟨0, 0, 7, false, (([(⟨(⟨0, 0⟩ : S48), 14, 0⟩ : S52)] : List (S52)))⟩ : S41)] : List (S41)) : List (S41))).bind fun y105 => ((promise_Earliest.f 3 (([(⟨(⟨0, 0⟩ : S48), 1, 0⟩ : S51)] : List (S51))) 9 0 y105 0 2 1 0 1 2).bind fun bt111 => ((promise_Earliest.f 3 (([(⟨(⟨0, 0⟩ : S48), 1, 0⟩ : S51)] : List (S51))) 9 0 y105 0 1 1 0 1 2).bind fun bt116 => (if bt111.1 = 7 then (if bt116.1 = 3 then (if bt111.2 = 0 then (some (bt116.2 == 0)) else (some false)) else (some false)) else (some false))))) = some r := h
 clear h
 obtain ⟨y102, hy102⟩ : ∃ y_ : List (S52), y_ = (([(⟨(⟨0, 0⟩ : S48), 14, 0⟩ : S52)] : List (S52))) := ⟨_, rfl⟩
 replace H : ((some (([(⟨0, 0, 7, false, y102⟩ : S41)] : List (S41)) : List (S41))).bind fun y105 => ((promise_Earliest.f 3 (([(⟨(⟨0, 0⟩ : S48), 1, 0⟩ : S51)] : List (S51))) 9 0 y105 0 2 1 0 1 2).bind fun bt111 => ((promise_Earliest.f 3 (([(⟨(⟨0, 0⟩ : S48), 1, 0⟩ : S51)] : List (S51))) 9 0 y105 0 1 1 0 1 2).bind fun bt116 => (if bt111.1 = 7 then (if bt116.1 = 3 then (if bt111.2 = 0 then (some (bt116.2 == 0)) else (some false)) else (some false)) else (some false))))) = some r := by first | (rw [hy102]; with_reducible exact H) | (have H2_ := (Option.bind_some _ _).symm.trans H; rw [hy102]; with_reducible exact H2_) | (have H2_ := (Option.bind_some _ _).symm.trans H; with_reducible exact H2_) | with_reducible exact H | (rw [hy102]; exact H) | exact H
 have Ny102 := Aside0.mk hy102
 clear hy102
 obtain ⟨y105, hy105⟩ : ∃ y_ : List (S41), y_ = (([(⟨0, 0, 7, false, y102⟩ : S41)] : List (S41))) := ⟨_, rfl⟩
 replace H : ((promise_Earliest.f 3 (([(⟨(⟨0, 0⟩ : S48), 1, 0⟩ : S51)] : List (S51))) 9 0 y105 0 2 1 0 1 2).bind fun bt111 => ((promise_Earliest.f 3 (([(⟨(⟨0, 0⟩ : S48), 1, 0⟩ : S51)] : List (S51))) 9 0 y105 0 1 1 0 1 2).bind fun bt116 => (if bt111.1 = 7 then (if bt116.1 = 3 then (if bt111.2 = 0 then (some (bt116.2 == 0)) else (some false)) else (some false)) else (some false)))) = some r := by first | (rw [hy105]; with_reducible exact H) | (have H2_ := (Option.bind_some _ _).symm.trans H; rw [hy105]; with_reducible exact H2_) | (have H2_ := (Option.bind_some _ _).symm.trans H; with_reducible exact H2_) | with_reducible exact H | (rw [hy105]; exact H) | exact H
 have Ny105 := Aside0.mk hy105
 clear hy105
 obtain ⟨y108, hy108⟩ : ∃ y_ : List (S51), y_ = (([(⟨(⟨0, 0⟩ : S48), 1, 0⟩ : S51)] : List (S51))) := ⟨_, rfl⟩
 replace H : ((promise_Earliest.f 3 y108 9 0 y105 0 2 1 0 1 2).bind fun bt111 => ((promise_Earliest.f 3 (([(⟨(⟨0, 0⟩ : S48), 1, 0⟩ : S51)] : List (S51))) 9 0 y105 0 1 1 0 1 2).bind fun bt116 => (if bt111.1 = 7 then (if bt116.1 = 3 then (if bt111.2 = 0 then (some (bt116.2 == 0)) else (some false)) else (some false)) else (some false)))) = some r := by first | (rw [hy108]; with_reducible exact H) | (have H2_ := (Option.bind_some _ _).symm.trans H; rw [hy108]; with_reducible exact H2_) | (have H2_ := (Option.bind_some _ _).symm.trans H; with_reducible exact H2_) | with_reducible exact H | (rw [hy108]; exact H) | exact H
 have Ny108 := Aside0.mk hy108
 clear hy108
 replace H := Option.bind_eq_some_iff.mp H
 obtain ⟨⟨t111, t112⟩, A10, H⟩ := H
 replace H : ((promise_Earliest.f 3 (([(⟨(⟨0, 0⟩ : S48), 1, 0⟩ : S51)] : List (S51))) 9 0 y105 0 1 1 0 1 2).bind fun bt116 => (if t111 = 7 then (if bt116.1 = 3 then (if t112 = 0 then (some (bt116.2 == 0)) else (some false)) else (some false)) else (some false))) = some r := H
 have A1 := Aside0.mk A10
 clear A10
 obtain ⟨y113, hy113⟩ : ∃ y_ : List (S51), y_ = (([(⟨(⟨0, 0⟩ : S48), 1, 0⟩ : S51)] : List (S51))) := ⟨_, rfl⟩
 replace H : ((promise_Earliest.f 3 y113 9 0 y105 0 1 1 0 1 2).bind fun bt116 => (if t111 = 7 then (if bt116.1 = 3 then (if t112 = 0 then (some (bt116.2 == 0)) else (some false)) else (some false)) else (some false))) = some r := by first | (rw [hy113]; with_reducible exact H) | (have H2_ := (Option.bind_some _ _).symm.trans H; rw [hy113]; with_reducible exact H2_) | (have H2_ := (Option.bind_some _ _).symm.trans H; with_reducible exact H2_) | with_reducible exact H | (rw [hy113]; exact H) | exact H
 have Ny113 := Aside0.mk hy113
 clear hy113
 replace H := Option.bind_eq_some_iff.mp H
 obtain ⟨⟨t116, t117⟩, A20, H⟩ := H
 replace H : (if t111 = 7 then (if t116 = 3 then (if t112 = 0 then (some (t117 == 0)) else (some false)) else (some false)) else (some false)) = some r := H
 have A2 := Aside0.mk A20
 clear A20
 by_cases c3 : t111 = 7
 ·rw [if_pos c3] at H
  have c3b0 : (t111 == 7) = true := beq_iff_eq.mpr c3
  have c3b1 : (t111 != 7) = false := bne_eq_false_iff_eq.mpr c3
  clear c3
  by_cases c4 : t116 = 3
  ·rw [if_pos c4] at H
   have c4b0 : (t116 == 3) = true := beq_iff_eq.mpr c4
   have c4b1 : (t116 != 3) = false := bne_eq_false_iff_eq.mpr c4
   clear c4
   by_cases c5 : t112 = 0
   ·rw [if_pos c5] at H
    have c5b0 : (t112 == 0) = true := beq_iff_eq.mpr c5
    have c5b1 : (t112 != 0) = false := bne_eq_false_iff_eq.mpr c5
    clear c5
    obtain rfl := Option.some.inj H
    go_enter Try.func25, Try.ntmps25
    go_wp2_with (first | ((with_reducible refine gate_dst (N := 1) rfl ?_); refine bx 1 #[.int .i64 0, .int .i64 0, .int .i64 0, .int .i64 0, .int .i64 0, .int .i64 0] 29 ?_; intro gb101 hg w6 hbox hb; have n0_ := Aside0.mk (below_step Z0 hb); have n1_ := Aside0.mk (hbox); have n2_ := Aside0.mk ((by rw [hg]; exact (below_size Z0) : w.heap.size ≤ gb101)); have n3_ := Aside0.mk ((by rw [hg]; exact (below_size Z0) : w.heap.size ≤ gb101)); clear HB; have HB := n0_; have BK101 := n1_; have GW101 := n2_; have GE101 := n3_; clear n0_ n1_ n2_ n3_; clear hb hbox hg; have hcz7_0 : w6.cell? ⟨gb101, 0, none⟩ = some (.int .i64 0) := (blk_cell BK101.out 0).trans rfl; have hcz7_1 : w6.cell? ⟨gb101, 1, none⟩ = some (.int .i64 0) := (blk_cell BK101.out 1).trans rfl; have hcz7_2 : w6.cell? ⟨gb101, 2, none⟩ = some (.int .i64 0) := (blk_cell BK101.out 2).trans rfl; have hcz7_3 : w6.cell? ⟨gb101, 3, none⟩ = some (.int .i64 0) := (blk_cell BK101.out 3).trans rfl; have hcz7_4 : w6.cell? ⟨gb101, 4, none⟩ = some (.int .i64 0) := (blk_cell BK101.out 4).trans rfl; have hcz7_5 : w6.cell? ⟨gb101, 5, none⟩ = some (.int .i64 0) := (blk_cell BK101.out 5).trans rfl; have hfz7_0 := blk_frozen BK101.out 0; have hfz7_1 := blk_frozen BK101.out 1; have hfz7_2 := blk_frozen BK101.out 2; have hfz7_3 := blk_frozen BK101.out 3; have hfz7_4 := blk_frozen BK101.out 4; have hfz7_5 := blk_frozen BK101.out 5) | ((with_reducible refine gate_dst (N := 10) rfl ?_); refine Kd.R_lit k52 _ 52 ?hg (N := 10) ?hd (xs := ([(⟨(⟨0, 0⟩ : S48), 14, 0⟩ : S52)] : List (S52))) (inner := [.int .i64 0, .int .i64 0, .int .u64 14, .int .i64 0]) (ok := fun _ => True) (okp := fun _ => True) ?hr ?hp (fun _ hk => hk) trivial (Below.refl _ _) (Nat.le_refl _) (by simp) ?_; (case hd => rfl); (case hg => rfl); (case hr => first | (go_simp; done) | (go_simp; rfl)); (case hp => exact (Reps.c4 (show Kd.M k52 _ _ _ (⟨(⟨0, 0⟩ : S48), 14, 0⟩ : S52) [.int .i64 0, .int .i64 0, .int .u64 14, .int .i64 0] from (k52_mkM _ _ _ (⟨(⟨0, 0⟩ : S48), 14, 0⟩ : S52) )) (Reps.none _ _))); intro v103 w8 ho9 hb hg_ hnew_; clear hg_ hnew_; (first | rw [← Ny102.out] at ho9 | (simp only [Int.reduceToNat] at ho9; rw [← Ny102.out] at ho9)); have n0_ := Aside0.mk (Kd.R_lower ho9 (below_size (by repeat (first | (with_reducible first | exact HB.out | apply below_alloc | apply pw_below_drewN | apply below_drew1 | refine below_set ?_ GE101.out) | exact HB.out)))); have n1_ := Aside0.mk (blk_below (g := gb101) (o := .cells #[.int .i64 0, .int .i64 2, .int .i64 1, .int .i64 0, .int .i64 1, .int .i64 2] 29 (0, 0)) (by (with_reducible repeat (first | refine blk_drewN ?_ _ | refine blk_drew ?_ | refine blk_alloc ?_ _)); refine blk_put (cs := #[.int .i64 0, .int .i64 2, .int .i64 1, .int .i64 0, .int .i64 1, .int .i64 0]) ?_ 5 _ rfl; (with_reducible repeat (first | refine blk_drewN ?_ _ | refine blk_drew ?_ | refine blk_alloc ?_ _)); refine blk_put (cs := #[.int .i64 0, .int .i64 2, .int .i64 1, .int .i64 0, .int .i64 0, .int .i64 0]) ?_ 4 _ rfl; (with_reducible repeat (first | refine blk_drewN ?_ _ | refine blk_drew ?_ | refine blk_alloc ?_ _)); refine blk_put (cs := #[.int .i64 0, .int .i64 2, .int .i64 1, .int .i64 0, .int .i64 0, .int .i64 0]) ?_ 3 _ rfl; (with_reducible repeat (first | refine blk_drewN ?_ _ | refine blk_drew ?_ | refine blk_alloc ?_ _)); refine blk_put (cs := #[.int .i64 0, .int .i64 2, .int .i64 0, .int .i64 0, .int .i64 0, .int .i64 0]) ?_ 2 _ rfl; (with_reducible repeat (first | refine blk_drewN ?_ _ | refine blk_drew ?_ | refine blk_alloc ?_ _)); refine blk_put (cs := #[.int .i64 0, .int .i64 0, .int .i64 0, .int .i64 0, .int .i64 0, .int .i64 0]) ?_ 1 _ rfl; (with_reducible repeat (first | refine blk_drewN ?_ _ | refine blk_drew ?_ | refine blk_alloc ?_ _)); refine blk_put (cs := #[.int .i64 0, .int .i64 0, .int .i64 0, .int .i64 0, .int .i64 0, .int .i64 0]) ?_ 0 _ rfl; (with_reducible repeat (first | refine blk_drewN ?_ _ | refine blk_drew ?_ | refine blk_alloc ?_ _)); exact BK101.out) hb); have n2_ := Aside0.mk (below_step (by repeat (first | (with_reducible first | exact HB.out | apply below_alloc | apply pw_below_drewN | apply below_drew1 | refine below_set ?_ GE101.out) | exact HB.out)) hb); clear BK101; clear HB; have HO104 := n0_; have BK101 := n1_; have HB := n2_; clear n0_ n1_ n2_; clear hb ho9; obtain ⟨Ao10, co10, eo10⟩ := Kd.R_slice HO104.out; subst eo10) | ((with_reducible refine gate_dst (N := 12) rfl ?_); refine Kd.N_lit k41 _ 41 ?hg (N' := 12) ?hd (xs := ([(⟨0, 0, 7, false, y102⟩ : S41)] : List (S41))) (inner := [.int .i64 0, .int .i64 0, .int .i64 7, .bool false, .slice Ao10 y102.length co10]) (ok := (fun k_ => k_ ≠ gb101)) (okp := (fun k_ => k_ ≠ gb101)) ?hr ?hp (fun _ hk => hk) ((show ∀ k_, w8.heap.size ≤ k_ → (fun k_ => k_ ≠ gb101) k_ from fun k_ hk => Kd.freshB (g := gb101) (o := .cells #[.int .i64 0, .int .i64 2, .int .i64 1, .int .i64 0, .int .i64 1, .int .i64 2] 29 (0, 0)) (by (with_reducible repeat (first | refine blk_drewN ?_ _ | refine blk_drew ?_ | refine blk_alloc ?_ _)); exact BK101.out) k_ hk) _ (Nat.le_refl _)) (Below.refl _ _) (Nat.le_refl _) (by simp) ?_; (case hd => rfl); (case hg => rfl); (case hr => first | (go_simp; done) | (go_simp; rfl)); (case hp => exact (Reps.c5 (show Kd.FK k41 _ _ (⟨0, 0, 7, false, y102⟩ : S41) [.int .i64 0, .int .i64 0, .int .i64 7, .bool false, .slice Ao10 y102.length co10] from (k41_mkF _ _ (⟨0, 0, 7, false, y102⟩ : S41) (Kd.R_reads' (Kd.R_mono (ok' := (fun k_ => k_ ≠ gb101)) (Kd.R_types (HO104.out) BK101.out (by decide)) (fun k_ hk => hk.2))).2.1 (Kd.R_F (Kd.R_mono (ok' := (fun k_ => k_ ≠ gb101)) (Kd.R_types (HO104.out) BK101.out (by decide)) (fun k_ hk => hk.2))))) (Reps.none _ _))); intro v106 w11 ho12 hb hg_ hnew_; clear hg_ hnew_; (first | rw [← Ny105.out] at ho12 | (simp only [Int.reduceToNat] at ho12; rw [← Ny105.out] at ho12)); have n0_ := Aside0.mk (Kd.N_lower ho12 (below_size (by repeat (first | (with_reducible first | exact HB.out | apply below_alloc | apply pw_below_drewN | apply below_drew1 | refine below_set ?_ GE101.out) | exact HB.out)))); have n1_ := Aside0.mk (blk_below (g := gb101) (o := .cells #[.int .i64 0, .int .i64 2, .int .i64 1, .int .i64 0, .int .i64 1, .int .i64 2] 29 (0, 0)) (by (with_reducible repeat (first | refine blk_drewN ?_ _ | refine blk_drew ?_ | refine blk_alloc ?_ _)); exact BK101.out) hb); have n2_ := Aside0.mk (below_step (by repeat (first | (with_reducible first | exact HB.out | apply below_alloc | apply pw_below_drewN | apply below_drew1 | refine below_set ?_ GE101.out) | exact HB.out)) hb); clear BK101; clear HB; clear HO104; have HO107 := n0_; have BK101 := n1_; have HB := n2_; clear n0_ n1_ n2_; clear hb ho12) | ((with_reducible refine gate_dst (N := 15) rfl ?_); refine Kd.R_lit k51 _ 51 ?hg (N := 15) ?hd (xs := ([(⟨(⟨0, 0⟩ : S48), 1, 0⟩ : S51)] : List (S51))) (inner := [.int .i64 0, .int .i64 0, .int .u64 1, .int .i64 0]) (ok := fun _ => True) (okp := fun _ => True) ?hr ?hp (fun _ hk => hk) trivial (Below.refl _ _) (Nat.le_refl _) (by simp) ?_; (case hd => rfl); (case hg => rfl); (case hr => first | (go_simp; done) | (go_simp; rfl)); (case hp => exact (Reps.c4 (show Kd.M k51 _ _ _ (⟨(⟨0, 0⟩ : S48), 1, 0⟩ : S51) [.int .i64 0, .int .i64 0, .int .u64 1, .int .i64 0] from (k51_mkM _ _ _ (⟨(⟨0, 0⟩ : S48), 1, 0⟩ : S51) )) (Reps.none _ _))); intro v109 w13 ho14 hb hg_ hnew_; clear hg_ hnew_; (first | rw [← Ny108.out] at ho14 | (simp only [Int.reduceToNat] at ho14; rw [← Ny108.out] at ho14)); have n0_ := Aside0.mk (Kd.N_elder' Z6 (Kd.R_base ho14) hb); have n1_ := Aside0.mk (Kd.R_lower ho14 (below_size (by repeat (first | (with_reducible first | exact HB.out | apply below_alloc | apply pw_below_drewN | apply below_drew1 | refine below_set ?_ GE101.out) | exact HB.out)))); have n2_ := Aside0.mk (blk_below (g := gb101) (o := .cells #[.int .i64 0, .int .i64 2, .int .i64 1, .int .i64 0, .int .i64 1, .int .i64 2] 29 (0, 0)) (by (with_reducible repeat (first | refine blk_drewN ?_ _ | refine blk_drew ?_ | refine blk_alloc ?_ _)); exact BK101.out) hb); have n3_ := Aside0.mk (below_step (by repeat (first | (with_reducible first | exact HB.out | apply below_alloc | apply pw_below_drewN | apply below_drew1 | refine below_set ?_ GE101.out) | exact HB.out)) hb); clear HO107; clear BK101; clear HB; have HO107 := n0_; have HO110 := n1_; have BK101 := n2_; have HB := n3_; clear n0_ n1_ n2_ n3_; clear hb ho14; have hcz15_0 : w13.cell? ⟨gb101, 0, none⟩ = some (.int .i64 0) := (blk_cell BK101.out 0).trans rfl; have hcz15_1 : w13.cell? ⟨gb101, 1, none⟩ = some (.int .i64 2) := (blk_cell BK101.out 1).trans rfl; have hcz15_2 : w13.cell? ⟨gb101, 2, none⟩ = some (.int .i64 1) := (blk_cell BK101.out 2).trans rfl; have hcz15_3 : w13.cell? ⟨gb101, 3, none⟩ = some (.int .i64 0) := (blk_cell BK101.out 3).trans rfl; have hcz15_4 : w13.cell? ⟨gb101, 4, none⟩ = some (.int .i64 1) := (blk_cell BK101.out 4).trans rfl; have hcz15_5 : w13.cell? ⟨gb101, 5, none⟩ = some (.int .i64 2) := (blk_cell BK101.out 5).trans rfl; have hfz15_0 := blk_frozen BK101.out 0; have hfz15_1 := blk_frozen BK101.out 1; have hfz15_2 := blk_frozen BK101.out 2; have hfz15_3 := blk_frozen BK101.out 3; have hfz15_4 := blk_frozen BK101.out 4; have hfz15_5 := blk_frozen BK101.out 5; obtain ⟨Ao16, co16, eo16⟩ := Kd.R_slice HO110.out; subst eo16; obtain ⟨Ao17, co17, eo17⟩ := Kd.N_slice HO107.out; subst eo17) | ((with_reducible refine gate_callee (f := 27) rfl ?_); refine goesL_ (some 19) rfl rfl Try.func27 (by kernel_rfl) rfl #[.int .i64 3, .slice Ao16 y108.length co16, .agg #[.int .i64 9, .int .i64 0], .slice Ao17 y105.length co17, .agg #[.int .i64 0, .int .i64 2, .int .i64 1, .int .i64 0, .int .i64 1, .int .i64 2]] rfl Z1 ?_; (with_reducible refine (promise_Earliest.calls 3 _ _ y108 9 0 _ _ y105 0 2 1 0 1 2 t111 t112 _ ?side1 ?side2 ?side3 ?side4 A1.out).mono ?_); (case side1 => repeat (first | exact (Kd.R_reads' HO110.out).2.2 | (with_reducible refine Kd.C_alloc ?_ _) | (with_reducible refine Kd.C_drewN ?_ _) | (with_reducible refine Kd.C_drew ?_))); (case side2 => exact (Kd.R_reads' HO110.out).2.1); (case side3 => repeat (first | exact (Kd.N_reads' HO107.out).2.2 | (with_reducible refine Kd.C_alloc ?_ _) | (with_reducible refine Kd.C_drewN ?_ _) | (with_reducible refine Kd.C_drew ?_))); (case side4 => exact (Kd.N_reads' HO107.out).2.1); rintro e w18 ⟨rfl, hb⟩; refine ⟨_, rfl, ?_⟩; have n0_ := Aside0.mk (Kd.N_below Z6 hb); have n1_ := Aside0.mk (Kd.R_below Z9 hb); have n2_ := Aside0.mk (blk_below (g := gb101) (o := .cells #[.int .i64 0, .int .i64 2, .int .i64 1, .int .i64 0, .int .i64 1, .int .i64 2] 29 (0, 0)) (by (with_reducible repeat (first | refine blk_drewN ?_ _ | refine blk_drew ?_ | refine blk_alloc ?_ _)); exact BK101.out) hb); have n3_ := Aside0.mk (below_step (by repeat (first | (with_reducible first | exact HB.out | apply below_alloc | apply pw_below_drewN | apply below_drew1 | refine below_set ?_ GE101.out) | exact HB.out)) hb); clear HO107; clear HO110; clear BK101; clear HB; have HO107 := n0_; have HO110 := n1_; have BK101 := n2_; have HB := n3_; clear n0_ n1_ n2_ n3_; (try clear hb); (try clear hb2); (try clear hk); (try clear hi); have hcz19_0 : w18.cell? ⟨gb101, 0, none⟩ = some (.int .i64 0) := (blk_cell BK101.out 0).trans rfl; have hcz19_1 : w18.cell? ⟨gb101, 1, none⟩ = some (.int .i64 2) := (blk_cell BK101.out 1).trans rfl; have hcz19_2 : w18.cell? ⟨gb101, 2, none⟩ = some (.int .i64 1) := (blk_cell BK101.out 2).trans rfl; have hcz19_3 : w18.cell? ⟨gb101, 3, none⟩ = some (.int .i64 0) := (blk_cell BK101.out 3).trans rfl; have hcz19_4 : w18.cell? ⟨gb101, 4, none⟩ = some (.int .i64 1) := (blk_cell BK101.out 4).trans rfl; have hcz19_5 : w18.cell? ⟨gb101, 5, none⟩ = some (.int .i64 2) := (blk_cell BK101.out 5).trans rfl; have hfz19_0 := blk_frozen BK101.out 0; have hfz19_1 := blk_frozen BK101.out 1; have hfz19_2 := blk_frozen BK101.out 2; have hfz19_3 := blk_frozen BK101.out 3; have hfz19_4 := blk_frozen BK101.out 4; have hfz19_5 := blk_frozen BK101.out 5) | ((with_reducible refine gate_dst (N := 25) rfl ?_); refine Kd.R_lit k51 _ 51 ?hg (N := 25) ?hd (xs := ([(⟨(⟨0, 0⟩ : S48), 1, 0⟩ : S51)] : List (S51))) (inner := [.int .i64 0, .int .i64 0, .int .u64 1, .int .i64 0]) (ok := fun _ => True) (okp := fun _ => True) ?hr ?hp (fun _ hk => hk) trivial (Below.refl _ _) (Nat.le_refl _) (by simp) ?_; (case hd => rfl); (case hg => rfl); (case hr => first | (go_simp; done) | (go_simp; rfl)); (case hp => exact (Reps.c4 (show Kd.M k51 _ _ _ (⟨(⟨0, 0⟩ : S48), 1, 0⟩ : S51) [.int .i64 0, .int .i64 0, .int .u64 1, .int .i64 0] from (k51_mkM _ _ _ (⟨(⟨0, 0⟩ : S48), 1, 0⟩ : S51) )) (Reps.none _ _))); intro v114 w20 ho21 hb hg_ hnew_; clear hg_ hnew_; (first | rw [← Ny113.out] at ho21 | (simp only [Int.reduceToNat] at ho21; rw [← Ny113.out] at ho21)); have n0_ := Aside0.mk (Kd.N_elder' Z8 (Kd.R_base ho21) hb); have n1_ := Aside0.mk (Kd.R_elder' Z5 (Kd.R_base ho21) hb); have n2_ := Aside0.mk (Kd.R_lower (Kd.R_new' ho21 (Kd.R_lt Z5)) (below_size (by repeat (first | (with_reducible first | exact HB.out | apply below_alloc | apply pw_below_drewN | apply below_drew1 | refine below_set ?_ GE101.out) | exact HB.out)))); have n3_ := Aside0.mk (blk_below (g := gb101) (o := .cells #[.int .i64 0, .int .i64 1, .int .i64 1, .int .i64 0, .int .i64 1, .int .i64 2] 29 (0, 0)) (by (with_reducible repeat (first | refine blk_drewN ?_ _ | refine blk_drew ?_ | refine blk_alloc ?_ _)); refine blk_put (cs := #[.int .i64 0, .int .i64 2, .int .i64 1, .int .i64 0, .int .i64 1, .int .i64 2]) ?_ 1 _ rfl; (with_reducible repeat (first | refine blk_drewN ?_ _ | refine blk_drew ?_ | refine blk_alloc ?_ _)); exact BK101.out) hb); have n4_ := Aside0.mk (below_step (by repeat (first | (with_reducible first | exact HB.out | apply below_alloc | apply pw_below_drewN | apply below_drew1 | refine below_set ?_ GE101.out) | exact HB.out)) hb); clear HO107; clear HO110; clear BK101; clear HB; have HO107 := n0_; have HO110 := n1_; have HO115 := n2_; have BK101 := n3_; have HB := n4_; clear n0_ n1_ n2_ n3_ n4_; clear hb ho21; have hcz22_0 : w20.cell? ⟨gb101, 0, none⟩ = some (.int .i64 0) := (blk_cell BK101.out 0).trans rfl; have hcz22_1 : w20.cell? ⟨gb101, 1, none⟩ = some (.int .i64 1) := (blk_cell BK101.out 1).trans rfl; have hcz22_2 : w20.cell? ⟨gb101, 2, none⟩ = some (.int .i64 1) := (blk_cell BK101.out 2).trans rfl; have hcz22_3 : w20.cell? ⟨gb101, 3, none⟩ = some (.int .i64 0) := (blk_cell BK101.out 3).trans rfl; have hcz22_4 : w20.cell? ⟨gb101, 4, none⟩ = some (.int .i64 1) := (blk_cell BK101.out 4).trans rfl; have hcz22_5 : w20.cell? ⟨gb101, 5, none⟩ = some (.int .i64 2) := (blk_cell BK101.out 5).trans rfl; have hfz22_0 := blk_frozen BK101.out 0; have hfz22_1 := blk_frozen BK101.out 1; have hfz22_2 := blk_frozen BK101.out 2; have hfz22_3 := blk_frozen BK101.out 3; have hfz22_4 := blk_frozen BK101.out 4; have hfz22_5 := blk_frozen BK101.out 5; obtain ⟨Ao23, co23, eo23⟩ := Kd.R_slice HO115.out; subst eo23) | ((with_reducible refine gate_callee (f := 27) rfl ?_); refine goesL_ (some 29) rfl rfl Try.func27 (by kernel_rfl) rfl #[.int .i64 3, .slice Ao23 y113.length co23, .agg #[.int .i64 9, .int .i64 0], .slice Ao17 y105.length co17, .agg #[.int .i64 0, .int .i64 1, .int .i64 1, .int .i64 0, .int .i64 1, .int .i64 2]] rfl Z1 ?_; (with_reducible refine (promise_Earliest.calls 3 _ _ y113 9 0 _ _ y105 0 1 1 0 1 2 t116 t117 _ ?side1 ?side2 ?side3 ?side4 A2.out).mono ?_); (case side1 => repeat (first | exact (Kd.R_reads' HO115.out).2.2 | (with_reducible refine Kd.C_alloc ?_ _) | (with_reducible refine Kd.C_drewN ?_ _) | (with_reducible refine Kd.C_drew ?_))); (case side2 => exact (Kd.R_reads' HO115.out).2.1); (case side3 => repeat (first | exact (Kd.N_reads' HO107.out).2.2 | (with_reducible refine Kd.C_alloc ?_ _) | (with_reducible refine Kd.C_drewN ?_ _) | (with_reducible refine Kd.C_drew ?_))); (case side4 => exact (Kd.N_reads' HO107.out).2.1); rintro e w24 ⟨rfl, hb⟩; refine ⟨_, rfl, ?_⟩; have n0_ := Aside0.mk (Kd.N_below Z6 hb); have n1_ := Aside0.mk (Kd.R_below Z9 hb); have n2_ := Aside0.mk (Kd.R_below Z11 hb); have n3_ := Aside0.mk (blk_below (g := gb101) (o := .cells #[.int .i64 0, .int .i64 1, .int .i64 1, .int .i64 0, .int .i64 1, .int .i64 2] 29 (0, 0)) (by (with_reducible repeat (first | refine blk_drewN ?_ _ | refine blk_drew ?_ | refine blk_alloc ?_ _)); exact BK101.out) hb); have n4_ := Aside0.mk (below_step (by repeat (first | (with_reducible first | exact HB.out | apply below_alloc | apply pw_below_drewN | apply below_drew1 | refine below_set ?_ GE101.out) | exact HB.out)) hb); clear HO107; clear HO110; clear HO115; clear BK101; clear HB; have HO107 := n0_; have HO110 := n1_; have HO115 := n2_; have BK101 := n3_; have HB := n4_; clear n0_ n1_ n2_ n3_ n4_; (try clear hb); (try clear hb2); (try clear hk); (try clear hi)))
    go_ret
    exact ⟨by first | rfl | (simp [errW_none, errW_some] <;> rfl) | (simp [*, errW_none, errW_some] <;> rfl), by repeat (first | (with_reducible first | exact HB.out | apply below_alloc | apply pw_below_drewN | apply below_drew1 | refine below_set ?_ GE101.out) | exact HB.out)⟩
   ·rw [if_neg c5] at H
    have c5b0 : (t112 == 0) = false := beq_eq_false_iff_ne.mpr c5
    have c5b1 : (t112 != 0) = true := bne_iff_ne.mpr c5
    obtain rfl := Option.some.inj H
    go_enter Try.func25, Try.ntmps25
    go_wp2_with (first | ((with_reducible refine gate_dst (N := 1) rfl ?_); refine bx 1 #[.int .i64 0, .int .i64 0, .int .i64 0, .int .i64 0, .int .i64 0, .int .i64 0] 29 ?_; intro gb101 hg w25 hbox hb; have n0_ := Aside0.mk (below_step Z0 hb); have n1_ := Aside0.mk (hbox); have n2_ := Aside0.mk ((by rw [hg]; exact (below_size Z0) : w.heap.size ≤ gb101)); have n3_ := Aside0.mk ((by rw [hg]; exact (below_size Z0) : w.heap.size ≤ gb101)); clear HB; have HB := n0_; have BK101 := n1_; have GW101 := n2_; have GE101 := n3_; clear n0_ n1_ n2_ n3_; clear hb hbox hg; have hcz26_0 : w25.cell? ⟨gb101, 0, none⟩ = some (.int .i64 0) := (blk_cell BK101.out 0).trans rfl; have hcz26_1 : w25.cell? ⟨gb101, 1, none⟩ = some (.int .i64 0) := (blk_cell BK101.out 1).trans rfl; have hcz26_2 : w25.cell? ⟨gb101, 2, none⟩ = some (.int .i64 0) := (blk_cell BK101.out 2).trans rfl; have hcz26_3 : w25.cell? ⟨gb101, 3, none⟩ = some (.int .i64 0) := (blk_cell BK101.out 3).trans rfl; have hcz26_4 : w25.cell? ⟨gb101, 4, none⟩ = some (.int .i64 0) := (blk_cell BK101.out 4).trans rfl; have hcz26_5 : w25.cell? ⟨gb101, 5, none⟩ = some (.int .i64 0) := (blk_cell BK101.out 5).trans rfl; have hfz26_0 := blk_frozen BK101.out 0; have hfz26_1 := blk_frozen BK101.out 1; have hfz26_2 := blk_frozen BK101.out 2; have hfz26_3 := blk_frozen BK101.out 3; have hfz26_4 := blk_frozen BK101.out 4; have hfz26_5 := blk_frozen BK101.out 5) | ((with_reducible refine gate_dst (N := 10) rfl ?_); refine Kd.R_lit k52 _ 52 ?hg (N := 10) ?hd (xs := ([(⟨(⟨0, 0⟩ : S48), 14, 0⟩ : S52)] : List (S52))) (inner := [.int .i64 0, .int .i64 0, .int .u64 14, .int .i64 0]) (ok := fun _ => True) (okp := fun _ => True) ?hr ?hp (fun _ hk => hk) trivial (Below.refl _ _) (Nat.le_refl _) (by simp) ?_; (case hd => rfl); (case hg => rfl); (case hr => first | (go_simp; done) | (go_simp; rfl)); (case hp => exact (Reps.c4 (show Kd.M k52 _ _ _ (⟨(⟨0, 0⟩ : S48), 14, 0⟩ : S52) [.int .i64 0, .int .i64 0, .int .u64 14, .int .i64 0] from (k52_mkM _ _ _ (⟨(⟨0, 0⟩ : S48), 14, 0⟩ : S52) )) (Reps.none _ _))); intro v103 w27 ho28 hb hg_ hnew_; clear hg_ hnew_; (first | rw [← Ny102.out] at ho28 | (simp only [Int.reduceToNat] at ho28; rw [← Ny102.out] at ho28)); have n0_ := Aside0.mk (Kd.R_lower ho28 (below_size (by repeat (first | (with_reducible first | exact HB.out | apply below_alloc | apply pw_below_drewN | apply below_drew1 | refine below_set ?_ GE101.out) | exact HB.out)))); have n1_ := Aside0.mk (blk_below (g := gb101) (o := .cells #[.int .i64 0, .int .i64 2, .int .i64 1, .int .i64 0, .int .i64 1, .int .i64 2] 29 (0, 0)) (by (with_reducible repeat (first | refine blk_drewN ?_ _ | refine blk_drew ?_ | refine blk_alloc ?_ _)); refine blk_put (cs := #[.int .i64 0, .int .i64 2, .int .i64 1, .int .i64 0, .int .i64 1, .int .i64 0]) ?_ 5 _ rfl; (with_reducible repeat (first | refine blk_drewN ?_ _ | refine blk_drew ?_ | refine blk_alloc ?_ _)); refine blk_put (cs := #[.int .i64 0, .int .i64 2, .int .i64 1, .int .i64 0, .int .i64 0, .int .i64 0]) ?_ 4 _ rfl; (with_reducible repeat (first | refine blk_drewN ?_ _ | refine blk_drew ?_ | refine blk_alloc ?_ _)); refine blk_put (cs := #[.int .i64 0, .int .i64 2, .int .i64 1, .int .i64 0, .int .i64 0, .int .i64 0]) ?_ 3 _ rfl; (with_reducible repeat (first | refine blk_drewN ?_ _ | refine blk_drew ?_ | refine blk_alloc ?_ _)); refine blk_put (cs := #[.int .i64 0, .int .i64 2, .int .i64 0, .int .i64 0, .int .i64 0, .int .i64 0]) ?_ 2 _ rfl; (with_reducible repeat (first | refine blk_drewN ?_ _ | refine blk_drew ?_ | refine blk_alloc ?_ _)); refine blk_put (cs := #[.int .i64 0, .int .i64 0, .int .i64 0, .int .i64 0, .int .i64 0, .int .i64 0]) ?_ 1 _ rfl; (with_reducible repeat (first | refine blk_drewN ?_ _ | refine blk_drew ?_ | refine blk_alloc ?_ _)); refine blk_put (cs := #[.int .i64 0, .int .i64 0, .int .i64 0, .int .i64 0, .int .i64 0, .int .i64 0]) ?_ 0 _ rfl; (with_reducible repeat (first | refine blk_drewN ?_ _ | refine blk_drew ?_ | refine blk_alloc ?_ _)); exact BK101.out) hb); have n2_ := Aside0.mk (below_step (by repeat (first | (with_reducible first | exact HB.out | apply below_alloc | apply pw_below_drewN | apply below_drew1 | refine below_set ?_ GE101.out) | exact HB.out)) hb); clear BK101; clear HB; have HO104 := n0_; have BK101 := n1_; have HB := n2_; clear n0_ n1_ n2_; clear hb ho28; obtain ⟨Ao29, co29, eo29⟩ := Kd.R_slice HO104.out; subst eo29) | ((with_reducible refine gate_dst (N := 12) rfl ?_); refine Kd.N_lit k41 _ 41 ?hg (N' := 12) ?hd (xs := ([(⟨0, 0, 7, false, y102⟩ : S41)] : List (S41))) (inner := [.int .i64 0, .int .i64 0, .int .i64 7, .bool false, .slice Ao29 y102.length co29]) (ok := (fun k_ => k_ ≠ gb101)) (okp := (fun k_ => k_ ≠ gb101)) ?hr ?hp (fun _ hk => hk) ((show ∀ k_, w27.heap.size ≤ k_ → (fun k_ => k_ ≠ gb101) k_ from fun k_ hk => Kd.freshB (g := gb101) (o := .cells #[.int .i64 0, .int .i64 2, .int .i64 1, .int .i64 0, .int .i64 1, .int .i64 2] 29 (0, 0)) (by (with_reducible repeat (first | refine blk_drewN ?_ _ | refine blk_drew ?_ | refine blk_alloc ?_ _)); exact BK101.out) k_ hk) _ (Nat.le_refl _)) (Below.refl _ _) (Nat.le_refl _) (by simp) ?_; (case hd => rfl); (case hg => rfl); (case hr => first | (go_simp; done) | (go_simp; rfl)); (case hp => exact (Reps.c5 (show Kd.FK k41 _ _ (⟨0, 0, 7, false, y102⟩ : S41) [.int .i64 0, .int .i64 0, .int .i64 7, .bool false, .slice Ao29 y102.length co29] from (k41_mkF _ _ (⟨0, 0, 7, false, y102⟩ : S41) (Kd.R_reads' (Kd.R_mono (ok' := (fun k_ => k_ ≠ gb101)) (Kd.R_types (HO104.out) BK101.out (by decide)) (fun k_ hk => hk.2))).2.1 (Kd.R_F (Kd.R_mono (ok' := (fun k_ => k_ ≠ gb101)) (Kd.R_types (HO104.out) BK101.out (by decide)) (fun k_ hk => hk.2))))) (Reps.none _ _))); intro v106 w30 ho31 hb hg_ hnew_; clear hg_ hnew_; (first | rw [← Ny105.out] at ho31 | (simp only [Int.reduceToNat] at ho31; rw [← Ny105.out] at ho31)); have n0_ := Aside0.mk (Kd.N_lower ho31 (below_size (by repeat (first | (with_reducible first | exact HB.out | apply below_alloc | apply pw_below_drewN | apply below_drew1 | refine below_set ?_ GE101.out) | exact HB.out)))); have n1_ := Aside0.mk (blk_below (g := gb101) (o := .cells #[.int .i64 0, .int .i64 2, .int .i64 1, .int .i64 0, .int .i64 1, .int .i64 2] 29 (0, 0)) (by (with_reducible repeat (first | refine blk_drewN ?_ _ | refine blk_drew ?_ | refine blk_alloc ?_ _)); exact BK101.out) hb); have n2_ := Aside0.mk (below_step (by repeat (first | (with_reducible first | exact HB.out | apply below_alloc | apply pw_below_drewN | apply below_drew1 | refine below_set ?_ GE101.out) | exact HB.out)) hb); clear BK101; clear HB; clear HO104; have HO107 := n0_; have BK101 := n1_; have HB := n2_; clear n0_ n1_ n2_; clear hb ho31) | ((with_reducible refine gate_dst (N := 15) rfl ?_); refine Kd.R_lit k51 _ 51 ?hg (N := 15) ?hd (xs := ([(⟨(⟨0, 0⟩ : S48), 1, 0⟩ : S51)] : List (S51))) (inner := [.int .i64 0, .int .i64 0, .int .u64 1, .int .i64 0]) (ok := fun _ => True) (okp := fun _ => True) ?hr ?hp (fun _ hk => hk) trivial (Below.refl _ _) (Nat.le_refl _) (by simp) ?_; (case hd => rfl); (case hg => rfl); (case hr => first | (go_simp; done) | (go_simp; rfl)); (case hp => exact (Reps.c4 (show Kd.M k51 _ _ _ (⟨(⟨0, 0⟩ : S48), 1, 0⟩ : S51) [.int .i64 0, .int .i64 0, .int .u64 1, .int .i64 0] from (k51_mkM _ _ _ (⟨(⟨0, 0⟩ : S48), 1, 0⟩ : S51) )) (Reps.none _ _))); intro v109 w32 ho33 hb hg_ hnew_; clear hg_ hnew_; (first | rw [← Ny108.out] at ho33 | (simp only [Int.reduceToNat] at ho33; rw [← Ny108.out] at ho33)); have n0_ := Aside0.mk (Kd.N_elder' Z6 (Kd.R_base ho33) hb); have n1_ := Aside0.mk (Kd.R_lower ho33 (below_size (by repeat (first | (with_reducible first | exact HB.out | apply below_alloc | apply pw_below_drewN | apply below_drew1 | refine below_set ?_ GE101.out) | exact HB.out)))); have n2_ := Aside0.mk (blk_below (g := gb101) (o := .cells #[.int .i64 0, .int .i64 2, .int .i64 1, .int .i64 0, .int .i64 1, .int .i64 2] 29 (0, 0)) (by (with_reducible repeat (first | refine blk_drewN ?_ _ | refine blk_drew ?_ | refine blk_alloc ?_ _)); exact BK101.out) hb); have n3_ := Aside0.mk (below_step (by repeat (first | (with_reducible first | exact HB.out | apply below_alloc | apply pw_below_drewN | apply below_drew1 | refine below_set ?_ GE101.out) | exact HB.out)) hb); clear HO107; clear BK101; clear HB; have HO107 := n0_; have HO110 := n1_; have BK101 := n2_; have HB := n3_; clear n0_ n1_ n2_ n3_; clear hb ho33; have hcz34_0 : w32.cell? ⟨gb101, 0, none⟩ = some (.int .i64 0) := (blk_cell BK101.out 0).trans rfl; have hcz34_1 : w32.cell? ⟨gb101, 1, none⟩ = some (.int .i64 2) := (blk_cell BK101.out 1).trans rfl; have hcz34_2 : w32.cell? ⟨gb101, 2, none⟩ = some (.int .i64 1) := (blk_cell BK101.out 2).trans rfl; have hcz34_3 : w32.cell? ⟨gb101, 3, none⟩ = some (.int .i64 0) := (blk_cell BK101.out 3).trans rfl; have hcz34_4 : w32.cell? ⟨gb101, 4, none⟩ = some (.int .i64 1) := (blk_cell BK101.out 4).trans rfl; have hcz34_5 : w32.cell? ⟨gb101, 5, none⟩ = some (.int .i64 2) := (blk_cell BK101.out 5).trans rfl; have hfz34_0 := blk_frozen BK101.out 0; have hfz34_1 := blk_frozen BK101.out 1; have hfz34_2 := blk_frozen BK101.out 2; have hfz34_3 := blk_frozen BK101.out 3; have hfz34_4 := blk_frozen BK101.out 4; have hfz34_5 := blk_frozen BK101.out 5; obtain ⟨Ao35, co35, eo35⟩ := Kd.R_slice HO110.out; subst eo35; obtain ⟨Ao36, co36, eo36⟩ := Kd.N_slice HO107.out; subst eo36) | ((with_reducible refine gate_callee (f := 27) rfl ?_); refine goesL_ (some 19) rfl rfl Try.func27 (by kernel_rfl) rfl #[.int .i64 3, .slice Ao35 y108.length co35, .agg #[.int .i64 9, .int .i64 0], .slice Ao36 y105.length co36, .agg #[.int .i64 0, .int .i64 2, .int .i64 1, .int .i64 0, .int .i64 1, .int .i64 2]] rfl Z1 ?_; (with_reducible refine (promise_Earliest.calls 3 _ _ y108 9 0 _ _ y105 0 2 1 0 1 2 t111 t112 _ ?side1 ?side2 ?side3 ?side4 A1.out).mono ?_); (case side1 => repeat (first | exact (Kd.R_reads' HO110.out).2.2 | (with_reducible refine Kd.C_alloc ?_ _) | (with_reducible refine Kd.C_drewN ?_ _) | (with_reducible refine Kd.C_drew ?_))); (case side2 => exact (Kd.R_reads' HO110.out).2.1); (case side3 => repeat (first | exact (Kd.N_reads' HO107.out).2.2 | (with_reducible refine Kd.C_alloc ?_ _) | (with_reducible refine Kd.C_drewN ?_ _) | (with_reducible refine Kd.C_drew ?_))); (case side4 => exact (Kd.N_reads' HO107.out).2.1); rintro e w37 ⟨rfl, hb⟩; refine ⟨_, rfl, ?_⟩; have n0_ := Aside0.mk (Kd.N_below Z6 hb); have n1_ := Aside0.mk (Kd.R_below Z9 hb); have n2_ := Aside0.mk (blk_below (g := gb101) (o := .cells #[.int .i64 0, .int .i64 2, .int .i64 1, .int .i64 0, .int .i64 1, .int .i64 2] 29 (0, 0)) (by (with_reducible repeat (first | refine blk_drewN ?_ _ | refine blk_drew ?_ | refine blk_alloc ?_ _)); exact BK101.out) hb); have n3_ := Aside0.mk (below_step (by repeat (first | (with_reducible first | exact HB.out | apply below_alloc | apply pw_below_drewN | apply below_drew1 | refine below_set ?_ GE101.out) | exact HB.out)) hb); clear HO107; clear HO110; clear BK101; clear HB; have HO107 := n0_; have HO110 := n1_; have BK101 := n2_; have HB := n3_; clear n0_ n1_ n2_ n3_; (try clear hb); (try clear hb2); (try clear hk); (try clear hi); have hcz38_0 : w37.cell? ⟨gb101, 0, none⟩ = some (.int .i64 0) := (blk_cell BK101.out 0).trans rfl; have hcz38_1 : w37.cell? ⟨gb101, 1, none⟩ = some (.int .i64 2) := (blk_cell BK101.out 1).trans rfl; have hcz38_2 : w37.cell? ⟨gb101, 2, none⟩ = some (.int .i64 1) := (blk_cell BK101.out 2).trans rfl; have hcz38_3 : w37.cell? ⟨gb101, 3, none⟩ = some (.int .i64 0) := (blk_cell BK101.out 3).trans rfl; have hcz38_4 : w37.cell? ⟨gb101, 4, none⟩ = some (.int .i64 1) := (blk_cell BK101.out 4).trans rfl; have hcz38_5 : w37.cell? ⟨gb101, 5, none⟩ = some (.int .i64 2) := (blk_cell BK101.out 5).trans rfl; have hfz38_0 := blk_frozen BK101.out 0; have hfz38_1 := blk_frozen BK101.out 1; have hfz38_2 := blk_frozen BK101.out 2; have hfz38_3 := blk_frozen BK101.out 3; have hfz38_4 := blk_frozen BK101.out 4; have hfz38_5 := blk_frozen BK101.out 5) | ((with_reducible refine gate_dst (N := 25) rfl ?_); refine Kd.R_lit k51 _ 51 ?hg (N := 25) ?hd (xs := ([(⟨(⟨0, 0⟩ : S48), 1, 0⟩ : S51)] : List (S51))) (inner := [.int .i64 0, .int .i64 0, .int .u64 1, .int .i64 0]) (ok := fun _ => True) (okp := fun _ => True) ?hr ?hp (fun _ hk => hk) trivial (Below.refl _ _) (Nat.le_refl _) (by simp) ?_; (case hd => rfl); (case hg => rfl); (case hr => first | (go_simp; done) | (go_simp; rfl)); (case hp => exact (Reps.c4 (show Kd.M k51 _ _ _ (⟨(⟨0, 0⟩ : S48), 1, 0⟩ : S51) [.int .i64 0, .int .i64 0, .int .u64 1, .int .i64 0] from (k51_mkM _ _ _ (⟨(⟨0, 0⟩ : S48), 1, 0⟩ : S51) )) (Reps.none _ _))); intro v114 w39 ho40 hb hg_ hnew_; clear hg_ hnew_; (first | rw [← Ny113.out] at ho40 | (simp only [Int.reduceToNat] at ho40; rw [← Ny113.out] at ho40)); have n0_ := Aside0.mk (Kd.N_elder' Z8 (Kd.R_base ho40) hb); have n1_ := Aside0.mk (Kd.R_elder' Z5 (Kd.R_base ho40) hb); have n2_ := Aside0.mk (Kd.R_lower (Kd.R_new' ho40 (Kd.R_lt Z5)) (below_size (by repeat (first | (with_reducible first | exact HB.out | apply below_alloc | apply pw_below_drewN | apply below_drew1 | refine below_set ?_ GE101.out) | exact HB.out)))); have n3_ := Aside0.mk (blk_below (g := gb101) (o := .cells #[.int .i64 0, .int .i64 1, .int .i64 1, .int .i64 0, .int .i64 1, .int .i64 2] 29 (0, 0)) (by (with_reducible repeat (first | refine blk_drewN ?_ _ | refine blk_drew ?_ | refine blk_alloc ?_ _)); refine blk_put (cs := #[.int .i64 0, .int .i64 2, .int .i64 1, .int .i64 0, .int .i64 1, .int .i64 2]) ?_ 1 _ rfl; (with_reducible repeat (first | refine blk_drewN ?_ _ | refine blk_drew ?_ | refine blk_alloc ?_ _)); exact BK101.out) hb); have n4_ := Aside0.mk (below_step (by repeat (first | (with_reducible first | exact HB.out | apply below_alloc | apply pw_below_drewN | apply below_drew1 | refine below_set ?_ GE101.out) | exact HB.out)) hb); clear HO107; clear HO110; clear BK101; clear HB; have HO107 := n0_; have HO110 := n1_; have HO115 := n2_; have BK101 := n3_; have HB := n4_; clear n0_ n1_ n2_ n3_ n4_; clear hb ho40; have hcz41_0 : w39.cell? ⟨gb101, 0, none⟩ = some (.int .i64 0) := (blk_cell BK101.out 0).trans rfl; have hcz41_1 : w39.cell? ⟨gb101, 1, none⟩ = some (.int .i64 1) := (blk_cell BK101.out 1).trans rfl; have hcz41_2 : w39.cell? ⟨gb101, 2, none⟩ = some (.int .i64 1) := (blk_cell BK101.out 2).trans rfl; have hcz41_3 : w39.cell? ⟨gb101, 3, none⟩ = some (.int .i64 0) := (blk_cell BK101.out 3).trans rfl; have hcz41_4 : w39.cell? ⟨gb101, 4, none⟩ = some (.int .i64 1) := (blk_cell BK101.out 4).trans rfl; have hcz41_5 : w39.cell? ⟨gb101, 5, none⟩ = some (.int .i64 2) := (blk_cell BK101.out 5).trans rfl; have hfz41_0 := blk_frozen BK101.out 0; have hfz41_1 := blk_frozen BK101.out 1; have hfz41_2 := blk_frozen BK101.out 2; have hfz41_3 := blk_frozen BK101.out 3; have hfz41_4 := blk_frozen BK101.out 4; have hfz41_5 := blk_frozen BK101.out 5; obtain ⟨Ao42, co42, eo42⟩ := Kd.R_slice HO115.out; subst eo42) | ((with_reducible refine gate_callee (f := 27) rfl ?_); refine goesL_ (some 29) rfl rfl Try.func27 (by kernel_rfl) rfl #[.int .i64 3, .slice Ao42 y113.length co42, .agg #[.int .i64 9, .int .i64 0], .slice Ao36 y105.length co36, .agg #[.int .i64 0, .int .i64 1, .int .i64 1, .int .i64 0, .int .i64 1, .int .i64 2]] rfl Z1 ?_; (with_reducible refine (promise_Earliest.calls 3 _ _ y113 9 0 _ _ y105 0 1 1 0 1 2 t116 t117 _ ?side1 ?side2 ?side3 ?side4 A2.out).mono ?_); (case side1 => repeat (first | exact (Kd.R_reads' HO115.out).2.2 | (with_reducible refine Kd.C_alloc ?_ _) | (with_reducible refine Kd.C_drewN ?_ _) | (with_reducible refine Kd.C_drew ?_))); (case side2 => exact (Kd.R_reads' HO115.out).2.1); (case side3 => repeat (first | exact (Kd.N_reads' HO107.out).2.2 | (with_reducible refine Kd.C_alloc ?_ _) | (with_reducible refine Kd.C_drewN ?_ _) | (with_reducible refine Kd.C_drew ?_))); (case side4 => exact (Kd.N_reads' HO107.out).2.1); rintro e w43 ⟨rfl, hb⟩; refine ⟨_, rfl, ?_⟩; have n0_ := Aside0.mk (Kd.N_below Z6 hb); have n1_ := Aside0.mk (Kd.R_below Z9 hb); have n2_ := Aside0.mk (Kd.R_below Z11 hb); have n3_ := Aside0.mk (blk_below (g := gb101) (o := .cells #[.int .i64 0, .int .i64 1, .int .i64 1, .int .i64 0, .int .i64 1, .int .i64 2] 29 (0, 0)) (by (with_reducible repeat (first | refine blk_drewN ?_ _ | refine blk_drew ?_ | refine blk_alloc ?_ _)); exact BK101.out) hb); have n4_ := Aside0.mk (below_step (by repeat (first | (with_reducible first | exact HB.out | apply below_alloc | apply pw_below_drewN | apply below_drew1 | refine below_set ?_ GE101.out) | exact HB.out)) hb); clear HO107; clear HO110; clear HO115; clear BK101; clear HB; have HO107 := n0_; have HO110 := n1_; have HO115 := n2_; have BK101 := n3_; have HB := n4_; clear n0_ n1_ n2_ n3_ n4_; (try clear hb); (try clear hb2); (try clear hk); (try clear hi)))
    go_ret
    exact ⟨by first | rfl | (simp [errW_none, errW_some] <;> rfl) | (simp [*, errW_none, errW_some] <;> rfl), by repeat (first | (with_reducible first | exact HB.out | apply below_alloc | apply pw_below_drewN | apply below_drew1 | refine below_set ?_ GE101.out) | exact HB.out)⟩
  ·rw [if_neg c4] at H
   have c4b0 : (t116 == 3) = false := beq_eq_false_iff_ne.mpr c4
   have c4b1 : (t116 != 3) = true := bne_iff_ne.mpr c4
   obtain rfl := Option.some.inj H
   go_enter Try.func25, Try.ntmps25
   go_wp2_with (first | ((with_reducible refine gate_dst (N := 1) rfl ?_); refine bx 1 #[.int .i64 0, .int .i64 0, .int .i64 0, .int .i64 0, .int .i64 0, .int .i64 0] 29 ?_; intro gb101 hg w44 hbox hb; have n0_ := Aside0.mk (below_step Z0 hb); have n1_ := Aside0.mk (hbox); have n2_ := Aside0.mk ((by rw [hg]; exact (below_size Z0) : w.heap.size ≤ gb101)); have n3_ := Aside0.mk ((by rw [hg]; exact (below_size Z0) : w.heap.size ≤ gb101)); clear HB; have HB := n0_; have BK101 := n1_; have GW101 := n2_; have GE101 := n3_; clear n0_ n1_ n2_ n3_; clear hb hbox hg; have hcz45_0 : w44.cell? ⟨gb101, 0, none⟩ = some (.int .i64 0) := (blk_cell BK101.out 0).trans rfl; have hcz45_1 : w44.cell? ⟨gb101, 1, none⟩ = some (.int .i64 0) := (blk_cell BK101.out 1).trans rfl; have hcz45_2 : w44.cell? ⟨gb101, 2, none⟩ = some (.int .i64 0) := (blk_cell BK101.out 2).trans rfl; have hcz45_3 : w44.cell? ⟨gb101, 3, none⟩ = some (.int .i64 0) := (blk_cell BK101.out 3).trans rfl; have hcz45_4 : w44.cell? ⟨gb101, 4, none⟩ = some (.int .i64 0) := (blk_cell BK101.out 4).trans rfl; have hcz45_5 : w44.cell? ⟨gb101, 5, none⟩ = some (.int .i64 0) := (blk_cell BK101.out 5).trans rfl; have hfz45_0 := blk_frozen BK101.out 0; have hfz45_1 := blk_frozen BK101.out 1; have hfz45_2 := blk_frozen BK101.out 2; have hfz45_3 := blk_frozen BK101.out 3; have hfz45_4 := blk_frozen BK101.out 4; have hfz45_5 := blk_frozen BK101.out 5) | ((with_reducible refine gate_dst (N := 10) rfl ?_); refine Kd.R_lit k52 _ 52 ?hg (N := 10) ?hd (xs := ([(⟨(⟨0, 0⟩ : S48), 14, 0⟩ : S52)] : List (S52))) (inner := [.int .i64 0, .int .i64 0, .int .u64 14, .int .i64 0]) (ok := fun _ => True) (okp := fun _ => True) ?hr ?hp (fun _ hk => hk) trivial (Below.refl _ _) (Nat.le_refl _) (by simp) ?_; (case hd => rfl); (case hg => rfl); (case hr => first | (go_simp; done) | (go_simp; rfl)); (case hp => exact (Reps.c4 (show Kd.M k52 _ _ _ (⟨(⟨0, 0⟩ : S48), 14, 0⟩ : S52) [.int .i64 0, .int .i64 0, .int .u64 14, .int .i64 0] from (k52_mkM _ _ _ (⟨(⟨0, 0⟩ : S48), 14, 0⟩ : S52) )) (Reps.none _ _))); intro v103 w46 ho47 hb hg_ hnew_; clear hg_ hnew_; (first | rw [← Ny102.out] at ho47 | (simp only [Int.reduceToNat] at ho47; rw [← Ny102.out] at ho47)); have n0_ := Aside0.mk (Kd.R_lower ho47 (below_size (by repeat (first | (with_reducible first | exact HB.out | apply below_alloc | apply pw_below_drewN | apply below_drew1 | refine below_set ?_ GE101.out) | exact HB.out)))); have n1_ := Aside0.mk (blk_below (g := gb101) (o := .cells #[.int .i64 0, .int .i64 2, .int .i64 1, .int .i64 0, .int .i64 1, .int .i64 2] 29 (0, 0)) (by (with_reducible repeat (first | refine blk_drewN ?_ _ | refine blk_drew ?_ | refine blk_alloc ?_ _)); refine blk_put (cs := #[.int .i64 0, .int .i64 2, .int .i64 1, .int .i64 0, .int .i64 1, .int .i64 0]) ?_ 5 _ rfl; (with_reducible repeat (first | refine blk_drewN ?_ _ | refine blk_drew ?_ | refine blk_alloc ?_ _)); refine blk_put (cs := #[.int .i64 0, .int .i64 2, .int .i64 1, .int .i64 0, .int .i64 0, .int .i64 0]) ?_ 4 _ rfl; (with_reducible repeat (first | refine blk_drewN ?_ _ | refine blk_drew ?_ | refine blk_alloc ?_ _)); refine blk_put (cs := #[.int .i64 0, .int .i64 2, .int .i64 1, .int .i64 0, .int .i64 0, .int .i64 0]) ?_ 3 _ rfl; (with_reducible repeat (first | refine blk_drewN ?_ _ | refine blk_drew ?_ | refine blk_alloc ?_ _)); refine blk_put (cs := #[.int .i64 0, .int .i64 2, .int .i64 0, .int .i64 0, .int .i64 0, .int .i64 0]) ?_ 2 _ rfl; (with_reducible repeat (first | refine blk_drewN ?_ _ | refine blk_drew ?_ | refine blk_alloc ?_ _)); refine blk_put (cs := #[.int .i64 0, .int .i64 0, .int .i64 0, .int .i64 0, .int .i64 0, .int .i64 0]) ?_ 1 _ rfl; (with_reducible repeat (first | refine blk_drewN ?_ _ | refine blk_drew ?_ | refine blk_alloc ?_ _)); refine blk_put (cs := #[.int .i64 0, .int .i64 0, .int .i64 0, .int .i64 0, .int .i64 0, .int .i64 0]) ?_ 0 _ rfl; (with_reducible repeat (first | refine blk_drewN ?_ _ | refine blk_drew ?_ | refine blk_alloc ?_ _)); exact BK101.out) hb); have n2_ := Aside0.mk (below_step (by repeat (first | (with_reducible first | exact HB.out | apply below_alloc | apply pw_below_drewN | apply below_drew1 | refine below_set ?_ GE101.out) | exact HB.out)) hb); clear BK101; clear HB; have HO104 := n0_; have BK101 := n1_; have HB := n2_; clear n0_ n1_ n2_; clear hb ho47; obtain ⟨Ao48, co48, eo48⟩ := Kd.R_slice HO104.out; subst eo48) | ((with_reducible refine gate_dst (N := 12) rfl ?_); refine Kd.N_lit k41 _ 41 ?hg (N' := 12) ?hd (xs := ([(⟨0, 0, 7, false, y102⟩ : S41)] : List (S41))) (inner := [.int .i64 0, .int .i64 0, .int .i64 7, .bool false, .slice Ao48 y102.length co48]) (ok := (fun k_ => k_ ≠ gb101)) (okp := (fun k_ => k_ ≠ gb101)) ?hr ?hp (fun _ hk => hk) ((show ∀ k_, w46.heap.size ≤ k_ → (fun k_ => k_ ≠ gb101) k_ from fun k_ hk => Kd.freshB (g := gb101) (o := .cells #[.int .i64 0, .int .i64 2, .int .i64 1, .int .i64 0, .int .i64 1, .int .i64 2] 29 (0, 0)) (by (with_reducible repeat (first | refine blk_drewN ?_ _ | refine blk_drew ?_ | refine blk_alloc ?_ _)); exact BK101.out) k_ hk) _ (Nat.le_refl _)) (Below.refl _ _) (Nat.le_refl _) (by simp) ?_; (case hd => rfl); (case hg => rfl); (case hr => first | (go_simp; done) | (go_simp; rfl)); (case hp => exact (Reps.c5 (show Kd.FK k41 _ _ (⟨0, 0, 7, false, y102⟩ : S41) [.int .i64 0, .int .i64 0, .int .i64 7, .bool false, .slice Ao48 y102.length co48] from (k41_mkF _ _ (⟨0, 0, 7, false, y102⟩ : S41) (Kd.R_reads' (Kd.R_mono (ok' := (fun k_ => k_ ≠ gb101)) (Kd.R_types (HO104.out) BK101.out (by decide)) (fun k_ hk => hk.2))).2.1 (Kd.R_F (Kd.R_mono (ok' := (fun k_ => k_ ≠ gb101)) (Kd.R_types (HO104.out) BK101.out (by decide)) (fun k_ hk => hk.2))))) (Reps.none _ _))); intro v106 w49 ho50 hb hg_ hnew_; clear hg_ hnew_; (first | rw [← Ny105.out] at ho50 | (simp only [Int.reduceToNat] at ho50; rw [← Ny105.out] at ho50)); have n0_ := Aside0.mk (Kd.N_lower ho50 (below_size (by repeat (first | (with_reducible first | exact HB.out | apply below_alloc | apply pw_below_drewN | apply below_drew1 | refine below_set ?_ GE101.out) | exact HB.out)))); have n1_ := Aside0.mk (blk_below (g := gb101) (o := .cells #[.int .i64 0, .int .i64 2, .int .i64 1, .int .i64 0, .int .i64 1, .int .i64 2] 29 (0, 0)) (by (with_reducible repeat (first | refine blk_drewN ?_ _ | refine blk_drew ?_ | refine blk_alloc ?_ _)); exact BK101.out) hb); have n2_ := Aside0.mk (below_step (by repeat (first | (with_reducible first | exact HB.out | apply below_alloc | apply pw_below_drewN | apply below_drew1 | refine below_set ?_ GE101.out) | exact HB.out)) hb); clear BK101; clear HB; clear HO104; have HO107 := n0_; have BK101 := n1_; have HB := n2_; clear n0_ n1_ n2_; clear hb ho50) | ((with_reducible refine gate_dst (N := 15) rfl ?_); refine Kd.R_lit k51 _ 51 ?hg (N := 15) ?hd (xs := ([(⟨(⟨0, 0⟩ : S48), 1, 0⟩ : S51)] : List (S51))) (inner := [.int .i64 0, .int .i64 0, .int .u64 1, .int .i64 0]) (ok := fun _ => True) (okp := fun _ => True) ?hr ?hp (fun _ hk => hk) trivial (Below.refl _ _) (Nat.le_refl _) (by simp) ?_; (case hd => rfl); (case hg => rfl); (case hr => first | (go_simp; done) | (go_simp; rfl)); (case hp => exact (Reps.c4 (show Kd.M k51 _ _ _ (⟨(⟨0, 0⟩ : S48), 1, 0⟩ : S51) [.int .i64 0, .int .i64 0, .int .u64 1, .int .i64 0] from (k51_mkM _ _ _ (⟨(⟨0, 0⟩ : S48), 1, 0⟩ : S51) )) (Reps.none _ _))); intro v109 w51 ho52 hb hg_ hnew_; clear hg_ hnew_; (first | rw [← Ny108.out] at ho52 | (simp only [Int.reduceToNat] at ho52; rw [← Ny108.out] at ho52)); have n0_ := Aside0.mk (Kd.N_elder' Z6 (Kd.R_base ho52) hb); have n1_ := Aside0.mk (Kd.R_lower ho52 (below_size (by repeat (first | (with_reducible first | exact HB.out | apply below_alloc | apply pw_below_drewN | apply below_drew1 | refine below_set ?_ GE101.out) | exact HB.out)))); have n2_ := Aside0.mk (blk_below (g := gb101) (o := .cells #[.int .i64 0, .int .i64 2, .int .i64 1, .int .i64 0, .int .i64 1, .int .i64 2] 29 (0, 0)) (by (with_reducible repeat (first | refine blk_drewN ?_ _ | refine blk_drew ?_ | refine blk_alloc ?_ _)); exact BK101.out) hb); have n3_ := Aside0.mk (below_step (by repeat (first | (with_reducible first | exact HB.out | apply below_alloc | apply pw_below_drewN | apply below_drew1 | refine below_set ?_ GE101.out) | exact HB.out)) hb); clear HO107; clear BK101; clear HB; have HO107 := n0_; have HO110 := n1_; have BK101 := n2_; have HB := n3_; clear n0_ n1_ n2_ n3_; clear hb ho52; have hcz53_0 : w51.cell? ⟨gb101, 0, none⟩ = some (.int .i64 0) := (blk_cell BK101.out 0).trans rfl; have hcz53_1 : w51.cell? ⟨gb101, 1, none⟩ = some (.int .i64 2) := (blk_cell BK101.out 1).trans rfl; have hcz53_2 : w51.cell? ⟨gb101, 2, none⟩ = some (.int .i64 1) := (blk_cell BK101.out 2).trans rfl; have hcz53_3 : w51.cell? ⟨gb101, 3, none⟩ = some (.int .i64 0) := (blk_cell BK101.out 3).trans rfl; have hcz53_4 : w51.cell? ⟨gb101, 4, none⟩ = some (.int .i64 1) := (blk_cell BK101.out 4).trans rfl; have hcz53_5 : w51.cell? ⟨gb101, 5, none⟩ = some (.int .i64 2) := (blk_cell BK101.out 5).trans rfl; have hfz53_0 := blk_frozen BK101.out 0; have hfz53_1 := blk_frozen BK101.out 1; have hfz53_2 := blk_frozen BK101.out 2; have hfz53_3 := blk_frozen BK101.out 3; have hfz53_4 := blk_frozen BK101.out 4; have hfz53_5 := blk_frozen BK101.out 5; obtain ⟨Ao54, co54, eo54⟩ := Kd.R_slice HO110.out; subst eo54; obtain ⟨Ao55, co55, eo55⟩ := Kd.N_slice HO107.out; subst eo55) | ((with_reducible refine gate_callee (f := 27) rfl ?_); refine goesL_ (some 19) rfl rfl Try.func27 (by kernel_rfl) rfl #[.int .i64 3, .slice Ao54 y108.length co54, .agg #[.int .i64 9, .int .i64 0], .slice Ao55 y105.length co55, .agg #[.int .i64 0, .int .i64 2, .int .i64 1, .int .i64 0, .int .i64 1, .int .i64 2]] rfl Z1 ?_; (with_reducible refine (promise_Earliest.calls 3 _ _ y108 9 0 _ _ y105 0 2 1 0 1 2 t111 t112 _ ?side1 ?side2 ?side3 ?side4 A1.out).mono ?_); (case side1 => repeat (first | exact (Kd.R_reads' HO110.out).2.2 | (with_reducible refine Kd.C_alloc ?_ _) | (with_reducible refine Kd.C_drewN ?_ _) | (with_reducible refine Kd.C_drew ?_))); (case side2 => exact (Kd.R_reads' HO110.out).2.1); (case side3 => repeat (first | exact (Kd.N_reads' HO107.out).2.2 | (with_reducible refine Kd.C_alloc ?_ _) | (with_reducible refine Kd.C_drewN ?_ _) | (with_reducible refine Kd.C_drew ?_))); (case side4 => exact (Kd.N_reads' HO107.out).2.1); rintro e w56 ⟨rfl, hb⟩; refine ⟨_, rfl, ?_⟩; have n0_ := Aside0.mk (Kd.N_below Z6 hb); have n1_ := Aside0.mk (Kd.R_below Z9 hb); have n2_ := Aside0.mk (blk_below (g := gb101) (o := .cells #[.int .i64 0, .int .i64 2, .int .i64 1, .int .i64 0, .int .i64 1, .int .i64 2] 29 (0, 0)) (by (with_reducible repeat (first | refine blk_drewN ?_ _ | refine blk_drew ?_ | refine blk_alloc ?_ _)); exact BK101.out) hb); have n3_ := Aside0.mk (below_step (by repeat (first | (with_reducible first | exact HB.out | apply below_alloc | apply pw_below_drewN | apply below_drew1 | refine below_set ?_ GE101.out) | exact HB.out)) hb); clear HO107; clear HO110; clear BK101; clear HB; have HO107 := n0_; have HO110 := n1_; have BK101 := n2_; have HB := n3_; clear n0_ n1_ n2_ n3_; (try clear hb); (try clear hb2); (try clear hk); (try clear hi); have hcz57_0 : w56.cell? ⟨gb101, 0, none⟩ = some (.int .i64 0) := (blk_cell BK101.out 0).trans rfl; have hcz57_1 : w56.cell? ⟨gb101, 1, none⟩ = some (.int .i64 2) := (blk_cell BK101.out 1).trans rfl; have hcz57_2 : w56.cell? ⟨gb101, 2, none⟩ = some (.int .i64 1) := (blk_cell BK101.out 2).trans rfl; have hcz57_3 : w56.cell? ⟨gb101, 3, none⟩ = some (.int .i64 0) := (blk_cell BK101.out 3).trans rfl; have hcz57_4 : w56.cell? ⟨gb101, 4, none⟩ = some (.int .i64 1) := (blk_cell BK101.out 4).trans rfl; have hcz57_5 : w56.cell? ⟨gb101, 5, none⟩ = some (.int .i64 2) := (blk_cell BK101.out 5).trans rfl; have hfz57_0 := blk_frozen BK101.out 0; have hfz57_1 := blk_frozen BK101.out 1; have hfz57_2 := blk_frozen BK101.out 2; have hfz57_3 := blk_frozen BK101.out 3; have hfz57_4 := blk_frozen BK101.out 4; have hfz57_5 := blk_frozen BK101.out 5) | ((with_reducible refine gate_dst (N := 25) rfl ?_); refine Kd.R_lit k51 _ 51 ?hg (N := 25) ?hd (xs := ([(⟨(⟨0, 0⟩ : S48), 1, 0⟩ : S51)] : List (S51))) (inner := [.int .i64 0, .int .i64 0, .int .u64 1, .int .i64 0]) (ok := fun _ => True) (okp := fun _ => True) ?hr ?hp (fun _ hk => hk) trivial (Below.refl _ _) (Nat.le_refl _) (by simp) ?_; (case hd => rfl); (case hg => rfl); (case hr => first | (go_simp; done) | (go_simp; rfl)); (case hp => exact (Reps.c4 (show Kd.M k51 _ _ _ (⟨(⟨0, 0⟩ : S48), 1, 0⟩ : S51) [.int .i64 0, .int .i64 0, .int .u64 1, .int .i64 0] from (k51_mkM _ _ _ (⟨(⟨0, 0⟩ : S48), 1, 0⟩ : S51) )) (Reps.none _ _))); intro v114 w58 ho59 hb hg_ hnew_; clear hg_ hnew_; (first | rw [← Ny113.out] at ho59 | (simp only [Int.reduceToNat] at ho59; rw [← Ny113.out] at ho59)); have n0_ := Aside0.mk (Kd.N_elder' Z8 (Kd.R_base ho59) hb); have n1_ := Aside0.mk (Kd.R_elder' Z5 (Kd.R_base ho59) hb); have n2_ := Aside0.mk (Kd.R_lower (Kd.R_new' ho59 (Kd.R_lt Z5)) (below_size (by repeat (first | (with_reducible first | exact HB.out | apply below_alloc | apply pw_below_drewN | apply below_drew1 | refine below_set ?_ GE101.out) | exact HB.out)))); have n3_ := Aside0.mk (blk_below (g := gb101) (o := .cells #[.int .i64 0, .int .i64 1, .int .i64 1, .int .i64 0, .int .i64 1, .int .i64 2] 29 (0, 0)) (by (with_reducible repeat (first | refine blk_drewN ?_ _ | refine blk_drew ?_ | refine blk_alloc ?_ _)); refine blk_put (cs := #[.int .i64 0, .int .i64 2, .int .i64 1, .int .i64 0, .int .i64 1, .int .i64 2]) ?_ 1 _ rfl; (with_reducible repeat (first | refine blk_drewN ?_ _ | refine blk_drew ?_ | refine blk_alloc ?_ _)); exact BK101.out) hb); have n4_ := Aside0.mk (below_step (by repeat (first | (with_reducible first | exact HB.out | apply below_alloc | apply pw_below_drewN | apply below_drew1 | refine below_set ?_ GE101.out) | exact HB.out)) hb); clear HO107; clear HO110; clear BK101; clear HB; have HO107 := n0_; have HO110 := n1_; have HO115 := n2_; have BK101 := n3_; have HB := n4_; clear n0_ n1_ n2_ n3_ n4_; clear hb ho59; have hcz60_0 : w58.cell? ⟨gb101, 0, none⟩ = some (.int .i64 0) := (blk_cell BK101.out 0).trans rfl; have hcz60_1 : w58.cell? ⟨gb101, 1, none⟩ = some (.int .i64 1) := (blk_cell BK101.out 1).trans rfl; have hcz60_2 : w58.cell? ⟨gb101, 2, none⟩ = some (.int .i64 1) := (blk_cell BK101.out 2).trans rfl; have hcz60_3 : w58.cell? ⟨gb101, 3, none⟩ = some (.int .i64 0) := (blk_cell BK101.out 3).trans rfl; have hcz60_4 : w58.cell? ⟨gb101, 4, none⟩ = some (.int .i64 1) := (blk_cell BK101.out 4).trans rfl; have hcz60_5 : w58.cell? ⟨gb101, 5, none⟩ = some (.int .i64 2) := (blk_cell BK101.out 5).trans rfl; have hfz60_0 := blk_frozen BK101.out 0; have hfz60_1 := blk_frozen BK101.out 1; have hfz60_2 := blk_frozen BK101.out 2; have hfz60_3 := blk_frozen BK101.out 3; have hfz60_4 := blk_frozen BK101.out 4; have hfz60_5 := blk_frozen BK101.out 5; obtain ⟨Ao61, co61, eo61⟩ := Kd.R_slice HO115.out; subst eo61) | ((with_reducible refine gate_callee (f := 27) rfl ?_); refine goesL_ (some 29) rfl rfl Try.func27 (by kernel_rfl) rfl #[.int .i64 3, .slice Ao61 y113.length co61, .agg #[.int .i64 9, .int .i64 0], .slice Ao55 y105.length co55, .agg #[.int .i64 0, .int .i64 1, .int .i64 1, .int .i64 0, .int .i64 1, .int .i64 2]] rfl Z1 ?_; (with_reducible refine (promise_Earliest.calls 3 _ _ y113 9 0 _ _ y105 0 1 1 0 1 2 t116 t117 _ ?side1 ?side2 ?side3 ?side4 A2.out).mono ?_); (case side1 => repeat (first | exact (Kd.R_reads' HO115.out).2.2 | (with_reducible refine Kd.C_alloc ?_ _) | (with_reducible refine Kd.C_drewN ?_ _) | (with_reducible refine Kd.C_drew ?_))); (case side2 => exact (Kd.R_reads' HO115.out).2.1); (case side3 => repeat (first | exact (Kd.N_reads' HO107.out).2.2 | (with_reducible refine Kd.C_alloc ?_ _) | (with_reducible refine Kd.C_drewN ?_ _) | (with_reducible refine Kd.C_drew ?_))); (case side4 => exact (Kd.N_reads' HO107.out).2.1); rintro e w62 ⟨rfl, hb⟩; refine ⟨_, rfl, ?_⟩; have n0_ := Aside0.mk (Kd.N_below Z6 hb); have n1_ := Aside0.mk (Kd.R_below Z9 hb); have n2_ := Aside0.mk (Kd.R_below Z11 hb); have n3_ := Aside0.mk (blk_below (g := gb101) (o := .cells #[.int .i64 0, .int .i64 1, .int .i64 1, .int .i64 0, .int .i64 1, .int .i64 2] 29 (0, 0)) (by (with_reducible repeat (first | refine blk_drewN ?_ _ | refine blk_drew ?_ | refine blk_alloc ?_ _)); exact BK101.out) hb); have n4_ := Aside0.mk (below_step (by repeat (first | (with_reducible first | exact HB.out | apply below_alloc | apply pw_below_drewN | apply below_drew1 | refine below_set ?_ GE101.out) | exact HB.out)) hb); clear HO107; clear HO110; clear HO115; clear BK101; clear HB; have HO107 := n0_; have HO110 := n1_; have HO115 := n2_; have BK101 := n3_; have HB := n4_; clear n0_ n1_ n2_ n3_ n4_; (try clear hb); (try clear hb2); (try clear hk); (try clear hi)))
   go_ret
   exact ⟨by first | rfl | (simp [errW_none, errW_some] <;> rfl) | (simp [*, errW_none, errW_some] <;> rfl), by repeat (first | (with_reducible first | exact HB.out | apply below_alloc | apply pw_below_drewN | apply below_drew1 | refine below_set ?_ GE101.out) | exact HB.out)⟩
 ·rw [if_neg c3] at H
  have c3b0 : (t111 == 7) = false := beq_eq_false_iff_ne.mpr c3
  have c3b1 : (t111 != 7) = true := bne_iff_ne.mpr c3
  obtain rfl := Option.some.inj H
  go_enter Try.func25, Try.ntmps25
  go_wp2_with (first | ((with_reducible refine gate_dst (N := 1) rfl ?_); refine bx 1 #[.int .i64 0, .int .i64 0, .int .i64 0, .int .i64 0, .int .i64 0, .int .i64 0] 29 ?_; intro gb101 hg w63 hbox hb; have n0_ := Aside0.mk (below_step Z0 hb); have n1_ := Aside0.mk (hbox); have n2_ := Aside0.mk ((by rw [hg]; exact (below_size Z0) : w.heap.size ≤ gb101)); have n3_ := Aside0.mk ((by rw [hg]; exact (below_size Z0) : w.heap.size ≤ gb101)); clear HB; have HB := n0_; have BK101 := n1_; have GW101 := n2_; have GE101 := n3_; clear n0_ n1_ n2_ n3_; clear hb hbox hg; have hcz64_0 : w63.cell? ⟨gb101, 0, none⟩ = some (.int .i64 0) := (blk_cell BK101.out 0).trans rfl; have hcz64_1 : w63.cell? ⟨gb101, 1, none⟩ = some (.int .i64 0) := (blk_cell BK101.out 1).trans rfl; have hcz64_2 : w63.cell? ⟨gb101, 2, none⟩ = some (.int .i64 0) := (blk_cell BK101.out 2).trans rfl; have hcz64_3 : w63.cell? ⟨gb101, 3, none⟩ = some (.int .i64 0) := (blk_cell BK101.out 3).trans rfl; have hcz64_4 : w63.cell? ⟨gb101, 4, none⟩ = some (.int .i64 0) := (blk_cell BK101.out 4).trans rfl; have hcz64_5 : w63.cell? ⟨gb101, 5, none⟩ = some (.int .i64 0) := (blk_cell BK101.out 5).trans rfl; have hfz64_0 := blk_frozen BK101.out 0; have hfz64_1 := blk_frozen BK101.out 1; have hfz64_2 := blk_frozen BK101.out 2; have hfz64_3 := blk_frozen BK101.out 3; have hfz64_4 := blk_frozen BK101.out 4; have hfz64_5 := blk_frozen BK101.out 5) | ((with_reducible refine gate_dst (N := 10) rfl ?_); refine Kd.R_lit k52 _ 52 ?hg (N := 10) ?hd (xs := ([(⟨(⟨0, 0⟩ : S48), 14, 0⟩ : S52)] : List (S52))) (inner := [.int .i64 0, .int .i64 0, .int .u64 14, .int .i64 0]) (ok := fun _ => True) (okp := fun _ => True) ?hr ?hp (fun _ hk => hk) trivial (Below.refl _ _) (Nat.le_refl _) (by simp) ?_; (case hd => rfl); (case hg => rfl); (case hr => first | (go_simp; done) | (go_simp; rfl)); (case hp => exact (Reps.c4 (show Kd.M k52 _ _ _ (⟨(⟨0, 0⟩ : S48), 14, 0⟩ : S52) [.int .i64 0, .int .i64 0, .int .u64 14, .int .i64 0] from (k52_mkM _ _ _ (⟨(⟨0, 0⟩ : S48), 14, 0⟩ : S52) )) (Reps.none _ _))); intro v103 w65 ho66 hb hg_ hnew_; clear hg_ hnew_; (first | rw [← Ny102.out] at ho66 | (simp only [Int.reduceToNat] at ho66; rw [← Ny102.out] at ho66)); have n0_ := Aside0.mk (Kd.R_lower ho66 (below_size (by repeat (first | (with_reducible first | exact HB.out | apply below_alloc | apply pw_below_drewN | apply below_drew1 | refine below_set ?_ GE101.out) | exact HB.out)))); have n1_ := Aside0.mk (blk_below (g := gb101) (o := .cells #[.int .i64 0, .int .i64 2, .int .i64 1, .int .i64 0, .int .i64 1, .int .i64 2] 29 (0, 0)) (by (with_reducible repeat (first | refine blk_drewN ?_ _ | refine blk_drew ?_ | refine blk_alloc ?_ _)); refine blk_put (cs := #[.int .i64 0, .int .i64 2, .int .i64 1, .int .i64 0, .int .i64 1, .int .i64 0]) ?_ 5 _ rfl; (with_reducible repeat (first | refine blk_drewN ?_ _ | refine blk_drew ?_ | refine blk_alloc ?_ _)); refine blk_put (cs := #[.int .i64 0, .int .i64 2, .int .i64 1, .int .i64 0, .int .i64 0, .int .i64 0]) ?_ 4 _ rfl; (with_reducible repeat (first | refine blk_drewN ?_ _ | refine blk_drew ?_ | refine blk_alloc ?_ _)); refine blk_put (cs := #[.int .i64 0, .int .i64 2, .int .i64 1, .int .i64 0, .int .i64 0, .int .i64 0]) ?_ 3 _ rfl; (with_reducible repeat (first | refine blk_drewN ?_ _ | refine blk_drew ?_ | refine blk_alloc ?_ _)); refine blk_put (cs := #[.int .i64 0, .int .i64 2, .int .i64 0, .int .i64 0, .int .i64 0, .int .i64 0]) ?_ 2 _ rfl; (with_reducible repeat (first | refine blk_drewN ?_ _ | refine blk_drew ?_ | refine blk_alloc ?_ _)); refine blk_put (cs := #[.int .i64 0, .int .i64 0, .int .i64 0, .int .i64 0, .int .i64 0, .int .i64 0]) ?_ 1 _ rfl; (with_reducible repeat (first | refine blk_drewN ?_ _ | refine blk_drew ?_ | refine blk_alloc ?_ _)); refine blk_put (cs := #[.int .i64 0, .int .i64 0, .int .i64 0, .int .i64 0, .int .i64 0, .int .i64 0]) ?_ 0 _ rfl; (with_reducible repeat (first | refine blk_drewN ?_ _ | refine blk_drew ?_ | refine blk_alloc ?_ _)); exact BK101.out) hb); have n2_ := Aside0.mk (below_step (by repeat (first | (with_reducible first | exact HB.out | apply below_alloc | apply pw_below_drewN | apply below_drew1 | refine below_set ?_ GE101.out) | exact HB.out)) hb); clear BK101; clear HB; have HO104 := n0_; have BK101 := n1_; have HB := n2_; clear n0_ n1_ n2_; clear hb ho66; obtain ⟨Ao67, co67, eo67⟩ := Kd.R_slice HO104.out; subst eo67) | ((with_reducible refine gate_dst (N := 12) rfl ?_); refine Kd.N_lit k41 _ 41 ?hg (N' := 12) ?hd (xs := ([(⟨0, 0, 7, false, y102⟩ : S41)] : List (S41))) (inner := [.int .i64 0, .int .i64 0, .int .i64 7, .bool false, .slice Ao67 y102.length co67]) (ok := (fun k_ => k_ ≠ gb101)) (okp := (fun k_ => k_ ≠ gb101)) ?hr ?hp (fun _ hk => hk) ((show ∀ k_, w65.heap.size ≤ k_ → (fun k_ => k_ ≠ gb101) k_ from fun k_ hk => Kd.freshB (g := gb101) (o := .cells #[.int .i64 0, .int .i64 2, .int .i64 1, .int .i64 0, .int .i64 1, .int .i64 2] 29 (0, 0)) (by (with_reducible repeat (first | refine blk_drewN ?_ _ | refine blk_drew ?_ | refine blk_alloc ?_ _)); exact BK101.out) k_ hk) _ (Nat.le_refl _)) (Below.refl _ _) (Nat.le_refl _) (by simp) ?_; (case hd => rfl); (case hg => rfl); (case hr => first | (go_simp; done) | (go_simp; rfl)); (case hp => exact (Reps.c5 (show Kd.FK k41 _ _ (⟨0, 0, 7, false, y102⟩ : S41) [.int .i64 0, .int .i64 0, .int .i64 7, .bool false, .slice Ao67 y102.length co67] from (k41_mkF _ _ (⟨0, 0, 7, false, y102⟩ : S41) (Kd.R_reads' (Kd.R_mono (ok' := (fun k_ => k_ ≠ gb101)) (Kd.R_types (HO104.out) BK101.out (by decide)) (fun k_ hk => hk.2))).2.1 (Kd.R_F (Kd.R_mono (ok' := (fun k_ => k_ ≠ gb101)) (Kd.R_types (HO104.out) BK101.out (by decide)) (fun k_ hk => hk.2))))) (Reps.none _ _))); intro v106 w68 ho69 hb hg_ hnew_; clear hg_ hnew_; (first | rw [← Ny105.out] at ho69 | (simp only [Int.reduceToNat] at ho69; rw [← Ny105.out] at ho69)); have n0_ := Aside0.mk (Kd.N_lower ho69 (below_size (by repeat (first | (with_reducible first | exact HB.out | apply below_alloc | apply pw_below_drewN | apply below_drew1 | refine below_set ?_ GE101.out) | exact HB.out)))); have n1_ := Aside0.mk (blk_below (g := gb101) (o := .cells #[.int .i64 0, .int .i64 2, .int .i64 1, .int .i64 0, .int .i64 1, .int .i64 2] 29 (0, 0)) (by (with_reducible repeat (first | refine blk_drewN ?_ _ | refine blk_drew ?_ | refine blk_alloc ?_ _)); exact BK101.out) hb); have n2_ := Aside0.mk (below_step (by repeat (first | (with_reducible first | exact HB.out | apply below_alloc | apply pw_below_drewN | apply below_drew1 | refine below_set ?_ GE101.out) | exact HB.out)) hb); clear BK101; clear HB; clear HO104; have HO107 := n0_; have BK101 := n1_; have HB := n2_; clear n0_ n1_ n2_; clear hb ho69) | ((with_reducible refine gate_dst (N := 15) rfl ?_); refine Kd.R_lit k51 _ 51 ?hg (N := 15) ?hd (xs := ([(⟨(⟨0, 0⟩ : S48), 1, 0⟩ : S51)] : List (S51))) (inner := [.int .i64 0, .int .i64 0, .int .u64 1, .int .i64 0]) (ok := fun _ => True) (okp := fun _ => True) ?hr ?hp (fun _ hk => hk) trivial (Below.refl _ _) (Nat.le_refl _) (by simp) ?_; (case hd => rfl); (case hg => rfl); (case hr => first | (go_simp; done) | (go_simp; rfl)); (case hp => exact (Reps.c4 (show Kd.M k51 _ _ _ (⟨(⟨0, 0⟩ : S48), 1, 0⟩ : S51) [.int .i64 0, .int .i64 0, .int .u64 1, .int .i64 0] from (k51_mkM _ _ _ (⟨(⟨0, 0⟩ : S48), 1, 0⟩ : S51) )) (Reps.none _ _))); intro v109 w70 ho71 hb hg_ hnew_; clear hg_ hnew_; (first | rw [← Ny108.out] at ho71 | (simp only [Int.reduceToNat] at ho71; rw [← Ny108.out] at ho71)); have n0_ := Aside0.mk (Kd.N_elder' Z6 (Kd.R_base ho71) hb); have n1_ := Aside0.mk (Kd.R_lower ho71 (below_size (by repeat (first | (with_reducible first | exact HB.out | apply below_alloc | apply pw_below_drewN | apply below_drew1 | refine below_set ?_ GE101.out) | exact HB.out)))); have n2_ := Aside0.mk (blk_below (g := gb101) (o := .cells #[.int .i64 0, .int .i64 2, .int .i64 1, .int .i64 0, .int .i64 1, .int .i64 2] 29 (0, 0)) (by (with_reducible repeat (first | refine blk_drewN ?_ _ | refine blk_drew ?_ | refine blk_alloc ?_ _)); exact BK101.out) hb); have n3_ := Aside0.mk (below_step (by repeat (first | (with_reducible first | exact HB.out | apply below_alloc | apply pw_below_drewN | apply below_drew1 | refine below_set ?_ GE101.out) | exact HB.out)) hb); clear HO107; clear BK101; clear HB; have HO107 := n0_; have HO110 := n1_; have BK101 := n2_; have HB := n3_; clear n0_ n1_ n2_ n3_; clear hb ho71; have hcz72_0 : w70.cell? ⟨gb101, 0, none⟩ = some (.int .i64 0) := (blk_cell BK101.out 0).trans rfl; have hcz72_1 : w70.cell? ⟨gb101, 1, none⟩ = some (.int .i64 2) := (blk_cell BK101.out 1).trans rfl; have hcz72_2 : w70.cell? ⟨gb101, 2, none⟩ = some (.int .i64 1) := (blk_cell BK101.out 2).trans rfl; have hcz72_3 : w70.cell? ⟨gb101, 3, none⟩ = some (.int .i64 0) := (blk_cell BK101.out 3).trans rfl; have hcz72_4 : w70.cell? ⟨gb101, 4, none⟩ = some (.int .i64 1) := (blk_cell BK101.out 4).trans rfl; have hcz72_5 : w70.cell? ⟨gb101, 5, none⟩ = some (.int .i64 2) := (blk_cell BK101.out 5).trans rfl; have hfz72_0 := blk_frozen BK101.out 0; have hfz72_1 := blk_frozen BK101.out 1; have hfz72_2 := blk_frozen BK101.out 2; have hfz72_3 := blk_frozen BK101.out 3; have hfz72_4 := blk_frozen BK101.out 4; have hfz72_5 := blk_frozen BK101.out 5; obtain ⟨Ao73, co73, eo73⟩ := Kd.R_slice HO110.out; subst eo73; obtain ⟨Ao74, co74, eo74⟩ := Kd.N_slice HO107.out; subst eo74) | ((with_reducible refine gate_callee (f := 27) rfl ?_); refine goesL_ (some 19) rfl rfl Try.func27 (by kernel_rfl) rfl #[.int .i64 3, .slice Ao73 y108.length co73, .agg #[.int .i64 9, .int .i64 0], .slice Ao74 y105.length co74, .agg #[.int .i64 0, .int .i64 2, .int .i64 1, .int .i64 0, .int .i64 1, .int .i64 2]] rfl Z1 ?_; (with_reducible refine (promise_Earliest.calls 3 _ _ y108 9 0 _ _ y105 0 2 1 0 1 2 t111 t112 _ ?side1 ?side2 ?side3 ?side4 A1.out).mono ?_); (case side1 => repeat (first | exact (Kd.R_reads' HO110.out).2.2 | (with_reducible refine Kd.C_alloc ?_ _) | (with_reducible refine Kd.C_drewN ?_ _) | (with_reducible refine Kd.C_drew ?_))); (case side2 => exact (Kd.R_reads' HO110.out).2.1); (case side3 => repeat (first | exact (Kd.N_reads' HO107.out).2.2 | (with_reducible refine Kd.C_alloc ?_ _) | (with_reducible refine Kd.C_drewN ?_ _) | (with_reducible refine Kd.C_drew ?_))); (case side4 => exact (Kd.N_reads' HO107.out).2.1); rintro e w75 ⟨rfl, hb⟩; refine ⟨_, rfl, ?_⟩; have n0_ := Aside0.mk (Kd.N_below Z6 hb); have n1_ := Aside0.mk (Kd.R_below Z9 hb); have n2_ := Aside0.mk (blk_below (g := gb101) (o := .cells #[.int .i64 0, .int .i64 2, .int .i64 1, .int .i64 0, .int .i64 1, .int .i64 2] 29 (0, 0)) (by (with_reducible repeat (first | refine blk_drewN ?_ _ | refine blk_drew ?_ | refine blk_alloc ?_ _)); exact BK101.out) hb); have n3_ := Aside0.mk (below_step (by repeat (first | (with_reducible first | exact HB.out | apply below_alloc | apply pw_below_drewN | apply below_drew1 | refine below_set ?_ GE101.out) | exact HB.out)) hb); clear HO107; clear HO110; clear BK101; clear HB; have HO107 := n0_; have HO110 := n1_; have BK101 := n2_; have HB := n3_; clear n0_ n1_ n2_ n3_; (try clear hb); (try clear hb2); (try clear hk); (try clear hi); have hcz76_0 : w75.cell? ⟨gb101, 0, none⟩ = some (.int .i64 0) := (blk_cell BK101.out 0).trans rfl; have hcz76_1 : w75.cell? ⟨gb101, 1, none⟩ = some (.int .i64 2) := (blk_cell BK101.out 1).trans rfl; have hcz76_2 : w75.cell? ⟨gb101, 2, none⟩ = some (.int .i64 1) := (blk_cell BK101.out 2).trans rfl; have hcz76_3 : w75.cell? ⟨gb101, 3, none⟩ = some (.int .i64 0) := (blk_cell BK101.out 3).trans rfl; have hcz76_4 : w75.cell? ⟨gb101, 4, none⟩ = some (.int .i64 1) := (blk_cell BK101.out 4).trans rfl; have hcz76_5 : w75.cell? ⟨gb101, 5, none⟩ = some (.int .i64 2) := (blk_cell BK101.out 5).trans rfl; have hfz76_0 := blk_frozen BK101.out 0; have hfz76_1 := blk_frozen BK101.out 1; have hfz76_2 := blk_frozen BK101.out 2; have hfz76_3 := blk_frozen BK101.out 3; have hfz76_4 := blk_frozen BK101.out 4; have hfz76_5 := blk_frozen BK101.out 5) | ((with_reducible refine gate_dst (N := 25) rfl ?_); refine Kd.R_lit k51 _ 51 ?hg (N := 25) ?hd (xs := ([(⟨(⟨0, 0⟩ : S48), 1, 0⟩ : S51)] : List (S51))) (inner := [.int .i64 0, .int .i64 0, .int .u64 1, .int .i64 0]) (ok := fun _ => True) (okp := fun _ => True) ?hr ?hp (fun _ hk => hk) trivial (Below.refl _ _) (Nat.le_refl _) (by simp) ?_; (case hd => rfl); (case hg => rfl); (case hr => first | (go_simp; done) | (go_simp; rfl)); (case hp => exact (Reps.c4 (show Kd.M k51 _ _ _ (⟨(⟨0, 0⟩ : S48), 1, 0⟩ : S51) [.int .i64 0, .int .i64 0, .int .u64 1, .int .i64 0] from (k51_mkM _ _ _ (⟨(⟨0, 0⟩ : S48), 1, 0⟩ : S51) )) (Reps.none _ _))); intro v114 w77 ho78 hb hg_ hnew_; clear hg_ hnew_; (first | rw [← Ny113.out] at ho78 | (simp only [Int.reduceToNat] at ho78; rw [← Ny113.out] at ho78)); have n0_ := Aside0.mk (Kd.N_elder' Z8 (Kd.R_base ho78) hb); have n1_ := Aside0.mk (Kd.R_elder' Z5 (Kd.R_base ho78) hb); have n2_ := Aside0.mk (Kd.R_lower (Kd.R_new' ho78 (Kd.R_lt Z5)) (below_size (by repeat (first | (with_reducible first | exact HB.out | apply below_alloc | apply pw_below_drewN | apply below_drew1 | refine below_set ?_ GE101.out) | exact HB.out)))); have n3_ := Aside0.mk (blk_below (g := gb101) (o := .cells #[.int .i64 0, .int .i64 1, .int .i64 1, .int .i64 0, .int .i64 1, .int .i64 2] 29 (0, 0)) (by (with_reducible repeat (first | refine blk_drewN ?_ _ | refine blk_drew ?_ | refine blk_alloc ?_ _)); refine blk_put (cs := #[.int .i64 0, .int .i64 2, .int .i64 1, .int .i64 0, .int .i64 1, .int .i64 2]) ?_ 1 _ rfl; (with_reducible repeat (first | refine blk_drewN ?_ _ | refine blk_drew ?_ | refine blk_alloc ?_ _)); exact BK101.out) hb); have n4_ := Aside0.mk (below_step (by repeat (first | (with_reducible first | exact HB.out | apply below_alloc | apply pw_below_drewN | apply below_drew1 | refine below_set ?_ GE101.out) | exact HB.out)) hb); clear HO107; clear HO110; clear BK101; clear HB; have HO107 := n0_; have HO110 := n1_; have HO115 := n2_; have BK101 := n3_; have HB := n4_; clear n0_ n1_ n2_ n3_ n4_; clear hb ho78; have hcz79_0 : w77.cell? ⟨gb101, 0, none⟩ = some (.int .i64 0) := (blk_cell BK101.out 0).trans rfl; have hcz79_1 : w77.cell? ⟨gb101, 1, none⟩ = some (.int .i64 1) := (blk_cell BK101.out 1).trans rfl; have hcz79_2 : w77.cell? ⟨gb101, 2, none⟩ = some (.int .i64 1) := (blk_cell BK101.out 2).trans rfl; have hcz79_3 : w77.cell? ⟨gb101, 3, none⟩ = some (.int .i64 0) := (blk_cell BK101.out 3).trans rfl; have hcz79_4 : w77.cell? ⟨gb101, 4, none⟩ = some (.int .i64 1) := (blk_cell BK101.out 4).trans rfl; have hcz79_5 : w77.cell? ⟨gb101, 5, none⟩ = some (.int .i64 2) := (blk_cell BK101.out 5).trans rfl; have hfz79_0 := blk_frozen BK101.out 0; have hfz79_1 := blk_frozen BK101.out 1; have hfz79_2 := blk_frozen BK101.out 2; have hfz79_3 := blk_frozen BK101.out 3; have hfz79_4 := blk_frozen BK101.out 4; have hfz79_5 := blk_frozen BK101.out 5; obtain ⟨Ao80, co80, eo80⟩ := Kd.R_slice HO115.out; subst eo80) | ((with_reducible refine gate_callee (f := 27) rfl ?_); refine goesL_ (some 29) rfl rfl Try.func27 (by kernel_rfl) rfl #[.int .i64 3, .slice Ao80 y113.length co80, .agg #[.int .i64 9, .int .i64 0], .slice Ao74 y105.length co74, .agg #[.int .i64 0, .int .i64 1, .int .i64 1, .int .i64 0, .int .i64 1, .int .i64 2]] rfl Z1 ?_; (with_reducible refine (promise_Earliest.calls 3 _ _ y113 9 0 _ _ y105 0 1 1 0 1 2 t116 t117 _ ?side1 ?side2 ?side3 ?side4 A2.out).mono ?_); (case side1 => repeat (first | exact (Kd.R_reads' HO115.out).2.2 | (with_reducible refine Kd.C_alloc ?_ _) | (with_reducible refine Kd.C_drewN ?_ _) | (with_reducible refine Kd.C_drew ?_))); (case side2 => exact (Kd.R_reads' HO115.out).2.1); (case side3 => repeat (first | exact (Kd.N_reads' HO107.out).2.2 | (with_reducible refine Kd.C_alloc ?_ _) | (with_reducible refine Kd.C_drewN ?_ _) | (with_reducible refine Kd.C_drew ?_))); (case side4 => exact (Kd.N_reads' HO107.out).2.1); rintro e w81 ⟨rfl, hb⟩; refine ⟨_, rfl, ?_⟩; have n0_ := Aside0.mk (Kd.N_below Z6 hb); have n1_ := Aside0.mk (Kd.R_below Z9 hb); have n2_ := Aside0.mk (Kd.R_below Z11 hb); have n3_ := Aside0.mk (blk_below (g := gb101) (o := .cells #[.int .i64 0, .int .i64 1, .int .i64 1, .int .i64 0, .int .i64 1, .int .i64 2] 29 (0, 0)) (by (with_reducible repeat (first | refine blk_drewN ?_ _ | refine blk_drew ?_ | refine blk_alloc ?_ _)); exact BK101.out) hb); have n4_ := Aside0.mk (below_step (by repeat (first | (with_reducible first | exact HB.out | apply below_alloc | apply pw_below_drewN | apply below_drew1 | refine below_set ?_ GE101.out) | exact HB.out)) hb); clear HO107; clear HO110; clear HO115; clear BK101; clear HB; have HO107 := n0_; have HO110 := n1_; have HO115 := n2_; have BK101 := n3_; have HB := n4_; clear n0_ n1_ n2_ n3_ n4_; (try clear hb); (try clear hb2); (try clear hk); (try clear hi)))
  go_ret
  exact ⟨by first | rfl | (simp [errW_none, errW_some] <;> rfl) | (simp [*, errW_none, errW_some] <;> rfl), by repeat (first | (with_reducible first | exact HB.out | apply below_alloc | apply pw_below_drewN | apply below_drew1 | refine below_set ?_ GE101.out) | exact HB.out)⟩
end Go.Proofs.Ytckhjehibjdjdaa.P
namespace Go.Proofs.Ytckhjehibjdjdaa.P
open Go.RowKit Go.Proofs.YtckhjehibjdjdaaW.PrintWords Go.Proofs.YtckhjehibjdjdaaW.PrintLast Go.Proofs.YtckhjehibjdjdaaW.PrintMore
attribute [local go_sem] max2_int min2_int max_two min_two max_three min_three max_four min_four
set_option linter.unusedVariables false
set_option linter.unusedSimpArgs false
def ensembleref05_Right.l0 : Nat → List (S51) → Int → Option (Bool)
 | 0, _, _ => none
 | k + 1, x0, x3 => if x3 < (x0.length : Int) then (if 0 ≤ x3 then (if ((rd_T51 x0 x3).f2) < 0 then (some false) else (if ((rd_T51 x0 x3).f2) > 1048576 then (some false) else (if x3 ≤ (x0.length : Int) then ((ensembleref05_find.f k (x0.take (x3 : Int).toNat) ((rd_T51 x0 x3).f0.f0) ((rd_T51 x0 x3).f0.f1)).bind fun t127 => (if t127 ≥ 0 then (some false) else (ensembleref05_Right.l0 k x0 (wrap64 (x3 + 1))))) else (none)))) else (none)) else (some true)
def ensembleref05_Right.f (k : Nat) (l0 : List (S51)) : Option (Bool) := ensembleref05_Right.l0 k l0 0
def ensembleref05_Right.T4 : Bool × List (List Nat × List Nat) := (true, [([], []), ([], []), ([0, 1], [0, 1]), ([2], [2]), ([3], [3]), ([4], [4]), ([5], [5]), ([6], [6]), ([6], [6]), ([7, 8, 6], [6, 7, 8]), ([9, 6], [6, 9]), ([10, 6], [6, 10]), ([11, 6], [6, 11]), ([6, 12], [6, 12]), ([13, 6], [13]), ([14], [14]), ([14], [14]), ([15, 16, 14], [14, 15, 16]), ([14], [14]), ([14], [14]), ([18, 19, 14], [14, 18, 19]), ([20, 14], [14, 20]), ([21, 14], [14, 21]), ([17, 22, 14, 14], [14, 17, 22]), ([23, 14], [14, 23]), ([14, 24], [14, 24])])
def ensembleref05_Right.B4 : List Nat := [0, 0, 3, 7, 15, 31, 63, 127, 127, 511, 1023, 2047, 4095, 8191, 16383, 32767, 32767, 131071, 32767, 32767, 819199, 1867775, 3964927, 8388607, 16777215, 33554431]
theorem ensembleref05_Right.tab4 : rtab .any (opsOf Try.f67 4) = ensembleref05_Right.T4 := by kernel_rfl
theorem ensembleref05_Right.bits4 : waitsOk ensembleref05_Right.T4.2 ensembleref05_Right.B4 = true := by kernel_rfl
set_option maxHeartbeats 8000000 in
set_option maxRecDepth 100000 in
theorem ensembleref05_Right.calls (k : Nat) (A0 : Option Addr) (c0 : Nat) (l0 : List (S51)) (r : Bool) (w : World) (hr0 : Kd.C k51 w A0 l0.length l0) (hc0 : l0.length ≤ c0) (h : ensembleref05_Right.f k l0 = some r) :
  Calls Try.prog 67 #[.slice A0 l0.length c0] w fun e w' => e = .returned (.bool r) ∧ Below w.heap.size w w' := by
 have hu48 := Try.underlying48
 have HR0 := Aside0.mk hr0
 have HC0 := Aside0.mk hc0
 clear hr0 hc0
 have HB := Aside0.mk (Below.refl w.heap.size w)
 have H : (ensembleref05_Right.l0 k l0 0) = some r := h
 clear h
 have H' := Aside0.mk H
 clear H
 go_enter Try.func67, Try.ntmps67
 go_wp2
 go_loopg [3] k (fun kq v3 w' => ∃ (x3_1 : Int), v3 = .int .i64 x3_1 ∧ Aside0 (ensembleref05_Right.l0 kq l0 x3_1 = some r) ∧ Aside0 (kq ≤ k) ∧ Aside0 (Below w.heap.size w w'))
 case atStart => exact ⟨(0), Z4, H', ⟨Nat.le_refl _⟩, ⟨by repeat (first | (with_reducible first | exact HB.out | apply below_alloc | apply pw_below_drewN | apply below_drew1) | exact HB.out)⟩⟩
 case round =>
  clear H'
  obtain ⟨x3_1, rfl, HA, HK1, HB⟩ := hrel
  cases gk with
  | zero => exact absurd HA.out (by simp [ensembleref05_Right.l0])
  | succ k1 =>
   have H := HA.out
   clear HA
   simp only [ensembleref05_Right.l0] at H
   by_cases c2 : x3_1 < (l0.length : Int)
   ·rw [if_pos c2] at H
    have c2b0 : decide (x3_1 < (l0.length : Int)) = true := decide_eq_true c2
    clear c2
    by_cases c3 : 0 ≤ x3_1
    ·rw [if_pos c3] at H
     have c3b0 : decide (0 ≤ x3_1) = true := decide_eq_true c3
     clear c3
     by_cases c4 : ((rd_T51 l0 x3_1).f2) < 0
     ·rw [if_pos c4] at H
      have c4b0 : decide (((rd_T51 l0 x3_1).f2) < 0) = true := decide_eq_true c4
      clear c4
      obtain rfl := Option.some.inj H
      try go_wp2
      have n0_ := Aside0.mk (below_drew1 HB.out)
      clear HB
      have HB := n0_
      clear n0_
      have p120 : 0 ≤ (x3_1 : Int) := of_decide_eq_true Z2
      have q120 : x3_1 < (l0.length : Int) := of_decide_eq_true Z2
      obtain ⟨ad120, e120, hx120_0, hx120_1, hx120_2, hx120_3⟩ := at_T51 HR0.out x3_1 p120 q120
      have hw120_3 := hx120_3
      have hw120_2 := hx120_2
      have hw120_1 := hx120_1
      have hw120_0 := hx120_0
      cases e120
      replace hx120_0 := (HB.out.cell (World.block_lt_of_cell? w _ hx120_0)).trans hx120_0
      replace hx120_1 := (HB.out.cell (World.block_lt_of_cell? w _ hx120_1)).trans hx120_1
      replace hx120_2 := (HB.out.cell (World.block_lt_of_cell? w _ hx120_2)).trans hx120_2
      replace hx120_3 := (HB.out.cell (World.block_lt_of_cell? w _ hx120_3)).trans hx120_3
      replace p120 := eq_true p120
      replace q120 := eq_true q120
      refine start_ (n := 26) (S := fun w' => w'.cell? (ad120.add ((x3_1).toNat * 4)) = some (.int .i64 ((rd_T51 l0 x3_1).f0.f0)) ∧ w'.cell? ⟨(ad120.add ((x3_1).toNat * 4)).block, (ad120.add ((x3_1).toNat * 4)).off + 1, none⟩ = some (.int .i64 ((rd_T51 l0 x3_1).f0.f1)) ∧ w'.cell? ⟨(ad120.add ((x3_1).toNat * 4)).block, (ad120.add ((x3_1).toNat * 4)).off + 2, none⟩ = some (.int .u64 ((rd_T51 l0 x3_1).f1)) ∧ w'.cell? ⟨(ad120.add ((x3_1).toNat * 4)).block, (ad120.add ((x3_1).toNat * 4)).off + 3, none⟩ = some (.int .i64 ((rd_T51 l0 x3_1).f2))) (ds := []) (bm 26 0) (by kernel_rfl) rfl rfl ⟨((HB.out.cell (World.block_lt_of_cell? w _ hw120_0)).trans hw120_0), ((HB.out.cell (World.block_lt_of_cell? w _ hw120_1)).trans hw120_1), ((HB.out.cell (World.block_lt_of_cell? w _ hw120_2)).trans hw120_2), ((HB.out.cell (World.block_lt_of_cell? w _ hw120_3)).trans hw120_3)⟩ (fun hHeld => ?_); refine with_tabW ensembleref05_Right.tab4 ensembleref05_Right.bits4 (fun HT_ HW_ => ?_)
      generalize wr.drew = w5 at HB hx120_0 hx120_1 hx120_2 hx120_3 hHeld ⊢
      refine pu 0 (some 10) (bm 26 1) ?_
      refine pu 1 (some 11) (bm 26 3) ?_
      refine pu 2 (some 12) (bm 26 7) ?_
      refine pu 3 (some 13) (bm 26 15) ?_
      refine tk4 4 (some 14) (bm 26 31) ?_
      refine pu 5 (some 15) (bm 26 63) ?_
      refine pu 6 (some 16) (bm 26 127) ?_
      refine pure_ (i := 7) (N := some 17) (v := undef) (a' := ?_) (bm 26 255) rfl rfl (any_of HT_.out (by kernel_rfl)) (fun _ _ _ h => h) (Or.inr ⟨by rfl, rfl⟩) ?_ ?_
      rotate_left
      ·simp only [Act.put, List.setIfInBounds_toArray, List.set_cons_zero, List.set_cons_succ, i64_w, i32_w]
       rfl
      refine pure_ (i := 8) (N := some 18) (v := undef) (a' := ?_) (bm 26 511) rfl rfl (any_of HT_.out (by kernel_rfl)) (fun _ _ _ h => h) (Or.inr ⟨by rfl, rfl⟩) ?_ ?_
      rotate_left
      ·simp only [Act.put, List.setIfInBounds_toArray, List.set_cons_zero, List.set_cons_succ, i64_w, i32_w]
       rfl
      refine pure_ (i := 9) (N := some 19) (v := undef) (a' := ?_) (bm 26 1023) rfl rfl (any_of HT_.out (by kernel_rfl)) (fun _ _ _ h => h) (Or.inr ⟨by rfl, rfl⟩) ?_ ?_
      rotate_left
      ·simp only [Act.put, List.setIfInBounds_toArray, List.set_cons_zero, List.set_cons_succ, i64_w, i32_w]
       rfl
      refine pure_ (i := 10) (N := some 20) (v := undef) (a' := ?_) (bm 26 2047) rfl rfl (any_of HT_.out (by kernel_rfl)) (fun _ _ _ h => h) (Or.inr ⟨by rfl, rfl⟩) ?_ ?_
      rotate_left
      ·simp only [Act.put, List.setIfInBounds_toArray, List.set_cons_zero, List.set_cons_succ, i64_w, i32_w]
       rfl
      refine pure_ (i := 11) (N := some 21) (v := undef) (a' := ?_) (bm 26 4095) rfl rfl (any_of HT_.out (by kernel_rfl)) (fun _ _ _ h => h) (Or.inr ⟨by rfl, rfl⟩) ?_ ?_
      rotate_left
      ·simp only [Act.put, List.setIfInBounds_toArray, List.set_cons_zero, List.set_cons_succ, i64_w, i32_w]
       rfl
      refine pure_ (i := 12) (N := some 22) (v := undef) (a' := ?_) (bm 26 8191) rfl rfl (any_of HT_.out (by kernel_rfl)) (fun _ _ _ h => h) (Or.inr ⟨by rfl, rfl⟩) ?_ ?_
      rotate_left
      ·simp only [Act.put, List.setIfInBounds_toArray, List.set_cons_zero, List.set_cons_succ, i64_w, i32_w]
       rfl
      refine pu 13 (some 23) (bm 26 16383) ?_
      refine pu 14 (some 24) (bm 26 32767) ?_
      refine pure_ (i := 15) (N := some 25) (v := undef) (a' := ?_) (bm 26 65535) rfl rfl (any_of HT_.out (by kernel_rfl)) (fun _ _ _ h => h) (Or.inr ⟨by rfl, rfl⟩) ?_ ?_
      rotate_left
      ·simp only [Act.put, List.setIfInBounds_toArray, List.set_cons_zero, List.set_cons_succ, i64_w, i32_w]
       rfl
      refine pure_ (i := 16) (N := some 26) (v := undef) (a' := ?_) (bm 26 131071) rfl rfl (any_of HT_.out (by kernel_rfl)) (fun _ _ _ h => h) (Or.inr ⟨by rfl, rfl⟩) ?_ ?_
      rotate_left
      ·simp only [Act.put, List.setIfInBounds_toArray, List.set_cons_zero, List.set_cons_succ, i64_w, i32_w]
       rfl
      refine pure_ (i := 17) (N := some 27) (v := undef) (a' := ?_) (bm 26 262143) rfl rfl (any_of HT_.out (by kernel_rfl)) (fun _ _ _ h => h) (Or.inr ⟨by rfl, rfl⟩) ?_ ?_
      rotate_left
      ·simp only [Act.put, List.setIfInBounds_toArray, List.set_cons_zero, List.set_cons_succ, i64_w, i32_w]
       rfl
      refine pure_ (i := 18) (N := some 28) (v := undef) (a' := ?_) (bm 26 524287) rfl rfl (any_of HT_.out (by kernel_rfl)) (fun _ _ _ h => h) (Or.inr ⟨by rfl, rfl⟩) ?_ ?_
      rotate_left
      ·simp only [Act.put, List.setIfInBounds_toArray, List.set_cons_zero, List.set_cons_succ, i64_w, i32_w]
       rfl
      refine pure_ (i := 19) (N := some 29) (v := undef) (a' := ?_) (bm 26 1048575) rfl rfl (any_of HT_.out (by kernel_rfl)) (fun _ _ _ h => h) (Or.inr ⟨by rfl, rfl⟩) ?_ ?_
      rotate_left
      ·simp only [Act.put, List.setIfInBounds_toArray, List.set_cons_zero, List.set_cons_succ, i64_w, i32_w]
       rfl
      refine pure_ (i := 20) (N := some 30) (v := undef) (a' := ?_) (bm 26 2097151) rfl rfl (any_of HT_.out (by kernel_rfl)) (fun _ _ _ h => h) (Or.inr ⟨by rfl, rfl⟩) ?_ ?_
      rotate_left
      ·simp only [Act.put, List.setIfInBounds_toArray, List.set_cons_zero, List.set_cons_succ, i64_w, i32_w]
       rfl
      refine pure_ (i := 21) (N := some 31) (v := undef) (a' := ?_) (bm 26 4194303) rfl rfl (any_of HT_.out (by kernel_rfl)) (fun _ _ _ h => h) (Or.inr ⟨by rfl, rfl⟩) ?_ ?_
      rotate_left
      ·simp only [Act.put, List.setIfInBounds_toArray, List.set_cons_zero, List.set_cons_succ, i64_w, i32_w]
       rfl
      refine pure_ (i := 22) (N := some 32) (v := undef) (a' := ?_) (bm 26 8388607) rfl rfl (any_of HT_.out (by kernel_rfl)) (fun _ _ _ h => h) (Or.inr ⟨by rfl, rfl⟩) ?_ ?_
      rotate_left
      ·simp only [Act.put, List.setIfInBounds_toArray, List.set_cons_zero, List.set_cons_succ, i64_w, i32_w]
       rfl
      refine pure_ (i := 23) (N := some 33) (v := undef) (a' := ?_) (bm 26 16777215) rfl rfl (any_of HT_.out (by kernel_rfl)) (fun _ _ _ h => h) (Or.inr ⟨by rfl, rfl⟩) ?_ ?_
      rotate_left
      ·simp only [Act.put, List.setIfInBounds_toArray, List.set_cons_zero, List.set_cons_succ, i64_w, i32_w]
       rfl
      refine pure_ (i := 24) (N := some 34) (v := undef) (a' := ?_) (bm 26 33554431) rfl rfl (any_of HT_.out (by kernel_rfl)) (fun _ _ _ h => h) (Or.inr ⟨by rfl, rfl⟩) ?_ ?_
      rotate_left
      ·simp only [Act.put, List.setIfInBounds_toArray, List.set_cons_zero, List.set_cons_succ, i64_w, i32_w]
       rfl
      refine pu 25 (some 35) (bm 26 67108863) ?_
      refine done_ (done_of HT_.out (by kernel_rfl)) ?_
      try go_wp2
      go_ret
      exact ⟨by first | rfl | (simp [errW_none, errW_some] <;> rfl) | (simp [*, errW_none, errW_some] <;> rfl), by repeat (first | (with_reducible first | exact HB.out | apply below_alloc | apply pw_below_drewN | apply below_drew1) | exact HB.out)⟩
     ·rw [if_neg c4] at H
      have c4b0 : decide (((rd_T51 l0 x3_1).f2) < 0) = false := decide_eq_false c4
      clear c4
      by_cases c6 : ((rd_T51 l0 x3_1).f2) > 1048576
      ·rw [if_pos c6] at H
       have c6b0 : decide (1048576 < ((rd_T51 l0 x3_1).f2)) = true := decide_eq_true c6
       clear c6
       obtain rfl := Option.some.inj H
       try go_wp2
       have n0_ := Aside0.mk (below_drew1 HB.out)
       clear HB
       have HB := n0_
       clear n0_
       have p120 : 0 ≤ (x3_1 : Int) := of_decide_eq_true Z2
       have q120 : x3_1 < (l0.length : Int) := of_decide_eq_true Z2
       obtain ⟨ad120, e120, hx120_0, hx120_1, hx120_2, hx120_3⟩ := at_T51 HR0.out x3_1 p120 q120
       have hw120_3 := hx120_3
       have hw120_2 := hx120_2
       have hw120_1 := hx120_1
       have hw120_0 := hx120_0
       cases e120
       replace hx120_0 := (HB.out.cell (World.block_lt_of_cell? w _ hx120_0)).trans hx120_0
       replace hx120_1 := (HB.out.cell (World.block_lt_of_cell? w _ hx120_1)).trans hx120_1
       replace hx120_2 := (HB.out.cell (World.block_lt_of_cell? w _ hx120_2)).trans hx120_2
       replace hx120_3 := (HB.out.cell (World.block_lt_of_cell? w _ hx120_3)).trans hx120_3
       replace p120 := eq_true p120
       replace q120 := eq_true q120
       have p121 : 0 ≤ (x3_1 : Int) := of_decide_eq_true Z2
       have q121 : x3_1 < (l0.length : Int) := of_decide_eq_true Z2
       obtain ⟨ad121, e121, hx121_0, hx121_1, hx121_2, hx121_3⟩ := at_T51 HR0.out x3_1 p121 q121
       have hw121_3 := hx121_3
       have hw121_2 := hx121_2
       have hw121_1 := hx121_1
       have hw121_0 := hx121_0
       obtain rfl : ad120 = ad121 := (by injection e121)
       replace hx121_0 := (HB.out.cell (World.block_lt_of_cell? w _ hx121_0)).trans hx121_0
       replace hx121_1 := (HB.out.cell (World.block_lt_of_cell? w _ hx121_1)).trans hx121_1
       replace hx121_2 := (HB.out.cell (World.block_lt_of_cell? w _ hx121_2)).trans hx121_2
       replace hx121_3 := (HB.out.cell (World.block_lt_of_cell? w _ hx121_3)).trans hx121_3
       replace p121 := eq_true p121
       replace q121 := eq_true q121
       refine start_ (n := 26) (S := fun w' => w'.cell? (ad120.add ((x3_1).toNat * 4)) = some (.int .i64 ((rd_T51 l0 x3_1).f0.f0)) ∧ w'.cell? ⟨(ad120.add ((x3_1).toNat * 4)).block, (ad120.add ((x3_1).toNat * 4)).off + 1, none⟩ = some (.int .i64 ((rd_T51 l0 x3_1).f0.f1)) ∧ w'.cell? ⟨(ad120.add ((x3_1).toNat * 4)).block, (ad120.add ((x3_1).toNat * 4)).off + 2, none⟩ = some (.int .u64 ((rd_T51 l0 x3_1).f1)) ∧ w'.cell? ⟨(ad120.add ((x3_1).toNat * 4)).block, (ad120.add ((x3_1).toNat * 4)).off + 3, none⟩ = some (.int .i64 ((rd_T51 l0 x3_1).f2)) ∧ w'.cell? (ad120.add ((x3_1).toNat * 4)) = some (.int .i64 ((rd_T51 l0 x3_1).f0.f0)) ∧ w'.cell? ⟨(ad120.add ((x3_1).toNat * 4)).block, (ad120.add ((x3_1).toNat * 4)).off + 1, none⟩ = some (.int .i64 ((rd_T51 l0 x3_1).f0.f1)) ∧ w'.cell? ⟨(ad120.add ((x3_1).toNat * 4)).block, (ad120.add ((x3_1).toNat * 4)).off + 2, none⟩ = some (.int .u64 ((rd_T51 l0 x3_1).f1)) ∧ w'.cell? ⟨(ad120.add ((x3_1).toNat * 4)).block, (ad120.add ((x3_1).toNat * 4)).off + 3, none⟩ = some (.int .i64 ((rd_T51 l0 x3_1).f2))) (ds := []) (bm 26 0) (by kernel_rfl) rfl rfl ⟨((HB.out.cell (World.block_lt_of_cell? w _ hw120_0)).trans hw120_0), ((HB.out.cell (World.block_lt_of_cell? w _ hw120_1)).trans hw120_1), ((HB.out.cell (World.block_lt_of_cell? w _ hw120_2)).trans hw120_2), ((HB.out.cell (World.block_lt_of_cell? w _ hw120_3)).trans hw120_3), ((HB.out.cell (World.block_lt_of_cell? w _ hw121_0)).trans hw121_0), ((HB.out.cell (World.block_lt_of_cell? w _ hw121_1)).trans hw121_1), ((HB.out.cell (World.block_lt_of_cell? w _ hw121_2)).trans hw121_2), ((HB.out.cell (World.block_lt_of_cell? w _ hw121_3)).trans hw121_3)⟩ (fun hHeld => ?_); refine with_tabW ensembleref05_Right.tab4 ensembleref05_Right.bits4 (fun HT_ HW_ => ?_)
       generalize wr.drew = w7 at HB hx120_0 hx120_1 hx120_2 hx120_3 hx121_0 hx121_1 hx121_2 hx121_3 hHeld ⊢
       refine pu 0 (some 10) (bm 26 1) ?_
       refine pu 1 (some 11) (bm 26 3) ?_
       refine pu 2 (some 12) (bm 26 7) ?_
       refine pu 3 (some 13) (bm 26 15) ?_
       refine tk8 4 (some 14) (bm 26 31) ?_
       refine pu 5 (some 15) (bm 26 63) ?_
       refine pu 6 (some 16) (bm 26 127) ?_
       refine pu 7 (some 17) (bm 26 255) ?_
       refine pu 8 (some 18) (bm 26 511) ?_
       refine pu 9 (some 19) (bm 26 1023) ?_
       refine pu 10 (some 20) (bm 26 2047) ?_
       refine tk8 11 (some 21) (bm 26 4095) ?_
       refine pu 12 (some 22) (bm 26 8191) ?_
       refine pu 13 (some 23) (bm 26 16383) ?_
       refine pu 14 (some 24) (bm 26 32767) ?_
       refine pure_ (i := 15) (N := some 25) (v := undef) (a' := ?_) (bm 26 65535) rfl rfl (any_of HT_.out (by kernel_rfl)) (fun _ _ _ h => h) (Or.inr ⟨by rfl, rfl⟩) ?_ ?_
       rotate_left
       ·simp only [Act.put, List.setIfInBounds_toArray, List.set_cons_zero, List.set_cons_succ, i64_w, i32_w]
        rfl
       refine pure_ (i := 16) (N := some 26) (v := undef) (a' := ?_) (bm 26 131071) rfl rfl (any_of HT_.out (by kernel_rfl)) (fun _ _ _ h => h) (Or.inr ⟨by rfl, rfl⟩) ?_ ?_
       rotate_left
       ·simp only [Act.put, List.setIfInBounds_toArray, List.set_cons_zero, List.set_cons_succ, i64_w, i32_w]
        rfl
       refine pure_ (i := 17) (N := some 27) (v := undef) (a' := ?_) (bm 26 262143) rfl rfl (any_of HT_.out (by kernel_rfl)) (fun _ _ _ h => h) (Or.inr ⟨by rfl, rfl⟩) ?_ ?_
       rotate_left
       ·simp only [Act.put, List.setIfInBounds_toArray, List.set_cons_zero, List.set_cons_succ, i64_w, i32_w]
        rfl
       refine pure_ (i := 18) (N := some 28) (v := undef) (a' := ?_) (bm 26 524287) rfl rfl (any_of HT_.out (by kernel_rfl)) (fun _ _ _ h => h) (Or.inr ⟨by rfl, rfl⟩) ?_ ?_
       rotate_left
       ·simp only [Act.put, List.setIfInBounds_toArray, List.set_cons_zero, List.set_cons_succ, i64_w, i32_w]
        rfl
       refine pure_ (i := 19) (N := some 29) (v := undef) (a' := ?_) (bm 26 1048575) rfl rfl (any_of HT_.out (by kernel_rfl)) (fun _ _ _ h => h) (Or.inr ⟨by rfl, rfl⟩) ?_ ?_
       rotate_left
       ·simp only [Act.put, List.setIfInBounds_toArray, List.set_cons_zero, List.set_cons_succ, i64_w, i32_w]
        rfl
       refine pure_ (i := 20) (N := some 30) (v := undef) (a' := ?_) (bm 26 2097151) rfl rfl (any_of HT_.out (by kernel_rfl)) (fun _ _ _ h => h) (Or.inr ⟨by rfl, rfl⟩) ?_ ?_
       rotate_left
       ·simp only [Act.put, List.setIfInBounds_toArray, List.set_cons_zero, List.set_cons_succ, i64_w, i32_w]
        rfl
       refine pure_ (i := 21) (N := some 31) (v := undef) (a' := ?_) (bm 26 4194303) rfl rfl (any_of HT_.out (by kernel_rfl)) (fun _ _ _ h => h) (Or.inr ⟨by rfl, rfl⟩) ?_ ?_
       rotate_left
       ·simp only [Act.put, List.setIfInBounds_toArray, List.set_cons_zero, List.set_cons_succ, i64_w, i32_w]
        rfl
       refine pure_ (i := 22) (N := some 32) (v := undef) (a' := ?_) (bm 26 8388607) rfl rfl (any_of HT_.out (by kernel_rfl)) (fun _ _ _ h => h) (Or.inr ⟨by rfl, rfl⟩) ?_ ?_
       rotate_left
       ·simp only [Act.put, List.setIfInBounds_toArray, List.set_cons_zero, List.set_cons_succ, i64_w, i32_w]
        rfl
       refine pure_ (i := 23) (N := some 33) (v := undef) (a' := ?_) (bm 26 16777215) rfl rfl (any_of HT_.out (by kernel_rfl)) (fun _ _ _ h => h) (Or.inr ⟨by rfl, rfl⟩) ?_ ?_
       rotate_left
       ·simp only [Act.put, List.setIfInBounds_toArray, List.set_cons_zero, List.set_cons_succ, i64_w, i32_w]
        rfl
       refine pure_ (i := 24) (N := some 34) (v := undef) (a' := ?_) (bm 26 33554431) rfl rfl (any_of HT_.out (by kernel_rfl)) (fun _ _ _ h => h) (Or.inr ⟨by rfl, rfl⟩) ?_ ?_
       rotate_left
       ·simp only [Act.put, List.setIfInBounds_toArray, List.set_cons_zero, List.set_cons_succ, i64_w, i32_w]
        rfl
       refine pu 25 (some 35) (bm 26 67108863) ?_
       refine done_ (done_of HT_.out (by kernel_rfl)) ?_
       try go_wp2
       go_ret
       exact ⟨by first | rfl | (simp [errW_none, errW_some] <;> rfl) | (simp [*, errW_none, errW_some] <;> rfl), by repeat (first | (with_reducible first | exact HB.out | apply below_alloc | apply pw_below_drewN | apply below_drew1) | exact HB.out)⟩
      ·rw [if_neg c6] at H
       have c6b0 : decide (1048576 < ((rd_T51 l0 x3_1).f2)) = false := decide_eq_false c6
       clear c6
       have c8b0 := eq_true (of_decide_eq_true Z2 : 0 ≤ x3_1)
       by_cases c9 : x3_1 ≤ (l0.length : Int)
       ·rw [if_pos c9] at H
        have c9b0 := eq_true c9
        have c9b1 : decide (x3_1 ≤ (l0.length : Int)) = true := decide_eq_true c9
        clear c9
        obtain ⟨y122, hy122⟩ : ∃ y_ : List (S51), y_ = (l0.take (x3_1 : Int).toNat) := ⟨_, rfl⟩
        replace H : ((ensembleref05_find.f k1 y122 ((rd_T51 l0 x3_1).f0.f0) ((rd_T51 l0 x3_1).f0.f1)).bind fun t127 => (if t127 ≥ 0 then (some false) else (ensembleref05_Right.l0 k1 l0 (wrap64 (x3_1 + 1))))) = some r := by first | (rw [hy122]; with_reducible exact H) | (have H2_ := (Option.bind_some _ _).symm.trans H; rw [hy122]; with_reducible exact H2_) | (have H2_ := (Option.bind_some _ _).symm.trans H; with_reducible exact H2_) | with_reducible exact H | (rw [hy122]; exact H) | exact H
        have Ny122 := Aside0.mk hy122
        clear hy122
        replace H := Option.bind_eq_some_iff.mp H
        obtain ⟨t127, A100, H⟩ := H
        replace H : (if t127 ≥ 0 then (some false) else (ensembleref05_Right.l0 k1 l0 (wrap64 (x3_1 + 1)))) = some r := H
        have A10 := Aside0.mk A100
        clear A100
        by_cases c11 : t127 ≥ 0
        ·rw [if_pos c11] at H
         have c11b0 : decide (0 ≤ t127) = true := decide_eq_true c11
         clear c11
         obtain rfl := Option.some.inj H
         try go_wp2
         have n0_ := Aside0.mk (below_drew1 HB.out)
         clear HB
         have HB := n0_
         clear n0_
         have p120 : 0 ≤ (x3_1 : Int) := of_decide_eq_true Z2
         have q120 : x3_1 < (l0.length : Int) := of_decide_eq_true Z2
         obtain ⟨ad120, e120, hx120_0, hx120_1, hx120_2, hx120_3⟩ := at_T51 HR0.out x3_1 p120 q120
         have hw120_3 := hx120_3
         have hw120_2 := hx120_2
         have hw120_1 := hx120_1
         have hw120_0 := hx120_0
         cases e120
         replace hx120_0 := (HB.out.cell (World.block_lt_of_cell? w _ hx120_0)).trans hx120_0
         replace hx120_1 := (HB.out.cell (World.block_lt_of_cell? w _ hx120_1)).trans hx120_1
         replace hx120_2 := (HB.out.cell (World.block_lt_of_cell? w _ hx120_2)).trans hx120_2
         replace hx120_3 := (HB.out.cell (World.block_lt_of_cell? w _ hx120_3)).trans hx120_3
         replace p120 := eq_true p120
         replace q120 := eq_true q120
         have p121 : 0 ≤ (x3_1 : Int) := of_decide_eq_true Z2
         have q121 : x3_1 < (l0.length : Int) := of_decide_eq_true Z2
         obtain ⟨ad121, e121, hx121_0, hx121_1, hx121_2, hx121_3⟩ := at_T51 HR0.out x3_1 p121 q121
         have hw121_3 := hx121_3
         have hw121_2 := hx121_2
         have hw121_1 := hx121_1
         have hw121_0 := hx121_0
         obtain rfl : ad120 = ad121 := (by injection e121)
         replace hx121_0 := (HB.out.cell (World.block_lt_of_cell? w _ hx121_0)).trans hx121_0
         replace hx121_1 := (HB.out.cell (World.block_lt_of_cell? w _ hx121_1)).trans hx121_1
         replace hx121_2 := (HB.out.cell (World.block_lt_of_cell? w _ hx121_2)).trans hx121_2
         replace hx121_3 := (HB.out.cell (World.block_lt_of_cell? w _ hx121_3)).trans hx121_3
         replace p121 := eq_true p121
         replace q121 := eq_true q121
         have q13 : (x3_1 : Int) ≤ ((l0.length : Int) : Int) := of_decide_eq_true Z2
         obtain ⟨i013, hi013, _, hsz13, _⟩ := info_parts info51
         have hroom13 : l0.length ≤ c0 := HC0.out
         have hC13 : Kd.C k51 _ (some ad120) l0.length l0 := HR0.out
         have hcut13 := cut_to (P := Try.prog) 22 51 .i64 Try.underlying22 hi013 (some ad120) l0.length c0 x3_1 (of_decide_eq_true Z2) q13 hroom13
         have hr13 := Kd.C_take (m := (x3_1 : Int).toNat) hC13 (by omega)
         have hy13 : y122.length = (x3_1 : Int).toNat := (by rw [Ny122.out, List.length_take]; omega)
         rw [← Ny122.out] at hr13
         rw [← hy13] at hcut13
         have HR125 := Aside0.mk hr13
         have HC125 := Aside0.mk (show y122.length ≤ c0 from by omega)
         clear hr13 hC13 hroom13 hi013 hsz13
         have KY13 := Aside0.mk hy13
         clear hy13
         replace q13 := eq_true q13
         have p126 : 0 ≤ (x3_1 : Int) := of_decide_eq_true Z2
         have q126 : x3_1 < (l0.length : Int) := of_decide_eq_true Z2
         obtain ⟨ad126, e126, hx126_0, hx126_1, hx126_2, hx126_3⟩ := at_T51 HR0.out x3_1 p126 q126
         have hw126_3 := hx126_3
         have hw126_2 := hx126_2
         have hw126_1 := hx126_1
         have hw126_0 := hx126_0
         obtain rfl : ad120 = ad126 := (by injection e126)
         replace hx126_0 := (HB.out.cell (World.block_lt_of_cell? w _ hx126_0)).trans hx126_0
         replace hx126_1 := (HB.out.cell (World.block_lt_of_cell? w _ hx126_1)).trans hx126_1
         replace hx126_2 := (HB.out.cell (World.block_lt_of_cell? w _ hx126_2)).trans hx126_2
         replace hx126_3 := (HB.out.cell (World.block_lt_of_cell? w _ hx126_3)).trans hx126_3
         replace p126 := eq_true p126
         replace q126 := eq_true q126
         refine start_ (n := 26) (S := fun w' => w'.cell? (ad120.add ((x3_1).toNat * 4)) = some (.int .i64 ((rd_T51 l0 x3_1).f0.f0)) ∧ w'.cell? ⟨(ad120.add ((x3_1).toNat * 4)).block, (ad120.add ((x3_1).toNat * 4)).off + 1, none⟩ = some (.int .i64 ((rd_T51 l0 x3_1).f0.f1)) ∧ w'.cell? ⟨(ad120.add ((x3_1).toNat * 4)).block, (ad120.add ((x3_1).toNat * 4)).off + 2, none⟩ = some (.int .u64 ((rd_T51 l0 x3_1).f1)) ∧ w'.cell? ⟨(ad120.add ((x3_1).toNat * 4)).block, (ad120.add ((x3_1).toNat * 4)).off + 3, none⟩ = some (.int .i64 ((rd_T51 l0 x3_1).f2)) ∧ w'.cell? (ad120.add ((x3_1).toNat * 4)) = some (.int .i64 ((rd_T51 l0 x3_1).f0.f0)) ∧ w'.cell? ⟨(ad120.add ((x3_1).toNat * 4)).block, (ad120.add ((x3_1).toNat * 4)).off + 1, none⟩ = some (.int .i64 ((rd_T51 l0 x3_1).f0.f1)) ∧ w'.cell? ⟨(ad120.add ((x3_1).toNat * 4)).block, (ad120.add ((x3_1).toNat * 4)).off + 2, none⟩ = some (.int .u64 ((rd_T51 l0 x3_1).f1)) ∧ w'.cell? ⟨(ad120.add ((x3_1).toNat * 4)).block, (ad120.add ((x3_1).toNat * 4)).off + 3, none⟩ = some (.int .i64 ((rd_T51 l0 x3_1).f2)) ∧ w'.cell? (ad120.add ((x3_1).toNat * 4)) = some (.int .i64 ((rd_T51 l0 x3_1).f0.f0)) ∧ w'.cell? ⟨(ad120.add ((x3_1).toNat * 4)).block, (ad120.add ((x3_1).toNat * 4)).off + 1, none⟩ = some (.int .i64 ((rd_T51 l0 x3_1).f0.f1)) ∧ w'.cell? ⟨(ad120.add ((x3_1).toNat * 4)).block, (ad120.add ((x3_1).toNat * 4)).off + 2, none⟩ = some (.int .u64 ((rd_T51 l0 x3_1).f1)) ∧ w'.cell? ⟨(ad120.add ((x3_1).toNat * 4)).block, (ad120.add ((x3_1).toNat * 4)).off + 3, none⟩ = some (.int .i64 ((rd_T51 l0 x3_1).f2))) (ds := []) (bm 26 0) (by kernel_rfl) rfl rfl ⟨((HB.out.cell (World.block_lt_of_cell? w _ hw120_0)).trans hw120_0), ((HB.out.cell (World.block_lt_of_cell? w _ hw120_1)).trans hw120_1), ((HB.out.cell (World.block_lt_of_cell? w _ hw120_2)).trans hw120_2), ((HB.out.cell (World.block_lt_of_cell? w _ hw120_3)).trans hw120_3), ((HB.out.cell (World.block_lt_of_cell? w _ hw121_0)).trans hw121_0), ((HB.out.cell (World.block_lt_of_cell? w _ hw121_1)).trans hw121_1), ((HB.out.cell (World.block_lt_of_cell? w _ hw121_2)).trans hw121_2), ((HB.out.cell (World.block_lt_of_cell? w _ hw121_3)).trans hw121_3), ((HB.out.cell (World.block_lt_of_cell? w _ hw126_0)).trans hw126_0), ((HB.out.cell (World.block_lt_of_cell? w _ hw126_1)).trans hw126_1), ((HB.out.cell (World.block_lt_of_cell? w _ hw126_2)).trans hw126_2), ((HB.out.cell (World.block_lt_of_cell? w _ hw126_3)).trans hw126_3)⟩ (fun hHeld => ?_); refine with_tabW ensembleref05_Right.tab4 ensembleref05_Right.bits4 (fun HT_ HW_ => ?_)
         generalize wr.drew = w12 at HB HR125 hx120_0 hx120_1 hx120_2 hx120_3 hx121_0 hx121_1 hx121_2 hx121_3 hx126_0 hx126_1 hx126_2 hx126_3 hHeld ⊢
         refine pu 0 (some 10) (bm 26 1) ?_
         refine pu 1 (some 11) (bm 26 3) ?_
         refine pu 2 (some 12) (bm 26 7) ?_
         refine pu 3 (some 13) (bm 26 15) ?_
         refine tk12 4 (some 14) (bm 26 31) ?_
         refine pu 5 (some 15) (bm 26 63) ?_
         refine pu 6 (some 16) (bm 26 127) ?_
         refine pu 7 (some 17) (bm 26 255) ?_
         refine pu 8 (some 18) (bm 26 511) ?_
         refine pu 9 (some 19) (bm 26 1023) ?_
         refine pu 10 (some 20) (bm 26 2047) ?_
         refine tk12 11 (some 21) (bm 26 4095) ?_
         refine pu 12 (some 22) (bm 26 8191) ?_
         refine pu 13 (some 23) (bm 26 16383) ?_
         refine pu 14 (some 24) (bm 26 32767) ?_
         refine pu 15 (some 25) (bm 26 65535) ?_
         refine pu 16 (some 26) (bm 26 131071) ?_
         refine pu 17 (some 27) (bm 26 262143) ?_
         refine pu 18 (some 28) (bm 26 524287) ?_
         refine pu 19 (some 29) (bm 26 1048575) ?_
         refine pu 20 (some 30) (bm 26 2097151) ?_
         refine pu 21 (some 31) (bm 26 4194303) ?_
         refine tk12 22 (some 32) (bm 26 8388607) ?_
         refine one_ (i := 23) (N := some 33) (bm 26 16777215) rfl rfl (one_of HT_.out (by kernel_rfl)) (by decide) (fun K hK => ?_)
         refine goes_ Try.func79 (by kernel_rfl) rfl #[.slice (some ad120) y122.length c0, .agg #[.int .i64 ((rd_T51 l0 x3_1).f0.f0), .int .i64 ((rd_T51 l0 x3_1).f0.f1)]] (by rfl) rfl rfl Z1 ?_
         with_reducible refine (ensembleref05_find.calls k1 _ _ y122 ((rd_T51 l0 x3_1).f0.f0) ((rd_T51 l0 x3_1).f0.f1) t127 _ ?side1 ?side2 A10.out).mono ?_
         (case side1 => repeat (first | exact (Kd.C_below HR125.out HB.out) | (with_reducible refine Kd.C_alloc ?_ _) | (with_reducible refine Kd.C_drewN ?_ _) | (with_reducible refine Kd.C_drew ?_)))
         (case side2 => exact HC125.out)
         rintro e w14 ⟨rfl, hb⟩
         refine ⟨_, rfl, ?_⟩
         have n0_ := Aside0.mk (below_step Z0 hb)
         clear HB
         have HB := n0_
         clear n0_
         (try clear hb)
         (try clear hb2)
         (try clear hk)
         (try clear hi)
         refine hK.out _ _ ⟨((HB.out.cell (World.block_lt_of_cell? w _ hw120_0)).trans hw120_0), ((HB.out.cell (World.block_lt_of_cell? w _ hw120_1)).trans hw120_1), ((HB.out.cell (World.block_lt_of_cell? w _ hw120_2)).trans hw120_2), ((HB.out.cell (World.block_lt_of_cell? w _ hw120_3)).trans hw120_3), ((HB.out.cell (World.block_lt_of_cell? w _ hw121_0)).trans hw121_0), ((HB.out.cell (World.block_lt_of_cell? w _ hw121_1)).trans hw121_1), ((HB.out.cell (World.block_lt_of_cell? w _ hw121_2)).trans hw121_2), ((HB.out.cell (World.block_lt_of_cell? w _ hw121_3)).trans hw121_3), ((HB.out.cell (World.block_lt_of_cell? w _ hw126_0)).trans hw126_0), ((HB.out.cell (World.block_lt_of_cell? w _ hw126_1)).trans hw126_1), ((HB.out.cell (World.block_lt_of_cell? w _ hw126_2)).trans hw126_2), ((HB.out.cell (World.block_lt_of_cell? w _ hw126_3)).trans hw126_3)⟩ (fun hHeld => ?_)
         clear hK K
         refine norm_ (a' := ?_) ?_ ?_
         rotate_left
         ·show Act.put _ (some 33) _ = _
          simp only [Act.put, List.setIfInBounds_toArray, List.set_cons_zero, List.set_cons_succ, i64_w, i32_w]
          rfl
         refine pu 24 (some 34) (bm 26 33554431) ?_
         refine pu 25 (some 35) (bm 26 67108863) ?_
         refine done_ (done_of HT_.out (by kernel_rfl)) ?_
         try go_wp2
         go_ret
         exact ⟨by first | rfl | (simp [errW_none, errW_some] <;> rfl) | (simp [*, errW_none, errW_some] <;> rfl), by repeat (first | (with_reducible first | exact HB.out | apply below_alloc | apply pw_below_drewN | apply below_drew1) | exact HB.out)⟩
        ·rw [if_neg c11] at H
         have c11b0 : decide (0 ≤ t127) = false := decide_eq_false c11
         clear c11
         have H' := Aside0.mk H
         clear H
         try go_wp2
         have n0_ := Aside0.mk (below_drew1 HB.out)
         clear HB
         have HB := n0_
         clear n0_
         have p120 : 0 ≤ (x3_1 : Int) := of_decide_eq_true Z2
         have q120 : x3_1 < (l0.length : Int) := of_decide_eq_true Z2
         obtain ⟨ad120, e120, hx120_0, hx120_1, hx120_2, hx120_3⟩ := at_T51 HR0.out x3_1 p120 q120
         have hw120_3 := hx120_3
         have hw120_2 := hx120_2
         have hw120_1 := hx120_1
         have hw120_0 := hx120_0
         cases e120
         replace hx120_0 := (HB.out.cell (World.block_lt_of_cell? w _ hx120_0)).trans hx120_0
         replace hx120_1 := (HB.out.cell (World.block_lt_of_cell? w _ hx120_1)).trans hx120_1
         replace hx120_2 := (HB.out.cell (World.block_lt_of_cell? w _ hx120_2)).trans hx120_2
         replace hx120_3 := (HB.out.cell (World.block_lt_of_cell? w _ hx120_3)).trans hx120_3
         replace p120 := eq_true p120
         replace q120 := eq_true q120
         have p121 : 0 ≤ (x3_1 : Int) := of_decide_eq_true Z2
         have q121 : x3_1 < (l0.length : Int) := of_decide_eq_true Z2
         obtain ⟨ad121, e121, hx121_0, hx121_1, hx121_2, hx121_3⟩ := at_T51 HR0.out x3_1 p121 q121
         have hw121_3 := hx121_3
         have hw121_2 := hx121_2
         have hw121_1 := hx121_1
         have hw121_0 := hx121_0
         obtain rfl : ad120 = ad121 := (by injection e121)
         replace hx121_0 := (HB.out.cell (World.block_lt_of_cell? w _ hx121_0)).trans hx121_0
         replace hx121_1 := (HB.out.cell (World.block_lt_of_cell? w _ hx121_1)).trans hx121_1
         replace hx121_2 := (HB.out.cell (World.block_lt_of_cell? w _ hx121_2)).trans hx121_2
         replace hx121_3 := (HB.out.cell (World.block_lt_of_cell? w _ hx121_3)).trans hx121_3
         replace p121 := eq_true p121
         replace q121 := eq_true q121
         have q16 : (x3_1 : Int) ≤ ((l0.length : Int) : Int) := of_decide_eq_true Z2
         obtain ⟨i016, hi016, _, hsz16, _⟩ := info_parts info51
         have hroom16 : l0.length ≤ c0 := HC0.out
         have hC16 : Kd.C k51 _ (some ad120) l0.length l0 := HR0.out
         have hcut16 := cut_to (P := Try.prog) 22 51 .i64 Try.underlying22 hi016 (some ad120) l0.length c0 x3_1 (of_decide_eq_true Z2) q16 hroom16
         have hr16 := Kd.C_take (m := (x3_1 : Int).toNat) hC16 (by omega)
         have hy16 : y122.length = (x3_1 : Int).toNat := (by rw [Ny122.out, List.length_take]; omega)
         rw [← Ny122.out] at hr16
         rw [← hy16] at hcut16
         have HR125 := Aside0.mk hr16
         have HC125 := Aside0.mk (show y122.length ≤ c0 from by omega)
         clear hr16 hC16 hroom16 hi016 hsz16
         have KY16 := Aside0.mk hy16
         clear hy16
         replace q16 := eq_true q16
         have p126 : 0 ≤ (x3_1 : Int) := of_decide_eq_true Z2
         have q126 : x3_1 < (l0.length : Int) := of_decide_eq_true Z2
         obtain ⟨ad126, e126, hx126_0, hx126_1, hx126_2, hx126_3⟩ := at_T51 HR0.out x3_1 p126 q126
         have hw126_3 := hx126_3
         have hw126_2 := hx126_2
         have hw126_1 := hx126_1
         have hw126_0 := hx126_0
         obtain rfl : ad120 = ad126 := (by injection e126)
         replace hx126_0 := (HB.out.cell (World.block_lt_of_cell? w _ hx126_0)).trans hx126_0
         replace hx126_1 := (HB.out.cell (World.block_lt_of_cell? w _ hx126_1)).trans hx126_1
         replace hx126_2 := (HB.out.cell (World.block_lt_of_cell? w _ hx126_2)).trans hx126_2
         replace hx126_3 := (HB.out.cell (World.block_lt_of_cell? w _ hx126_3)).trans hx126_3
         replace p126 := eq_true p126
         replace q126 := eq_true q126
         refine start_ (n := 26) (S := fun w' => w'.cell? (ad120.add ((x3_1).toNat * 4)) = some (.int .i64 ((rd_T51 l0 x3_1).f0.f0)) ∧ w'.cell? ⟨(ad120.add ((x3_1).toNat * 4)).block, (ad120.add ((x3_1).toNat * 4)).off + 1, none⟩ = some (.int .i64 ((rd_T51 l0 x3_1).f0.f1)) ∧ w'.cell? ⟨(ad120.add ((x3_1).toNat * 4)).block, (ad120.add ((x3_1).toNat * 4)).off + 2, none⟩ = some (.int .u64 ((rd_T51 l0 x3_1).f1)) ∧ w'.cell? ⟨(ad120.add ((x3_1).toNat * 4)).block, (ad120.add ((x3_1).toNat * 4)).off + 3, none⟩ = some (.int .i64 ((rd_T51 l0 x3_1).f2)) ∧ w'.cell? (ad120.add ((x3_1).toNat * 4)) = some (.int .i64 ((rd_T51 l0 x3_1).f0.f0)) ∧ w'.cell? ⟨(ad120.add ((x3_1).toNat * 4)).block, (ad120.add ((x3_1).toNat * 4)).off + 1, none⟩ = some (.int .i64 ((rd_T51 l0 x3_1).f0.f1)) ∧ w'.cell? ⟨(ad120.add ((x3_1).toNat * 4)).block, (ad120.add ((x3_1).toNat * 4)).off + 2, none⟩ = some (.int .u64 ((rd_T51 l0 x3_1).f1)) ∧ w'.cell? ⟨(ad120.add ((x3_1).toNat * 4)).block, (ad120.add ((x3_1).toNat * 4)).off + 3, none⟩ = some (.int .i64 ((rd_T51 l0 x3_1).f2)) ∧ w'.cell? (ad120.add ((x3_1).toNat * 4)) = some (.int .i64 ((rd_T51 l0 x3_1).f0.f0)) ∧ w'.cell? ⟨(ad120.add ((x3_1).toNat * 4)).block, (ad120.add ((x3_1).toNat * 4)).off + 1, none⟩ = some (.int .i64 ((rd_T51 l0 x3_1).f0.f1)) ∧ w'.cell? ⟨(ad120.add ((x3_1).toNat * 4)).block, (ad120.add ((x3_1).toNat * 4)).off + 2, none⟩ = some (.int .u64 ((rd_T51 l0 x3_1).f1)) ∧ w'.cell? ⟨(ad120.add ((x3_1).toNat * 4)).block, (ad120.add ((x3_1).toNat * 4)).off + 3, none⟩ = some (.int .i64 ((rd_T51 l0 x3_1).f2))) (ds := []) (bm 26 0) (by kernel_rfl) rfl rfl ⟨((HB.out.cell (World.block_lt_of_cell? w _ hw120_0)).trans hw120_0), ((HB.out.cell (World.block_lt_of_cell? w _ hw120_1)).trans hw120_1), ((HB.out.cell (World.block_lt_of_cell? w _ hw120_2)).trans hw120_2), ((HB.out.cell (World.block_lt_of_cell? w _ hw120_3)).trans hw120_3), ((HB.out.cell (World.block_lt_of_cell? w _ hw121_0)).trans hw121_0), ((HB.out.cell (World.block_lt_of_cell? w _ hw121_1)).trans hw121_1), ((HB.out.cell (World.block_lt_of_cell? w _ hw121_2)).trans hw121_2), ((HB.out.cell (World.block_lt_of_cell? w _ hw121_3)).trans hw121_3), ((HB.out.cell (World.block_lt_of_cell? w _ hw126_0)).trans hw126_0), ((HB.out.cell (World.block_lt_of_cell? w _ hw126_1)).trans hw126_1), ((HB.out.cell (World.block_lt_of_cell? w _ hw126_2)).trans hw126_2), ((HB.out.cell (World.block_lt_of_cell? w _ hw126_3)).trans hw126_3)⟩ (fun hHeld => ?_); refine with_tabW ensembleref05_Right.tab4 ensembleref05_Right.bits4 (fun HT_ HW_ => ?_)
         generalize wr.drew = w15 at HB HR125 hx120_0 hx120_1 hx120_2 hx120_3 hx121_0 hx121_1 hx121_2 hx121_3 hx126_0 hx126_1 hx126_2 hx126_3 hHeld ⊢
         refine pu 0 (some 10) (bm 26 1) ?_
         refine pu 1 (some 11) (bm 26 3) ?_
         refine pu 2 (some 12) (bm 26 7) ?_
         refine pu 3 (some 13) (bm 26 15) ?_
         refine tk12 4 (some 14) (bm 26 31) ?_
         refine pu 5 (some 15) (bm 26 63) ?_
         refine pu 6 (some 16) (bm 26 127) ?_
         refine pu 7 (some 17) (bm 26 255) ?_
         refine pu 8 (some 18) (bm 26 511) ?_
         refine pu 9 (some 19) (bm 26 1023) ?_
         refine pu 10 (some 20) (bm 26 2047) ?_
         refine tk12 11 (some 21) (bm 26 4095) ?_
         refine pu 12 (some 22) (bm 26 8191) ?_
         refine pu 13 (some 23) (bm 26 16383) ?_
         refine pu 14 (some 24) (bm 26 32767) ?_
         refine pu 15 (some 25) (bm 26 65535) ?_
         refine pu 16 (some 26) (bm 26 131071) ?_
         refine pu 17 (some 27) (bm 26 262143) ?_
         refine pu 18 (some 28) (bm 26 524287) ?_
         refine pu 19 (some 29) (bm 26 1048575) ?_
         refine pu 20 (some 30) (bm 26 2097151) ?_
         refine pu 21 (some 31) (bm 26 4194303) ?_
         refine tk12 22 (some 32) (bm 26 8388607) ?_
         refine one_ (i := 23) (N := some 33) (bm 26 16777215) rfl rfl (one_of HT_.out (by kernel_rfl)) (by decide) (fun K hK => ?_)
         refine goes_ Try.func79 (by kernel_rfl) rfl #[.slice (some ad120) y122.length c0, .agg #[.int .i64 ((rd_T51 l0 x3_1).f0.f0), .int .i64 ((rd_T51 l0 x3_1).f0.f1)]] (by rfl) rfl rfl Z1 ?_
         with_reducible refine (ensembleref05_find.calls k1 _ _ y122 ((rd_T51 l0 x3_1).f0.f0) ((rd_T51 l0 x3_1).f0.f1) t127 _ ?side1 ?side2 A10.out).mono ?_
         (case side1 => repeat (first | exact (Kd.C_below HR125.out HB.out) | (with_reducible refine Kd.C_alloc ?_ _) | (with_reducible refine Kd.C_drewN ?_ _) | (with_reducible refine Kd.C_drew ?_)))
         (case side2 => exact HC125.out)
         rintro e w17 ⟨rfl, hb⟩
         refine ⟨_, rfl, ?_⟩
         have n0_ := Aside0.mk (below_step Z0 hb)
         clear HB
         have HB := n0_
         clear n0_
         (try clear hb)
         (try clear hb2)
         (try clear hk)
         (try clear hi)
         refine hK.out _ _ ⟨((HB.out.cell (World.block_lt_of_cell? w _ hw120_0)).trans hw120_0), ((HB.out.cell (World.block_lt_of_cell? w _ hw120_1)).trans hw120_1), ((HB.out.cell (World.block_lt_of_cell? w _ hw120_2)).trans hw120_2), ((HB.out.cell (World.block_lt_of_cell? w _ hw120_3)).trans hw120_3), ((HB.out.cell (World.block_lt_of_cell? w _ hw121_0)).trans hw121_0), ((HB.out.cell (World.block_lt_of_cell? w _ hw121_1)).trans hw121_1), ((HB.out.cell (World.block_lt_of_cell? w _ hw121_2)).trans hw121_2), ((HB.out.cell (World.block_lt_of_cell? w _ hw121_3)).trans hw121_3), ((HB.out.cell (World.block_lt_of_cell? w _ hw126_0)).trans hw126_0), ((HB.out.cell (World.block_lt_of_cell? w _ hw126_1)).trans hw126_1), ((HB.out.cell (World.block_lt_of_cell? w _ hw126_2)).trans hw126_2), ((HB.out.cell (World.block_lt_of_cell? w _ hw126_3)).trans hw126_3)⟩ (fun hHeld => ?_)
         clear hK K
         refine norm_ (a' := ?_) ?_ ?_
         rotate_left
         ·show Act.put _ (some 33) _ = _
          simp only [Act.put, List.setIfInBounds_toArray, List.set_cons_zero, List.set_cons_succ, i64_w, i32_w]
          rfl
         refine pu 24 (some 34) (bm 26 33554431) ?_
         refine pu 25 (some 35) (bm 26 67108863) ?_
         refine done_ (done_of HT_.out (by kernel_rfl)) ?_
         try go_wp2
         go_roundg k1
         case measure => have := HK1.out; omega
         case rel => exact ⟨(wrap64 (x3_1 + 1)), Z4, H', ⟨by have := HK1.out; omega⟩, ⟨by repeat (first | (with_reducible first | exact HB.out | apply below_alloc | apply pw_below_drewN | apply below_drew1) | exact HB.out)⟩⟩
       ·rw [if_neg c9] at H
        exact absurd H (by simp)
    ·rw [if_neg c3] at H
     exact absurd H (by simp)
   ·rw [if_neg c2] at H
    have c2b0 : decide (x3_1 < (l0.length : Int)) = false := decide_eq_false c2
    clear c2
    obtain rfl := Option.some.inj H
    go_wp2
    go_ret
    exact ⟨by first | rfl | (simp [errW_none, errW_some] <;> rfl) | (simp [*, errW_none, errW_some] <;> rfl), by repeat (first | (with_reducible first | exact HB.out | apply below_alloc | apply pw_below_drewN | apply below_drew1) | exact HB.out)⟩
end Go.Proofs.Ytckhjehibjdjdaa.P
namespace Go.Proofs.Ytckhjehibjdjdaa.P
open Go.RowKit Go.Proofs.YtckhjehibjdjdaaW.PrintWords Go.Proofs.YtckhjehibjdjdaaW.PrintLast Go.Proofs.YtckhjehibjdjdaaW.PrintMore
attribute [local go_sem] max2_int min2_int max_two min_two max_three min_three max_four min_four
set_option linter.unusedVariables false
set_option linter.unusedSimpArgs false
mutual
def ensembleref12_Few.j0 : Nat → List (S41) → Bool → Option (Bool)
 | 0, _, _ => none
 | k + 1, x2, x40 => if x40 = true then (some false) else (ensembleref12_Few.l0 k x2 0)
def ensembleref12_Few.l0 : Nat → List (S41) → Int → Option (Bool)
 | 0, _, _ => none
 | k + 1, x2, x7 => if x7 < (x2.length : Int) then (if 0 ≤ x7 then (if (((rd_T41 x2 x7).f4).length : Int) > 20 then (some false) else (ensembleref12_Few.l0 k x2 (wrap64 (x7 + 1)))) else (none)) else (some true)
end
def ensembleref12_Few.f (k : Nat) (l0 : List (S51)) (a1_0 : Int) (a1_1 : Int) (l2 : List (S41)) : Option (Bool) := if (l0.length : Int) > 70 then (ensembleref12_Few.j0 k l2 true) else ((ensembleref05_Right.f k l0).bind fun t129 => (if t129 = true then (if (l2.length : Int) > 20 then (ensembleref12_Few.j0 k l2 true) else (if a1_0 < (-1048576) then (ensembleref12_Few.j0 k l2 true) else (if a1_0 > 1048576 then (ensembleref12_Few.j0 k l2 true) else (if a1_1 < (-1048576) then (ensembleref12_Few.j0 k l2 true) else (ensembleref12_Few.j0 k l2 (decide (a1_1 > 1048576))))))) else (ensembleref12_Few.j0 k l2 true)))
set_option maxHeartbeats 8000000 in
set_option maxRecDepth 100000 in
theorem ensembleref12_Few.calls (k : Nat) (A0 : Option Addr) (c0 : Nat) (l0 : List (S51)) (a1_0 : Int) (a1_1 : Int) (A2 : Option Addr) (c2 : Nat) (l2 : List (S41)) (r : Bool) (w : World) (hr0 : Kd.C k51 w A0 l0.length l0) (hc0 : l0.length ≤ c0) (hr2 : Kd.C k41 w A2 l2.length l2) (hc2 : l2.length ≤ c2) (h : ensembleref12_Few.f k l0 a1_0 a1_1 l2 = some r) :
  Calls Try.prog 26 #[.slice A0 l0.length c0, .agg #[.int .i64 a1_0, .int .i64 a1_1], .slice A2 l2.length c2] w fun e w' => e = .returned (.bool r) ∧ Below w.heap.size w w' := by
 have hu24 := Try.underlying24
 have HR0 := Aside0.mk hr0
 have HC0 := Aside0.mk hc0
 clear hr0 hc0
 have HR2 := Aside0.mk hr2
 have HC2 := Aside0.mk hc2
 clear hr2 hc2
 have HB := Aside0.mk (Below.refl w.heap.size w)
 have H : (if (l0.length : Int) > 70 then (ensembleref12_Few.j0 k l2 true) else ((ensembleref05_Right.f k l0).bind fun t129 => (if t129 = true then (if (l2.length : Int) > 20 then (ensembleref12_Few.j0 k l2 true) else (if a1_0 < (-1048576) then (ensembleref12_Few.j0 k l2 true) else (if a1_0 > 1048576 then (ensembleref12_Few.j0 k l2 true) else (if a1_1 < (-1048576) then (ensembleref12_Few.j0 k l2 true) else (ensembleref12_Few.j0 k l2 (decide (a1_1 > 1048576))))))) else (ensembleref12_Few.j0 k l2 true)))) = some r := h
 clear h
 have HC4 := Aside0.mk H
 clear H
 go_enter Try.func26, Try.ntmps26
 go_upto_region 1 with (first | ((with_reducible refine gate_dst (N := 4) rfl ?_); (try (refine gate_guard (by rfl) ?_; dsimp only)); refine bx 4 #[.int .i64 a1_0, .int .i64 a1_1] 24 ?_; intro gb128 hg w5 hbox hb; have n0_ := Aside0.mk (below_step Z0 hb); have n1_ := Aside0.mk (hbox); have n2_ := Aside0.mk ((by rw [hg]; exact (below_size Z0) : w.heap.size ≤ gb128)); have n3_ := Aside0.mk ((by rw [hg]; exact (below_size Z0) : w.heap.size ≤ gb128)); clear HB; have HB := n0_; have BK128 := n1_; have GW128 := n2_; have GE128 := n3_; clear n0_ n1_ n2_ n3_; clear hb hbox hg))
 (try simp only [Act.put, List.setIfInBounds_toArray, List.set_cons_zero, List.set_cons_succ])
 go_cut [40] (fun v40 wc => ∃ (kq : Nat) (x40_3 : Bool), v40 = .bool x40_3 ∧ Aside0 (ensembleref12_Few.j0 kq l2 x40_3 = some r) ∧ Aside0 (kq ≤ k) ∧ Aside0 (wc.heap[gb128]? = some (.cells #[.int .i64 a1_0, .int .i64 a1_1] 24 (0, 0))) ∧ Aside0 (Below w.heap.size w wc))
 case first =>
  have H := HC4.out
  clear HC4
  by_cases c6 : (l0.length : Int) > 70
  ·rw [if_pos c6] at H
   have c6b0 : decide (70 < (l0.length : Int)) = true := decide_eq_true c6
   have c6b1 : decide (70 < l0.length) = true := decide_eq_true (by omega)
   clear c6
   (first | rw [c6b0] | (simp only [i64_w, i32_w]; rw [c6b0]) | skip)
   have H' := Aside0.mk H
   clear H
   go_wp2
   go_meet
   case rel => exact ⟨_, (true), Z4, H', ⟨by first | omega | exact Nat.le_refl _⟩, ⟨by (with_reducible repeat (first | refine blk_drewN ?_ _ | refine blk_drew ?_ | refine blk_alloc ?_ _)); exact BK128.out⟩, ⟨by repeat (first | (with_reducible first | exact HB.out | apply below_alloc | apply pw_below_drewN | apply below_drew1 | refine below_set ?_ GE128.out) | exact HB.out)⟩⟩
  ·rw [if_neg c6] at H
   have c6b0 : decide (70 < (l0.length : Int)) = false := decide_eq_false c6
   have c6b1 : decide (70 < l0.length) = false := decide_eq_false (by omega)
   clear c6
   (first | rw [c6b0] | (simp only [i64_w, i32_w]; rw [c6b0]) | skip)
   replace H := Option.bind_eq_some_iff.mp H
   obtain ⟨t129, A70, H⟩ := H
   replace H : (if t129 = true then (if (l2.length : Int) > 20 then (ensembleref12_Few.j0 k l2 true) else (if a1_0 < (-1048576) then (ensembleref12_Few.j0 k l2 true) else (if a1_0 > 1048576 then (ensembleref12_Few.j0 k l2 true) else (if a1_1 < (-1048576) then (ensembleref12_Few.j0 k l2 true) else (ensembleref12_Few.j0 k l2 (decide (a1_1 > 1048576))))))) else (ensembleref12_Few.j0 k l2 true)) = some r := H
   have A7 := Aside0.mk A70
   clear A70
   by_cases c8 : t129 = true
   ·subst c8
    have H1 : (if (l2.length : Int) > 20 then (ensembleref12_Few.j0 k l2 true) else (if a1_0 < (-1048576) then (ensembleref12_Few.j0 k l2 true) else (if a1_0 > 1048576 then (ensembleref12_Few.j0 k l2 true) else (if a1_1 < (-1048576) then (ensembleref12_Few.j0 k l2 true) else (ensembleref12_Few.j0 k l2 (decide (a1_1 > 1048576))))))) = some r := by rw [if_pos rfl] at H; exact H
    clear H
    have H := H1
    clear H1
    by_cases c9 : (l2.length : Int) > 20
    ·rw [if_pos c9] at H
     have c9b0 : decide (20 < (l2.length : Int)) = true := decide_eq_true c9
     have c9b1 : decide (20 < l2.length) = true := decide_eq_true (by omega)
     clear c9
     have H' := Aside0.mk H
     clear H
     go_wp2_with (first | (go_at_call 67; (with_reducible refine (ensembleref05_Right.calls k _ _ l0 true _ ?side1 ?side2 A7.out).mono ?_); (case side1 => repeat (first | exact (Kd.C_below HR0.out HB.out) | (with_reducible refine Kd.C_alloc ?_ _) | (with_reducible refine Kd.C_drewN ?_ _) | (with_reducible refine Kd.C_drew ?_))); (case side2 => exact HC0.out); rintro e w10 ⟨rfl, hb⟩; have n0_ := Aside0.mk (blk_below (g := gb128) (o := .cells #[.int .i64 a1_0, .int .i64 a1_1] 24 (0, 0)) (by (with_reducible repeat (first | refine blk_drewN ?_ _ | refine blk_drew ?_ | refine blk_alloc ?_ _)); exact BK128.out) hb); have n1_ := Aside0.mk (below_step (by repeat (first | (with_reducible first | exact HB.out | apply below_alloc | apply pw_below_drewN | apply below_drew1 | refine below_set ?_ GE128.out) | exact HB.out)) hb); clear BK128; clear HB; have BK128 := n0_; have HB := n1_; clear n0_ n1_; (try clear hb); (try clear hb2); (try clear hk); (try clear hi)))
     go_meet
     case rel => exact ⟨_, (true), Z4, H', ⟨by first | omega | exact Nat.le_refl _⟩, ⟨by (with_reducible repeat (first | refine blk_drewN ?_ _ | refine blk_drew ?_ | refine blk_alloc ?_ _)); exact BK128.out⟩, ⟨by repeat (first | (with_reducible first | exact HB.out | apply below_alloc | apply pw_below_drewN | apply below_drew1 | refine below_set ?_ GE128.out) | exact HB.out)⟩⟩
    ·rw [if_neg c9] at H
     have c9b0 : decide (20 < (l2.length : Int)) = false := decide_eq_false c9
     have c9b1 : decide (20 < l2.length) = false := decide_eq_false (by omega)
     clear c9
     by_cases c11 : a1_0 < (-1048576)
     ·rw [if_pos c11] at H
      have c11b0 : decide (a1_0 < (-1048576)) = true := decide_eq_true c11
      clear c11
      have H' := Aside0.mk H
      clear H
      go_wp2_with (first | (go_at_call 67; (with_reducible refine (ensembleref05_Right.calls k _ _ l0 true _ ?side1 ?side2 A7.out).mono ?_); (case side1 => repeat (first | exact (Kd.C_below HR0.out HB.out) | (with_reducible refine Kd.C_alloc ?_ _) | (with_reducible refine Kd.C_drewN ?_ _) | (with_reducible refine Kd.C_drew ?_))); (case side2 => exact HC0.out); rintro e w12 ⟨rfl, hb⟩; have n0_ := Aside0.mk (blk_below (g := gb128) (o := .cells #[.int .i64 a1_0, .int .i64 a1_1] 24 (0, 0)) (by (with_reducible repeat (first | refine blk_drewN ?_ _ | refine blk_drew ?_ | refine blk_alloc ?_ _)); exact BK128.out) hb); have n1_ := Aside0.mk (below_step (by repeat (first | (with_reducible first | exact HB.out | apply below_alloc | apply pw_below_drewN | apply below_drew1 | refine below_set ?_ GE128.out) | exact HB.out)) hb); clear BK128; clear HB; have BK128 := n0_; have HB := n1_; clear n0_ n1_; (try clear hb); (try clear hb2); (try clear hk); (try clear hi); have hcz13_0 : w12.cell? ⟨gb128, 0, none⟩ = some (.int .i64 a1_0) := (blk_cell BK128.out 0).trans rfl; have hcz13_1 : w12.cell? ⟨gb128, 1, none⟩ = some (.int .i64 a1_1) := (blk_cell BK128.out 1).trans rfl; have hfz13_0 := blk_frozen BK128.out 0; have hfz13_1 := blk_frozen BK128.out 1))
      go_meet
      case rel => exact ⟨_, (true), Z4, H', ⟨by first | omega | exact Nat.le_refl _⟩, ⟨by (with_reducible repeat (first | refine blk_drewN ?_ _ | refine blk_drew ?_ | refine blk_alloc ?_ _)); exact BK128.out⟩, ⟨by repeat (first | (with_reducible first | exact HB.out | apply below_alloc | apply pw_below_drewN | apply below_drew1 | refine below_set ?_ GE128.out) | exact HB.out)⟩⟩
     ·rw [if_neg c11] at H
      have c11b0 : decide (a1_0 < (-1048576)) = false := decide_eq_false c11
      clear c11
      by_cases c14 : a1_0 > 1048576
      ·rw [if_pos c14] at H
       have c14b0 : decide (1048576 < a1_0) = true := decide_eq_true c14
       clear c14
       have H' := Aside0.mk H
       clear H
       go_wp2_with (first | (go_at_call 67; (with_reducible refine (ensembleref05_Right.calls k _ _ l0 true _ ?side1 ?side2 A7.out).mono ?_); (case side1 => repeat (first | exact (Kd.C_below HR0.out HB.out) | (with_reducible refine Kd.C_alloc ?_ _) | (with_reducible refine Kd.C_drewN ?_ _) | (with_reducible refine Kd.C_drew ?_))); (case side2 => exact HC0.out); rintro e w15 ⟨rfl, hb⟩; have n0_ := Aside0.mk (blk_below (g := gb128) (o := .cells #[.int .i64 a1_0, .int .i64 a1_1] 24 (0, 0)) (by (with_reducible repeat (first | refine blk_drewN ?_ _ | refine blk_drew ?_ | refine blk_alloc ?_ _)); exact BK128.out) hb); have n1_ := Aside0.mk (below_step (by repeat (first | (with_reducible first | exact HB.out | apply below_alloc | apply pw_below_drewN | apply below_drew1 | refine below_set ?_ GE128.out) | exact HB.out)) hb); clear BK128; clear HB; have BK128 := n0_; have HB := n1_; clear n0_ n1_; (try clear hb); (try clear hb2); (try clear hk); (try clear hi); have hcz16_0 : w15.cell? ⟨gb128, 0, none⟩ = some (.int .i64 a1_0) := (blk_cell BK128.out 0).trans rfl; have hcz16_1 : w15.cell? ⟨gb128, 1, none⟩ = some (.int .i64 a1_1) := (blk_cell BK128.out 1).trans rfl; have hfz16_0 := blk_frozen BK128.out 0; have hfz16_1 := blk_frozen BK128.out 1))
       go_meet
       case rel => exact ⟨_, (true), Z4, H', ⟨by first | omega | exact Nat.le_refl _⟩, ⟨by (with_reducible repeat (first | refine blk_drewN ?_ _ | refine blk_drew ?_ | refine blk_alloc ?_ _)); exact BK128.out⟩, ⟨by repeat (first | (with_reducible first | exact HB.out | apply below_alloc | apply pw_below_drewN | apply below_drew1 | refine below_set ?_ GE128.out) | exact HB.out)⟩⟩
      ·rw [if_neg c14] at H
       have c14b0 : decide (1048576 < a1_0) = false := decide_eq_false c14
       clear c14
       by_cases c17 : a1_1 < (-1048576)
       ·rw [if_pos c17] at H
        have c17b0 : decide (a1_1 < (-1048576)) = true := decide_eq_true c17
        clear c17
        have H' := Aside0.mk H
        clear H
        go_wp2_with (first | (go_at_call 67; (with_reducible refine (ensembleref05_Right.calls k _ _ l0 true _ ?side1 ?side2 A7.out).mono ?_); (case side1 => repeat (first | exact (Kd.C_below HR0.out HB.out) | (with_reducible refine Kd.C_alloc ?_ _) | (with_reducible refine Kd.C_drewN ?_ _) | (with_reducible refine Kd.C_drew ?_))); (case side2 => exact HC0.out); rintro e w18 ⟨rfl, hb⟩; have n0_ := Aside0.mk (blk_below (g := gb128) (o := .cells #[.int .i64 a1_0, .int .i64 a1_1] 24 (0, 0)) (by (with_reducible repeat (first | refine blk_drewN ?_ _ | refine blk_drew ?_ | refine blk_alloc ?_ _)); exact BK128.out) hb); have n1_ := Aside0.mk (below_step (by repeat (first | (with_reducible first | exact HB.out | apply below_alloc | apply pw_below_drewN | apply below_drew1 | refine below_set ?_ GE128.out) | exact HB.out)) hb); clear BK128; clear HB; have BK128 := n0_; have HB := n1_; clear n0_ n1_; (try clear hb); (try clear hb2); (try clear hk); (try clear hi); have hcz19_0 : w18.cell? ⟨gb128, 0, none⟩ = some (.int .i64 a1_0) := (blk_cell BK128.out 0).trans rfl; have hcz19_1 : w18.cell? ⟨gb128, 1, none⟩ = some (.int .i64 a1_1) := (blk_cell BK128.out 1).trans rfl; have hfz19_0 := blk_frozen BK128.out 0; have hfz19_1 := blk_frozen BK128.out 1))
        go_meet
        case rel => exact ⟨_, (true), Z4, H', ⟨by first | omega | exact Nat.le_refl _⟩, ⟨by (with_reducible repeat (first | refine blk_drewN ?_ _ | refine blk_drew ?_ | refine blk_alloc ?_ _)); exact BK128.out⟩, ⟨by repeat (first | (with_reducible first | exact HB.out | apply below_alloc | apply pw_below_drewN | apply below_drew1 | refine below_set ?_ GE128.out) | exact HB.out)⟩⟩
       ·rw [if_neg c17] at H
        have c17b0 : decide (a1_1 < (-1048576)) = false := decide_eq_false c17
        clear c17
        have H' := Aside0.mk H
        clear H
        go_wp2_with (first | (go_at_call 67; (with_reducible refine (ensembleref05_Right.calls k _ _ l0 true _ ?side1 ?side2 A7.out).mono ?_); (case side1 => repeat (first | exact (Kd.C_below HR0.out HB.out) | (with_reducible refine Kd.C_alloc ?_ _) | (with_reducible refine Kd.C_drewN ?_ _) | (with_reducible refine Kd.C_drew ?_))); (case side2 => exact HC0.out); rintro e w20 ⟨rfl, hb⟩; have n0_ := Aside0.mk (blk_below (g := gb128) (o := .cells #[.int .i64 a1_0, .int .i64 a1_1] 24 (0, 0)) (by (with_reducible repeat (first | refine blk_drewN ?_ _ | refine blk_drew ?_ | refine blk_alloc ?_ _)); exact BK128.out) hb); have n1_ := Aside0.mk (below_step (by repeat (first | (with_reducible first | exact HB.out | apply below_alloc | apply pw_below_drewN | apply below_drew1 | refine below_set ?_ GE128.out) | exact HB.out)) hb); clear BK128; clear HB; have BK128 := n0_; have HB := n1_; clear n0_ n1_; (try clear hb); (try clear hb2); (try clear hk); (try clear hi); have hcz21_0 : w20.cell? ⟨gb128, 0, none⟩ = some (.int .i64 a1_0) := (blk_cell BK128.out 0).trans rfl; have hcz21_1 : w20.cell? ⟨gb128, 1, none⟩ = some (.int .i64 a1_1) := (blk_cell BK128.out 1).trans rfl; have hfz21_0 := blk_frozen BK128.out 0; have hfz21_1 := blk_frozen BK128.out 1))
        go_meet
        case rel => exact ⟨_, (decide (a1_1 > 1048576)), Z4, H', ⟨by first | omega | exact Nat.le_refl _⟩, ⟨by (with_reducible repeat (first | refine blk_drewN ?_ _ | refine blk_drew ?_ | refine blk_alloc ?_ _)); exact BK128.out⟩, ⟨by repeat (first | (with_reducible first | exact HB.out | apply below_alloc | apply pw_below_drewN | apply below_drew1 | refine below_set ?_ GE128.out) | exact HB.out)⟩⟩
   ·replace c8 := Bool.eq_false_iff.mpr c8
    subst c8
    have H1 : (ensembleref12_Few.j0 k l2 true) = some r := by rw [if_neg (show ¬ (false = true) by decide)] at H; exact H
    clear H
    have H := H1
    clear H1
    have H' := Aside0.mk H
    clear H
    go_wp2_with (first | (go_at_call 67; (with_reducible refine (ensembleref05_Right.calls k _ _ l0 false _ ?side1 ?side2 A7.out).mono ?_); (case side1 => repeat (first | exact (Kd.C_below HR0.out HB.out) | (with_reducible refine Kd.C_alloc ?_ _) | (with_reducible refine Kd.C_drewN ?_ _) | (with_reducible refine Kd.C_drew ?_))); (case side2 => exact HC0.out); rintro e w22 ⟨rfl, hb⟩; have n0_ := Aside0.mk (blk_below (g := gb128) (o := .cells #[.int .i64 a1_0, .int .i64 a1_1] 24 (0, 0)) (by (with_reducible repeat (first | refine blk_drewN ?_ _ | refine blk_drew ?_ | refine blk_alloc ?_ _)); exact BK128.out) hb); have n1_ := Aside0.mk (below_step (by repeat (first | (with_reducible first | exact HB.out | apply below_alloc | apply pw_below_drewN | apply below_drew1 | refine below_set ?_ GE128.out) | exact HB.out)) hb); clear BK128; clear HB; have BK128 := n0_; have HB := n1_; clear n0_ n1_; (try clear hb); (try clear hb2); (try clear hk); (try clear hi)))
    go_meet
    case rel => exact ⟨_, (true), Z4, H', ⟨by first | omega | exact Nat.le_refl _⟩, ⟨by (with_reducible repeat (first | refine blk_drewN ?_ _ | refine blk_drew ?_ | refine blk_alloc ?_ _)); exact BK128.out⟩, ⟨by repeat (first | (with_reducible first | exact HB.out | apply below_alloc | apply pw_below_drewN | apply below_drew1 | refine below_set ?_ GE128.out) | exact HB.out)⟩⟩
 case rest =>
  clear HC4
  try clear c1
  try clear c2
  try clear p2
  try clear c6
  try clear c6b0
  try clear c6b1
  try clear c8
  try clear c9
  try clear c9b0
  try clear c9b1
  try clear c11
  try clear c11b0
  try clear c14
  try clear c14b0
  try clear c17
  try clear c17b0
  try clear hcz13_0
  try clear hcz13_1
  try clear hcz16_0
  try clear hcz16_1
  try clear hcz19_0
  try clear hcz19_1
  try clear hcz21_0
  try clear hcz21_1
  try clear hfz13_0
  try clear hfz13_1
  try clear hfz16_0
  try clear hfz16_1
  try clear hfz19_0
  try clear hfz19_1
  try clear hfz21_0
  try clear hfz21_1
  obtain ⟨kq, x40_3, rfl, HA, HJ3, BK128, HB⟩ := hcut
  cases kq with
  | zero => exact absurd HA.out (by simp [ensembleref12_Few.j0])
  | succ kj3 =>
   have H := HA.out
   clear HA
   simp only [ensembleref12_Few.j0] at H
   by_cases c23 : x40_3 = true
   ·subst c23
    have H1 : (some false) = some r := by rw [if_pos rfl] at H; exact H
    clear H
    have H := H1
    clear H1
    obtain rfl := Option.some.inj H
    go_wp2
    go_ret
    exact ⟨by first | rfl | (simp [errW_none, errW_some] <;> rfl) | (simp [*, errW_none, errW_some] <;> rfl), by repeat (first | (with_reducible first | exact HB.out | apply below_alloc | apply pw_below_drewN | apply below_drew1 | refine below_set ?_ GE128.out) | exact HB.out)⟩
   ·replace c23 := Bool.eq_false_iff.mpr c23
    subst c23
    have H1 : (ensembleref12_Few.l0 kj3 l2 0) = some r := by rw [if_neg (show ¬ (false = true) by decide)] at H; exact H
    clear H
    have H := H1
    clear H1
    have H' := Aside0.mk H
    clear H
    go_wp2
    go_loopg [7] kj3 (fun kq v7 w' => ∃ (x7_2 : Int), v7 = .int .i64 x7_2 ∧ Aside0 (ensembleref12_Few.l0 kq l2 x7_2 = some r) ∧ Aside0 (kq ≤ kj3) ∧ Aside0 (w'.heap[gb128]? = some (.cells #[.int .i64 a1_0, .int .i64 a1_1] 24 (0, 0))) ∧ Aside0 (Below w.heap.size w w'))
    case atStart => exact ⟨(0), Z4, H', ⟨Nat.le_refl _⟩, ⟨by (with_reducible repeat (first | refine blk_drewN ?_ _ | refine blk_drew ?_ | refine blk_alloc ?_ _)); exact BK128.out⟩, ⟨by repeat (first | (with_reducible first | exact HB.out | apply below_alloc | apply pw_below_drewN | apply below_drew1 | refine below_set ?_ GE128.out) | exact HB.out)⟩⟩
    case round =>
     clear H'
     try clear c1
     try clear c2
     try clear p2
     try clear c6
     try clear c6b0
     try clear c6b1
     try clear c8
     try clear c9
     try clear c9b0
     try clear c9b1
     try clear c11
     try clear c11b0
     try clear c14
     try clear c14b0
     try clear c17
     try clear c17b0
     try clear c23
     try clear hcz13_0
     try clear hcz13_1
     try clear hcz16_0
     try clear hcz16_1
     try clear hcz19_0
     try clear hcz19_1
     try clear hcz21_0
     try clear hcz21_1
     try clear hfz13_0
     try clear hfz13_1
     try clear hfz16_0
     try clear hfz16_1
     try clear hfz19_0
     try clear hfz19_1
     try clear hfz21_0
     try clear hfz21_1
     try clear p2
     obtain ⟨x7_2, rfl, HA, HK2, BK128, HB⟩ := hrel
     cases gk with
     | zero => exact absurd HA.out (by simp [ensembleref12_Few.l0])
     | succ k2 =>
      have H := HA.out
      clear HA
      simp only [ensembleref12_Few.l0] at H
      by_cases c24 : x7_2 < (l2.length : Int)
      ·rw [if_pos c24] at H
       have c24b0 : decide (x7_2 < (l2.length : Int)) = true := decide_eq_true c24
       clear c24
       by_cases c25 : 0 ≤ x7_2
       ·rw [if_pos c25] at H
        have c25b0 : decide (0 ≤ x7_2) = true := decide_eq_true c25
        clear c25
        by_cases c26 : (((rd_T41 l2 x7_2).f4).length : Int) > 20
        ·rw [if_pos c26] at H
         have c26b0 : decide (20 < (((rd_T41 l2 x7_2).f4).length : Int)) = true := decide_eq_true c26
         have c26b1 : decide (20 < ((rd_T41 l2 x7_2).f4).length) = true := decide_eq_true (by omega)
         clear c26
         obtain rfl := Option.some.inj H
         have p130 : 0 ≤ (x7_2 : Int) := of_decide_eq_true Z2
         have q130 : x7_2 < (l2.length : Int) := of_decide_eq_true Z2
         obtain ⟨ad130, A130_4, c130_4, e130, hx130_0, hx130_1, hx130_2, hx130_3, hx130_4, hl130_4, hi130_4⟩ := at_T41 HR2.out x7_2 p130 q130
         cases e130
         replace hx130_0 := (HB.out.cell (World.block_lt_of_cell? w _ hx130_0)).trans hx130_0
         replace hx130_1 := (HB.out.cell (World.block_lt_of_cell? w _ hx130_1)).trans hx130_1
         replace hx130_2 := (HB.out.cell (World.block_lt_of_cell? w _ hx130_2)).trans hx130_2
         replace hx130_3 := (HB.out.cell (World.block_lt_of_cell? w _ hx130_3)).trans hx130_3
         replace hx130_4 := (HB.out.cell (World.block_lt_of_cell? w _ hx130_4)).trans hx130_4
         have HR130_4 := Aside0.mk hi130_4
         have HC130_4 := Aside0.mk hl130_4
         clear hi130_4 hl130_4
         replace p130 := eq_true p130
         replace q130 := eq_true q130
         go_wp2
         go_ret
         exact ⟨by first | rfl | (simp [errW_none, errW_some] <;> rfl) | (simp [*, errW_none, errW_some] <;> rfl), by repeat (first | (with_reducible first | exact HB.out | apply below_alloc | apply pw_below_drewN | apply below_drew1 | refine below_set ?_ GE128.out) | exact HB.out)⟩
        ·rw [if_neg c26] at H
         have c26b0 : decide (20 < (((rd_T41 l2 x7_2).f4).length : Int)) = false := decide_eq_false c26
         have c26b1 : decide (20 < ((rd_T41 l2 x7_2).f4).length) = false := decide_eq_false (by omega)
         clear c26
         have H' := Aside0.mk H
         clear H
         have p130 : 0 ≤ (x7_2 : Int) := of_decide_eq_true Z2
         have q130 : x7_2 < (l2.length : Int) := of_decide_eq_true Z2
         obtain ⟨ad130, A130_4, c130_4, e130, hx130_0, hx130_1, hx130_2, hx130_3, hx130_4, hl130_4, hi130_4⟩ := at_T41 HR2.out x7_2 p130 q130
         cases e130
         replace hx130_0 := (HB.out.cell (World.block_lt_of_cell? w _ hx130_0)).trans hx130_0
         replace hx130_1 := (HB.out.cell (World.block_lt_of_cell? w _ hx130_1)).trans hx130_1
         replace hx130_2 := (HB.out.cell (World.block_lt_of_cell? w _ hx130_2)).trans hx130_2
         replace hx130_3 := (HB.out.cell (World.block_lt_of_cell? w _ hx130_3)).trans hx130_3
         replace hx130_4 := (HB.out.cell (World.block_lt_of_cell? w _ hx130_4)).trans hx130_4
         have HR130_4 := Aside0.mk hi130_4
         have HC130_4 := Aside0.mk hl130_4
         clear hi130_4 hl130_4
         replace p130 := eq_true p130
         replace q130 := eq_true q130
         go_wp2
         go_roundg k2
         case measure => have := HJ3.out; have := HK2.out; omega
         case rel => exact ⟨(wrap64 (x7_2 + 1)), Z4, H', ⟨by have := HJ3.out; have := HK2.out; omega⟩, ⟨by (with_reducible repeat (first | refine blk_drewN ?_ _ | refine blk_drew ?_ | refine blk_alloc ?_ _)); exact BK128.out⟩, ⟨by repeat (first | (with_reducible first | exact HB.out | apply below_alloc | apply pw_below_drewN | apply below_drew1 | refine below_set ?_ GE128.out) | exact HB.out)⟩⟩
       ·rw [if_neg c25] at H
        exact absurd H (by simp)
      ·rw [if_neg c24] at H
       have c24b0 : decide (x7_2 < (l2.length : Int)) = false := decide_eq_false c24
       clear c24
       obtain rfl := Option.some.inj H
       go_wp2
       go_ret
       exact ⟨by first | rfl | (simp [errW_none, errW_some] <;> rfl) | (simp [*, errW_none, errW_some] <;> rfl), by repeat (first | (with_reducible first | exact HB.out | apply below_alloc | apply pw_below_drewN | apply below_drew1 | refine below_set ?_ GE128.out) | exact HB.out)⟩
end Go.Proofs.Ytckhjehibjdjdaa.P
namespace Go.Proofs.Ytckhjehibjdjdaa.P
open Go.RowKit Go.Proofs.YtckhjehibjdjdaaW.PrintWords Go.Proofs.YtckhjehibjdjdaaW.PrintLast Go.Proofs.YtckhjehibjdjdaaW.PrintMore
attribute [local go_sem] max2_int min2_int max_two min_two max_three min_three max_four min_four
set_option linter.unusedVariables false
set_option linter.unusedSimpArgs false
mutual
def ensemblelaw12_PromiseKeeps.j0 : Nat → Int → List (S51) → List (S41) → Int → Bool → Int → Int → Int → Int → Int → Int → Int → Int → Option (Bool)
 | 0, _, _, _, _, _, _, _, _, _, _, _, _, _ => none
 | k + 1, x0, x1, x3, x11, x41, x267000, x267001, x268000, x268001, x268002, x268003, x268004, x268005 => if x41 = true then (some false) else (if x11 < 1073741825 then ((ensembleref12_At.f k x11 x1 x267000 x267001 x3 x268000 x268001 x268002 x268003 x268004 x268005).bind fun t272 => (ensemblelaw12_PromiseKeeps.j1 k x0 x1 x3 x11 (!t272) x267000 x267001 x268000 x268001 x268002 x268003 x268004 x268005)) else (ensemblelaw12_PromiseKeeps.j1 k x0 x1 x3 x11 false x267000 x267001 x268000 x268001 x268002 x268003 x268004 x268005))
def ensemblelaw12_PromiseKeeps.j1 : Nat → Int → List (S51) → List (S41) → Int → Bool → Int → Int → Int → Int → Int → Int → Int → Int → Option (Bool)
 | 0, _, _, _, _, _, _, _, _, _, _, _, _, _ => none
 | k + 1, x0, x1, x3, x11, x52, x267000, x267001, x268000, x268001, x268002, x268003, x268004, x268005 => if x52 = true then (some false) else (ensemblelaw12_PromiseKeeps.l0 k x0 x1 x3 x11 0 x267000 x267001 x268000 x268001 x268002 x268003 x268004 x268005)
def ensemblelaw12_PromiseKeeps.l0 : Nat → Int → List (S51) → List (S41) → Int → Int → Int → Int → Int → Int → Int → Int → Int → Int → Option (Bool)
 | 0, _, _, _, _, _, _, _, _, _, _, _, _, _ => none
 | k + 1, x0, x1, x3, x11, x13, x267000, x267001, x268000, x268001, x268002, x268003, x268004, x268005 => if x13 < (x3.length : Int) then (if 0 ≤ x13 then (if ((rd_T41 x3 x13).f2) ≥ x0 then (if ((rd_T41 x3 x13).f2) < x11 then ((ensembleref12_At.f k ((rd_T41 x3 x13).f2) x1 x267000 x267001 x3 x268000 x268001 x268002 x268003 x268004 x268005).bind fun t274 => (if t274 = true then (some false) else (ensemblelaw12_PromiseKeeps.l0 k x0 x1 x3 x11 (wrap64 (x13 + 1)) x267000 x267001 x268000 x268001 x268002 x268003 x268004 x268005))) else (ensemblelaw12_PromiseKeeps.l0 k x0 x1 x3 x11 (wrap64 (x13 + 1)) x267000 x267001 x268000 x268001 x268002 x268003 x268004 x268005)) else (ensemblelaw12_PromiseKeeps.l0 k x0 x1 x3 x11 (wrap64 (x13 + 1)) x267000 x267001 x268000 x268001 x268002 x268003 x268004 x268005)) else (none)) else (if x11 = x0 then (some true) else ((promise_Fits.f k x1 x267000 x267001 x268000 x268001 x268002 x268003 x268004 x268005).bind fun t275 => (some (!t275))))
end
def ensemblelaw12_PromiseKeeps.f (k : Nat) (a0 : Int) (l1 : List (S51)) (a2_0 : Int) (a2_1 : Int) (l3 : List (S41)) (a4_0 : Int) (a4_1 : Int) (a4_2 : Int) (a4_3 : Int) (a4_4 : Int) (a4_5 : Int) : Option (Bool) := (ensemblelaw12_awake.f).bind fun t268 => (if t268 = true then ((ensembleref12_Few.f k l1 a2_0 a2_1 l3).bind fun t269 => (if t269 = true then ((promise_Earliest.f a0 l1 a2_0 a2_1 l3 a4_0 a4_1 a4_2 a4_3 a4_4 a4_5).bind fun bt270 => (if bt270.2 = 0 then (if bt270.1 < a0 then (ensemblelaw12_PromiseKeeps.j0 k a0 l1 l3 bt270.1 true a2_0 a2_1 a4_0 a4_1 a4_2 a4_3 a4_4 a4_5) else (ensemblelaw12_PromiseKeeps.j0 k a0 l1 l3 bt270.1 (decide (bt270.1 > 1073741825)) a2_0 a2_1 a4_0 a4_1 a4_2 a4_3 a4_4 a4_5)) else (some (bt270.1 == 0)))) else (some true))) else (some false))
set_option maxHeartbeats 8000000 in
set_option maxRecDepth 100000 in
theorem ensemblelaw12_PromiseKeeps.calls (k : Nat) (a0 : Int) (A1 : Option Addr) (c1 : Nat) (l1 : List (S51)) (a2_0 : Int) (a2_1 : Int) (A3 : Option Addr) (c3 : Nat) (l3 : List (S41)) (a4_0 : Int) (a4_1 : Int) (a4_2 : Int) (a4_3 : Int) (a4_4 : Int) (a4_5 : Int) (r : Bool) (w : World) (hr1 : Kd.C k51 w A1 l1.length l1) (hc1 : l1.length ≤ c1) (hr3 : Kd.C k41 w A3 l3.length l3) (hc3 : l3.length ≤ c3) (h : ensemblelaw12_PromiseKeeps.f k a0 l1 a2_0 a2_1 l3 a4_0 a4_1 a4_2 a4_3 a4_4 a4_5 = some r) :
  Calls Try.prog 4 #[.int .i64 a0, .slice A1 l1.length c1, .agg #[.int .i64 a2_0, .int .i64 a2_1], .slice A3 l3.length c3, .agg #[.int .i64 a4_0, .int .i64 a4_1, .int .i64 a4_2, .int .i64 a4_3, .int .i64 a4_4, .int .i64 a4_5]] w fun e w' => e = .returned (.bool r) ∧ Below w.heap.size w w' := by
 have hu24 := Try.underlying24
 have hu29 := Try.underlying29
 have HR1 := Aside0.mk hr1
 have HC1 := Aside0.mk hc1
 clear hr1 hc1
 have HR3 := Aside0.mk hr3
 have HC3 := Aside0.mk hc3
 clear hr3 hc3
 have HB := Aside0.mk (Below.refl w.heap.size w)
 have H : ((ensemblelaw12_awake.f).bind fun t268 => (if t268 = true then ((ensembleref12_Few.f k l1 a2_0 a2_1 l3).bind fun t269 => (if t269 = true then ((promise_Earliest.f a0 l1 a2_0 a2_1 l3 a4_0 a4_1 a4_2 a4_3 a4_4 a4_5).bind fun bt270 => (if bt270.2 = 0 then (if bt270.1 < a0 then (ensemblelaw12_PromiseKeeps.j0 k a0 l1 l3 bt270.1 true a2_0 a2_1 a4_0 a4_1 a4_2 a4_3 a4_4 a4_5) else (ensemblelaw12_PromiseKeeps.j0 k a0 l1 l3 bt270.1 (decide (bt270.1 > 1073741825)) a2_0 a2_1 a4_0 a4_1 a4_2 a4_3 a4_4 a4_5)) else (some (bt270.1 == 0)))) else (some true))) else (some false))) = some r := h
 clear h
 replace H := Option.bind_eq_some_iff.mp H
 obtain ⟨t268, A60, H⟩ := H
 replace H : (if t268 = true then ((ensembleref12_Few.f k l1 a2_0 a2_1 l3).bind fun t269 => (if t269 = true then ((promise_Earliest.f a0 l1 a2_0 a2_1 l3 a4_0 a4_1 a4_2 a4_3 a4_4 a4_5).bind fun bt270 => (if bt270.2 = 0 then (if bt270.1 < a0 then (ensemblelaw12_PromiseKeeps.j0 k a0 l1 l3 bt270.1 true a2_0 a2_1 a4_0 a4_1 a4_2 a4_3 a4_4 a4_5) else (ensemblelaw12_PromiseKeeps.j0 k a0 l1 l3 bt270.1 (decide (bt270.1 > 1073741825)) a2_0 a2_1 a4_0 a4_1 a4_2 a4_3 a4_4 a4_5)) else (some (bt270.1 == 0)))) else (some true))) else (some false)) = some r := H
 have A6 := Aside0.mk A60
 clear A60
 by_cases c7 : t268 = true
 ·subst c7
  have H1 : ((ensembleref12_Few.f k l1 a2_0 a2_1 l3).bind fun t269 => (if t269 = true then ((promise_Earliest.f a0 l1 a2_0 a2_1 l3 a4_0 a4_1 a4_2 a4_3 a4_4 a4_5).bind fun bt270 => (if bt270.2 = 0 then (if bt270.1 < a0 then (ensemblelaw12_PromiseKeeps.j0 k a0 l1 l3 bt270.1 true a2_0 a2_1 a4_0 a4_1 a4_2 a4_3 a4_4 a4_5) else (ensemblelaw12_PromiseKeeps.j0 k a0 l1 l3 bt270.1 (decide (bt270.1 > 1073741825)) a2_0 a2_1 a4_0 a4_1 a4_2 a4_3 a4_4 a4_5)) else (some (bt270.1 == 0)))) else (some true))) = some r := by rw [if_pos rfl] at H; exact H
  clear H
  have H := H1
  clear H1
  replace H := Option.bind_eq_some_iff.mp H
  obtain ⟨t269, A80, H⟩ := H
  replace H : (if t269 = true then ((promise_Earliest.f a0 l1 a2_0 a2_1 l3 a4_0 a4_1 a4_2 a4_3 a4_4 a4_5).bind fun bt270 => (if bt270.2 = 0 then (if bt270.1 < a0 then (ensemblelaw12_PromiseKeeps.j0 k a0 l1 l3 bt270.1 true a2_0 a2_1 a4_0 a4_1 a4_2 a4_3 a4_4 a4_5) else (ensemblelaw12_PromiseKeeps.j0 k a0 l1 l3 bt270.1 (decide (bt270.1 > 1073741825)) a2_0 a2_1 a4_0 a4_1 a4_2 a4_3 a4_4 a4_5)) else (some (bt270.1 == 0)))) else (some true)) = some r := H
  have A8 := Aside0.mk A80
  clear A80
  by_cases c9 : t269 = true
  ·subst c9
   have H1 : ((promise_Earliest.f a0 l1 a2_0 a2_1 l3 a4_0 a4_1 a4_2 a4_3 a4_4 a4_5).bind fun bt270 => (if bt270.2 = 0 then (if bt270.1 < a0 then (ensemblelaw12_PromiseKeeps.j0 k a0 l1 l3 bt270.1 true a2_0 a2_1 a4_0 a4_1 a4_2 a4_3 a4_4 a4_5) else (ensemblelaw12_PromiseKeeps.j0 k a0 l1 l3 bt270.1 (decide (bt270.1 > 1073741825)) a2_0 a2_1 a4_0 a4_1 a4_2 a4_3 a4_4 a4_5)) else (some (bt270.1 == 0)))) = some r := by rw [if_pos rfl] at H; exact H
   clear H
   have H := H1
   clear H1
   replace H := Option.bind_eq_some_iff.mp H
   obtain ⟨⟨t270, t271⟩, A100, H⟩ := H
   replace H : (if t271 = 0 then (if t270 < a0 then (ensemblelaw12_PromiseKeeps.j0 k a0 l1 l3 t270 true a2_0 a2_1 a4_0 a4_1 a4_2 a4_3 a4_4 a4_5) else (ensemblelaw12_PromiseKeeps.j0 k a0 l1 l3 t270 (decide (t270 > 1073741825)) a2_0 a2_1 a4_0 a4_1 a4_2 a4_3 a4_4 a4_5)) else (some (t270 == 0))) = some r := H
   have A10 := Aside0.mk A100
   clear A100
   by_cases c11 : t271 = 0
   ·rw [if_pos c11] at H
    have c11b0 : (t271 == 0) = true := beq_iff_eq.mpr c11
    have c11b1 : (t271 != 0) = false := bne_eq_false_iff_eq.mpr c11
    clear c11
    have HC12 := Aside0.mk H
    clear H
    go_enter Try.func4, Try.ntmps4
    go_upto_region 8 with (first | ((with_reducible refine gate_dst (N := 7) rfl ?_); refine bx 7 #[.int .i64 a2_0, .int .i64 a2_1] 24 ?_; intro gb266 hg w13 hbox hb; have n0_ := Aside0.mk (below_step Z0 hb); have n1_ := Aside0.mk (hbox); have n2_ := Aside0.mk ((by rw [hg]; exact (below_size Z0) : w.heap.size ≤ gb266)); have n3_ := Aside0.mk ((by rw [hg]; exact (below_size Z0) : w.heap.size ≤ gb266)); clear HB; have HB := n0_; have BK266 := n1_; have GW266 := n2_; have GE266 := n3_; clear n0_ n1_ n2_ n3_; clear hb hbox hg) | ((with_reducible refine gate_dst (N := 9) rfl ?_); refine bx 9 #[.int .i64 a4_0, .int .i64 a4_1, .int .i64 a4_2, .int .i64 a4_3, .int .i64 a4_4, .int .i64 a4_5] 29 ?_; intro gb267 hg w14 hbox hb; have n0_ := Aside0.mk (blk_below (g := gb266) (o := .cells #[.int .i64 a2_0, .int .i64 a2_1] 24 (0, 0)) (by (with_reducible repeat (first | refine blk_drewN ?_ _ | refine blk_drew ?_ | refine blk_alloc ?_ _)); exact BK266.out) hb); have n1_ := Aside0.mk (below_step (by repeat (first | (with_reducible first | exact HB.out | apply below_alloc | apply pw_below_drewN | apply below_drew1 | refine below_set ?_ GE266.out) | exact HB.out)) hb); have n2_ := Aside0.mk (hbox); have n3_ := Aside0.mk ((by rw [hg]; exact (below_size (by repeat (first | (with_reducible first | exact HB.out | apply below_alloc | apply pw_below_drewN | apply below_drew1 | refine below_set ?_ GE266.out) | exact HB.out))) : w.heap.size ≤ gb267)); have n4_ := Aside0.mk ((by rw [hg]; exact (below_size (by repeat (first | (with_reducible first | exact HB.out | apply below_alloc | apply pw_below_drewN | apply below_drew1 | refine below_set ?_ GE266.out) | exact HB.out))) : w.heap.size ≤ gb267)); have n5_ := Aside0.mk ((by rw [hg]; exact Nat.ne_of_lt (blk_lt (g := gb266) (o := .cells #[.int .i64 a2_0, .int .i64 a2_1] 24 (0, 0)) (by (with_reducible repeat (first | refine blk_drewN ?_ _ | refine blk_drew ?_ | refine blk_alloc ?_ _)); exact BK266.out)) : gb266 ≠ gb267)); have n6_ := Aside0.mk ((by rw [hg]; exact Nat.ne_of_gt (blk_lt (g := gb266) (o := .cells #[.int .i64 a2_0, .int .i64 a2_1] 24 (0, 0)) (by (with_reducible repeat (first | refine blk_drewN ?_ _ | refine blk_drew ?_ | refine blk_alloc ?_ _)); exact BK266.out)) : gb267 ≠ gb266)); clear BK266; clear HB; have BK266 := n0_; have HB := n1_; have BK267 := n2_; have GW267 := n3_; have GE267 := n4_; have NB266_267 := n5_; have NB267_266 := n6_; clear n0_ n1_ n2_ n3_ n4_ n5_ n6_; clear hb hbox hg) | ((with_reducible refine gate_callee (f := 25) rfl ?_); refine goesL_ (some 15) rfl rfl Try.func25 (by kernel_rfl) rfl #[] rfl Z1 ?_; (with_reducible refine (ensemblelaw12_awake.calls  true _ A6.out).mono ?_); rintro e w15 ⟨rfl, hb⟩; refine ⟨_, rfl, ?_⟩; have n0_ := Aside0.mk (blk_below (g := gb266) (o := .cells #[.int .i64 a2_0, .int .i64 a2_1] 24 (0, 0)) (by (with_reducible repeat (first | refine blk_drewN ?_ _ | refine blk_drew ?_ | refine blk_alloc ?_ _)); exact BK266.out) hb); have n1_ := Aside0.mk (blk_below (g := gb267) (o := .cells #[.int .i64 a4_0, .int .i64 a4_1, .int .i64 a4_2, .int .i64 a4_3, .int .i64 a4_4, .int .i64 a4_5] 29 (0, 0)) (by (with_reducible repeat (first | refine blk_drewN ?_ _ | refine blk_drew ?_ | refine blk_alloc ?_ _)); exact BK267.out) hb); have n2_ := Aside0.mk (below_step (by repeat (first | (with_reducible first | exact HB.out | apply below_alloc | apply pw_below_drewN | apply below_drew1 | refine below_set ?_ GE266.out | refine below_set ?_ GE267.out) | exact HB.out)) hb); clear BK266; clear BK267; clear HB; have BK266 := n0_; have BK267 := n1_; have HB := n2_; clear n0_ n1_ n2_; (try clear hb); (try clear hb2); (try clear hk); (try clear hi); have hnb16 := NB266_267.out; have hnc16 := NB267_266.out; have hcz17_0 : w15.cell? ⟨gb266, 0, none⟩ = some (.int .i64 a2_0) := (blk_cell BK266.out 0).trans rfl; have hcz17_1 : w15.cell? ⟨gb266, 1, none⟩ = some (.int .i64 a2_1) := (blk_cell BK266.out 1).trans rfl; have hfz17_0 := blk_frozen BK266.out 0; have hfz17_1 := blk_frozen BK266.out 1) | ((with_reducible refine gate_callee (f := 26) rfl ?_); refine goesL_ (some 20) rfl rfl Try.func26 (by kernel_rfl) rfl #[.slice A1 l1.length c1, .agg #[.int .i64 a2_0, .int .i64 a2_1], .slice A3 l3.length c3] rfl Z1 ?_; (with_reducible refine (ensembleref12_Few.calls k _ _ l1 a2_0 a2_1 _ _ l3 true _ ?side1 ?side2 ?side3 ?side4 A8.out).mono ?_); (case side1 => repeat (first | exact (Kd.C_below HR1.out HB.out) | (with_reducible refine Kd.C_alloc ?_ _) | (with_reducible refine Kd.C_drewN ?_ _) | (with_reducible refine Kd.C_drew ?_))); (case side2 => exact HC1.out); (case side3 => repeat (first | exact (Kd.C_below HR3.out HB.out) | (with_reducible refine Kd.C_alloc ?_ _) | (with_reducible refine Kd.C_drewN ?_ _) | (with_reducible refine Kd.C_drew ?_))); (case side4 => exact HC3.out); rintro e w18 ⟨rfl, hb⟩; refine ⟨_, rfl, ?_⟩; have n0_ := Aside0.mk (blk_below (g := gb266) (o := .cells #[.int .i64 a2_0, .int .i64 a2_1] 24 (0, 0)) (by (with_reducible repeat (first | refine blk_drewN ?_ _ | refine blk_drew ?_ | refine blk_alloc ?_ _)); exact BK266.out) hb); have n1_ := Aside0.mk (blk_below (g := gb267) (o := .cells #[.int .i64 a4_0, .int .i64 a4_1, .int .i64 a4_2, .int .i64 a4_3, .int .i64 a4_4, .int .i64 a4_5] 29 (0, 0)) (by (with_reducible repeat (first | refine blk_drewN ?_ _ | refine blk_drew ?_ | refine blk_alloc ?_ _)); exact BK267.out) hb); have n2_ := Aside0.mk (below_step (by repeat (first | (with_reducible first | exact HB.out | apply below_alloc | apply pw_below_drewN | apply below_drew1 | refine below_set ?_ GE266.out | refine below_set ?_ GE267.out) | exact HB.out)) hb); clear BK266; clear BK267; clear HB; have BK266 := n0_; have BK267 := n1_; have HB := n2_; clear n0_ n1_ n2_; (try clear hb); (try clear hb2); (try clear hk); (try clear hi); have hcz19_0 : w18.cell? ⟨gb266, 0, none⟩ = some (.int .i64 a2_0) := (blk_cell BK266.out 0).trans rfl; have hcz19_1 : w18.cell? ⟨gb266, 1, none⟩ = some (.int .i64 a2_1) := (blk_cell BK266.out 1).trans rfl; have hfz19_0 := blk_frozen BK266.out 0; have hfz19_1 := blk_frozen BK266.out 1; have hcz20_0 : w18.cell? ⟨gb267, 0, none⟩ = some (.int .i64 a4_0) := (blk_cell BK267.out 0).trans rfl; have hcz20_1 : w18.cell? ⟨gb267, 1, none⟩ = some (.int .i64 a4_1) := (blk_cell BK267.out 1).trans rfl; have hcz20_2 : w18.cell? ⟨gb267, 2, none⟩ = some (.int .i64 a4_2) := (blk_cell BK267.out 2).trans rfl; have hcz20_3 : w18.cell? ⟨gb267, 3, none⟩ = some (.int .i64 a4_3) := (blk_cell BK267.out 3).trans rfl; have hcz20_4 : w18.cell? ⟨gb267, 4, none⟩ = some (.int .i64 a4_4) := (blk_cell BK267.out 4).trans rfl; have hcz20_5 : w18.cell? ⟨gb267, 5, none⟩ = some (.int .i64 a4_5) := (blk_cell BK267.out 5).trans rfl; have hfz20_0 := blk_frozen BK267.out 0; have hfz20_1 := blk_frozen BK267.out 1; have hfz20_2 := blk_frozen BK267.out 2; have hfz20_3 := blk_frozen BK267.out 3; have hfz20_4 := blk_frozen BK267.out 4; have hfz20_5 := blk_frozen BK267.out 5) | ((with_reducible refine gate_callee (f := 27) rfl ?_); refine goesL_ (some 28) rfl rfl Try.func27 (by kernel_rfl) rfl #[.int .i64 a0, .slice A1 l1.length c1, .agg #[.int .i64 a2_0, .int .i64 a2_1], .slice A3 l3.length c3, .agg #[.int .i64 a4_0, .int .i64 a4_1, .int .i64 a4_2, .int .i64 a4_3, .int .i64 a4_4, .int .i64 a4_5]] rfl Z1 ?_; (with_reducible refine (promise_Earliest.calls a0 _ _ l1 a2_0 a2_1 _ _ l3 a4_0 a4_1 a4_2 a4_3 a4_4 a4_5 t270 t271 _ ?side1 ?side2 ?side3 ?side4 A10.out).mono ?_); (case side1 => repeat (first | exact (Kd.C_below HR1.out HB.out) | (with_reducible refine Kd.C_alloc ?_ _) | (with_reducible refine Kd.C_drewN ?_ _) | (with_reducible refine Kd.C_drew ?_))); (case side2 => exact HC1.out); (case side3 => repeat (first | exact (Kd.C_below HR3.out HB.out) | (with_reducible refine Kd.C_alloc ?_ _) | (with_reducible refine Kd.C_drewN ?_ _) | (with_reducible refine Kd.C_drew ?_))); (case side4 => exact HC3.out); rintro e w21 ⟨rfl, hb⟩; refine ⟨_, rfl, ?_⟩; have n0_ := Aside0.mk (blk_below (g := gb266) (o := .cells #[.int .i64 a2_0, .int .i64 a2_1] 24 (0, 0)) (by (with_reducible repeat (first | refine blk_drewN ?_ _ | refine blk_drew ?_ | refine blk_alloc ?_ _)); exact BK266.out) hb); have n1_ := Aside0.mk (blk_below (g := gb267) (o := .cells #[.int .i64 a4_0, .int .i64 a4_1, .int .i64 a4_2, .int .i64 a4_3, .int .i64 a4_4, .int .i64 a4_5] 29 (0, 0)) (by (with_reducible repeat (first | refine blk_drewN ?_ _ | refine blk_drew ?_ | refine blk_alloc ?_ _)); exact BK267.out) hb); have n2_ := Aside0.mk (below_step (by repeat (first | (with_reducible first | exact HB.out | apply below_alloc | apply pw_below_drewN | apply below_drew1 | refine below_set ?_ GE266.out | refine below_set ?_ GE267.out) | exact HB.out)) hb); clear BK266; clear BK267; clear HB; have BK266 := n0_; have BK267 := n1_; have HB := n2_; clear n0_ n1_ n2_; (try clear hb); (try clear hb2); (try clear hk); (try clear hi)))
    (try simp only [Act.put, List.setIfInBounds_toArray, List.set_cons_zero, List.set_cons_succ])
    go_cut [41] (fun v41 wc => ∃ (kq : Nat) (x41_11 : Bool), v41 = .bool x41_11 ∧ Aside0 (ensemblelaw12_PromiseKeeps.j0 kq a0 l1 l3 t270 x41_11 a2_0 a2_1 a4_0 a4_1 a4_2 a4_3 a4_4 a4_5 = some r) ∧ Aside0 (kq ≤ k) ∧ Aside0 (wc.heap[gb266]? = some (.cells #[.int .i64 a2_0, .int .i64 a2_1] 24 (0, 0))) ∧ Aside0 (wc.heap[gb267]? = some (.cells #[.int .i64 a4_0, .int .i64 a4_1, .int .i64 a4_2, .int .i64 a4_3, .int .i64 a4_4, .int .i64 a4_5] 29 (0, 0))) ∧ Aside0 (Below w.heap.size w wc))
    case first =>
     have H := HC12.out
     clear HC12
     by_cases c22 : t270 < a0
     ·rw [if_pos c22] at H
      have c22b0 : decide (t270 < a0) = true := decide_eq_true c22
      clear c22
      (first | rw [c22b0] | (simp only [i64_w, i32_w]; rw [c22b0]) | skip)
      have H' := Aside0.mk H
      clear H
      go_wp2
      go_meet
      case rel => exact ⟨_, (true), Z4, H', ⟨by first | omega | exact Nat.le_refl _⟩, ⟨by (with_reducible repeat (first | refine blk_drewN ?_ _ | refine blk_drew ?_ | refine blk_alloc ?_ _)); exact BK266.out⟩, ⟨by (with_reducible repeat (first | refine blk_drewN ?_ _ | refine blk_drew ?_ | refine blk_alloc ?_ _)); exact BK267.out⟩, ⟨by repeat (first | (with_reducible first | exact HB.out | apply below_alloc | apply pw_below_drewN | apply below_drew1 | refine below_set ?_ GE266.out | refine below_set ?_ GE267.out) | exact HB.out)⟩⟩
     ·rw [if_neg c22] at H
      have c22b0 : decide (t270 < a0) = false := decide_eq_false c22
      clear c22
      (first | rw [c22b0] | (simp only [i64_w, i32_w]; rw [c22b0]) | skip)
      have H' := Aside0.mk H
      clear H
      go_wp2
      go_meet
      case rel => exact ⟨_, (decide (t270 > 1073741825)), Z4, H', ⟨by first | omega | exact Nat.le_refl _⟩, ⟨by (with_reducible repeat (first | refine blk_drewN ?_ _ | refine blk_drew ?_ | refine blk_alloc ?_ _)); exact BK266.out⟩, ⟨by (with_reducible repeat (first | refine blk_drewN ?_ _ | refine blk_drew ?_ | refine blk_alloc ?_ _)); exact BK267.out⟩, ⟨by repeat (first | (with_reducible first | exact HB.out | apply below_alloc | apply pw_below_drewN | apply below_drew1 | refine below_set ?_ GE266.out | refine below_set ?_ GE267.out) | exact HB.out)⟩⟩
    case rest =>
     clear HC12
     try clear c1
     try clear c2
     try clear p2
     try clear c3
     try clear c4
     try clear c7
     try clear c9
     try clear c11
     try clear c11b0
     try clear c11b1
     try clear c16
     try clear c22
     try clear c22b0
     try clear hcz17_0
     try clear hcz17_1
     try clear hcz19_0
     try clear hcz19_1
     try clear hcz20_0
     try clear hcz20_1
     try clear hcz20_2
     try clear hcz20_3
     try clear hcz20_4
     try clear hcz20_5
     try clear hfz17_0
     try clear hfz17_1
     try clear hfz19_0
     try clear hfz19_1
     try clear hfz20_0
     try clear hfz20_1
     try clear hfz20_2
     try clear hfz20_3
     try clear hfz20_4
     try clear hfz20_5
     obtain ⟨kq, x41_11, rfl, HA, HJ11, BK266, BK267, HB⟩ := hcut
     cases kq with
     | zero => exact absurd HA.out (by simp [ensemblelaw12_PromiseKeeps.j0])
     | succ kj11 =>
      have H := HA.out
      clear HA
      simp only [ensemblelaw12_PromiseKeeps.j0] at H
      by_cases c23 : x41_11 = true
      ·subst c23
       have H1 : (some false) = some r := by rw [if_pos rfl] at H; exact H
       clear H
       have H := H1
       clear H1
       obtain rfl := Option.some.inj H
       go_wp2
       go_ret
       exact ⟨by first | rfl | (simp [errW_none, errW_some] <;> rfl) | (simp [*, errW_none, errW_some] <;> rfl), by repeat (first | (with_reducible first | exact HB.out | apply below_alloc | apply pw_below_drewN | apply below_drew1 | refine below_set ?_ GE266.out | refine below_set ?_ GE267.out) | exact HB.out)⟩
      ·replace c23 := Bool.eq_false_iff.mpr c23
       subst c23
       have H1 : (if t270 < 1073741825 then ((ensembleref12_At.f kj11 t270 l1 a2_0 a2_1 l3 a4_0 a4_1 a4_2 a4_3 a4_4 a4_5).bind fun t272 => (ensemblelaw12_PromiseKeeps.j1 kj11 a0 l1 l3 t270 (!t272) a2_0 a2_1 a4_0 a4_1 a4_2 a4_3 a4_4 a4_5)) else (ensemblelaw12_PromiseKeeps.j1 kj11 a0 l1 l3 t270 false a2_0 a2_1 a4_0 a4_1 a4_2 a4_3 a4_4 a4_5)) = some r := by rw [if_neg (show ¬ (false = true) by decide)] at H; exact H
       clear H
       have H := H1
       clear H1
       have HC24 := Aside0.mk H
       clear H
       go_upto_region 10 with (fail)
       go_cut [52] (fun v52 wc => ∃ (kq : Nat) (x52_23 : Bool), v52 = .bool x52_23 ∧ Aside0 (ensemblelaw12_PromiseKeeps.j1 kq a0 l1 l3 t270 x52_23 a2_0 a2_1 a4_0 a4_1 a4_2 a4_3 a4_4 a4_5 = some r) ∧ Aside0 (kq ≤ kj11) ∧ Aside0 (wc.heap[gb266]? = some (.cells #[.int .i64 a2_0, .int .i64 a2_1] 24 (0, 0))) ∧ Aside0 (wc.heap[gb267]? = some (.cells #[.int .i64 a4_0, .int .i64 a4_1, .int .i64 a4_2, .int .i64 a4_3, .int .i64 a4_4, .int .i64 a4_5] 29 (0, 0))) ∧ Aside0 (Below w.heap.size w wc))
       case first =>
        have H := HC24.out
        clear HC24
        by_cases c25 : t270 < 1073741825
        ·rw [if_pos c25] at H
         have c25b0 : decide (t270 < 1073741825) = true := decide_eq_true c25
         clear c25
         (first | rw [c25b0] | (simp only [i64_w, i32_w]; rw [c25b0]) | skip)
         replace H := Option.bind_eq_some_iff.mp H
         obtain ⟨t272, A260, H⟩ := H
         replace H : (ensemblelaw12_PromiseKeeps.j1 kj11 a0 l1 l3 t270 (!t272) a2_0 a2_1 a4_0 a4_1 a4_2 a4_3 a4_4 a4_5) = some r := H
         have A26 := Aside0.mk A260
         clear A260
         have H' := Aside0.mk H
         clear H
         have hnb27 := NB266_267.out
         have hnc27 := NB267_266.out
         have hcz28_0 : wc.cell? ⟨gb266, 0, none⟩ = some (.int .i64 a2_0) := (blk_cell BK266.out 0).trans rfl
         have hcz28_1 : wc.cell? ⟨gb266, 1, none⟩ = some (.int .i64 a2_1) := (blk_cell BK266.out 1).trans rfl
         have hfz28_0 := blk_frozen BK266.out 0
         have hfz28_1 := blk_frozen BK266.out 1
         have hcz29_0 : wc.cell? ⟨gb267, 0, none⟩ = some (.int .i64 a4_0) := (blk_cell BK267.out 0).trans rfl
         have hcz29_1 : wc.cell? ⟨gb267, 1, none⟩ = some (.int .i64 a4_1) := (blk_cell BK267.out 1).trans rfl
         have hcz29_2 : wc.cell? ⟨gb267, 2, none⟩ = some (.int .i64 a4_2) := (blk_cell BK267.out 2).trans rfl
         have hcz29_3 : wc.cell? ⟨gb267, 3, none⟩ = some (.int .i64 a4_3) := (blk_cell BK267.out 3).trans rfl
         have hcz29_4 : wc.cell? ⟨gb267, 4, none⟩ = some (.int .i64 a4_4) := (blk_cell BK267.out 4).trans rfl
         have hcz29_5 : wc.cell? ⟨gb267, 5, none⟩ = some (.int .i64 a4_5) := (blk_cell BK267.out 5).trans rfl
         have hfz29_0 := blk_frozen BK267.out 0
         have hfz29_1 := blk_frozen BK267.out 1
         have hfz29_2 := blk_frozen BK267.out 2
         have hfz29_3 := blk_frozen BK267.out 3
         have hfz29_4 := blk_frozen BK267.out 4
         have hfz29_5 := blk_frozen BK267.out 5
         go_wp2_with (first | (go_at_call 31; (with_reducible refine (ensembleref12_At.calls kj11 t270 _ _ l1 a2_0 a2_1 _ _ l3 a4_0 a4_1 a4_2 a4_3 a4_4 a4_5 t272 _ ?side1 ?side2 ?side3 ?side4 A26.out).mono ?_); (case side1 => repeat (first | exact (Kd.C_below HR1.out HB.out) | (with_reducible refine Kd.C_alloc ?_ _) | (with_reducible refine Kd.C_drewN ?_ _) | (with_reducible refine Kd.C_drew ?_))); (case side2 => exact HC1.out); (case side3 => repeat (first | exact (Kd.C_below HR3.out HB.out) | (with_reducible refine Kd.C_alloc ?_ _) | (with_reducible refine Kd.C_drewN ?_ _) | (with_reducible refine Kd.C_drew ?_))); (case side4 => exact HC3.out); rintro e w30 ⟨rfl, hb⟩; have n0_ := Aside0.mk (blk_below (g := gb266) (o := .cells #[.int .i64 a2_0, .int .i64 a2_1] 24 (0, 0)) (by (with_reducible repeat (first | refine blk_drewN ?_ _ | refine blk_drew ?_ | refine blk_alloc ?_ _)); exact BK266.out) hb); have n1_ := Aside0.mk (blk_below (g := gb267) (o := .cells #[.int .i64 a4_0, .int .i64 a4_1, .int .i64 a4_2, .int .i64 a4_3, .int .i64 a4_4, .int .i64 a4_5] 29 (0, 0)) (by (with_reducible repeat (first | refine blk_drewN ?_ _ | refine blk_drew ?_ | refine blk_alloc ?_ _)); exact BK267.out) hb); have n2_ := Aside0.mk (below_step (by repeat (first | (with_reducible first | exact HB.out | apply below_alloc | apply pw_below_drewN | apply below_drew1 | refine below_set ?_ GE266.out | refine below_set ?_ GE267.out) | exact HB.out)) hb); clear BK266; clear BK267; clear HB; have BK266 := n0_; have BK267 := n1_; have HB := n2_; clear n0_ n1_ n2_; (try clear hb); (try clear hb2); (try clear hk); (try clear hi)))
         go_meet
         case rel => exact ⟨_, (!t272), Z4, H', ⟨by have := HJ11.out; first | omega | exact Nat.le_refl _⟩, ⟨by (with_reducible repeat (first | refine blk_drewN ?_ _ | refine blk_drew ?_ | refine blk_alloc ?_ _)); exact BK266.out⟩, ⟨by (with_reducible repeat (first | refine blk_drewN ?_ _ | refine blk_drew ?_ | refine blk_alloc ?_ _)); exact BK267.out⟩, ⟨by repeat (first | (with_reducible first | exact HB.out | apply below_alloc | apply pw_below_drewN | apply below_drew1 | refine below_set ?_ GE266.out | refine below_set ?_ GE267.out) | exact HB.out)⟩⟩
        ·rw [if_neg c25] at H
         have c25b0 : decide (t270 < 1073741825) = false := decide_eq_false c25
         clear c25
         (first | rw [c25b0] | (simp only [i64_w, i32_w]; rw [c25b0]) | skip)
         have H' := Aside0.mk H
         clear H
         go_wp2
         go_meet
         case rel => exact ⟨_, (false), Z4, H', ⟨by have := HJ11.out; first | omega | exact Nat.le_refl _⟩, ⟨by (with_reducible repeat (first | refine blk_drewN ?_ _ | refine blk_drew ?_ | refine blk_alloc ?_ _)); exact BK266.out⟩, ⟨by (with_reducible repeat (first | refine blk_drewN ?_ _ | refine blk_drew ?_ | refine blk_alloc ?_ _)); exact BK267.out⟩, ⟨by repeat (first | (with_reducible first | exact HB.out | apply below_alloc | apply pw_below_drewN | apply below_drew1 | refine below_set ?_ GE266.out | refine below_set ?_ GE267.out) | exact HB.out)⟩⟩
       case rest =>
        clear HC24
        try clear c1
        try clear c2
        try clear p2
        try clear c3
        try clear c4
        try clear c7
        try clear c9
        try clear c11
        try clear c11b0
        try clear c11b1
        try clear c16
        try clear c22
        try clear c22b0
        try clear c23
        try clear c25
        try clear c25b0
        try clear c26
        try clear c27
        try clear hcz17_0
        try clear hcz17_1
        try clear hcz19_0
        try clear hcz19_1
        try clear hcz20_0
        try clear hcz20_1
        try clear hcz20_2
        try clear hcz20_3
        try clear hcz20_4
        try clear hcz20_5
        try clear hcz28_0
        try clear hcz28_1
        try clear hcz29_0
        try clear hcz29_1
        try clear hcz29_2
        try clear hcz29_3
        try clear hcz29_4
        try clear hcz29_5
        try clear hfz17_0
        try clear hfz17_1
        try clear hfz19_0
        try clear hfz19_1
        try clear hfz20_0
        try clear hfz20_1
        try clear hfz20_2
        try clear hfz20_3
        try clear hfz20_4
        try clear hfz20_5
        try clear hfz28_0
        try clear hfz28_1
        try clear hfz29_0
        try clear hfz29_1
        try clear hfz29_2
        try clear hfz29_3
        try clear hfz29_4
        try clear hfz29_5
        try clear p2
        obtain ⟨kq, x52_23, rfl, HA, HJ23, BK266, BK267, HB⟩ := hcut
        cases kq with
        | zero => exact absurd HA.out (by simp [ensemblelaw12_PromiseKeeps.j1])
        | succ kj23 =>
         have H := HA.out
         clear HA
         simp only [ensemblelaw12_PromiseKeeps.j1] at H
         by_cases c31 : x52_23 = true
         ·subst c31
          have H1 : (some false) = some r := by rw [if_pos rfl] at H; exact H
          clear H
          have H := H1
          clear H1
          obtain rfl := Option.some.inj H
          go_wp2
          go_ret
          exact ⟨by first | rfl | (simp [errW_none, errW_some] <;> rfl) | (simp [*, errW_none, errW_some] <;> rfl), by repeat (first | (with_reducible first | exact HB.out | apply below_alloc | apply pw_below_drewN | apply below_drew1 | refine below_set ?_ GE266.out | refine below_set ?_ GE267.out) | exact HB.out)⟩
         ·replace c31 := Bool.eq_false_iff.mpr c31
          subst c31
          have H1 : (ensemblelaw12_PromiseKeeps.l0 kj23 a0 l1 l3 t270 0 a2_0 a2_1 a4_0 a4_1 a4_2 a4_3 a4_4 a4_5) = some r := by rw [if_neg (show ¬ (false = true) by decide)] at H; exact H
          clear H
          have H := H1
          clear H1
          have H' := Aside0.mk H
          clear H
          go_wp2
          go_loopg [13] kj23 (fun kq v13 w' => ∃ (x13_3 : Int), v13 = .int .i64 x13_3 ∧ Aside0 (ensemblelaw12_PromiseKeeps.l0 kq a0 l1 l3 t270 x13_3 a2_0 a2_1 a4_0 a4_1 a4_2 a4_3 a4_4 a4_5 = some r) ∧ Aside0 (kq ≤ kj23) ∧ Aside0 (w'.heap[gb266]? = some (.cells #[.int .i64 a2_0, .int .i64 a2_1] 24 (0, 0))) ∧ Aside0 (w'.heap[gb267]? = some (.cells #[.int .i64 a4_0, .int .i64 a4_1, .int .i64 a4_2, .int .i64 a4_3, .int .i64 a4_4, .int .i64 a4_5] 29 (0, 0))) ∧ Aside0 (Below w.heap.size w w'))
          case atStart => exact ⟨(0), Z4, H', ⟨Nat.le_refl _⟩, ⟨by (with_reducible repeat (first | refine blk_drewN ?_ _ | refine blk_drew ?_ | refine blk_alloc ?_ _)); exact BK266.out⟩, ⟨by (with_reducible repeat (first | refine blk_drewN ?_ _ | refine blk_drew ?_ | refine blk_alloc ?_ _)); exact BK267.out⟩, ⟨by repeat (first | (with_reducible first | exact HB.out | apply below_alloc | apply pw_below_drewN | apply below_drew1 | refine below_set ?_ GE266.out | refine below_set ?_ GE267.out) | exact HB.out)⟩⟩
          case round =>
           clear H'
           try clear c1
           try clear c2
           try clear p2
           try clear c3
           try clear c4
           try clear c7
           try clear c9
           try clear c11
           try clear c11b0
           try clear c11b1
           try clear c16
           try clear c22
           try clear c22b0
           try clear c23
           try clear c25
           try clear c25b0
           try clear c26
           try clear c27
           try clear c31
           try clear hcz17_0
           try clear hcz17_1
           try clear hcz19_0
           try clear hcz19_1
           try clear hcz20_0
           try clear hcz20_1
           try clear hcz20_2
           try clear hcz20_3
           try clear hcz20_4
           try clear hcz20_5
           try clear hcz28_0
           try clear hcz28_1
           try clear hcz29_0
           try clear hcz29_1
           try clear hcz29_2
           try clear hcz29_3
           try clear hcz29_4
           try clear hcz29_5
           try clear hfz17_0
           try clear hfz17_1
           try clear hfz19_0
           try clear hfz19_1
           try clear hfz20_0
           try clear hfz20_1
           try clear hfz20_2
           try clear hfz20_3
           try clear hfz20_4
           try clear hfz20_5
           try clear hfz28_0
           try clear hfz28_1
           try clear hfz29_0
           try clear hfz29_1
           try clear hfz29_2
           try clear hfz29_3
           try clear hfz29_4
           try clear hfz29_5
           try clear p2
           obtain ⟨x13_3, rfl, HA, HK3, BK266, BK267, HB⟩ := hrel
           cases gk with
           | zero => exact absurd HA.out (by simp [ensemblelaw12_PromiseKeeps.l0])
           | succ k3 =>
            have H := HA.out
            clear HA
            simp only [ensemblelaw12_PromiseKeeps.l0] at H
            by_cases c32 : x13_3 < (l3.length : Int)
            ·rw [if_pos c32] at H
             have c32b0 : decide (x13_3 < (l3.length : Int)) = true := decide_eq_true c32
             clear c32
             by_cases c33 : 0 ≤ x13_3
             ·rw [if_pos c33] at H
              have c33b0 : decide (0 ≤ x13_3) = true := decide_eq_true c33
              clear c33
              by_cases c34 : ((rd_T41 l3 x13_3).f2) ≥ a0
              ·rw [if_pos c34] at H
               have c34b0 : decide (a0 ≤ ((rd_T41 l3 x13_3).f2)) = true := decide_eq_true c34
               clear c34
               by_cases c35 : ((rd_T41 l3 x13_3).f2) < t270
               ·rw [if_pos c35] at H
                have c35b0 : decide (((rd_T41 l3 x13_3).f2) < t270) = true := decide_eq_true c35
                clear c35
                replace H := Option.bind_eq_some_iff.mp H
                obtain ⟨t274, A360, H⟩ := H
                replace H : (if t274 = true then (some false) else (ensemblelaw12_PromiseKeeps.l0 k3 a0 l1 l3 t270 (wrap64 (x13_3 + 1)) a2_0 a2_1 a4_0 a4_1 a4_2 a4_3 a4_4 a4_5)) = some r := H
                have A36 := Aside0.mk A360
                clear A360
                by_cases c37 : t274 = true
                ·subst c37
                 have H1 : (some false) = some r := by rw [if_pos rfl] at H; exact H
                 clear H
                 have H := H1
                 clear H1
                 obtain rfl := Option.some.inj H
                 have p273 : 0 ≤ (x13_3 : Int) := of_decide_eq_true Z2
                 have q273 : x13_3 < (l3.length : Int) := of_decide_eq_true Z2
                 obtain ⟨ad273, A273_4, c273_4, e273, hx273_0, hx273_1, hx273_2, hx273_3, hx273_4, hl273_4, hi273_4⟩ := at_T41 HR3.out x13_3 p273 q273
                 cases e273
                 replace hx273_0 := (HB.out.cell (World.block_lt_of_cell? w _ hx273_0)).trans hx273_0
                 replace hx273_1 := (HB.out.cell (World.block_lt_of_cell? w _ hx273_1)).trans hx273_1
                 replace hx273_2 := (HB.out.cell (World.block_lt_of_cell? w _ hx273_2)).trans hx273_2
                 replace hx273_3 := (HB.out.cell (World.block_lt_of_cell? w _ hx273_3)).trans hx273_3
                 replace hx273_4 := (HB.out.cell (World.block_lt_of_cell? w _ hx273_4)).trans hx273_4
                 have HR273_4 := Aside0.mk hi273_4
                 have HC273_4 := Aside0.mk hl273_4
                 clear hi273_4 hl273_4
                 replace p273 := eq_true p273
                 replace q273 := eq_true q273
                 have hnb38 := NB266_267.out
                 have hnc38 := NB267_266.out
                 have hcz39_0 : wr.cell? ⟨gb266, 0, none⟩ = some (.int .i64 a2_0) := (blk_cell BK266.out 0).trans rfl
                 have hcz39_1 : wr.cell? ⟨gb266, 1, none⟩ = some (.int .i64 a2_1) := (blk_cell BK266.out 1).trans rfl
                 have hfz39_0 := blk_frozen BK266.out 0
                 have hfz39_1 := blk_frozen BK266.out 1
                 have hcz40_0 : wr.cell? ⟨gb267, 0, none⟩ = some (.int .i64 a4_0) := (blk_cell BK267.out 0).trans rfl
                 have hcz40_1 : wr.cell? ⟨gb267, 1, none⟩ = some (.int .i64 a4_1) := (blk_cell BK267.out 1).trans rfl
                 have hcz40_2 : wr.cell? ⟨gb267, 2, none⟩ = some (.int .i64 a4_2) := (blk_cell BK267.out 2).trans rfl
                 have hcz40_3 : wr.cell? ⟨gb267, 3, none⟩ = some (.int .i64 a4_3) := (blk_cell BK267.out 3).trans rfl
                 have hcz40_4 : wr.cell? ⟨gb267, 4, none⟩ = some (.int .i64 a4_4) := (blk_cell BK267.out 4).trans rfl
                 have hcz40_5 : wr.cell? ⟨gb267, 5, none⟩ = some (.int .i64 a4_5) := (blk_cell BK267.out 5).trans rfl
                 have hfz40_0 := blk_frozen BK267.out 0
                 have hfz40_1 := blk_frozen BK267.out 1
                 have hfz40_2 := blk_frozen BK267.out 2
                 have hfz40_3 := blk_frozen BK267.out 3
                 have hfz40_4 := blk_frozen BK267.out 4
                 have hfz40_5 := blk_frozen BK267.out 5
                 go_wp2_with (first | (go_at_call 31; (with_reducible refine (ensembleref12_At.calls k3 ((rd_T41 l3 x13_3).f2) _ _ l1 a2_0 a2_1 _ _ l3 a4_0 a4_1 a4_2 a4_3 a4_4 a4_5 true _ ?side1 ?side2 ?side3 ?side4 A36.out).mono ?_); (case side1 => repeat (first | exact (Kd.C_below HR1.out HB.out) | (with_reducible refine Kd.C_alloc ?_ _) | (with_reducible refine Kd.C_drewN ?_ _) | (with_reducible refine Kd.C_drew ?_))); (case side2 => exact HC1.out); (case side3 => repeat (first | exact (Kd.C_below HR3.out HB.out) | (with_reducible refine Kd.C_alloc ?_ _) | (with_reducible refine Kd.C_drewN ?_ _) | (with_reducible refine Kd.C_drew ?_))); (case side4 => exact HC3.out); rintro e w41 ⟨rfl, hb⟩; have n0_ := Aside0.mk (blk_below (g := gb266) (o := .cells #[.int .i64 a2_0, .int .i64 a2_1] 24 (0, 0)) (by (with_reducible repeat (first | refine blk_drewN ?_ _ | refine blk_drew ?_ | refine blk_alloc ?_ _)); exact BK266.out) hb); have n1_ := Aside0.mk (blk_below (g := gb267) (o := .cells #[.int .i64 a4_0, .int .i64 a4_1, .int .i64 a4_2, .int .i64 a4_3, .int .i64 a4_4, .int .i64 a4_5] 29 (0, 0)) (by (with_reducible repeat (first | refine blk_drewN ?_ _ | refine blk_drew ?_ | refine blk_alloc ?_ _)); exact BK267.out) hb); have n2_ := Aside0.mk (below_step (by repeat (first | (with_reducible first | exact HB.out | apply below_alloc | apply pw_below_drewN | apply below_drew1 | refine below_set ?_ GE266.out | refine below_set ?_ GE267.out) | exact HB.out)) hb); clear BK266; clear BK267; clear HB; have BK266 := n0_; have BK267 := n1_; have HB := n2_; clear n0_ n1_ n2_; (try clear hb); (try clear hb2); (try clear hk); (try clear hi)))
                 go_ret
                 exact ⟨by first | rfl | (simp [errW_none, errW_some] <;> rfl) | (simp [*, errW_none, errW_some] <;> rfl), by repeat (first | (with_reducible first | exact HB.out | apply below_alloc | apply pw_below_drewN | apply below_drew1 | refine below_set ?_ GE266.out | refine below_set ?_ GE267.out) | exact HB.out)⟩
                ·replace c37 := Bool.eq_false_iff.mpr c37
                 subst c37
                 have H1 : (ensemblelaw12_PromiseKeeps.l0 k3 a0 l1 l3 t270 (wrap64 (x13_3 + 1)) a2_0 a2_1 a4_0 a4_1 a4_2 a4_3 a4_4 a4_5) = some r := by rw [if_neg (show ¬ (false = true) by decide)] at H; exact H
                 clear H
                 have H := H1
                 clear H1
                 have H' := Aside0.mk H
                 clear H
                 have p273 : 0 ≤ (x13_3 : Int) := of_decide_eq_true Z2
                 have q273 : x13_3 < (l3.length : Int) := of_decide_eq_true Z2
                 obtain ⟨ad273, A273_4, c273_4, e273, hx273_0, hx273_1, hx273_2, hx273_3, hx273_4, hl273_4, hi273_4⟩ := at_T41 HR3.out x13_3 p273 q273
                 cases e273
                 replace hx273_0 := (HB.out.cell (World.block_lt_of_cell? w _ hx273_0)).trans hx273_0
                 replace hx273_1 := (HB.out.cell (World.block_lt_of_cell? w _ hx273_1)).trans hx273_1
                 replace hx273_2 := (HB.out.cell (World.block_lt_of_cell? w _ hx273_2)).trans hx273_2
                 replace hx273_3 := (HB.out.cell (World.block_lt_of_cell? w _ hx273_3)).trans hx273_3
                 replace hx273_4 := (HB.out.cell (World.block_lt_of_cell? w _ hx273_4)).trans hx273_4
                 have HR273_4 := Aside0.mk hi273_4
                 have HC273_4 := Aside0.mk hl273_4
                 clear hi273_4 hl273_4
                 replace p273 := eq_true p273
                 replace q273 := eq_true q273
                 have hnb42 := NB266_267.out
                 have hnc42 := NB267_266.out
                 have hcz43_0 : wr.cell? ⟨gb266, 0, none⟩ = some (.int .i64 a2_0) := (blk_cell BK266.out 0).trans rfl
                 have hcz43_1 : wr.cell? ⟨gb266, 1, none⟩ = some (.int .i64 a2_1) := (blk_cell BK266.out 1).trans rfl
                 have hfz43_0 := blk_frozen BK266.out 0
                 have hfz43_1 := blk_frozen BK266.out 1
                 have hcz44_0 : wr.cell? ⟨gb267, 0, none⟩ = some (.int .i64 a4_0) := (blk_cell BK267.out 0).trans rfl
                 have hcz44_1 : wr.cell? ⟨gb267, 1, none⟩ = some (.int .i64 a4_1) := (blk_cell BK267.out 1).trans rfl
                 have hcz44_2 : wr.cell? ⟨gb267, 2, none⟩ = some (.int .i64 a4_2) := (blk_cell BK267.out 2).trans rfl
                 have hcz44_3 : wr.cell? ⟨gb267, 3, none⟩ = some (.int .i64 a4_3) := (blk_cell BK267.out 3).trans rfl
                 have hcz44_4 : wr.cell? ⟨gb267, 4, none⟩ = some (.int .i64 a4_4) := (blk_cell BK267.out 4).trans rfl
                 have hcz44_5 : wr.cell? ⟨gb267, 5, none⟩ = some (.int .i64 a4_5) := (blk_cell BK267.out 5).trans rfl
                 have hfz44_0 := blk_frozen BK267.out 0
                 have hfz44_1 := blk_frozen BK267.out 1
                 have hfz44_2 := blk_frozen BK267.out 2
                 have hfz44_3 := blk_frozen BK267.out 3
                 have hfz44_4 := blk_frozen BK267.out 4
                 have hfz44_5 := blk_frozen BK267.out 5
                 go_wp2_with (first | (go_at_call 31; (with_reducible refine (ensembleref12_At.calls k3 ((rd_T41 l3 x13_3).f2) _ _ l1 a2_0 a2_1 _ _ l3 a4_0 a4_1 a4_2 a4_3 a4_4 a4_5 false _ ?side1 ?side2 ?side3 ?side4 A36.out).mono ?_); (case side1 => repeat (first | exact (Kd.C_below HR1.out HB.out) | (with_reducible refine Kd.C_alloc ?_ _) | (with_reducible refine Kd.C_drewN ?_ _) | (with_reducible refine Kd.C_drew ?_))); (case side2 => exact HC1.out); (case side3 => repeat (first | exact (Kd.C_below HR3.out HB.out) | (with_reducible refine Kd.C_alloc ?_ _) | (with_reducible refine Kd.C_drewN ?_ _) | (with_reducible refine Kd.C_drew ?_))); (case side4 => exact HC3.out); rintro e w45 ⟨rfl, hb⟩; have n0_ := Aside0.mk (blk_below (g := gb266) (o := .cells #[.int .i64 a2_0, .int .i64 a2_1] 24 (0, 0)) (by (with_reducible repeat (first | refine blk_drewN ?_ _ | refine blk_drew ?_ | refine blk_alloc ?_ _)); exact BK266.out) hb); have n1_ := Aside0.mk (blk_below (g := gb267) (o := .cells #[.int .i64 a4_0, .int .i64 a4_1, .int .i64 a4_2, .int .i64 a4_3, .int .i64 a4_4, .int .i64 a4_5] 29 (0, 0)) (by (with_reducible repeat (first | refine blk_drewN ?_ _ | refine blk_drew ?_ | refine blk_alloc ?_ _)); exact BK267.out) hb); have n2_ := Aside0.mk (below_step (by repeat (first | (with_reducible first | exact HB.out | apply below_alloc | apply pw_below_drewN | apply below_drew1 | refine below_set ?_ GE266.out | refine below_set ?_ GE267.out) | exact HB.out)) hb); clear BK266; clear BK267; clear HB; have BK266 := n0_; have BK267 := n1_; have HB := n2_; clear n0_ n1_ n2_; (try clear hb); (try clear hb2); (try clear hk); (try clear hi)))
                 go_roundg k3
                 case measure => have := HJ11.out; have := HJ23.out; have := HK3.out; omega
                 case rel => exact ⟨(wrap64 (x13_3 + 1)), Z4, H', ⟨by have := HJ11.out; have := HJ23.out; have := HK3.out; omega⟩, ⟨by (with_reducible repeat (first | refine blk_drewN ?_ _ | refine blk_drew ?_ | refine blk_alloc ?_ _)); exact BK266.out⟩, ⟨by (with_reducible repeat (first | refine blk_drewN ?_ _ | refine blk_drew ?_ | refine blk_alloc ?_ _)); exact BK267.out⟩, ⟨by repeat (first | (with_reducible first | exact HB.out | apply below_alloc | apply pw_below_drewN | apply below_drew1 | refine below_set ?_ GE266.out | refine below_set ?_ GE267.out) | exact HB.out)⟩⟩
               ·rw [if_neg c35] at H
                have c35b0 : decide (((rd_T41 l3 x13_3).f2) < t270) = false := decide_eq_false c35
                clear c35
                have H' := Aside0.mk H
                clear H
                have p273 : 0 ≤ (x13_3 : Int) := of_decide_eq_true Z2
                have q273 : x13_3 < (l3.length : Int) := of_decide_eq_true Z2
                obtain ⟨ad273, A273_4, c273_4, e273, hx273_0, hx273_1, hx273_2, hx273_3, hx273_4, hl273_4, hi273_4⟩ := at_T41 HR3.out x13_3 p273 q273
                cases e273
                replace hx273_0 := (HB.out.cell (World.block_lt_of_cell? w _ hx273_0)).trans hx273_0
                replace hx273_1 := (HB.out.cell (World.block_lt_of_cell? w _ hx273_1)).trans hx273_1
                replace hx273_2 := (HB.out.cell (World.block_lt_of_cell? w _ hx273_2)).trans hx273_2
                replace hx273_3 := (HB.out.cell (World.block_lt_of_cell? w _ hx273_3)).trans hx273_3
                replace hx273_4 := (HB.out.cell (World.block_lt_of_cell? w _ hx273_4)).trans hx273_4
                have HR273_4 := Aside0.mk hi273_4
                have HC273_4 := Aside0.mk hl273_4
                clear hi273_4 hl273_4
                replace p273 := eq_true p273
                replace q273 := eq_true q273
                go_wp2
                go_roundg k3
                case measure => have := HJ11.out; have := HJ23.out; have := HK3.out; omega
                case rel => exact ⟨(wrap64 (x13_3 + 1)), Z4, H', ⟨by have := HJ11.out; have := HJ23.out; have := HK3.out; omega⟩, ⟨by (with_reducible repeat (first | refine blk_drewN ?_ _ | refine blk_drew ?_ | refine blk_alloc ?_ _)); exact BK266.out⟩, ⟨by (with_reducible repeat (first | refine blk_drewN ?_ _ | refine blk_drew ?_ | refine blk_alloc ?_ _)); exact BK267.out⟩, ⟨by repeat (first | (with_reducible first | exact HB.out | apply below_alloc | apply pw_below_drewN | apply below_drew1 | refine below_set ?_ GE266.out | refine below_set ?_ GE267.out) | exact HB.out)⟩⟩
              ·rw [if_neg c34] at H
               have c34b0 : decide (a0 ≤ ((rd_T41 l3 x13_3).f2)) = false := decide_eq_false c34
               clear c34
               have H' := Aside0.mk H
               clear H
               have p273 : 0 ≤ (x13_3 : Int) := of_decide_eq_true Z2
               have q273 : x13_3 < (l3.length : Int) := of_decide_eq_true Z2
               obtain ⟨ad273, A273_4, c273_4, e273, hx273_0, hx273_1, hx273_2, hx273_3, hx273_4, hl273_4, hi273_4⟩ := at_T41 HR3.out x13_3 p273 q273
               cases e273
               replace hx273_0 := (HB.out.cell (World.block_lt_of_cell? w _ hx273_0)).trans hx273_0
               replace hx273_1 := (HB.out.cell (World.block_lt_of_cell? w _ hx273_1)).trans hx273_1
               replace hx273_2 := (HB.out.cell (World.block_lt_of_cell? w _ hx273_2)).trans hx273_2
               replace hx273_3 := (HB.out.cell (World.block_lt_of_cell? w _ hx273_3)).trans hx273_3
               replace hx273_4 := (HB.out.cell (World.block_lt_of_cell? w _ hx273_4)).trans hx273_4
               have HR273_4 := Aside0.mk hi273_4
               have HC273_4 := Aside0.mk hl273_4
               clear hi273_4 hl273_4
               replace p273 := eq_true p273
               replace q273 := eq_true q273
               go_wp2
               go_roundg k3
               case measure => have := HJ11.out; have := HJ23.out; have := HK3.out; omega
               case rel => exact ⟨(wrap64 (x13_3 + 1)), Z4, H', ⟨by have := HJ11.out; have := HJ23.out; have := HK3.out; omega⟩, ⟨by (with_reducible repeat (first | refine blk_drewN ?_ _ | refine blk_drew ?_ | refine blk_alloc ?_ _)); exact BK266.out⟩, ⟨by (with_reducible repeat (first | refine blk_drewN ?_ _ | refine blk_drew ?_ | refine blk_alloc ?_ _)); exact BK267.out⟩, ⟨by repeat (first | (with_reducible first | exact HB.out | apply below_alloc | apply pw_below_drewN | apply below_drew1 | refine below_set ?_ GE266.out | refine below_set ?_ GE267.out) | exact HB.out)⟩⟩
             ·rw [if_neg c33] at H
              exact absurd H (by simp)
            ·rw [if_neg c32] at H
             have c32b0 : decide (x13_3 < (l3.length : Int)) = false := decide_eq_false c32
             clear c32
             by_cases c46 : t270 = a0
             ·rw [if_pos c46] at H
              have c46b0 : (t270 == a0) = true := beq_iff_eq.mpr c46
              have c46b1 : (t270 != a0) = false := bne_eq_false_iff_eq.mpr c46
              clear c46
              obtain rfl := Option.some.inj H
              go_wp2
              go_ret
              exact ⟨by first | rfl | (simp [errW_none, errW_some] <;> rfl) | (simp [*, errW_none, errW_some] <;> rfl), by repeat (first | (with_reducible first | exact HB.out | apply below_alloc | apply pw_below_drewN | apply below_drew1 | refine below_set ?_ GE266.out | refine below_set ?_ GE267.out) | exact HB.out)⟩
             ·rw [if_neg c46] at H
              have c46b0 : (t270 == a0) = false := beq_eq_false_iff_ne.mpr c46
              have c46b1 : (t270 != a0) = true := bne_iff_ne.mpr c46
              replace H := Option.bind_eq_some_iff.mp H
              obtain ⟨t275, A470, H⟩ := H
              replace H : (some (!t275)) = some r := H
              have A47 := Aside0.mk A470
              clear A470
              obtain rfl := Option.some.inj H
              have hnb48 := NB266_267.out
              have hnc48 := NB267_266.out
              have hcz49_0 : wr.cell? ⟨gb266, 0, none⟩ = some (.int .i64 a2_0) := (blk_cell BK266.out 0).trans rfl
              have hcz49_1 : wr.cell? ⟨gb266, 1, none⟩ = some (.int .i64 a2_1) := (blk_cell BK266.out 1).trans rfl
              have hfz49_0 := blk_frozen BK266.out 0
              have hfz49_1 := blk_frozen BK266.out 1
              have hcz50_0 : wr.cell? ⟨gb267, 0, none⟩ = some (.int .i64 a4_0) := (blk_cell BK267.out 0).trans rfl
              have hcz50_1 : wr.cell? ⟨gb267, 1, none⟩ = some (.int .i64 a4_1) := (blk_cell BK267.out 1).trans rfl
              have hcz50_2 : wr.cell? ⟨gb267, 2, none⟩ = some (.int .i64 a4_2) := (blk_cell BK267.out 2).trans rfl
              have hcz50_3 : wr.cell? ⟨gb267, 3, none⟩ = some (.int .i64 a4_3) := (blk_cell BK267.out 3).trans rfl
              have hcz50_4 : wr.cell? ⟨gb267, 4, none⟩ = some (.int .i64 a4_4) := (blk_cell BK267.out 4).trans rfl
              have hcz50_5 : wr.cell? ⟨gb267, 5, none⟩ = some (.int .i64 a4_5) := (blk_cell BK267.out 5).trans rfl
              have hfz50_0 := blk_frozen BK267.out 0
              have hfz50_1 := blk_frozen BK267.out 1
              have hfz50_2 := blk_frozen BK267.out 2
              have hfz50_3 := blk_frozen BK267.out 3
              have hfz50_4 := blk_frozen BK267.out 4
              have hfz50_5 := blk_frozen BK267.out 5
              go_wp2_with (first | (go_at_call 29; (with_reducible refine (promise_Fits.calls k3 _ _ l1 a2_0 a2_1 a4_0 a4_1 a4_2 a4_3 a4_4 a4_5 t275 _ ?side1 ?side2 A47.out).mono ?_); (case side1 => repeat (first | exact (Kd.C_below HR1.out HB.out) | (with_reducible refine Kd.C_alloc ?_ _) | (with_reducible refine Kd.C_drewN ?_ _) | (with_reducible refine Kd.C_drew ?_))); (case side2 => exact HC1.out); rintro e w51 ⟨rfl, hb⟩; have n0_ := Aside0.mk (blk_below (g := gb266) (o := .cells #[.int .i64 a2_0, .int .i64 a2_1] 24 (0, 0)) (by (with_reducible repeat (first | refine blk_drewN ?_ _ | refine blk_drew ?_ | refine blk_alloc ?_ _)); exact BK266.out) hb); have n1_ := Aside0.mk (blk_below (g := gb267) (o := .cells #[.int .i64 a4_0, .int .i64 a4_1, .int .i64 a4_2, .int .i64 a4_3, .int .i64 a4_4, .int .i64 a4_5] 29 (0, 0)) (by (with_reducible repeat (first | refine blk_drewN ?_ _ | refine blk_drew ?_ | refine blk_alloc ?_ _)); exact BK267.out) hb); have n2_ := Aside0.mk (below_step (by repeat (first | (with_reducible first | exact HB.out | apply below_alloc | apply pw_below_drewN | apply below_drew1 | refine below_set ?_ GE266.out | refine below_set ?_ GE267.out) | exact HB.out)) hb); clear BK266; clear BK267; clear HB; have BK266 := n0_; have BK267 := n1_; have HB := n2_; clear n0_ n1_ n2_; (try clear hb); (try clear hb2); (try clear hk); (try clear hi)))
              go_ret
              exact ⟨by first | rfl | (simp [errW_none, errW_some] <;> rfl) | (simp [*, errW_none, errW_some] <;> rfl), by repeat (first | (with_reducible first | exact HB.out | apply below_alloc | apply pw_below_drewN | apply below_drew1 | refine below_set ?_ GE266.out | refine below_set ?_ GE267.out) | exact HB.out)⟩
   ·rw [if_neg c11] at H
    have c11b0 : (t271 == 0) = false := beq_eq_false_iff_ne.mpr c11
    have c11b1 : (t271 != 0) = true := bne_iff_ne.mpr c11
    obtain rfl := Option.some.inj H
    go_enter Try.func4, Try.ntmps4
    go_wp2_with (first | ((with_reducible refine gate_dst (N := 7) rfl ?_); refine bx 7 #[.int .i64 a2_0, .int .i64 a2_1] 24 ?_; intro gb266 hg w52 hbox hb; have n0_ := Aside0.mk (below_step Z0 hb); have n1_ := Aside0.mk (hbox); have n2_ := Aside0.mk ((by rw [hg]; exact (below_size Z0) : w.heap.size ≤ gb266)); have n3_ := Aside0.mk ((by rw [hg]; exact (below_size Z0) : w.heap.size ≤ gb266)); clear HB; have HB := n0_; have BK266 := n1_; have GW266 := n2_; have GE266 := n3_; clear n0_ n1_ n2_ n3_; clear hb hbox hg) | ((with_reducible refine gate_dst (N := 9) rfl ?_); refine bx 9 #[.int .i64 a4_0, .int .i64 a4_1, .int .i64 a4_2, .int .i64 a4_3, .int .i64 a4_4, .int .i64 a4_5] 29 ?_; intro gb267 hg w53 hbox hb; have n0_ := Aside0.mk (blk_below (g := gb266) (o := .cells #[.int .i64 a2_0, .int .i64 a2_1] 24 (0, 0)) (by (with_reducible repeat (first | refine blk_drewN ?_ _ | refine blk_drew ?_ | refine blk_alloc ?_ _)); exact BK266.out) hb); have n1_ := Aside0.mk (below_step (by repeat (first | (with_reducible first | exact HB.out | apply below_alloc | apply pw_below_drewN | apply below_drew1 | refine below_set ?_ GE266.out) | exact HB.out)) hb); have n2_ := Aside0.mk (hbox); have n3_ := Aside0.mk ((by rw [hg]; exact (below_size (by repeat (first | (with_reducible first | exact HB.out | apply below_alloc | apply pw_below_drewN | apply below_drew1 | refine below_set ?_ GE266.out) | exact HB.out))) : w.heap.size ≤ gb267)); have n4_ := Aside0.mk ((by rw [hg]; exact (below_size (by repeat (first | (with_reducible first | exact HB.out | apply below_alloc | apply pw_below_drewN | apply below_drew1 | refine below_set ?_ GE266.out) | exact HB.out))) : w.heap.size ≤ gb267)); have n5_ := Aside0.mk ((by rw [hg]; exact Nat.ne_of_lt (blk_lt (g := gb266) (o := .cells #[.int .i64 a2_0, .int .i64 a2_1] 24 (0, 0)) (by (with_reducible repeat (first | refine blk_drewN ?_ _ | refine blk_drew ?_ | refine blk_alloc ?_ _)); exact BK266.out)) : gb266 ≠ gb267)); have n6_ := Aside0.mk ((by rw [hg]; exact Nat.ne_of_gt (blk_lt (g := gb266) (o := .cells #[.int .i64 a2_0, .int .i64 a2_1] 24 (0, 0)) (by (with_reducible repeat (first | refine blk_drewN ?_ _ | refine blk_drew ?_ | refine blk_alloc ?_ _)); exact BK266.out)) : gb267 ≠ gb266)); clear BK266; clear HB; have BK266 := n0_; have HB := n1_; have BK267 := n2_; have GW267 := n3_; have GE267 := n4_; have NB266_267 := n5_; have NB267_266 := n6_; clear n0_ n1_ n2_ n3_ n4_ n5_ n6_; clear hb hbox hg) | ((with_reducible refine gate_callee (f := 25) rfl ?_); refine goesL_ (some 15) rfl rfl Try.func25 (by kernel_rfl) rfl #[] rfl Z1 ?_; (with_reducible refine (ensemblelaw12_awake.calls  true _ A6.out).mono ?_); rintro e w54 ⟨rfl, hb⟩; refine ⟨_, rfl, ?_⟩; have n0_ := Aside0.mk (blk_below (g := gb266) (o := .cells #[.int .i64 a2_0, .int .i64 a2_1] 24 (0, 0)) (by (with_reducible repeat (first | refine blk_drewN ?_ _ | refine blk_drew ?_ | refine blk_alloc ?_ _)); exact BK266.out) hb); have n1_ := Aside0.mk (blk_below (g := gb267) (o := .cells #[.int .i64 a4_0, .int .i64 a4_1, .int .i64 a4_2, .int .i64 a4_3, .int .i64 a4_4, .int .i64 a4_5] 29 (0, 0)) (by (with_reducible repeat (first | refine blk_drewN ?_ _ | refine blk_drew ?_ | refine blk_alloc ?_ _)); exact BK267.out) hb); have n2_ := Aside0.mk (below_step (by repeat (first | (with_reducible first | exact HB.out | apply below_alloc | apply pw_below_drewN | apply below_drew1 | refine below_set ?_ GE266.out | refine below_set ?_ GE267.out) | exact HB.out)) hb); clear BK266; clear BK267; clear HB; have BK266 := n0_; have BK267 := n1_; have HB := n2_; clear n0_ n1_ n2_; (try clear hb); (try clear hb2); (try clear hk); (try clear hi); have hnb55 := NB266_267.out; have hnc55 := NB267_266.out; have hcz56_0 : w54.cell? ⟨gb266, 0, none⟩ = some (.int .i64 a2_0) := (blk_cell BK266.out 0).trans rfl; have hcz56_1 : w54.cell? ⟨gb266, 1, none⟩ = some (.int .i64 a2_1) := (blk_cell BK266.out 1).trans rfl; have hfz56_0 := blk_frozen BK266.out 0; have hfz56_1 := blk_frozen BK266.out 1) | ((with_reducible refine gate_callee (f := 26) rfl ?_); refine goesL_ (some 20) rfl rfl Try.func26 (by kernel_rfl) rfl #[.slice A1 l1.length c1, .agg #[.int .i64 a2_0, .int .i64 a2_1], .slice A3 l3.length c3] rfl Z1 ?_; (with_reducible refine (ensembleref12_Few.calls k _ _ l1 a2_0 a2_1 _ _ l3 true _ ?side1 ?side2 ?side3 ?side4 A8.out).mono ?_); (case side1 => repeat (first | exact (Kd.C_below HR1.out HB.out) | (with_reducible refine Kd.C_alloc ?_ _) | (with_reducible refine Kd.C_drewN ?_ _) | (with_reducible refine Kd.C_drew ?_))); (case side2 => exact HC1.out); (case side3 => repeat (first | exact (Kd.C_below HR3.out HB.out) | (with_reducible refine Kd.C_alloc ?_ _) | (with_reducible refine Kd.C_drewN ?_ _) | (with_reducible refine Kd.C_drew ?_))); (case side4 => exact HC3.out); rintro e w57 ⟨rfl, hb⟩; refine ⟨_, rfl, ?_⟩; have n0_ := Aside0.mk (blk_below (g := gb266) (o := .cells #[.int .i64 a2_0, .int .i64 a2_1] 24 (0, 0)) (by (with_reducible repeat (first | refine blk_drewN ?_ _ | refine blk_drew ?_ | refine blk_alloc ?_ _)); exact BK266.out) hb); have n1_ := Aside0.mk (blk_below (g := gb267) (o := .cells #[.int .i64 a4_0, .int .i64 a4_1, .int .i64 a4_2, .int .i64 a4_3, .int .i64 a4_4, .int .i64 a4_5] 29 (0, 0)) (by (with_reducible repeat (first | refine blk_drewN ?_ _ | refine blk_drew ?_ | refine blk_alloc ?_ _)); exact BK267.out) hb); have n2_ := Aside0.mk (below_step (by repeat (first | (with_reducible first | exact HB.out | apply below_alloc | apply pw_below_drewN | apply below_drew1 | refine below_set ?_ GE266.out | refine below_set ?_ GE267.out) | exact HB.out)) hb); clear BK266; clear BK267; clear HB; have BK266 := n0_; have BK267 := n1_; have HB := n2_; clear n0_ n1_ n2_; (try clear hb); (try clear hb2); (try clear hk); (try clear hi); have hcz58_0 : w57.cell? ⟨gb266, 0, none⟩ = some (.int .i64 a2_0) := (blk_cell BK266.out 0).trans rfl; have hcz58_1 : w57.cell? ⟨gb266, 1, none⟩ = some (.int .i64 a2_1) := (blk_cell BK266.out 1).trans rfl; have hfz58_0 := blk_frozen BK266.out 0; have hfz58_1 := blk_frozen BK266.out 1; have hcz59_0 : w57.cell? ⟨gb267, 0, none⟩ = some (.int .i64 a4_0) := (blk_cell BK267.out 0).trans rfl; have hcz59_1 : w57.cell? ⟨gb267, 1, none⟩ = some (.int .i64 a4_1) := (blk_cell BK267.out 1).trans rfl; have hcz59_2 : w57.cell? ⟨gb267, 2, none⟩ = some (.int .i64 a4_2) := (blk_cell BK267.out 2).trans rfl; have hcz59_3 : w57.cell? ⟨gb267, 3, none⟩ = some (.int .i64 a4_3) := (blk_cell BK267.out 3).trans rfl; have hcz59_4 : w57.cell? ⟨gb267, 4, none⟩ = some (.int .i64 a4_4) := (blk_cell BK267.out 4).trans rfl; have hcz59_5 : w57.cell? ⟨gb267, 5, none⟩ = some (.int .i64 a4_5) := (blk_cell BK267.out 5).trans rfl; have hfz59_0 := blk_frozen BK267.out 0; have hfz59_1 := blk_frozen BK267.out 1; have hfz59_2 := blk_frozen BK267.out 2; have hfz59_3 := blk_frozen BK267.out 3; have hfz59_4 := blk_frozen BK267.out 4; have hfz59_5 := blk_frozen BK267.out 5) | ((with_reducible refine gate_callee (f := 27) rfl ?_); refine goesL_ (some 28) rfl rfl Try.func27 (by kernel_rfl) rfl #[.int .i64 a0, .slice A1 l1.length c1, .agg #[.int .i64 a2_0, .int .i64 a2_1], .slice A3 l3.length c3, .agg #[.int .i64 a4_0, .int .i64 a4_1, .int .i64 a4_2, .int .i64 a4_3, .int .i64 a4_4, .int .i64 a4_5]] rfl Z1 ?_; (with_reducible refine (promise_Earliest.calls a0 _ _ l1 a2_0 a2_1 _ _ l3 a4_0 a4_1 a4_2 a4_3 a4_4 a4_5 t270 t271 _ ?side1 ?side2 ?side3 ?side4 A10.out).mono ?_); (case side1 => repeat (first | exact (Kd.C_below HR1.out HB.out) | (with_reducible refine Kd.C_alloc ?_ _) | (with_reducible refine Kd.C_drewN ?_ _) | (with_reducible refine Kd.C_drew ?_))); (case side2 => exact HC1.out); (case side3 => repeat (first | exact (Kd.C_below HR3.out HB.out) | (with_reducible refine Kd.C_alloc ?_ _) | (with_reducible refine Kd.C_drewN ?_ _) | (with_reducible refine Kd.C_drew ?_))); (case side4 => exact HC3.out); rintro e w60 ⟨rfl, hb⟩; refine ⟨_, rfl, ?_⟩; have n0_ := Aside0.mk (blk_below (g := gb266) (o := .cells #[.int .i64 a2_0, .int .i64 a2_1] 24 (0, 0)) (by (with_reducible repeat (first | refine blk_drewN ?_ _ | refine blk_drew ?_ | refine blk_alloc ?_ _)); exact BK266.out) hb); have n1_ := Aside0.mk (blk_below (g := gb267) (o := .cells #[.int .i64 a4_0, .int .i64 a4_1, .int .i64 a4_2, .int .i64 a4_3, .int .i64 a4_4, .int .i64 a4_5] 29 (0, 0)) (by (with_reducible repeat (first | refine blk_drewN ?_ _ | refine blk_drew ?_ | refine blk_alloc ?_ _)); exact BK267.out) hb); have n2_ := Aside0.mk (below_step (by repeat (first | (with_reducible first | exact HB.out | apply below_alloc | apply pw_below_drewN | apply below_drew1 | refine below_set ?_ GE266.out | refine below_set ?_ GE267.out) | exact HB.out)) hb); clear BK266; clear BK267; clear HB; have BK266 := n0_; have BK267 := n1_; have HB := n2_; clear n0_ n1_ n2_; (try clear hb); (try clear hb2); (try clear hk); (try clear hi)))
    go_ret
    exact ⟨by first | rfl | (simp [errW_none, errW_some] <;> rfl) | (simp [*, errW_none, errW_some] <;> rfl), by repeat (first | (with_reducible first | exact HB.out | apply below_alloc | apply pw_below_drewN | apply below_drew1 | refine below_set ?_ GE266.out | refine below_set ?_ GE267.out) | exact HB.out)⟩
  ·replace c9 := Bool.eq_false_iff.mpr c9
   subst c9
   have H1 : (some true) = some r := by rw [if_neg (show ¬ (false = true) by decide)] at H; exact H
   clear H
   have H := H1
   clear H1
   obtain rfl := Option.some.inj H
   go_enter Try.func4, Try.ntmps4
   go_wp2_with (first | ((with_reducible refine gate_dst (N := 7) rfl ?_); refine bx 7 #[.int .i64 a2_0, .int .i64 a2_1] 24 ?_; intro gb266 hg w61 hbox hb; have n0_ := Aside0.mk (below_step Z0 hb); have n1_ := Aside0.mk (hbox); have n2_ := Aside0.mk ((by rw [hg]; exact (below_size Z0) : w.heap.size ≤ gb266)); have n3_ := Aside0.mk ((by rw [hg]; exact (below_size Z0) : w.heap.size ≤ gb266)); clear HB; have HB := n0_; have BK266 := n1_; have GW266 := n2_; have GE266 := n3_; clear n0_ n1_ n2_ n3_; clear hb hbox hg) | ((with_reducible refine gate_dst (N := 9) rfl ?_); refine bx 9 #[.int .i64 a4_0, .int .i64 a4_1, .int .i64 a4_2, .int .i64 a4_3, .int .i64 a4_4, .int .i64 a4_5] 29 ?_; intro gb267 hg w62 hbox hb; have n0_ := Aside0.mk (blk_below (g := gb266) (o := .cells #[.int .i64 a2_0, .int .i64 a2_1] 24 (0, 0)) (by (with_reducible repeat (first | refine blk_drewN ?_ _ | refine blk_drew ?_ | refine blk_alloc ?_ _)); exact BK266.out) hb); have n1_ := Aside0.mk (below_step (by repeat (first | (with_reducible first | exact HB.out | apply below_alloc | apply pw_below_drewN | apply below_drew1 | refine below_set ?_ GE266.out) | exact HB.out)) hb); have n2_ := Aside0.mk (hbox); have n3_ := Aside0.mk ((by rw [hg]; exact (below_size (by repeat (first | (with_reducible first | exact HB.out | apply below_alloc | apply pw_below_drewN | apply below_drew1 | refine below_set ?_ GE266.out) | exact HB.out))) : w.heap.size ≤ gb267)); have n4_ := Aside0.mk ((by rw [hg]; exact (below_size (by repeat (first | (with_reducible first | exact HB.out | apply below_alloc | apply pw_below_drewN | apply below_drew1 | refine below_set ?_ GE266.out) | exact HB.out))) : w.heap.size ≤ gb267)); have n5_ := Aside0.mk ((by rw [hg]; exact Nat.ne_of_lt (blk_lt (g := gb266) (o := .cells #[.int .i64 a2_0, .int .i64 a2_1] 24 (0, 0)) (by (with_reducible repeat (first | refine blk_drewN ?_ _ | refine blk_drew ?_ | refine blk_alloc ?_ _)); exact BK266.out)) : gb266 ≠ gb267)); have n6_ := Aside0.mk ((by rw [hg]; exact Nat.ne_of_gt (blk_lt (g := gb266) (o := .cells #[.int .i64 a2_0, .int .i64 a2_1] 24 (0, 0)) (by (with_reducible repeat (first | refine blk_drewN ?_ _ | refine blk_drew ?_ | refine blk_alloc ?_ _)); exact BK266.out)) : gb267 ≠ gb266)); clear BK266; clear HB; have BK266 := n0_; have HB := n1_; have BK267 := n2_; have GW267 := n3_; have GE267 := n4_; have NB266_267 := n5_; have NB267_266 := n6_; clear n0_ n1_ n2_ n3_ n4_ n5_ n6_; clear hb hbox hg) | ((with_reducible refine gate_callee (f := 25) rfl ?_); refine goesL_ (some 15) rfl rfl Try.func25 (by kernel_rfl) rfl #[] rfl Z1 ?_; (with_reducible refine (ensemblelaw12_awake.calls  true _ A6.out).mono ?_); rintro e w63 ⟨rfl, hb⟩; refine ⟨_, rfl, ?_⟩; have n0_ := Aside0.mk (blk_below (g := gb266) (o := .cells #[.int .i64 a2_0, .int .i64 a2_1] 24 (0, 0)) (by (with_reducible repeat (first | refine blk_drewN ?_ _ | refine blk_drew ?_ | refine blk_alloc ?_ _)); exact BK266.out) hb); have n1_ := Aside0.mk (blk_below (g := gb267) (o := .cells #[.int .i64 a4_0, .int .i64 a4_1, .int .i64 a4_2, .int .i64 a4_3, .int .i64 a4_4, .int .i64 a4_5] 29 (0, 0)) (by (with_reducible repeat (first | refine blk_drewN ?_ _ | refine blk_drew ?_ | refine blk_alloc ?_ _)); exact BK267.out) hb); have n2_ := Aside0.mk (below_step (by repeat (first | (with_reducible first | exact HB.out | apply below_alloc | apply pw_below_drewN | apply below_drew1 | refine below_set ?_ GE266.out | refine below_set ?_ GE267.out) | exact HB.out)) hb); clear BK266; clear BK267; clear HB; have BK266 := n0_; have BK267 := n1_; have HB := n2_; clear n0_ n1_ n2_; (try clear hb); (try clear hb2); (try clear hk); (try clear hi); have hnb64 := NB266_267.out; have hnc64 := NB267_266.out; have hcz65_0 : w63.cell? ⟨gb266, 0, none⟩ = some (.int .i64 a2_0) := (blk_cell BK266.out 0).trans rfl; have hcz65_1 : w63.cell? ⟨gb266, 1, none⟩ = some (.int .i64 a2_1) := (blk_cell BK266.out 1).trans rfl; have hfz65_0 := blk_frozen BK266.out 0; have hfz65_1 := blk_frozen BK266.out 1) | ((with_reducible refine gate_callee (f := 26) rfl ?_); refine goesL_ (some 20) rfl rfl Try.func26 (by kernel_rfl) rfl #[.slice A1 l1.length c1, .agg #[.int .i64 a2_0, .int .i64 a2_1], .slice A3 l3.length c3] rfl Z1 ?_; (with_reducible refine (ensembleref12_Few.calls k _ _ l1 a2_0 a2_1 _ _ l3 false _ ?side1 ?side2 ?side3 ?side4 A8.out).mono ?_); (case side1 => repeat (first | exact (Kd.C_below HR1.out HB.out) | (with_reducible refine Kd.C_alloc ?_ _) | (with_reducible refine Kd.C_drewN ?_ _) | (with_reducible refine Kd.C_drew ?_))); (case side2 => exact HC1.out); (case side3 => repeat (first | exact (Kd.C_below HR3.out HB.out) | (with_reducible refine Kd.C_alloc ?_ _) | (with_reducible refine Kd.C_drewN ?_ _) | (with_reducible refine Kd.C_drew ?_))); (case side4 => exact HC3.out); rintro e w66 ⟨rfl, hb⟩; refine ⟨_, rfl, ?_⟩; have n0_ := Aside0.mk (blk_below (g := gb266) (o := .cells #[.int .i64 a2_0, .int .i64 a2_1] 24 (0, 0)) (by (with_reducible repeat (first | refine blk_drewN ?_ _ | refine blk_drew ?_ | refine blk_alloc ?_ _)); exact BK266.out) hb); have n1_ := Aside0.mk (blk_below (g := gb267) (o := .cells #[.int .i64 a4_0, .int .i64 a4_1, .int .i64 a4_2, .int .i64 a4_3, .int .i64 a4_4, .int .i64 a4_5] 29 (0, 0)) (by (with_reducible repeat (first | refine blk_drewN ?_ _ | refine blk_drew ?_ | refine blk_alloc ?_ _)); exact BK267.out) hb); have n2_ := Aside0.mk (below_step (by repeat (first | (with_reducible first | exact HB.out | apply below_alloc | apply pw_below_drewN | apply below_drew1 | refine below_set ?_ GE266.out | refine below_set ?_ GE267.out) | exact HB.out)) hb); clear BK266; clear BK267; clear HB; have BK266 := n0_; have BK267 := n1_; have HB := n2_; clear n0_ n1_ n2_; (try clear hb); (try clear hb2); (try clear hk); (try clear hi)))
   go_ret
   exact ⟨by first | rfl | (simp [errW_none, errW_some] <;> rfl) | (simp [*, errW_none, errW_some] <;> rfl), by repeat (first | (with_reducible first | exact HB.out | apply below_alloc | apply pw_below_drewN | apply below_drew1 | refine below_set ?_ GE266.out | refine below_set ?_ GE267.out) | exact HB.out)⟩
 ·replace c7 := Bool.eq_false_iff.mpr c7
  subst c7
  have H1 : (some false) = some r := by rw [if_neg (show ¬ (false = true) by decide)] at H; exact H
  clear H
  have H := H1
  clear H1
  obtain rfl := Option.some.inj H
  go_enter Try.func4, Try.ntmps4
  go_wp2_with (first | ((with_reducible refine gate_dst (N := 7) rfl ?_); refine bx 7 #[.int .i64 a2_0, .int .i64 a2_1] 24 ?_; intro gb266 hg w67 hbox hb; have n0_ := Aside0.mk (below_step Z0 hb); have n1_ := Aside0.mk (hbox); have n2_ := Aside0.mk ((by rw [hg]; exact (below_size Z0) : w.heap.size ≤ gb266)); have n3_ := Aside0.mk ((by rw [hg]; exact (below_size Z0) : w.heap.size ≤ gb266)); clear HB; have HB := n0_; have BK266 := n1_; have GW266 := n2_; have GE266 := n3_; clear n0_ n1_ n2_ n3_; clear hb hbox hg) | ((with_reducible refine gate_dst (N := 9) rfl ?_); refine bx 9 #[.int .i64 a4_0, .int .i64 a4_1, .int .i64 a4_2, .int .i64 a4_3, .int .i64 a4_4, .int .i64 a4_5] 29 ?_; intro gb267 hg w68 hbox hb; have n0_ := Aside0.mk (blk_below (g := gb266) (o := .cells #[.int .i64 a2_0, .int .i64 a2_1] 24 (0, 0)) (by (with_reducible repeat (first | refine blk_drewN ?_ _ | refine blk_drew ?_ | refine blk_alloc ?_ _)); exact BK266.out) hb); have n1_ := Aside0.mk (below_step (by repeat (first | (with_reducible first | exact HB.out | apply below_alloc | apply pw_below_drewN | apply below_drew1 | refine below_set ?_ GE266.out) | exact HB.out)) hb); have n2_ := Aside0.mk (hbox); have n3_ := Aside0.mk ((by rw [hg]; exact (below_size (by repeat (first | (with_reducible first | exact HB.out | apply below_alloc | apply pw_below_drewN | apply below_drew1 | refine below_set ?_ GE266.out) | exact HB.out))) : w.heap.size ≤ gb267)); have n4_ := Aside0.mk ((by rw [hg]; exact (below_size (by repeat (first | (with_reducible first | exact HB.out | apply below_alloc | apply pw_below_drewN | apply below_drew1 | refine below_set ?_ GE266.out) | exact HB.out))) : w.heap.size ≤ gb267)); have n5_ := Aside0.mk ((by rw [hg]; exact Nat.ne_of_lt (blk_lt (g := gb266) (o := .cells #[.int .i64 a2_0, .int .i64 a2_1] 24 (0, 0)) (by (with_reducible repeat (first | refine blk_drewN ?_ _ | refine blk_drew ?_ | refine blk_alloc ?_ _)); exact BK266.out)) : gb266 ≠ gb267)); have n6_ := Aside0.mk ((by rw [hg]; exact Nat.ne_of_gt (blk_lt (g := gb266) (o := .cells #[.int .i64 a2_0, .int .i64 a2_1] 24 (0, 0)) (by (with_reducible repeat (first | refine blk_drewN ?_ _ | refine blk_drew ?_ | refine blk_alloc ?_ _)); exact BK266.out)) : gb267 ≠ gb266)); clear BK266; clear HB; have BK266 := n0_; have HB := n1_; have BK267 := n2_; have GW267 := n3_; have GE267 := n4_; have NB266_267 := n5_; have NB267_266 := n6_; clear n0_ n1_ n2_ n3_ n4_ n5_ n6_; clear hb hbox hg) | ((with_reducible refine gate_callee (f := 25) rfl ?_); refine goesL_ (some 15) rfl rfl Try.func25 (by kernel_rfl) rfl #[] rfl Z1 ?_; (with_reducible refine (ensemblelaw12_awake.calls  false _ A6.out).mono ?_); rintro e w69 ⟨rfl, hb⟩; refine ⟨_, rfl, ?_⟩; have n0_ := Aside0.mk (blk_below (g := gb266) (o := .cells #[.int .i64 a2_0, .int .i64 a2_1] 24 (0, 0)) (by (with_reducible repeat (first | refine blk_drewN ?_ _ | refine blk_drew ?_ | refine blk_alloc ?_ _)); exact BK266.out) hb); have n1_ := Aside0.mk (blk_below (g := gb267) (o := .cells #[.int .i64 a4_0, .int .i64 a4_1, .int .i64 a4_2, .int .i64 a4_3, .int .i64 a4_4, .int .i64 a4_5] 29 (0, 0)) (by (with_reducible repeat (first | refine blk_drewN ?_ _ | refine blk_drew ?_ | refine blk_alloc ?_ _)); exact BK267.out) hb); have n2_ := Aside0.mk (below_step (by repeat (first | (with_reducible first | exact HB.out | apply below_alloc | apply pw_below_drewN | apply below_drew1 | refine below_set ?_ GE266.out | refine below_set ?_ GE267.out) | exact HB.out)) hb); clear BK266; clear BK267; clear HB; have BK266 := n0_; have BK267 := n1_; have HB := n2_; clear n0_ n1_ n2_; (try clear hb); (try clear hb2); (try clear hk); (try clear hi)))
  go_ret
  exact ⟨by first | rfl | (simp [errW_none, errW_some] <;> rfl) | (simp [*, errW_none, errW_some] <;> rfl), by repeat (first | (with_reducible first | exact HB.out | apply below_alloc | apply pw_below_drewN | apply below_drew1 | refine below_set ?_ GE266.out | refine below_set ?_ GE267.out) | exact HB.out)⟩
end Go.Proofs.Ytckhjehibjdjdaa.P
namespace Go.Proofs.Ytckhjehibjdjdaa.Ob
open Go.RowKit Go.Deep Go.Proofs.YtckhjehibjdjdaaW.PrintWords Go.WideShapes
def Opens {α : Type} (P : Program) (t : TypeId) (d : Kd α) (wf : α → Prop) : Prop :=
 ∀ (H : Type) (enc : TypeId × Value → H) (W : World) (base : Nat) (spare : Nat → Bool) (held : Bool) (fuel : Nat) (cs : List Value) (x : DataW H × List MemPlace),
  DataW.trod enc P W base spare held fuel t cs = some x → ∃ a, d.K W a cs ∧ wf a
variable {P : Program} {t e : TypeId}
theorem Opens.int {k : IntKind} (ht : P.underlying t = some (.int k)) : Opens P t (Kd.int k) (fun n => (Lit.int k n).wf = true) := by
 intro H enc W base spare held fuel cs x h
 obtain ⟨n, rfl, _, hw⟩ := DataW.trod_int ht h
 exact ⟨n, rfl, hw⟩
theorem Opens.bool (ht : P.underlying t = some .bool) : Opens P t Kd.bool (fun _ => True) := by
 intro H enc W base spare held fuel cs x h
 obtain ⟨b, rfl, _⟩ := DataW.trod_bool ht h
 exact ⟨b, rfl, trivial⟩
theorem Opens.slice {α : Type} {d : Kd α} {wf : α → Prop} (ht : P.underlying t = some (.slice e)) (hsz : P.cellsOf e = d.sz) (he : Opens P e d wf) :
  Opens P t (Kd.slice e d) (fun xs => xs.length ≤ maxLen ∧ ∀ x ∈ xs, wf x) := by
 intro H enc W base spare held fuel cs x h
 rcases open_slice ht h with ⟨rfl, _⟩ | ⟨a, len, cap, m, n, D, Pl, rfl, _, hl, hm, hmm, hxx, hx⟩
 ·exact ⟨[], ⟨none, 0, rfl, Nat.le_refl _, rfl, by simp, fun h => absurd h (by simp)⟩, by simp [maxLen], fun x hx => by simp at hx⟩
 ·have hlm : len ≤ m := by rw [hmm]; split <;> omega
  have hx' : ∀ i, i < len → ∃ (y : α) (c : List Value), d.K W y c ∧ wf y ∧ c.length = d.sz ∧ ∀ j u, c[j]? = some u → W.cell? (a.add (i * d.sz + j)) = some u := by
   intro i hi
   obtain ⟨c, h1, h2⟩ := hx i (by omega)
   obtain ⟨y, hK, hw⟩ := he H enc W base spare held n c _ h2
   obtain ⟨_, h3, h4⟩ := World.cells?_some h1
   refine ⟨y, c, hK, hw, d.K_len hK, fun j u hu => ?_⟩
   have hj : j < c.length := by
    rcases Nat.lt_or_ge j c.length with h | h
    ·exact h
    ·rw [List.getElem?_eq_none h] at hu; cases hu
   have h5 := h4 j (by omega)
   rw [Deep.add_add, hsz] at h5
   rw [h5]; exact hu
  have hall : ∃ xs : List α, xs.length = len ∧ ∀ (i : Nat) (p : α), xs[i]? = some p → ∃ c, c.length = d.sz ∧ d.K W p c ∧ wf p ∧ ∀ j u, c[j]? = some u → W.cell? (a.add (i * d.sz + j)) = some u := by
   clear hx hm hl hmm hlm h hxx
   induction len with
   | zero => exact ⟨[], rfl, fun i p hp => by simp at hp⟩
   | succ len ih =>
    obtain ⟨xs, hxl, hxs⟩ := ih (fun i hi => hx' i (by omega))
    obtain ⟨y, c, hK, hw, hcl, hc⟩ := hx' len (by omega)
    refine ⟨xs ++ [y], by simp [hxl], fun i p hp => ?_⟩
    rcases Nat.lt_or_ge i xs.length with h | h
    ·rw [List.getElem?_append_left h] at hp
     exact hxs i p hp
    ·have hi : i = xs.length := by
      have := (List.getElem?_eq_some_iff.1 hp).1
      rw [List.length_append, List.length_singleton] at this
      omega
     subst hi
     have hp' : y = p := by simpa using hp
     subst hp'
     exact ⟨c, hcl, hK, hw, by rw [hxl]; exact hc⟩
  obtain ⟨xs, hxl, hxs⟩ := hall
  refine ⟨xs, ⟨some a, cap, by rw [hxl], by omega, rfl, by rw [hxl]; simp only [maxLen] at hm; omega, fun _ => ⟨a, rfl, fun j p hp => ?_⟩⟩, by rw [hxl]; omega, fun x hx => ?_⟩
  ·obtain ⟨c, h1, h2, _, h3⟩ := hxs j p hp
   exact ⟨c, h1, h2, h3⟩
  ·obtain ⟨i, hi, rfl⟩ := List.getElem_of_mem hx
   obtain ⟨_, _, _, h, _⟩ := hxs i _ (List.getElem?_eq_getElem hi)
   exact h
def OpensAt {α : Type} (P : Program) (fs : List (Nat × TypeId)) (off : Nat) (d : Kd α) (wf : α → Prop) : Prop :=
 ∀ (H : Type) (enc : TypeId × Value → H) (W : World) (base : Nat) (spare : Nat → Bool) (held : Bool) (fuel : Nat) (cs : List Value), cs.length = off + d.sz →
  (∀ f, f ∈ fs → ∃ x, DataW.trod enc P W base spare held fuel f.2 ((cs.drop f.1).take (P.cellsOf f.2)) = some x) → ∃ a, d.K W a (cs.drop off) ∧ wf a
theorem OpensAt.last {α : Type} {d : Kd α} {wf : α → Prop} {off : Nat} (h : Opens P t d wf) (hsz : P.cellsOf t = d.sz) : OpensAt P [(off, t)] off d wf := by
 intro H enc W base spare held fuel cs hl hf
 obtain ⟨x, hx⟩ := hf (off, t) (by simp)
 rw [hsz, List.take_of_length_le (by rw [List.length_drop]; omega)] at hx
 exact h H enc W base spare held fuel _ x hx
theorem OpensAt.cons {α β : Type} {d : Kd α} {wf : α → Prop} {d' : Kd β} {wf' : β → Prop} {off off' : Nat} {fs : List (Nat × TypeId)} (h : Opens P t d wf) (hsz : P.cellsOf t = d.sz) (ho : off' = off + d.sz)
  (h' : OpensAt P fs off' d' wf') : OpensAt P ((off, t) :: fs) off (Kd.pair d d') (fun x => wf x.1 ∧ wf' x.2) := by
 intro H enc W base spare held fuel cs hl hf
 obtain ⟨x, hx⟩ := hf (off, t) (by simp)
 have hl' : cs.length = off' + d'.sz := by rw [hl, ho]; show off + (d.sz + d'.sz) = _; omega
 obtain ⟨a, hK, hw⟩ := h H enc W base spare held fuel _ x hx
 obtain ⟨b, hK', hw'⟩ := h' H enc W base spare held fuel cs hl' (fun f hf' => hf f (by simp [hf']))
 refine ⟨(a, b), ⟨_, _, ?_, hK, hK'⟩, hw, hw'⟩
 rw [hsz, ho, ← List.drop_drop, List.take_append_drop]
theorem Opens.struct {α β : Type} {d : Kd β} {wf : β → Prop} {fs : Array Field} {l : List (Nat × TypeId)} (ht : P.underlying t = some (.struct fs)) (hl : fs.toList.map (fun f => (f.offset, f.type)) = l) (hsz : P.cellsOf t = d.sz)
  (h : OpensAt P l 0 d wf) (f : α → β) (g : β → α) (hfg : ∀ b, f (g b) = b) : Opens P t (Kd.iso d f) (fun x => wf (f x)) := by
 intro H enc W base spare held fuel cs x hx
 obtain ⟨xs, n, _, _, hcl, hxl, hfs⟩ := DataW.trod_struct ht hx
 obtain ⟨b, hK, hw⟩ := h H enc W base spare held n cs (by rw [hcl, hsz]; omega) (fun p hp => by
  rw [← hl] at hp
  obtain ⟨fd, hfd, rfl⟩ := List.mem_map.1 hp
  obtain ⟨i, hi, rfl⟩ := List.getElem_of_mem hfd
  have := hfs i fs.toList[i] (by simp)
  rw [List.getElem?_eq_getElem (by rw [hxl]; simpa using hi)] at this
  exact ⟨_, this⟩)
 exact ⟨g b, by show d.K W (f (g b)) cs; rw [hfg]; simpa using hK, by show wf (f (g b)); rw [hfg]; exact hw⟩
theorem Opens.imp {α : Type} {d : Kd α} {wf wf' : α → Prop} (h : Opens P t d wf) (hi : ∀ a, wf a → wf' a) : Opens P t d wf' := fun H enc W base spare held fuel cs x hx =>
 let ⟨a, h1, h2⟩ := h H enc W base spare held fuel cs x hx; ⟨a, h1, hi a h2⟩
theorem Opens.open {α : Type} {d : Kd α} {wf : α → Prop} (h : Opens P t d wf) {H : Type} {enc : TypeId × Value → H} {W : World} {base : Nat} {spare : Nat → Bool} {held : Bool} {v : Value} {y : DataW H} {p : List MemPlace}
  (hv : DataW.Trod enc P W base spare held t v y p) : ∃ a, d.K W a v.cells.toList ∧ wf a := by
 obtain ⟨fuel, hf⟩ := hv
 exact h H enc W base spare held fuel _ _ hf
end Go.Proofs.Ytckhjehibjdjdaa.Ob
namespace Go.Proofs.Ytckhjehibjdjdaa.P
open Go.RowKit Go.Proofs.Ytckhjehibjdjdaa.Ob Go.Proofs.YtckhjehibjdjdaaW.PrintWords
set_option linter.unusedVariables false
def I64 (x : Int) : Prop := -9223372036854775808 ≤ x ∧ x ≤ 9223372036854775807
def U64 (x : Int) : Prop := 0 ≤ x ∧ x ≤ 18446744073709551615
theorem i64_of {x : Int} (h : (Lit.int .i64 x).wf = true) : I64 x := by unfold I64; simp [Lit.wf, IntKind.min, IntKind.max, IntKind.bits, IntKind.signed] at h; omega
theorem u64_of {x : Int} (h : (Lit.int .u64 x).wf = true) : U64 x := by unfold U64; simp [Lit.wf, IntKind.min, IntKind.max, IntKind.bits, IntKind.signed] at h; omega
theorem o_i64 {t : TypeId} (h : Try.prog.underlying t = some (.int .i64)) : Opens Try.prog t (Kd.int .i64) I64 := (Opens.int h).imp fun _ h => i64_of h
theorem o_u64 {t : TypeId} (h : Try.prog.underlying t = some (.int .u64)) : Opens Try.prog t (Kd.int .u64) U64 := (Opens.int h).imp fun _ h => u64_of h
def wfd48 (x : S48) : Prop := I64 x.f0 ∧ I64 x.f1
theorem o48 : Opens Try.prog 48 k48 wfd48 := (Opens.struct Try.underlying48 rfl (by kernel_rfl) (OpensAt.cons (o_i64 Try.underlying3) (by kernel_rfl) rfl (OpensAt.last (o_i64 Try.underlying3) (by kernel_rfl))) _ (fun p => (⟨p.1, p.2⟩ : S48)) (fun _ => rfl)).imp (fun _ h => h)
def wfd51 (x : S51) : Prop := wfd48 x.f0 ∧ U64 x.f1 ∧ I64 x.f2
theorem o51 : Opens Try.prog 51 k51 wfd51 := (Opens.struct Try.underlying51 rfl (by kernel_rfl) (OpensAt.cons (o48) (by kernel_rfl) rfl (OpensAt.cons (o_u64 Try.underlying49) (by kernel_rfl) rfl (OpensAt.last (o_i64 Try.underlying3) (by kernel_rfl)))) _ (fun p => (⟨p.1, p.2.1, p.2.2⟩ : S51)) (fun _ => rfl)).imp (fun _ h => h)
def wfd24 (x : S24) : Prop := I64 x.f0 ∧ I64 x.f1
theorem o24 : Opens Try.prog 24 k24 wfd24 := (Opens.struct Try.underlying24 rfl (by kernel_rfl) (OpensAt.cons (o_i64 Try.underlying3) (by kernel_rfl) rfl (OpensAt.last (o_i64 Try.underlying3) (by kernel_rfl))) _ (fun p => (⟨p.1, p.2⟩ : S24)) (fun _ => rfl)).imp (fun _ h => h)
def wfd52 (x : S52) : Prop := wfd48 x.f0 ∧ U64 x.f1 ∧ I64 x.f2
theorem o52 : Opens Try.prog 52 k52 wfd52 := (Opens.struct Try.underlying52 rfl (by kernel_rfl) (OpensAt.cons (o48) (by kernel_rfl) rfl (OpensAt.cons (o_u64 Try.underlying49) (by kernel_rfl) rfl (OpensAt.last (o_i64 Try.underlying3) (by kernel_rfl)))) _ (fun p => (⟨p.1, p.2.1, p.2.2⟩ : S52)) (fun _ => rfl)).imp (fun _ h => h)
def wfd41 (x : S41) : Prop := I64 x.f0 ∧ I64 x.f1 ∧ I64 x.f2 ∧ True ∧ (x.f4.length ≤ maxLen ∧ ∀ y ∈ x.f4, wfd52 y)
theorem o41 : Opens Try.prog 41 k41 wfd41 := (Opens.struct Try.underlying41 rfl (by kernel_rfl) (OpensAt.cons (o_i64 Try.underlying3) (by kernel_rfl) rfl (OpensAt.cons (o_i64 Try.underlying3) (by kernel_rfl) rfl (OpensAt.cons (o_i64 Try.underlying3) (by kernel_rfl) rfl (OpensAt.cons (Opens.bool Try.underlying4) (by kernel_rfl) rfl (OpensAt.last ((Opens.slice Try.underlying39 (by kernel_rfl) (o52))) (by kernel_rfl)))))) _ (fun p => (⟨p.1, p.2.1, p.2.2.1, p.2.2.2.1, p.2.2.2.2⟩ : S41)) (fun _ => rfl)).imp (fun _ h => h)
def wfd27 (x : S27) : Prop := I64 x.f0 ∧ I64 x.f1 ∧ I64 x.f2 ∧ I64 x.f3
theorem o27 : Opens Try.prog 27 k27 wfd27 := (Opens.struct Try.underlying27 rfl (by kernel_rfl) (OpensAt.cons (o_i64 Try.underlying3) (by kernel_rfl) rfl (OpensAt.cons (o_i64 Try.underlying3) (by kernel_rfl) rfl (OpensAt.cons (o_i64 Try.underlying3) (by kernel_rfl) rfl (OpensAt.last (o_i64 Try.underlying3) (by kernel_rfl))))) _ (fun p => (⟨p.1, p.2.1, p.2.2.1, p.2.2.2⟩ : S27)) (fun _ => rfl)).imp (fun _ h => h)
def wfd29 (x : S29) : Prop := I64 x.f0 ∧ I64 x.f1 ∧ wfd27 x.f2
theorem o29 : Opens Try.prog 29 k29 wfd29 := (Opens.struct Try.underlying29 rfl (by kernel_rfl) (OpensAt.cons (o_i64 Try.underlying3) (by kernel_rfl) rfl (OpensAt.cons (o_i64 Try.underlying3) (by kernel_rfl) rfl (OpensAt.last (o27) (by kernel_rfl)))) _ (fun p => (⟨p.1, p.2.1, p.2.2⟩ : S29)) (fun _ => rfl)).imp (fun _ h => h)
end Go.Proofs.Ytckhjehibjdjdaa.P
namespace Go.Proofs.Ytckhjehibjdjdaa.P
open Go.RowKit Go.Proofs.YtckhjehibjdjdaaW.PrintWords Go.Proofs.YtckhjehibjdjdaaW.PrintLast Go.Proofs.YtckhjehibjdjdaaW.PrintMore
open Go.Proofs.Ytckhjehibjdjdaa.Bits Go.Proofs.Ytckhjehibjdjdaa.Mp
set_option linter.unusedVariables false
set_option linter.unusedSimpArgs false
theorem u64_id {x : Int} (h0 : 0 ≤ x) (h1 : x < 18446744073709551616) : IntKind.u64.wrap x = x := by
 obtain ⟨n, rfl⟩ := Int.eq_ofNat_of_zero_le h0
 rw [wrapN, Nat.mod_eq_of_lt (by omega)]
theorem half_nat (M j : Nat) (hM : M < 18446744073709551616) : IntKind.u64.wrap (Int.tdiv ((M / 2 ^ j : Nat) : Int) 2) = ((M / 2 ^ (j + 1) : Nat) : Int) := by
 have h1 : M / 2 ^ (j + 1) = M / 2 ^ j / 2 := by rw [Nat.pow_succ, Nat.div_div_eq_div_mul]
 have h2 : M / 2 ^ j ≤ M := Nat.div_le_self _ _
 generalize M / 2 ^ j = a at *
 rw [h1, Int.tdiv_eq_ediv_of_nonneg (by omega), u64_id (by omega) (by omega)]
 omega
theorem has_l (M : Nat) (hM : M < 18446744073709551616) (n : Nat) : ∀ j i : Nat, j ≤ i → i - j = n → i < 64 → Ev (fun k => ensembleref01_Has.l0 k ((M / 2 ^ j : Nat) : Int) (i : Int) (j : Int)) (M.testBit i) := by
 induction n with
 | zero =>
  intro j i hj hn hi
  obtain rfl : j = i := by omega
  refine Ev.step (f := fun _ => some (M.testBit j)) (fun k => ?_) (Ev.now _)
  rw [ensembleref01_Has.l0, if_neg (by omega), if_pos (by omega), if_pos (by omega), Nat.testBit_eq_decide_div_mod_eq]
  generalize M / 2 ^ j = a
  rw [Int.tmod_eq_emod_of_nonneg (by omega)]
  congr 1
  rw [Bool.eq_iff_iff]
  simp
  omega
 | succ n ih =>
  intro j i hj hn hi
  refine Ev.step (f := fun k => ensembleref01_Has.l0 k ((M / 2 ^ (j + 1) : Nat) : Int) (i : Int) ((j + 1 : Nat) : Int)) (fun k => ?_) (ih (j + 1) i (by omega) (by omega) hi)
  rw [ensembleref01_Has.l0, if_pos (by omega), half_nat M j hM, w_id (by omega)]
  congr 1
theorem has_ev (M i : Nat) (hM : M < 18446744073709551616) (hi : i < 64) : Ev (fun k => ensembleref01_Has.f k (M : Int) (i : Int)) (M.testBit i) := by
 have := has_l M hM i 0 i (by omega) (by omega) hi
 rw [Nat.pow_zero, Nat.div_one] at this
 exact this
def posI (M : Nat) : List Int := (pos M).map fun (i : Nat) => (i : Int)
def posTo (M i : Nat) : List Int := ((List.range i).filter fun j => M.testBit j).map fun (i : Nat) => (i : Int)
theorem posTo_len (M i : Nat) : (posTo M i).length ≤ i := by
 unfold posTo; rw [List.length_map]
 exact Nat.le_trans (List.length_filter_le _ _) (by simp)
theorem units_l (M : Nat) (hM : M < 18446744073709551616) (n : Nat) : ∀ i : Nat, i ≤ 64 → 64 - i = n → Ev (fun k => ensembleref01_Units.l0 k (M : Int) (posTo M i) (i : Int)) (posI M) := by
 induction n with
 | zero =>
  intro i hi hn
  obtain rfl : i = 64 := by omega
  refine Ev.step (f := fun _ => some (posI M)) (fun k => ?_) (Ev.now _)
  rw [ensembleref01_Units.l0, if_neg (by omega)]; rfl
 | succ n ih =>
  intro i hi hn
  refine Ev.step (fun k => by rw [ensembleref01_Units.l0, if_pos (by omega)]) (Ev.bind (has_ev M i hM (by omega)) ?_)
  have I := ih (i + 1) (by omega) (by omega)
  have hl := posTo_len M i
  refine Ev.congr (fun k => ?_) I
  have e1 : wrap64 ((i : Int) + 1) = ((i + 1 : Nat) : Int) := by rw [w_id (by omega)]; omega
  have e2 : posTo M (i + 1) = if M.testBit i = true then posTo M i ++ [(i : Int)] else posTo M i := by
   unfold posTo
   rw [List.range_succ, List.filter_append, List.map_append]
   split
   ·rename_i h; simp [h]
   ·rename_i h; simp [h]
  rw [e1, e2]
  split
  ·rw [if_pos (by omega)]
  ·rfl
theorem units_ev (M : Nat) (hM : M < 18446744073709551616) : Ev (fun k => ensembleref01_Units.f k (M : Int)) (posI M) := units_l M hM 64 0 (by omega) (by omega)
theorem posI_len (M : Nat) : ((posI M).length : Int) = popI (M : Int) := by
 unfold posI popI popN; simp
theorem posI_get (M i : Nat) (h : i < (posI M).length) : rd (posI M) (i : Int) = (((pos M)[i]'(by unfold posI at h; simpa using h) : Nat) : Int) := by
 simp [rd, posI, List.getD_eq_getElem?_getD] at h ⊢
 rw [List.getElem?_eq_getElem h]; rfl
theorem bit_l (u : Nat) (hu : u < 64) (n : Nat) : ∀ j : Nat, j ≤ u → u - j = n → Ev (fun k => ensembleref01_bit.l0 k (u : Int) ((2 ^ j : Nat) : Int) (j : Int)) ((2 ^ u : Nat) : Int) := by
 induction n with
 | zero =>
  intro j hj hn
  obtain rfl : j = u := by omega
  refine Ev.step (f := fun _ => some ((2 ^ j : Nat) : Int)) (fun k => ?_) (Ev.now _)
  rw [ensembleref01_bit.l0, if_neg (by omega)]
 | succ n ih =>
  intro j hj hn
  refine Ev.step (f := fun k => ensembleref01_bit.l0 k (u : Int) ((2 ^ (j + 1) : Nat) : Int) ((j + 1 : Nat) : Int)) (fun k => ?_) (ih (j + 1) (by omega) (by omega))
  have h2 : 2 ^ (j + 1) ≤ 2 ^ 63 := Nat.pow_le_pow_right (by omega) (by omega)
  rw [Nat.pow_succ] at h2 ⊢
  rw [ensembleref01_bit.l0, if_pos (by omega), u64_id (by omega) (by omega), w_id (by omega)]
  congr 1
theorem bit_ev (u : Nat) (hu : u < 64) : Ev (fun k => ensembleref01_bit.f k (u : Int)) ((2 ^ u : Nat) : Int) := bit_l u hu u 0 (by omega) (by omega)
def sumP (l : List Nat) : Nat := (l.map fun i => 2 ^ i).sum
theorem sumP_append (a b : List Nat) : sumP (a ++ b) = sumP a + sumP b := by simp [sumP]
theorem orAll_lt_n {l : List Nat} {n : Nat} (h : ∀ i ∈ l, i < n) : orAll l < 2 ^ n := by
 refine Nat.lt_pow_two_of_testBit _ fun j hj => ?_
 rw [testBit_orAll, decide_eq_false]
 intro hm
 have := h j hm
 omega
theorem sumP_orAll (l : List Nat) (hp : l.Pairwise (· < ·)) : ∀ n : Nat, n ≤ l.length → sumP (l.take n) = orAll (l.take n) := by
 intro n
 induction n with
 | zero => intro _; simp [sumP, orAll]
 | succ n ih =>
  intro hn
  have hlt : n < l.length := by omega
  have hb : orAll (l.take n) < 2 ^ l[n] := orAll_lt_n fun i hi => by
   obtain ⟨j, hj, rfl⟩ := List.mem_iff_getElem.1 hi
   rw [List.getElem_take]
   rw [List.length_take] at hj
   exact List.pairwise_iff_getElem.1 hp j n (by omega) hlt (by omega)
  have h1 := Nat.two_pow_add_eq_or_of_lt hb 1
  rw [Nat.mul_one, Nat.or_comm] at h1
  rw [List.take_succ_eq_append_getElem hlt, sumP_append, orAll_snoc, ih (by omega), ← h1]
  simp [sumP]
  omega
theorem sumP_lt (l : List Nat) (hp : l.Pairwise (· < ·)) (h : ∀ i ∈ l, i < 64) (n : Nat) (hn : n ≤ l.length) : sumP (l.take n) < 18446744073709551616 := by
 rw [sumP_orAll l hp n hn]
 exact orAll_lt_n (n := 64) fun i hi => h i (List.mem_of_mem_take hi)
theorem lowest_l (M n : Nat) (hM : M < 18446744073709551616) (hn : n ≤ popN M) (d : Nat) : ∀ j : Nat, j ≤ n → n - j = d → Ev (fun k => ensembleref01_Lowest.l0 k (n : Int) (posI M) ((sumP ((pos M).take j) : Nat) : Int) (j : Int)) ((lowN M n : Nat), 0) := by
 have h64 : popN M ≤ 64 := popN_le M
 have hb64 : ∀ i ∈ pos M, i < 64 := fun i hi => (mem_pos.1 hi).1
 induction d with
 | zero =>
  intro j hj hd
  obtain rfl : j = n := by omega
  refine Ev.step (f := fun _ => some (((lowN M j : Nat) : Int), (0 : Int))) (fun k => ?_) (Ev.now _)
  rw [ensembleref01_Lowest.l0, if_neg (by omega), sumP_orAll (pos M) (pos_sorted M) j (by unfold popN at hn; omega)]; rfl
 | succ d ih =>
  intro j hj hd
  have hjl : j < (pos M).length := by unfold popN at hn; omega
  have hji : j < (posI M).length := by unfold posI; simpa using hjl
  refine Ev.step (fun k => by rw [ensembleref01_Lowest.l0, if_pos (by omega), if_pos (by omega), if_pos (by omega), posI_get M j hji]) (Ev.bind (bit_ev _ (hb64 _ (List.getElem_mem hjl))) ?_)
  refine Ev.congr (fun k => ?_) (ih (j + 1) (by omega) (by omega))
  have hs := sumP_lt (pos M) (pos_sorted M) hb64 (j + 1) (by omega)
  rw [List.take_succ_eq_append_getElem hjl, sumP_append] at hs ⊢
  have e : sumP [(pos M)[j]] = 2 ^ (pos M)[j] := by simp [sumP]
  rw [e] at hs ⊢
  rw [u64_id (by omega) (by omega), w_id (by omega)]
  congr 1
theorem lowest_ev (M : Nat) (n : Int) (hM : M < 18446744073709551616) : Ev (fun k => ensembleref01_Lowest.f k (M : Int) n) (if n < 0 then (0, 1) else if n > popI (M : Int) then (0, 2) else (lowI (M : Int) n, 0)) := by
 by_cases h0 : n < 0
 ·rw [if_pos h0]
  exact Ev.congr (fun k => by rw [ensembleref01_Lowest.f, if_pos h0]) (Ev.now _)
 ·rw [if_neg h0]
  obtain ⟨n, rfl⟩ := Int.eq_ofNat_of_zero_le (show 0 ≤ n by omega)
  refine Ev.congr (fun k => by rw [ensembleref01_Lowest.f, if_neg h0]) (Ev.bind (units_ev M hM) ?_)
  have hl := posI_len M
  by_cases h1 : (n : Int) > popI (M : Int)
  ·rw [if_pos h1]
   exact Ev.congr (fun k => by rw [if_pos (by omega)]) (Ev.now _)
  ·rw [if_neg h1]
   have h2 : n ≤ popN M := by unfold popI at h1; rw [Int.toNat_natCast] at h1; omega
   refine Ev.congr (fun k => by rw [if_neg (by omega)]) ?_
   have := lowest_l M n hM h2 n 0 (by omega) (by omega)
   simp only [List.take_zero] at this
   exact this
theorem and_lt64 {a b : Nat} (ha : a < 18446744073709551616) : a &&& b < 18446744073709551616 := Nat.lt_of_le_of_lt Nat.and_le_left ha
def comm (A B : Nat) (l : List Nat) : Nat := (l.filter fun i => B.testBit i).length
theorem masks_l (A B : Nat) (hA : A < 18446744073709551616) (hB : B < 18446744073709551616) (d : Nat) : ∀ j : Nat, j ≤ (pos A).length → (pos A).length - j = d → Ev (fun k => ensembleref05_masks.l0 k (B : Int) ((comm A B ((pos A).take j) : Nat) : Int) (posI A) (j : Int)) ((comm A B (pos A) : Nat) : Int) := by
 have h64 : popN A ≤ 64 := popN_le A
 have hb64 : ∀ i ∈ pos A, i < 64 := fun i hi => (mem_pos.1 hi).1
 have hlen : (posI A).length = (pos A).length := by unfold posI; simp
 unfold popN at h64
 induction d with
 | zero =>
  intro j hj hd
  obtain rfl : j = (pos A).length := by omega
  refine Ev.step (f := fun _ => some ((comm A B (pos A) : Nat) : Int)) (fun k => ?_) (Ev.now _)
  rw [ensembleref05_masks.l0, if_neg (by omega), List.take_length]
 | succ d ih =>
  intro j hj hd
  have hjl : j < (pos A).length := by omega
  have hji : j < (posI A).length := by omega
  refine Ev.step (fun k => by rw [ensembleref05_masks.l0, if_pos (by omega), if_pos (by omega), posI_get A j hji]) (Ev.bind (has_ev B _ hB (hb64 _ (List.getElem_mem hjl))) ?_)
  refine Ev.congr (fun k => ?_) (ih (j + 1) (by omega) (by omega))
  have hc : comm A B ((pos A).take j) ≤ 64 := by
   unfold comm
   refine Nat.le_trans (List.length_filter_le _ _) ?_
   rw [List.length_take]; omega
  have e2 : comm A B ((pos A).take (j + 1)) = comm A B ((pos A).take j) + if B.testBit (pos A)[j] = true then 1 else 0 := by
   unfold comm
   rw [List.take_succ_eq_append_getElem hjl, List.filter_append, List.length_append]
   split
   ·rename_i h; simp [h]
   ·rename_i h; simp [h]
  rw [e2]
  split
  ·rw [w_id (by omega), w_id (by omega)]; congr 1
  ·rw [w_id (by omega)]; congr 1
theorem comm_pos (A B : Nat) : comm A B (pos A) = popN (A &&& B) := by
 unfold comm popN pos
 rw [List.filter_filter]
 congr 2
 funext i
 rw [Nat.testBit_and, Bool.and_comm]
theorem masks_ev (A B : Nat) (hA : A < 18446744073709551616) (hB : B < 18446744073709551616) : Ev (fun k => ensembleref05_masks.f k (A : Int) (B : Int)) ((popN (A &&& B) : Nat) : Int) := by
 unfold ensembleref05_masks.f
 refine Ev.bind (units_ev A hA) ?_
 have := masks_l A B hA hB (pos A).length 0 (by omega) (by omega)
 rw [comm_pos, List.take_zero] at this
 exact this
theorem popN_zero_iff (A : Nat) (hA : A < 18446744073709551616) : popN A = 0 ↔ A = 0 := by
 unfold popN
 constructor
 ·intro h
  have := orAll_pos (m := A) (by simpa using hA)
  rw [List.eq_nil_of_length_eq_zero h] at this
  rw [← this]; rfl
 ·rintro rfl
  rw [pos_zero]; rfl
end Go.Proofs.Ytckhjehibjdjdaa.P
namespace Go.Proofs.Ytckhjehibjdjdaa.P
open Go.RowKit Go.Proofs.YtckhjehibjdjdaaW.PrintWords Go.Proofs.YtckhjehibjdjdaaW.PrintLast Go.Proofs.YtckhjehibjdjdaaW.PrintMore
open Go.Proofs.Ytckhjehibjdjdaa.Bits Go.Proofs.Ytckhjehibjdjdaa.Mp
set_option linter.unusedVariables false
set_option linter.unusedSimpArgs false
theorem pos_orAll (l : List Nat) (hp : l.Pairwise (· < ·)) (h : ∀ i ∈ l, i < 64) : pos (orAll l) = l := by
 refine List.Perm.eq_of_pairwise (le := (· < ·)) (fun a b _ _ h1 h2 => absurd h1 (by omega)) (pos_sorted _) hp ?_
 have n1 : (pos (orAll l)).Nodup := (pos_sorted _).imp (fun h => by omega)
 have n2 : l.Nodup := hp.imp (fun h => by omega)
 refine (List.perm_ext_iff_of_nodup n1 n2).2 fun j => ?_
 rw [mem_pos, testBit_orAll, decide_eq_true_eq]
 exact ⟨fun h => h.2, fun hj => ⟨h j hj, hj⟩⟩
theorem sub_low (M n : Nat) (hM : M < 18446744073709551616) : M = lowN M n + orAll ((pos M).drop n) := by
 have e0 := orAll_pos (m := M) (by simpa using hM)
 have e1 := sumP_orAll (pos M) (pos_sorted M) (pos M).length (Nat.le_refl _)
 rw [List.take_length] at e1
 have hd : ((pos M).drop n).Pairwise (· < ·) := (pos_sorted M).sublist (List.drop_sublist _ _)
 have e2 := sumP_orAll ((pos M).drop n) hd _ (Nat.le_refl _)
 rw [List.take_length] at e2
 have e3 := sumP_append ((pos M).take n) ((pos M).drop n)
 rw [List.take_append_drop] at e3
 have e4 : sumP ((pos M).take n) = lowN M n := by
  unfold lowN
  by_cases h : n ≤ (pos M).length
  ·exact sumP_orAll (pos M) (pos_sorted M) n h
  ·rw [List.take_of_length_le (by omega), e1]
 omega
theorem pop_sub_low (M n : Nat) (hM : M < 18446744073709551616) : popN (M - lowN M n) = popN M - n := by
 have h := sub_low M n hM
 have e : M - lowN M n = orAll ((pos M).drop n) := by omega
 have hd : ((pos M).drop n).Pairwise (· < ·) := (pos_sorted M).sublist (List.drop_sublist _ _)
 unfold popN
 rw [e, pos_orAll _ hd (fun i hi => (mem_pos.1 (List.mem_of_mem_drop hi)).1), List.length_drop]
theorem low_le (M n : Nat) (hM : M < 18446744073709551616) : lowN M n ≤ M := by have := sub_low M n hM; omega
theorem right04 (g c mn mx : Int) : ensembleref04_Right.f g c mn mx = some (goodShape g c mn mx) := by
 unfold ensembleref04_Right.f
 by_cases h1 : g ≥ 0
 ·by_cases h2 : g ≤ 16
  ·by_cases h3 : c ≥ 0
   ·by_cases h4 : c ≤ 1024
    ·rw [if_pos h1, if_pos h2, if_pos h3, if_pos h4, w_id (by omega)]
     unfold goodShape
     rw [decide_eq_true (p := 0 ≤ g) (by omega), decide_eq_true (p := g ≤ 16) h2, decide_eq_true (p := 0 ≤ c) (by omega), decide_eq_true (p := c ≤ 1024) h4]
     by_cases h5 : g + c > 0
     ·rw [if_pos h5]
      have e5 : (decide (g = 0) && decide (c = 0)) = false := by
       rw [Bool.and_eq_false_iff]
       by_cases hg : g = 0
       ·right; exact decide_eq_false (by omega)
       ·left; exact decide_eq_false hg
      rw [e5]
      by_cases h6 : mn ≥ 1
      ·rw [if_pos h6, decide_eq_true (p := 1 ≤ mn) h6]
       by_cases h7 : mn ≤ mx
       ·rw [if_pos h7, decide_eq_true h7, decide_eq_true (p := 1 ≤ mx) (by omega)]; simp
       ·rw [if_neg h7, decide_eq_false h7]; simp
      ·rw [if_neg h6, decide_eq_false (p := 1 ≤ mn) h6]; simp
     ·rw [if_neg h5, decide_eq_true (p := g = 0) (by omega), decide_eq_true (p := c = 0) (by omega)]; simp
    ·rw [if_pos h1, if_pos h2, if_pos h3, if_neg h4]; unfold goodShape; rw [decide_eq_false h4]; simp
   ·rw [if_pos h1, if_pos h2, if_neg h3]; unfold goodShape; rw [decide_eq_false (p := 0 ≤ c) h3]; simp
  ·rw [if_pos h1, if_neg h2]; unfold goodShape; rw [decide_eq_false h2]; simp
 ·rw [if_neg h1]; unfold goodShape; rw [decide_eq_false (p := 0 ≤ g) h1]; simp
theorem right12 (q m g c mn mx : Int) : ensembleref12_Right.f q m g c mn mx = some (rightB m g c mn mx) := by
 unfold ensembleref12_Right.f rightB
 rw [right04, Option.bind_some]
 by_cases h : goodShape g c mn mx = true
 ·rw [if_pos h, h]
  by_cases h1 : m ≥ 1
  ·rw [if_pos h1, decide_eq_true (p := 1 ≤ m) h1]; simp
  ·rw [if_neg h1, decide_eq_false (p := 1 ≤ m) h1]; simp
 ·rw [if_neg h, Bool.eq_false_iff.2 h]; simp
theorem good_out {g c mn mx : Int} (h : goodShape g c mn mx = true) : 0 ≤ g ∧ g ≤ 16 ∧ 0 ≤ c ∧ c ≤ 1024 ∧ 1 ≤ mn ∧ mn ≤ mx ∧ 1 ≤ mx ∧ mx ≤ 16 ∧ ¬ (g = 0 ∧ c = 0) := by
 simp only [goodShape, Bool.and_eq_true, decide_eq_true_eq, Bool.not_eq_true'] at h
 obtain ⟨⟨⟨⟨⟨⟨⟨⟨h1, h2⟩, h3⟩, h4⟩, h5⟩, h6⟩, h7⟩, h8⟩, h9⟩ := h
 refine ⟨h1, h2, h3, h4, h5, h6, h7, h8, fun ⟨a, b⟩ => ?_⟩
 rw [decide_eq_true a, decide_eq_true b] at h9
 cases h9
def pieceB (g c s0 s1 m cp : Int) : Int × Int × Int × Int × Int × Int × Int × Int × Int :=
 if g ≤ popI m ∧ 0 ≤ cp ∧ c ≤ cp then (s0, s1, lowI m g, c, s0, s1, m - lowI m g, cp - c, 0) else (0, 0, 0, 0, 0, 0, 0, 0, 7)
theorem piece_ev (g c mn mx s0 s1 m cp : Int) (hg : goodShape g c mn mx = true) (hm : 0 ≤ m ∧ m < 18446744073709551616) (hc : cp ≤ 9223372036854775807) :
  Ev (fun k => ensembleref04_Piece.f k g c mn mx s0 s1 m cp) (pieceB g c s0 s1 m cp) := by
 obtain ⟨M, rfl⟩ := Int.eq_ofNat_of_zero_le hm.1
 have hM : M < 18446744073709551616 := by omega
 have hb := good_out hg
 have hlow := lowest_ev M g hM
 rw [if_neg (by omega)] at hlow
 refine Ev.congr (fun k => by rw [ensembleref04_Piece.f]) (Ev.bind hlow ?_)
 by_cases h1 : g > popI (M : Int)
 ·rw [if_pos h1, show pieceB g c s0 s1 (M : Int) cp = (0, 0, 0, 0, 0, 0, 0, 0, 7) from if_neg (by omega)]
  exact Ev.congr (fun k => by rw [if_neg (by decide)]) (Ev.now _)
 ·rw [if_neg h1]
  have h2 : lowN M g.toNat ≤ M := low_le M _ hM
  have e3 : lowI (M : Int) g = ((lowN M g.toNat : Nat) : Int) := rfl
  by_cases h4 : cp < 0
  ·rw [show pieceB g c s0 s1 (M : Int) cp = (0, 0, 0, 0, 0, 0, 0, 0, 7) from if_neg (by omega)]
   exact Ev.congr (fun k => by rw [if_pos (by rfl), if_pos h4]) (Ev.now _)
  ·by_cases h5 : cp < c
   ·rw [show pieceB g c s0 s1 (M : Int) cp = (0, 0, 0, 0, 0, 0, 0, 0, 7) from if_neg (by omega)]
    exact Ev.congr (fun k => by rw [if_pos (by rfl), if_neg h4, if_pos h5]) (Ev.now _)
   ·rw [show pieceB g c s0 s1 (M : Int) cp = (s0, s1, lowI (M : Int) g, c, s0, s1, (M : Int) - lowI (M : Int) g, cp - c, 0) from if_pos (by omega)]
    refine Ev.congr (fun k => ?_) (Ev.now _)
    rw [if_pos (by rfl), if_neg h4, if_neg h5]
    simp only
    rw [e3, u64_id (by omega) (by omega), w_id (by omega)]
def fitC (g c : Int) (n : Nat) (m cp : Int) : Int := if 0 ≤ cp then (n : Int) + min (16 - (n : Int)) (min (eachI (popI m) g) (eachI cp c)) else (n : Int)
theorem pop_sub (m g : Int) (hm : 0 ≤ m ∧ m < 18446744073709551616) (hg : 0 ≤ g) (hgp : g ≤ popI m) : popI (m - lowI m g) = popI m - g ∧ 0 ≤ m - lowI m g ∧ m - lowI m g < 18446744073709551616 := by
 obtain ⟨M, rfl⟩ := Int.eq_ofNat_of_zero_le hm.1
 obtain ⟨G, rfl⟩ := Int.eq_ofNat_of_zero_le hg
 have hM : M < 18446744073709551616 := by omega
 have h1 := low_le M G hM
 have h2 := pop_sub_low M G hM
 have e3 : lowI (M : Int) (G : Int) = ((lowN M G : Nat) : Int) := by unfold lowI; simp
 have e4 : popI (M : Int) = ((popN M : Nat) : Int) := by unfold popI; simp
 rw [e3]
 rw [e4] at hgp ⊢
 have e5 : ((M : Int) - ((lowN M G : Nat) : Int)) = ((M - lowN M G : Nat) : Int) := by omega
 rw [e5]
 have e6 : popI ((M - lowN M G : Nat) : Int) = ((popN (M - lowN M G) : Nat) : Int) := by unfold popI; simp
 rw [e6, h2]
 omega
theorem each_sub (a b : Int) (hb : 0 ≤ b) (h : b ≤ a) (n : Nat) (hn : n < 16) (X : Int) : 1 ≤ eachI a b ∧ (min (16 - (n : Int)) (min (eachI a b) X)) = 1 + min (16 - ((n : Int) + 1)) (min (eachI (a - b) b) (X - 1)) := by
 unfold eachI
 by_cases h0 : b = 0
 ·rw [if_pos h0, if_pos h0]; omega
 ·rw [if_neg h0, if_neg h0, show (a - b) / b = a / b - 1 from by
   rw [Int.sub_ediv_of_dvd _ (Int.dvd_refl b), Int.ediv_self h0]]
  have : 1 ≤ a / b := (Int.le_ediv_iff_mul_le (by omega)).2 (by omega)
  omega
theorem fits04_l (g c mn mx s0 s1 : Int) (hg : goodShape g c mn mx = true) (d : Nat) : ∀ (n : Nat) (m cp : Int), n ≤ 16 → 16 - n = d → 0 ≤ m ∧ m < 18446744073709551616 → cp ≤ 9223372036854775807 →
  Ev (fun k => ensembleref04_Fits.l0 k (n : Int) g c mn mx s0 s1 m cp) (fitC g c n m cp) := by
 have hb := good_out hg
 induction d with
 | zero =>
  intro n m cp hn hd hm hc
  obtain rfl : n = 16 := by omega
  refine Ev.step (f := fun _ => some (fitC g c 16 m cp)) (fun k => ?_) (Ev.now _)
  rw [ensembleref04_Fits.l0, if_neg (by omega)]
  unfold fitC
  split
  ·rename_i h0
   have h1 := eachI_nn (popI_bd m).1 (show 0 ≤ g by omega)
   have h2 := eachI_nn h0 (show 0 ≤ c by omega)
   congr 1; omega
  ·rfl
 | succ d ih =>
  intro n m cp hn hd hm hc
  have hpb := popI_bd m
  refine Ev.step (fun k => by rw [ensembleref04_Fits.l0, if_pos (by omega)]) (Ev.bind (piece_ev g c mn mx s0 s1 m cp hg hm hc) ?_)
  by_cases h : g ≤ popI m ∧ 0 ≤ cp ∧ c ≤ cp
  ·rw [show pieceB g c s0 s1 m cp = (s0, s1, lowI m g, c, s0, s1, m - lowI m g, cp - c, 0) from if_pos h]
   have hs := pop_sub m g hm (by omega) h.1
   have I := ih (n + 1) (m - lowI m g) (cp - c) (by omega) (by omega) hs.2 (by omega)
   have e : fitC g c (n + 1) (m - lowI m g) (cp - c) = fitC g c n m cp := by
    unfold fitC
    rw [if_pos (by omega), if_pos (by omega), hs.1]
    have A := each_sub (popI m) g (by omega) h.1 n (by omega) (eachI cp c)
    have B := each_sub cp c (by omega) h.2.2 n (by omega) (eachI (popI m - g) g + 1)
    omega
   rw [e] at I
   refine Ev.congr (fun k => ?_) I
   rw [if_pos (by rfl), w_id (by omega)]
   congr 1
  ·rw [show pieceB g c s0 s1 m cp = (0, 0, 0, 0, 0, 0, 0, 0, 7) from if_neg h]
   refine Ev.congr (fun k => ?_) (Ev.now _)
   rw [if_neg (by decide)]
   congr 1
   unfold fitC
   split
   ·rename_i h0
    have h1 := eachI_nn (popI_bd m).1 (show 0 ≤ g by omega)
    have h2 := eachI_nn h0 (show 0 ≤ c by omega)
    by_cases hp : g ≤ popI m
    ·have : eachI cp c = 0 := by
      unfold eachI
      rw [if_neg (by omega)]
      exact Int.ediv_eq_zero_of_lt h0 (by omega)
     omega
    ·have : eachI (popI m) g = 0 := by
      unfold eachI
      rw [if_neg (by omega)]
      exact Int.ediv_eq_zero_of_lt hpb.1 (by omega)
     omega
   ·rfl
theorem fits04_ev (g c mn mx s0 s1 m cp : Int) (hm : 0 ≤ m ∧ m < 18446744073709551616) (hc : cp ≤ 9223372036854775807) : Ev (fun k => ensembleref04_Fits.f k g c mn mx s0 s1 m cp) (fitV g c mn mx m cp) := by
 unfold ensembleref04_Fits.f fitV
 refine Ev.congr (fun k => by rw [right04, Option.bind_some]) ?_
 by_cases h : goodShape g c mn mx = true
 ·have hb := good_out h
  refine Ev.congr (fun k => by rw [if_pos h]) ?_
  have := fits04_l g c mn mx s0 s1 h 16 0 m cp (by omega) (by omega) hm hc
  unfold fitC at this
  by_cases h0 : 0 ≤ cp
  ·rw [if_pos h0] at this
   rw [if_pos ⟨h, h0⟩]
   unfold fitN
   have e : (((0 : Nat) : Int) + min (16 - ((0 : Nat) : Int)) (min (eachI (popI m) g) (eachI cp c))) = min 16 (min (eachI (popI m) g) (eachI cp c)) := by omega
   rw [e] at this
   exact this
  ·rw [if_neg h0] at this
   rw [if_neg (fun x => h0 x.2)]
   exact this
 ·rw [if_neg (fun x => h x.1)]
  exact Ev.congr (fun k => by rw [if_neg h]) (Ev.now _)
theorem room05_l (g c mn mx : Int) (view : List S51) (hl : view.length ≤ 4398046511104) (hv : ∀ f ∈ view, freeOk f = true) (d : Nat) : ∀ (i : Nat) (s : Int), i ≤ view.length → view.length - i = d → 0 ≤ s → s ≤ 16 * i →
  Ev (fun k => ensembleref05_Room.l0 k view s (i : Int) g c mn mx) (s + roomS g c mn mx (view.drop i)) := by
 induction d with
 | zero =>
  intro i s hi hd h0 hs
  refine Ev.step (f := fun _ => some (s + roomS g c mn mx (view.drop i))) (fun k => ?_) (Ev.now _)
  rw [ensembleref05_Room.l0, if_neg (by omega), List.drop_eq_nil_of_le (by omega)]
  simp [roomS]
 | succ d ih =>
  intro i s hi hd h0 hs
  have hil : i < view.length := by omega
  have hf := hv _ (List.getElem_mem hil)
  simp only [freeOk, w64B, Bool.and_eq_true, decide_eq_true_eq] at hf
  have hb := fitV_bd g c mn mx (view[i]).f1 (view[i]).f2
  refine Ev.step (fun k => by rw [ensembleref05_Room.l0, if_pos (by omega), if_pos (by omega), rd51' view i hil]) (Ev.bind (fits04_ev g c mn mx _ _ _ _ hf.1 hf.2.2) ?_)
  have I := ih (i + 1) (s + fitV g c mn mx (view[i]).f1 (view[i]).f2) (by omega) (by omega) (by omega) (by omega)
  have e : s + fitV g c mn mx (view[i]).f1 (view[i]).f2 + roomS g c mn mx (view.drop (i + 1)) = s + roomS g c mn mx (view.drop i) := by
   rw [List.drop_eq_getElem_cons hil]
   simp only [roomS, List.map_cons, List.sum_cons]
   omega
  rw [e] at I
  refine Ev.congr (fun k => ?_) I
  rw [w_id (by omega), w_id (by omega)]
  congr 1
theorem room05_ev (g c mn mx : Int) (view : List S51) (hl : view.length ≤ 4398046511104) (hv : ∀ f ∈ view, freeOk f = true) : Ev (fun k => ensembleref05_Room.f k view g c mn mx) (roomS g c mn mx view) := by
 have := room05_l g c mn mx view hl hv view.length 0 0 (by omega) (by omega) (by omega) (by omega)
 rw [List.drop_zero, Int.zero_add] at this
 exact this
theorem units04_l (g c mn mx : Int) (hg : goodShape g c mn mx = true) (M : Nat) (hM : M ≤ 16) (d : Nat) : ∀ i : Nat, i ≤ M → M - i = d → Ev (fun k => ensembleref04_Units.l0 k (M : Int) (i : Int) g c mn mx (g * i) (c * i)) (g * M, c * M) := by
 have hb := good_out hg
 induction d with
 | zero =>
  intro i hi hd
  obtain rfl : i = M := by omega
  refine Ev.step (f := fun _ => some (g * i, c * i)) (fun k => ?_) (Ev.now _)
  rw [ensembleref04_Units.l0, if_neg (by omega)]
 | succ d ih =>
  intro i hi hd
  have b1 := mul_bd (a := g) (b := (i : Int)) (A := 16) (B := 16) (by omega) (by omega) (by omega) (by omega)
  have b2 := mul_bd (a := c) (b := (i : Int)) (A := 1024) (B := 16) (by omega) (by omega) (by omega) (by omega)
  refine Ev.step (fun k => by rw [ensembleref04_Units.l0, if_pos (by omega)]) ?_
  refine Ev.congr (fun k => ?_) (ih (i + 1) (by omega) (by omega))
  have e1 : g * ((i + 1 : Nat) : Int) = g * i + g := by rw [Int.natCast_add, Int.mul_add]; simp
  have e2 : c * ((i + 1 : Nat) : Int) = c * i + c := by rw [Int.natCast_add, Int.mul_add]; simp
  rw [e1, e2, w_id (by omega), w_id (by omega), w_id (by omega)]
  congr 1
theorem units04_ev (g c mn mx m : Int) (hg : goodShape g c mn mx = true) (h0 : 0 ≤ m) (hm : m ≤ 16) : Ev (fun k => ensembleref04_Units.f k g c mn mx m) (g * m, c * m) := by
 obtain ⟨M, rfl⟩ := Int.eq_ofNat_of_zero_le h0
 have := units04_l g c mn mx hg M (by omega) M 0 (by omega) (by omega)
 simp only [Int.natCast_zero, Int.mul_zero] at this
 exact this
theorem fits12_ev (view : List S51) (lg lc q m g c mn mx : Int) (hl : view.length ≤ 4398046511104) (hv : ∀ f ∈ view, freeOk f = true) :
  Ev (fun k => ensembleref12_Fits.f k view lg lc q m g c mn mx) (fitsB view lg lc m g c mn mx) := by
 unfold ensembleref12_Fits.f fitsB
 refine Ev.congr (fun k => by rw [right12, Option.bind_some]) ?_
 by_cases hr : rightB m g c mn mx = true
 ·have hr' := hr
  simp only [rightB, Bool.and_eq_true, decide_eq_true_eq] at hr'
  refine Ev.congr (fun k => by rw [if_pos hr]) (Ev.bind (units04_ev g c mn mx m hr'.1.1 (by omega) hr'.2) ?_)
  rw [hr]
  simp only [Bool.true_and]
  by_cases h1 : g * m ≤ lg
  ·rw [decide_eq_true h1]
   by_cases h2 : c * m ≤ lc
   ·rw [decide_eq_true h2]
    refine Ev.congr (fun k => by rw [if_pos h1, if_pos h2]) (Ev.bind (room05_ev g c mn mx view hl hv) ?_)
    simp only [Bool.true_and]
    exact Ev.now _
   ·rw [decide_eq_false h2]
    exact Ev.congr (fun k => by rw [if_pos h1, if_neg h2]; rfl) (Ev.now _)
  ·rw [decide_eq_false h1]
   exact Ev.congr (fun k => by rw [if_neg h1]; rfl) (Ev.now _)
 ·rw [Bool.eq_false_iff.2 hr]
  exact Ev.congr (fun k => by rw [if_neg (by decide)]; rfl) (Ev.now _)
end Go.Proofs.Ytckhjehibjdjdaa.P
namespace Go.Proofs.Ytckhjehibjdjdaa.P
open Go.RowKit Go.Proofs.YtckhjehibjdjdaaW.PrintWords Go.Proofs.YtckhjehibjdjdaaW.PrintLast Go.Proofs.YtckhjehibjdjdaaW.PrintMore
attribute [local go_sem] max2_int min2_int max_two min_two max_three min_three max_four min_four
set_option linter.unusedVariables false
set_option linter.unusedSimpArgs false
def ensembleref05_Less.T11 : Bool × List (List Nat × List Nat) := (true, [([], []), ([0], [0]), ([], []), ([], []), ([2, 3], [2, 3]), ([4], [4]), ([5], [5]), ([1, 6], [1, 6]), ([], []), ([8], [8]), ([9, 7], [9]), ([10], [10]), ([7, 11], [7, 11]), ([12, 10], [12]), ([13], [13]), ([14, 13], [13, 14]), ([13], [13]), ([13], [13]), ([16, 17, 13], [13, 16, 17]), ([18, 13], [13, 18]), ([19, 13], [13, 19]), ([15, 20, 13], [13, 15, 20]), ([13, 21], [13, 21])])
def ensembleref05_Less.B11 : List Nat := [0, 1, 0, 0, 12, 28, 60, 127, 0, 256, 1023, 2047, 4095, 8191, 16383, 32767, 16383, 16383, 212991, 475135, 999423, 2097151, 4194303]
theorem ensembleref05_Less.bits11 : waitsOk ensembleref05_Less.T11.2 ensembleref05_Less.B11 = true := by kernel_rfl
def ensembleref05_Less.T13 : Bool × List (List Nat × List Nat) := (true, [([], []), ([], []), ([], []), ([], []), ([2, 3], [2, 3]), ([4], [4]), ([5], [5]), ([], []), ([7], [7]), ([6, 8], [6, 8]), ([0, 1, 0, 1, 2, 3, 4, 5, 6, 7, 8, 9], [0, 1]), ([10, 0, 1, 2, 3, 4, 5, 6, 7, 8, 9], [10]), ([11, 9, 0, 1, 2, 3, 4, 5, 6, 7, 8, 9], [9, 11])])
def ensembleref05_Less.B13 : List Nat := [0, 0, 0, 0, 12, 28, 60, 0, 128, 508, 1023, 2047, 4095]
theorem ensembleref05_Less.bits13 : waitsOk ensembleref05_Less.T13.2 ensembleref05_Less.B13 = true := by kernel_rfl
end Go.Proofs.Ytckhjehibjdjdaa.P
