/- ElasticMost: part 3 of the walk and of the plain law that it comes to. No condition. -/
import Derived.Test.YtckhjehibjdjdaaZElasticMost2
import Derived.ArgAppend
import Derived.Below
import Derived.BigQuiet
import Derived.BigRegion
import Derived.Carry
import Derived.Deep.AppendLies
import Derived.Deep.CutBlock
import Derived.Deep.DeepCutAuto
import Derived.Deep.Draws
import Derived.Deep.LoopGhost
import Derived.Deep.OwnRows
import Derived.Deep.QuietTactic
import Derived.Deep.RegionHeld3
import Derived.DeepKeys3
import Derived.KernelRfl
import Derived.Laws.Bits64
import Derived.Laws.Bits64b
import Derived.Laws.BitsLemmas
import Derived.Laws.BytesArg
import Derived.Laws.Externs
import Derived.Laws.IdiomCopy
import Derived.Laws.MakeOwn
import Derived.Laws.OwnMore
import Derived.Laws.Rows
import Derived.Laws.Slices
import Derived.Lib.AppendStr
import Derived.Lib.ConvBytes
import Derived.Lib.ReflectliteSlice
import Derived.Lib.ReflectliteSwap
import Derived.Lib.SliceRun
import Derived.LoopIn
import Derived.LoopN
import Derived.LoopNIn
import Derived.Maps.AppendAt
import Derived.Maps.Keyed
import Derived.Maps.Own
import Derived.Maps.OwnOps
import Derived.Maps.OwnSet
import Derived.Maps.Views
import Derived.OrdersHeld
import Derived.Outline
import Derived.OwnWalk
import Derived.OwnWalkIn
import Derived.RangeFuncBound
import Derived.RangeFuncBox
import Derived.RangeFuncCalls
import Derived.RangeFuncFrom
import Derived.RangeFuncLeaves
import Derived.RangeFuncNested
import Derived.RowKit
import Derived.RowKit3
import Derived.Shelf.Abstract
import Derived.Shelf.RegionOpen
import Derived.StillTailTactics
import Derived.Tactics
import Derived.TacticsInMore
import Derived.WalkKit
import Derived.WideLaws
namespace Go.Proofs.Ytckhjehibjdjdaa.P
open Go.RowKit Go.Proofs.YtckhjehibjdjdaaW.PrintWords Go.Proofs.YtckhjehibjdjdaaW.PrintLast Go.Proofs.YtckhjehibjdjdaaW.PrintMore
attribute [local go_sem] max2_int min2_int max_two min_two max_three min_three max_four min_four
set_option linter.unusedVariables false
set_option linter.unusedSimpArgs false
def shape_Piece.f (a0_0 : Int) (a0_1 : Int) (a0_2 : Int) (a0_3 : Int) (a1_0 : Int) (a1_1 : Int) (a1_2 : Int) (a1_3 : Int) : Option (Int × Int × Int × Int × Int × Int × Int × Int × Int) := (shape_Check.f a0_0 a0_1 a0_2 a0_3).bind fun t896 => (if t896 = 0 then ((shape_Fits.f a0_0 a0_1 a0_2 a0_3 a1_0 a1_1 a1_2 a1_3).bind fun t897 => (if t897 = 0 then (some (0, 0, 0, 0, 0, 0, 0, 0, 7)) else ((mask_Lowest.f a1_2 a0_0).bind fun bt898 => (some (a1_0, a1_1, bt898.1, a0_1, a1_0, a1_1, Go.bits .andNot .u64 a1_2 bt898.1, wrap64 (a1_3 - a0_1), 0))))) else (some (0, 0, 0, 0, 0, 0, 0, 0, t896)))
def shape_Piece.T7 : Bool × List (List Nat × List Nat) := (true, [([], []), ([0], [0]), ([], []), ([], []), ([3], [3]), ([1, 2, 4], [1, 2, 4]), ([], []), ([6], [6]), ([], []), ([8], [8]), ([], []), ([9, 10], [9, 10]), ([], []), ([12], [12]), ([], []), ([14], [14]), ([13, 15], [13, 15]), ([7, 11, 16], [7, 11, 16]), ([5, 0, 1, 2, 3, 4, 5], [5]), ([17, 18, 0, 1, 2, 3, 4, 5, 6, 7, 8, 9, 10, 11, 12, 13, 14, 15, 16, 17, 18], [17]), ([19, 0, 1, 2, 3, 4, 5, 6, 7, 8, 9, 10, 11, 12, 13, 14, 15, 16, 17, 18, 19], [])])
def shape_Piece.B7 : List Nat := [0, 1, 0, 0, 8, 31, 0, 64, 0, 256, 0, 1792, 0, 4096, 0, 16384, 61440, 131008, 63, 524287, 1048575]
theorem shape_Piece.tab7 : rtab .any (opsOf Try.f88 7) = shape_Piece.T7 := by kernel_rfl
theorem shape_Piece.bits7 : waitsOk shape_Piece.T7.2 shape_Piece.B7 = true := by kernel_rfl
set_option maxHeartbeats 8000000 in
set_option maxRecDepth 100000 in
theorem shape_Piece.calls (a0_0 : Int) (a0_1 : Int) (a0_2 : Int) (a0_3 : Int) (a1_0 : Int) (a1_1 : Int) (a1_2 : Int) (a1_3 : Int) (r1 : Int) (r2 : Int) (r3 : Int) (r4 : Int) (r5 : Int) (r6 : Int) (r7 : Int) (r8 : Int) (r9 : Int) (w : World) (h : shape_Piece.f a0_0 a0_1 a0_2 a0_3 a1_0 a1_1 a1_2 a1_3 = some (r1, r2, r3, r4, r5, r6, r7, r8, r9)) :
  Calls Try.prog 88 #[.agg #[.int .i64 a0_0, .int .i64 a0_1, .int .i64 a0_2, .int .i64 a0_3], .agg #[.int .i64 a1_0, .int .i64 a1_1, .int .u64 a1_2, .int .i64 a1_3]] w fun e w' => e = .returned (.tuple #[.agg #[.int .i64 r1, .int .i64 r2, .int .u64 r3, .int .i64 r4], .agg #[.int .i64 r5, .int .i64 r6, .int .u64 r7, .int .i64 r8], .int .i64 r9]) ∧ Below w.heap.size w w' := by
 have hu27 := Try.underlying27
 have hu51 := Try.underlying51
 have hu52 := Try.underlying52
 have hu48 := Try.underlying48
 have HB := Aside0.mk (Below.refl w.heap.size w)
 have H : ((shape_Check.f a0_0 a0_1 a0_2 a0_3).bind fun t896 => (if t896 = 0 then ((shape_Fits.f a0_0 a0_1 a0_2 a0_3 a1_0 a1_1 a1_2 a1_3).bind fun t897 => (if t897 = 0 then (some (0, 0, 0, 0, 0, 0, 0, 0, 7)) else ((mask_Lowest.f a1_2 a0_0).bind fun bt898 => (some (a1_0, a1_1, bt898.1, a0_1, a1_0, a1_1, Go.bits .andNot .u64 a1_2 bt898.1, wrap64 (a1_3 - a0_1), 0))))) else (some (0, 0, 0, 0, 0, 0, 0, 0, t896)))) = some (r1, r2, r3, r4, r5, r6, r7, r8, r9) := h
 clear h
 replace H := Option.bind_eq_some_iff.mp H
 obtain ⟨t896, A30, H⟩ := H
 replace H : (if t896 = 0 then ((shape_Fits.f a0_0 a0_1 a0_2 a0_3 a1_0 a1_1 a1_2 a1_3).bind fun t897 => (if t897 = 0 then (some (0, 0, 0, 0, 0, 0, 0, 0, 7)) else ((mask_Lowest.f a1_2 a0_0).bind fun bt898 => (some (a1_0, a1_1, bt898.1, a0_1, a1_0, a1_1, Go.bits .andNot .u64 a1_2 bt898.1, wrap64 (a1_3 - a0_1), 0))))) else (some (0, 0, 0, 0, 0, 0, 0, 0, t896))) = some (r1, r2, r3, r4, r5, r6, r7, r8, r9) := H
 have A3 := Aside0.mk A30
 clear A30
 by_cases c4 : t896 = 0
 ·rw [if_pos c4] at H
  have c4b0 : (t896 == 0) = true := beq_iff_eq.mpr c4
  have c4b1 : (t896 != 0) = false := bne_eq_false_iff_eq.mpr c4
  clear c4
  replace H := Option.bind_eq_some_iff.mp H
  obtain ⟨t897, A50, H⟩ := H
  replace H : (if t897 = 0 then (some (0, 0, 0, 0, 0, 0, 0, 0, 7)) else ((mask_Lowest.f a1_2 a0_0).bind fun bt898 => (some (a1_0, a1_1, bt898.1, a0_1, a1_0, a1_1, Go.bits .andNot .u64 a1_2 bt898.1, wrap64 (a1_3 - a0_1), 0)))) = some (r1, r2, r3, r4, r5, r6, r7, r8, r9) := H
  have A5 := Aside0.mk A50
  clear A50
  by_cases c6 : t897 = 0
  ·rw [if_pos c6] at H
   have c6b0 : (t897 == 0) = true := beq_iff_eq.mpr c6
   have c6b1 : (t897 != 0) = false := bne_eq_false_iff_eq.mpr c6
   clear c6
   simp only [Option.some.injEq, Prod.mk.injEq] at H
   obtain ⟨rfl, rfl, rfl, rfl, rfl, rfl, rfl, rfl, rfl⟩ := H
   go_enter Try.func88, Try.ntmps88
   go_wp2_with (first | ((with_reducible refine gate_dst (N := 2) rfl ?_); refine bx 2 #[.int .i64 a0_0, .int .i64 a0_1, .int .i64 a0_2, .int .i64 a0_3] 27 ?_; intro gb892 hg w7 hbox hb; have BK892 := Aside0.mk (hbox); have GW892 := ge_ hg; have GE892 := ge_ hg; replace HB := hs_ hb; clear hb hbox hg) | ((with_reducible refine gate_dst (N := 3) rfl ?_); refine bx 3 #[.int .i64 a1_0, .int .i64 a1_1, .int .u64 a1_2, .int .i64 a1_3] 51 ?_; intro gb893 hg w8 hbox hb; have BK893 := Aside0.mk (hbox); have GW893 := ge_ hg; have GE893 := ge_ hg; have NB892_893 := nl_ BK892 hg; have NB893_892 := nr_ BK892 hg; replace BK892 := bk_ BK892 hb; replace HB := hs_ hb; clear hb hbox hg) | ((with_reducible refine gate_dst (N := 4) rfl ?_); refine bx 4 #[.int .i64 0, .int .i64 0, .int .u64 0, .int .i64 0] 52 ?_; intro gb894 hg w9 hbox hb; have BK894 := Aside0.mk (hbox); have GW894 := ge_ hg; have GE894 := ge_ hg; have NB892_894 := nl_ BK892 hg; have NB894_892 := nr_ BK892 hg; have NB893_894 := nl_ BK893 hg; have NB894_893 := nr_ BK893 hg; replace BK892 := bk_ BK892 hb; replace BK893 := bk_ BK893 hb; replace HB := hs_ hb; clear hb hbox hg) | ((with_reducible refine gate_dst (N := 5) rfl ?_); refine bx 5 #[.int .i64 0, .int .i64 0, .int .u64 0, .int .i64 0] 51 ?_; intro gb895 hg w10 hbox hb; have BK895 := Aside0.mk (hbox); have GW895 := ge_ hg; have GE895 := ge_ hg; have NB892_895 := nl_ BK892 hg; have NB895_892 := nr_ BK892 hg; have NB893_895 := nl_ BK893 hg; have NB895_893 := nr_ BK893 hg; have NB894_895 := nl_ BK894 hg; have NB895_894 := nr_ BK894 hg; replace BK892 := bk_ BK892 hb; replace BK893 := bk_ BK893 hb; replace BK894 := bk_ BK894 hb; replace HB := hs_ hb; clear hb hbox hg; have hnb11 := NB892_893.out; have hnc11 := NB893_892.out; have hnb12 := NB892_894.out; have hnc12 := NB894_892.out; have hnb13 := NB892_895.out; have hnc13 := NB895_892.out; obtain ⟨hcz14_0, hcz14_1, hcz14_2, hcz14_3, hfz14_0, hfz14_1, hfz14_2, hfz14_3⟩ := bz4_ BK892) | ((with_reducible refine gate_callee (f := 83) rfl ?_); refine goesL_ (some 11) rfl rfl Try.func83 (by kernel_rfl) rfl #[.agg #[.int .i64 a0_0, .int .i64 a0_1, .int .i64 a0_2, .int .i64 a0_3]] rfl Z0 ?_; (with_reducible refine (shape_Check.calls a0_0 a0_1 a0_2 a0_3 t896 _ A3.out).mono ?_); rintro e w15 ⟨rfl, hb⟩; refine ⟨_, rfl, ?_⟩; replace BK892 := bk_ BK892 hb; replace BK893 := bk_ BK893 hb; replace BK894 := bk_ BK894 hb; replace BK895 := bk_ BK895 hb; replace HB := hs_ hb; (try clear hb); (try clear hb2); (try clear hk); (try clear hi); obtain ⟨hcz16_0, hcz16_1, hcz16_2, hcz16_3, hfz16_0, hfz16_1, hfz16_2, hfz16_3⟩ := bz4_ BK892; have hnb17 := NB893_894.out; have hnc17 := NB894_893.out; have hnb18 := NB893_895.out; have hnc18 := NB895_893.out; obtain ⟨hcz19_0, hcz19_1, hcz19_2, hcz19_3, hfz19_0, hfz19_1, hfz19_2, hfz19_3⟩ := bz4_ BK893) | ((with_reducible refine gate_callee (f := 87) rfl ?_); refine goesL_ (some 19) rfl rfl Try.func87 (by kernel_rfl) rfl #[.agg #[.int .i64 a0_0, .int .i64 a0_1, .int .i64 a0_2, .int .i64 a0_3], .agg #[.int .i64 a1_0, .int .i64 a1_1, .int .u64 a1_2, .int .i64 a1_3]] rfl Z0 ?_; (with_reducible refine (shape_Fits.calls a0_0 a0_1 a0_2 a0_3 a1_0 a1_1 a1_2 a1_3 t897 _ A5.out).mono ?_); rintro e w20 ⟨rfl, hb⟩; refine ⟨_, rfl, ?_⟩; replace BK892 := bk_ BK892 hb; replace BK893 := bk_ BK893 hb; replace BK894 := bk_ BK894 hb; replace BK895 := bk_ BK895 hb; replace HB := hs_ hb; (try clear hb); (try clear hb2); (try clear hk); (try clear hi); have hnb21 := NB894_895.out; have hnc21 := NB895_894.out; obtain ⟨hcz22_0, hcz22_1, hcz22_2, hcz22_3, hfz22_0, hfz22_1, hfz22_2, hfz22_3⟩ := bz4_ BK894; obtain ⟨hcz23_0, hcz23_1, hcz23_2, hcz23_3, hfz23_0, hfz23_1, hfz23_2, hfz23_3⟩ := bz4_ BK895))
   refine bodyPost_ret (results_list (rs := [.cell 4 52, .cell 5 51, .tmp 6]) rfl (by simp) (.cell gb894 52 #[.int .i64 0, .int .i64 0, .int .u64 0, .int .i64 0] (0, 0) _ rfl (by (with_reducible repeat (first | refine blk_drewN ?_ _ | refine blk_drew ?_ | refine blk_alloc ?_ _)); refine blk_far ?_ NB894_895.out _; (with_reducible repeat (first | refine blk_drewN ?_ _ | refine blk_drew ?_ | refine blk_alloc ?_ _)); refine blk_far ?_ NB894_895.out _; (with_reducible repeat (first | refine blk_drewN ?_ _ | refine blk_drew ?_ | refine blk_alloc ?_ _)); refine blk_far ?_ NB894_895.out _; (with_reducible repeat (first | refine blk_drewN ?_ _ | refine blk_drew ?_ | refine blk_alloc ?_ _)); refine blk_far ?_ NB894_895.out _; (with_reducible repeat (first | refine blk_drewN ?_ _ | refine blk_drew ?_ | refine blk_alloc ?_ _)); refine blk_put (cs := #[.int .i64 0, .int .i64 0, .int .u64 0, .int .i64 0]) ?_ 3 _ rfl; (with_reducible repeat (first | refine blk_drewN ?_ _ | refine blk_drew ?_ | refine blk_alloc ?_ _)); refine blk_put (cs := #[.int .i64 0, .int .i64 0, .int .u64 0, .int .i64 0]) ?_ 2 _ rfl; (with_reducible repeat (first | refine blk_drewN ?_ _ | refine blk_drew ?_ | refine blk_alloc ?_ _)); refine blk_put (cs := #[.int .i64 0, .int .i64 0, .int .u64 0, .int .i64 0]) ?_ 1 _ rfl; (with_reducible repeat (first | refine blk_drewN ?_ _ | refine blk_drew ?_ | refine blk_alloc ?_ _)); refine blk_put (cs := #[.int .i64 0, .int .i64 0, .int .u64 0, .int .i64 0]) ?_ 0 _ rfl; (with_reducible repeat (first | refine blk_drewN ?_ _ | refine blk_drew ?_ | refine blk_alloc ?_ _)); exact BK894.out) Try.underlying52 rfl (by kernel_rfl) (.cell gb895 51 #[.int .i64 0, .int .i64 0, .int .u64 0, .int .i64 0] (0, 0) _ rfl (by (with_reducible repeat (first | refine blk_drewN ?_ _ | refine blk_drew ?_ | refine blk_alloc ?_ _)); refine blk_put (cs := #[.int .i64 0, .int .i64 0, .int .u64 0, .int .i64 0]) ?_ 3 _ rfl; (with_reducible repeat (first | refine blk_drewN ?_ _ | refine blk_drew ?_ | refine blk_alloc ?_ _)); refine blk_put (cs := #[.int .i64 0, .int .i64 0, .int .u64 0, .int .i64 0]) ?_ 2 _ rfl; (with_reducible repeat (first | refine blk_drewN ?_ _ | refine blk_drew ?_ | refine blk_alloc ?_ _)); refine blk_put (cs := #[.int .i64 0, .int .i64 0, .int .u64 0, .int .i64 0]) ?_ 1 _ rfl; (with_reducible repeat (first | refine blk_drewN ?_ _ | refine blk_drew ?_ | refine blk_alloc ?_ _)); refine blk_put (cs := #[.int .i64 0, .int .i64 0, .int .u64 0, .int .i64 0]) ?_ 0 _ rfl; (with_reducible repeat (first | refine blk_drewN ?_ _ | refine blk_drew ?_ | refine blk_alloc ?_ _)); refine blk_far ?_ NB895_894.out _; (with_reducible repeat (first | refine blk_drewN ?_ _ | refine blk_drew ?_ | refine blk_alloc ?_ _)); refine blk_far ?_ NB895_894.out _; (with_reducible repeat (first | refine blk_drewN ?_ _ | refine blk_drew ?_ | refine blk_alloc ?_ _)); refine blk_far ?_ NB895_894.out _; (with_reducible repeat (first | refine blk_drewN ?_ _ | refine blk_drew ?_ | refine blk_alloc ?_ _)); refine blk_far ?_ NB895_894.out _; (with_reducible repeat (first | refine blk_drewN ?_ _ | refine blk_drew ?_ | refine blk_alloc ?_ _)); exact BK895.out) Try.underlying51 rfl (by kernel_rfl) (.tmp .nil)))) rfl ?_
   exact ⟨by first | rfl | (simp [errW_none, errW_some] <;> rfl) | (simp [*, errW_none, errW_some] <;> rfl), hb_⟩
  ·rw [if_neg c6] at H
   have c6b0 : (t897 == 0) = false := beq_eq_false_iff_ne.mpr c6
   have c6b1 : (t897 != 0) = true := bne_iff_ne.mpr c6
   replace H := Option.bind_eq_some_iff.mp H
   obtain ⟨⟨t898, t899⟩, A240, H⟩ := H
   replace H : (some (a1_0, a1_1, t898, a0_1, a1_0, a1_1, Go.bits .andNot .u64 a1_2 t898, wrap64 (a1_3 - a0_1), 0)) = some (r1, r2, r3, r4, r5, r6, r7, r8, r9) := H
   have A24 := Aside0.mk A240
   clear A240
   simp only [Option.some.injEq, Prod.mk.injEq] at H
   obtain ⟨rfl, rfl, rfl, rfl, rfl, rfl, rfl, rfl, rfl⟩ := H
   go_enter Try.func88, Try.ntmps88
   try go_wp2_with (first | ((with_reducible refine gate_dst (N := 2) rfl ?_); refine bx 2 #[.int .i64 a0_0, .int .i64 a0_1, .int .i64 a0_2, .int .i64 a0_3] 27 ?_; intro gb892 hg w25 hbox hb; have BK892 := Aside0.mk (hbox); have GW892 := ge_ hg; have GE892 := ge_ hg; replace HB := hs_ hb; clear hb hbox hg) | ((with_reducible refine gate_dst (N := 3) rfl ?_); refine bx 3 #[.int .i64 a1_0, .int .i64 a1_1, .int .u64 a1_2, .int .i64 a1_3] 51 ?_; intro gb893 hg w26 hbox hb; have BK893 := Aside0.mk (hbox); have GW893 := ge_ hg; have GE893 := ge_ hg; have NB892_893 := nl_ BK892 hg; have NB893_892 := nr_ BK892 hg; replace BK892 := bk_ BK892 hb; replace HB := hs_ hb; clear hb hbox hg) | ((with_reducible refine gate_dst (N := 4) rfl ?_); refine bx 4 #[.int .i64 0, .int .i64 0, .int .u64 0, .int .i64 0] 52 ?_; intro gb894 hg w27 hbox hb; have BK894 := Aside0.mk (hbox); have GW894 := ge_ hg; have GE894 := ge_ hg; have NB892_894 := nl_ BK892 hg; have NB894_892 := nr_ BK892 hg; have NB893_894 := nl_ BK893 hg; have NB894_893 := nr_ BK893 hg; replace BK892 := bk_ BK892 hb; replace BK893 := bk_ BK893 hb; replace HB := hs_ hb; clear hb hbox hg) | ((with_reducible refine gate_dst (N := 5) rfl ?_); refine bx 5 #[.int .i64 0, .int .i64 0, .int .u64 0, .int .i64 0] 51 ?_; intro gb895 hg w28 hbox hb; have BK895 := Aside0.mk (hbox); have GW895 := ge_ hg; have GE895 := ge_ hg; have NB892_895 := nl_ BK892 hg; have NB895_892 := nr_ BK892 hg; have NB893_895 := nl_ BK893 hg; have NB895_893 := nr_ BK893 hg; have NB894_895 := nl_ BK894 hg; have NB895_894 := nr_ BK894 hg; replace BK892 := bk_ BK892 hb; replace BK893 := bk_ BK893 hb; replace BK894 := bk_ BK894 hb; replace HB := hs_ hb; clear hb hbox hg; have hnb29 := NB892_893.out; have hnc29 := NB893_892.out; have hnb30 := NB892_894.out; have hnc30 := NB894_892.out; have hnb31 := NB892_895.out; have hnc31 := NB895_892.out; obtain ⟨hcz32_0, hcz32_1, hcz32_2, hcz32_3, hfz32_0, hfz32_1, hfz32_2, hfz32_3⟩ := bz4_ BK892) | ((with_reducible refine gate_callee (f := 83) rfl ?_); refine goesL_ (some 11) rfl rfl Try.func83 (by kernel_rfl) rfl #[.agg #[.int .i64 a0_0, .int .i64 a0_1, .int .i64 a0_2, .int .i64 a0_3]] rfl Z0 ?_; (with_reducible refine (shape_Check.calls a0_0 a0_1 a0_2 a0_3 t896 _ A3.out).mono ?_); rintro e w33 ⟨rfl, hb⟩; refine ⟨_, rfl, ?_⟩; replace BK892 := bk_ BK892 hb; replace BK893 := bk_ BK893 hb; replace BK894 := bk_ BK894 hb; replace BK895 := bk_ BK895 hb; replace HB := hs_ hb; (try clear hb); (try clear hb2); (try clear hk); (try clear hi); obtain ⟨hcz34_0, hcz34_1, hcz34_2, hcz34_3, hfz34_0, hfz34_1, hfz34_2, hfz34_3⟩ := bz4_ BK892; have hnb35 := NB893_894.out; have hnc35 := NB894_893.out; have hnb36 := NB893_895.out; have hnc36 := NB895_893.out; obtain ⟨hcz37_0, hcz37_1, hcz37_2, hcz37_3, hfz37_0, hfz37_1, hfz37_2, hfz37_3⟩ := bz4_ BK893) | ((with_reducible refine gate_callee (f := 87) rfl ?_); refine goesL_ (some 19) rfl rfl Try.func87 (by kernel_rfl) rfl #[.agg #[.int .i64 a0_0, .int .i64 a0_1, .int .i64 a0_2, .int .i64 a0_3], .agg #[.int .i64 a1_0, .int .i64 a1_1, .int .u64 a1_2, .int .i64 a1_3]] rfl Z0 ?_; (with_reducible refine (shape_Fits.calls a0_0 a0_1 a0_2 a0_3 a1_0 a1_1 a1_2 a1_3 t897 _ A5.out).mono ?_); rintro e w38 ⟨rfl, hb⟩; refine ⟨_, rfl, ?_⟩; replace BK892 := bk_ BK892 hb; replace BK893 := bk_ BK893 hb; replace BK894 := bk_ BK894 hb; replace BK895 := bk_ BK895 hb; replace HB := hs_ hb; (try clear hb); (try clear hb2); (try clear hk); (try clear hi); obtain ⟨hcz39_0, hcz39_1, hcz39_2, hcz39_3, hfz39_0, hfz39_1, hfz39_2, hfz39_3⟩ := bz4_ BK893; obtain ⟨hcz40_0, hcz40_1, hcz40_2, hcz40_3, hfz40_0, hfz40_1, hfz40_2, hfz40_3⟩ := bz4_ BK892) | ((with_reducible refine gate_callee (f := 114) rfl ?_); refine goesL_ (some 28) rfl rfl Try.func114 (by kernel_rfl) rfl #[.int .u64 a1_2, .int .i64 a0_0] rfl Z0 ?_; (with_reducible refine (mask_Lowest.calls a1_2 a0_0 t898 t899 _ A24.out).mono ?_); rintro e w41 ⟨rfl, hb⟩; refine ⟨_, rfl, ?_⟩; replace BK892 := bk_ BK892 hb; replace BK893 := bk_ BK893 hb; replace BK894 := bk_ BK894 hb; replace BK895 := bk_ BK895 hb; replace HB := hs_ hb; (try clear hb); (try clear hb2); (try clear hk); (try clear hi)))
   replace BK892 := Aside0.mk (blk_drew BK892.out)
   replace BK893 := Aside0.mk (blk_drew BK893.out)
   replace BK894 := Aside0.mk (blk_drew BK894.out)
   replace BK895 := Aside0.mk (blk_drew BK895.out)
   replace HB := Aside0.mk (below_drew1 HB.out)
   refine start_ (n := 21) (S := fun w' => w'.cell? ⟨gb893, 0, none⟩ = some (.int .i64 a1_0) ∧ w'.cell? ⟨gb893, 1, none⟩ = some (.int .i64 a1_1) ∧ w'.cell? ⟨gb893, 2, none⟩ = some (.int .u64 a1_2) ∧ w'.cell? ⟨gb893, 3, none⟩ = some (.int .i64 a1_3) ∧ w'.cell? ⟨gb892, 0, none⟩ = some (.int .i64 a0_0) ∧ w'.cell? ⟨gb892, 1, none⟩ = some (.int .i64 a0_1) ∧ w'.cell? ⟨gb892, 2, none⟩ = some (.int .i64 a0_2) ∧ w'.cell? ⟨gb892, 3, none⟩ = some (.int .i64 a0_3)) (ds := []) (bm 21 0) (by kernel_rfl) rfl rfl ⟨(blk_cell BK893.out 0).trans rfl, (blk_cell BK893.out 1).trans rfl, (blk_cell BK893.out 2).trans rfl, (blk_cell BK893.out 3).trans rfl, (blk_cell BK892.out 0).trans rfl, (blk_cell BK892.out 1).trans rfl, (blk_cell BK892.out 2).trans rfl, (blk_cell BK892.out 3).trans rfl⟩ (fun hHeld => ?_); refine with_tabW shape_Piece.tab7 shape_Piece.bits7 (fun HT_ HW_ => ?_)
   generalize w41.drew = w42 at BK892 BK893 BK894 BK895 HB hHeld ⊢
   refine pu 0 (some 31) (bm 21 1) ?_
   refine pu 2 (some 33) (bm 21 5) ?_
   refine pu 3 (some 34) (bm 21 13) ?_
   refine pu 6 (some 37) (bm 21 77) ?_
   refine pu 8 (some 39) (bm 21 333) ?_
   refine pu 10 (some 41) (bm 21 1357) ?_
   refine pu 12 (some 43) (bm 21 5453) ?_
   refine pu 14 (some 45) (bm 21 21837) ?_
   refine tk8 1 (some 32) (bm 21 21839) ?_
   refine tk8 4 (some 35) (bm 21 21855) ?_
   refine pu 5 (some 36) (bm 21 21887) ?_
   refine tk8 7 (some 38) (bm 21 22015) ?_
   refine tk8 9 (some 40) (bm 21 22527) ?_
   refine pu 11 (some 42) (bm 21 24575) ?_
   refine tk8 13 (some 44) (bm 21 32767) ?_
   refine tk8 15 (some 46) (bm 21 65535) ?_
   refine pu 16 (some 47) (bm 21 131071) ?_
   refine pu 17 (some 48) (bm 21 262143) ?_
   refine one_ (i := 18) (N := none) (bm 21 524287) rfl rfl (one_of HT_.out (by kernel_rfl)) (by decide) (fun K hK => ?_)
   have hs43 : w42.cell? ⟨gb894, 0, none⟩ = some (.int .i64 0) := (blk_cell BK894.out 0).trans rfl
   have hfs43 := blk_frozen BK894.out 0
   have hns43_0 := NB892_894.out
   have hns43_1 := NB893_894.out
   have hns43_3 := NB895_894.out
   have hms43_0 := NB894_892.out
   have hms43_1 := NB894_893.out
   have hms43_3 := NB894_895.out
   have hs44 : w42.cell? ⟨gb894, 1, none⟩ = some (.int .i64 0) := (blk_cell BK894.out 1).trans rfl
   have hfs44 := blk_frozen BK894.out 1
   have hns44_0 := NB892_894.out
   have hns44_1 := NB893_894.out
   have hns44_3 := NB895_894.out
   have hms44_0 := NB894_892.out
   have hms44_1 := NB894_893.out
   have hms44_3 := NB894_895.out
   have hs45 : w42.cell? ⟨gb894, 2, none⟩ = some (.int .u64 0) := (blk_cell BK894.out 2).trans rfl
   have hfs45 := blk_frozen BK894.out 2
   have hns45_0 := NB892_894.out
   have hns45_1 := NB893_894.out
   have hns45_3 := NB895_894.out
   have hms45_0 := NB894_892.out
   have hms45_1 := NB894_893.out
   have hms45_3 := NB894_895.out
   have hs46 : w42.cell? ⟨gb894, 3, none⟩ = some (.int .i64 0) := (blk_cell BK894.out 3).trans rfl
   have hfs46 := blk_frozen BK894.out 3
   have hns46_0 := NB892_894.out
   have hns46_1 := NB893_894.out
   have hns46_3 := NB895_894.out
   have hms46_0 := NB894_892.out
   have hms46_1 := NB894_893.out
   have hms46_3 := NB894_895.out
   refine skip_ (w1 := ?_) (by rfl) rfl ?_ ?_
   rotate_left
   ·go_simp
    rfl
   refine hK.out _ _ ⟨((cell_far (p := ⟨gb894, _, none⟩) NB893_894.out _).trans (((cell_far (p := ⟨gb894, _, none⟩) NB893_894.out _).trans (((cell_far (p := ⟨gb894, _, none⟩) NB893_894.out _).trans (((cell_far (p := ⟨gb894, _, none⟩) NB893_894.out _).trans (hHeld.1)))))))), ((cell_far (p := ⟨gb894, _, none⟩) NB893_894.out _).trans (((cell_far (p := ⟨gb894, _, none⟩) NB893_894.out _).trans (((cell_far (p := ⟨gb894, _, none⟩) NB893_894.out _).trans (((cell_far (p := ⟨gb894, _, none⟩) NB893_894.out _).trans (hHeld.2.1)))))))), ((cell_far (p := ⟨gb894, _, none⟩) NB893_894.out _).trans (((cell_far (p := ⟨gb894, _, none⟩) NB893_894.out _).trans (((cell_far (p := ⟨gb894, _, none⟩) NB893_894.out _).trans (((cell_far (p := ⟨gb894, _, none⟩) NB893_894.out _).trans (hHeld.2.2.1)))))))), ((cell_far (p := ⟨gb894, _, none⟩) NB893_894.out _).trans (((cell_far (p := ⟨gb894, _, none⟩) NB893_894.out _).trans (((cell_far (p := ⟨gb894, _, none⟩) NB893_894.out _).trans (((cell_far (p := ⟨gb894, _, none⟩) NB893_894.out _).trans (hHeld.2.2.2.1)))))))), ((cell_far (p := ⟨gb894, _, none⟩) NB892_894.out _).trans (((cell_far (p := ⟨gb894, _, none⟩) NB892_894.out _).trans (((cell_far (p := ⟨gb894, _, none⟩) NB892_894.out _).trans (((cell_far (p := ⟨gb894, _, none⟩) NB892_894.out _).trans (hHeld.2.2.2.2.1)))))))), ((cell_far (p := ⟨gb894, _, none⟩) NB892_894.out _).trans (((cell_far (p := ⟨gb894, _, none⟩) NB892_894.out _).trans (((cell_far (p := ⟨gb894, _, none⟩) NB892_894.out _).trans (((cell_far (p := ⟨gb894, _, none⟩) NB892_894.out _).trans (hHeld.2.2.2.2.2.1)))))))), ((cell_far (p := ⟨gb894, _, none⟩) NB892_894.out _).trans (((cell_far (p := ⟨gb894, _, none⟩) NB892_894.out _).trans (((cell_far (p := ⟨gb894, _, none⟩) NB892_894.out _).trans (((cell_far (p := ⟨gb894, _, none⟩) NB892_894.out _).trans (hHeld.2.2.2.2.2.2.1)))))))), ((cell_far (p := ⟨gb894, _, none⟩) NB892_894.out _).trans (((cell_far (p := ⟨gb894, _, none⟩) NB892_894.out _).trans (((cell_far (p := ⟨gb894, _, none⟩) NB892_894.out _).trans (((cell_far (p := ⟨gb894, _, none⟩) NB892_894.out _).trans (hHeld.2.2.2.2.2.2.2))))))))⟩ (fun hHeld => ?_)
   clear hK K
   refine one_ (i := 19) (N := none) (bm 21 1048575) rfl rfl (one_of HT_.out (by kernel_rfl)) (by decide) (fun K hK => ?_)
   have hs47 : w42.cell? ⟨gb895, 0, none⟩ = some (.int .i64 0) := (blk_cell BK895.out 0).trans rfl
   have hfs47 := blk_frozen BK895.out 0
   have hns47_0 := NB892_895.out
   have hns47_1 := NB893_895.out
   have hns47_2 := NB894_895.out
   have hms47_0 := NB895_892.out
   have hms47_1 := NB895_893.out
   have hms47_2 := NB895_894.out
   have hs48 : w42.cell? ⟨gb895, 1, none⟩ = some (.int .i64 0) := (blk_cell BK895.out 1).trans rfl
   have hfs48 := blk_frozen BK895.out 1
   have hns48_0 := NB892_895.out
   have hns48_1 := NB893_895.out
   have hns48_2 := NB894_895.out
   have hms48_0 := NB895_892.out
   have hms48_1 := NB895_893.out
   have hms48_2 := NB895_894.out
   have hs49 : w42.cell? ⟨gb895, 2, none⟩ = some (.int .u64 0) := (blk_cell BK895.out 2).trans rfl
   have hfs49 := blk_frozen BK895.out 2
   have hns49_0 := NB892_895.out
   have hns49_1 := NB893_895.out
   have hns49_2 := NB894_895.out
   have hms49_0 := NB895_892.out
   have hms49_1 := NB895_893.out
   have hms49_2 := NB895_894.out
   have hs50 : w42.cell? ⟨gb895, 3, none⟩ = some (.int .i64 0) := (blk_cell BK895.out 3).trans rfl
   have hfs50 := blk_frozen BK895.out 3
   have hns50_0 := NB892_895.out
   have hns50_1 := NB893_895.out
   have hns50_2 := NB894_895.out
   have hms50_0 := NB895_892.out
   have hms50_1 := NB895_893.out
   have hms50_2 := NB895_894.out
   refine skip_ (w1 := ?_) (by rfl) rfl ?_ ?_
   rotate_left
   ·go_simp
    rfl
   refine hK.out _ _ ⟨((cell_far (p := ⟨gb895, _, none⟩) NB893_895.out _).trans (((cell_far (p := ⟨gb895, _, none⟩) NB893_895.out _).trans (((cell_far (p := ⟨gb895, _, none⟩) NB893_895.out _).trans (((cell_far (p := ⟨gb895, _, none⟩) NB893_895.out _).trans (hHeld.1)))))))), ((cell_far (p := ⟨gb895, _, none⟩) NB893_895.out _).trans (((cell_far (p := ⟨gb895, _, none⟩) NB893_895.out _).trans (((cell_far (p := ⟨gb895, _, none⟩) NB893_895.out _).trans (((cell_far (p := ⟨gb895, _, none⟩) NB893_895.out _).trans (hHeld.2.1)))))))), ((cell_far (p := ⟨gb895, _, none⟩) NB893_895.out _).trans (((cell_far (p := ⟨gb895, _, none⟩) NB893_895.out _).trans (((cell_far (p := ⟨gb895, _, none⟩) NB893_895.out _).trans (((cell_far (p := ⟨gb895, _, none⟩) NB893_895.out _).trans (hHeld.2.2.1)))))))), ((cell_far (p := ⟨gb895, _, none⟩) NB893_895.out _).trans (((cell_far (p := ⟨gb895, _, none⟩) NB893_895.out _).trans (((cell_far (p := ⟨gb895, _, none⟩) NB893_895.out _).trans (((cell_far (p := ⟨gb895, _, none⟩) NB893_895.out _).trans (hHeld.2.2.2.1)))))))), ((cell_far (p := ⟨gb895, _, none⟩) NB892_895.out _).trans (((cell_far (p := ⟨gb895, _, none⟩) NB892_895.out _).trans (((cell_far (p := ⟨gb895, _, none⟩) NB892_895.out _).trans (((cell_far (p := ⟨gb895, _, none⟩) NB892_895.out _).trans (hHeld.2.2.2.2.1)))))))), ((cell_far (p := ⟨gb895, _, none⟩) NB892_895.out _).trans (((cell_far (p := ⟨gb895, _, none⟩) NB892_895.out _).trans (((cell_far (p := ⟨gb895, _, none⟩) NB892_895.out _).trans (((cell_far (p := ⟨gb895, _, none⟩) NB892_895.out _).trans (hHeld.2.2.2.2.2.1)))))))), ((cell_far (p := ⟨gb895, _, none⟩) NB892_895.out _).trans (((cell_far (p := ⟨gb895, _, none⟩) NB892_895.out _).trans (((cell_far (p := ⟨gb895, _, none⟩) NB892_895.out _).trans (((cell_far (p := ⟨gb895, _, none⟩) NB892_895.out _).trans (hHeld.2.2.2.2.2.2.1)))))))), ((cell_far (p := ⟨gb895, _, none⟩) NB892_895.out _).trans (((cell_far (p := ⟨gb895, _, none⟩) NB892_895.out _).trans (((cell_far (p := ⟨gb895, _, none⟩) NB892_895.out _).trans (((cell_far (p := ⟨gb895, _, none⟩) NB892_895.out _).trans (hHeld.2.2.2.2.2.2.2))))))))⟩ (fun hHeld => ?_)
   clear hK K
   refine pu 20 (some 6) (bm 21 2097151) ?_
   refine done_ (done_of HT_.out (by kernel_rfl)) ?_
   try go_wp2
   refine bodyPost_ret (results_list (rs := [.cell 4 52, .cell 5 51, .tmp 6]) rfl (by simp) (.cell gb894 52 #[.int .i64 a1_0, .int .i64 a1_1, .int .u64 t898, .int .i64 a0_1] (0, 0) _ rfl (by (with_reducible repeat (first | refine blk_drewN ?_ _ | refine blk_drew ?_ | refine blk_alloc ?_ _)); refine blk_far ?_ NB894_895.out _; (with_reducible repeat (first | refine blk_drewN ?_ _ | refine blk_drew ?_ | refine blk_alloc ?_ _)); refine blk_far ?_ NB894_895.out _; (with_reducible repeat (first | refine blk_drewN ?_ _ | refine blk_drew ?_ | refine blk_alloc ?_ _)); refine blk_far ?_ NB894_895.out _; (with_reducible repeat (first | refine blk_drewN ?_ _ | refine blk_drew ?_ | refine blk_alloc ?_ _)); refine blk_far ?_ NB894_895.out _; (with_reducible repeat (first | refine blk_drewN ?_ _ | refine blk_drew ?_ | refine blk_alloc ?_ _)); refine blk_put (cs := #[.int .i64 a1_0, .int .i64 a1_1, .int .u64 t898, .int .i64 0]) ?_ 3 _ rfl; (with_reducible repeat (first | refine blk_drewN ?_ _ | refine blk_drew ?_ | refine blk_alloc ?_ _)); refine blk_put (cs := #[.int .i64 a1_0, .int .i64 a1_1, .int .u64 0, .int .i64 0]) ?_ 2 _ rfl; (with_reducible repeat (first | refine blk_drewN ?_ _ | refine blk_drew ?_ | refine blk_alloc ?_ _)); refine blk_put (cs := #[.int .i64 a1_0, .int .i64 0, .int .u64 0, .int .i64 0]) ?_ 1 _ rfl; (with_reducible repeat (first | refine blk_drewN ?_ _ | refine blk_drew ?_ | refine blk_alloc ?_ _)); refine blk_put (cs := #[.int .i64 0, .int .i64 0, .int .u64 0, .int .i64 0]) ?_ 0 _ rfl; (with_reducible repeat (first | refine blk_drewN ?_ _ | refine blk_drew ?_ | refine blk_alloc ?_ _)); exact BK894.out) Try.underlying52 rfl (by kernel_rfl) (.cell gb895 51 #[.int .i64 a1_0, .int .i64 a1_1, .int .u64 (Go.bits .andNot .u64 a1_2 t898), .int .i64 (wrap64 (a1_3 - a0_1))] (0, 0) _ rfl (by (with_reducible repeat (first | refine blk_drewN ?_ _ | refine blk_drew ?_ | refine blk_alloc ?_ _)); refine blk_put (cs := #[.int .i64 a1_0, .int .i64 a1_1, .int .u64 (Go.bits .andNot .u64 a1_2 t898), .int .i64 0]) ?_ 3 _ rfl; (with_reducible repeat (first | refine blk_drewN ?_ _ | refine blk_drew ?_ | refine blk_alloc ?_ _)); refine blk_put (cs := #[.int .i64 a1_0, .int .i64 a1_1, .int .u64 0, .int .i64 0]) ?_ 2 _ rfl; (with_reducible repeat (first | refine blk_drewN ?_ _ | refine blk_drew ?_ | refine blk_alloc ?_ _)); refine blk_put (cs := #[.int .i64 a1_0, .int .i64 0, .int .u64 0, .int .i64 0]) ?_ 1 _ rfl; (with_reducible repeat (first | refine blk_drewN ?_ _ | refine blk_drew ?_ | refine blk_alloc ?_ _)); refine blk_put (cs := #[.int .i64 0, .int .i64 0, .int .u64 0, .int .i64 0]) ?_ 0 _ rfl; (with_reducible repeat (first | refine blk_drewN ?_ _ | refine blk_drew ?_ | refine blk_alloc ?_ _)); refine blk_far ?_ NB895_894.out _; (with_reducible repeat (first | refine blk_drewN ?_ _ | refine blk_drew ?_ | refine blk_alloc ?_ _)); refine blk_far ?_ NB895_894.out _; (with_reducible repeat (first | refine blk_drewN ?_ _ | refine blk_drew ?_ | refine blk_alloc ?_ _)); refine blk_far ?_ NB895_894.out _; (with_reducible repeat (first | refine blk_drewN ?_ _ | refine blk_drew ?_ | refine blk_alloc ?_ _)); refine blk_far ?_ NB895_894.out _; (with_reducible repeat (first | refine blk_drewN ?_ _ | refine blk_drew ?_ | refine blk_alloc ?_ _)); exact BK895.out) Try.underlying51 rfl (by kernel_rfl) (.tmp .nil)))) rfl ?_
   exact ⟨by first | rfl | (simp [errW_none, errW_some] <;> rfl) | (simp [*, errW_none, errW_some] <;> rfl), hb_⟩
 ·rw [if_neg c4] at H
  have c4b0 : (t896 == 0) = false := beq_eq_false_iff_ne.mpr c4
  have c4b1 : (t896 != 0) = true := bne_iff_ne.mpr c4
  simp only [Option.some.injEq, Prod.mk.injEq] at H
  obtain ⟨rfl, rfl, rfl, rfl, rfl, rfl, rfl, rfl, rfl⟩ := H
  go_enter Try.func88, Try.ntmps88
  go_wp2_with (first | ((with_reducible refine gate_dst (N := 2) rfl ?_); refine bx 2 #[.int .i64 a0_0, .int .i64 a0_1, .int .i64 a0_2, .int .i64 a0_3] 27 ?_; intro gb892 hg w51 hbox hb; have BK892 := Aside0.mk (hbox); have GW892 := ge_ hg; have GE892 := ge_ hg; replace HB := hs_ hb; clear hb hbox hg) | ((with_reducible refine gate_dst (N := 3) rfl ?_); refine bx 3 #[.int .i64 a1_0, .int .i64 a1_1, .int .u64 a1_2, .int .i64 a1_3] 51 ?_; intro gb893 hg w52 hbox hb; have BK893 := Aside0.mk (hbox); have GW893 := ge_ hg; have GE893 := ge_ hg; have NB892_893 := nl_ BK892 hg; have NB893_892 := nr_ BK892 hg; replace BK892 := bk_ BK892 hb; replace HB := hs_ hb; clear hb hbox hg) | ((with_reducible refine gate_dst (N := 4) rfl ?_); refine bx 4 #[.int .i64 0, .int .i64 0, .int .u64 0, .int .i64 0] 52 ?_; intro gb894 hg w53 hbox hb; have BK894 := Aside0.mk (hbox); have GW894 := ge_ hg; have GE894 := ge_ hg; have NB892_894 := nl_ BK892 hg; have NB894_892 := nr_ BK892 hg; have NB893_894 := nl_ BK893 hg; have NB894_893 := nr_ BK893 hg; replace BK892 := bk_ BK892 hb; replace BK893 := bk_ BK893 hb; replace HB := hs_ hb; clear hb hbox hg) | ((with_reducible refine gate_dst (N := 5) rfl ?_); refine bx 5 #[.int .i64 0, .int .i64 0, .int .u64 0, .int .i64 0] 51 ?_; intro gb895 hg w54 hbox hb; have BK895 := Aside0.mk (hbox); have GW895 := ge_ hg; have GE895 := ge_ hg; have NB892_895 := nl_ BK892 hg; have NB895_892 := nr_ BK892 hg; have NB893_895 := nl_ BK893 hg; have NB895_893 := nr_ BK893 hg; have NB894_895 := nl_ BK894 hg; have NB895_894 := nr_ BK894 hg; replace BK892 := bk_ BK892 hb; replace BK893 := bk_ BK893 hb; replace BK894 := bk_ BK894 hb; replace HB := hs_ hb; clear hb hbox hg; have hnb55 := NB892_893.out; have hnc55 := NB893_892.out; have hnb56 := NB892_894.out; have hnc56 := NB894_892.out; have hnb57 := NB892_895.out; have hnc57 := NB895_892.out; obtain ⟨hcz58_0, hcz58_1, hcz58_2, hcz58_3, hfz58_0, hfz58_1, hfz58_2, hfz58_3⟩ := bz4_ BK892) | ((with_reducible refine gate_callee (f := 83) rfl ?_); refine goesL_ (some 11) rfl rfl Try.func83 (by kernel_rfl) rfl #[.agg #[.int .i64 a0_0, .int .i64 a0_1, .int .i64 a0_2, .int .i64 a0_3]] rfl Z0 ?_; (with_reducible refine (shape_Check.calls a0_0 a0_1 a0_2 a0_3 t896 _ A3.out).mono ?_); rintro e w59 ⟨rfl, hb⟩; refine ⟨_, rfl, ?_⟩; replace BK892 := bk_ BK892 hb; replace BK893 := bk_ BK893 hb; replace BK894 := bk_ BK894 hb; replace BK895 := bk_ BK895 hb; replace HB := hs_ hb; (try clear hb); (try clear hb2); (try clear hk); (try clear hi); have hnb60 := NB894_893.out; have hnc60 := NB893_894.out; have hnb61 := NB894_895.out; have hnc61 := NB895_894.out; obtain ⟨hcz62_0, hcz62_1, hcz62_2, hcz62_3, hfz62_0, hfz62_1, hfz62_2, hfz62_3⟩ := bz4_ BK894; have hnb63 := NB895_893.out; have hnc63 := NB893_895.out; obtain ⟨hcz64_0, hcz64_1, hcz64_2, hcz64_3, hfz64_0, hfz64_1, hfz64_2, hfz64_3⟩ := bz4_ BK895))
  refine bodyPost_ret (results_list (rs := [.cell 4 52, .cell 5 51, .tmp 6]) rfl (by simp) (.cell gb894 52 #[.int .i64 0, .int .i64 0, .int .u64 0, .int .i64 0] (0, 0) _ rfl (by (with_reducible repeat (first | refine blk_drewN ?_ _ | refine blk_drew ?_ | refine blk_alloc ?_ _)); refine blk_far ?_ NB894_895.out _; (with_reducible repeat (first | refine blk_drewN ?_ _ | refine blk_drew ?_ | refine blk_alloc ?_ _)); refine blk_far ?_ NB894_895.out _; (with_reducible repeat (first | refine blk_drewN ?_ _ | refine blk_drew ?_ | refine blk_alloc ?_ _)); refine blk_far ?_ NB894_895.out _; (with_reducible repeat (first | refine blk_drewN ?_ _ | refine blk_drew ?_ | refine blk_alloc ?_ _)); refine blk_far ?_ NB894_895.out _; (with_reducible repeat (first | refine blk_drewN ?_ _ | refine blk_drew ?_ | refine blk_alloc ?_ _)); refine blk_put (cs := #[.int .i64 0, .int .i64 0, .int .u64 0, .int .i64 0]) ?_ 3 _ rfl; (with_reducible repeat (first | refine blk_drewN ?_ _ | refine blk_drew ?_ | refine blk_alloc ?_ _)); refine blk_put (cs := #[.int .i64 0, .int .i64 0, .int .u64 0, .int .i64 0]) ?_ 2 _ rfl; (with_reducible repeat (first | refine blk_drewN ?_ _ | refine blk_drew ?_ | refine blk_alloc ?_ _)); refine blk_put (cs := #[.int .i64 0, .int .i64 0, .int .u64 0, .int .i64 0]) ?_ 1 _ rfl; (with_reducible repeat (first | refine blk_drewN ?_ _ | refine blk_drew ?_ | refine blk_alloc ?_ _)); refine blk_put (cs := #[.int .i64 0, .int .i64 0, .int .u64 0, .int .i64 0]) ?_ 0 _ rfl; (with_reducible repeat (first | refine blk_drewN ?_ _ | refine blk_drew ?_ | refine blk_alloc ?_ _)); exact BK894.out) Try.underlying52 rfl (by kernel_rfl) (.cell gb895 51 #[.int .i64 0, .int .i64 0, .int .u64 0, .int .i64 0] (0, 0) _ rfl (by (with_reducible repeat (first | refine blk_drewN ?_ _ | refine blk_drew ?_ | refine blk_alloc ?_ _)); refine blk_put (cs := #[.int .i64 0, .int .i64 0, .int .u64 0, .int .i64 0]) ?_ 3 _ rfl; (with_reducible repeat (first | refine blk_drewN ?_ _ | refine blk_drew ?_ | refine blk_alloc ?_ _)); refine blk_put (cs := #[.int .i64 0, .int .i64 0, .int .u64 0, .int .i64 0]) ?_ 2 _ rfl; (with_reducible repeat (first | refine blk_drewN ?_ _ | refine blk_drew ?_ | refine blk_alloc ?_ _)); refine blk_put (cs := #[.int .i64 0, .int .i64 0, .int .u64 0, .int .i64 0]) ?_ 1 _ rfl; (with_reducible repeat (first | refine blk_drewN ?_ _ | refine blk_drew ?_ | refine blk_alloc ?_ _)); refine blk_put (cs := #[.int .i64 0, .int .i64 0, .int .u64 0, .int .i64 0]) ?_ 0 _ rfl; (with_reducible repeat (first | refine blk_drewN ?_ _ | refine blk_drew ?_ | refine blk_alloc ?_ _)); refine blk_far ?_ NB895_894.out _; (with_reducible repeat (first | refine blk_drewN ?_ _ | refine blk_drew ?_ | refine blk_alloc ?_ _)); refine blk_far ?_ NB895_894.out _; (with_reducible repeat (first | refine blk_drewN ?_ _ | refine blk_drew ?_ | refine blk_alloc ?_ _)); refine blk_far ?_ NB895_894.out _; (with_reducible repeat (first | refine blk_drewN ?_ _ | refine blk_drew ?_ | refine blk_alloc ?_ _)); refine blk_far ?_ NB895_894.out _; (with_reducible repeat (first | refine blk_drewN ?_ _ | refine blk_drew ?_ | refine blk_alloc ?_ _)); exact BK895.out) Try.underlying51 rfl (by kernel_rfl) (.tmp .nil)))) rfl ?_
  exact ⟨by first | rfl | (simp [errW_none, errW_some] <;> rfl) | (simp [*, errW_none, errW_some] <;> rfl), hb_⟩
end Go.Proofs.Ytckhjehibjdjdaa.P
namespace Go.Proofs.Ytckhjehibjdjdaa.P
open Go.RowKit Go.Shelf Go.Lib Go.Proofs.YtckhjehibjdjdaaW.PrintWords Go.Proofs.YtckhjehibjdjdaaW.PrintLast Go.Proofs.YtckhjehibjdjdaaW.PrintMore
open Go.Proofs.Ytckhjehibjdjdaa.Bits
attribute [local go_sem] Oper.semAt_some
set_option linter.unusedVariables false
set_option linter.unusedSimpArgs false
theorem sortAny (base : Nat) (ok : Nat → Prop) (v : Value) (gs gl : Nat) (s0 s1 s2 s3 : Int) (xs : List S51) (w : World) (hgs : w.heap[gs]? = some (.cells #[.int .i64 s0, .int .i64 s1, .int .i64 s2, .int .i64 s3] 27 (0, 0))) (hgl : w.heap[gl]? = some (.cells #[v] 22 (0, 0)))
  (hrw : Kd.R k51 51 w base ok v xs) (hn : xs.length ≤ 1000000) (hf : ∀ f ∈ xs, freeOk f = true) :
  Calls Try.prog 85 #[.iface 22 v, .func (.func 86) #[] #[.pointer (some ⟨gs, 0, none⟩), .pointer (some ⟨gl, 0, none⟩)]] w fun e w' => e = .returned (.tuple #[]) ∧ Kd.R k51 51 w' base ok v (isort (fkey s0 s1 s2 s3) xs) ∧ w.grownBy w' v.ownBlock := by
 by_cases h2 : 2 ≤ xs.length
 ·obtain ⟨g, c, cur, hv, _, _, hh⟩ := own51 hrw (by omega)
  subst hv
  have h1 : gs ≠ g := blk_ne hgs hh (by decide)
  have h3 : gl ≠ g := blk_ne hgl hh (by decide)
  have := sortPlace base ok g gs gl xs.length c s0 s1 s2 s3 xs w hgs hgl hrw h2 hn hf h1 h3 (blk_lt hh)
  refine this.mono ?_
  rintro e w' ⟨he, hr, hg⟩
  exact ⟨he, hr, by simpa [Value.ownBlock] using hg⟩
 ·obtain ⟨A, c, rfl⟩ := Kd.R_slice hrw
  refine (sortPlace_tiny A xs.length c (by omega) _ w).mono ?_
  rintro e w' ⟨he, hb⟩
  rw [isort_one (fkey s0 s1 s2 s3) xs (by omega)]
  exact ⟨he, Kd.R_below hrw hb, ⟨hb.os, hb.tape, hb.output, hb.size, fun k hk _ => hb.block k hk⟩⟩
def pieceL (s0 s1 : Int) (f : S51) : S52 := ⟨f.f0, lowI f.f1 s0, s1⟩
def leftF (s0 s1 : Int) (f : S51) : S51 := ⟨f.f0, Go.bits .andNot .u64 f.f1 (lowI f.f1 s0), wrap64 (f.f2 - s1)⟩
def cutL (s0 s1 s2 s3 : Int) (m : Nat) : Nat → S51 → List S52 → List S52
 | 0, _, out => out
 | k + 1, f, out => if out.length < m ∧ fitV s0 s1 s2 s3 f.f1 f.f2 ≠ 0 then cutL s0 s1 s2 s3 m k (leftF s0 s1 f) (out ++ [pieceL s0 s1 f]) else out
def placeL (s0 s1 s2 s3 : Int) (m : Nat) (l : List S51) : List S52 := l.foldl (fun out f => cutL s0 s1 s2 s3 m 17 f out) []
theorem cutL_le (s0 s1 s2 s3 : Int) (m : Nat) : ∀ (k : Nat) (f : S51) (out : List S52), out.length ≤ m → (cutL s0 s1 s2 s3 m k f out).length ≤ m
 | 0, _, out, h => h
 | k + 1, f, out, h => by
  rw [cutL]
  split
  ·rename_i hc; exact cutL_le s0 s1 s2 s3 m k _ _ (by simp; omega)
  ·exact h
theorem placeL_le (s0 s1 s2 s3 : Int) (m : Nat) (l : List S51) : (placeL s0 s1 s2 s3 m l).length ≤ m := by
 have : ∀ (l : List S51) (out : List S52), out.length ≤ m → (l.foldl (fun out f => cutL s0 s1 s2 s3 m 17 f out) out).length ≤ m := by
  intro l
  induction l with
  | nil => intro out h; exact h
  | cons x l ih => intro out h; exact ih _ (cutL_le s0 s1 s2 s3 m 17 x out h)
 exact this l [] (by simp)
theorem placeL_take (s0 s1 s2 s3 : Int) (m : Nat) (l : List S51) (i : Nat) (h : i < l.length) : placeL s0 s1 s2 s3 m (l.take (i + 1)) = cutL s0 s1 s2 s3 m 17 l[i] (placeL s0 s1 s2 s3 m (l.take i)) := by
 unfold placeL
 rw [List.take_succ_eq_append_getElem h, List.foldl_append]; rfl
def placeOk (view : List S51) : Bool := view.all freeOk && decide (view.length ≤ 1000000)
def placeB (view : List S51) (s0 s1 s2 s3 m : Int) : List S52 × Int :=
 if goodShape s0 s1 s2 s3 = true ∧ 1 ≤ m ∧ m ≤ 16 then
  (if (placeL s0 s1 s2 s3 m.toNat (isort (fkey s0 s1 s2 s3) view)).length < m.toNat then ([], 7) else (placeL s0 s1 s2 s3 m.toNat (isort (fkey s0 s1 s2 s3) view), 0))
 else ([], 1)
theorem good_out0 {g c mn mx : Int} (h : goodShape g c mn mx = true) : 0 ≤ g ∧ g ≤ 16 ∧ 0 ≤ c ∧ c ≤ 1024 := by
 simp only [goodShape, Bool.and_eq_true, decide_eq_true_eq] at h
 omega
def pack_Place.f (l0 : List (S51)) (a1_0 : Int) (a1_1 : Int) (a1_2 : Int) (a1_3 : Int) (a2 : Int) : Option ((List (S52)) × Int) := if placeOk l0 = true then some (placeB l0 a1_0 a1_1 a1_2 a1_3 a2) else none
theorem put4 {W : World} {g : Nat} {t : TypeId} {a b c d a' b' c' d' : Value} (h : W.heap[g]? = some (.cells #[a, b, c, d] t (0, 0))) :
  ((((W.setCell ⟨g, 0, none⟩ a').setCell ⟨g, 1, none⟩ b').setCell ⟨g, 2, none⟩ c').setCell ⟨g, 3, none⟩ d').heap[g]? = some (.cells #[a', b', c', d'] t (0, 0)) := blk_put (blk_put (blk_put (blk_put h 0 _ rfl) 1 _ rfl) 2 _ rfl) 3 _ rfl
theorem grown4 (W : World) (g : Nat) {a' b' c' d' : Value} : W.grownBy ((((W.setCell ⟨g, 0, none⟩ a').setCell ⟨g, 1, none⟩ b').setCell ⟨g, 2, none⟩ c').setCell ⟨g, 3, none⟩ d') (some g) := grown_set (grown_set (grown_set (grown_set (grown_refl W (some g)))))
theorem k4c {W : World} {g : Nat} {t : TypeId} {a b c d : Value} (h : Aside0 (W.heap[g]? = some (.cells #[a, b, c, d] t (0, 0)))) : W.cell? ⟨g, 0, none⟩ = some a ∧ W.cell? ⟨g, 1, none⟩ = some b ∧ W.cell? ⟨g, 2, none⟩ = some c ∧ W.cell? ⟨g, 3, none⟩ = some d := ⟨blk_cell h.out 0, blk_cell h.out 1, blk_cell h.out 2, blk_cell h.out 3⟩
theorem far4 {W : World} {g k : Nat} {t : TypeId} {cs : Array Value} {a' b' c' d' : Value} (h : W.heap[k]? = some (.cells cs t (0, 0))) (hne : k ≠ g) :
  ((((W.setCell ⟨g, 0, none⟩ a').setCell ⟨g, 1, none⟩ b').setCell ⟨g, 2, none⟩ c').setCell ⟨g, 3, none⟩ d').heap[k]? = some (.cells cs t (0, 0)) := blk_far (blk_far (blk_far (blk_far h hne _) hne _) hne _) hne _
theorem below4 {w W : World} {g : Nat} {a' b' c' d' : Value} (h : Below w.heap.size w W) (hg : w.heap.size ≤ g) :
  Below w.heap.size w ((((W.setCell ⟨g, 0, none⟩ a').setCell ⟨g, 1, none⟩ b').setCell ⟨g, 2, none⟩ c').setCell ⟨g, 3, none⟩ d') := below_set (below_set (below_set (below_set h hg) hg) hg) hg
theorem fit_pop {s0 s1 s2 s3 : Int} {f : S51} (hg : goodShape s0 s1 s2 s3 = true) (hf : freeOk f = true) (h : fitV s0 s1 s2 s3 f.f1 f.f2 ≠ 0) : ¬ popI f.f1 < s0 := fun hp => by
 have hb := good_out0 hg
 have h0 := (popI_bd f.f1).1
 apply h
 unfold fitV
 split
 ·rename_i hc
  unfold fitN
  have e1 : eachI (popI f.f1) s0 = 0 := by
   unfold eachI
   rw [if_neg (by omega)]
   exact Int.ediv_eq_zero_of_lt h0 hp
  have e2 : 0 ≤ eachI f.f2 s1 := by
   unfold eachI
   split
   ·decide
   ·exact Int.ediv_nonneg hc.2 hb.2.2.1
  rw [e1]
  omega
 ·rfl
theorem freeOk0 {f : S51} (hf : freeOk f = true) : 0 ≤ f.f1 ∧ f.f1 < 18446744073709551616 ∧ f.f2 ≤ 9223372036854775807 := by
 simp only [freeOk, w64B, Bool.and_eq_true, decide_eq_true_eq] at hf; omega
theorem piece_no {s0 s1 s2 s3 : Int} (f : S51) (hg : goodShape s0 s1 s2 s3 = true) (hf : freeOk f = true) (h : fitV s0 s1 s2 s3 f.f1 f.f2 = 0) : shape_Piece.f s0 s1 s2 s3 f.f0.f0 f.f0.f1 f.f1 f.f2 = some (0, 0, 0, 0, 0, 0, 0, 0, 7) := by
 unfold shape_Piece.f shape_Check.f shape_Fits.f
 rw [if_pos hg, Option.bind_some, if_pos rfl, if_pos (freeOk0 hf), Option.bind_some, if_pos h]
theorem piece_yes {s0 s1 s2 s3 : Int} (f : S51) (hg : goodShape s0 s1 s2 s3 = true) (hf : freeOk f = true) (h : fitV s0 s1 s2 s3 f.f1 f.f2 ≠ 0) : shape_Piece.f s0 s1 s2 s3 f.f0.f0 f.f0.f1 f.f1 f.f2 = some (f.f0.f0, f.f0.f1, lowI f.f1 s0, s1, f.f0.f0, f.f0.f1, Go.bits .andNot .u64 f.f1 (lowI f.f1 s0), wrap64 (f.f2 - s1), 0) := by
 have hp := fit_pop hg hf h
 have h0 := freeOk0 hf
 have hb := good_out0 hg
 have e : mask_Lowest.f f.f1 s0 = some (lowI f.f1 s0, 0) := by
  unfold mask_Lowest.f
  rw [if_pos ⟨h0.1, h0.2.1⟩, if_neg (by omega), if_neg hp]
 unfold shape_Piece.f shape_Check.f shape_Fits.f
 rw [if_pos hg, Option.bind_some, if_pos rfl, if_pos h0, Option.bind_some, if_neg h, e, Option.bind_some]
theorem leftF_ok (s0 s1 : Int) {f : S51} (hf : freeOk f = true) : freeOk (leftF s0 s1 f) = true := by
 have e : Go.bits .andNot .u64 f.f1 (lowI f.f1 s0) = ((BitVec.ofInt 64 f.f1 &&& ~~~ BitVec.ofInt 64 (lowI f.f1 s0)).toNat : Int) := by
  show IntKind.u64.wrap ((BitVec.ofInt 64 f.f1 &&& ~~~ BitVec.ofInt 64 (lowI f.f1 s0)).toNat : Int) = _
  rw [wrapN, Nat.mod_eq_of_lt (BitVec.isLt _)]
 have h1 := (BitVec.ofInt 64 f.f1 &&& ~~~ BitVec.ofInt 64 (lowI f.f1 s0)).isLt
 unfold leftF freeOk
 simp only
 rw [e, decide_eq_true (by omega), decide_eq_true (by omega)]
 exact w64_wrap _
def T46 : Bool × List (List Nat × List Nat) := (true, [([], []), ([], []), ([1], [1]), ([0, 2], [0, 2]), ([], []), ([3, 3, 0, 1, 2, 3], [0, 3]), ([4, 5, 0, 1, 2, 3, 4, 5], [4])])
def B46 : List Nat := [0, 0, 2, 7, 0, 15, 63]
theorem tab46 : rtab .any (opsOf Try.f46 12) = T46 := by kernel_rfl
theorem bits46 : waitsOk T46.2 B46 = true := by kernel_rfl
set_option maxHeartbeats 16000000 in
set_option maxRecDepth 100000 in
theorem place_any (A0 : Option Addr) (c0 : Nat) (l0 : List S51) (s0 s1 s2 s3 : Int) (m : Nat) (w : World) (hr0 : Kd.C k51 w A0 l0.length l0) (hc0 : l0.length ≤ c0) (hf : ∀ f ∈ l0, freeOk f = true) (hl : l0.length ≤ 1000000) (hg : goodShape s0 s1 s2 s3 = true) (hm1 : 1 ≤ m) (hm : m ≤ 16) :
  Calls Try.prog 46 #[.slice A0 l0.length c0, .agg #[.int .i64 s0, .int .i64 s1, .int .i64 s2, .int .i64 s3], .int .i64 (m : Int)] w fun e w' => ∃ v0_ : Value, e = .returned (.tuple #[v0_, .int .i64 (placeB l0 s0 s1 s2 s3 (m : Int)).2]) ∧ Kd.R k52 52 w' w.heap.size (fun _ => True) v0_ (placeB l0 s0 s1 s2 s3 (m : Int)).1 ∧ Below w.heap.size w w' := by
 have hu27 := Try.underlying27
 have hu22 := Try.underlying22
 have hu51 := Try.underlying51
 have hu39 := Try.underlying39
 have hu52 := Try.underlying52
 have HCHK := Aside0.mk (show shape_Check.f s0 s1 s2 s3 = some 0 from by unfold shape_Check.f; rw [if_pos hg])
 have HGD := Aside0.mk hg
 have HR0 := Aside0.mk hr0
 have HC0 := Aside0.mk hc0
 have HF := Aside0.mk hf
 obtain ⟨L, hL⟩ : ∃ L, L = isort (fkey s0 s1 s2 s3) l0 := ⟨_, rfl⟩
 have hLl : L.length = l0.length := by rw [hL]; exact (isort_perm _ _).length_eq
 have HLF := Aside0.mk (show ∀ f ∈ L, freeOk f = true from fun f h => hf f (by rw [hL] at h; exact (isort_perm (fkey s0 s1 s2 s3) l0).mem_iff.1 h))
 have hpB : placeB l0 s0 s1 s2 s3 (m : Int) = if (placeL s0 s1 s2 s3 m L).length < m then ([], 7) else (placeL s0 s1 s2 s3 m L, 0) := by
  unfold placeB
  rw [if_pos ⟨hg, by omega, by omega⟩, Int.toNat_natCast, hL]
 have HL := Aside0.mk hL
 generalize placeB l0 s0 s1 s2 s3 (m : Int) = pB at *
 have HPB := Aside0.mk hpB
 have q1 : ¬ (m : Int) < 1 := by omega
 have q2 : ¬ (16 : Int) < (m : Int) := by omega
 have hgd : goodShape s0 s1 s2 s3 = true := hg
 clear hr0 hc0 hf hg hL hpB
 go_enter Try.func46, Try.ntmps46
 go_wp2_with (first | ((with_reducible refine gate_dst (N := 4) rfl ?_); refine bx 4 #[.int .i64 s0, .int .i64 s1, .int .i64 s2, .int .i64 s3] 27 ?_; intro gs hggs w1 hxgs hbgs; have HGS := Aside0.mk hxgs; have HB := Aside0.mk hbgs; clear hggs hxgs hbgs; obtain ⟨e0, e1, e2, e3⟩ := k4c HGS) | (go_at_call 83; refine (shape_Check.calls s0 s1 s2 s3 0 _ HCHK.out).mono ?_; rintro e w2 ⟨rfl, hb⟩; replace HGS := Aside0.mk (blk_below HGS.out hb); replace HB := Aside0.mk (below_step HB.out hb); clear hb; obtain ⟨e0, e1, e2, e3⟩ := k4c HGS) | (go_at_call 84; refine (clone84_any A0 c0 l0 _ (Kd.C_below HR0.out HB.out) HC0.out (by omega)).mono ?_; rintro e w5 ⟨v5, rfl, hr5, hb5⟩; obtain ⟨A5, c5, rfl⟩ := Kd.R_slice hr5; have hbs := below_size HB.out; replace HGS := Aside0.mk (blk_below HGS.out hb5); replace HB := Aside0.mk (below_step HB.out hb5); have HR5 := Aside0.mk (Kd.R_lower hr5 hbs); clear hb5 hr5 hbs) | (go_at_call 85; have hb6 := below_alloc (Below.refl w5.heap.size w5) (.cells #[.slice A5 l0.length c5] 22); have hr6 := Kd.R_below HR5.out hb6; have hs6 := blk_below HGS.out hb6; have hl6 := blk_new w5 (.cells #[.slice A5 l0.length c5] 22); refine (sortAny _ _ _ gs w5.heap.size s0 s1 s2 s3 l0 _ hs6 hl6 hr6 hl HF.out).mono ?_; rintro e w7 ⟨rfl, hr7, hg7⟩; have HRW := Aside0.mk hr7; have hgs7 := blk_grown hs6 hg7 (Kd.R_ne hr6 hs6 (by decide)); have hgl7 := blk_grown hl6 hg7 (Kd.R_ne hr6 hl6 (by decide)); replace HB := Aside0.mk (pw_below_grown (below_step HB.out hb6) _ (below_size (below_step HB.out hb6)) hg7 (Kd.R_base hr6)); replace HGS := Aside0.mk hgs7; have HGL := Aside0.mk hgl7; clear hb6 hr6 hs6 hl6 hr7 hg7 hgs7 hgl7; have hz0 : w7.cell? ⟨w5.heap.size, 0, none⟩ = some (.slice A5 l0.length c5) := (blk_cell HGL.out 0).trans rfl))
 rw [← HL.out] at HRW
 go_loopw [9, 34] (fun v9 v34 wr => ∃ (i : Nat) (vo : Value), i ≤ l0.length ∧ v34 = .int .i64 (i : Int) ∧ v9 = vo ∧ Aside0 (Kd.R k52 52 wr w.heap.size (fun _ => True) vo (placeL s0 s1 s2 s3 m (L.take i))) ∧ Aside0 (Kd.R k51 51 wr w.heap.size (fun _ => True) (.slice A5 l0.length c5) L) ∧ Aside0 (wr.heap[gs]? = some (.cells #[.int .i64 s0, .int .i64 s1, .int .i64 s2, .int .i64 s3] 27 (0, 0))) ∧ Aside0 (Below w.heap.size w wr)) (fun _ v34 _ => l0.length - (intOf v34).toNat)
 case atStart => exact ⟨0, _, Nat.zero_le _, rfl, rfl, ⟨Kd.R_nil _ _ _ _ _⟩, HRW, HGS, HB⟩
 case round =>
  clear HRW HGS HB HGL hz0 HR5
  obtain ⟨i, vo, hi, rfl, rfl, HO, HRW, HGS, HB⟩ := hrel
  by_cases hlt : i < l0.length
  ·have hlt' : (i : Int) < l0.length := by omega
   have hiL : i < L.length := by omega
   obtain ⟨x, hx⟩ : ∃ x, L[i]? = some x := ⟨_, List.getElem?_eq_getElem hiL⟩
   have HST := Aside0.mk (show placeL s0 s1 s2 s3 m (L.take (i + 1)) = cutL s0 s1 s2 s3 m 17 x (placeL s0 s1 s2 s3 m (L.take i)) from by
    rw [placeL_take _ _ _ _ _ _ _ hiL]; congr 1; rw [List.getElem?_eq_getElem hiL] at hx; injection hx)
   have HXO := Aside0.mk (HLF.out x (List.mem_of_getElem? hx))
   have hlen := placeL_le s0 s1 s2 s3 m (L.take i)
   obtain ⟨g5, c5', cur5, hv5, _, _, hh5⟩ := own51 HRW.out (by omega)
   injection hv5 with ha5 hn5 hc5
   subst ha5
   clear hn5 hc5
   obtain ⟨x0, x1, x2, x3⟩ := row51 (n := l0.length) HRW.out hx
   clear hh5 hx hiL
   generalize placeL s0 s1 s2 s3 m (L.take i) = out0 at *
   obtain ⟨goal, hgoal⟩ : ∃ g, g = placeL s0 s1 s2 s3 m (L.take (i + 1)) := ⟨_, rfl⟩
   have HGO := Aside0.mk hgoal
   replace HST := HST.out
   rw [← hgoal] at HST
   replace HST := Aside0.mk HST
   clear hgoal
   have HLL := Aside0.mk hLl
   have HGDD := Aside0.mk hgd
   clear hLl hgd
   go_wp2_with (first | ((with_reducible refine gate_dst (N := 11) rfl ?_); refine bx 11 #[.int .i64 0, .int .i64 0, .int .u64 0, .int .i64 0] 51 ?_; intro gf hggf wf hxgf hbgf; have N5 := Aside0.mk (show gf ≠ g5 from by have := Kd.R_lt HRW.out g5 rfl; omega); have hb0 := HB.out; have HXF := Aside0.mk (put4 (a' := .int .i64 x.f0.f0) (b' := .int .i64 x.f0.f1) (c' := .int .u64 x.f1) (d' := .int .i64 x.f2) hxgf); have hb4 := below4 (a' := .int .i64 x.f0.f0) (b' := .int .i64 x.f0.f1) (c' := .int .u64 x.f1) (d' := .int .i64 x.f2) hbgf (Nat.le_of_eq hggf.symm); replace HO := Aside0.mk (Kd.R_below HO.out hb4); replace HRW := Aside0.mk (Kd.R_below HRW.out hb4); replace HGS := Aside0.mk (blk_below HGS.out hb4); replace HB := Aside0.mk (below_step HB.out hb4); have hgfw : w.heap.size ≤ gf := Nat.le_trans (below_size hb0) (Nat.le_of_eq hggf.symm); obtain ⟨c0_, c1_, c2_, c3_⟩ := k4c ⟨hxgf⟩; have z0_ := blk_frozen hxgf 0; have z1_ := blk_frozen hxgf 1; have z2_ := blk_frozen hxgf 2; have z3_ := blk_frozen hxgf 3; clear hb4 hbgf hb0 hggf hxgf))
   have hLl := HLL.out
   have hgd := HGDD.out
   clear x0 x1 x2 x3 c0_ c1_ c2_ c3_ z0_ z1_ z2_ z3_
   go_loopg [9] 17 (fun kq v9 w2 => ∃ (vo : Value) (f : S51) (out : List S52), v9 = vo ∧ m ≤ out.length + kq ∧ out.length ≤ m ∧ Aside0 (freeOk f = true) ∧ Aside0 (cutL s0 s1 s2 s3 m kq f out = goal) ∧ Aside0 (Kd.R k52 52 w2 w.heap.size (fun _ => True) vo out) ∧ Aside0 (w2.heap[gf]? = some (.cells #[.int .i64 f.f0.f0, .int .i64 f.f0.f1, .int .u64 f.f1, .int .i64 f.f2] 51 (0, 0))) ∧ Aside0 (Kd.R k51 51 w2 w.heap.size (fun _ => True) (.slice (some ⟨g5, 0, none⟩) l0.length c5) L) ∧ Aside0 (w2.heap[gs]? = some (.cells #[.int .i64 s0, .int .i64 s1, .int .i64 s2, .int .i64 s3] 27 (0, 0))) ∧ Aside0 (Below w.heap.size w w2))
   case atStart => exact ⟨_, x, out0, rfl, by omega, hlen, HXO, ⟨HST.out.symm⟩, HO, HXF, HRW, HGS, HB⟩
   case round =>
    clear HXO HST HO HXF HRW HGS HB hlen
    obtain ⟨vo, f, out, rfl, hfu, hlen, HFO, HCU, HO, HXF, HRW, HGS, HB⟩ := hrel
    obtain ⟨Ao, co, rfl⟩ := Kd.R_slice HO.out
    have HGF := Aside0.mk (show w.heap.size ≤ gf from hgfw)
    by_cases hlm : out.length < m
    ·have hlm' : (out.length : Int) < (m : Int) := by omega
     obtain ⟨k', hk'⟩ : ∃ k', gk = k' + 1 := ⟨gk - 1, by omega⟩
     rw [hk'] at HCU hfu
     have HKK := Aside0.mk hk'
     clear hk'
     obtain ⟨e0, e1, e2, e3⟩ := k4c HGS
     obtain ⟨f0, f1, f2, f3⟩ := k4c HXF
     by_cases hfit : fitV s0 s1 s2 s3 f.f1 f.f2 = 0
     ·have HPC := Aside0.mk (piece_no f hgd HFO.out hfit)
      have HEQ := Aside0.mk (show out = goal from by rw [← HCU.out, cutL, if_neg (fun h => h.2 hfit)])
      clear hfit hLl hgd
      go_wp2_with (first | (go_at_call 88; refine (shape_Piece.calls s0 s1 s2 s3 f.f0.f0 f.f0.f1 f.f1 f.f2 0 0 0 0 0 0 0 0 7 _ HPC.out).mono ?_; rintro e wp ⟨rfl, hb⟩; replace HXF := Aside0.mk (blk_below HXF.out hb); replace HGS := Aside0.mk (blk_below HGS.out hb); replace HRW := Aside0.mk (Kd.R_below HRW.out hb); replace HO := Aside0.mk (Kd.R_below HO.out hb); replace HB := Aside0.mk (below_step HB.out hb); clear hb) | ((with_reducible refine gate_dst (N := 12) rfl ?_); refine bx 12 #[.int .i64 0, .int .i64 0, .int .u64 0, .int .i64 0] 52 ?_; intro g12 hgg12 wa hxg12 hbg12; have HX12 := Aside0.mk hxg12; have HP := Aside0.mk hbg12; have hg12w : wp.heap.size ≤ g12 := Nat.le_of_eq hgg12.symm; have N12 := Aside0.mk (show some g12 ≠ (.slice Ao out.length co : Value).ownBlock from fun h => by have := Kd.R_lt HO.out g12 h.symm; omega); clear hgg12 hxg12 hbg12) | ((with_reducible refine gate_dst (N := 13) rfl ?_); refine bx 13 #[.int .i64 0, .int .i64 0, .int .u64 0, .int .i64 0] 51 ?_; intro g13 hgg13 wb hxg13 hbg13; have HX13 := Aside0.mk hxg13; have N1213 := Aside0.mk (show g12 ≠ g13 from by have := blk_lt HX12.out; omega); replace HX12 := Aside0.mk (blk_below HX12.out hbg13); have hg13w : wp.heap.size ≤ g13 := (by have := below_size HP.out; omega); replace HP := Aside0.mk (below_step HP.out hbg13); clear hgg13 hxg13 hbg13; obtain ⟨c0_, c1_, c2_, c3_⟩ := k4c HX12; have z0_ := blk_frozen HX12.out 0; have z1_ := blk_frozen HX12.out 1; have z2_ := blk_frozen HX12.out 2; have z3_ := blk_frozen HX12.out 3; obtain ⟨d0_, d1_, d2_, d3_⟩ := k4c HX13; have y0_ := blk_frozen HX13.out 0; have y1_ := blk_frozen HX13.out 1; have y2_ := blk_frozen HX13.out 2; have y3_ := blk_frozen HX13.out 3; have n1_ := N1213.out; have n2_ := N1213.out.symm))
      go_roundw
      case rel => exact ⟨i + 1, _, by omega, by go_num, rfl, ⟨by rw [← HGO.out, ← HEQ.out]; exact Kd.R_below HO.out (below4 (below4 HP.out hg12w) hg13w)⟩, ⟨Kd.R_below HRW.out (below4 (below4 HP.out hg12w) hg13w)⟩, ⟨blk_below HGS.out (below4 (below4 HP.out hg12w) hg13w)⟩, ⟨below_step HB.out (below4 (below4 HP.out hg12w) hg13w)⟩⟩
      case measure => simp [intOf]; omega
     ·have HPC := Aside0.mk (piece_yes f hgd HFO.out hfit)
      have HEQ := Aside0.mk (show cutL s0 s1 s2 s3 m k' (leftF s0 s1 f) (out ++ [pieceL s0 s1 f]) = goal from by rw [← HCU.out, cutL, if_pos ⟨hlm, hfit⟩])
      have HFL := Aside0.mk (leftF_ok s0 s1 HFO.out)
      clear hfit hLl hgd
      go_wp2_with (first | (go_at_call 88; refine (shape_Piece.calls s0 s1 s2 s3 f.f0.f0 f.f0.f1 f.f1 f.f2 f.f0.f0 f.f0.f1 (lowI f.f1 s0) s1 f.f0.f0 f.f0.f1 (Go.bits .andNot .u64 f.f1 (lowI f.f1 s0)) (wrap64 (f.f2 - s1)) 0 _ HPC.out).mono ?_; rintro e wp ⟨rfl, hb⟩; replace HXF := Aside0.mk (blk_below HXF.out hb); replace HGS := Aside0.mk (blk_below HGS.out hb); replace HRW := Aside0.mk (Kd.R_below HRW.out hb); replace HO := Aside0.mk (Kd.R_below HO.out hb); replace HB := Aside0.mk (below_step HB.out hb); clear hb) | ((with_reducible refine gate_dst (N := 12) rfl ?_); refine bx 12 #[.int .i64 0, .int .i64 0, .int .u64 0, .int .i64 0] 52 ?_; intro g12 hgg12 wa hxg12 hbg12; have HX12 := Aside0.mk hxg12; have HP := Aside0.mk hbg12; have hg12w : wp.heap.size ≤ g12 := Nat.le_of_eq hgg12.symm; have N12 := Aside0.mk (show some g12 ≠ (.slice Ao out.length co : Value).ownBlock from fun h => by have := Kd.R_lt HO.out g12 h.symm; omega); clear hgg12 hxg12 hbg12) | ((with_reducible refine gate_dst (N := 13) rfl ?_); refine bx 13 #[.int .i64 0, .int .i64 0, .int .u64 0, .int .i64 0] 51 ?_; intro g13 hgg13 wb hxg13 hbg13; have HX13 := Aside0.mk hxg13; have N1213 := Aside0.mk (show g12 ≠ g13 from by have := blk_lt HX12.out; omega); replace HX12 := Aside0.mk (blk_below HX12.out hbg13); have hg13w : wp.heap.size ≤ g13 := (by have := below_size HP.out; omega); replace HP := Aside0.mk (below_step HP.out hbg13); clear hgg13 hxg13 hbg13; obtain ⟨c0_, c1_, c2_, c3_⟩ := k4c HX12; have z0_ := blk_frozen HX12.out 0; have z1_ := blk_frozen HX12.out 1; have z2_ := blk_frozen HX12.out 2; have z3_ := blk_frozen HX12.out 3; obtain ⟨d0_, d1_, d2_, d3_⟩ := k4c HX13; have y0_ := blk_frozen HX13.out 0; have y1_ := blk_frozen HX13.out 1; have y2_ := blk_frozen HX13.out 2; have y3_ := blk_frozen HX13.out 3; have n1_ := N1213.out; have n2_ := N1213.out.symm))
      have hP8 := below_drew1 (below4 (a' := .int .i64 (f.f0.f0)) (b' := .int .i64 (f.f0.f1)) (c' := .int .u64 (Go.bits .andNot .u64 f.f1 (lowI f.f1 s0))) (d' := .int .i64 (wrap64 (f.f2 - s1))) (below4 (a' := .int .i64 (f.f0.f0)) (b' := .int .i64 (f.f0.f1)) (c' := .int .u64 (lowI f.f1 s0)) (d' := .int .i64 (s1)) HP.out hg12w) hg13w)
      have hx12 := blk_drew (far4 (a' := .int .i64 (f.f0.f0)) (b' := .int .i64 (f.f0.f1)) (c' := .int .u64 (Go.bits .andNot .u64 f.f1 (lowI f.f1 s0))) (d' := .int .i64 (wrap64 (f.f2 - s1))) (put4 (a' := .int .i64 (f.f0.f0)) (b' := .int .i64 (f.f0.f1)) (c' := .int .u64 (lowI f.f1 s0)) (d' := .int .i64 (s1)) HX12.out) N1213.out)
      have hx13 := blk_drew (put4 (a' := .int .i64 (f.f0.f0)) (b' := .int .i64 (f.f0.f1)) (c' := .int .u64 (Go.bits .andNot .u64 f.f1 (lowI f.f1 s0))) (d' := .int .i64 (wrap64 (f.f2 - s1))) (far4 (a' := .int .i64 (f.f0.f0)) (b' := .int .i64 (f.f0.f1)) (c' := .int .u64 (lowI f.f1 s0)) (d' := .int .i64 (s1)) HX13.out N1213.out.symm))
      replace HXF := Aside0.mk (blk_below HXF.out hP8)
      replace HGS := Aside0.mk (blk_below HGS.out hP8)
      replace HRW := Aside0.mk (Kd.R_below HRW.out hP8)
      replace HO := Aside0.mk (Kd.R_below HO.out hP8)
      replace HB := Aside0.mk (below_step HB.out hP8)
      replace HX12 := Aside0.mk hx12
      replace HX13 := Aside0.mk hx13
      have HT_ := Aside0.mk tab46
      have HW_ := Aside0.mk bits46
      clear hP8 hx12 hx13 HP c0_ c1_ c2_ c3_ z0_ z1_ z2_ z3_ d0_ d1_ d2_ d3_ y0_ y1_ y2_ y3_ n1_ n2_
      refine start_ (n := 7) (S := fun w' => w'.cell? ⟨g12, 0, none⟩ = some (.int .i64 (f.f0.f0)) ∧ w'.cell? ⟨g12, 1, none⟩ = some (.int .i64 (f.f0.f1)) ∧ w'.cell? ⟨g12, 2, none⟩ = some (.int .u64 (lowI f.f1 s0)) ∧ w'.cell? ⟨g12, 3, none⟩ = some (.int .i64 (s1)) ∧ w'.cell? ⟨g13, 0, none⟩ = some (.int .i64 (f.f0.f0)) ∧ w'.cell? ⟨g13, 1, none⟩ = some (.int .i64 (f.f0.f1)) ∧ w'.cell? ⟨g13, 2, none⟩ = some (.int .u64 (Go.bits .andNot .u64 f.f1 (lowI f.f1 s0))) ∧ w'.cell? ⟨g13, 3, none⟩ = some (.int .i64 (wrap64 (f.f2 - s1)))) (ds := [6]) (bm 7 0) (by kernel_rfl) rfl rfl ⟨(blk_cell HX12.out 0).trans rfl, (blk_cell HX12.out 1).trans rfl, (blk_cell HX12.out 2).trans rfl, (blk_cell HX12.out 3).trans rfl, (blk_cell HX13.out 0).trans rfl, (blk_cell HX13.out 1).trans rfl, (blk_cell HX13.out 2).trans rfl, (blk_cell HX13.out 3).trans rfl⟩ (fun hHeld => ?_)
      generalize World.drew _ = wq0 at HX12 HX13 HXF HGS HRW HB HO hHeld ⊢
      refine pu 0 (some 51) (bm 7 1) ?_
      refine tk8 1 (some 52) (bm 7 3) ?_
      refine tk8 4 (some 55) (bm 7 19) ?_
      refine one_ (i := 2) (N := some 53) (bm 7 23) rfl rfl (one_of HT_.out (by kernel_rfl)) (by decide) (fun K hK => ?_)
      refine value_ (w1 := ?_) (v := ?_) (by rfl) rfl ?_ ?_
      rotate_left 2
      ·go_simp
       constructor
       ·rfl
       ·rfl
      refine hK.out _ _ ⟨(blk_cell (blk_alloc HX12.out _) 0).trans rfl, (blk_cell (blk_alloc HX12.out _) 1).trans rfl, (blk_cell (blk_alloc HX12.out _) 2).trans rfl, (blk_cell (blk_alloc HX12.out _) 3).trans rfl, (blk_cell (blk_alloc HX13.out _) 0).trans rfl, (blk_cell (blk_alloc HX13.out _) 1).trans rfl, (blk_cell (blk_alloc HX13.out _) 2).trans rfl, (blk_cell (blk_alloc HX13.out _) 3).trans rfl⟩ (fun hHeld => ?_)
      clear hK K
      refine norm_ (a' := ?_) ?_ ?_
      rotate_left
      ·show Act.put _ (some 53) _ = _
       simp only [Act.put, List.setIfInBounds_toArray, List.set_cons_zero, List.set_cons_succ, i64_w, i32_w]
       rfl
      refine one_ (i := 3) (N := some 54) (bm 7 31) rfl rfl (one_of HT_.out (by kernel_rfl)) (by decide) (fun K hK => ?_)
      refine Kd.R_append_step k52 (w0 := w) w.heap.size (by rfl) (.tmp 51) (.tmp 53) 39 52 (.agg #[(.int .i64 0), (.int .i64 0), (.int .u64 0), (.int .i64 0)]) 32 rfl Try.underlying39 info52 rfl (by decide) (by omega) (.slice Ao out.length co) out (pieceL s0 s1 f) [.int .i64 (f.f0.f0), .int .i64 (f.f0.f1), .int .u64 (lowI f.f1 s0), .int .i64 (s1)] (fun _ => True) (fun _ => False) rfl rfl (k52_mkM _ _ _ (pieceL s0 s1 f)) (fun _ hk => hk.elim) (fun _ _ => trivial) HO.out HB.out (below_size HB.out) (by omega) ?_
      intro v54 wn ho hb hg hat
      have hx12 := blk_grown HX12.out hg (N12.out)
      have hx13 := blk_grown HX13.out hg (Kd.R_ne HO.out HX13.out (by decide))
      replace HXF := Aside0.mk (blk_grown HXF.out hg (Kd.R_ne HO.out HXF.out (by decide)))
      replace HGS := Aside0.mk (blk_grown HGS.out hg (Kd.R_ne HO.out HGS.out (by decide)))
      replace HRW := Aside0.mk (Kd.R_over' HRW.out (Kd.R_typed HO.out) (by decide) hg)
      replace HX12 := Aside0.mk hx12
      replace HX13 := Aside0.mk hx13
      replace HB := Aside0.mk hb
      replace HO := Aside0.mk ho
      clear ho hb hg hat hx12 hx13 N12
      refine hK.out _ _ ⟨(blk_cell HX12.out 0).trans rfl, (blk_cell HX12.out 1).trans rfl, (blk_cell HX12.out 2).trans rfl, (blk_cell HX12.out 3).trans rfl, (blk_cell HX13.out 0).trans rfl, (blk_cell HX13.out 1).trans rfl, (blk_cell HX13.out 2).trans rfl, (blk_cell HX13.out 3).trans rfl⟩ (fun hHeld => ?_)
      clear hK K
      refine norm_ (a' := ?_) ?_ ?_
      rotate_left
      ·show Act.put _ (some 54) _ = _
       simp only [Act.put, List.setIfInBounds_toArray, List.set_cons_zero, List.set_cons_succ, i64_w, i32_w]
       rfl
      refine pu 5 (some 9) (bm 7 63) ?_
      refine last_ (i := 6) (N := none) (bm 7 127) rfl rfl (one_of HT_.out (by kernel_rfl)) (by decide) (fun K hK => ?_)
      have hz0 := blk_frozen HXF.out 0
      have hz1 := blk_frozen HXF.out 1
      have hz2 := blk_frozen HXF.out 2
      have hz3 := blk_frozen HXF.out 3
      have hc0 := blk_cell HXF.out 0
      have hc1 := blk_cell HXF.out 1
      have hc2 := blk_cell HXF.out 2
      have hc3 := blk_cell HXF.out 3
      refine skip_ (w1 := ?_) (by rfl) rfl ?_ ?_
      rotate_left
      ·go_simp
       rfl
      refine hK.out _ _ ?_
      clear hK K hz0 hz1 hz2 hz3 hc0 hc1 hc2 hc3
      refine done_ (done_of HT_.out (by kernel_rfl)) ?_
      go_wp2
      go_roundg k'
      case rel => exact ⟨_, leftF s0 s1 f, out ++ [pieceL s0 s1 f], rfl, by simp; omega, by simp; omega, HFL, HEQ, ⟨Kd.R_grown2 HO.out rfl (grown4 wn gf) (fun k hk => by injection hk with hk; subst hk; exact Kd.R_ne HO.out HXF.out (by decide))⟩, ⟨put4 HXF.out⟩, ⟨Kd.R_grown2 HRW.out rfl (grown4 wn gf) (fun k hk => by injection hk with hk; subst hk; exact fun e => N5.out (by simpa [Value.ownBlock] using e))⟩, ⟨far4 HGS.out (blk_ne HGS.out HXF.out (by decide))⟩, ⟨below4 HB.out HGF.out⟩⟩
      case measure => have := HKK.out; omega
    ·have hlm' : ¬ (out.length : Int) < (m : Int) := by omega
     have HEQ := Aside0.mk (show out = goal from by
      rw [← HCU.out]
      cases gk with
      | zero => rfl
      | succ k => rw [cutL, if_neg (fun h => hlm h.1)])
     clear hLl hgd
     go_wp2
     go_roundw
     case rel => exact ⟨i + 1, _, by omega, by go_num, rfl, ⟨by rw [← HGO.out, ← HEQ.out]; exact HO.out⟩, HRW, HGS, HB⟩
     case measure => simp [intOf]; omega
  ·obtain rfl : i = l0.length := by omega
   have htk : L.take l0.length = L := List.take_of_length_le (by omega)
   rw [htk] at HO
   have hpb0 := HPB.out
   clear HPB
   generalize placeL s0 s1 s2 s3 m L = out at *
   have HPB := Aside0.mk hpb0
   clear hpb0 htk
   obtain ⟨Ao, co, rfl⟩ := Kd.R_slice HO.out
   by_cases hlm : out.length < m
   ·have hlm' : (out.length : Int) < (m : Int) := by omega
    have hpb := HPB.out
    rw [if_pos hlm] at hpb
    subst hpb
    go_wp2
    go_ret2
    exact ⟨_, rfl, Kd.R_nil _ _ _ _ _, HB.out⟩
   ·have hlm' : ¬ (out.length : Int) < (m : Int) := by omega
    have hpb := HPB.out
    rw [if_neg hlm] at hpb
    subst hpb
    go_wp2
    go_ret2
    exact ⟨_, rfl, HO.out, HB.out⟩
set_option maxHeartbeats 8000000 in
set_option maxRecDepth 100000 in
theorem place_bad (A0 : Option Addr) (c0 n0 : Nat) (s0 s1 s2 s3 m : Int) (w : World) (hb : ¬ (goodShape s0 s1 s2 s3 = true ∧ 1 ≤ m ∧ m ≤ 16)) :
  Calls Try.prog 46 #[.slice A0 n0 c0, .agg #[.int .i64 s0, .int .i64 s1, .int .i64 s2, .int .i64 s3], .int .i64 m] w fun e w' => ∃ v0_ : Value, e = .returned (.tuple #[v0_, .int .i64 1]) ∧ Kd.R k52 52 w' w.heap.size (fun _ => True) v0_ [] ∧ Below w.heap.size w w' := by
 have hu27 := Try.underlying27
 by_cases hg : goodShape s0 s1 s2 s3 = true
 ·have HCHK := Aside0.mk (show shape_Check.f s0 s1 s2 s3 = some 0 from by unfold shape_Check.f; rw [if_pos hg])
  have hm : ¬ (1 ≤ m ∧ m ≤ 16) := fun h => hb ⟨hg, h⟩
  clear hb hg
  by_cases h1 : m < 1
  ·have q1 : decide (m < 1) = true := by simp; omega
   clear hm
   go_enter Try.func46, Try.ntmps46
   go_wp2_with (first | ((with_reducible refine gate_dst (N := 4) rfl ?_); refine bx 4 #[.int .i64 s0, .int .i64 s1, .int .i64 s2, .int .i64 s3] 27 ?_; intro gs hggs w1 hxgs hbgs; have HGS := Aside0.mk hxgs; have HB := Aside0.mk hbgs; clear hggs hxgs hbgs; obtain ⟨e0, e1, e2, e3⟩ := k4c HGS) | (go_at_call 83; refine (shape_Check.calls s0 s1 s2 s3 0 _ HCHK.out).mono ?_; rintro e w2 ⟨rfl, hb⟩; replace HB := Aside0.mk (below_step HB.out hb); clear hb))
   go_ret2
   exact ⟨_, rfl, Kd.R_nil _ _ _ _ _, HB.out⟩
  ·have q1 : decide (m < 1) = false := by simp; omega
   have q2 : decide (16 < m) = true := by simp; omega
   clear hm
   go_enter Try.func46, Try.ntmps46
   go_wp2_with (first | ((with_reducible refine gate_dst (N := 4) rfl ?_); refine bx 4 #[.int .i64 s0, .int .i64 s1, .int .i64 s2, .int .i64 s3] 27 ?_; intro gs hggs w1 hxgs hbgs; have HGS := Aside0.mk hxgs; have HB := Aside0.mk hbgs; clear hggs hxgs hbgs; obtain ⟨e0, e1, e2, e3⟩ := k4c HGS) | (go_at_call 83; refine (shape_Check.calls s0 s1 s2 s3 0 _ HCHK.out).mono ?_; rintro e w2 ⟨rfl, hb⟩; replace HB := Aside0.mk (below_step HB.out hb); clear hb))
   go_ret2
   exact ⟨_, rfl, Kd.R_nil _ _ _ _ _, HB.out⟩
 ·have HCHK := Aside0.mk (show shape_Check.f s0 s1 s2 s3 = some 1 from by unfold shape_Check.f; rw [if_neg hg])
  clear hb hg
  go_enter Try.func46, Try.ntmps46
  go_wp2_with (first | ((with_reducible refine gate_dst (N := 4) rfl ?_); refine bx 4 #[.int .i64 s0, .int .i64 s1, .int .i64 s2, .int .i64 s3] 27 ?_; intro gs hggs w1 hxgs hbgs; have HGS := Aside0.mk hxgs; have HB := Aside0.mk hbgs; clear hggs hxgs hbgs; obtain ⟨e0, e1, e2, e3⟩ := k4c HGS) | (go_at_call 83; refine (shape_Check.calls s0 s1 s2 s3 1 _ HCHK.out).mono ?_; rintro e w2 ⟨rfl, hb⟩; replace HB := Aside0.mk (below_step HB.out hb); clear hb))
  go_ret2
  exact ⟨_, rfl, Kd.R_nil _ _ _ _ _, HB.out⟩
theorem pack_Place.calls (A0 : Option Addr) (c0 : Nat) (l0 : List (S51)) (a1_0 : Int) (a1_1 : Int) (a1_2 : Int) (a1_3 : Int) (a2 : Int) (r1 : List (S52)) (r2 : Int) (w : World) (hr0 : Kd.C k51 w A0 l0.length l0) (hc0 : l0.length ≤ c0) (h : pack_Place.f l0 a1_0 a1_1 a1_2 a1_3 a2 = some (r1, r2)) :
  Calls Try.prog 46 #[.slice A0 l0.length c0, .agg #[.int .i64 a1_0, .int .i64 a1_1, .int .i64 a1_2, .int .i64 a1_3], .int .i64 a2] w fun e w' => ∃ v0_ : Value, e = .returned (.tuple #[v0_, .int .i64 r2]) ∧ Kd.R k52 52 w' w.heap.size (fun _ => True) v0_ r1 ∧ Below w.heap.size w w' := by
 unfold pack_Place.f at h
 by_cases hok : placeOk l0 = true
 case neg => rw [if_neg hok] at h; cases h
 rw [if_pos hok] at h
 injection h with h
 unfold placeOk at hok
 simp only [Bool.and_eq_true, List.all_eq_true, decide_eq_true_eq] at hok
 by_cases hb : goodShape a1_0 a1_1 a1_2 a1_3 = true ∧ 1 ≤ a2 ∧ a2 ≤ 16
 ·obtain ⟨m, rfl⟩ := Int.eq_ofNat_of_zero_le (show 0 ≤ a2 by omega)
  have := place_any A0 c0 l0 a1_0 a1_1 a1_2 a1_3 m w hr0 hc0 hok.1 hok.2 hb.1 (by omega) (by omega)
  rw [h] at this
  exact this
 ·unfold placeB at h
  rw [if_neg hb] at h
  injection h with h1 h2
  subst h1 h2
  exact place_bad A0 c0 l0.length a1_0 a1_1 a1_2 a1_3 a2 w hb
end Go.Proofs.Ytckhjehibjdjdaa.P
namespace Go.Proofs.Ytckhjehibjdjdaa.P
open Go.RowKit Go.Proofs.YtckhjehibjdjdaaW.PrintWords Go.Proofs.YtckhjehibjdjdaaW.PrintLast Go.Proofs.YtckhjehibjdjdaaW.PrintMore
open Go.Proofs.Ytckhjehibjdjdaa.Bits Go.Proofs.Ytckhjehibjdjdaa.Mp
set_option linter.unusedVariables false
set_option linter.unusedSimpArgs false
theorem u64_id {x : Int} (h0 : 0 ≤ x) (h1 : x < 18446744073709551616) : IntKind.u64.wrap x = x := by
 obtain ⟨n, rfl⟩ := Int.eq_ofNat_of_zero_le h0
 rw [wrapN, Nat.mod_eq_of_lt (by omega)]
theorem half_nat (M j : Nat) (hM : M < 18446744073709551616) : IntKind.u64.wrap (Int.tdiv ((M / 2 ^ j : Nat) : Int) 2) = ((M / 2 ^ (j + 1) : Nat) : Int) := by
 have h1 : M / 2 ^ (j + 1) = M / 2 ^ j / 2 := by rw [Nat.pow_succ, Nat.div_div_eq_div_mul]
 have h2 : M / 2 ^ j ≤ M := Nat.div_le_self _ _
 generalize M / 2 ^ j = a at *
 rw [h1, Int.tdiv_eq_ediv_of_nonneg (by omega), u64_id (by omega) (by omega)]
 omega
theorem has_l (M : Nat) (hM : M < 18446744073709551616) (n : Nat) : ∀ j i : Nat, j ≤ i → i - j = n → i < 64 → Ev (fun k => ensembleref01_Has.l0 k ((M / 2 ^ j : Nat) : Int) (i : Int) (j : Int)) (M.testBit i) := by
 induction n with
 | zero =>
  intro j i hj hn hi
  obtain rfl : j = i := by omega
  refine Ev.step (f := fun _ => some (M.testBit j)) (fun k => ?_) (Ev.now _)
  rw [ensembleref01_Has.l0, if_neg (by omega), if_pos (by omega), if_pos (by omega), Nat.testBit_eq_decide_div_mod_eq]
  generalize M / 2 ^ j = a
  rw [Int.tmod_eq_emod_of_nonneg (by omega)]
  congr 1
  rw [Bool.eq_iff_iff]
  simp
  omega
 | succ n ih =>
  intro j i hj hn hi
  refine Ev.step (f := fun k => ensembleref01_Has.l0 k ((M / 2 ^ (j + 1) : Nat) : Int) (i : Int) ((j + 1 : Nat) : Int)) (fun k => ?_) (ih (j + 1) i (by omega) (by omega) hi)
  rw [ensembleref01_Has.l0, if_pos (by omega), half_nat M j hM, w_id (by omega)]
  congr 1
theorem has_ev (M i : Nat) (hM : M < 18446744073709551616) (hi : i < 64) : Ev (fun k => ensembleref01_Has.f k (M : Int) (i : Int)) (M.testBit i) := by
 have := has_l M hM i 0 i (by omega) (by omega) hi
 rw [Nat.pow_zero, Nat.div_one] at this
 exact this
def posI (M : Nat) : List Int := (pos M).map fun (i : Nat) => (i : Int)
def posTo (M i : Nat) : List Int := ((List.range i).filter fun j => M.testBit j).map fun (i : Nat) => (i : Int)
theorem posTo_len (M i : Nat) : (posTo M i).length ≤ i := by
 unfold posTo; rw [List.length_map]
 exact Nat.le_trans (List.length_filter_le _ _) (by simp)
theorem units_l (M : Nat) (hM : M < 18446744073709551616) (n : Nat) : ∀ i : Nat, i ≤ 64 → 64 - i = n → Ev (fun k => ensembleref01_Units.l0 k (M : Int) (posTo M i) (i : Int)) (posI M) := by
 induction n with
 | zero =>
  intro i hi hn
  obtain rfl : i = 64 := by omega
  refine Ev.step (f := fun _ => some (posI M)) (fun k => ?_) (Ev.now _)
  rw [ensembleref01_Units.l0, if_neg (by omega)]; rfl
 | succ n ih =>
  intro i hi hn
  refine Ev.step (fun k => by rw [ensembleref01_Units.l0, if_pos (by omega)]) (Ev.bind (has_ev M i hM (by omega)) ?_)
  have I := ih (i + 1) (by omega) (by omega)
  have hl := posTo_len M i
  refine Ev.congr (fun k => ?_) I
  have e1 : wrap64 ((i : Int) + 1) = ((i + 1 : Nat) : Int) := by rw [w_id (by omega)]; omega
  have e2 : posTo M (i + 1) = if M.testBit i = true then posTo M i ++ [(i : Int)] else posTo M i := by
   unfold posTo
   rw [List.range_succ, List.filter_append, List.map_append]
   split
   ·rename_i h; simp [h]
   ·rename_i h; simp [h]
  rw [e1, e2]
  split
  ·rw [if_pos (by omega)]
  ·rfl
theorem units_ev (M : Nat) (hM : M < 18446744073709551616) : Ev (fun k => ensembleref01_Units.f k (M : Int)) (posI M) := units_l M hM 64 0 (by omega) (by omega)
theorem posI_len (M : Nat) : ((posI M).length : Int) = popI (M : Int) := by
 unfold posI popI popN; simp
theorem posI_get (M i : Nat) (h : i < (posI M).length) : rd (posI M) (i : Int) = (((pos M)[i]'(by unfold posI at h; simpa using h) : Nat) : Int) := by
 simp [rd, posI, List.getD_eq_getElem?_getD] at h ⊢
 rw [List.getElem?_eq_getElem h]; rfl
theorem bit_l (u : Nat) (hu : u < 64) (n : Nat) : ∀ j : Nat, j ≤ u → u - j = n → Ev (fun k => ensembleref01_bit.l0 k (u : Int) ((2 ^ j : Nat) : Int) (j : Int)) ((2 ^ u : Nat) : Int) := by
 induction n with
 | zero =>
  intro j hj hn
  obtain rfl : j = u := by omega
  refine Ev.step (f := fun _ => some ((2 ^ j : Nat) : Int)) (fun k => ?_) (Ev.now _)
  rw [ensembleref01_bit.l0, if_neg (by omega)]
 | succ n ih =>
  intro j hj hn
  refine Ev.step (f := fun k => ensembleref01_bit.l0 k (u : Int) ((2 ^ (j + 1) : Nat) : Int) ((j + 1 : Nat) : Int)) (fun k => ?_) (ih (j + 1) (by omega) (by omega))
  have h2 : 2 ^ (j + 1) ≤ 2 ^ 63 := Nat.pow_le_pow_right (by omega) (by omega)
  rw [Nat.pow_succ] at h2 ⊢
  rw [ensembleref01_bit.l0, if_pos (by omega), u64_id (by omega) (by omega), w_id (by omega)]
  congr 1
theorem bit_ev (u : Nat) (hu : u < 64) : Ev (fun k => ensembleref01_bit.f k (u : Int)) ((2 ^ u : Nat) : Int) := bit_l u hu u 0 (by omega) (by omega)
def sumP (l : List Nat) : Nat := (l.map fun i => 2 ^ i).sum
theorem sumP_append (a b : List Nat) : sumP (a ++ b) = sumP a + sumP b := by simp [sumP]
theorem orAll_lt_n {l : List Nat} {n : Nat} (h : ∀ i ∈ l, i < n) : orAll l < 2 ^ n := by
 refine Nat.lt_pow_two_of_testBit _ fun j hj => ?_
 rw [testBit_orAll, decide_eq_false]
 intro hm
 have := h j hm
 omega
theorem sumP_orAll (l : List Nat) (hp : l.Pairwise (· < ·)) : ∀ n : Nat, n ≤ l.length → sumP (l.take n) = orAll (l.take n) := by
 intro n
 induction n with
 | zero => intro _; simp [sumP, orAll]
 | succ n ih =>
  intro hn
  have hlt : n < l.length := by omega
  have hb : orAll (l.take n) < 2 ^ l[n] := orAll_lt_n fun i hi => by
   obtain ⟨j, hj, rfl⟩ := List.mem_iff_getElem.1 hi
   rw [List.getElem_take]
   rw [List.length_take] at hj
   exact List.pairwise_iff_getElem.1 hp j n (by omega) hlt (by omega)
  have h1 := Nat.two_pow_add_eq_or_of_lt hb 1
  rw [Nat.mul_one, Nat.or_comm] at h1
  rw [List.take_succ_eq_append_getElem hlt, sumP_append, orAll_snoc, ih (by omega), ← h1]
  simp [sumP]
  omega
theorem sumP_lt (l : List Nat) (hp : l.Pairwise (· < ·)) (h : ∀ i ∈ l, i < 64) (n : Nat) (hn : n ≤ l.length) : sumP (l.take n) < 18446744073709551616 := by
 rw [sumP_orAll l hp n hn]
 exact orAll_lt_n (n := 64) fun i hi => h i (List.mem_of_mem_take hi)
theorem lowest_l (M n : Nat) (hM : M < 18446744073709551616) (hn : n ≤ popN M) (d : Nat) : ∀ j : Nat, j ≤ n → n - j = d → Ev (fun k => ensembleref01_Lowest.l0 k (n : Int) (posI M) ((sumP ((pos M).take j) : Nat) : Int) (j : Int)) ((lowN M n : Nat), 0) := by
 have h64 : popN M ≤ 64 := popN_le M
 have hb64 : ∀ i ∈ pos M, i < 64 := fun i hi => (mem_pos.1 hi).1
 induction d with
 | zero =>
  intro j hj hd
  obtain rfl : j = n := by omega
  refine Ev.step (f := fun _ => some (((lowN M j : Nat) : Int), (0 : Int))) (fun k => ?_) (Ev.now _)
  rw [ensembleref01_Lowest.l0, if_neg (by omega), sumP_orAll (pos M) (pos_sorted M) j (by unfold popN at hn; omega)]; rfl
 | succ d ih =>
  intro j hj hd
  have hjl : j < (pos M).length := by unfold popN at hn; omega
  have hji : j < (posI M).length := by unfold posI; simpa using hjl
  refine Ev.step (fun k => by rw [ensembleref01_Lowest.l0, if_pos (by omega), if_pos (by omega), if_pos (by omega), posI_get M j hji]) (Ev.bind (bit_ev _ (hb64 _ (List.getElem_mem hjl))) ?_)
  refine Ev.congr (fun k => ?_) (ih (j + 1) (by omega) (by omega))
  have hs := sumP_lt (pos M) (pos_sorted M) hb64 (j + 1) (by omega)
  rw [List.take_succ_eq_append_getElem hjl, sumP_append] at hs ⊢
  have e : sumP [(pos M)[j]] = 2 ^ (pos M)[j] := by simp [sumP]
  rw [e] at hs ⊢
  rw [u64_id (by omega) (by omega), w_id (by omega)]
  congr 1
theorem lowest_ev (M : Nat) (n : Int) (hM : M < 18446744073709551616) : Ev (fun k => ensembleref01_Lowest.f k (M : Int) n) (if n < 0 then (0, 1) else if n > popI (M : Int) then (0, 2) else (lowI (M : Int) n, 0)) := by
 by_cases h0 : n < 0
 ·rw [if_pos h0]
  exact Ev.congr (fun k => by rw [ensembleref01_Lowest.f, if_pos h0]) (Ev.now _)
 ·rw [if_neg h0]
  obtain ⟨n, rfl⟩ := Int.eq_ofNat_of_zero_le (show 0 ≤ n by omega)
  refine Ev.congr (fun k => by rw [ensembleref01_Lowest.f, if_neg h0]) (Ev.bind (units_ev M hM) ?_)
  have hl := posI_len M
  by_cases h1 : (n : Int) > popI (M : Int)
  ·rw [if_pos h1]
   exact Ev.congr (fun k => by rw [if_pos (by omega)]) (Ev.now _)
  ·rw [if_neg h1]
   have h2 : n ≤ popN M := by unfold popI at h1; rw [Int.toNat_natCast] at h1; omega
   refine Ev.congr (fun k => by rw [if_neg (by omega)]) ?_
   have := lowest_l M n hM h2 n 0 (by omega) (by omega)
   simp only [List.take_zero] at this
   exact this
theorem and_lt64 {a b : Nat} (ha : a < 18446744073709551616) : a &&& b < 18446744073709551616 := Nat.lt_of_le_of_lt Nat.and_le_left ha
def comm (A B : Nat) (l : List Nat) : Nat := (l.filter fun i => B.testBit i).length
theorem masks_l (A B : Nat) (hA : A < 18446744073709551616) (hB : B < 18446744073709551616) (d : Nat) : ∀ j : Nat, j ≤ (pos A).length → (pos A).length - j = d → Ev (fun k => ensembleref05_masks.l0 k (B : Int) ((comm A B ((pos A).take j) : Nat) : Int) (posI A) (j : Int)) ((comm A B (pos A) : Nat) : Int) := by
 have h64 : popN A ≤ 64 := popN_le A
 have hb64 : ∀ i ∈ pos A, i < 64 := fun i hi => (mem_pos.1 hi).1
 have hlen : (posI A).length = (pos A).length := by unfold posI; simp
 unfold popN at h64
 induction d with
 | zero =>
  intro j hj hd
  obtain rfl : j = (pos A).length := by omega
  refine Ev.step (f := fun _ => some ((comm A B (pos A) : Nat) : Int)) (fun k => ?_) (Ev.now _)
  rw [ensembleref05_masks.l0, if_neg (by omega), List.take_length]
 | succ d ih =>
  intro j hj hd
  have hjl : j < (pos A).length := by omega
  have hji : j < (posI A).length := by omega
  refine Ev.step (fun k => by rw [ensembleref05_masks.l0, if_pos (by omega), if_pos (by omega), posI_get A j hji]) (Ev.bind (has_ev B _ hB (hb64 _ (List.getElem_mem hjl))) ?_)
  refine Ev.congr (fun k => ?_) (ih (j + 1) (by omega) (by omega))
  have hc : comm A B ((pos A).take j) ≤ 64 := by
   unfold comm
   refine Nat.le_trans (List.length_filter_le _ _) ?_
   rw [List.length_take]; omega
  have e2 : comm A B ((pos A).take (j + 1)) = comm A B ((pos A).take j) + if B.testBit (pos A)[j] = true then 1 else 0 := by
   unfold comm
   rw [List.take_succ_eq_append_getElem hjl, List.filter_append, List.length_append]
   split
   ·rename_i h; simp [h]
   ·rename_i h; simp [h]
  rw [e2]
  split
  ·rw [w_id (by omega), w_id (by omega)]; congr 1
  ·rw [w_id (by omega)]; congr 1
theorem comm_pos (A B : Nat) : comm A B (pos A) = popN (A &&& B) := by
 unfold comm popN pos
 rw [List.filter_filter]
 congr 2
 funext i
 rw [Nat.testBit_and, Bool.and_comm]
theorem masks_ev (A B : Nat) (hA : A < 18446744073709551616) (hB : B < 18446744073709551616) : Ev (fun k => ensembleref05_masks.f k (A : Int) (B : Int)) ((popN (A &&& B) : Nat) : Int) := by
 unfold ensembleref05_masks.f
 refine Ev.bind (units_ev A hA) ?_
 have := masks_l A B hA hB (pos A).length 0 (by omega) (by omega)
 rw [comm_pos, List.take_zero] at this
 exact this
theorem popN_zero_iff (A : Nat) (hA : A < 18446744073709551616) : popN A = 0 ↔ A = 0 := by
 unfold popN
 constructor
 ·intro h
  have := orAll_pos (m := A) (by simpa using hA)
  rw [List.eq_nil_of_length_eq_zero h] at this
  rw [← this]; rfl
 ·rintro rfl
  rw [pos_zero]; rfl
end Go.Proofs.Ytckhjehibjdjdaa.P
namespace Go.Proofs.Ytckhjehibjdjdaa.P
open Go.RowKit Go.Proofs.YtckhjehibjdjdaaW.PrintWords Go.Proofs.YtckhjehibjdjdaaW.PrintLast Go.Proofs.YtckhjehibjdjdaaW.PrintMore
attribute [local go_sem] max2_int min2_int max_two min_two max_three min_three max_four min_four
set_option linter.unusedVariables false
set_option linter.unusedSimpArgs false
end Go.Proofs.Ytckhjehibjdjdaa.P
namespace Go.Proofs.Ytckhjehibjdjdaa.P
open Go.RowKit Go.Proofs.YtckhjehibjdjdaaW.PrintWords Go.Proofs.YtckhjehibjdjdaaW.PrintLast Go.Proofs.YtckhjehibjdjdaaW.PrintMore
attribute [local go_sem] max2_int min2_int max_two min_two max_three min_three max_four min_four
set_option linter.unusedVariables false
set_option linter.unusedSimpArgs false
end Go.Proofs.Ytckhjehibjdjdaa.P
namespace Go.Proofs.Ytckhjehibjdjdaa.P
open Go.RowKit Go.Proofs.YtckhjehibjdjdaaW.PrintWords Go.Proofs.YtckhjehibjdjdaaW.PrintLast Go.Proofs.YtckhjehibjdjdaaW.PrintMore
attribute [local go_sem] max2_int min2_int max_two min_two max_three min_three max_four min_four
set_option linter.unusedVariables false
set_option linter.unusedSimpArgs false
def ensembleref12_Fits.T4 : Bool × List (List Nat × List Nat) := (true, [([], []), ([0], [0]), ([], []), ([2], [2]), ([1, 3], [1, 3]), ([4], [4]), ([5], [5]), ([6, 5], [5, 6]), ([5], [5]), ([8, 5], [5, 8]), ([7, 9, 5], [5, 7, 9]), ([5, 10], [5, 10]), ([11, 5], [11]), ([12], [12]), ([12], [12]), ([14, 12], [12, 14]), ([13, 15, 12, 12], [12, 13, 15]), ([12], [12]), ([17, 12], [12, 17]), ([16, 18, 12], [12, 16, 18]), ([12, 19], [12, 19]), ([20, 16, 0, 1, 2, 3, 4, 5, 6, 7, 8, 9, 10, 11, 12, 13, 14, 15, 16, 17, 18, 19, 20], [20])])
def ensembleref12_Fits.B4 : List Nat := [0, 1, 0, 4, 15, 31, 63, 127, 63, 319, 1023, 2047, 4095, 8191, 8191, 24575, 65535, 8191, 139263, 524287, 1048575, 2097151]
theorem ensembleref12_Fits.bits4 : waitsOk ensembleref12_Fits.T4.2 ensembleref12_Fits.B4 = true := by kernel_rfl
end Go.Proofs.Ytckhjehibjdjdaa.P
namespace Go.Proofs.Ytckhjehibjdjdaa.P
open Go.RowKit Go.Proofs.YtckhjehibjdjdaaW.PrintWords Go.Proofs.YtckhjehibjdjdaaW.PrintLast Go.Proofs.YtckhjehibjdjdaaW.PrintMore
open Go.Proofs.Ytckhjehibjdjdaa.Bits Go.Proofs.Ytckhjehibjdjdaa.Mp
set_option linter.unusedVariables false
set_option linter.unusedSimpArgs false
theorem pos_orAll (l : List Nat) (hp : l.Pairwise (· < ·)) (h : ∀ i ∈ l, i < 64) : pos (orAll l) = l := by
 refine List.Perm.eq_of_pairwise (le := (· < ·)) (fun a b _ _ h1 h2 => absurd h1 (by omega)) (pos_sorted _) hp ?_
 have n1 : (pos (orAll l)).Nodup := (pos_sorted _).imp (fun h => by omega)
 have n2 : l.Nodup := hp.imp (fun h => by omega)
 refine (List.perm_ext_iff_of_nodup n1 n2).2 fun j => ?_
 rw [mem_pos, testBit_orAll, decide_eq_true_eq]
 exact ⟨fun h => h.2, fun hj => ⟨h j hj, hj⟩⟩
theorem sub_low (M n : Nat) (hM : M < 18446744073709551616) : M = lowN M n + orAll ((pos M).drop n) := by
 have e0 := orAll_pos (m := M) (by simpa using hM)
 have e1 := sumP_orAll (pos M) (pos_sorted M) (pos M).length (Nat.le_refl _)
 rw [List.take_length] at e1
 have hd : ((pos M).drop n).Pairwise (· < ·) := (pos_sorted M).sublist (List.drop_sublist _ _)
 have e2 := sumP_orAll ((pos M).drop n) hd _ (Nat.le_refl _)
 rw [List.take_length] at e2
 have e3 := sumP_append ((pos M).take n) ((pos M).drop n)
 rw [List.take_append_drop] at e3
 have e4 : sumP ((pos M).take n) = lowN M n := by
  unfold lowN
  by_cases h : n ≤ (pos M).length
  ·exact sumP_orAll (pos M) (pos_sorted M) n h
  ·rw [List.take_of_length_le (by omega), e1]
 omega
theorem pop_sub_low (M n : Nat) (hM : M < 18446744073709551616) : popN (M - lowN M n) = popN M - n := by
 have h := sub_low M n hM
 have e : M - lowN M n = orAll ((pos M).drop n) := by omega
 have hd : ((pos M).drop n).Pairwise (· < ·) := (pos_sorted M).sublist (List.drop_sublist _ _)
 unfold popN
 rw [e, pos_orAll _ hd (fun i hi => (mem_pos.1 (List.mem_of_mem_drop hi)).1), List.length_drop]
theorem low_le (M n : Nat) (hM : M < 18446744073709551616) : lowN M n ≤ M := by have := sub_low M n hM; omega
theorem right04 (g c mn mx : Int) : ensembleref04_Right.f g c mn mx = some (goodShape g c mn mx) := by
 unfold ensembleref04_Right.f
 by_cases h1 : g ≥ 0
 ·by_cases h2 : g ≤ 16
  ·by_cases h3 : c ≥ 0
   ·by_cases h4 : c ≤ 1024
    ·rw [if_pos h1, if_pos h2, if_pos h3, if_pos h4, w_id (by omega)]
     unfold goodShape
     rw [decide_eq_true (p := 0 ≤ g) (by omega), decide_eq_true (p := g ≤ 16) h2, decide_eq_true (p := 0 ≤ c) (by omega), decide_eq_true (p := c ≤ 1024) h4]
     by_cases h5 : g + c > 0
     ·rw [if_pos h5]
      have e5 : (decide (g = 0) && decide (c = 0)) = false := by
       rw [Bool.and_eq_false_iff]
       by_cases hg : g = 0
       ·right; exact decide_eq_false (by omega)
       ·left; exact decide_eq_false hg
      rw [e5]
      by_cases h6 : mn ≥ 1
      ·rw [if_pos h6, decide_eq_true (p := 1 ≤ mn) h6]
       by_cases h7 : mn ≤ mx
       ·rw [if_pos h7, decide_eq_true h7, decide_eq_true (p := 1 ≤ mx) (by omega)]; simp
       ·rw [if_neg h7, decide_eq_false h7]; simp
      ·rw [if_neg h6, decide_eq_false (p := 1 ≤ mn) h6]; simp
     ·rw [if_neg h5, decide_eq_true (p := g = 0) (by omega), decide_eq_true (p := c = 0) (by omega)]; simp
    ·rw [if_pos h1, if_pos h2, if_pos h3, if_neg h4]; unfold goodShape; rw [decide_eq_false h4]; simp
   ·rw [if_pos h1, if_pos h2, if_neg h3]; unfold goodShape; rw [decide_eq_false (p := 0 ≤ c) h3]; simp
  ·rw [if_pos h1, if_neg h2]; unfold goodShape; rw [decide_eq_false h2]; simp
 ·rw [if_neg h1]; unfold goodShape; rw [decide_eq_false (p := 0 ≤ g) h1]; simp
theorem good_out {g c mn mx : Int} (h : goodShape g c mn mx = true) : 0 ≤ g ∧ g ≤ 16 ∧ 0 ≤ c ∧ c ≤ 1024 ∧ 1 ≤ mn ∧ mn ≤ mx ∧ 1 ≤ mx ∧ mx ≤ 16 ∧ ¬ (g = 0 ∧ c = 0) := by
 simp only [goodShape, Bool.and_eq_true, decide_eq_true_eq, Bool.not_eq_true'] at h
 obtain ⟨⟨⟨⟨⟨⟨⟨⟨h1, h2⟩, h3⟩, h4⟩, h5⟩, h6⟩, h7⟩, h8⟩, h9⟩ := h
 refine ⟨h1, h2, h3, h4, h5, h6, h7, h8, fun ⟨a, b⟩ => ?_⟩
 rw [decide_eq_true a, decide_eq_true b] at h9
 cases h9
def pieceB (g c s0 s1 m cp : Int) : Int × Int × Int × Int × Int × Int × Int × Int × Int :=
 if g ≤ popI m ∧ 0 ≤ cp ∧ c ≤ cp then (s0, s1, lowI m g, c, s0, s1, m - lowI m g, cp - c, 0) else (0, 0, 0, 0, 0, 0, 0, 0, 7)
theorem piece_ev (g c mn mx s0 s1 m cp : Int) (hg : goodShape g c mn mx = true) (hm : 0 ≤ m ∧ m < 18446744073709551616) (hc : cp ≤ 9223372036854775807) :
  Ev (fun k => ensembleref04_Piece.f k g c mn mx s0 s1 m cp) (pieceB g c s0 s1 m cp) := by
 obtain ⟨M, rfl⟩ := Int.eq_ofNat_of_zero_le hm.1
 have hM : M < 18446744073709551616 := by omega
 have hb := good_out hg
 have hlow := lowest_ev M g hM
 rw [if_neg (by omega)] at hlow
 refine Ev.congr (fun k => by rw [ensembleref04_Piece.f]) (Ev.bind hlow ?_)
 by_cases h1 : g > popI (M : Int)
 ·rw [if_pos h1, show pieceB g c s0 s1 (M : Int) cp = (0, 0, 0, 0, 0, 0, 0, 0, 7) from if_neg (by omega)]
  exact Ev.congr (fun k => by rw [if_neg (by decide)]) (Ev.now _)
 ·rw [if_neg h1]
  have h2 : lowN M g.toNat ≤ M := low_le M _ hM
  have e3 : lowI (M : Int) g = ((lowN M g.toNat : Nat) : Int) := rfl
  by_cases h4 : cp < 0
  ·rw [show pieceB g c s0 s1 (M : Int) cp = (0, 0, 0, 0, 0, 0, 0, 0, 7) from if_neg (by omega)]
   exact Ev.congr (fun k => by rw [if_pos (by rfl), if_pos h4]) (Ev.now _)
  ·by_cases h5 : cp < c
   ·rw [show pieceB g c s0 s1 (M : Int) cp = (0, 0, 0, 0, 0, 0, 0, 0, 7) from if_neg (by omega)]
    exact Ev.congr (fun k => by rw [if_pos (by rfl), if_neg h4, if_pos h5]) (Ev.now _)
   ·rw [show pieceB g c s0 s1 (M : Int) cp = (s0, s1, lowI (M : Int) g, c, s0, s1, (M : Int) - lowI (M : Int) g, cp - c, 0) from if_pos (by omega)]
    refine Ev.congr (fun k => ?_) (Ev.now _)
    rw [if_pos (by rfl), if_neg h4, if_neg h5]
    simp only
    rw [e3, u64_id (by omega) (by omega), w_id (by omega)]
def fitC (g c : Int) (n : Nat) (m cp : Int) : Int := if 0 ≤ cp then (n : Int) + min (16 - (n : Int)) (min (eachI (popI m) g) (eachI cp c)) else (n : Int)
theorem pop_sub (m g : Int) (hm : 0 ≤ m ∧ m < 18446744073709551616) (hg : 0 ≤ g) (hgp : g ≤ popI m) : popI (m - lowI m g) = popI m - g ∧ 0 ≤ m - lowI m g ∧ m - lowI m g < 18446744073709551616 := by
 obtain ⟨M, rfl⟩ := Int.eq_ofNat_of_zero_le hm.1
 obtain ⟨G, rfl⟩ := Int.eq_ofNat_of_zero_le hg
 have hM : M < 18446744073709551616 := by omega
 have h1 := low_le M G hM
 have h2 := pop_sub_low M G hM
 have e3 : lowI (M : Int) (G : Int) = ((lowN M G : Nat) : Int) := by unfold lowI; simp
 have e4 : popI (M : Int) = ((popN M : Nat) : Int) := by unfold popI; simp
 rw [e3]
 rw [e4] at hgp ⊢
 have e5 : ((M : Int) - ((lowN M G : Nat) : Int)) = ((M - lowN M G : Nat) : Int) := by omega
 rw [e5]
 have e6 : popI ((M - lowN M G : Nat) : Int) = ((popN (M - lowN M G) : Nat) : Int) := by unfold popI; simp
 rw [e6, h2]
 omega
theorem each_sub (a b : Int) (hb : 0 ≤ b) (h : b ≤ a) (n : Nat) (hn : n < 16) (X : Int) : 1 ≤ eachI a b ∧ (min (16 - (n : Int)) (min (eachI a b) X)) = 1 + min (16 - ((n : Int) + 1)) (min (eachI (a - b) b) (X - 1)) := by
 unfold eachI
 by_cases h0 : b = 0
 ·rw [if_pos h0, if_pos h0]; omega
 ·rw [if_neg h0, if_neg h0, show (a - b) / b = a / b - 1 from by
   rw [Int.sub_ediv_of_dvd _ (Int.dvd_refl b), Int.ediv_self h0]]
  have : 1 ≤ a / b := (Int.le_ediv_iff_mul_le (by omega)).2 (by omega)
  omega
theorem fits04_l (g c mn mx s0 s1 : Int) (hg : goodShape g c mn mx = true) (d : Nat) : ∀ (n : Nat) (m cp : Int), n ≤ 16 → 16 - n = d → 0 ≤ m ∧ m < 18446744073709551616 → cp ≤ 9223372036854775807 →
  Ev (fun k => ensembleref04_Fits.l0 k (n : Int) g c mn mx s0 s1 m cp) (fitC g c n m cp) := by
 have hb := good_out hg
 induction d with
 | zero =>
  intro n m cp hn hd hm hc
  obtain rfl : n = 16 := by omega
  refine Ev.step (f := fun _ => some (fitC g c 16 m cp)) (fun k => ?_) (Ev.now _)
  rw [ensembleref04_Fits.l0, if_neg (by omega)]
  unfold fitC
  split
  ·rename_i h0
   have h1 := eachI_nn (popI_bd m).1 (show 0 ≤ g by omega)
   have h2 := eachI_nn h0 (show 0 ≤ c by omega)
   congr 1; omega
  ·rfl
 | succ d ih =>
  intro n m cp hn hd hm hc
  have hpb := popI_bd m
  refine Ev.step (fun k => by rw [ensembleref04_Fits.l0, if_pos (by omega)]) (Ev.bind (piece_ev g c mn mx s0 s1 m cp hg hm hc) ?_)
  by_cases h : g ≤ popI m ∧ 0 ≤ cp ∧ c ≤ cp
  ·rw [show pieceB g c s0 s1 m cp = (s0, s1, lowI m g, c, s0, s1, m - lowI m g, cp - c, 0) from if_pos h]
   have hs := pop_sub m g hm (by omega) h.1
   have I := ih (n + 1) (m - lowI m g) (cp - c) (by omega) (by omega) hs.2 (by omega)
   have e : fitC g c (n + 1) (m - lowI m g) (cp - c) = fitC g c n m cp := by
    unfold fitC
    rw [if_pos (by omega), if_pos (by omega), hs.1]
    have A := each_sub (popI m) g (by omega) h.1 n (by omega) (eachI cp c)
    have B := each_sub cp c (by omega) h.2.2 n (by omega) (eachI (popI m - g) g + 1)
    omega
   rw [e] at I
   refine Ev.congr (fun k => ?_) I
   rw [if_pos (by rfl), w_id (by omega)]
   congr 1
  ·rw [show pieceB g c s0 s1 m cp = (0, 0, 0, 0, 0, 0, 0, 0, 7) from if_neg h]
   refine Ev.congr (fun k => ?_) (Ev.now _)
   rw [if_neg (by decide)]
   congr 1
   unfold fitC
   split
   ·rename_i h0
    have h1 := eachI_nn (popI_bd m).1 (show 0 ≤ g by omega)
    have h2 := eachI_nn h0 (show 0 ≤ c by omega)
    by_cases hp : g ≤ popI m
    ·have : eachI cp c = 0 := by
      unfold eachI
      rw [if_neg (by omega)]
      exact Int.ediv_eq_zero_of_lt h0 (by omega)
     omega
    ·have : eachI (popI m) g = 0 := by
      unfold eachI
      rw [if_neg (by omega)]
      exact Int.ediv_eq_zero_of_lt hpb.1 (by omega)
     omega
   ·rfl
theorem fits04_ev (g c mn mx s0 s1 m cp : Int) (hm : 0 ≤ m ∧ m < 18446744073709551616) (hc : cp ≤ 9223372036854775807) : Ev (fun k => ensembleref04_Fits.f k g c mn mx s0 s1 m cp) (fitV g c mn mx m cp) := by
 unfold ensembleref04_Fits.f fitV
 refine Ev.congr (fun k => by rw [right04, Option.bind_some]) ?_
 by_cases h : goodShape g c mn mx = true
 ·have hb := good_out h
  refine Ev.congr (fun k => by rw [if_pos h]) ?_
  have := fits04_l g c mn mx s0 s1 h 16 0 m cp (by omega) (by omega) hm hc
  unfold fitC at this
  by_cases h0 : 0 ≤ cp
  ·rw [if_pos h0] at this
   rw [if_pos ⟨h, h0⟩]
   unfold fitN
   have e : (((0 : Nat) : Int) + min (16 - ((0 : Nat) : Int)) (min (eachI (popI m) g) (eachI cp c))) = min 16 (min (eachI (popI m) g) (eachI cp c)) := by omega
   rw [e] at this
   exact this
  ·rw [if_neg h0] at this
   rw [if_neg (fun x => h0 x.2)]
   exact this
 ·rw [if_neg (fun x => h x.1)]
  exact Ev.congr (fun k => by rw [if_neg h]) (Ev.now _)
theorem room05_l (g c mn mx : Int) (view : List S51) (hl : view.length ≤ 4398046511104) (hv : ∀ f ∈ view, freeOk f = true) (d : Nat) : ∀ (i : Nat) (s : Int), i ≤ view.length → view.length - i = d → 0 ≤ s → s ≤ 16 * i →
  Ev (fun k => ensembleref05_Room.l0 k view s (i : Int) g c mn mx) (s + roomS g c mn mx (view.drop i)) := by
 induction d with
 | zero =>
  intro i s hi hd h0 hs
  refine Ev.step (f := fun _ => some (s + roomS g c mn mx (view.drop i))) (fun k => ?_) (Ev.now _)
  rw [ensembleref05_Room.l0, if_neg (by omega), List.drop_eq_nil_of_le (by omega)]
  simp [roomS]
 | succ d ih =>
  intro i s hi hd h0 hs
  have hil : i < view.length := by omega
  have hf := hv _ (List.getElem_mem hil)
  simp only [freeOk, w64B, Bool.and_eq_true, decide_eq_true_eq] at hf
  have hb := fitV_bd g c mn mx (view[i]).f1 (view[i]).f2
  refine Ev.step (fun k => by rw [ensembleref05_Room.l0, if_pos (by omega), if_pos (by omega), rd51' view i hil]) (Ev.bind (fits04_ev g c mn mx _ _ _ _ hf.1 hf.2.2) ?_)
  have I := ih (i + 1) (s + fitV g c mn mx (view[i]).f1 (view[i]).f2) (by omega) (by omega) (by omega) (by omega)
  have e : s + fitV g c mn mx (view[i]).f1 (view[i]).f2 + roomS g c mn mx (view.drop (i + 1)) = s + roomS g c mn mx (view.drop i) := by
   rw [List.drop_eq_getElem_cons hil]
   simp only [roomS, List.map_cons, List.sum_cons]
   omega
  rw [e] at I
  refine Ev.congr (fun k => ?_) I
  rw [w_id (by omega), w_id (by omega)]
  congr 1
theorem room05_ev (g c mn mx : Int) (view : List S51) (hl : view.length ≤ 4398046511104) (hv : ∀ f ∈ view, freeOk f = true) : Ev (fun k => ensembleref05_Room.f k view g c mn mx) (roomS g c mn mx view) := by
 have := room05_l g c mn mx view hl hv view.length 0 0 (by omega) (by omega) (by omega) (by omega)
 rw [List.drop_zero, Int.zero_add] at this
 exact this
end Go.Proofs.Ytckhjehibjdjdaa.P
namespace Go.Proofs.Ytckhjehibjdjdaa.P
open Go.RowKit Go.Proofs.YtckhjehibjdjdaaW.PrintWords Go.Proofs.YtckhjehibjdjdaaW.PrintLast Go.Proofs.YtckhjehibjdjdaaW.PrintMore
attribute [local go_sem] max2_int min2_int max_two min_two max_three min_three max_four min_four
set_option linter.unusedVariables false
set_option linter.unusedSimpArgs false
def elastic_left.f (a0_0 : Int) (a0_1 : Int) (a0_2 : Int) (a0_3 : Int) (l0_4 : List (S51)) (l0_5 : List (S24)) (l0_6 : List (S41)) (l0_7 : List (S105)) (l0_8 : List (S149)) (a1_0 : Int) (a1_1 : Int) (a1_2 : Int) (a1_3 : Int) (a1_4 : Int) (a1_5 : Int) (a1_6 : Int) (a1_7 : Int) : Option (Int × Int × Int) := (shape_Check.f a1_4 a1_5 a1_6 a1_7).bind fun t717 => (if t717 = 0 then (if a1_1 < 0 then (some (0, 0, 3)) else (if a1_1 ≥ (l0_5.length : Int) then (some (0, 0, 3)) else (if 0 ≤ a1_1 then (if a1_1 < (l0_5.length : Int) then (some ((rd_T24 l0_5 a1_1).f0, (rd_T24 l0_5 a1_1).f1, 0)) else (none)) else (none)))) else (some (0, 0, t717)))
set_option maxHeartbeats 8000000 in
set_option maxRecDepth 100000 in
theorem elastic_left.calls (a0_0 : Int) (a0_1 : Int) (a0_2 : Int) (a0_3 : Int) (A0_4 : Option Addr) (c0_4 : Nat) (l0_4 : List (S51)) (A0_5 : Option Addr) (c0_5 : Nat) (l0_5 : List (S24)) (A0_6 : Option Addr) (c0_6 : Nat) (l0_6 : List (S41)) (A0_7 : Option Addr) (c0_7 : Nat) (l0_7 : List (S105)) (A0_8 : Option Addr) (c0_8 : Nat) (l0_8 : List (S149)) (a1_0 : Int) (a1_1 : Int) (a1_2 : Int) (a1_3 : Int) (a1_4 : Int) (a1_5 : Int) (a1_6 : Int) (a1_7 : Int) (r1 : Int) (r2 : Int) (r3 : Int) (w : World) (hr0_4 : Kd.C k51 w A0_4 l0_4.length l0_4) (hc0_4 : l0_4.length ≤ c0_4) (hr0_5 : Kd.C k24 w A0_5 l0_5.length l0_5) (hc0_5 : l0_5.length ≤ c0_5) (hr0_6 : Kd.C k41 w A0_6 l0_6.length l0_6) (hc0_6 : l0_6.length ≤ c0_6) (hr0_7 : Kd.C k105 w A0_7 l0_7.length l0_7) (hc0_7 : l0_7.length ≤ c0_7) (hr0_8 : Kd.C k149 w A0_8 l0_8.length l0_8) (hc0_8 : l0_8.length ≤ c0_8) (h : elastic_left.f a0_0 a0_1 a0_2 a0_3 l0_4 l0_5 l0_6 l0_7 l0_8 a1_0 a1_1 a1_2 a1_3 a1_4 a1_5 a1_6 a1_7 = some (r1, r2, r3)) :
  Calls Try.prog 93 #[.agg #[.int .i64 a0_0, .int .i64 a0_1, .int .i64 a0_2, .int .i64 a0_3, .slice A0_4 l0_4.length c0_4, .slice A0_5 l0_5.length c0_5, .slice A0_6 l0_6.length c0_6, .slice A0_7 l0_7.length c0_7, .slice A0_8 l0_8.length c0_8], .agg #[.int .i64 a1_0, .int .i64 a1_1, .int .i64 a1_2, .int .i64 a1_3, .int .i64 a1_4, .int .i64 a1_5, .int .i64 a1_6, .int .i64 a1_7]] w fun e w' => e = .returned (.tuple #[.agg #[.int .i64 r1, .int .i64 r2], .int .i64 r3]) ∧ Below w.heap.size w w' := by
 have hu86 := Try.underlying86
 have hu88 := Try.underlying88
 have hu24 := Try.underlying24
 have hu27 := Try.underlying27
 have HR0_4 := Aside0.mk hr0_4
 have HC0_4 := Aside0.mk hc0_4
 clear hr0_4 hc0_4
 have HR0_5 := Aside0.mk hr0_5
 have HC0_5 := Aside0.mk hc0_5
 clear hr0_5 hc0_5
 have HR0_6 := Aside0.mk hr0_6
 have HC0_6 := Aside0.mk hc0_6
 clear hr0_6 hc0_6
 have HR0_7 := Aside0.mk hr0_7
 have HC0_7 := Aside0.mk hc0_7
 clear hr0_7 hc0_7
 have HR0_8 := Aside0.mk hr0_8
 have HC0_8 := Aside0.mk hc0_8
 clear hr0_8 hc0_8
 have HB := Aside0.mk (Below.refl w.heap.size w)
 have H : ((shape_Check.f a1_4 a1_5 a1_6 a1_7).bind fun t717 => (if t717 = 0 then (if a1_1 < 0 then (some (0, 0, 3)) else (if a1_1 ≥ (l0_5.length : Int) then (some (0, 0, 3)) else (if 0 ≤ a1_1 then (if a1_1 < (l0_5.length : Int) then (some ((rd_T24 l0_5 a1_1).f0, (rd_T24 l0_5 a1_1).f1, 0)) else (none)) else (none)))) else (some (0, 0, t717)))) = some (r1, r2, r3) := h
 clear h
 replace H := Option.bind_eq_some_iff.mp H
 obtain ⟨t717, A30, H⟩ := H
 replace H : (if t717 = 0 then (if a1_1 < 0 then (some (0, 0, 3)) else (if a1_1 ≥ (l0_5.length : Int) then (some (0, 0, 3)) else (if 0 ≤ a1_1 then (if a1_1 < (l0_5.length : Int) then (some ((rd_T24 l0_5 a1_1).f0, (rd_T24 l0_5 a1_1).f1, 0)) else (none)) else (none)))) else (some (0, 0, t717))) = some (r1, r2, r3) := H
 have A3 := Aside0.mk A30
 clear A30
 by_cases c4 : t717 = 0
 ·rw [if_pos c4] at H
  have c4b0 : (t717 == 0) = true := beq_iff_eq.mpr c4
  have c4b1 : (t717 != 0) = false := bne_eq_false_iff_eq.mpr c4
  clear c4
  by_cases c5 : a1_1 < 0
  ·rw [if_pos c5] at H
   have c5b0 : decide (a1_1 < 0) = true := decide_eq_true c5
   clear c5
   simp only [Option.some.injEq, Prod.mk.injEq] at H
   obtain ⟨rfl, rfl, rfl⟩ := H
   go_enter Try.func93, Try.ntmps93
   go_wp2_with (first | ((with_reducible refine gate_dst (N := 2) rfl ?_); (try (refine gate_guard (by rfl) ?_; dsimp only)); refine bx 2 #[.int .i64 a0_0, .int .i64 a0_1, .int .i64 a0_2, .int .i64 a0_3, .slice A0_4 l0_4.length c0_4, .slice A0_5 l0_5.length c0_5, .slice A0_6 l0_6.length c0_6, .slice A0_7 l0_7.length c0_7, .slice A0_8 l0_8.length c0_8] 86 ?_; intro gb714 hg w6 hbox hb; have BK714 := Aside0.mk (hbox); have GW714 := ge_ hg; have GE714 := ge_ hg; replace HB := hs_ hb; clear hb hbox hg) | ((with_reducible refine gate_dst (N := 3) rfl ?_); (try (refine gate_guard (by rfl) ?_; dsimp only)); refine bx 3 #[.int .i64 a1_0, .int .i64 a1_1, .int .i64 a1_2, .int .i64 a1_3, .int .i64 a1_4, .int .i64 a1_5, .int .i64 a1_6, .int .i64 a1_7] 88 ?_; intro gb715 hg w7 hbox hb; have BK715 := Aside0.mk (hbox); have GW715 := ge_ hg; have GE715 := ge_ hg; have NB714_715 := nl_ BK714 hg; have NB715_714 := nr_ BK714 hg; replace BK714 := bk_ BK714 hb; replace HB := hs_ hb; clear hb hbox hg) | ((with_reducible refine gate_dst (N := 4) rfl ?_); (try (refine gate_guard (by rfl) ?_; dsimp only)); refine bx 4 #[.int .i64 0, .int .i64 0] 24 ?_; intro gb716 hg w8 hbox hb; have BK716 := Aside0.mk (hbox); have GW716 := ge_ hg; have GE716 := ge_ hg; have NB714_716 := nl_ BK714 hg; have NB716_714 := nr_ BK714 hg; have NB715_716 := nl_ BK715 hg; have NB716_715 := nr_ BK715 hg; replace BK714 := bk_ BK714 hb; replace BK715 := bk_ BK715 hb; replace HB := hs_ hb; clear hb hbox hg; have hnb9 := NB715_714.out; have hnc9 := NB714_715.out; have hnb10 := NB715_716.out; have hnc10 := NB716_715.out; obtain ⟨hcz11_0, hcz11_1, hcz11_2, hcz11_3, hcz11_4, hcz11_5, hcz11_6, hcz11_7, hfz11_0, hfz11_1, hfz11_2, hfz11_3, hfz11_4, hfz11_5, hfz11_6, hfz11_7⟩ := bz8_ BK715) | ((with_reducible refine gate_callee (f := 83) rfl ?_); refine goesL_ (some 9) rfl rfl Try.func83 (by kernel_rfl) rfl #[.agg #[.int .i64 a1_4, .int .i64 a1_5, .int .i64 a1_6, .int .i64 a1_7]] rfl Z0 ?_; (with_reducible refine (shape_Check.calls a1_4 a1_5 a1_6 a1_7 t717 _ A3.out).mono ?_); rintro e w12 ⟨rfl, hb⟩; refine ⟨_, rfl, ?_⟩; replace BK714 := bk_ BK714 hb; replace BK715 := bk_ BK715 hb; replace BK716 := bk_ BK716 hb; replace HB := hs_ hb; (try clear hb); (try clear hb2); (try clear hk); (try clear hi); obtain ⟨hcz13_0, hcz13_1, hcz13_2, hcz13_3, hcz13_4, hcz13_5, hcz13_6, hcz13_7, hfz13_0, hfz13_1, hfz13_2, hfz13_3, hfz13_4, hfz13_5, hfz13_6, hfz13_7⟩ := bz8_ BK715; have hnb14 := NB716_714.out; have hnc14 := NB714_716.out; obtain ⟨hcz15_0, hcz15_1, hfz15_0, hfz15_1⟩ := bz2_ BK716))
   refine bodyPost_ret (results_ct rfl _ _ gb716 24 #[.int .i64 0, .int .i64 0] (0, 0) _ rfl (by (with_reducible repeat (first | refine blk_drewN ?_ _ | refine blk_drew ?_ | refine blk_alloc ?_ _)); refine blk_put (cs := #[.int .i64 0, .int .i64 0]) ?_ 1 _ rfl; (with_reducible repeat (first | refine blk_drewN ?_ _ | refine blk_drew ?_ | refine blk_alloc ?_ _)); refine blk_put (cs := #[.int .i64 0, .int .i64 0]) ?_ 0 _ rfl; (with_reducible repeat (first | refine blk_drewN ?_ _ | refine blk_drew ?_ | refine blk_alloc ?_ _)); exact BK716.out) Try.underlying24 rfl (by kernel_rfl)) rfl ?_
   exact ⟨by first | rfl | (simp [errW_none, errW_some] <;> rfl) | (simp [*, errW_none, errW_some] <;> rfl), hb_⟩
  ·rw [if_neg c5] at H
   have c5b0 : decide (a1_1 < 0) = false := decide_eq_false c5
   clear c5
   by_cases c16 : a1_1 ≥ (l0_5.length : Int)
   ·rw [if_pos c16] at H
    have c16b0 : decide ((l0_5.length : Int) ≤ a1_1) = true := decide_eq_true c16
    clear c16
    simp only [Option.some.injEq, Prod.mk.injEq] at H
    obtain ⟨rfl, rfl, rfl⟩ := H
    go_enter Try.func93, Try.ntmps93
    go_wp2_with (first | ((with_reducible refine gate_dst (N := 2) rfl ?_); (try (refine gate_guard (by rfl) ?_; dsimp only)); refine bx 2 #[.int .i64 a0_0, .int .i64 a0_1, .int .i64 a0_2, .int .i64 a0_3, .slice A0_4 l0_4.length c0_4, .slice A0_5 l0_5.length c0_5, .slice A0_6 l0_6.length c0_6, .slice A0_7 l0_7.length c0_7, .slice A0_8 l0_8.length c0_8] 86 ?_; intro gb714 hg w17 hbox hb; have BK714 := Aside0.mk (hbox); have GW714 := ge_ hg; have GE714 := ge_ hg; replace HB := hs_ hb; clear hb hbox hg) | ((with_reducible refine gate_dst (N := 3) rfl ?_); (try (refine gate_guard (by rfl) ?_; dsimp only)); refine bx 3 #[.int .i64 a1_0, .int .i64 a1_1, .int .i64 a1_2, .int .i64 a1_3, .int .i64 a1_4, .int .i64 a1_5, .int .i64 a1_6, .int .i64 a1_7] 88 ?_; intro gb715 hg w18 hbox hb; have BK715 := Aside0.mk (hbox); have GW715 := ge_ hg; have GE715 := ge_ hg; have NB714_715 := nl_ BK714 hg; have NB715_714 := nr_ BK714 hg; replace BK714 := bk_ BK714 hb; replace HB := hs_ hb; clear hb hbox hg) | ((with_reducible refine gate_dst (N := 4) rfl ?_); (try (refine gate_guard (by rfl) ?_; dsimp only)); refine bx 4 #[.int .i64 0, .int .i64 0] 24 ?_; intro gb716 hg w19 hbox hb; have BK716 := Aside0.mk (hbox); have GW716 := ge_ hg; have GE716 := ge_ hg; have NB714_716 := nl_ BK714 hg; have NB716_714 := nr_ BK714 hg; have NB715_716 := nl_ BK715 hg; have NB716_715 := nr_ BK715 hg; replace BK714 := bk_ BK714 hb; replace BK715 := bk_ BK715 hb; replace HB := hs_ hb; clear hb hbox hg; have hnb20 := NB715_714.out; have hnc20 := NB714_715.out; have hnb21 := NB715_716.out; have hnc21 := NB716_715.out; obtain ⟨hcz22_0, hcz22_1, hcz22_2, hcz22_3, hcz22_4, hcz22_5, hcz22_6, hcz22_7, hfz22_0, hfz22_1, hfz22_2, hfz22_3, hfz22_4, hfz22_5, hfz22_6, hfz22_7⟩ := bz8_ BK715) | ((with_reducible refine gate_callee (f := 83) rfl ?_); refine goesL_ (some 9) rfl rfl Try.func83 (by kernel_rfl) rfl #[.agg #[.int .i64 a1_4, .int .i64 a1_5, .int .i64 a1_6, .int .i64 a1_7]] rfl Z0 ?_; (with_reducible refine (shape_Check.calls a1_4 a1_5 a1_6 a1_7 t717 _ A3.out).mono ?_); rintro e w23 ⟨rfl, hb⟩; refine ⟨_, rfl, ?_⟩; replace BK714 := bk_ BK714 hb; replace BK715 := bk_ BK715 hb; replace BK716 := bk_ BK716 hb; replace HB := hs_ hb; (try clear hb); (try clear hb2); (try clear hk); (try clear hi); obtain ⟨hcz24_0, hcz24_1, hcz24_2, hcz24_3, hcz24_4, hcz24_5, hcz24_6, hcz24_7, hfz24_0, hfz24_1, hfz24_2, hfz24_3, hfz24_4, hfz24_5, hfz24_6, hfz24_7⟩ := bz8_ BK715; have hnb25 := NB714_716.out; have hnc25 := NB716_714.out; obtain ⟨hcz26_0, hcz26_1, hcz26_2, hcz26_3, hcz26_4, hcz26_5, hcz26_6, hcz26_7, hcz26_8, hfz26_0, hfz26_1, hfz26_2, hfz26_3, hfz26_4, hfz26_5, hfz26_6, hfz26_7, hfz26_8⟩ := bz9_ BK714; obtain ⟨hcz27_0, hcz27_1, hfz27_0, hfz27_1⟩ := bz2_ BK716))
    refine bodyPost_ret (results_ct rfl _ _ gb716 24 #[.int .i64 0, .int .i64 0] (0, 0) _ rfl (by (with_reducible repeat (first | refine blk_drewN ?_ _ | refine blk_drew ?_ | refine blk_alloc ?_ _)); refine blk_put (cs := #[.int .i64 0, .int .i64 0]) ?_ 1 _ rfl; (with_reducible repeat (first | refine blk_drewN ?_ _ | refine blk_drew ?_ | refine blk_alloc ?_ _)); refine blk_put (cs := #[.int .i64 0, .int .i64 0]) ?_ 0 _ rfl; (with_reducible repeat (first | refine blk_drewN ?_ _ | refine blk_drew ?_ | refine blk_alloc ?_ _)); exact BK716.out) Try.underlying24 rfl (by kernel_rfl)) rfl ?_
    exact ⟨by first | rfl | (simp [errW_none, errW_some] <;> rfl) | (simp [*, errW_none, errW_some] <;> rfl), hb_⟩
   ·rw [if_neg c16] at H
    have c16b0 : decide ((l0_5.length : Int) ≤ a1_1) = false := decide_eq_false c16
    clear c16
    by_cases c28 : 0 ≤ a1_1
    ·rw [if_pos c28] at H
     have c28b0 : decide (0 ≤ a1_1) = true := decide_eq_true c28
     clear c28
     by_cases c29 : a1_1 < (l0_5.length : Int)
     ·rw [if_pos c29] at H
      have c29b0 : decide (a1_1 < (l0_5.length : Int)) = true := decide_eq_true c29
      clear c29
      simp only [Option.some.injEq, Prod.mk.injEq] at H
      obtain ⟨rfl, rfl, rfl⟩ := H
      go_enter Try.func93, Try.ntmps93
      go_wp2_with (first | ((with_reducible refine gate_dst (N := 2) rfl ?_); (try (refine gate_guard (by rfl) ?_; dsimp only)); refine bx 2 #[.int .i64 a0_0, .int .i64 a0_1, .int .i64 a0_2, .int .i64 a0_3, .slice A0_4 l0_4.length c0_4, .slice A0_5 l0_5.length c0_5, .slice A0_6 l0_6.length c0_6, .slice A0_7 l0_7.length c0_7, .slice A0_8 l0_8.length c0_8] 86 ?_; intro gb714 hg w30 hbox hb; have BK714 := Aside0.mk (hbox); have GW714 := ge_ hg; have GE714 := ge_ hg; replace HB := hs_ hb; clear hb hbox hg) | ((with_reducible refine gate_dst (N := 3) rfl ?_); (try (refine gate_guard (by rfl) ?_; dsimp only)); refine bx 3 #[.int .i64 a1_0, .int .i64 a1_1, .int .i64 a1_2, .int .i64 a1_3, .int .i64 a1_4, .int .i64 a1_5, .int .i64 a1_6, .int .i64 a1_7] 88 ?_; intro gb715 hg w31 hbox hb; have BK715 := Aside0.mk (hbox); have GW715 := ge_ hg; have GE715 := ge_ hg; have NB714_715 := nl_ BK714 hg; have NB715_714 := nr_ BK714 hg; replace BK714 := bk_ BK714 hb; replace HB := hs_ hb; clear hb hbox hg) | ((with_reducible refine gate_dst (N := 4) rfl ?_); (try (refine gate_guard (by rfl) ?_; dsimp only)); refine bx 4 #[.int .i64 0, .int .i64 0] 24 ?_; intro gb716 hg w32 hbox hb; have BK716 := Aside0.mk (hbox); have GW716 := ge_ hg; have GE716 := ge_ hg; have NB714_716 := nl_ BK714 hg; have NB716_714 := nr_ BK714 hg; have NB715_716 := nl_ BK715 hg; have NB716_715 := nr_ BK715 hg; replace BK714 := bk_ BK714 hb; replace BK715 := bk_ BK715 hb; replace HB := hs_ hb; clear hb hbox hg; have hnb33 := NB715_714.out; have hnc33 := NB714_715.out; have hnb34 := NB715_716.out; have hnc34 := NB716_715.out; obtain ⟨hcz35_0, hcz35_1, hcz35_2, hcz35_3, hcz35_4, hcz35_5, hcz35_6, hcz35_7, hfz35_0, hfz35_1, hfz35_2, hfz35_3, hfz35_4, hfz35_5, hfz35_6, hfz35_7⟩ := bz8_ BK715) | ((with_reducible refine gate_callee (f := 83) rfl ?_); refine goesL_ (some 9) rfl rfl Try.func83 (by kernel_rfl) rfl #[.agg #[.int .i64 a1_4, .int .i64 a1_5, .int .i64 a1_6, .int .i64 a1_7]] rfl Z0 ?_; (with_reducible refine (shape_Check.calls a1_4 a1_5 a1_6 a1_7 t717 _ A3.out).mono ?_); rintro e w36 ⟨rfl, hb⟩; refine ⟨_, rfl, ?_⟩; replace BK714 := bk_ BK714 hb; replace BK715 := bk_ BK715 hb; replace BK716 := bk_ BK716 hb; replace HB := hs_ hb; (try clear hb); (try clear hb2); (try clear hk); (try clear hi); obtain ⟨hcz37_0, hcz37_1, hcz37_2, hcz37_3, hcz37_4, hcz37_5, hcz37_6, hcz37_7, hfz37_0, hfz37_1, hfz37_2, hfz37_3, hfz37_4, hfz37_5, hfz37_6, hfz37_7⟩ := bz8_ BK715; have hnb38 := NB714_716.out; have hnc38 := NB716_714.out; obtain ⟨hcz39_0, hcz39_1, hcz39_2, hcz39_3, hcz39_4, hcz39_5, hcz39_6, hcz39_7, hcz39_8, hfz39_0, hfz39_1, hfz39_2, hfz39_3, hfz39_4, hfz39_5, hfz39_6, hfz39_7, hfz39_8⟩ := bz9_ BK714; have p718 : 0 ≤ (a1_1 : Int) := of_decide_eq_true Z1; have q718 : a1_1 < (l0_5.length : Int) := of_decide_eq_true Z1; obtain ⟨ad718, e718, hx718_0, hx718_1⟩ := at_T24 HR0_5.out a1_1 p718 q718; cases e718; replace hx718_0 := cx_ hx718_0; replace hx718_1 := cx_ hx718_1; replace p718 := eq_true p718; replace q718 := eq_true q718; obtain ⟨hcz40_0, hcz40_1, hfz40_0, hfz40_1⟩ := bz2_ BK716))
      refine bodyPost_ret (results_ct rfl _ _ gb716 24 #[.int .i64 ((rd_T24 l0_5 a1_1).f0), .int .i64 ((rd_T24 l0_5 a1_1).f1)] (0, 0) _ rfl (by (with_reducible repeat (first | refine blk_drewN ?_ _ | refine blk_drew ?_ | refine blk_alloc ?_ _)); refine blk_put (cs := #[.int .i64 ((rd_T24 l0_5 a1_1).f0), .int .i64 0]) ?_ 1 _ rfl; (with_reducible repeat (first | refine blk_drewN ?_ _ | refine blk_drew ?_ | refine blk_alloc ?_ _)); refine blk_put (cs := #[.int .i64 0, .int .i64 0]) ?_ 0 _ rfl; (with_reducible repeat (first | refine blk_drewN ?_ _ | refine blk_drew ?_ | refine blk_alloc ?_ _)); exact BK716.out) Try.underlying24 rfl (by kernel_rfl)) rfl ?_
      exact ⟨by first | rfl | (simp [errW_none, errW_some] <;> rfl) | (simp [*, errW_none, errW_some] <;> rfl), hb_⟩
     ·rw [if_neg c29] at H
      exact absurd H (by simp)
    ·rw [if_neg c28] at H
     exact absurd H (by simp)
 ·rw [if_neg c4] at H
  have c4b0 : (t717 == 0) = false := beq_eq_false_iff_ne.mpr c4
  have c4b1 : (t717 != 0) = true := bne_iff_ne.mpr c4
  simp only [Option.some.injEq, Prod.mk.injEq] at H
  obtain ⟨rfl, rfl, rfl⟩ := H
  go_enter Try.func93, Try.ntmps93
  go_wp2_with (first | ((with_reducible refine gate_dst (N := 2) rfl ?_); (try (refine gate_guard (by rfl) ?_; dsimp only)); refine bx 2 #[.int .i64 a0_0, .int .i64 a0_1, .int .i64 a0_2, .int .i64 a0_3, .slice A0_4 l0_4.length c0_4, .slice A0_5 l0_5.length c0_5, .slice A0_6 l0_6.length c0_6, .slice A0_7 l0_7.length c0_7, .slice A0_8 l0_8.length c0_8] 86 ?_; intro gb714 hg w41 hbox hb; have BK714 := Aside0.mk (hbox); have GW714 := ge_ hg; have GE714 := ge_ hg; replace HB := hs_ hb; clear hb hbox hg) | ((with_reducible refine gate_dst (N := 3) rfl ?_); (try (refine gate_guard (by rfl) ?_; dsimp only)); refine bx 3 #[.int .i64 a1_0, .int .i64 a1_1, .int .i64 a1_2, .int .i64 a1_3, .int .i64 a1_4, .int .i64 a1_5, .int .i64 a1_6, .int .i64 a1_7] 88 ?_; intro gb715 hg w42 hbox hb; have BK715 := Aside0.mk (hbox); have GW715 := ge_ hg; have GE715 := ge_ hg; have NB714_715 := nl_ BK714 hg; have NB715_714 := nr_ BK714 hg; replace BK714 := bk_ BK714 hb; replace HB := hs_ hb; clear hb hbox hg) | ((with_reducible refine gate_dst (N := 4) rfl ?_); (try (refine gate_guard (by rfl) ?_; dsimp only)); refine bx 4 #[.int .i64 0, .int .i64 0] 24 ?_; intro gb716 hg w43 hbox hb; have BK716 := Aside0.mk (hbox); have GW716 := ge_ hg; have GE716 := ge_ hg; have NB714_716 := nl_ BK714 hg; have NB716_714 := nr_ BK714 hg; have NB715_716 := nl_ BK715 hg; have NB716_715 := nr_ BK715 hg; replace BK714 := bk_ BK714 hb; replace BK715 := bk_ BK715 hb; replace HB := hs_ hb; clear hb hbox hg; have hnb44 := NB715_714.out; have hnc44 := NB714_715.out; have hnb45 := NB715_716.out; have hnc45 := NB716_715.out; obtain ⟨hcz46_0, hcz46_1, hcz46_2, hcz46_3, hcz46_4, hcz46_5, hcz46_6, hcz46_7, hfz46_0, hfz46_1, hfz46_2, hfz46_3, hfz46_4, hfz46_5, hfz46_6, hfz46_7⟩ := bz8_ BK715) | ((with_reducible refine gate_callee (f := 83) rfl ?_); refine goesL_ (some 9) rfl rfl Try.func83 (by kernel_rfl) rfl #[.agg #[.int .i64 a1_4, .int .i64 a1_5, .int .i64 a1_6, .int .i64 a1_7]] rfl Z0 ?_; (with_reducible refine (shape_Check.calls a1_4 a1_5 a1_6 a1_7 t717 _ A3.out).mono ?_); rintro e w47 ⟨rfl, hb⟩; refine ⟨_, rfl, ?_⟩; replace BK714 := bk_ BK714 hb; replace BK715 := bk_ BK715 hb; replace BK716 := bk_ BK716 hb; replace HB := hs_ hb; (try clear hb); (try clear hb2); (try clear hk); (try clear hi); have hnb48 := NB716_714.out; have hnc48 := NB714_716.out; obtain ⟨hcz49_0, hcz49_1, hfz49_0, hfz49_1⟩ := bz2_ BK716))
  refine bodyPost_ret (results_ct rfl _ _ gb716 24 #[.int .i64 0, .int .i64 0] (0, 0) _ rfl (by (with_reducible repeat (first | refine blk_drewN ?_ _ | refine blk_drew ?_ | refine blk_alloc ?_ _)); refine blk_put (cs := #[.int .i64 0, .int .i64 0]) ?_ 1 _ rfl; (with_reducible repeat (first | refine blk_drewN ?_ _ | refine blk_drew ?_ | refine blk_alloc ?_ _)); refine blk_put (cs := #[.int .i64 0, .int .i64 0]) ?_ 0 _ rfl; (with_reducible repeat (first | refine blk_drewN ?_ _ | refine blk_drew ?_ | refine blk_alloc ?_ _)); exact BK716.out) Try.underlying24 rfl (by kernel_rfl)) rfl ?_
  exact ⟨by first | rfl | (simp [errW_none, errW_some] <;> rfl) | (simp [*, errW_none, errW_some] <;> rfl), hb_⟩
end Go.Proofs.Ytckhjehibjdjdaa.P
namespace Go.Proofs.Ytckhjehibjdjdaa.P
open Go.RowKit Go.Proofs.YtckhjehibjdjdaaW.PrintWords Go.Proofs.YtckhjehibjdjdaaW.PrintLast Go.Proofs.YtckhjehibjdjdaaW.PrintMore
attribute [local go_sem] max2_int min2_int max_two min_two max_three min_three max_four min_four
set_option linter.unusedVariables false
set_option linter.unusedSimpArgs false
def elastic_within.f (a0_0 : Int) (a0_1 : Int) (a0_2 : Int) (a0_3 : Int) (a1 : Int) (a2_0 : Int) (a2_1 : Int) : Option (Bool) := (shape_Units.f a0_0 a0_1 a0_2 a0_3 a1).bind fun bt721 => (if bt721.1 ≤ a2_0 then (some (decide (bt721.2.1 ≤ a2_1))) else (some false))
set_option maxHeartbeats 8000000 in
set_option maxRecDepth 100000 in
theorem elastic_within.calls (a0_0 : Int) (a0_1 : Int) (a0_2 : Int) (a0_3 : Int) (a1 : Int) (a2_0 : Int) (a2_1 : Int) (r : Bool) (w : World) (h : elastic_within.f a0_0 a0_1 a0_2 a0_3 a1 a2_0 a2_1 = some r) :
  Calls Try.prog 116 #[.agg #[.int .i64 a0_0, .int .i64 a0_1, .int .i64 a0_2, .int .i64 a0_3], .int .i64 a1, .agg #[.int .i64 a2_0, .int .i64 a2_1]] w fun e w' => e = .returned (.bool r) ∧ Below w.heap.size w w' := by
 have hu27 := Try.underlying27
 have hu24 := Try.underlying24
 have HB := Aside0.mk (Below.refl w.heap.size w)
 have H : ((shape_Units.f a0_0 a0_1 a0_2 a0_3 a1).bind fun bt721 => (if bt721.1 ≤ a2_0 then (some (decide (bt721.2.1 ≤ a2_1))) else (some false))) = some r := h
 clear h
 replace H := Option.bind_eq_some_iff.mp H
 obtain ⟨⟨t721, t722, t723⟩, A40, H⟩ := H
 replace H : (if t721 ≤ a2_0 then (some (decide (t722 ≤ a2_1))) else (some false)) = some r := H
 have A4 := Aside0.mk A40
 clear A40
 by_cases c5 : t721 ≤ a2_0
 ·rw [if_pos c5] at H
  have c5b0 : decide (t721 ≤ a2_0) = true := decide_eq_true c5
  clear c5
  obtain rfl := Option.some.inj H
  go_enter Try.func116, Try.ntmps116
  go_wp2_with (first | ((with_reducible refine gate_dst (N := 3) rfl ?_); refine bx 3 #[.int .i64 a0_0, .int .i64 a0_1, .int .i64 a0_2, .int .i64 a0_3] 27 ?_; intro gb719 hg w6 hbox hb; have BK719 := Aside0.mk (hbox); have GW719 := ge_ hg; have GE719 := ge_ hg; replace HB := hs_ hb; clear hb hbox hg) | ((with_reducible refine gate_dst (N := 5) rfl ?_); refine bx 5 #[.int .i64 a2_0, .int .i64 a2_1] 24 ?_; intro gb720 hg w7 hbox hb; have BK720 := Aside0.mk (hbox); have GW720 := ge_ hg; have GE720 := ge_ hg; have NB719_720 := nl_ BK719 hg; have NB720_719 := nr_ BK719 hg; replace BK719 := bk_ BK719 hb; replace HB := hs_ hb; clear hb hbox hg; have hnb8 := NB719_720.out; have hnc8 := NB720_719.out; obtain ⟨hcz9_0, hcz9_1, hcz9_2, hcz9_3, hfz9_0, hfz9_1, hfz9_2, hfz9_3⟩ := bz4_ BK719) | ((with_reducible refine gate_callee (f := 76) rfl ?_); refine goesL_ (some 12) rfl rfl Try.func76 (by kernel_rfl) rfl #[.agg #[.int .i64 a0_0, .int .i64 a0_1, .int .i64 a0_2, .int .i64 a0_3], .int .i64 a1] rfl Z0 ?_; (with_reducible refine (shape_Units.calls a0_0 a0_1 a0_2 a0_3 a1 t721 t722 t723 _ A4.out).mono ?_); rintro e w10 ⟨rfl, hb⟩; refine ⟨_, rfl, ?_⟩; replace BK719 := bk_ BK719 hb; replace BK720 := bk_ BK720 hb; replace HB := hs_ hb; (try clear hb); (try clear hb2); (try clear hk); (try clear hi)) | ((with_reducible refine gate_dst (N := 7) rfl ?_); refine bx 7 #[.int .i64 0, .int .i64 0] 24 ?_; intro gb724 hg w11 hbox hb; have BK724 := Aside0.mk (hbox); have GW724 := ge_ hg; have GE724 := ge_ hg; have NB719_724 := nl_ BK719 hg; have NB724_719 := nr_ BK719 hg; have NB720_724 := nl_ BK720 hg; have NB724_720 := nr_ BK720 hg; replace BK719 := bk_ BK719 hb; replace BK720 := bk_ BK720 hb; replace HB := hs_ hb; clear hb hbox hg; have hnb12 := NB724_719.out; have hnc12 := NB719_724.out; have hnb13 := NB724_720.out; have hnc13 := NB720_724.out; obtain ⟨hcz14_0, hcz14_1, hfz14_0, hfz14_1⟩ := bz2_ BK724; obtain ⟨hcz15_0, hcz15_1, hfz15_0, hfz15_1⟩ := bz2_ BK720))
  go_ret
  exact ⟨by first | rfl | (simp [errW_none, errW_some] <;> rfl) | (simp [*, errW_none, errW_some] <;> rfl), hb_⟩
 ·rw [if_neg c5] at H
  have c5b0 : decide (t721 ≤ a2_0) = false := decide_eq_false c5
  clear c5
  obtain rfl := Option.some.inj H
  go_enter Try.func116, Try.ntmps116
  go_wp2_with (first | ((with_reducible refine gate_dst (N := 3) rfl ?_); refine bx 3 #[.int .i64 a0_0, .int .i64 a0_1, .int .i64 a0_2, .int .i64 a0_3] 27 ?_; intro gb719 hg w16 hbox hb; have BK719 := Aside0.mk (hbox); have GW719 := ge_ hg; have GE719 := ge_ hg; replace HB := hs_ hb; clear hb hbox hg) | ((with_reducible refine gate_dst (N := 5) rfl ?_); refine bx 5 #[.int .i64 a2_0, .int .i64 a2_1] 24 ?_; intro gb720 hg w17 hbox hb; have BK720 := Aside0.mk (hbox); have GW720 := ge_ hg; have GE720 := ge_ hg; have NB719_720 := nl_ BK719 hg; have NB720_719 := nr_ BK719 hg; replace BK719 := bk_ BK719 hb; replace HB := hs_ hb; clear hb hbox hg; have hnb18 := NB719_720.out; have hnc18 := NB720_719.out; obtain ⟨hcz19_0, hcz19_1, hcz19_2, hcz19_3, hfz19_0, hfz19_1, hfz19_2, hfz19_3⟩ := bz4_ BK719) | ((with_reducible refine gate_callee (f := 76) rfl ?_); refine goesL_ (some 12) rfl rfl Try.func76 (by kernel_rfl) rfl #[.agg #[.int .i64 a0_0, .int .i64 a0_1, .int .i64 a0_2, .int .i64 a0_3], .int .i64 a1] rfl Z0 ?_; (with_reducible refine (shape_Units.calls a0_0 a0_1 a0_2 a0_3 a1 t721 t722 t723 _ A4.out).mono ?_); rintro e w20 ⟨rfl, hb⟩; refine ⟨_, rfl, ?_⟩; replace BK719 := bk_ BK719 hb; replace BK720 := bk_ BK720 hb; replace HB := hs_ hb; (try clear hb); (try clear hb2); (try clear hk); (try clear hi)) | ((with_reducible refine gate_dst (N := 7) rfl ?_); refine bx 7 #[.int .i64 0, .int .i64 0] 24 ?_; intro gb724 hg w21 hbox hb; have BK724 := Aside0.mk (hbox); have GW724 := ge_ hg; have GE724 := ge_ hg; have NB719_724 := nl_ BK719 hg; have NB724_719 := nr_ BK719 hg; have NB720_724 := nl_ BK720 hg; have NB724_720 := nr_ BK720 hg; replace BK719 := bk_ BK719 hb; replace BK720 := bk_ BK720 hb; replace HB := hs_ hb; clear hb hbox hg; have hnb22 := NB724_719.out; have hnc22 := NB719_724.out; have hnb23 := NB724_720.out; have hnc23 := NB720_724.out; obtain ⟨hcz24_0, hcz24_1, hfz24_0, hfz24_1⟩ := bz2_ BK724; obtain ⟨hcz25_0, hcz25_1, hfz25_0, hfz25_1⟩ := bz2_ BK720))
  go_ret
  exact ⟨by first | rfl | (simp [errW_none, errW_some] <;> rfl) | (simp [*, errW_none, errW_some] <;> rfl), hb_⟩
end Go.Proofs.Ytckhjehibjdjdaa.P
namespace Go.Proofs.Ytckhjehibjdjdaa.P
open Go.RowKit Go.Proofs.YtckhjehibjdjdaaW.PrintWords Go.Proofs.YtckhjehibjdjdaaW.PrintLast Go.Proofs.YtckhjehibjdjdaaW.PrintMore
attribute [local go_sem] max2_int min2_int max_two min_two max_three min_three max_four min_four
set_option linter.unusedVariables false
set_option linter.unusedSimpArgs false
def elastic_can.f (k : Nat) (a0_0 : Int) (a0_1 : Int) (a0_2 : Int) (a0_3 : Int) (l0_4 : List (S51)) (l0_5 : List (S24)) (l0_6 : List (S41)) (l0_7 : List (S105)) (l0_8 : List (S149)) (a1_0 : Int) (a1_1 : Int) (a1_2 : Int) (a1_3 : Int) (a2 : Int) (a3_0 : Int) (a3_1 : Int) : Option (Int) := (pack_Room.f k l0_4 a1_0 a1_1 a1_2 a1_3).bind fun t728 => (if t728 < a2 then (some 7) else ((elastic_within.f a1_0 a1_1 a1_2 a1_3 a2 a3_0 a3_1).bind fun t729 => (if t729 = true then (some 0) else (some 6))))
set_option maxHeartbeats 8000000 in
set_option maxRecDepth 100000 in
theorem elastic_can.calls (k : Nat) (a0_0 : Int) (a0_1 : Int) (a0_2 : Int) (a0_3 : Int) (A0_4 : Option Addr) (c0_4 : Nat) (l0_4 : List (S51)) (A0_5 : Option Addr) (c0_5 : Nat) (l0_5 : List (S24)) (A0_6 : Option Addr) (c0_6 : Nat) (l0_6 : List (S41)) (A0_7 : Option Addr) (c0_7 : Nat) (l0_7 : List (S105)) (A0_8 : Option Addr) (c0_8 : Nat) (l0_8 : List (S149)) (a1_0 : Int) (a1_1 : Int) (a1_2 : Int) (a1_3 : Int) (a2 : Int) (a3_0 : Int) (a3_1 : Int) (r : Int) (w : World) (hr0_4 : Kd.C k51 w A0_4 l0_4.length l0_4) (hc0_4 : l0_4.length ≤ c0_4) (hr0_5 : Kd.C k24 w A0_5 l0_5.length l0_5) (hc0_5 : l0_5.length ≤ c0_5) (hr0_6 : Kd.C k41 w A0_6 l0_6.length l0_6) (hc0_6 : l0_6.length ≤ c0_6) (hr0_7 : Kd.C k105 w A0_7 l0_7.length l0_7) (hc0_7 : l0_7.length ≤ c0_7) (hr0_8 : Kd.C k149 w A0_8 l0_8.length l0_8) (hc0_8 : l0_8.length ≤ c0_8) (h : elastic_can.f k a0_0 a0_1 a0_2 a0_3 l0_4 l0_5 l0_6 l0_7 l0_8 a1_0 a1_1 a1_2 a1_3 a2 a3_0 a3_1 = some r) :
  Calls Try.prog 94 #[.agg #[.int .i64 a0_0, .int .i64 a0_1, .int .i64 a0_2, .int .i64 a0_3, .slice A0_4 l0_4.length c0_4, .slice A0_5 l0_5.length c0_5, .slice A0_6 l0_6.length c0_6, .slice A0_7 l0_7.length c0_7, .slice A0_8 l0_8.length c0_8], .agg #[.int .i64 a1_0, .int .i64 a1_1, .int .i64 a1_2, .int .i64 a1_3], .int .i64 a2, .agg #[.int .i64 a3_0, .int .i64 a3_1]] w fun e w' => e = .returned (.int .i64 r) ∧ Below w.heap.size w w' := by
 have hu86 := Try.underlying86
 have hu27 := Try.underlying27
 have hu24 := Try.underlying24
 have HR0_4 := Aside0.mk hr0_4
 have HC0_4 := Aside0.mk hc0_4
 clear hr0_4 hc0_4
 have HR0_5 := Aside0.mk hr0_5
 have HC0_5 := Aside0.mk hc0_5
 clear hr0_5 hc0_5
 have HR0_6 := Aside0.mk hr0_6
 have HC0_6 := Aside0.mk hc0_6
 clear hr0_6 hc0_6
 have HR0_7 := Aside0.mk hr0_7
 have HC0_7 := Aside0.mk hc0_7
 clear hr0_7 hc0_7
 have HR0_8 := Aside0.mk hr0_8
 have HC0_8 := Aside0.mk hc0_8
 clear hr0_8 hc0_8
 have HB := Aside0.mk (Below.refl w.heap.size w)
 have H : ((pack_Room.f k l0_4 a1_0 a1_1 a1_2 a1_3).bind fun t728 => (if t728 < a2 then (some 7) else ((elastic_within.f a1_0 a1_1 a1_2 a1_3 a2 a3_0 a3_1).bind fun t729 => (if t729 = true then (some 0) else (some 6))))) = some r := h
 clear h
 replace H := Option.bind_eq_some_iff.mp H
 obtain ⟨t728, A50, H⟩ := H
 replace H : (if t728 < a2 then (some 7) else ((elastic_within.f a1_0 a1_1 a1_2 a1_3 a2 a3_0 a3_1).bind fun t729 => (if t729 = true then (some 0) else (some 6)))) = some r := H
 have A5 := Aside0.mk A50
 clear A50
 by_cases c6 : t728 < a2
 ·rw [if_pos c6] at H
  have c6b0 : decide (t728 < a2) = true := decide_eq_true c6
  clear c6
  obtain rfl := Option.some.inj H
  go_enter Try.func94, Try.ntmps94
  go_wp2_with (first | ((with_reducible refine gate_dst (N := 4) rfl ?_); refine bx 4 #[.int .i64 a0_0, .int .i64 a0_1, .int .i64 a0_2, .int .i64 a0_3, .slice A0_4 l0_4.length c0_4, .slice A0_5 l0_5.length c0_5, .slice A0_6 l0_6.length c0_6, .slice A0_7 l0_7.length c0_7, .slice A0_8 l0_8.length c0_8] 86 ?_; intro gb725 hg w7 hbox hb; have BK725 := Aside0.mk (hbox); have GW725 := ge_ hg; have GE725 := ge_ hg; replace HB := hs_ hb; clear hb hbox hg) | ((with_reducible refine gate_dst (N := 5) rfl ?_); refine bx 5 #[.int .i64 a1_0, .int .i64 a1_1, .int .i64 a1_2, .int .i64 a1_3] 27 ?_; intro gb726 hg w8 hbox hb; have BK726 := Aside0.mk (hbox); have GW726 := ge_ hg; have GE726 := ge_ hg; have NB725_726 := nl_ BK725 hg; have NB726_725 := nr_ BK725 hg; replace BK725 := bk_ BK725 hb; replace HB := hs_ hb; clear hb hbox hg) | ((with_reducible refine gate_dst (N := 7) rfl ?_); refine bx 7 #[.int .i64 a3_0, .int .i64 a3_1] 24 ?_; intro gb727 hg w9 hbox hb; have BK727 := Aside0.mk (hbox); have GW727 := ge_ hg; have GE727 := ge_ hg; have NB725_727 := nl_ BK725 hg; have NB727_725 := nr_ BK725 hg; have NB726_727 := nl_ BK726 hg; have NB727_726 := nr_ BK726 hg; replace BK725 := bk_ BK725 hb; replace BK726 := bk_ BK726 hb; replace HB := hs_ hb; clear hb hbox hg; have hnb10 := NB725_726.out; have hnc10 := NB726_725.out; have hnb11 := NB725_727.out; have hnc11 := NB727_725.out; obtain ⟨hcz12_0, hcz12_1, hcz12_2, hcz12_3, hcz12_4, hcz12_5, hcz12_6, hcz12_7, hcz12_8, hfz12_0, hfz12_1, hfz12_2, hfz12_3, hfz12_4, hfz12_5, hfz12_6, hfz12_7, hfz12_8⟩ := bz9_ BK725; have hnb13 := NB726_727.out; have hnc13 := NB727_726.out; obtain ⟨hcz14_0, hcz14_1, hcz14_2, hcz14_3, hfz14_0, hfz14_1, hfz14_2, hfz14_3⟩ := bz4_ BK726) | ((with_reducible refine gate_callee (f := 50) rfl ?_); refine goesL_ (some 13) rfl rfl Try.func50 (by kernel_rfl) rfl #[.slice A0_4 l0_4.length c0_4, .agg #[.int .i64 a1_0, .int .i64 a1_1, .int .i64 a1_2, .int .i64 a1_3]] rfl Z0 ?_; (with_reducible refine (pack_Room.calls k _ _ l0_4 a1_0 a1_1 a1_2 a1_3 t728 _ ?side1 ?side2 A5.out).mono ?_); (case side1 => exact cs_ HR0_4); (case side2 => exact HC0_4.out); rintro e w15 ⟨rfl, hb⟩; refine ⟨_, rfl, ?_⟩; replace BK725 := bk_ BK725 hb; replace BK726 := bk_ BK726 hb; replace BK727 := bk_ BK727 hb; replace HB := hs_ hb; (try clear hb); (try clear hb2); (try clear hk); (try clear hi)))
  go_ret
  exact ⟨by first | rfl | (simp [errW_none, errW_some] <;> rfl) | (simp [*, errW_none, errW_some] <;> rfl), hb_⟩
 ·rw [if_neg c6] at H
  have c6b0 : decide (t728 < a2) = false := decide_eq_false c6
  clear c6
  replace H := Option.bind_eq_some_iff.mp H
  obtain ⟨t729, A160, H⟩ := H
  replace H : (if t729 = true then (some 0) else (some 6)) = some r := H
  have A16 := Aside0.mk A160
  clear A160
  by_cases c17 : t729 = true
  ·subst c17
   have H1 : (some 0) = some r := by rw [if_pos rfl] at H; exact H
   clear H
   have H := H1
   clear H1
   obtain rfl := Option.some.inj H
   go_enter Try.func94, Try.ntmps94
   go_wp2_with (first | ((with_reducible refine gate_dst (N := 4) rfl ?_); refine bx 4 #[.int .i64 a0_0, .int .i64 a0_1, .int .i64 a0_2, .int .i64 a0_3, .slice A0_4 l0_4.length c0_4, .slice A0_5 l0_5.length c0_5, .slice A0_6 l0_6.length c0_6, .slice A0_7 l0_7.length c0_7, .slice A0_8 l0_8.length c0_8] 86 ?_; intro gb725 hg w18 hbox hb; have BK725 := Aside0.mk (hbox); have GW725 := ge_ hg; have GE725 := ge_ hg; replace HB := hs_ hb; clear hb hbox hg) | ((with_reducible refine gate_dst (N := 5) rfl ?_); refine bx 5 #[.int .i64 a1_0, .int .i64 a1_1, .int .i64 a1_2, .int .i64 a1_3] 27 ?_; intro gb726 hg w19 hbox hb; have BK726 := Aside0.mk (hbox); have GW726 := ge_ hg; have GE726 := ge_ hg; have NB725_726 := nl_ BK725 hg; have NB726_725 := nr_ BK725 hg; replace BK725 := bk_ BK725 hb; replace HB := hs_ hb; clear hb hbox hg) | ((with_reducible refine gate_dst (N := 7) rfl ?_); refine bx 7 #[.int .i64 a3_0, .int .i64 a3_1] 24 ?_; intro gb727 hg w20 hbox hb; have BK727 := Aside0.mk (hbox); have GW727 := ge_ hg; have GE727 := ge_ hg; have NB725_727 := nl_ BK725 hg; have NB727_725 := nr_ BK725 hg; have NB726_727 := nl_ BK726 hg; have NB727_726 := nr_ BK726 hg; replace BK725 := bk_ BK725 hb; replace BK726 := bk_ BK726 hb; replace HB := hs_ hb; clear hb hbox hg; have hnb21 := NB725_726.out; have hnc21 := NB726_725.out; have hnb22 := NB725_727.out; have hnc22 := NB727_725.out; obtain ⟨hcz23_0, hcz23_1, hcz23_2, hcz23_3, hcz23_4, hcz23_5, hcz23_6, hcz23_7, hcz23_8, hfz23_0, hfz23_1, hfz23_2, hfz23_3, hfz23_4, hfz23_5, hfz23_6, hfz23_7, hfz23_8⟩ := bz9_ BK725; have hnb24 := NB726_727.out; have hnc24 := NB727_726.out; obtain ⟨hcz25_0, hcz25_1, hcz25_2, hcz25_3, hfz25_0, hfz25_1, hfz25_2, hfz25_3⟩ := bz4_ BK726) | ((with_reducible refine gate_callee (f := 50) rfl ?_); refine goesL_ (some 13) rfl rfl Try.func50 (by kernel_rfl) rfl #[.slice A0_4 l0_4.length c0_4, .agg #[.int .i64 a1_0, .int .i64 a1_1, .int .i64 a1_2, .int .i64 a1_3]] rfl Z0 ?_; (with_reducible refine (pack_Room.calls k _ _ l0_4 a1_0 a1_1 a1_2 a1_3 t728 _ ?side1 ?side2 A5.out).mono ?_); (case side1 => exact cs_ HR0_4); (case side2 => exact HC0_4.out); rintro e w26 ⟨rfl, hb⟩; refine ⟨_, rfl, ?_⟩; replace BK725 := bk_ BK725 hb; replace BK726 := bk_ BK726 hb; replace BK727 := bk_ BK727 hb; replace HB := hs_ hb; (try clear hb); (try clear hb2); (try clear hk); (try clear hi); obtain ⟨hcz27_0, hcz27_1, hcz27_2, hcz27_3, hfz27_0, hfz27_1, hfz27_2, hfz27_3⟩ := bz4_ BK726; obtain ⟨hcz28_0, hcz28_1, hfz28_0, hfz28_1⟩ := bz2_ BK727) | ((with_reducible refine gate_callee (f := 116) rfl ?_); refine goesL_ (some 20) rfl rfl Try.func116 (by kernel_rfl) rfl #[.agg #[.int .i64 a1_0, .int .i64 a1_1, .int .i64 a1_2, .int .i64 a1_3], .int .i64 a2, .agg #[.int .i64 a3_0, .int .i64 a3_1]] rfl Z0 ?_; (with_reducible refine (elastic_within.calls a1_0 a1_1 a1_2 a1_3 a2 a3_0 a3_1 true _ A16.out).mono ?_); rintro e w29 ⟨rfl, hb⟩; refine ⟨_, rfl, ?_⟩; replace BK725 := bk_ BK725 hb; replace BK726 := bk_ BK726 hb; replace BK727 := bk_ BK727 hb; replace HB := hs_ hb; (try clear hb); (try clear hb2); (try clear hk); (try clear hi)))
   go_ret
   exact ⟨by first | rfl | (simp [errW_none, errW_some] <;> rfl) | (simp [*, errW_none, errW_some] <;> rfl), hb_⟩
  ·replace c17 := Bool.eq_false_iff.mpr c17
   subst c17
   have H1 : (some 6) = some r := by rw [if_neg (show ¬ (false = true) by decide)] at H; exact H
   clear H
   have H := H1
   clear H1
   obtain rfl := Option.some.inj H
   go_enter Try.func94, Try.ntmps94
   go_wp2_with (first | ((with_reducible refine gate_dst (N := 4) rfl ?_); refine bx 4 #[.int .i64 a0_0, .int .i64 a0_1, .int .i64 a0_2, .int .i64 a0_3, .slice A0_4 l0_4.length c0_4, .slice A0_5 l0_5.length c0_5, .slice A0_6 l0_6.length c0_6, .slice A0_7 l0_7.length c0_7, .slice A0_8 l0_8.length c0_8] 86 ?_; intro gb725 hg w30 hbox hb; have BK725 := Aside0.mk (hbox); have GW725 := ge_ hg; have GE725 := ge_ hg; replace HB := hs_ hb; clear hb hbox hg) | ((with_reducible refine gate_dst (N := 5) rfl ?_); refine bx 5 #[.int .i64 a1_0, .int .i64 a1_1, .int .i64 a1_2, .int .i64 a1_3] 27 ?_; intro gb726 hg w31 hbox hb; have BK726 := Aside0.mk (hbox); have GW726 := ge_ hg; have GE726 := ge_ hg; have NB725_726 := nl_ BK725 hg; have NB726_725 := nr_ BK725 hg; replace BK725 := bk_ BK725 hb; replace HB := hs_ hb; clear hb hbox hg) | ((with_reducible refine gate_dst (N := 7) rfl ?_); refine bx 7 #[.int .i64 a3_0, .int .i64 a3_1] 24 ?_; intro gb727 hg w32 hbox hb; have BK727 := Aside0.mk (hbox); have GW727 := ge_ hg; have GE727 := ge_ hg; have NB725_727 := nl_ BK725 hg; have NB727_725 := nr_ BK725 hg; have NB726_727 := nl_ BK726 hg; have NB727_726 := nr_ BK726 hg; replace BK725 := bk_ BK725 hb; replace BK726 := bk_ BK726 hb; replace HB := hs_ hb; clear hb hbox hg; have hnb33 := NB725_726.out; have hnc33 := NB726_725.out; have hnb34 := NB725_727.out; have hnc34 := NB727_725.out; obtain ⟨hcz35_0, hcz35_1, hcz35_2, hcz35_3, hcz35_4, hcz35_5, hcz35_6, hcz35_7, hcz35_8, hfz35_0, hfz35_1, hfz35_2, hfz35_3, hfz35_4, hfz35_5, hfz35_6, hfz35_7, hfz35_8⟩ := bz9_ BK725; have hnb36 := NB726_727.out; have hnc36 := NB727_726.out; obtain ⟨hcz37_0, hcz37_1, hcz37_2, hcz37_3, hfz37_0, hfz37_1, hfz37_2, hfz37_3⟩ := bz4_ BK726) | ((with_reducible refine gate_callee (f := 50) rfl ?_); refine goesL_ (some 13) rfl rfl Try.func50 (by kernel_rfl) rfl #[.slice A0_4 l0_4.length c0_4, .agg #[.int .i64 a1_0, .int .i64 a1_1, .int .i64 a1_2, .int .i64 a1_3]] rfl Z0 ?_; (with_reducible refine (pack_Room.calls k _ _ l0_4 a1_0 a1_1 a1_2 a1_3 t728 _ ?side1 ?side2 A5.out).mono ?_); (case side1 => exact cs_ HR0_4); (case side2 => exact HC0_4.out); rintro e w38 ⟨rfl, hb⟩; refine ⟨_, rfl, ?_⟩; replace BK725 := bk_ BK725 hb; replace BK726 := bk_ BK726 hb; replace BK727 := bk_ BK727 hb; replace HB := hs_ hb; (try clear hb); (try clear hb2); (try clear hk); (try clear hi); obtain ⟨hcz39_0, hcz39_1, hcz39_2, hcz39_3, hfz39_0, hfz39_1, hfz39_2, hfz39_3⟩ := bz4_ BK726; obtain ⟨hcz40_0, hcz40_1, hfz40_0, hfz40_1⟩ := bz2_ BK727) | ((with_reducible refine gate_callee (f := 116) rfl ?_); refine goesL_ (some 20) rfl rfl Try.func116 (by kernel_rfl) rfl #[.agg #[.int .i64 a1_0, .int .i64 a1_1, .int .i64 a1_2, .int .i64 a1_3], .int .i64 a2, .agg #[.int .i64 a3_0, .int .i64 a3_1]] rfl Z0 ?_; (with_reducible refine (elastic_within.calls a1_0 a1_1 a1_2 a1_3 a2 a3_0 a3_1 false _ A16.out).mono ?_); rintro e w41 ⟨rfl, hb⟩; refine ⟨_, rfl, ?_⟩; replace BK725 := bk_ BK725 hb; replace BK726 := bk_ BK726 hb; replace BK727 := bk_ BK727 hb; replace HB := hs_ hb; (try clear hb); (try clear hb2); (try clear hk); (try clear hi)))
   go_ret
   exact ⟨by first | rfl | (simp [errW_none, errW_some] <;> rfl) | (simp [*, errW_none, errW_some] <;> rfl), hb_⟩
end Go.Proofs.Ytckhjehibjdjdaa.P
namespace Go.Proofs.Ytckhjehibjdjdaa.P
open Go.RowKit Go.Shelf Go.Proofs.YtckhjehibjdjdaaW.PrintWords Go.Proofs.YtckhjehibjdjdaaW.PrintLast Go.Proofs.YtckhjehibjdjdaaW.PrintMore
open Go.Proofs.Ytckhjehibjdjdaa.RF
attribute [local go_sem] Oper.semAt_some
set_option linter.unusedVariables false
set_option linter.unusedSimpArgs false
def withB (g c n lg lc : Int) : Bool := decide (g * n ≤ lg) && decide (c * n ≤ lc)
def canB (view : List S51) (g c mn mx n lg lc : Int) : Int := if roomS g c mn mx view < n then 7 else if withB g c n lg lc = true then 0 else 6
theorem can_eq (k : Nat) (a0 a1 a2 a3 : Int) (view : List S51) (l5 : List S24) (l6 : List S41) (l7 : List S105) (l8 : List S149) (g c mn mx n lg lc : Int) (hk : view.length + 1 ≤ k) (hl : view.length ≤ 1000000) (hv : ∀ f ∈ view, freeOk f = true)
  (hg : goodShape g c mn mx = true) (h0 : 0 ≤ n) (h1 : n ≤ 16) : elastic_can.f k a0 a1 a2 a3 view l5 l6 l7 l8 g c mn mx n lg lc = some (canB view g c mn mx n lg lc) := by
 have hb := good_out0 hg
 have e1 : wrap64 (g * n) = g * n := by
  have : 0 ≤ g * n := Int.mul_nonneg hb.1 h0
  have : g * n ≤ 16 * 16 := Int.mul_le_mul hb.2.1 h1 h0 (by decide)
  unfold wrap64; omega
 have e2 : wrap64 (c * n) = c * n := by
  have : 0 ≤ c * n := Int.mul_nonneg hb.2.2.1 h0
  have : c * n ≤ 1024 * 16 := Int.mul_le_mul hb.2.2.2 h1 h0 (by decide)
  unfold wrap64; omega
 unfold elastic_can.f
 rw [room_eq k view g c mn mx hk (by omega) hv, Option.bind_some]
 unfold canB
 by_cases hr : roomS g c mn mx view < n
 ·rw [if_pos hr, if_pos hr]
 rw [if_neg hr, if_neg hr]
 unfold elastic_within.f shape_Units.f shape_Check.f
 rw [if_pos hg, Option.bind_some, if_pos rfl, if_neg (by omega), if_neg (by omega), Option.bind_some]
 simp only [e1, e2]
 unfold withB
 by_cases h2 : g * n ≤ lg
 ·rw [if_pos h2, Option.bind_some, decide_eq_true h2, Bool.true_and]
  by_cases h3 : c * n ≤ lc
  ·rw [decide_eq_true h3, if_pos rfl, if_pos rfl]
  ·rw [decide_eq_false h3, if_neg (by decide), if_neg (by decide)]
 ·rw [if_neg h2, Option.bind_some, decide_eq_false h2, Bool.false_and, if_neg (by decide), if_neg (by decide)]
def leftB (left : List S24) (q g c mn mx : Int) : Int × Int × Int :=
 if goodShape g c mn mx = true then (if 0 ≤ q ∧ q < left.length then ((rd_T24 left q).f0, (rd_T24 left q).f1, 0) else (0, 0, 3)) else (0, 0, 1)
theorem left_eq0 (a0 a1 a2 a3 : Int) (view : List S51) (l5 : List S24) (l6 : List S41) (l7 : List S105) (l8 : List S149) (b0 q b2 b3 g c mn mx : Int) :
  elastic_left.f a0 a1 a2 a3 view l5 l6 l7 l8 b0 q b2 b3 g c mn mx = some (leftB l5 q g c mn mx) := by
 unfold elastic_left.f shape_Check.f leftB
 by_cases hg : goodShape g c mn mx = true
 ·rw [if_pos hg, Option.bind_some, if_pos rfl, if_pos hg]
  by_cases h0 : q < 0
  ·rw [if_pos h0, if_neg (by omega)]
  ·rw [if_neg h0]
   by_cases h1 : q ≥ (l5.length : Int)
   ·rw [if_pos h1, if_neg (by omega)]
   ·rw [if_neg h1, if_pos (by omega), if_pos (by omega), if_pos ⟨by omega, by omega⟩]
 ·rw [if_neg hg, Option.bind_some, if_neg (by decide), if_neg hg]
def firstGo (view : List S51) (g c mn mx lg lc : Int) : Option Int := (downL mx mn).find? fun n => canB view g c mn mx n lg lc == 0
def mostB (view : List S51) (left : List S24) (q g c mn mx : Int) : List S52 × Int :=
 if (leftB left q g c mn mx).2.2 ≠ 0 then ([], (leftB left q g c mn mx).2.2) else
 if canB view g c mn mx mn (leftB left q g c mn mx).1 (leftB left q g c mn mx).2.1 ≠ 0 then ([], canB view g c mn mx mn (leftB left q g c mn mx).1 (leftB left q g c mn mx).2.1) else
 match firstGo view g c mn mx (leftB left q g c mn mx).1 (leftB left q g c mn mx).2.1 with
 | some n => placeB view g c mn mx n
 | none => ([], 7)
def elastic_Most.f (a0_0 : Int) (a0_1 : Int) (a0_2 : Int) (a0_3 : Int) (l0_4 : List (S51)) (l0_5 : List (S24)) (l0_6 : List (S41)) (l0_7 : List (S105)) (l0_8 : List (S149)) (a1_0 : Int) (a1_1 : Int) (a1_2 : Int) (a1_3 : Int) (a1_4 : Int) (a1_5 : Int) (a1_6 : Int) (a1_7 : Int) : Option ((List (S52)) × Int) :=
 if placeOk l0_4 = true then some (mostB l0_4 l0_5 a1_1 a1_4 a1_5 a1_6 a1_7) else none
theorem good_out1 {g c mn mx : Int} (h : goodShape g c mn mx = true) : 1 ≤ mn ∧ mn ≤ mx ∧ mx ≤ 16 := by
 simp only [goodShape, Bool.and_eq_true, decide_eq_true_eq] at h
 omega
theorem R_own {α : Type} {d : Kd α} {e base : Nat} {ok : Nat → Prop} {W W' : World} {v : Value} {xs : List α} (h : d.R e W base ok v xs) {row : Option Nat} (hg : W.grownBy W' row) (hr : ∀ r, row = some r → ∃ o : Obj, W.heap[r]? = some o ∧ o.isCells = false) : d.R e W' base ok v xs := by
 refine Kd.R_mono (Kd.R_move (Kd.R_bound h) (fun k hk => hg.block k hk.2.2.1 (fun he => ?_))) (fun _ hk => hk.1)
 obtain ⟨_, _, _, q, hq, cells, hc⟩ := hk
 obtain ⟨o, ho, hn⟩ := hr k he.symm
 rw [hc] at ho; cases ho; cases hn
theorem blk_own {W W' : World} {g : Nat} {cs : Array Value} {t : TypeId} (h : W.heap[g]? = some (.cells cs t (0, 0))) {row : Option Nat} (hg : W.grownBy W' row) (hr : ∀ r, row = some r → ∃ o : Obj, W.heap[r]? = some o ∧ o.isCells = false) : W'.heap[g]? = some (.cells cs t (0, 0)) := by
 refine (hg.block g (blk_lt h) (fun he => ?_)).trans h
 obtain ⟨o, ho, hn⟩ := hr g he.symm
 rw [h] at ho; cases ho; cases hn
def Stands (w : World) (g4 g5 : Nat) (r : List S52 × Int) (W : World) : Prop :=
 ∃ v, W.heap[g4]? = some (.cells #[v] 39 (0, 0)) ∧ W.heap[g5]? = some (.cells #[.int .i64 r.2] 32 (0, 0)) ∧ Kd.R k52 52 W w.heap.size (fun _ => True) v r.1 ∧ Below w.heap.size w W
theorem Stands.own {w : World} {g4 g5 : Nat} {r : List S52 × Int} {B : Nat} (hB : w.heap.size ≤ B) : OwnFrom B (fun (_ : Unit) W => Stands w g4 g5 r W) := by
 rintro _ A C row ⟨v, h1, h2, h3, h4⟩ hg hr
 have hr' : ∀ r, row = some r → ∃ o : Obj, A.heap[r]? = some o ∧ o.isCells = false := fun r e => (hr r e).2
 exact ⟨v, blk_own h1 hg hr', blk_own h2 hg hr', R_own h3 hg hr', h4.grown hg h4.size (fun k e => Nat.le_trans hB (hr k e).1)⟩
theorem Stands.mark {w : World} {g4 g5 : Nat} {r : List S52 × Int} {W : World} {D : Nat} (h : Stands w g4 g5 r W) (hD : w.heap.size ≤ D) (hK : W.heap[D]? = some (.deferred (some []))) : Stands w g4 g5 r (W.putObj D (.deferred none)) :=
 Stands.own (Nat.le_refl _) () _ _ (some D) h (grownBy_putObj' W D _) (fun r e => by cases e; exact ⟨hD, _, hK, rfl⟩)
theorem results57 {tmps : Array Value} {w : World} {g4 g5 : Nat} {v u : Value} {t t' : TypeId} (h4 : tmps.getD 4 undef = .pointer (some ⟨g4, 0, none⟩)) (h5 : tmps.getD 5 undef = .pointer (some ⟨g5, 0, none⟩))
  (b4 : w.heap[g4]? = some (.cells #[v] t (0, 0))) (b5 : w.heap[g5]? = some (.cells #[u] t' (0, 0))) : (results Try.f57 tmps).run Try.prog w = .ok (.tuple #[v, u]) w := by
 have h4' : tmps[4]?.getD undef = .pointer (some ⟨g4, 0, none⟩) := by simpa using h4
 have h5' : tmps[5]?.getD undef = .pointer (some ⟨g5, 0, none⟩) := by simpa using h5
 have c4 : w.cell? ⟨g4, 0, none⟩ = some v := (blk_cell b4 0).trans rfl
 have c5 : w.cell? ⟨g5, 0, none⟩ = some u := (blk_cell b5 0).trans rfl
 have hu39 := Try.underlying39
 have hu32 := Try.underlying32
 simp [results, Try.f57, go_sem, h4', h5', c4, c5, hu39, hu32]
set_option maxHeartbeats 8000000 in
set_option maxRecDepth 100000 in
theorem most_left (a0_0 : Int) (a0_1 : Int) (a0_2 : Int) (a0_3 : Int) (A0_4 : Option Addr) (c0_4 : Nat) (l0_4 : List (S51)) (A0_5 : Option Addr) (c0_5 : Nat) (l0_5 : List (S24)) (A0_6 : Option Addr) (c0_6 : Nat) (l0_6 : List (S41)) (A0_7 : Option Addr) (c0_7 : Nat) (l0_7 : List (S105)) (A0_8 : Option Addr) (c0_8 : Nat) (l0_8 : List (S149)) (a1_0 : Int) (a1_1 : Int) (a1_2 : Int) (a1_3 : Int) (a1_4 : Int) (a1_5 : Int) (a1_6 : Int) (a1_7 : Int) (lg lc e0 : Int) (w : World) (hr0_4 : Kd.C k51 w A0_4 l0_4.length l0_4) (hc0_4 : l0_4.length ≤ c0_4) (hr0_5 : Kd.C k24 w A0_5 l0_5.length l0_5) (hc0_5 : l0_5.length ≤ c0_5) (hr0_6 : Kd.C k41 w A0_6 l0_6.length l0_6) (hc0_6 : l0_6.length ≤ c0_6) (hr0_7 : Kd.C k105 w A0_7 l0_7.length l0_7) (hc0_7 : l0_7.length ≤ c0_7) (hr0_8 : Kd.C k149 w A0_8 l0_8.length l0_8) (hc0_8 : l0_8.length ≤ c0_8) (hL : elastic_left.f a0_0 a0_1 a0_2 a0_3 l0_4 l0_5 l0_6 l0_7 l0_8 a1_0 a1_1 a1_2 a1_3 a1_4 a1_5 a1_6 a1_7 = some (lg, lc, e0)) (he : e0 ≠ 0) :
  Calls Try.prog 57 #[.agg #[.int .i64 a0_0, .int .i64 a0_1, .int .i64 a0_2, .int .i64 a0_3, .slice A0_4 l0_4.length c0_4, .slice A0_5 l0_5.length c0_5, .slice A0_6 l0_6.length c0_6, .slice A0_7 l0_7.length c0_7, .slice A0_8 l0_8.length c0_8], .agg #[.int .i64 a1_0, .int .i64 a1_1, .int .i64 a1_2, .int .i64 a1_3, .int .i64 a1_4, .int .i64 a1_5, .int .i64 a1_6, .int .i64 a1_7]] w fun e w' => ∃ v0_ : Value, e = .returned (.tuple #[v0_, .int .i64 e0]) ∧ Kd.R k52 52 w' w.heap.size (fun _ => True) v0_ [] ∧ Below w.heap.size w w' := by
 have hu86 := Try.underlying86
 have hu88 := Try.underlying88
 have hu24 := Try.underlying24
 have hu39 := Try.underlying39
 have hu32 := Try.underlying32
 have HR0_4 := Aside0.mk hr0_4
 have HC0_4 := Aside0.mk hc0_4
 clear hr0_4 hc0_4
 have HR0_5 := Aside0.mk hr0_5
 have HC0_5 := Aside0.mk hc0_5
 clear hr0_5 hc0_5
 have HR0_6 := Aside0.mk hr0_6
 have HC0_6 := Aside0.mk hc0_6
 clear hr0_6 hc0_6
 have HR0_7 := Aside0.mk hr0_7
 have HC0_7 := Aside0.mk hc0_7
 clear hr0_7 hc0_7
 have HR0_8 := Aside0.mk hr0_8
 have HC0_8 := Aside0.mk hc0_8
 clear hr0_8 hc0_8
 have HL := Aside0.mk hL
 have HB := Aside0.mk (Below.refl w.heap.size w)
 have t0 : (e0 != 0) = true := by simpa using he
 clear hL he
 refine calls_marks Try.func57 rfl ?_
 simp only [Try.ntmps57, List.size_toArray, List.length_cons, List.length_nil, Nat.reduceAdd, Nat.reduceSub, Array.replicate_succ, Array.replicate_zero, List.push_toArray, List.append_toArray, List.nil_append, List.cons_append]
 go_upto_region 2 with (first | ((with_reducible refine gate_dst (N := 2) rfl ?_); refine bx 2 #[.int .i64 a0_0, .int .i64 a0_1, .int .i64 a0_2, .int .i64 a0_3, .slice A0_4 l0_4.length c0_4, .slice A0_5 l0_5.length c0_5, .slice A0_6 l0_6.length c0_6, .slice A0_7 l0_7.length c0_7, .slice A0_8 l0_8.length c0_8] 86 ?_; intro g2 hgg2 wg2 hxg2 hbg2; have Gg2 : w.heap.size ≤ g2 := Z17; replace HB := Aside0.mk (below_step HB.out hbg2); have HXg2 := Aside0.mk hxg2; clear hgg2 hxg2 hbg2) | ((with_reducible refine gate_dst (N := 3) rfl ?_); refine bx 3 #[.int .i64 a1_0, .int .i64 a1_1, .int .i64 a1_2, .int .i64 a1_3, .int .i64 a1_4, .int .i64 a1_5, .int .i64 a1_6, .int .i64 a1_7] 88 ?_; intro g3 hgg3 wg3 hxg3 hbg3; have Ng2_g3 := Aside0.mk (show g2 ≠ g3 from by have := blk_lt HXg2.out; omega); replace HXg2 := Aside0.mk (blk_below HXg2.out hbg3); have Gg3 : w.heap.size ≤ g3 := Z17; replace HB := Aside0.mk (below_step HB.out hbg3); have HXg3 := Aside0.mk hxg3; clear hgg3 hxg3 hbg3) | ((with_reducible refine gate_dst (N := 4) rfl ?_); refine bx 4 #[.slice none 0 0] 39 ?_; intro g4 hgg4 wg4 hxg4 hbg4; have Ng2_g4 := Aside0.mk (show g2 ≠ g4 from by have := blk_lt HXg2.out; omega); have Ng3_g4 := Aside0.mk (show g3 ≠ g4 from by have := blk_lt HXg3.out; omega); replace HXg2 := Aside0.mk (blk_below HXg2.out hbg4); replace HXg3 := Aside0.mk (blk_below HXg3.out hbg4); have Gg4 : w.heap.size ≤ g4 := Z17; replace HB := Aside0.mk (below_step HB.out hbg4); have HXg4 := Aside0.mk hxg4; clear hgg4 hxg4 hbg4) | ((with_reducible refine gate_dst (N := 5) rfl ?_); refine bx 5 #[.int .i64 0] 32 ?_; intro g5 hgg5 wg5 hxg5 hbg5; have Ng2_g5 := Aside0.mk (show g2 ≠ g5 from by have := blk_lt HXg2.out; omega); have Ng3_g5 := Aside0.mk (show g3 ≠ g5 from by have := blk_lt HXg3.out; omega); have Ng4_g5 := Aside0.mk (show g4 ≠ g5 from by have := blk_lt HXg4.out; omega); replace HXg2 := Aside0.mk (blk_below HXg2.out hbg5); replace HXg3 := Aside0.mk (blk_below HXg3.out hbg5); replace HXg4 := Aside0.mk (blk_below HXg4.out hbg5); have Gg5 : w.heap.size ≤ g5 := Z17; replace HB := Aside0.mk (below_step HB.out hbg5); have HXg5 := Aside0.mk hxg5; clear hgg5 hxg5 hbg5; have cg2_0 : wg5.cell? ⟨g2, 0, none⟩ = some (.int .i64 a0_0) := (blk_cell HXg2.out 0).trans rfl; have cg2_1 : wg5.cell? ⟨g2, 1, none⟩ = some (.int .i64 a0_1) := (blk_cell HXg2.out 1).trans rfl; have cg2_2 : wg5.cell? ⟨g2, 2, none⟩ = some (.int .i64 a0_2) := (blk_cell HXg2.out 2).trans rfl; have cg2_3 : wg5.cell? ⟨g2, 3, none⟩ = some (.int .i64 a0_3) := (blk_cell HXg2.out 3).trans rfl; have cg2_4 : wg5.cell? ⟨g2, 4, none⟩ = some (.slice A0_4 l0_4.length c0_4) := (blk_cell HXg2.out 4).trans rfl; have cg2_5 : wg5.cell? ⟨g2, 5, none⟩ = some (.slice A0_5 l0_5.length c0_5) := (blk_cell HXg2.out 5).trans rfl; have cg2_6 : wg5.cell? ⟨g2, 6, none⟩ = some (.slice A0_6 l0_6.length c0_6) := (blk_cell HXg2.out 6).trans rfl; have cg2_7 : wg5.cell? ⟨g2, 7, none⟩ = some (.slice A0_7 l0_7.length c0_7) := (blk_cell HXg2.out 7).trans rfl; have cg2_8 : wg5.cell? ⟨g2, 8, none⟩ = some (.slice A0_8 l0_8.length c0_8) := (blk_cell HXg2.out 8).trans rfl; have cg3_0 : wg5.cell? ⟨g3, 0, none⟩ = some (.int .i64 a1_0) := (blk_cell HXg3.out 0).trans rfl; have cg3_1 : wg5.cell? ⟨g3, 1, none⟩ = some (.int .i64 a1_1) := (blk_cell HXg3.out 1).trans rfl; have cg3_2 : wg5.cell? ⟨g3, 2, none⟩ = some (.int .i64 a1_2) := (blk_cell HXg3.out 2).trans rfl; have cg3_3 : wg5.cell? ⟨g3, 3, none⟩ = some (.int .i64 a1_3) := (blk_cell HXg3.out 3).trans rfl; have cg3_4 : wg5.cell? ⟨g3, 4, none⟩ = some (.int .i64 a1_4) := (blk_cell HXg3.out 4).trans rfl; have cg3_5 : wg5.cell? ⟨g3, 5, none⟩ = some (.int .i64 a1_5) := (blk_cell HXg3.out 5).trans rfl; have cg3_6 : wg5.cell? ⟨g3, 6, none⟩ = some (.int .i64 a1_6) := (blk_cell HXg3.out 6).trans rfl; have cg3_7 : wg5.cell? ⟨g3, 7, none⟩ = some (.int .i64 a1_7) := (blk_cell HXg3.out 7).trans rfl) | (go_at_call 93; refine (elastic_left.calls a0_0 a0_1 a0_2 a0_3 _ _ l0_4 _ _ l0_5 _ _ l0_6 _ _ l0_7 _ _ l0_8 a1_0 a1_1 a1_2 a1_3 a1_4 a1_5 a1_6 a1_7 lg lc e0 _ (Kd.C_below HR0_4.out (HB.out)) HC0_4.out (Kd.C_below HR0_5.out (HB.out)) HC0_5.out (Kd.C_below HR0_6.out (HB.out)) HC0_6.out (Kd.C_below HR0_7.out (HB.out)) HC0_7.out (Kd.C_below HR0_8.out (HB.out)) HC0_8.out HL.out).mono ?_; rintro e w7 ⟨rfl, hb7⟩; clear cg2_0 cg2_1 cg2_2 cg2_3 cg2_4 cg2_5 cg2_6 cg2_7 cg2_8 cg3_0 cg3_1 cg3_2 cg3_3 cg3_4 cg3_5 cg3_6 cg3_7; replace HXg2 := Aside0.mk (blk_below HXg2.out hb7); replace HXg3 := Aside0.mk (blk_below HXg3.out hb7); replace HXg4 := Aside0.mk (blk_below HXg4.out hb7); replace HXg5 := Aside0.mk (blk_below HXg5.out hb7); replace HB := Aside0.mk (below_step HB.out hb7); clear hb7) | ((with_reducible refine gate_dst (N := 6) rfl ?_); refine bx 6 #[.int .i64 0, .int .i64 0] 24 ?_; intro g6 hgg6 wg6 hxg6 hbg6; have Ng2_g6 := Aside0.mk (show g2 ≠ g6 from by have := blk_lt HXg2.out; omega); have Ng3_g6 := Aside0.mk (show g3 ≠ g6 from by have := blk_lt HXg3.out; omega); have Ng4_g6 := Aside0.mk (show g4 ≠ g6 from by have := blk_lt HXg4.out; omega); have Ng5_g6 := Aside0.mk (show g5 ≠ g6 from by have := blk_lt HXg5.out; omega); replace HXg2 := Aside0.mk (blk_below HXg2.out hbg6); replace HXg3 := Aside0.mk (blk_below HXg3.out hbg6); replace HXg4 := Aside0.mk (blk_below HXg4.out hbg6); replace HXg5 := Aside0.mk (blk_below HXg5.out hbg6); have Gg6 : w.heap.size ≤ g6 := Z17; replace HB := Aside0.mk (below_step HB.out hbg6); have HXg6 := Aside0.mk hxg6; clear hgg6 hxg6 hbg6; have zg6_0 : wg6.frozen? ⟨g6, 0, none⟩ = false := blk_frozen HXg6.out 0; have zg6_1 : wg6.frozen? ⟨g6, 1, none⟩ = false := blk_frozen HXg6.out 1; have cg6_0 : wg6.cell? ⟨g6, 0, none⟩ = some (.int .i64 0) := (blk_cell HXg6.out 0).trans rfl; have cg6_1 : wg6.cell? ⟨g6, 1, none⟩ = some (.int .i64 0) := (blk_cell HXg6.out 1).trans rfl))
 obtain ⟨wB, hwB⟩ : ∃ wB, wB = (wg6.setCell ⟨g6, 0, none⟩ (.int .i64 lg)).setCell ⟨g6, 1, none⟩ (.int .i64 lc) := ⟨_, rfl⟩
 rw [← hwB]
 have hxg2 : wB.heap[g2]? = some (.cells #[.int .i64 a0_0, .int .i64 a0_1, .int .i64 a0_2, .int .i64 a0_3, .slice A0_4 l0_4.length c0_4, .slice A0_5 l0_5.length c0_5, .slice A0_6 l0_6.length c0_6, .slice A0_7 l0_7.length c0_7, .slice A0_8 l0_8.length c0_8] 86 (0, 0)) := by rw [hwB]; exact blk_far (blk_far HXg2.out (Ng2_g6.out) _) (Ng2_g6.out) _
 have hxg3 : wB.heap[g3]? = some (.cells #[.int .i64 a1_0, .int .i64 a1_1, .int .i64 a1_2, .int .i64 a1_3, .int .i64 a1_4, .int .i64 a1_5, .int .i64 a1_6, .int .i64 a1_7] 88 (0, 0)) := by rw [hwB]; exact blk_far (blk_far HXg3.out (Ng3_g6.out) _) (Ng3_g6.out) _
 have hxg4 : wB.heap[g4]? = some (.cells #[.slice none 0 0] 39 (0, 0)) := by rw [hwB]; exact blk_far (blk_far HXg4.out (Ng4_g6.out) _) (Ng4_g6.out) _
 have hxg5 : wB.heap[g5]? = some (.cells #[.int .i64 0] 32 (0, 0)) := by rw [hwB]; exact blk_far (blk_far HXg5.out (Ng5_g6.out) _) (Ng5_g6.out) _
 have hxg6 : wB.heap[g6]? = some (.cells #[.int .i64 lg, .int .i64 lc] 24 (0, 0)) := by rw [hwB]; exact blk_put (blk_put HXg6.out 0 _ rfl) 1 _ rfl
 have hbB : Below w.heap.size w wB := by rw [hwB]; exact below_set (below_set HB.out Gg6) Gg6
 replace HXg2 := Aside0.mk hxg2
 replace HXg3 := Aside0.mk hxg3
 replace HXg4 := Aside0.mk hxg4
 replace HXg5 := Aside0.mk hxg5
 replace HXg6 := Aside0.mk hxg6
 replace HB := Aside0.mk hbB
 clear hwB hxg2 hxg3 hxg4 hxg5 hxg6 hbB zg6_0 zg6_1 cg6_0 cg6_1
 have z4 : wB.frozen? ⟨g4, 0, none⟩ = false := blk_frozen HXg4.out 0
 have z5 : wB.frozen? ⟨g5, 0, none⟩ = false := blk_frozen HXg5.out 0
 have c4 : wB.cell? ⟨g4, 0, none⟩ = some (.slice none 0 0) := (blk_cell HXg4.out 0).trans rfl
 have c5 : wB.cell? ⟨g5, 0, none⟩ = some (.int .i64 0) := (blk_cell HXg5.out 0).trans rfl
 have n45 := Ng4_g5.out
 go_wp2
 have h4 : ((wB.setCell ⟨g4, 0, none⟩ (.slice none 0 0)).setCell ⟨g5, 0, none⟩ (.int .i64 e0)).heap[g4]? = some (.cells #[.slice none 0 0] 39 (0, 0)) := blk_far (blk_put HXg4.out 0 _ rfl) n45 _
 have h5 : ((wB.setCell ⟨g4, 0, none⟩ (.slice none 0 0)).setCell ⟨g5, 0, none⟩ (.int .i64 e0)).heap[g5]? = some (.cells #[.int .i64 e0] 32 (0, 0)) := blk_put (blk_far HXg5.out n45.symm _) 0 _ rfl
 exact marks_ret0 (results57 rfl rfl h4 h5) ⟨_, rfl, Kd.R_nil _ _ _ _ _, below_set (below_set HB.out Gg4) Gg5⟩
set_option maxHeartbeats 8000000 in
set_option maxRecDepth 100000 in
theorem most_can (kc : Nat) (a0_0 : Int) (a0_1 : Int) (a0_2 : Int) (a0_3 : Int) (A0_4 : Option Addr) (c0_4 : Nat) (l0_4 : List (S51)) (A0_5 : Option Addr) (c0_5 : Nat) (l0_5 : List (S24)) (A0_6 : Option Addr) (c0_6 : Nat) (l0_6 : List (S41)) (A0_7 : Option Addr) (c0_7 : Nat) (l0_7 : List (S105)) (A0_8 : Option Addr) (c0_8 : Nat) (l0_8 : List (S149)) (a1_0 : Int) (a1_1 : Int) (a1_2 : Int) (a1_3 : Int) (a1_4 : Int) (a1_5 : Int) (a1_6 : Int) (a1_7 : Int) (lg lc r0 : Int) (cn : Int → Int) (pl : Int → List S52 × Int) (w : World) (hr0_4 : Kd.C k51 w A0_4 l0_4.length l0_4) (hc0_4 : l0_4.length ≤ c0_4) (hr0_5 : Kd.C k24 w A0_5 l0_5.length l0_5) (hc0_5 : l0_5.length ≤ c0_5) (hr0_6 : Kd.C k41 w A0_6 l0_6.length l0_6) (hc0_6 : l0_6.length ≤ c0_6) (hr0_7 : Kd.C k105 w A0_7 l0_7.length l0_7) (hc0_7 : l0_7.length ≤ c0_7) (hr0_8 : Kd.C k149 w A0_8 l0_8.length l0_8) (hc0_8 : l0_8.length ≤ c0_8) (hL : elastic_left.f a0_0 a0_1 a0_2 a0_3 l0_4 l0_5 l0_6 l0_7 l0_8 a1_0 a1_1 a1_2 a1_3 a1_4 a1_5 a1_6 a1_7 = some (lg, lc, 0))
  (hmx : a1_6 ≤ a1_7 ∧ a1_7 ≤ 16) (hmn : 1 ≤ a1_6)
  (hc0 : elastic_can.f kc a0_0 a0_1 a0_2 a0_3 l0_4 l0_5 l0_6 l0_7 l0_8 a1_4 a1_5 a1_6 a1_7 a1_6 lg lc = some r0) (hcn : ∀ n, a1_6 ≤ n → n ≤ a1_7 → elastic_can.f kc a0_0 a0_1 a0_2 a0_3 l0_4 l0_5 l0_6 l0_7 l0_8 a1_4 a1_5 a1_6 a1_7 n lg lc = some (cn n))
  (hpl : ∀ n, a1_6 ≤ n → n ≤ a1_7 → pack_Place.f l0_4 a1_4 a1_5 a1_6 a1_7 n = some (pl n)) (rr : List S52 × Int)
  (hrr : rr = if r0 ≠ 0 then ([], r0) else match (downL a1_7 a1_6).find? (fun n => cn n == 0) with | some n => pl n | none => ([], 7)) :
  Calls Try.prog 57 #[.agg #[.int .i64 a0_0, .int .i64 a0_1, .int .i64 a0_2, .int .i64 a0_3, .slice A0_4 l0_4.length c0_4, .slice A0_5 l0_5.length c0_5, .slice A0_6 l0_6.length c0_6, .slice A0_7 l0_7.length c0_7, .slice A0_8 l0_8.length c0_8], .agg #[.int .i64 a1_0, .int .i64 a1_1, .int .i64 a1_2, .int .i64 a1_3, .int .i64 a1_4, .int .i64 a1_5, .int .i64 a1_6, .int .i64 a1_7]] w fun e w' => ∃ v0_ : Value, e = .returned (.tuple #[v0_, .int .i64 rr.2]) ∧ Kd.R k52 52 w' w.heap.size (fun _ => True) v0_ rr.1 ∧ Below w.heap.size w w' := by
 have hu86 := Try.underlying86
 have hu88 := Try.underlying88
 have hu24 := Try.underlying24
 have hu27 := Try.underlying27
 have hu39 := Try.underlying39
 have hu32 := Try.underlying32
 have HR0_4 := Aside0.mk hr0_4
 have HC0_4 := Aside0.mk hc0_4
 clear hr0_4 hc0_4
 have HR0_5 := Aside0.mk hr0_5
 have HC0_5 := Aside0.mk hc0_5
 clear hr0_5 hc0_5
 have HR0_6 := Aside0.mk hr0_6
 have HC0_6 := Aside0.mk hc0_6
 clear hr0_6 hc0_6
 have HR0_7 := Aside0.mk hr0_7
 have HC0_7 := Aside0.mk hc0_7
 clear hr0_7 hc0_7
 have HR0_8 := Aside0.mk hr0_8
 have HC0_8 := Aside0.mk hc0_8
 clear hr0_8 hc0_8
 have HL := Aside0.mk hL
 have HC0 := Aside0.mk hc0
 have HCN := Aside0.mk hcn
 have HPL := Aside0.mk hpl
 have HRR := Aside0.mk hrr
 have HMX := Aside0.mk (And.intro hmx hmn)
 have HB := Aside0.mk (Below.refl w.heap.size w)
 clear hL hc0 hcn hpl hrr hmx hmn
 refine calls_marks Try.func57 rfl ?_
 simp only [Try.ntmps57, List.size_toArray, List.length_cons, List.length_nil, Nat.reduceAdd, Nat.reduceSub, Array.replicate_succ, Array.replicate_zero, List.push_toArray, List.append_toArray, List.nil_append, List.cons_append]
 go_upto_region 2 with (first | ((with_reducible refine gate_dst (N := 2) rfl ?_); refine bx 2 #[.int .i64 a0_0, .int .i64 a0_1, .int .i64 a0_2, .int .i64 a0_3, .slice A0_4 l0_4.length c0_4, .slice A0_5 l0_5.length c0_5, .slice A0_6 l0_6.length c0_6, .slice A0_7 l0_7.length c0_7, .slice A0_8 l0_8.length c0_8] 86 ?_; intro g2 hgg2 wg2 hxg2 hbg2; have Gg2 : w.heap.size ≤ g2 := Z17; replace HB := Aside0.mk (below_step HB.out hbg2); have HXg2 := Aside0.mk hxg2; clear hgg2 hxg2 hbg2) | ((with_reducible refine gate_dst (N := 3) rfl ?_); refine bx 3 #[.int .i64 a1_0, .int .i64 a1_1, .int .i64 a1_2, .int .i64 a1_3, .int .i64 a1_4, .int .i64 a1_5, .int .i64 a1_6, .int .i64 a1_7] 88 ?_; intro g3 hgg3 wg3 hxg3 hbg3; have Ng2_g3 := Aside0.mk (show g2 ≠ g3 from by have := blk_lt HXg2.out; omega); replace HXg2 := Aside0.mk (blk_below HXg2.out hbg3); have Gg3 : w.heap.size ≤ g3 := Z17; replace HB := Aside0.mk (below_step HB.out hbg3); have HXg3 := Aside0.mk hxg3; clear hgg3 hxg3 hbg3) | ((with_reducible refine gate_dst (N := 4) rfl ?_); refine bx 4 #[.slice none 0 0] 39 ?_; intro g4 hgg4 wg4 hxg4 hbg4; have Ng2_g4 := Aside0.mk (show g2 ≠ g4 from by have := blk_lt HXg2.out; omega); have Ng3_g4 := Aside0.mk (show g3 ≠ g4 from by have := blk_lt HXg3.out; omega); replace HXg2 := Aside0.mk (blk_below HXg2.out hbg4); replace HXg3 := Aside0.mk (blk_below HXg3.out hbg4); have Gg4 : w.heap.size ≤ g4 := Z17; replace HB := Aside0.mk (below_step HB.out hbg4); have HXg4 := Aside0.mk hxg4; clear hgg4 hxg4 hbg4) | ((with_reducible refine gate_dst (N := 5) rfl ?_); refine bx 5 #[.int .i64 0] 32 ?_; intro g5 hgg5 wg5 hxg5 hbg5; have Ng2_g5 := Aside0.mk (show g2 ≠ g5 from by have := blk_lt HXg2.out; omega); have Ng3_g5 := Aside0.mk (show g3 ≠ g5 from by have := blk_lt HXg3.out; omega); have Ng4_g5 := Aside0.mk (show g4 ≠ g5 from by have := blk_lt HXg4.out; omega); replace HXg2 := Aside0.mk (blk_below HXg2.out hbg5); replace HXg3 := Aside0.mk (blk_below HXg3.out hbg5); replace HXg4 := Aside0.mk (blk_below HXg4.out hbg5); have Gg5 : w.heap.size ≤ g5 := Z17; replace HB := Aside0.mk (below_step HB.out hbg5); have HXg5 := Aside0.mk hxg5; clear hgg5 hxg5 hbg5; have cg2_0 : wg5.cell? ⟨g2, 0, none⟩ = some (.int .i64 a0_0) := (blk_cell HXg2.out 0).trans rfl; have cg2_1 : wg5.cell? ⟨g2, 1, none⟩ = some (.int .i64 a0_1) := (blk_cell HXg2.out 1).trans rfl; have cg2_2 : wg5.cell? ⟨g2, 2, none⟩ = some (.int .i64 a0_2) := (blk_cell HXg2.out 2).trans rfl; have cg2_3 : wg5.cell? ⟨g2, 3, none⟩ = some (.int .i64 a0_3) := (blk_cell HXg2.out 3).trans rfl; have cg2_4 : wg5.cell? ⟨g2, 4, none⟩ = some (.slice A0_4 l0_4.length c0_4) := (blk_cell HXg2.out 4).trans rfl; have cg2_5 : wg5.cell? ⟨g2, 5, none⟩ = some (.slice A0_5 l0_5.length c0_5) := (blk_cell HXg2.out 5).trans rfl; have cg2_6 : wg5.cell? ⟨g2, 6, none⟩ = some (.slice A0_6 l0_6.length c0_6) := (blk_cell HXg2.out 6).trans rfl; have cg2_7 : wg5.cell? ⟨g2, 7, none⟩ = some (.slice A0_7 l0_7.length c0_7) := (blk_cell HXg2.out 7).trans rfl; have cg2_8 : wg5.cell? ⟨g2, 8, none⟩ = some (.slice A0_8 l0_8.length c0_8) := (blk_cell HXg2.out 8).trans rfl; have cg3_0 : wg5.cell? ⟨g3, 0, none⟩ = some (.int .i64 a1_0) := (blk_cell HXg3.out 0).trans rfl; have cg3_1 : wg5.cell? ⟨g3, 1, none⟩ = some (.int .i64 a1_1) := (blk_cell HXg3.out 1).trans rfl; have cg3_2 : wg5.cell? ⟨g3, 2, none⟩ = some (.int .i64 a1_2) := (blk_cell HXg3.out 2).trans rfl; have cg3_3 : wg5.cell? ⟨g3, 3, none⟩ = some (.int .i64 a1_3) := (blk_cell HXg3.out 3).trans rfl; have cg3_4 : wg5.cell? ⟨g3, 4, none⟩ = some (.int .i64 a1_4) := (blk_cell HXg3.out 4).trans rfl; have cg3_5 : wg5.cell? ⟨g3, 5, none⟩ = some (.int .i64 a1_5) := (blk_cell HXg3.out 5).trans rfl; have cg3_6 : wg5.cell? ⟨g3, 6, none⟩ = some (.int .i64 a1_6) := (blk_cell HXg3.out 6).trans rfl; have cg3_7 : wg5.cell? ⟨g3, 7, none⟩ = some (.int .i64 a1_7) := (blk_cell HXg3.out 7).trans rfl) | (go_at_call 93; refine (elastic_left.calls a0_0 a0_1 a0_2 a0_3 _ _ l0_4 _ _ l0_5 _ _ l0_6 _ _ l0_7 _ _ l0_8 a1_0 a1_1 a1_2 a1_3 a1_4 a1_5 a1_6 a1_7 lg lc 0 _ (Kd.C_below HR0_4.out (HB.out)) HC0_4.out (Kd.C_below HR0_5.out (HB.out)) HC0_5.out (Kd.C_below HR0_6.out (HB.out)) HC0_6.out (Kd.C_below HR0_7.out (HB.out)) HC0_7.out (Kd.C_below HR0_8.out (HB.out)) HC0_8.out HL.out).mono ?_; rintro e w7 ⟨rfl, hb7⟩; clear cg2_0 cg2_1 cg2_2 cg2_3 cg2_4 cg2_5 cg2_6 cg2_7 cg2_8 cg3_0 cg3_1 cg3_2 cg3_3 cg3_4 cg3_5 cg3_6 cg3_7; replace HXg2 := Aside0.mk (blk_below HXg2.out hb7); replace HXg3 := Aside0.mk (blk_below HXg3.out hb7); replace HXg4 := Aside0.mk (blk_below HXg4.out hb7); replace HXg5 := Aside0.mk (blk_below HXg5.out hb7); replace HB := Aside0.mk (below_step HB.out hb7); clear hb7) | ((with_reducible refine gate_dst (N := 6) rfl ?_); refine bx 6 #[.int .i64 0, .int .i64 0] 24 ?_; intro g6 hgg6 wg6 hxg6 hbg6; have Ng2_g6 := Aside0.mk (show g2 ≠ g6 from by have := blk_lt HXg2.out; omega); have Ng3_g6 := Aside0.mk (show g3 ≠ g6 from by have := blk_lt HXg3.out; omega); have Ng4_g6 := Aside0.mk (show g4 ≠ g6 from by have := blk_lt HXg4.out; omega); have Ng5_g6 := Aside0.mk (show g5 ≠ g6 from by have := blk_lt HXg5.out; omega); replace HXg2 := Aside0.mk (blk_below HXg2.out hbg6); replace HXg3 := Aside0.mk (blk_below HXg3.out hbg6); replace HXg4 := Aside0.mk (blk_below HXg4.out hbg6); replace HXg5 := Aside0.mk (blk_below HXg5.out hbg6); have Gg6 : w.heap.size ≤ g6 := Z17; replace HB := Aside0.mk (below_step HB.out hbg6); have HXg6 := Aside0.mk hxg6; clear hgg6 hxg6 hbg6; have zg6_0 : wg6.frozen? ⟨g6, 0, none⟩ = false := blk_frozen HXg6.out 0; have zg6_1 : wg6.frozen? ⟨g6, 1, none⟩ = false := blk_frozen HXg6.out 1; have cg6_0 : wg6.cell? ⟨g6, 0, none⟩ = some (.int .i64 0) := (blk_cell HXg6.out 0).trans rfl; have cg6_1 : wg6.cell? ⟨g6, 1, none⟩ = some (.int .i64 0) := (blk_cell HXg6.out 1).trans rfl))
 obtain ⟨wB, hwB⟩ : ∃ wB, wB = (wg6.setCell ⟨g6, 0, none⟩ (.int .i64 lg)).setCell ⟨g6, 1, none⟩ (.int .i64 lc) := ⟨_, rfl⟩
 rw [← hwB]
 have hxg2 : wB.heap[g2]? = some (.cells #[.int .i64 a0_0, .int .i64 a0_1, .int .i64 a0_2, .int .i64 a0_3, .slice A0_4 l0_4.length c0_4, .slice A0_5 l0_5.length c0_5, .slice A0_6 l0_6.length c0_6, .slice A0_7 l0_7.length c0_7, .slice A0_8 l0_8.length c0_8] 86 (0, 0)) := by rw [hwB]; exact blk_far (blk_far HXg2.out (Ng2_g6.out) _) (Ng2_g6.out) _
 have hxg3 : wB.heap[g3]? = some (.cells #[.int .i64 a1_0, .int .i64 a1_1, .int .i64 a1_2, .int .i64 a1_3, .int .i64 a1_4, .int .i64 a1_5, .int .i64 a1_6, .int .i64 a1_7] 88 (0, 0)) := by rw [hwB]; exact blk_far (blk_far HXg3.out (Ng3_g6.out) _) (Ng3_g6.out) _
 have hxg4 : wB.heap[g4]? = some (.cells #[.slice none 0 0] 39 (0, 0)) := by rw [hwB]; exact blk_far (blk_far HXg4.out (Ng4_g6.out) _) (Ng4_g6.out) _
 have hxg5 : wB.heap[g5]? = some (.cells #[.int .i64 0] 32 (0, 0)) := by rw [hwB]; exact blk_far (blk_far HXg5.out (Ng5_g6.out) _) (Ng5_g6.out) _
 have hxg6 : wB.heap[g6]? = some (.cells #[.int .i64 lg, .int .i64 lc] 24 (0, 0)) := by rw [hwB]; exact blk_put (blk_put HXg6.out 0 _ rfl) 1 _ rfl
 have hbB : Below w.heap.size w wB := by rw [hwB]; exact below_set (below_set HB.out Gg6) Gg6
 replace HXg2 := Aside0.mk hxg2
 replace HXg3 := Aside0.mk hxg3
 replace HXg4 := Aside0.mk hxg4
 replace HXg5 := Aside0.mk hxg5
 replace HXg6 := Aside0.mk hxg6
 replace HB := Aside0.mk hbB
 clear hwB hxg2 hxg3 hxg4 hxg5 hxg6 hbB zg6_0 zg6_1 cg6_0 cg6_1
 have cg2_0 : wB.cell? ⟨g2, 0, none⟩ = some (.int .i64 a0_0) := (blk_cell HXg2.out 0).trans rfl
 have cg2_1 : wB.cell? ⟨g2, 1, none⟩ = some (.int .i64 a0_1) := (blk_cell HXg2.out 1).trans rfl
 have cg2_2 : wB.cell? ⟨g2, 2, none⟩ = some (.int .i64 a0_2) := (blk_cell HXg2.out 2).trans rfl
 have cg2_3 : wB.cell? ⟨g2, 3, none⟩ = some (.int .i64 a0_3) := (blk_cell HXg2.out 3).trans rfl
 have cg2_4 : wB.cell? ⟨g2, 4, none⟩ = some (.slice A0_4 l0_4.length c0_4) := (blk_cell HXg2.out 4).trans rfl
 have cg2_5 : wB.cell? ⟨g2, 5, none⟩ = some (.slice A0_5 l0_5.length c0_5) := (blk_cell HXg2.out 5).trans rfl
 have cg2_6 : wB.cell? ⟨g2, 6, none⟩ = some (.slice A0_6 l0_6.length c0_6) := (blk_cell HXg2.out 6).trans rfl
 have cg2_7 : wB.cell? ⟨g2, 7, none⟩ = some (.slice A0_7 l0_7.length c0_7) := (blk_cell HXg2.out 7).trans rfl
 have cg2_8 : wB.cell? ⟨g2, 8, none⟩ = some (.slice A0_8 l0_8.length c0_8) := (blk_cell HXg2.out 8).trans rfl
 have cg3_0 : wB.cell? ⟨g3, 0, none⟩ = some (.int .i64 a1_0) := (blk_cell HXg3.out 0).trans rfl
 have cg3_1 : wB.cell? ⟨g3, 1, none⟩ = some (.int .i64 a1_1) := (blk_cell HXg3.out 1).trans rfl
 have cg3_2 : wB.cell? ⟨g3, 2, none⟩ = some (.int .i64 a1_2) := (blk_cell HXg3.out 2).trans rfl
 have cg3_3 : wB.cell? ⟨g3, 3, none⟩ = some (.int .i64 a1_3) := (blk_cell HXg3.out 3).trans rfl
 have cg3_4 : wB.cell? ⟨g3, 4, none⟩ = some (.int .i64 a1_4) := (blk_cell HXg3.out 4).trans rfl
 have cg3_5 : wB.cell? ⟨g3, 5, none⟩ = some (.int .i64 a1_5) := (blk_cell HXg3.out 5).trans rfl
 have cg3_6 : wB.cell? ⟨g3, 6, none⟩ = some (.int .i64 a1_6) := (blk_cell HXg3.out 6).trans rfl
 have cg3_7 : wB.cell? ⟨g3, 7, none⟩ = some (.int .i64 a1_7) := (blk_cell HXg3.out 7).trans rfl
 have cg6_0 : wB.cell? ⟨g6, 0, none⟩ = some (.int .i64 lg) := (blk_cell HXg6.out 0).trans rfl
 have cg6_1 : wB.cell? ⟨g6, 1, none⟩ = some (.int .i64 lc) := (blk_cell HXg6.out 1).trans rfl
 go_upto_region 5 with (first | (go_at_call 94; refine (elastic_can.calls kc a0_0 a0_1 a0_2 a0_3 _ _ l0_4 _ _ l0_5 _ _ l0_6 _ _ l0_7 _ _ l0_8 a1_4 a1_5 a1_6 a1_7 a1_6 lg lc r0 _ (Kd.C_below HR0_4.out (HB.out)) HC0_4.out (Kd.C_below HR0_5.out (HB.out)) HC0_5.out (Kd.C_below HR0_6.out (HB.out)) HC0_6.out (Kd.C_below HR0_7.out (HB.out)) HC0_7.out (Kd.C_below HR0_8.out (HB.out)) HC0_8.out (HC0.out)).mono ?_; rintro e w8 ⟨rfl, hb8⟩; clear cg2_0 cg2_1 cg2_2 cg2_3 cg2_4 cg2_5 cg2_6 cg2_7 cg2_8 cg3_0 cg3_1 cg3_2 cg3_3 cg3_4 cg3_5 cg3_6 cg3_7 cg6_0 cg6_1; replace HXg2 := Aside0.mk (blk_below HXg2.out hb8); replace HXg3 := Aside0.mk (blk_below HXg3.out hb8); replace HXg4 := Aside0.mk (blk_below HXg4.out hb8); replace HXg5 := Aside0.mk (blk_below HXg5.out hb8); replace HXg6 := Aside0.mk (blk_below HXg6.out hb8); replace HB := Aside0.mk (below_step HB.out hb8); clear hb8))
 by_cases hr0 : r0 = 0
 ·subst hr0
  have hrr := HRR.out
  rw [if_neg (by decide)] at hrr
  clear HRR
  have HRR := Aside0.mk hrr
  clear hrr
  have cg3_0 : w8.cell? ⟨g3, 0, none⟩ = some (.int .i64 a1_0) := (blk_cell HXg3.out 0).trans rfl
  have cg3_1 : w8.cell? ⟨g3, 1, none⟩ = some (.int .i64 a1_1) := (blk_cell HXg3.out 1).trans rfl
  have cg3_2 : w8.cell? ⟨g3, 2, none⟩ = some (.int .i64 a1_2) := (blk_cell HXg3.out 2).trans rfl
  have cg3_3 : w8.cell? ⟨g3, 3, none⟩ = some (.int .i64 a1_3) := (blk_cell HXg3.out 3).trans rfl
  have cg3_4 : w8.cell? ⟨g3, 4, none⟩ = some (.int .i64 a1_4) := (blk_cell HXg3.out 4).trans rfl
  have cg3_5 : w8.cell? ⟨g3, 5, none⟩ = some (.int .i64 a1_5) := (blk_cell HXg3.out 5).trans rfl
  have cg3_6 : w8.cell? ⟨g3, 6, none⟩ = some (.int .i64 a1_6) := (blk_cell HXg3.out 6).trans rfl
  have cg3_7 : w8.cell? ⟨g3, 7, none⟩ = some (.int .i64 a1_7) := (blk_cell HXg3.out 7).trans rfl
  go_wp2_with (first | (go_at_call 95; refine (down_calls a1_7 a1_6 _).mono ?_; rintro e w9 ⟨rfl, hd1, hd2, hb9⟩; have HD1 := Aside0.mk hd1; have HD2 := Aside0.mk hd2; have HBL := Aside0.mk (HB.out.size); clear cg3_0 cg3_1 cg3_2 cg3_3 cg3_4 cg3_5 cg3_6 cg3_7; replace HXg2 := Aside0.mk (blk_below HXg2.out hb9); replace HXg3 := Aside0.mk (blk_below HXg3.out hb9); replace HXg4 := Aside0.mk (blk_below HXg4.out hb9); replace HXg5 := Aside0.mk (blk_below HXg5.out hb9); replace HXg6 := Aside0.mk (blk_below HXg6.out hb9); replace HB := Aside0.mk (below_step HB.out hb9); clear hb9 hd1 hd2))
  have hlt9 := HBL.out
  have hz8 := HBL.out
  refine range_try (gf := 117) (lb := #[.pointer (some ⟨w8.heap.size, 0, none⟩), .pointer (some ⟨w8.heap.size + 1, 0, none⟩)]) rfl (enters_of Try.func117 (by kernel_rfl) rfl)
   (enc := fun x : Int => #[.int .i64 x]) (down_goes _ _ a1_7 a1_6 _ HD1.out HD2.out (by have := HMX.out; omega) (by have := HMX.out; omega)) (fun _ => rfl)
   (fun x => cn x ≠ 0) (fun x W => cn x = 0 ∧ Stands w g4 g5 (pl x) W) ?hRx
   (fun x a' _ => a' = { tmps := #[.agg #[.int .i64 a0_0, .int .i64 a0_1, .int .i64 a0_2, .int .i64 a0_3, .slice A0_4 l0_4.length c0_4, .slice A0_5 l0_5.length c0_5, .slice A0_6 l0_6.length c0_6, .slice A0_7 l0_7.length c0_7, .slice A0_8 l0_8.length c0_8], .agg #[.int .i64 a1_0, .int .i64 a1_1, .int .i64 a1_2, .int .i64 a1_3, .int .i64 a1_4, .int .i64 a1_5, .int .i64 a1_6, .int .i64 a1_7], .pointer (some ⟨g2, 0, none⟩), .pointer (some ⟨g3, 0, none⟩), .pointer (some ⟨g4, 0, none⟩), .pointer (some ⟨g5, 0, none⟩), .pointer (some ⟨g6, 0, none⟩), .int .i64 0, .int .i64 0, .int .i64 x, .tuple #[.agg #[.int .i64 lg, .int .i64 lc], .int .i64 0], .agg #[.int .i64 a0_0, .int .i64 a0_1, .int .i64 a0_2, .int .i64 a0_3, .slice A0_4 l0_4.length c0_4, .slice A0_5 l0_5.length c0_5, .slice A0_6 l0_6.length c0_6, .slice A0_7 l0_7.length c0_7, .slice A0_8 l0_8.length c0_8], .agg #[.int .i64 a1_0, .int .i64 a1_1, .int .i64 a1_2, .int .i64 a1_3, .int .i64 a1_4, .int .i64 a1_5, .int .i64 a1_6, .int .i64 a1_7], .tuple #[.agg #[.int .i64 lg, .int .i64 lc], .int .i64 0], .agg #[.int .i64 lg, .int .i64 lc], .int .i64 0, .int .i64 0, .bool false, undef, .agg #[.int .i64 a0_0, .int .i64 a0_1, .int .i64 a0_2, .int .i64 a0_3, .slice A0_4 l0_4.length c0_4, .slice A0_5 l0_5.length c0_5, .slice A0_6 l0_6.length c0_6, .slice A0_7 l0_7.length c0_7, .slice A0_8 l0_8.length c0_8], .pointer (some ⟨g3, 4, none⟩), .agg #[.int .i64 a1_4, .int .i64 a1_5, .int .i64 a1_6, .int .i64 a1_7], .pointer (some ⟨g3, 4, none⟩), .pointer (some ⟨g3, 6, none⟩), .int .i64 a1_6, .agg #[.int .i64 lg, .int .i64 lc], .int .i64 0, .int .i64 0, .bool false, undef, .pointer (some ⟨g3, 4, none⟩), .pointer (some ⟨g3, 7, none⟩), .int .i64 a1_7, .pointer (some ⟨g3, 4, none⟩), .pointer (some ⟨g3, 6, none⟩), .int .i64 a1_6, .func (.func 117) #[] #[.pointer (some ⟨w8.heap.size, 0, none⟩), .pointer (some ⟨w8.heap.size + 1, 0, none⟩)], .int .i64 x, undef, undef, undef, undef, undef, undef, undef, undef, undef, undef, undef, undef, undef, undef, undef], defers := [] }) (fun _ _ => ownFrom_pure (β := Unit) _ _) ?assign ?body ?done ?stop
  case hRx => exact fun y => OwnFrom.and (ownFrom_pure _ _) (Stands.own HB.out.size)
  case assign =>
   intro l x W K hx hB hK
   gi_wp2
   exact hK _ _ (Below.refl _ _) rfl
  case body =>
   rintro l x a' W hx hBW rfl
   have hmem := downL_mem hx
   have HC := Aside0.mk (HCN.out x hmem.1 hmem.2)
   have HP := Aside0.mk (HPL.out x hmem.1 hmem.2)
   have hBw := below_step HB.out hBW
   have HBW := Aside0.mk hBw
   have hy2 := blk_below HXg2.out hBW
   have hy3 := blk_below HXg3.out hBW
   have hy4 := blk_below HXg4.out hBW
   have hy5 := blk_below HXg5.out hBW
   have hy6 := blk_below HXg6.out hBW
   have HS9 := Aside0.mk hBW.size
   have HBQ := Aside0.mk HB.out.size
   clear HXg2 HXg3 HXg4 HXg5 HXg6 HB hBW hBw hx hmem HD1 HD2 HL HC0 HCN HPL HRR
   have HB := HBW
   clear HBW
   have HXg2 := Aside0.mk hy2
   have HXg3 := Aside0.mk hy3
   have HXg4 := Aside0.mk hy4
   have HXg5 := Aside0.mk hy5
   have HXg6 := Aside0.mk hy6
   clear hy2 hy3 hy4 hy5 hy6
   obtain ⟨cx, hce⟩ : ∃ cx, cx = cn x := ⟨_, rfl⟩
   obtain ⟨px, hpe⟩ : ∃ px, px = pl x := ⟨_, rfl⟩
   rw [← hce] at HC
   rw [← hpe] at HP
   have HCE := Aside0.mk hce
   have HPE := Aside0.mk hpe
   clear hce hpe
   have cg2_0 : W.cell? ⟨g2, 0, none⟩ = some (.int .i64 a0_0) := (blk_cell HXg2.out 0).trans rfl
   have cg2_1 : W.cell? ⟨g2, 1, none⟩ = some (.int .i64 a0_1) := (blk_cell HXg2.out 1).trans rfl
   have cg2_2 : W.cell? ⟨g2, 2, none⟩ = some (.int .i64 a0_2) := (blk_cell HXg2.out 2).trans rfl
   have cg2_3 : W.cell? ⟨g2, 3, none⟩ = some (.int .i64 a0_3) := (blk_cell HXg2.out 3).trans rfl
   have cg2_4 : W.cell? ⟨g2, 4, none⟩ = some (.slice A0_4 l0_4.length c0_4) := (blk_cell HXg2.out 4).trans rfl
   have cg2_5 : W.cell? ⟨g2, 5, none⟩ = some (.slice A0_5 l0_5.length c0_5) := (blk_cell HXg2.out 5).trans rfl
   have cg2_6 : W.cell? ⟨g2, 6, none⟩ = some (.slice A0_6 l0_6.length c0_6) := (blk_cell HXg2.out 6).trans rfl
   have cg2_7 : W.cell? ⟨g2, 7, none⟩ = some (.slice A0_7 l0_7.length c0_7) := (blk_cell HXg2.out 7).trans rfl
   have cg2_8 : W.cell? ⟨g2, 8, none⟩ = some (.slice A0_8 l0_8.length c0_8) := (blk_cell HXg2.out 8).trans rfl
   have cg3_0 : W.cell? ⟨g3, 0, none⟩ = some (.int .i64 a1_0) := (blk_cell HXg3.out 0).trans rfl
   have cg3_1 : W.cell? ⟨g3, 1, none⟩ = some (.int .i64 a1_1) := (blk_cell HXg3.out 1).trans rfl
   have cg3_2 : W.cell? ⟨g3, 2, none⟩ = some (.int .i64 a1_2) := (blk_cell HXg3.out 2).trans rfl
   have cg3_3 : W.cell? ⟨g3, 3, none⟩ = some (.int .i64 a1_3) := (blk_cell HXg3.out 3).trans rfl
   have cg3_4 : W.cell? ⟨g3, 4, none⟩ = some (.int .i64 a1_4) := (blk_cell HXg3.out 4).trans rfl
   have cg3_5 : W.cell? ⟨g3, 5, none⟩ = some (.int .i64 a1_5) := (blk_cell HXg3.out 5).trans rfl
   have cg3_6 : W.cell? ⟨g3, 6, none⟩ = some (.int .i64 a1_6) := (blk_cell HXg3.out 6).trans rfl
   have cg3_7 : W.cell? ⟨g3, 7, none⟩ = some (.int .i64 a1_7) := (blk_cell HXg3.out 7).trans rfl
   have cg6_0 : W.cell? ⟨g6, 0, none⟩ = some (.int .i64 lg) := (blk_cell HXg6.out 0).trans rfl
   have cg6_1 : W.cell? ⟨g6, 1, none⟩ = some (.int .i64 lc) := (blk_cell HXg6.out 1).trans rfl
   by_cases hcx : cx = 0
   ·subst hcx
    gi_wp2_with (first | ((try refine ⟨trivial, ?_⟩); gi_at_call 94; refine (CallsIn.inRound l (callsIn_wide.2 (elastic_can.calls kc a0_0 a0_1 a0_2 a0_3 _ _ l0_4 _ _ l0_5 _ _ l0_6 _ _ l0_7 _ _ l0_8 a1_4 a1_5 a1_6 a1_7 x lg lc _ _ (Kd.C_below HR0_4.out (HB.out)) HC0_4.out (Kd.C_below HR0_5.out (HB.out)) HC0_5.out (Kd.C_below HR0_6.out (HB.out)) HC0_6.out (Kd.C_below HR0_7.out (HB.out)) HC0_7.out (Kd.C_below HR0_8.out (HB.out)) HC0_8.out (HC.out)))).mono ?_; rintro e wc ⟨rfl, hbc⟩; have HBC := Aside0.mk hbc; clear cg2_0 cg2_1 cg2_2 cg2_3 cg2_4 cg2_5 cg2_6 cg2_7 cg2_8 cg3_0 cg3_1 cg3_2 cg3_3 cg3_4 cg3_5 cg3_6 cg3_7 cg6_0 cg6_1; replace HXg2 := Aside0.mk (blk_below HXg2.out hbc); replace HXg3 := Aside0.mk (blk_below HXg3.out hbc); replace HXg4 := Aside0.mk (blk_below HXg4.out hbc); replace HXg5 := Aside0.mk (blk_below HXg5.out hbc); replace HXg6 := Aside0.mk (blk_below HXg6.out hbc); replace HB := Aside0.mk (below_step HB.out hbc); clear hbc; have cg2_0 : wc.cell? ⟨g2, 0, none⟩ = some (.int .i64 a0_0) := (blk_cell HXg2.out 0).trans rfl; have cg2_1 : wc.cell? ⟨g2, 1, none⟩ = some (.int .i64 a0_1) := (blk_cell HXg2.out 1).trans rfl; have cg2_2 : wc.cell? ⟨g2, 2, none⟩ = some (.int .i64 a0_2) := (blk_cell HXg2.out 2).trans rfl; have cg2_3 : wc.cell? ⟨g2, 3, none⟩ = some (.int .i64 a0_3) := (blk_cell HXg2.out 3).trans rfl; have cg2_4 : wc.cell? ⟨g2, 4, none⟩ = some (.slice A0_4 l0_4.length c0_4) := (blk_cell HXg2.out 4).trans rfl; have cg2_5 : wc.cell? ⟨g2, 5, none⟩ = some (.slice A0_5 l0_5.length c0_5) := (blk_cell HXg2.out 5).trans rfl; have cg2_6 : wc.cell? ⟨g2, 6, none⟩ = some (.slice A0_6 l0_6.length c0_6) := (blk_cell HXg2.out 6).trans rfl; have cg2_7 : wc.cell? ⟨g2, 7, none⟩ = some (.slice A0_7 l0_7.length c0_7) := (blk_cell HXg2.out 7).trans rfl; have cg2_8 : wc.cell? ⟨g2, 8, none⟩ = some (.slice A0_8 l0_8.length c0_8) := (blk_cell HXg2.out 8).trans rfl; have cg3_0 : wc.cell? ⟨g3, 0, none⟩ = some (.int .i64 a1_0) := (blk_cell HXg3.out 0).trans rfl; have cg3_1 : wc.cell? ⟨g3, 1, none⟩ = some (.int .i64 a1_1) := (blk_cell HXg3.out 1).trans rfl; have cg3_2 : wc.cell? ⟨g3, 2, none⟩ = some (.int .i64 a1_2) := (blk_cell HXg3.out 2).trans rfl; have cg3_3 : wc.cell? ⟨g3, 3, none⟩ = some (.int .i64 a1_3) := (blk_cell HXg3.out 3).trans rfl; have cg3_4 : wc.cell? ⟨g3, 4, none⟩ = some (.int .i64 a1_4) := (blk_cell HXg3.out 4).trans rfl; have cg3_5 : wc.cell? ⟨g3, 5, none⟩ = some (.int .i64 a1_5) := (blk_cell HXg3.out 5).trans rfl; have cg3_6 : wc.cell? ⟨g3, 6, none⟩ = some (.int .i64 a1_6) := (blk_cell HXg3.out 6).trans rfl; have cg3_7 : wc.cell? ⟨g3, 7, none⟩ = some (.int .i64 a1_7) := (blk_cell HXg3.out 7).trans rfl) | ((try refine ⟨trivial, ?_⟩); gi_at_call 46; refine (CallsIn.inRound l (callsIn_wide.2 (pack_Place.calls _ _ l0_4 a1_4 a1_5 a1_6 a1_7 x _ _ _ (Kd.C_below HR0_4.out HB.out) HC0_4.out HP.out))).mono ?_; rintro e wp ⟨vp, rfl, hrp, hbp⟩; obtain ⟨Ap, cp, rfl⟩ := Kd.R_slice hrp; have HBP := Aside0.mk hbp; have HRP := Aside0.mk hrp; clear cg2_0 cg2_1 cg2_2 cg2_3 cg2_4 cg2_5 cg2_6 cg2_7 cg2_8 cg3_0 cg3_1 cg3_2 cg3_3 cg3_4 cg3_5 cg3_6 cg3_7; replace HXg2 := Aside0.mk (blk_below HXg2.out hbp); replace HXg3 := Aside0.mk (blk_below HXg3.out hbp); replace HXg4 := Aside0.mk (blk_below HXg4.out hbp); replace HXg5 := Aside0.mk (blk_below HXg5.out hbp); replace HXg6 := Aside0.mk (blk_below HXg6.out hbp); replace HB := Aside0.mk (below_step HB.out hbp); clear hbp hrp; have z4 : wp.frozen? ⟨g4, 0, none⟩ = false := blk_frozen HXg4.out 0; have z5 : wp.frozen? ⟨g5, 0, none⟩ = false := blk_frozen HXg5.out 0; have cg4_0 : wp.cell? ⟨g4, 0, none⟩ = some (.slice none 0 0) := (blk_cell HXg4.out 0).trans rfl; have cg5_0 : wp.cell? ⟨g5, 0, none⟩ = some (.int .i64 0) := (blk_cell HXg5.out 0).trans rfl; have n45 := Ng4_g5.out))
    have n45 := Ng4_g5.out
    have h4 : ((wp.setCell ⟨g4, 0, none⟩ (.slice Ap px.1.length cp)).setCell ⟨g5, 0, none⟩ (.int .i64 px.2)).heap[g4]? = some (.cells #[.slice Ap px.1.length cp] 39 (0, 0)) := blk_far (blk_put HXg4.out 0 _ rfl) n45 _
    have h5 : ((wp.setCell ⟨g4, 0, none⟩ (.slice Ap px.1.length cp)).setCell ⟨g5, 0, none⟩ (.int .i64 px.2)).heap[g5]? = some (.cells #[.int .i64 px.2] 32 (0, 0)) := blk_put (blk_far HXg5.out n45.symm _) 0 _ rfl
    have hr1 := Kd.R_grown2 HRP.out rfl (grown_set (j := 0) (v := .slice Ap px.1.length cp) (grown_refl wp (some g4))) (fun k hk => by injection hk with hk; subst hk; exact Kd.R_ne HRP.out HXg4.out (by decide))
    have hx5 : (wp.setCell ⟨g4, 0, none⟩ (.slice Ap px.1.length cp)).heap[g5]? = some (.cells #[.int .i64 0] 32 (0, 0)) := blk_far HXg5.out n45.symm _
    have hr2 := Kd.R_grown2 hr1 rfl (grown_set (j := 0) (v := .int .i64 px.2) (grown_refl _ (some g5))) (fun k hk => by injection hk with hk; subst hk; exact Kd.R_ne hr1 hx5 (by decide))
    show KeepsFrom _ _ _ ∧ cn x = 0 ∧ Stands w g4 g5 (pl x) _
    rw [← HCE.out, ← HPE.out]
    refine ⟨((keepsFrom_below HBC.out).trans (keepsFrom_below HBP.out)).trans (((KeepsOthers.setCell _ _ _).trans (KeepsOthers.setCell _ _ _)).from _), rfl, _, h4, h5, Kd.R_lower hr2 ?_, below_set (below_set HB.out Gg4) Gg5⟩
    have h1 := HBC.out.size
    have h2 := HS9.out
    have h3 := HBL.out
    have h6 := HBQ.out
    omega
   ·have t0 : (cx == 0) = false := by simpa using hcx
    have HCX := Aside0.mk hcx
    clear hcx
    gi_wp2_with (first | ((try refine ⟨trivial, ?_⟩); gi_at_call 94; refine (CallsIn.inRound l (callsIn_wide.2 (elastic_can.calls kc a0_0 a0_1 a0_2 a0_3 _ _ l0_4 _ _ l0_5 _ _ l0_6 _ _ l0_7 _ _ l0_8 a1_4 a1_5 a1_6 a1_7 x lg lc _ _ (Kd.C_below HR0_4.out (HB.out)) HC0_4.out (Kd.C_below HR0_5.out (HB.out)) HC0_5.out (Kd.C_below HR0_6.out (HB.out)) HC0_6.out (Kd.C_below HR0_7.out (HB.out)) HC0_7.out (Kd.C_below HR0_8.out (HB.out)) HC0_8.out (HC.out)))).mono ?_; rintro e wc ⟨rfl, hbc⟩; have HBC := Aside0.mk hbc; clear cg2_0 cg2_1 cg2_2 cg2_3 cg2_4 cg2_5 cg2_6 cg2_7 cg2_8 cg3_0 cg3_1 cg3_2 cg3_3 cg3_4 cg3_5 cg3_6 cg3_7 cg6_0 cg6_1; replace HXg2 := Aside0.mk (blk_below HXg2.out hbc); replace HXg3 := Aside0.mk (blk_below HXg3.out hbc); replace HXg4 := Aside0.mk (blk_below HXg4.out hbc); replace HXg5 := Aside0.mk (blk_below HXg5.out hbc); replace HXg6 := Aside0.mk (blk_below HXg6.out hbc); replace HB := Aside0.mk (below_step HB.out hbc); clear hbc; have cg2_0 : wc.cell? ⟨g2, 0, none⟩ = some (.int .i64 a0_0) := (blk_cell HXg2.out 0).trans rfl; have cg2_1 : wc.cell? ⟨g2, 1, none⟩ = some (.int .i64 a0_1) := (blk_cell HXg2.out 1).trans rfl; have cg2_2 : wc.cell? ⟨g2, 2, none⟩ = some (.int .i64 a0_2) := (blk_cell HXg2.out 2).trans rfl; have cg2_3 : wc.cell? ⟨g2, 3, none⟩ = some (.int .i64 a0_3) := (blk_cell HXg2.out 3).trans rfl; have cg2_4 : wc.cell? ⟨g2, 4, none⟩ = some (.slice A0_4 l0_4.length c0_4) := (blk_cell HXg2.out 4).trans rfl; have cg2_5 : wc.cell? ⟨g2, 5, none⟩ = some (.slice A0_5 l0_5.length c0_5) := (blk_cell HXg2.out 5).trans rfl; have cg2_6 : wc.cell? ⟨g2, 6, none⟩ = some (.slice A0_6 l0_6.length c0_6) := (blk_cell HXg2.out 6).trans rfl; have cg2_7 : wc.cell? ⟨g2, 7, none⟩ = some (.slice A0_7 l0_7.length c0_7) := (blk_cell HXg2.out 7).trans rfl; have cg2_8 : wc.cell? ⟨g2, 8, none⟩ = some (.slice A0_8 l0_8.length c0_8) := (blk_cell HXg2.out 8).trans rfl; have cg3_0 : wc.cell? ⟨g3, 0, none⟩ = some (.int .i64 a1_0) := (blk_cell HXg3.out 0).trans rfl; have cg3_1 : wc.cell? ⟨g3, 1, none⟩ = some (.int .i64 a1_1) := (blk_cell HXg3.out 1).trans rfl; have cg3_2 : wc.cell? ⟨g3, 2, none⟩ = some (.int .i64 a1_2) := (blk_cell HXg3.out 2).trans rfl; have cg3_3 : wc.cell? ⟨g3, 3, none⟩ = some (.int .i64 a1_3) := (blk_cell HXg3.out 3).trans rfl; have cg3_4 : wc.cell? ⟨g3, 4, none⟩ = some (.int .i64 a1_4) := (blk_cell HXg3.out 4).trans rfl; have cg3_5 : wc.cell? ⟨g3, 5, none⟩ = some (.int .i64 a1_5) := (blk_cell HXg3.out 5).trans rfl; have cg3_6 : wc.cell? ⟨g3, 6, none⟩ = some (.int .i64 a1_6) := (blk_cell HXg3.out 6).trans rfl; have cg3_7 : wc.cell? ⟨g3, 7, none⟩ = some (.int .i64 a1_7) := (blk_cell HXg3.out 7).trans rfl))
    exact ⟨HBC.out, by show cn x ≠ 0; rw [← HCE.out]; exact HCX.out⟩
  case done =>
   intro D W hD hf hBW hK
   have hrr : rr = ([], 7) := by
    rw [HRR.out]
    have : (downL a1_7 a1_6).find? (fun n => cn n == 0) = none := List.find?_eq_none.2 fun x hx => by simpa using hf x hx
    rw [this]
   subst hrr
   have hy4 := blk_below HXg4.out hBW
   have hy5 := blk_below HXg5.out hBW
   have HBW := Aside0.mk (below_step HB.out hBW)
   have HD := Aside0.mk hD
   have HK := Aside0.mk hK
   have HW9 := Aside0.mk HB.out.size
   clear HXg2 HXg3 HXg4 HXg5 HXg6 HB hBW hK hD hf HRR HD1 HD2
   have HXg4 := Aside0.mk hy4
   have HXg5 := Aside0.mk hy5
   clear hy4 hy5
   have z4 : W.frozen? ⟨g4, 0, none⟩ = false := blk_frozen HXg4.out 0
   have z5 : W.frozen? ⟨g5, 0, none⟩ = false := blk_frozen HXg5.out 0
   have c4 : W.cell? ⟨g4, 0, none⟩ = some (.slice none 0 0) := (blk_cell HXg4.out 0).trans rfl
   have c5 : W.cell? ⟨g5, 0, none⟩ = some (.int .i64 0) := (blk_cell HXg5.out 0).trans rfl
   have n45 := Ng4_g5.out
   go_wp2
   have h4 : ((W.setCell ⟨g4, 0, none⟩ (.slice none 0 0)).setCell ⟨g5, 0, none⟩ (.int .i64 7)).heap[g4]? = some (.cells #[.slice none 0 0] 39 (0, 0)) := blk_far (blk_put HXg4.out 0 _ rfl) n45 _
   have h5 : ((W.setCell ⟨g4, 0, none⟩ (.slice none 0 0)).setCell ⟨g5, 0, none⟩ (.int .i64 7)).heap[g5]? = some (.cells #[.int .i64 7] 32 (0, 0)) := blk_put (blk_far HXg5.out n45.symm _) 0 _ rfl
   have hk := ((KeepsOthers.setCell W ⟨g4, 0, none⟩ (.slice none 0 0)).trans (KeepsOthers.setCell _ ⟨g5, 0, none⟩ (.int .i64 7))).same D _ HK.out rfl
   have hs : Stands w g4 g5 ([], 7) ((W.setCell ⟨g4, 0, none⟩ (.slice none 0 0)).setCell ⟨g5, 0, none⟩ (.int .i64 7)) := ⟨_, h4, h5, Kd.R_nil _ _ _ _ _, below_set (below_set HBW.out Gg4) Gg5⟩
   obtain ⟨v, k4, k5, kr, kb⟩ := hs.mark (by have := HD.out; have := HW9.out; omega) hk
   exact marks_ret1 hk (results57 rfl rfl k4 k5) ⟨v, rfl, kr, kb⟩
  case stop =>
   intro D k x W hD hx hf ⟨hcx, hs⟩ hK
   have hrr : rr = pl x := by
    rw [HRR.out]
    have : (downL a1_7 a1_6).find? (fun n => cn n == 0) = some x := by
     rw [List.find?_eq_some_iff_getElem]
     obtain ⟨hk, he⟩ := List.getElem?_eq_some_iff.1 hx
     refine ⟨by simpa using hcx, k, hk, he, fun j hj => ?_⟩
     have := hf (downL a1_7 a1_6)[j] (List.mem_take_iff_getElem.2 ⟨j, by omega, rfl⟩)
     simpa using this
    rw [this]
   subst hrr
   have hw := HB.out.size
   obtain ⟨v, k4, k5, kr, kb⟩ := hs.mark (by omega) hK
   exact marks_ret1 hK (results57 rfl rfl k4 k5) ⟨v, rfl, kr, kb⟩
 ·have t0 : (r0 != 0) = true := by simpa using hr0
  have hrr := HRR.out
  rw [if_pos hr0] at hrr
  subst hrr
  clear HRR hr0
  have z4 : w8.frozen? ⟨g4, 0, none⟩ = false := blk_frozen HXg4.out 0
  have z5 : w8.frozen? ⟨g5, 0, none⟩ = false := blk_frozen HXg5.out 0
  have c4 : w8.cell? ⟨g4, 0, none⟩ = some (.slice none 0 0) := (blk_cell HXg4.out 0).trans rfl
  have c5 : w8.cell? ⟨g5, 0, none⟩ = some (.int .i64 0) := (blk_cell HXg5.out 0).trans rfl
  have n45 := Ng4_g5.out
  go_wp2
  have h4 : ((w8.setCell ⟨g4, 0, none⟩ (.slice none 0 0)).setCell ⟨g5, 0, none⟩ (.int .i64 r0)).heap[g4]? = some (.cells #[.slice none 0 0] 39 (0, 0)) := blk_far (blk_put HXg4.out 0 _ rfl) n45 _
  have h5 : ((w8.setCell ⟨g4, 0, none⟩ (.slice none 0 0)).setCell ⟨g5, 0, none⟩ (.int .i64 r0)).heap[g5]? = some (.cells #[.int .i64 r0] 32 (0, 0)) := blk_put (blk_far HXg5.out n45.symm _) 0 _ rfl
  exact marks_ret0 (results57 rfl rfl h4 h5) ⟨_, rfl, Kd.R_nil _ _ _ _ _, below_set (below_set HB.out Gg4) Gg5⟩
theorem leftB_ok {left : List S24} {q g c mn mx : Int} (h : (leftB left q g c mn mx).2.2 = 0) : goodShape g c mn mx = true ∧ (0 ≤ q ∧ q < left.length) ∧ leftB left q g c mn mx = ((rd_T24 left q).f0, (rd_T24 left q).f1, 0) := by
 unfold leftB at h ⊢
 by_cases hg : goodShape g c mn mx = true
 ·rw [if_pos hg] at h ⊢
  by_cases hq : 0 ≤ q ∧ q < (left.length : Int)
  ·rw [if_pos hq]; exact ⟨hg, hq, rfl⟩
  ·rw [if_neg hq] at h; cases h
 ·rw [if_neg hg] at h; cases h
theorem elastic_Most.calls (a0_0 : Int) (a0_1 : Int) (a0_2 : Int) (a0_3 : Int) (A0_4 : Option Addr) (c0_4 : Nat) (l0_4 : List (S51)) (A0_5 : Option Addr) (c0_5 : Nat) (l0_5 : List (S24)) (A0_6 : Option Addr) (c0_6 : Nat) (l0_6 : List (S41)) (A0_7 : Option Addr) (c0_7 : Nat) (l0_7 : List (S105)) (A0_8 : Option Addr) (c0_8 : Nat) (l0_8 : List (S149)) (a1_0 : Int) (a1_1 : Int) (a1_2 : Int) (a1_3 : Int) (a1_4 : Int) (a1_5 : Int) (a1_6 : Int) (a1_7 : Int) (r1 : List (S52)) (r2 : Int) (w : World) (hr0_4 : Kd.C k51 w A0_4 l0_4.length l0_4) (hc0_4 : l0_4.length ≤ c0_4) (hr0_5 : Kd.C k24 w A0_5 l0_5.length l0_5) (hc0_5 : l0_5.length ≤ c0_5) (hr0_6 : Kd.C k41 w A0_6 l0_6.length l0_6) (hc0_6 : l0_6.length ≤ c0_6) (hr0_7 : Kd.C k105 w A0_7 l0_7.length l0_7) (hc0_7 : l0_7.length ≤ c0_7) (hr0_8 : Kd.C k149 w A0_8 l0_8.length l0_8) (hc0_8 : l0_8.length ≤ c0_8) (h : elastic_Most.f a0_0 a0_1 a0_2 a0_3 l0_4 l0_5 l0_6 l0_7 l0_8 a1_0 a1_1 a1_2 a1_3 a1_4 a1_5 a1_6 a1_7 = some (r1, r2)) :
  Calls Try.prog 57 #[.agg #[.int .i64 a0_0, .int .i64 a0_1, .int .i64 a0_2, .int .i64 a0_3, .slice A0_4 l0_4.length c0_4, .slice A0_5 l0_5.length c0_5, .slice A0_6 l0_6.length c0_6, .slice A0_7 l0_7.length c0_7, .slice A0_8 l0_8.length c0_8], .agg #[.int .i64 a1_0, .int .i64 a1_1, .int .i64 a1_2, .int .i64 a1_3, .int .i64 a1_4, .int .i64 a1_5, .int .i64 a1_6, .int .i64 a1_7]] w fun e w' => ∃ v0_ : Value, e = .returned (.tuple #[v0_, .int .i64 r2]) ∧ Kd.R k52 52 w' w.heap.size (fun _ => True) v0_ r1 ∧ Below w.heap.size w w' := by
 unfold elastic_Most.f at h
 by_cases hok : placeOk l0_4 = true
 case neg => rw [if_neg hok] at h; cases h
 rw [if_pos hok] at h
 injection h with h
 have hok' := hok
 unfold placeOk at hok'
 simp only [Bool.and_eq_true, List.all_eq_true, decide_eq_true_eq] at hok'
 have hL := left_eq0 a0_0 a0_1 a0_2 a0_3 l0_4 l0_5 l0_6 l0_7 l0_8 a1_0 a1_1 a1_2 a1_3 a1_4 a1_5 a1_6 a1_7
 unfold mostB at h
 by_cases he : (leftB l0_5 a1_1 a1_4 a1_5 a1_6 a1_7).2.2 = 0
 ·rw [if_neg (by simpa using he)] at h
  obtain ⟨hg, hq, e3⟩ := leftB_ok he
  rw [e3] at h hL
  have hb := good_out1 hg
  have hcan : ∀ n, a1_6 ≤ n → n ≤ a1_7 → elastic_can.f (l0_4.length + 1) a0_0 a0_1 a0_2 a0_3 l0_4 l0_5 l0_6 l0_7 l0_8 a1_4 a1_5 a1_6 a1_7 n (rd_T24 l0_5 a1_1).f0 (rd_T24 l0_5 a1_1).f1 = some (canB l0_4 a1_4 a1_5 a1_6 a1_7 n (rd_T24 l0_5 a1_1).f0 (rd_T24 l0_5 a1_1).f1) :=
   fun n h1 h2 => can_eq _ _ _ _ _ _ _ _ _ _ _ _ _ _ _ _ _ (Nat.le_refl _) hok'.2 hok'.1 hg (by omega) (by omega)
  have := most_can (l0_4.length + 1) a0_0 a0_1 a0_2 a0_3 A0_4 c0_4 l0_4 A0_5 c0_5 l0_5 A0_6 c0_6 l0_6 A0_7 c0_7 l0_7 A0_8 c0_8 l0_8 a1_0 a1_1 a1_2 a1_3 a1_4 a1_5 a1_6 a1_7 _ _ _ (fun n => canB l0_4 a1_4 a1_5 a1_6 a1_7 n (rd_T24 l0_5 a1_1).f0 (rd_T24 l0_5 a1_1).f1) (fun n => placeB l0_4 a1_4 a1_5 a1_6 a1_7 n) w hr0_4 hc0_4 hr0_5 hc0_5 hr0_6 hc0_6 hr0_7 hc0_7 hr0_8 hc0_8 hL ⟨hb.2.1, hb.2.2⟩ hb.1
   (hcan a1_6 (Int.le_refl _) hb.2.1) hcan (fun n _ _ => by unfold pack_Place.f; rw [if_pos hok]) (r1, r2) h.symm
  exact this
 ·rw [if_pos (by simpa using he)] at h
  injection h with h1 h2
  subst h1 h2
  exact most_left a0_0 a0_1 a0_2 a0_3 A0_4 c0_4 l0_4 A0_5 c0_5 l0_5 A0_6 c0_6 l0_6 A0_7 c0_7 l0_7 A0_8 c0_8 l0_8 a1_0 a1_1 a1_2 a1_3 a1_4 a1_5 a1_6 a1_7 (leftB l0_5 a1_1 a1_4 a1_5 a1_6 a1_7).1 (leftB l0_5 a1_1 a1_4 a1_5 a1_6 a1_7).2.1 _ w hr0_4 hc0_4 hr0_5 hc0_5 hr0_6 hc0_6 hr0_7 hc0_7 hr0_8 hc0_8 hL he
end Go.Proofs.Ytckhjehibjdjdaa.P
namespace Go.Proofs.Ytckhjehibjdjdaa.P
open Go.RowKit Go.Proofs.YtckhjehibjdjdaaW.PrintWords Go.Proofs.YtckhjehibjdjdaaW.PrintLast Go.Proofs.YtckhjehibjdjdaaW.PrintMore
attribute [local go_sem] max2_int min2_int max_two min_two max_three min_three max_four min_four
set_option linter.unusedVariables false
set_option linter.unusedSimpArgs false
def ensemblelaw14_awake.f  : Option (Bool) := (elastic_Most.f 0 0 0 0 (([(⟨(⟨0, 0⟩ : S48), 255, 0⟩ : S51)] : List (S51))) (([(⟨5, 0⟩ : S24)] : List (S24))) ([] : List (S41)) ([] : List (S105)) ([] : List (S149)) 0 0 0 0 1 0 1 7).bind fun bt647 => (if (bt647.1.length : Int) = 5 then (some (bt647.2 == 0)) else (some false))
set_option maxHeartbeats 8000000 in
set_option maxRecDepth 100000 in
theorem ensemblelaw14_awake.calls  (r : Bool) (w : World) (h : ensemblelaw14_awake.f  = some r) (hr_ : r = true := by rfl) :
  Calls Try.prog 55 #[] w fun e w' => e = .returned (.bool r) ∧ Below w.heap.size w w' := by
 have hu51 := Try.underlying51
 have hu24 := Try.underlying24
 have hu86 := Try.underlying86
 have hu27 := Try.underlying27
 have hu88 := Try.underlying88
 have HB := Aside0.mk (Below.refl w.heap.size w)
 have H : ((elastic_Most.f 0 0 0 0 (([(⟨(⟨0, 0⟩ : S48), 255, 0⟩ : S51)] : List (S51))) (([(⟨5, 0⟩ : S24)] : List (S24))) ([] : List (S41)) ([] : List (S105)) ([] : List (S149)) 0 0 0 0 1 0 1 7).bind fun bt647 => (if (bt647.1.length : Int) = 5 then (some (bt647.2 == 0)) else (some false))) = some r := h
 clear h
 obtain ⟨y641, hy641⟩ : ∃ y_ : List (S51), y_ = (([(⟨(⟨0, 0⟩ : S48), 255, 0⟩ : S51)] : List (S51))) := ⟨_, rfl⟩
 replace H : ((elastic_Most.f 0 0 0 0 y641 (([(⟨5, 0⟩ : S24)] : List (S24))) ([] : List (S41)) ([] : List (S105)) ([] : List (S149)) 0 0 0 0 1 0 1 7).bind fun bt647 => (if (bt647.1.length : Int) = 5 then (some (bt647.2 == 0)) else (some false))) = some r := by first | (rw [hy641]; with_reducible exact H) | (have H2_ := (Option.bind_some _ _).symm.trans H; rw [hy641]; with_reducible exact H2_) | (have H2_ := (Option.bind_some _ _).symm.trans H; with_reducible exact H2_) | with_reducible exact H | (rw [hy641]; exact H) | exact H
 have Ny641 := Aside0.mk hy641
 clear hy641
 obtain ⟨y644, hy644⟩ : ∃ y_ : List (S24), y_ = (([(⟨5, 0⟩ : S24)] : List (S24))) := ⟨_, rfl⟩
 replace H : ((elastic_Most.f 0 0 0 0 y641 y644 ([] : List (S41)) ([] : List (S105)) ([] : List (S149)) 0 0 0 0 1 0 1 7).bind fun bt647 => (if (bt647.1.length : Int) = 5 then (some (bt647.2 == 0)) else (some false))) = some r := by first | (rw [hy644]; with_reducible exact H) | (have H2_ := (Option.bind_some _ _).symm.trans H; rw [hy644]; with_reducible exact H2_) | (have H2_ := (Option.bind_some _ _).symm.trans H; with_reducible exact H2_) | with_reducible exact H | (rw [hy644]; exact H) | exact H
 have Ny644 := Aside0.mk hy644
 clear hy644
 replace H := Option.bind_eq_some_iff.mp H
 obtain ⟨⟨t647, t650⟩, A10, H⟩ := H
 replace H : (if (t647.length : Int) = 5 then (some (t650 == 0)) else (some false)) = some r := H
 have A1 := Aside0.mk A10
 clear A10
 by_cases c2 : (t647.length : Int) = 5
 ·rw [if_pos c2] at H
  have c2b0 : ((t647.length : Int) == 5) = true := beq_iff_eq.mpr c2
  have c2b1 : ((t647.length : Int) != 5) = false := bne_eq_false_iff_eq.mpr c2
  clear c2
  clear hr_
  obtain rfl := Option.some.inj H
  go_enter Try.func55, Try.ntmps55
  go_wp2_with (first | ((with_reducible refine gate_dst (N := 5) rfl ?_); refine Kd.R_lit k51 _ 51 ?hg (N := 5) ?hd (xs := ([(⟨(⟨0, 0⟩ : S48), 255, 0⟩ : S51)] : List (S51))) (inner := [.int .i64 0, .int .i64 0, .int .u64 255, .int .i64 0]) (ok := fun _ => True) (okp := fun _ => True) ?hr ?hp (fun _ hk => hk) trivial (Below.refl _ _) (Nat.le_refl _) (by simp) ?_; (case hd => rfl); (case hg => rfl); (case hr => first | (go_simp; done) | (go_simp; rfl)); (case hp => exact (Reps.c4 (show Kd.M k51 _ _ _ (⟨(⟨0, 0⟩ : S48), 255, 0⟩ : S51) [.int .i64 0, .int .i64 0, .int .u64 255, .int .i64 0] from (k51_mkM _ _ _ (⟨(⟨0, 0⟩ : S48), 255, 0⟩ : S51) )) (Reps.none _ _))); intro v642 w3 ho4 hb hg_ hnew_; clear hg_ hnew_; (first | rw [← Ny641.out] at ho4 | (simp only [Int.reduceToNat] at ho4; rw [← Ny641.out] at ho4)); have HO643 := Aside0.mk (Kd.R_lower ho4 (below_size hb_)); replace HB := hs_ hb; clear hb ho4) | ((with_reducible refine gate_dst (N := 7) rfl ?_); refine Kd.R_lit k24 _ 24 ?hg (N := 7) ?hd (xs := ([(⟨5, 0⟩ : S24)] : List (S24))) (inner := [.int .i64 5, .int .i64 0]) (ok := fun _ => True) (okp := fun _ => True) ?hr ?hp (fun _ hk => hk) trivial (Below.refl _ _) (Nat.le_refl _) (by simp) ?_; (case hd => rfl); (case hg => rfl); (case hr => first | (go_simp; done) | (go_simp; rfl)); (case hp => exact (Reps.c2 (show Kd.M k24 _ _ _ (⟨5, 0⟩ : S24) [.int .i64 5, .int .i64 0] from (k24_mkM _ _ _ (⟨5, 0⟩ : S24) )) (Reps.none _ _))); intro v645 w5 ho6 hb hg_ hnew_; clear hg_ hnew_; (first | rw [← Ny644.out] at ho6 | (simp only [Int.reduceToNat] at ho6; rw [← Ny644.out] at ho6)); have HO646 := Aside0.mk (Kd.R_lower ho6 (below_size hb_)); replace HO643 := Aside0.mk (Kd.R_below (by (with_reducible repeat (first | apply Kd.R_alloc | apply Kd.R_drewN | apply Kd.R_drew)); exact HO643.out) hb); replace HB := hs_ hb; clear hb ho6; obtain ⟨Ao7, co7, eo7⟩ := Kd.R_slice HO646.out; subst eo7; obtain ⟨Ao8, co8, eo8⟩ := Kd.R_slice HO643.out; subst eo8) | ((with_reducible refine gate_callee (f := 57) rfl ?_); refine goesL_ (some 11) rfl rfl Try.func57 (by kernel_rfl) rfl #[.agg #[.int .i64 0, .int .i64 0, .int .i64 0, .int .i64 0, .slice Ao8 y641.length co8, .slice Ao7 y644.length co7, .slice none 0 0, .slice none 0 0, .slice none 0 0], .agg #[.int .i64 0, .int .i64 0, .int .i64 0, .int .i64 0, .int .i64 1, .int .i64 0, .int .i64 1, .int .i64 7]] rfl Z0 ?_; (refine (elastic_Most.calls 0 0 0 0 _ _ y641 _ _ y644 _ _ ([] : List (S41)) _ _ ([] : List (S105)) _ _ ([] : List (S149)) 0 0 0 0 1 0 1 7 t647 t650 _ ?side1 ?side2 ?side3 ?side4 ?side5 ?side6 ?side7 ?side8 ?side9 ?side10 A1.out).mono ?_); (case side1 => repeat (first | exact (Kd.R_reads' HO643.out).2.2 | (with_reducible refine Kd.C_alloc ?_ _) | (with_reducible refine Kd.C_drewN ?_ _) | (with_reducible refine Kd.C_drew ?_))); (case side2 => exact (Kd.R_reads' HO643.out).2.1); (case side3 => repeat (first | exact (Kd.R_reads' HO646.out).2.2 | (with_reducible refine Kd.C_alloc ?_ _) | (with_reducible refine Kd.C_drewN ?_ _) | (with_reducible refine Kd.C_drew ?_))); (case side4 => exact (Kd.R_reads' HO646.out).2.1); (case side5 => exact Kd.C_nil _ _); (case side6 => exact Nat.le_refl _); (case side7 => exact Kd.C_nil _ _); (case side8 => exact Nat.le_refl _); (case side9 => exact Kd.C_nil _ _); (case side10 => exact Nat.le_refl _); rintro e w9 ⟨v648, rfl, ho0, hb⟩; refine ⟨_, rfl, ?_⟩; have HO649 := Aside0.mk (Kd.R_lower ho0 (below_size hb_)); replace HO643 := Aside0.mk (Kd.R_below (by (with_reducible repeat (first | apply Kd.R_alloc | apply Kd.R_drewN | apply Kd.R_drew)); exact HO643.out) hb); replace HO646 := Aside0.mk (Kd.R_below (by (with_reducible repeat (first | apply Kd.R_alloc | apply Kd.R_drewN | apply Kd.R_drew)); exact HO646.out) hb); replace HB := hs_ hb; (try clear hb); (try clear hb2); (try clear hk); (try clear hi); (try clear ho0); obtain ⟨Ao10, co10, eo10⟩ := Kd.R_slice HO649.out; subst eo10))
  go_ret
  exact ⟨by first | rfl | (simp [errW_none, errW_some] <;> rfl) | (simp [*, errW_none, errW_some] <;> rfl), hb_⟩
 ·rw [if_neg c2] at H
  have c2b0 : ((t647.length : Int) == 5) = false := beq_eq_false_iff_ne.mpr c2
  have c2b1 : ((t647.length : Int) != 5) = true := bne_iff_ne.mpr c2
  rw [hr_] at H
  cases H
end Go.Proofs.Ytckhjehibjdjdaa.P
namespace Go.Proofs.Ytckhjehibjdjdaa.P
open Go.RowKit Go.Proofs.YtckhjehibjdjdaaW.PrintWords Go.Proofs.YtckhjehibjdjdaaW.PrintLast Go.Proofs.YtckhjehibjdjdaaW.PrintMore
attribute [local go_sem] max2_int min2_int max_two min_two max_three min_three max_four min_four
set_option linter.unusedVariables false
set_option linter.unusedSimpArgs false
def ensembleref05_More.l0 : Nat → List (S52) → List (S51) → Int → Option ((List (S51)) × Int)
 | 0, _, _, _ => none
 | k + 1, x1, x6, x7 => if x7 < (x1.length : Int) then (if 0 ≤ x7 then (if ((rd_T52 x1 x7).f2) < 0 then (some (([] : List (S51)), 1)) else ((ensembleref05_find.f k x6 ((rd_T52 x1 x7).f0.f0) ((rd_T52 x1 x7).f0.f1)).bind fun t189 => (if t189 < 0 then (some (([] : List (S51)), 3)) else (if 0 ≤ t189 then (if t189 < (x6.length : Int) then ((ensembleref05_masks.f k ((rd_T52 x1 x7).f1) ((rd_T51 x6 t189).f1)).bind fun t191 => (if t191 > 0 then (some (([] : List (S51)), 4)) else (if ((rd_T52 x1 x7).f2) > (wrap64 (1048576 - ((rd_T51 x6 t189).f2))) then (some (([] : List (S51)), 14)) else ((some (x6.set (t189 : Int).toNat (⟨(⟨(rd_T51 x6 t189).f0.f0, (rd_T51 x6 t189).f0.f1⟩ : S48), IntKind.u64.wrap (((rd_T51 x6 t189).f1) + ((rd_T52 x1 x7).f1)), (rd_T51 x6 t189).f2⟩ : S51) : List (S51))).bind fun y194 => (ensembleref05_More.l0 k x1 (y194.set (t189 : Int).toNat (⟨(⟨(rd_T51 y194 t189).f0.f0, (rd_T51 y194 t189).f0.f1⟩ : S48), (rd_T51 y194 t189).f1, wrap64 (((rd_T51 y194 t189).f2) + ((rd_T52 x1 x7).f2))⟩ : S51)) (wrap64 (x7 + 1))))))) else (none)) else (none))))) else (none)) else (some (x6, 0))
def ensembleref05_More.f (k : Nat) (l0 : List (S51)) (l1 : List (S52)) : Option ((List (S51)) × Int) := (some (([] : List (S51)) : List (S51))).bind fun y181 => (if y181.length + l0.length < 4398046511104 then (ensembleref05_More.l0 k l1 (y181 ++ l0) 0) else (none))
def ensembleref05_More.T11 : Bool × List (List Nat × List Nat) := (true, [([], []), ([0], [0]), ([], []), ([], []), ([2, 3], [2, 3]), ([4], [4]), ([5], [5]), ([1, 6], [1, 6]), ([7], [7])])
def ensembleref05_More.B11 : List Nat := [0, 1, 0, 0, 12, 28, 60, 127, 255]
theorem ensembleref05_More.tab11 : rtab .any (opsOf Try.f32 11) = ensembleref05_More.T11 := by kernel_rfl
theorem ensembleref05_More.bits11 : waitsOk ensembleref05_More.T11.2 ensembleref05_More.B11 = true := by kernel_rfl
def ensembleref05_More.T13 : Bool × List (List Nat × List Nat) := (true, [([], []), ([0], [0]), ([], []), ([], []), ([2, 3], [2, 3]), ([4], [4]), ([5], [5]), ([6], [6]), ([1, 7], [1, 7])])
def ensembleref05_More.B13 : List Nat := [0, 1, 0, 0, 12, 28, 60, 124, 255]
theorem ensembleref05_More.tab13 : rtab .any (opsOf Try.f32 13) = ensembleref05_More.T13 := by kernel_rfl
theorem ensembleref05_More.bits13 : waitsOk ensembleref05_More.T13.2 ensembleref05_More.B13 = true := by kernel_rfl
def ensembleref05_More.T15 : Bool × List (List Nat × List Nat) := (true, [([], []), ([], []), ([], []), ([], []), ([2, 3], [2, 3]), ([4], [4]), ([5], [5]), ([], []), ([7], [7]), ([6, 8], [6, 8]), ([0, 1, 0, 1, 2, 3, 4, 5, 6, 7, 8, 9], [0, 1]), ([10, 0, 1, 2, 3, 4, 5, 6, 7, 8, 9], [10]), ([11, 9, 0, 1, 2, 3, 4, 5, 6, 7, 8, 9], [9, 11])])
def ensembleref05_More.B15 : List Nat := [0, 0, 0, 0, 12, 28, 60, 0, 128, 508, 1023, 2047, 4095]
theorem ensembleref05_More.tab15 : rtab .any (opsOf Try.f32 15) = ensembleref05_More.T15 := by kernel_rfl
theorem ensembleref05_More.bits15 : waitsOk ensembleref05_More.T15.2 ensembleref05_More.B15 = true := by kernel_rfl
def ensembleref05_More.T16 : Bool × List (List Nat × List Nat) := (true, [([], []), ([], []), ([], []), ([], []), ([2, 3], [2, 3]), ([4], [4]), ([5], [5]), ([], []), ([7], [7]), ([6, 8], [6, 8]), ([0, 1, 0, 1, 2, 3, 4, 5, 6, 7, 8, 9], [0, 1]), ([10, 0, 1, 2, 3, 4, 5, 6, 7, 8, 9], [10]), ([11, 9, 0, 1, 2, 3, 4, 5, 6, 7, 8, 9], [9, 11])])
def ensembleref05_More.B16 : List Nat := [0, 0, 0, 0, 12, 28, 60, 0, 128, 508, 1023, 2047, 4095]
theorem ensembleref05_More.tab16 : rtab .any (opsOf Try.f32 16) = ensembleref05_More.T16 := by kernel_rfl
theorem ensembleref05_More.bits16 : waitsOk ensembleref05_More.T16.2 ensembleref05_More.B16 = true := by kernel_rfl
set_option maxHeartbeats 8000000 in
set_option maxRecDepth 100000 in
theorem ensembleref05_More.calls (k : Nat) (A0 : Option Addr) (c0 : Nat) (l0 : List (S51)) (A1 : Option Addr) (c1 : Nat) (l1 : List (S52)) (r1 : List (S51)) (r2 : Int) (w : World) (hr0 : Kd.C k51 w A0 l0.length l0) (hc0 : l0.length ≤ c0) (hr1 : Kd.C k52 w A1 l1.length l1) (hc1 : l1.length ≤ c1) (h : ensembleref05_More.f k l0 l1 = some (r1, r2)) :
  Calls Try.prog 32 #[.slice A0 l0.length c0, .slice A1 l1.length c1] w fun e w' => ∃ v0_ : Value, e = .returned (.tuple #[v0_, .int .i64 r2]) ∧ Kd.R k51 51 w' w.heap.size (fun _ => True) v0_ r1 ∧ Below w.heap.size w w' := by
 have hu52 := Try.underlying52
 have hu48 := Try.underlying48
 have HR0 := Aside0.mk hr0
 have HC0 := Aside0.mk hc0
 clear hr0 hc0
 have HR1 := Aside0.mk hr1
 have HC1 := Aside0.mk hc1
 clear hr1 hc1
 have HB := Aside0.mk (Below.refl w.heap.size w)
 have H : ((some (([] : List (S51)) : List (S51))).bind fun y181 => (if y181.length + l0.length < 4398046511104 then (ensembleref05_More.l0 k l1 (y181 ++ l0) 0) else (none))) = some (r1, r2) := h
 clear h
 obtain ⟨y181, hy181⟩ : ∃ y_ : List (S51), y_ = (([] : List (S51))) := ⟨_, rfl⟩
 replace H : (if y181.length + l0.length < 4398046511104 then (ensembleref05_More.l0 k l1 (y181 ++ l0) 0) else (none)) = some (r1, r2) := by first | (rw [hy181]; with_reducible exact H) | (have H2_ := (Option.bind_some _ _).symm.trans H; rw [hy181]; with_reducible exact H2_) | (have H2_ := (Option.bind_some _ _).symm.trans H; with_reducible exact H2_) | with_reducible exact H | (rw [hy181]; exact H) | exact H
 have Ny181 := Aside0.mk hy181
 clear hy181
 by_cases c3 : y181.length + l0.length < 4398046511104
 ·rw [if_pos c3] at H
  have LMc3 := Aside0.mk c3
  clear c3
  obtain ⟨y184, hy184⟩ : ∃ y_ : List (S51), y_ = (y181 ++ l0) := ⟨_, rfl⟩
  replace H : (ensembleref05_More.l0 k l1 y184 0) = some (r1, r2) := by first | (rw [hy184]; with_reducible exact H) | (have H2_ := (Option.bind_some _ _).symm.trans H; rw [hy184]; with_reducible exact H2_) | (have H2_ := (Option.bind_some _ _).symm.trans H; with_reducible exact H2_) | with_reducible exact H | (rw [hy184]; exact H) | exact H
  have Ny184 := Aside0.mk hy184
  clear hy184
  have H' := Aside0.mk H
  clear H
  go_enter Try.func32, Try.ntmps32
  go_wp2_with (first | ((with_reducible refine gate_dst (N := 10) rfl ?_); refine Kd.R_lit k51 _ 51 ?hg (N := 10) ?hd (xs := ([] : List (S51))) (inner := []) (ok := fun _ => True) (okp := fun _ => True) ?hr ?hp (fun _ hk => hk) trivial (Below.refl _ _) (Nat.le_refl _) (by simp) ?_; (case hd => rfl); (case hg => rfl); (case hr => first | (go_simp; done) | (go_simp; rfl)); (case hp => exact (Reps.none _ _)); intro v182 w4 ho5 hb hg_ hnew_; clear hg_ hnew_; (first | rw [← Ny181.out] at ho5 | (simp only [Int.reduceToNat] at ho5; rw [← Ny181.out] at ho5)); have HO183 := Aside0.mk (Kd.R_lower ho5 (below_size hb_)); replace HB := hs_ hb; clear hb ho5) | ((with_reducible refine gate_builtin (b := .append) (xs := #[.tmp 10, .tmp 11]) rfl ?_); at_builtin; refine Kd.R_append_rows k51 (w0 := w) w.heap.size rfl (.tmp 10) (.tmp 11) 22 51 (.agg #[(.int .i64 0), (.int .i64 0), (.int .u64 0), (.int .i64 0)]) 32 rfl Try.underlying22 info51 rfl (by decide) (by omega) v182 y181 l0 _ _ _ (fun _ => True) (fun _ => False) rfl rfl ?aO ?aR (fun _ _ h => h) (fun _ h => h.elim) ?aF ?aB ?aS ?aL ?_; (case aR => repeat (first | exact (Kd.C_below HR0.out HB.out) | (with_reducible refine Kd.C_alloc ?_ _) | (with_reducible refine Kd.C_drewN ?_ _) | (with_reducible refine Kd.C_drew ?_))); (case aB => exact hb_); (case aF => exact (fun _ _ => trivial)); (case aO => exact (by (with_reducible repeat (first | apply Kd.R_alloc | apply Kd.R_drewN | apply Kd.R_drew)); exact HO183.out)); (case aS => exact (below_size hb_)); (case aL => have := LMc3.out; omega); intro v185 w6 ho hb hg hat; rw [← Ny184.out] at ho; have HO186 := Aside0.mk (ho); replace HB := Aside0.mk (hb); clear HO183; clear ho hb hg hat))
  go_loopg [7] k (fun kq v7 w' => ∃ (x6_1 : List (S51)) (x7_1 : Int), v7 = .int .i64 x7_1 ∧ Aside0 (ensembleref05_More.l0 kq l1 x6_1 x7_1 = some (r1, r2)) ∧ Aside0 (kq ≤ k) ∧ Aside0 (Kd.R k51 51 w' w.heap.size (fun _ => True) v185 x6_1) ∧ Aside0 (Below w.heap.size w w'))
  case atStart => exact ⟨(y184), (0), Z4, H', ⟨Nat.le_refl _⟩, ⟨by (with_reducible repeat (first | apply Kd.R_alloc | apply Kd.R_drewN | apply Kd.R_drew)); exact HO186.out⟩, ⟨hb_⟩⟩
  case round =>
   clear H'
   try clear c1
   try clear p2
   try clear c3
   obtain ⟨x6_1, x7_1, rfl, HA, HK1, HO_6, HB⟩ := hrel
   cases gk with
   | zero => exact absurd HA.out (by simp [ensembleref05_More.l0])
   | succ k1 =>
    have H := HA.out
    clear HA
    simp only [ensembleref05_More.l0] at H
    by_cases c7 : x7_1 < (l1.length : Int)
    ·rw [if_pos c7] at H
     have c7b0 : decide (x7_1 < (l1.length : Int)) = true := decide_eq_true c7
     clear c7
     by_cases c8 : 0 ≤ x7_1
     ·rw [if_pos c8] at H
      have c8b0 : decide (0 ≤ x7_1) = true := decide_eq_true c8
      clear c8
      by_cases c9 : ((rd_T52 l1 x7_1).f2) < 0
      ·rw [if_pos c9] at H
       have c9b0 : decide (((rd_T52 l1 x7_1).f2) < 0) = true := decide_eq_true c9
       clear c9
       simp only [Option.some.injEq, Prod.mk.injEq] at H
       obtain ⟨rfl, rfl⟩ := H
       have p187 : 0 ≤ (x7_1 : Int) := of_decide_eq_true Z1
       have q187 : x7_1 < (l1.length : Int) := of_decide_eq_true Z1
       obtain ⟨ad187, e187, hx187_0, hx187_1, hx187_2, hx187_3⟩ := at_T52 HR1.out x7_1 p187 q187
       cases e187
       replace hx187_0 := cx_ hx187_0
       replace hx187_1 := cx_ hx187_1
       replace hx187_2 := cx_ hx187_2
       replace hx187_3 := cx_ hx187_3
       replace p187 := eq_true p187
       replace q187 := eq_true q187
       go_wp2_with (first | ((with_reducible refine gate_dst (N := 8) rfl ?_); refine bx 8 #[.int .i64 0, .int .i64 0, .int .u64 0, .int .i64 0] 52 ?_; intro gb188 hg w10 hbox hb; have BK188 := Aside0.mk (hbox); have GW188 := ge_ hg; have GE188 := ge_ hg; replace HO_6 := Aside0.mk (Kd.R_below Z6 hb); replace HB := hs_ hb; clear hb hbox hg; obtain ⟨hcz11_0, hcz11_1, hcz11_2, hcz11_3, hfz11_0, hfz11_1, hfz11_2, hfz11_3⟩ := bz4_ BK188))
       go_ret2
       exact ⟨_, by first | rfl | (simp [errW_none, errW_some] <;> rfl) | (simp [*, errW_none, errW_some] <;> rfl), by first | exact Kd.R_nil _ _ _ _ _ | exact Kd.N_nil _ _ _ _ _ | exact Kd.V_nil _ _ _ _ _ | exact Kd.Q_nil _ _ _ _ _ | exact Kd.S_nil _ _ _ _ _, hb_⟩
      ·rw [if_neg c9] at H
       have c9b0 : decide (((rd_T52 l1 x7_1).f2) < 0) = false := decide_eq_false c9
       clear c9
       replace H := Option.bind_eq_some_iff.mp H
       obtain ⟨t189, A120, H⟩ := H
       replace H : (if t189 < 0 then (some (([] : List (S51)), 3)) else (if 0 ≤ t189 then (if t189 < (x6_1.length : Int) then ((ensembleref05_masks.f k1 ((rd_T52 l1 x7_1).f1) ((rd_T51 x6_1 t189).f1)).bind fun t191 => (if t191 > 0 then (some (([] : List (S51)), 4)) else (if ((rd_T52 l1 x7_1).f2) > (wrap64 (1048576 - ((rd_T51 x6_1 t189).f2))) then (some (([] : List (S51)), 14)) else ((some (x6_1.set (t189 : Int).toNat (⟨(⟨(rd_T51 x6_1 t189).f0.f0, (rd_T51 x6_1 t189).f0.f1⟩ : S48), IntKind.u64.wrap (((rd_T51 x6_1 t189).f1) + ((rd_T52 l1 x7_1).f1)), (rd_T51 x6_1 t189).f2⟩ : S51) : List (S51))).bind fun y194 => (ensembleref05_More.l0 k1 l1 (y194.set (t189 : Int).toNat (⟨(⟨(rd_T51 y194 t189).f0.f0, (rd_T51 y194 t189).f0.f1⟩ : S48), (rd_T51 y194 t189).f1, wrap64 (((rd_T51 y194 t189).f2) + ((rd_T52 l1 x7_1).f2))⟩ : S51)) (wrap64 (x7_1 + 1))))))) else (none)) else (none))) = some (r1, r2) := H
       have A12 := Aside0.mk A120
       clear A120
       by_cases c13 : t189 < 0
       ·rw [if_pos c13] at H
        have c13b0 : decide (t189 < 0) = true := decide_eq_true c13
        clear c13
        simp only [Option.some.injEq, Prod.mk.injEq] at H
        obtain ⟨rfl, rfl⟩ := H
        have p187 : 0 ≤ (x7_1 : Int) := of_decide_eq_true Z1
        have q187 : x7_1 < (l1.length : Int) := of_decide_eq_true Z1
        obtain ⟨ad187, e187, hx187_0, hx187_1, hx187_2, hx187_3⟩ := at_T52 HR1.out x7_1 p187 q187
        cases e187
        replace hx187_0 := cx_ hx187_0
        replace hx187_1 := cx_ hx187_1
        replace hx187_2 := cx_ hx187_2
        replace hx187_3 := cx_ hx187_3
        replace p187 := eq_true p187
        replace q187 := eq_true q187
        go_wp2_with (first | ((with_reducible refine gate_dst (N := 8) rfl ?_); refine bx 8 #[.int .i64 0, .int .i64 0, .int .u64 0, .int .i64 0] 52 ?_; intro gb188 hg w14 hbox hb; have BK188 := Aside0.mk (hbox); have GW188 := ge_ hg; have GE188 := ge_ hg; replace HO_6 := Aside0.mk (Kd.R_below Z6 hb); replace HB := hs_ hb; clear hb hbox hg; obtain ⟨hcz15_0, hcz15_1, hcz15_2, hcz15_3, hfz15_0, hfz15_1, hfz15_2, hfz15_3⟩ := bz4_ BK188; obtain ⟨Ao16, co16, eo16⟩ := Kd.R_slice HO_6.out; subst eo16) | ((with_reducible refine gate_callee (f := 79) rfl ?_); refine goesL_ (some 29) rfl rfl Try.func79 (by kernel_rfl) rfl #[.slice Ao16 x6_1.length co16, .agg #[.int .i64 ((rd_T52 l1 x7_1).f0.f0), .int .i64 ((rd_T52 l1 x7_1).f0.f1)]] rfl Z0 ?_; (with_reducible refine (ensembleref05_find.calls k1 _ _ x6_1 ((rd_T52 l1 x7_1).f0.f0) ((rd_T52 l1 x7_1).f0.f1) t189 _ ?side1 ?side2 A12.out).mono ?_); (case side1 => refine (Kd.R_reads' (e := 51) (base := w.heap.size) (ok := fun k_ => True) (n := x6_1.length) (c := co16) ?_).2.2; exact Z3); (case side2 => exact (Kd.R_reads' HO_6.out).2.1); rintro e w17 ⟨rfl, hb⟩; refine ⟨_, rfl, ?_⟩; replace HO_6 := Aside0.mk (Kd.R_below Z3 hb); replace BK188 := Aside0.mk (blk_below (g := gb188) (o := .cells #[.int .i64 ((rd_T52 l1 x7_1).f0.f0), .int .i64 ((rd_T52 l1 x7_1).f0.f1), .int .u64 ((rd_T52 l1 x7_1).f1), .int .i64 ((rd_T52 l1 x7_1).f2)] 52 (0, 0)) (by (with_reducible repeat (first | refine blk_drewN ?_ _ | refine blk_drew ?_ | refine blk_alloc ?_ _)); refine blk_put (cs := #[.int .i64 ((rd_T52 l1 x7_1).f0.f0), .int .i64 ((rd_T52 l1 x7_1).f0.f1), .int .u64 ((rd_T52 l1 x7_1).f1), .int .i64 0]) ?_ 3 _ rfl; (with_reducible repeat (first | refine blk_drewN ?_ _ | refine blk_drew ?_ | refine blk_alloc ?_ _)); refine blk_put (cs := #[.int .i64 ((rd_T52 l1 x7_1).f0.f0), .int .i64 ((rd_T52 l1 x7_1).f0.f1), .int .u64 0, .int .i64 0]) ?_ 2 _ rfl; (with_reducible repeat (first | refine blk_drewN ?_ _ | refine blk_drew ?_ | refine blk_alloc ?_ _)); refine blk_put (cs := #[.int .i64 ((rd_T52 l1 x7_1).f0.f0), .int .i64 0, .int .u64 0, .int .i64 0]) ?_ 1 _ rfl; (with_reducible repeat (first | refine blk_drewN ?_ _ | refine blk_drew ?_ | refine blk_alloc ?_ _)); refine blk_put (cs := #[.int .i64 0, .int .i64 0, .int .u64 0, .int .i64 0]) ?_ 0 _ rfl; (with_reducible repeat (first | refine blk_drewN ?_ _ | refine blk_drew ?_ | refine blk_alloc ?_ _)); exact BK188.out) hb); replace HB := hs_ hb; (try clear hb); (try clear hb2); (try clear hk); (try clear hi)))
        go_ret2
        exact ⟨_, by first | rfl | (simp [errW_none, errW_some] <;> rfl) | (simp [*, errW_none, errW_some] <;> rfl), by first | exact Kd.R_nil _ _ _ _ _ | exact Kd.N_nil _ _ _ _ _ | exact Kd.V_nil _ _ _ _ _ | exact Kd.Q_nil _ _ _ _ _ | exact Kd.S_nil _ _ _ _ _, hb_⟩
       ·rw [if_neg c13] at H
        have c13b0 : decide (t189 < 0) = false := decide_eq_false c13
        clear c13
        by_cases c18 : 0 ≤ t189
        ·rw [if_pos c18] at H
         have c18b0 : decide (0 ≤ t189) = true := decide_eq_true c18
         clear c18
         by_cases c19 : t189 < (x6_1.length : Int)
         ·rw [if_pos c19] at H
          have c19b0 : decide (t189 < (x6_1.length : Int)) = true := decide_eq_true c19
          clear c19
          replace H := Option.bind_eq_some_iff.mp H
          obtain ⟨t191, A200, H⟩ := H
          replace H : (if t191 > 0 then (some (([] : List (S51)), 4)) else (if ((rd_T52 l1 x7_1).f2) > (wrap64 (1048576 - ((rd_T51 x6_1 t189).f2))) then (some (([] : List (S51)), 14)) else ((some (x6_1.set (t189 : Int).toNat (⟨(⟨(rd_T51 x6_1 t189).f0.f0, (rd_T51 x6_1 t189).f0.f1⟩ : S48), IntKind.u64.wrap (((rd_T51 x6_1 t189).f1) + ((rd_T52 l1 x7_1).f1)), (rd_T51 x6_1 t189).f2⟩ : S51) : List (S51))).bind fun y194 => (ensembleref05_More.l0 k1 l1 (y194.set (t189 : Int).toNat (⟨(⟨(rd_T51 y194 t189).f0.f0, (rd_T51 y194 t189).f0.f1⟩ : S48), (rd_T51 y194 t189).f1, wrap64 (((rd_T51 y194 t189).f2) + ((rd_T52 l1 x7_1).f2))⟩ : S51)) (wrap64 (x7_1 + 1)))))) = some (r1, r2) := H
          have A20 := Aside0.mk A200
          clear A200
          by_cases c21 : t191 > 0
          ·rw [if_pos c21] at H
           have c21b0 : decide (0 < t191) = true := decide_eq_true c21
           clear c21
           simp only [Option.some.injEq, Prod.mk.injEq] at H
           obtain ⟨rfl, rfl⟩ := H
           have p187 : 0 ≤ (x7_1 : Int) := of_decide_eq_true Z1
           have q187 : x7_1 < (l1.length : Int) := of_decide_eq_true Z1
           obtain ⟨ad187, e187, hx187_0, hx187_1, hx187_2, hx187_3⟩ := at_T52 HR1.out x7_1 p187 q187
           cases e187
           replace hx187_0 := cx_ hx187_0
           replace hx187_1 := cx_ hx187_1
           replace hx187_2 := cx_ hx187_2
           replace hx187_3 := cx_ hx187_3
           replace p187 := eq_true p187
           replace q187 := eq_true q187
           try go_wp2_with (first | ((with_reducible refine gate_dst (N := 8) rfl ?_); refine bx 8 #[.int .i64 0, .int .i64 0, .int .u64 0, .int .i64 0] 52 ?_; intro gb188 hg w22 hbox hb; have BK188 := Aside0.mk (hbox); have GW188 := ge_ hg; have GE188 := ge_ hg; replace HO_6 := Aside0.mk (Kd.R_below Z6 hb); replace HB := hs_ hb; clear hb hbox hg; obtain ⟨hcz23_0, hcz23_1, hcz23_2, hcz23_3, hfz23_0, hfz23_1, hfz23_2, hfz23_3⟩ := bz4_ BK188; obtain ⟨Ao24, co24, eo24⟩ := Kd.R_slice HO_6.out; subst eo24) | ((with_reducible refine gate_callee (f := 79) rfl ?_); refine goesL_ (some 29) rfl rfl Try.func79 (by kernel_rfl) rfl #[.slice Ao24 x6_1.length co24, .agg #[.int .i64 ((rd_T52 l1 x7_1).f0.f0), .int .i64 ((rd_T52 l1 x7_1).f0.f1)]] rfl Z0 ?_; (with_reducible refine (ensembleref05_find.calls k1 _ _ x6_1 ((rd_T52 l1 x7_1).f0.f0) ((rd_T52 l1 x7_1).f0.f1) t189 _ ?side1 ?side2 A12.out).mono ?_); (case side1 => refine (Kd.R_reads' (e := 51) (base := w.heap.size) (ok := fun k_ => True) (n := x6_1.length) (c := co24) ?_).2.2; exact Z3); (case side2 => exact (Kd.R_reads' HO_6.out).2.1); rintro e w25 ⟨rfl, hb⟩; refine ⟨_, rfl, ?_⟩; replace HO_6 := Aside0.mk (Kd.R_below Z3 hb); replace BK188 := Aside0.mk (blk_below (g := gb188) (o := .cells #[.int .i64 ((rd_T52 l1 x7_1).f0.f0), .int .i64 ((rd_T52 l1 x7_1).f0.f1), .int .u64 ((rd_T52 l1 x7_1).f1), .int .i64 ((rd_T52 l1 x7_1).f2)] 52 (0, 0)) (by (with_reducible repeat (first | refine blk_drewN ?_ _ | refine blk_drew ?_ | refine blk_alloc ?_ _)); refine blk_put (cs := #[.int .i64 ((rd_T52 l1 x7_1).f0.f0), .int .i64 ((rd_T52 l1 x7_1).f0.f1), .int .u64 ((rd_T52 l1 x7_1).f1), .int .i64 0]) ?_ 3 _ rfl; (with_reducible repeat (first | refine blk_drewN ?_ _ | refine blk_drew ?_ | refine blk_alloc ?_ _)); refine blk_put (cs := #[.int .i64 ((rd_T52 l1 x7_1).f0.f0), .int .i64 ((rd_T52 l1 x7_1).f0.f1), .int .u64 0, .int .i64 0]) ?_ 2 _ rfl; (with_reducible repeat (first | refine blk_drewN ?_ _ | refine blk_drew ?_ | refine blk_alloc ?_ _)); refine blk_put (cs := #[.int .i64 ((rd_T52 l1 x7_1).f0.f0), .int .i64 0, .int .u64 0, .int .i64 0]) ?_ 1 _ rfl; (with_reducible repeat (first | refine blk_drewN ?_ _ | refine blk_drew ?_ | refine blk_alloc ?_ _)); refine blk_put (cs := #[.int .i64 0, .int .i64 0, .int .u64 0, .int .i64 0]) ?_ 0 _ rfl; (with_reducible repeat (first | refine blk_drewN ?_ _ | refine blk_drew ?_ | refine blk_alloc ?_ _)); exact BK188.out) hb); replace HB := hs_ hb; (try clear hb); (try clear hb2); (try clear hk); (try clear hi)))
           replace HO_6 := Aside0.mk (Kd.R_drew HO_6.out)
           replace BK188 := Aside0.mk (blk_drew BK188.out)
           replace HB := Aside0.mk (below_drew1 HB.out)
           have p190 : 0 ≤ (t189 : Int) := of_decide_eq_true Z1
           have q190 : t189 < (x6_1.length : Int) := of_decide_eq_true Z1
           obtain ⟨ad190, e190, hx190_0, hx190_1, hx190_2, hx190_3⟩ := at_T51 (Kd.R_reads' HO_6.out).2.2 t189 p190 q190
           cases e190
           replace p190 := eq_true p190
           replace q190 := eq_true q190
           refine start_ (n := 9) (S := fun w' => w'.cell? ⟨gb188, 0, none⟩ = some (.int .i64 ((rd_T52 l1 x7_1).f0.f0)) ∧ w'.cell? ⟨gb188, 1, none⟩ = some (.int .i64 ((rd_T52 l1 x7_1).f0.f1)) ∧ w'.cell? ⟨gb188, 2, none⟩ = some (.int .u64 ((rd_T52 l1 x7_1).f1)) ∧ w'.cell? ⟨gb188, 3, none⟩ = some (.int .i64 ((rd_T52 l1 x7_1).f2)) ∧ w'.cell? (ad190.add ((t189).toNat * 4)) = some (.int .i64 ((rd_T51 x6_1 t189).f0.f0)) ∧ w'.cell? ⟨(ad190.add ((t189).toNat * 4)).block, (ad190.add ((t189).toNat * 4)).off + 1, none⟩ = some (.int .i64 ((rd_T51 x6_1 t189).f0.f1)) ∧ w'.cell? ⟨(ad190.add ((t189).toNat * 4)).block, (ad190.add ((t189).toNat * 4)).off + 2, none⟩ = some (.int .u64 ((rd_T51 x6_1 t189).f1)) ∧ w'.cell? ⟨(ad190.add ((t189).toNat * 4)).block, (ad190.add ((t189).toNat * 4)).off + 3, none⟩ = some (.int .i64 ((rd_T51 x6_1 t189).f2))) (ds := []) (bm 9 0) (by kernel_rfl) rfl rfl ⟨(blk_cell BK188.out 0).trans rfl, (blk_cell BK188.out 1).trans rfl, (blk_cell BK188.out 2).trans rfl, (blk_cell BK188.out 3).trans rfl, hx190_0, hx190_1, hx190_2, hx190_3⟩ (fun hHeld => ?_); refine with_tabW ensembleref05_More.tab11 ensembleref05_More.bits11 (fun HT_ HW_ => ?_)
           generalize w25.drew = w26 at HO_6 BK188 HB hx190_0 hx190_1 hx190_2 hx190_3 hHeld ⊢
           refine pu 0 (some 32) (bm 9 1) ?_
           refine pu 2 (some 34) (bm 9 5) ?_
           refine pu 3 (some 35) (bm 9 13) ?_
           refine pu 4 (some 36) (bm 9 29) ?_
           refine pu 5 (some 37) (bm 9 61) ?_
           refine tk8 1 (some 33) (bm 9 63) ?_
           refine tk8 6 (some 38) (bm 9 127) ?_
           refine one_ (i := 7) (N := some 39) (bm 9 255) rfl rfl (one_of HT_.out (by kernel_rfl)) (by decide) (fun K hK => ?_)
           refine goes_ Try.func80 (by kernel_rfl) rfl #[.int .u64 ((rd_T52 l1 x7_1).f1), .int .u64 ((rd_T51 x6_1 t189).f1)] (by rfl) rfl rfl Z0 ?_
           with_reducible refine (ensembleref05_masks.calls k1 ((rd_T52 l1 x7_1).f1) ((rd_T51 x6_1 t189).f1) t191 _ A20.out).mono ?_
           rintro e w27 ⟨rfl, hb⟩
           have HS4_ := (hb.cell (World.block_lt_of_cell? _ _ (hHeld.2.2.2.2.1))).trans (hHeld.2.2.2.2.1)
           have HS5_ := (hb.cell (World.block_lt_of_cell? _ _ (hHeld.2.2.2.2.2.1))).trans (hHeld.2.2.2.2.2.1)
           have HS6_ := (hb.cell (World.block_lt_of_cell? _ _ (hHeld.2.2.2.2.2.2.1))).trans (hHeld.2.2.2.2.2.2.1)
           have HS7_ := (hb.cell (World.block_lt_of_cell? _ _ (hHeld.2.2.2.2.2.2.2))).trans (hHeld.2.2.2.2.2.2.2)
           refine ⟨_, rfl, ?_⟩
           replace HO_6 := Aside0.mk (Kd.R_below Z6 hb)
           replace BK188 := Aside0.mk (blk_below (g := gb188) (o := .cells #[.int .i64 ((rd_T52 l1 x7_1).f0.f0), .int .i64 ((rd_T52 l1 x7_1).f0.f1), .int .u64 ((rd_T52 l1 x7_1).f1), .int .i64 ((rd_T52 l1 x7_1).f2)] 52 (0, 0)) (bo_ BK188) hb)
           replace HB := hs_ hb
           (try clear hb)
           (try clear hb2)
           (try clear hk)
           (try clear hi)
           refine hK.out _ _ ⟨(blk_cell BK188.out 0).trans rfl, (blk_cell BK188.out 1).trans rfl, (blk_cell BK188.out 2).trans rfl, (blk_cell BK188.out 3).trans rfl, HS4_, HS5_, HS6_, HS7_⟩ (fun hHeld => ?_)
           clear hK K
           refine norm_ (a' := ?_) ?_ ?_
           rotate_left
           ·show Act.put _ (some 39) _ = _
            simp only [Act.put, List.setIfInBounds_toArray, List.set_cons_zero, List.set_cons_succ, i64_w, i32_w]
            rfl
           refine pu 8 (some 40) (bm 9 511) ?_
           refine done_ (done_of HT_.out (by kernel_rfl)) ?_
           try go_wp2
           go_ret2
           exact ⟨_, by first | rfl | (simp [errW_none, errW_some] <;> rfl) | (simp [*, errW_none, errW_some] <;> rfl), by first | exact Kd.R_nil _ _ _ _ _ | exact Kd.N_nil _ _ _ _ _ | exact Kd.V_nil _ _ _ _ _ | exact Kd.Q_nil _ _ _ _ _ | exact Kd.S_nil _ _ _ _ _, hb_⟩
          ·rw [if_neg c21] at H
           have c21b0 : decide (0 < t191) = false := decide_eq_false c21
           clear c21
           by_cases c28 : ((rd_T52 l1 x7_1).f2) > (wrap64 (1048576 - ((rd_T51 x6_1 t189).f2)))
           ·rw [if_pos c28] at H
            have c28b0 : decide ((wrap64 (1048576 - ((rd_T51 x6_1 t189).f2))) < ((rd_T52 l1 x7_1).f2)) = true := decide_eq_true c28
            clear c28
            simp only [Option.some.injEq, Prod.mk.injEq] at H
            obtain ⟨rfl, rfl⟩ := H
            have p187 : 0 ≤ (x7_1 : Int) := of_decide_eq_true Z1
            have q187 : x7_1 < (l1.length : Int) := of_decide_eq_true Z1
            obtain ⟨ad187, e187, hx187_0, hx187_1, hx187_2, hx187_3⟩ := at_T52 HR1.out x7_1 p187 q187
            cases e187
            replace hx187_0 := cx_ hx187_0
            replace hx187_1 := cx_ hx187_1
            replace hx187_2 := cx_ hx187_2
            replace hx187_3 := cx_ hx187_3
            replace p187 := eq_true p187
            replace q187 := eq_true q187
            try go_wp2_with (first | ((with_reducible refine gate_dst (N := 8) rfl ?_); refine bx 8 #[.int .i64 0, .int .i64 0, .int .u64 0, .int .i64 0] 52 ?_; intro gb188 hg w29 hbox hb; have BK188 := Aside0.mk (hbox); have GW188 := ge_ hg; have GE188 := ge_ hg; replace HO_6 := Aside0.mk (Kd.R_below Z6 hb); replace HB := hs_ hb; clear hb hbox hg; obtain ⟨hcz30_0, hcz30_1, hcz30_2, hcz30_3, hfz30_0, hfz30_1, hfz30_2, hfz30_3⟩ := bz4_ BK188; obtain ⟨Ao31, co31, eo31⟩ := Kd.R_slice HO_6.out; subst eo31) | ((with_reducible refine gate_callee (f := 79) rfl ?_); refine goesL_ (some 29) rfl rfl Try.func79 (by kernel_rfl) rfl #[.slice Ao31 x6_1.length co31, .agg #[.int .i64 ((rd_T52 l1 x7_1).f0.f0), .int .i64 ((rd_T52 l1 x7_1).f0.f1)]] rfl Z0 ?_; (with_reducible refine (ensembleref05_find.calls k1 _ _ x6_1 ((rd_T52 l1 x7_1).f0.f0) ((rd_T52 l1 x7_1).f0.f1) t189 _ ?side1 ?side2 A12.out).mono ?_); (case side1 => refine (Kd.R_reads' (e := 51) (base := w.heap.size) (ok := fun k_ => True) (n := x6_1.length) (c := co31) ?_).2.2; exact Z3); (case side2 => exact (Kd.R_reads' HO_6.out).2.1); rintro e w32 ⟨rfl, hb⟩; refine ⟨_, rfl, ?_⟩; replace HO_6 := Aside0.mk (Kd.R_below Z3 hb); replace BK188 := Aside0.mk (blk_below (g := gb188) (o := .cells #[.int .i64 ((rd_T52 l1 x7_1).f0.f0), .int .i64 ((rd_T52 l1 x7_1).f0.f1), .int .u64 ((rd_T52 l1 x7_1).f1), .int .i64 ((rd_T52 l1 x7_1).f2)] 52 (0, 0)) (by (with_reducible repeat (first | refine blk_drewN ?_ _ | refine blk_drew ?_ | refine blk_alloc ?_ _)); refine blk_put (cs := #[.int .i64 ((rd_T52 l1 x7_1).f0.f0), .int .i64 ((rd_T52 l1 x7_1).f0.f1), .int .u64 ((rd_T52 l1 x7_1).f1), .int .i64 0]) ?_ 3 _ rfl; (with_reducible repeat (first | refine blk_drewN ?_ _ | refine blk_drew ?_ | refine blk_alloc ?_ _)); refine blk_put (cs := #[.int .i64 ((rd_T52 l1 x7_1).f0.f0), .int .i64 ((rd_T52 l1 x7_1).f0.f1), .int .u64 0, .int .i64 0]) ?_ 2 _ rfl; (with_reducible repeat (first | refine blk_drewN ?_ _ | refine blk_drew ?_ | refine blk_alloc ?_ _)); refine blk_put (cs := #[.int .i64 ((rd_T52 l1 x7_1).f0.f0), .int .i64 0, .int .u64 0, .int .i64 0]) ?_ 1 _ rfl; (with_reducible repeat (first | refine blk_drewN ?_ _ | refine blk_drew ?_ | refine blk_alloc ?_ _)); refine blk_put (cs := #[.int .i64 0, .int .i64 0, .int .u64 0, .int .i64 0]) ?_ 0 _ rfl; (with_reducible repeat (first | refine blk_drewN ?_ _ | refine blk_drew ?_ | refine blk_alloc ?_ _)); exact BK188.out) hb); replace HB := hs_ hb; (try clear hb); (try clear hb2); (try clear hk); (try clear hi)))
            replace HO_6 := Aside0.mk (Kd.R_drew HO_6.out)
            replace BK188 := Aside0.mk (blk_drew BK188.out)
            replace HB := Aside0.mk (below_drew1 HB.out)
            have p190 : 0 ≤ (t189 : Int) := of_decide_eq_true Z1
            have q190 : t189 < (x6_1.length : Int) := of_decide_eq_true Z1
            obtain ⟨ad190, e190, hx190_0, hx190_1, hx190_2, hx190_3⟩ := at_T51 (Kd.R_reads' HO_6.out).2.2 t189 p190 q190
            cases e190
            replace p190 := eq_true p190
            replace q190 := eq_true q190
            refine start_ (n := 9) (S := fun w' => w'.cell? ⟨gb188, 0, none⟩ = some (.int .i64 ((rd_T52 l1 x7_1).f0.f0)) ∧ w'.cell? ⟨gb188, 1, none⟩ = some (.int .i64 ((rd_T52 l1 x7_1).f0.f1)) ∧ w'.cell? ⟨gb188, 2, none⟩ = some (.int .u64 ((rd_T52 l1 x7_1).f1)) ∧ w'.cell? ⟨gb188, 3, none⟩ = some (.int .i64 ((rd_T52 l1 x7_1).f2)) ∧ w'.cell? (ad190.add ((t189).toNat * 4)) = some (.int .i64 ((rd_T51 x6_1 t189).f0.f0)) ∧ w'.cell? ⟨(ad190.add ((t189).toNat * 4)).block, (ad190.add ((t189).toNat * 4)).off + 1, none⟩ = some (.int .i64 ((rd_T51 x6_1 t189).f0.f1)) ∧ w'.cell? ⟨(ad190.add ((t189).toNat * 4)).block, (ad190.add ((t189).toNat * 4)).off + 2, none⟩ = some (.int .u64 ((rd_T51 x6_1 t189).f1)) ∧ w'.cell? ⟨(ad190.add ((t189).toNat * 4)).block, (ad190.add ((t189).toNat * 4)).off + 3, none⟩ = some (.int .i64 ((rd_T51 x6_1 t189).f2))) (ds := []) (bm 9 0) (by kernel_rfl) rfl rfl ⟨(blk_cell BK188.out 0).trans rfl, (blk_cell BK188.out 1).trans rfl, (blk_cell BK188.out 2).trans rfl, (blk_cell BK188.out 3).trans rfl, hx190_0, hx190_1, hx190_2, hx190_3⟩ (fun hHeld => ?_); refine with_tabW ensembleref05_More.tab11 ensembleref05_More.bits11 (fun HT_ HW_ => ?_)
            generalize w32.drew = w33 at HO_6 BK188 HB hx190_0 hx190_1 hx190_2 hx190_3 hHeld ⊢
            refine pu 0 (some 32) (bm 9 1) ?_
            refine pu 2 (some 34) (bm 9 5) ?_
            refine pu 3 (some 35) (bm 9 13) ?_
            refine pu 4 (some 36) (bm 9 29) ?_
            refine pu 5 (some 37) (bm 9 61) ?_
            refine tk8 1 (some 33) (bm 9 63) ?_
            refine tk8 6 (some 38) (bm 9 127) ?_
            refine one_ (i := 7) (N := some 39) (bm 9 255) rfl rfl (one_of HT_.out (by kernel_rfl)) (by decide) (fun K hK => ?_)
            refine goes_ Try.func80 (by kernel_rfl) rfl #[.int .u64 ((rd_T52 l1 x7_1).f1), .int .u64 ((rd_T51 x6_1 t189).f1)] (by rfl) rfl rfl Z0 ?_
            with_reducible refine (ensembleref05_masks.calls k1 ((rd_T52 l1 x7_1).f1) ((rd_T51 x6_1 t189).f1) t191 _ A20.out).mono ?_
            rintro e w34 ⟨rfl, hb⟩
            have HS4_ := (hb.cell (World.block_lt_of_cell? _ _ (hHeld.2.2.2.2.1))).trans (hHeld.2.2.2.2.1)
            have HS5_ := (hb.cell (World.block_lt_of_cell? _ _ (hHeld.2.2.2.2.2.1))).trans (hHeld.2.2.2.2.2.1)
            have HS6_ := (hb.cell (World.block_lt_of_cell? _ _ (hHeld.2.2.2.2.2.2.1))).trans (hHeld.2.2.2.2.2.2.1)
            have HS7_ := (hb.cell (World.block_lt_of_cell? _ _ (hHeld.2.2.2.2.2.2.2))).trans (hHeld.2.2.2.2.2.2.2)
            refine ⟨_, rfl, ?_⟩
            replace HO_6 := Aside0.mk (Kd.R_below Z6 hb)
            replace BK188 := Aside0.mk (blk_below (g := gb188) (o := .cells #[.int .i64 ((rd_T52 l1 x7_1).f0.f0), .int .i64 ((rd_T52 l1 x7_1).f0.f1), .int .u64 ((rd_T52 l1 x7_1).f1), .int .i64 ((rd_T52 l1 x7_1).f2)] 52 (0, 0)) (bo_ BK188) hb)
            replace HB := hs_ hb
            (try clear hb)
            (try clear hb2)
            (try clear hk)
            (try clear hi)
            refine hK.out _ _ ⟨(blk_cell BK188.out 0).trans rfl, (blk_cell BK188.out 1).trans rfl, (blk_cell BK188.out 2).trans rfl, (blk_cell BK188.out 3).trans rfl, HS4_, HS5_, HS6_, HS7_⟩ (fun hHeld => ?_)
            clear hK K
            refine norm_ (a' := ?_) ?_ ?_
            rotate_left
            ·show Act.put _ (some 39) _ = _
             simp only [Act.put, List.setIfInBounds_toArray, List.set_cons_zero, List.set_cons_succ, i64_w, i32_w]
             rfl
            refine pu 8 (some 40) (bm 9 511) ?_
            refine done_ (done_of HT_.out (by kernel_rfl)) ?_
            try go_wp2
            replace HO_6 := Aside0.mk (Kd.R_drew HO_6.out)
            replace BK188 := Aside0.mk (blk_drew BK188.out)
            replace HB := Aside0.mk (below_drew1 HB.out)
            have p192 : 0 ≤ (t189 : Int) := of_decide_eq_true Z1
            have q192 : t189 < (x6_1.length : Int) := of_decide_eq_true Z1
            obtain ⟨ad192, e192, hx192_0, hx192_1, hx192_2, hx192_3⟩ := at_T51 (Kd.R_reads' HO_6.out).2.2 t189 p192 q192
            obtain rfl : ad190 = ad192 := (by injection e192)
            replace p192 := eq_true p192
            replace q192 := eq_true q192
            refine start_ (n := 9) (S := fun w' => w'.cell? ⟨gb188, 0, none⟩ = some (.int .i64 ((rd_T52 l1 x7_1).f0.f0)) ∧ w'.cell? ⟨gb188, 1, none⟩ = some (.int .i64 ((rd_T52 l1 x7_1).f0.f1)) ∧ w'.cell? ⟨gb188, 2, none⟩ = some (.int .u64 ((rd_T52 l1 x7_1).f1)) ∧ w'.cell? ⟨gb188, 3, none⟩ = some (.int .i64 ((rd_T52 l1 x7_1).f2)) ∧ w'.cell? (ad190.add ((t189).toNat * 4)) = some (.int .i64 ((rd_T51 x6_1 t189).f0.f0)) ∧ w'.cell? ⟨(ad190.add ((t189).toNat * 4)).block, (ad190.add ((t189).toNat * 4)).off + 1, none⟩ = some (.int .i64 ((rd_T51 x6_1 t189).f0.f1)) ∧ w'.cell? ⟨(ad190.add ((t189).toNat * 4)).block, (ad190.add ((t189).toNat * 4)).off + 2, none⟩ = some (.int .u64 ((rd_T51 x6_1 t189).f1)) ∧ w'.cell? ⟨(ad190.add ((t189).toNat * 4)).block, (ad190.add ((t189).toNat * 4)).off + 3, none⟩ = some (.int .i64 ((rd_T51 x6_1 t189).f2))) (ds := []) (bm 9 0) (by kernel_rfl) rfl rfl ⟨(blk_cell BK188.out 0).trans rfl, (blk_cell BK188.out 1).trans rfl, (blk_cell BK188.out 2).trans rfl, (blk_cell BK188.out 3).trans rfl, hx192_0, hx192_1, hx192_2, hx192_3⟩ (fun hHeld => ?_); refine with_tabW ensembleref05_More.tab13 ensembleref05_More.bits13 (fun HT_ HW_ => ?_)
            generalize w34.drew = w35 at HO_6 BK188 HB hx192_0 hx192_1 hx192_2 hx192_3 hHeld ⊢
            refine pu 0 (some 41) (bm 9 1) ?_
            refine pu 2 (some 43) (bm 9 5) ?_
            refine pu 3 (some 44) (bm 9 13) ?_
            refine pu 4 (some 45) (bm 9 29) ?_
            refine pu 5 (some 46) (bm 9 61) ?_
            refine tk8 1 (some 42) (bm 9 63) ?_
            refine tk8 6 (some 47) (bm 9 127) ?_
            refine pu 7 (some 48) (bm 9 255) ?_
            refine pu 8 (some 49) (bm 9 511) ?_
            refine done_ (done_of HT_.out (by kernel_rfl)) ?_
            try go_wp2
            go_ret2
            exact ⟨_, by first | rfl | (simp [errW_none, errW_some] <;> rfl) | (simp [*, errW_none, errW_some] <;> rfl), by first | exact Kd.R_nil _ _ _ _ _ | exact Kd.N_nil _ _ _ _ _ | exact Kd.V_nil _ _ _ _ _ | exact Kd.Q_nil _ _ _ _ _ | exact Kd.S_nil _ _ _ _ _, hb_⟩
           ·rw [if_neg c28] at H
            have c28b0 : decide ((wrap64 (1048576 - ((rd_T51 x6_1 t189).f2))) < ((rd_T52 l1 x7_1).f2)) = false := decide_eq_false c28
            clear c28
            obtain ⟨y194, hy194⟩ : ∃ y_ : List (S51), y_ = (x6_1.set (t189 : Int).toNat (⟨(⟨(rd_T51 x6_1 t189).f0.f0, (rd_T51 x6_1 t189).f0.f1⟩ : S48), IntKind.u64.wrap (((rd_T51 x6_1 t189).f1) + ((rd_T52 l1 x7_1).f1)), (rd_T51 x6_1 t189).f2⟩ : S51)) := ⟨_, rfl⟩
            replace H : (ensembleref05_More.l0 k1 l1 (y194.set (t189 : Int).toNat (⟨(⟨(rd_T51 y194 t189).f0.f0, (rd_T51 y194 t189).f0.f1⟩ : S48), (rd_T51 y194 t189).f1, wrap64 (((rd_T51 y194 t189).f2) + ((rd_T52 l1 x7_1).f2))⟩ : S51)) (wrap64 (x7_1 + 1))) = some (r1, r2) := by first | (rw [hy194]; with_reducible exact H) | (have H2_ := (Option.bind_some _ _).symm.trans H; rw [hy194]; with_reducible exact H2_) | (have H2_ := (Option.bind_some _ _).symm.trans H; with_reducible exact H2_) | with_reducible exact H | (rw [hy194]; exact H) | exact H
            have Ny194 := Aside0.mk hy194
            clear hy194
            obtain ⟨y196, hy196⟩ : ∃ y_ : List (S51), y_ = (y194.set (t189 : Int).toNat (⟨(⟨(rd_T51 y194 t189).f0.f0, (rd_T51 y194 t189).f0.f1⟩ : S48), (rd_T51 y194 t189).f1, wrap64 (((rd_T51 y194 t189).f2) + ((rd_T52 l1 x7_1).f2))⟩ : S51)) := ⟨_, rfl⟩
            replace H : (ensembleref05_More.l0 k1 l1 y196 (wrap64 (x7_1 + 1))) = some (r1, r2) := by first | (rw [hy196]; with_reducible exact H) | (have H2_ := (Option.bind_some _ _).symm.trans H; rw [hy196]; with_reducible exact H2_) | (have H2_ := (Option.bind_some _ _).symm.trans H; with_reducible exact H2_) | with_reducible exact H | (rw [hy196]; exact H) | exact H
            have Ny196 := Aside0.mk hy196
            clear hy196
            have H' := Aside0.mk H
            clear H
            have p187 : 0 ≤ (x7_1 : Int) := of_decide_eq_true Z1
            have q187 : x7_1 < (l1.length : Int) := of_decide_eq_true Z1
            obtain ⟨ad187, e187, hx187_0, hx187_1, hx187_2, hx187_3⟩ := at_T52 HR1.out x7_1 p187 q187
            cases e187
            replace hx187_0 := cx_ hx187_0
            replace hx187_1 := cx_ hx187_1
            replace hx187_2 := cx_ hx187_2
            replace hx187_3 := cx_ hx187_3
            replace p187 := eq_true p187
            replace q187 := eq_true q187
            try go_wp2_with (first | ((with_reducible refine gate_dst (N := 8) rfl ?_); refine bx 8 #[.int .i64 0, .int .i64 0, .int .u64 0, .int .i64 0] 52 ?_; intro gb188 hg w38 hbox hb; have BK188 := Aside0.mk (hbox); have GW188 := ge_ hg; have GE188 := ge_ hg; replace HO_6 := Aside0.mk (Kd.R_below Z6 hb); replace HB := hs_ hb; clear hb hbox hg; obtain ⟨hcz39_0, hcz39_1, hcz39_2, hcz39_3, hfz39_0, hfz39_1, hfz39_2, hfz39_3⟩ := bz4_ BK188; obtain ⟨Ao40, co40, eo40⟩ := Kd.R_slice HO_6.out; subst eo40) | ((with_reducible refine gate_callee (f := 79) rfl ?_); refine goesL_ (some 29) rfl rfl Try.func79 (by kernel_rfl) rfl #[.slice Ao40 x6_1.length co40, .agg #[.int .i64 ((rd_T52 l1 x7_1).f0.f0), .int .i64 ((rd_T52 l1 x7_1).f0.f1)]] rfl Z0 ?_; (with_reducible refine (ensembleref05_find.calls k1 _ _ x6_1 ((rd_T52 l1 x7_1).f0.f0) ((rd_T52 l1 x7_1).f0.f1) t189 _ ?side1 ?side2 A12.out).mono ?_); (case side1 => refine (Kd.R_reads' (e := 51) (base := w.heap.size) (ok := fun k_ => True) (n := x6_1.length) (c := co40) ?_).2.2; exact Z3); (case side2 => exact (Kd.R_reads' HO_6.out).2.1); rintro e w41 ⟨rfl, hb⟩; refine ⟨_, rfl, ?_⟩; replace HO_6 := Aside0.mk (Kd.R_below Z3 hb); replace BK188 := Aside0.mk (blk_below (g := gb188) (o := .cells #[.int .i64 ((rd_T52 l1 x7_1).f0.f0), .int .i64 ((rd_T52 l1 x7_1).f0.f1), .int .u64 ((rd_T52 l1 x7_1).f1), .int .i64 ((rd_T52 l1 x7_1).f2)] 52 (0, 0)) (by (with_reducible repeat (first | refine blk_drewN ?_ _ | refine blk_drew ?_ | refine blk_alloc ?_ _)); refine blk_put (cs := #[.int .i64 ((rd_T52 l1 x7_1).f0.f0), .int .i64 ((rd_T52 l1 x7_1).f0.f1), .int .u64 ((rd_T52 l1 x7_1).f1), .int .i64 0]) ?_ 3 _ rfl; (with_reducible repeat (first | refine blk_drewN ?_ _ | refine blk_drew ?_ | refine blk_alloc ?_ _)); refine blk_put (cs := #[.int .i64 ((rd_T52 l1 x7_1).f0.f0), .int .i64 ((rd_T52 l1 x7_1).f0.f1), .int .u64 0, .int .i64 0]) ?_ 2 _ rfl; (with_reducible repeat (first | refine blk_drewN ?_ _ | refine blk_drew ?_ | refine blk_alloc ?_ _)); refine blk_put (cs := #[.int .i64 ((rd_T52 l1 x7_1).f0.f0), .int .i64 0, .int .u64 0, .int .i64 0]) ?_ 1 _ rfl; (with_reducible repeat (first | refine blk_drewN ?_ _ | refine blk_drew ?_ | refine blk_alloc ?_ _)); refine blk_put (cs := #[.int .i64 0, .int .i64 0, .int .u64 0, .int .i64 0]) ?_ 0 _ rfl; (with_reducible repeat (first | refine blk_drewN ?_ _ | refine blk_drew ?_ | refine blk_alloc ?_ _)); exact BK188.out) hb); replace HB := hs_ hb; (try clear hb); (try clear hb2); (try clear hk); (try clear hi)))
            replace HO_6 := Aside0.mk (Kd.R_drew HO_6.out)
            replace BK188 := Aside0.mk (blk_drew BK188.out)
            replace HB := Aside0.mk (below_drew1 HB.out)
            have p190 : 0 ≤ (t189 : Int) := of_decide_eq_true Z1
            have q190 : t189 < (x6_1.length : Int) := of_decide_eq_true Z1
            obtain ⟨ad190, e190, hx190_0, hx190_1, hx190_2, hx190_3⟩ := at_T51 (Kd.R_reads' HO_6.out).2.2 t189 p190 q190
            cases e190
            replace p190 := eq_true p190
            replace q190 := eq_true q190
            refine start_ (n := 9) (S := fun w' => w'.cell? ⟨gb188, 0, none⟩ = some (.int .i64 ((rd_T52 l1 x7_1).f0.f0)) ∧ w'.cell? ⟨gb188, 1, none⟩ = some (.int .i64 ((rd_T52 l1 x7_1).f0.f1)) ∧ w'.cell? ⟨gb188, 2, none⟩ = some (.int .u64 ((rd_T52 l1 x7_1).f1)) ∧ w'.cell? ⟨gb188, 3, none⟩ = some (.int .i64 ((rd_T52 l1 x7_1).f2)) ∧ w'.cell? (ad190.add ((t189).toNat * 4)) = some (.int .i64 ((rd_T51 x6_1 t189).f0.f0)) ∧ w'.cell? ⟨(ad190.add ((t189).toNat * 4)).block, (ad190.add ((t189).toNat * 4)).off + 1, none⟩ = some (.int .i64 ((rd_T51 x6_1 t189).f0.f1)) ∧ w'.cell? ⟨(ad190.add ((t189).toNat * 4)).block, (ad190.add ((t189).toNat * 4)).off + 2, none⟩ = some (.int .u64 ((rd_T51 x6_1 t189).f1)) ∧ w'.cell? ⟨(ad190.add ((t189).toNat * 4)).block, (ad190.add ((t189).toNat * 4)).off + 3, none⟩ = some (.int .i64 ((rd_T51 x6_1 t189).f2))) (ds := []) (bm 9 0) (by kernel_rfl) rfl rfl ⟨(blk_cell BK188.out 0).trans rfl, (blk_cell BK188.out 1).trans rfl, (blk_cell BK188.out 2).trans rfl, (blk_cell BK188.out 3).trans rfl, hx190_0, hx190_1, hx190_2, hx190_3⟩ (fun hHeld => ?_); refine with_tabW ensembleref05_More.tab11 ensembleref05_More.bits11 (fun HT_ HW_ => ?_)
            generalize w41.drew = w42 at HO_6 BK188 HB hx190_0 hx190_1 hx190_2 hx190_3 hHeld ⊢
            refine pu 0 (some 32) (bm 9 1) ?_
            refine pu 2 (some 34) (bm 9 5) ?_
            refine pu 3 (some 35) (bm 9 13) ?_
            refine pu 4 (some 36) (bm 9 29) ?_
            refine pu 5 (some 37) (bm 9 61) ?_
            refine tk8 1 (some 33) (bm 9 63) ?_
            refine tk8 6 (some 38) (bm 9 127) ?_
            refine one_ (i := 7) (N := some 39) (bm 9 255) rfl rfl (one_of HT_.out (by kernel_rfl)) (by decide) (fun K hK => ?_)
            refine goes_ Try.func80 (by kernel_rfl) rfl #[.int .u64 ((rd_T52 l1 x7_1).f1), .int .u64 ((rd_T51 x6_1 t189).f1)] (by rfl) rfl rfl Z0 ?_
            with_reducible refine (ensembleref05_masks.calls k1 ((rd_T52 l1 x7_1).f1) ((rd_T51 x6_1 t189).f1) t191 _ A20.out).mono ?_
            rintro e w43 ⟨rfl, hb⟩
            have HS4_ := (hb.cell (World.block_lt_of_cell? _ _ (hHeld.2.2.2.2.1))).trans (hHeld.2.2.2.2.1)
            have HS5_ := (hb.cell (World.block_lt_of_cell? _ _ (hHeld.2.2.2.2.2.1))).trans (hHeld.2.2.2.2.2.1)
            have HS6_ := (hb.cell (World.block_lt_of_cell? _ _ (hHeld.2.2.2.2.2.2.1))).trans (hHeld.2.2.2.2.2.2.1)
            have HS7_ := (hb.cell (World.block_lt_of_cell? _ _ (hHeld.2.2.2.2.2.2.2))).trans (hHeld.2.2.2.2.2.2.2)
            refine ⟨_, rfl, ?_⟩
            replace HO_6 := Aside0.mk (Kd.R_below Z6 hb)
            replace BK188 := Aside0.mk (blk_below (g := gb188) (o := .cells #[.int .i64 ((rd_T52 l1 x7_1).f0.f0), .int .i64 ((rd_T52 l1 x7_1).f0.f1), .int .u64 ((rd_T52 l1 x7_1).f1), .int .i64 ((rd_T52 l1 x7_1).f2)] 52 (0, 0)) (bo_ BK188) hb)
            replace HB := hs_ hb
            (try clear hb)
            (try clear hb2)
            (try clear hk)
            (try clear hi)
            refine hK.out _ _ ⟨(blk_cell BK188.out 0).trans rfl, (blk_cell BK188.out 1).trans rfl, (blk_cell BK188.out 2).trans rfl, (blk_cell BK188.out 3).trans rfl, HS4_, HS5_, HS6_, HS7_⟩ (fun hHeld => ?_)
            clear hK K
            refine norm_ (a' := ?_) ?_ ?_
            rotate_left
            ·show Act.put _ (some 39) _ = _
             simp only [Act.put, List.setIfInBounds_toArray, List.set_cons_zero, List.set_cons_succ, i64_w, i32_w]
             rfl
            refine pu 8 (some 40) (bm 9 511) ?_
            refine done_ (done_of HT_.out (by kernel_rfl)) ?_
            try go_wp2
            replace HO_6 := Aside0.mk (Kd.R_drew HO_6.out)
            replace BK188 := Aside0.mk (blk_drew BK188.out)
            replace HB := Aside0.mk (below_drew1 HB.out)
            have p192 : 0 ≤ (t189 : Int) := of_decide_eq_true Z1
            have q192 : t189 < (x6_1.length : Int) := of_decide_eq_true Z1
            obtain ⟨ad192, e192, hx192_0, hx192_1, hx192_2, hx192_3⟩ := at_T51 (Kd.R_reads' HO_6.out).2.2 t189 p192 q192
            obtain rfl : ad190 = ad192 := (by injection e192)
            replace p192 := eq_true p192
            replace q192 := eq_true q192
            refine start_ (n := 9) (S := fun w' => w'.cell? ⟨gb188, 0, none⟩ = some (.int .i64 ((rd_T52 l1 x7_1).f0.f0)) ∧ w'.cell? ⟨gb188, 1, none⟩ = some (.int .i64 ((rd_T52 l1 x7_1).f0.f1)) ∧ w'.cell? ⟨gb188, 2, none⟩ = some (.int .u64 ((rd_T52 l1 x7_1).f1)) ∧ w'.cell? ⟨gb188, 3, none⟩ = some (.int .i64 ((rd_T52 l1 x7_1).f2)) ∧ w'.cell? (ad190.add ((t189).toNat * 4)) = some (.int .i64 ((rd_T51 x6_1 t189).f0.f0)) ∧ w'.cell? ⟨(ad190.add ((t189).toNat * 4)).block, (ad190.add ((t189).toNat * 4)).off + 1, none⟩ = some (.int .i64 ((rd_T51 x6_1 t189).f0.f1)) ∧ w'.cell? ⟨(ad190.add ((t189).toNat * 4)).block, (ad190.add ((t189).toNat * 4)).off + 2, none⟩ = some (.int .u64 ((rd_T51 x6_1 t189).f1)) ∧ w'.cell? ⟨(ad190.add ((t189).toNat * 4)).block, (ad190.add ((t189).toNat * 4)).off + 3, none⟩ = some (.int .i64 ((rd_T51 x6_1 t189).f2))) (ds := []) (bm 9 0) (by kernel_rfl) rfl rfl ⟨(blk_cell BK188.out 0).trans rfl, (blk_cell BK188.out 1).trans rfl, (blk_cell BK188.out 2).trans rfl, (blk_cell BK188.out 3).trans rfl, hx192_0, hx192_1, hx192_2, hx192_3⟩ (fun hHeld => ?_); refine with_tabW ensembleref05_More.tab13 ensembleref05_More.bits13 (fun HT_ HW_ => ?_)
            generalize w43.drew = w44 at HO_6 BK188 HB hx192_0 hx192_1 hx192_2 hx192_3 hHeld ⊢
            refine pu 0 (some 41) (bm 9 1) ?_
            refine pu 2 (some 43) (bm 9 5) ?_
            refine pu 3 (some 44) (bm 9 13) ?_
            refine pu 4 (some 45) (bm 9 29) ?_
            refine pu 5 (some 46) (bm 9 61) ?_
            refine tk8 1 (some 42) (bm 9 63) ?_
            refine tk8 6 (some 47) (bm 9 127) ?_
            refine pu 7 (some 48) (bm 9 255) ?_
            refine pu 8 (some 49) (bm 9 511) ?_
            refine done_ (done_of HT_.out (by kernel_rfl)) ?_
            try go_wp2
            replace HO_6 := Aside0.mk (Kd.R_drew HO_6.out)
            replace BK188 := Aside0.mk (blk_drew BK188.out)
            replace HB := Aside0.mk (below_drew1 HB.out)
            have p193 : 0 ≤ (t189 : Int) := of_decide_eq_true Z1
            have q193 : t189 < (x6_1.length : Int) := of_decide_eq_true Z1
            obtain ⟨ad193, e193, hx193_0, hx193_1, hx193_2, hx193_3⟩ := at_T51 (Kd.R_reads' HO_6.out).2.2 t189 p193 q193
            obtain rfl : ad190 = ad193 := (by injection e193)
            replace p193 := eq_true p193
            replace q193 := eq_true q193
            have p36 : 0 ≤ (t189 : Int) := of_decide_eq_true Z1
            have q36 : (t189 : Int) < ((x6_1.length : Int) : Int) := of_decide_eq_true Z1
            obtain ⟨go36, co36, eo36, gb36, gl36, cl36, HG36⟩ := Kd.R_form HO_6.out (by omega)
            (first | cases eo36 | (injection eo36 with ea_ en_ ec_; (first | subst ea_ | (injection ea_ with ea_; subst ea_)); subst ec_; clear en_))
            have GB36 := Aside0.mk gb36
            have GG36 := Aside0.mk HG36
            clear gb36 gl36 HG36
            (first | simp only [add_plain] at hx190_0 | skip)
            (first | simp only [add_plain] at hx190_1 | skip)
            (first | simp only [add_plain] at hx190_2 | skip)
            (first | simp only [add_plain] at hx190_3 | skip)
            (first | simp only [add_plain] at hx192_0 | skip)
            (first | simp only [add_plain] at hx192_1 | skip)
            (first | simp only [add_plain] at hx192_2 | skip)
            (first | simp only [add_plain] at hx192_3 | skip)
            (first | simp only [add_plain] at hx193_0 | skip)
            (first | simp only [add_plain] at hx193_1 | skip)
            (first | simp only [add_plain] at hx193_2 | skip)
            (first | simp only [add_plain] at hx193_3 | skip)
            obtain ⟨ce36, hcl36, hM36, hcc36, hfr36⟩ := Kd.R_elem HO_6.out z51 (t189 : Int) p36 q36
            obtain rfl := k51_openM hM36
            have hx36_0 : World.cell? _ ⟨go36, (t189 : Int).toNat * 4, none⟩ = some (.int .i64 ((rd_T51 x6_1 t189).f0.f0)) := hcc36 0 _ rfl
            have hx36_1 : World.cell? _ ⟨go36, (t189 : Int).toNat * 4 + 1, none⟩ = some (.int .i64 ((rd_T51 x6_1 t189).f0.f1)) := hcc36 1 _ rfl
            have hx36_2 : World.cell? _ ⟨go36, (t189 : Int).toNat * 4 + 2, none⟩ = some (.int .u64 ((rd_T51 x6_1 t189).f1)) := hcc36 2 _ rfl
            have hx36_3 : World.cell? _ ⟨go36, (t189 : Int).toNat * 4 + 3, none⟩ = some (.int .i64 ((rd_T51 x6_1 t189).f2)) := hcc36 3 _ rfl
            have hf36_0 : World.frozen? _ ⟨go36, (t189 : Int).toNat * 4, none⟩ = false := hfr36 0
            have hf36_1 : World.frozen? _ ⟨go36, (t189 : Int).toNat * 4 + 1, none⟩ = false := hfr36 1
            have hf36_2 : World.frozen? _ ⟨go36, (t189 : Int).toNat * 4 + 2, none⟩ = false := hfr36 2
            have hf36_3 : World.frozen? _ ⟨go36, (t189 : Int).toNat * 4 + 3, none⟩ = false := hfr36 3
            clear hcl36 hcc36 hfr36 hM36
            replace p36 := eq_true p36
            replace q36 := eq_true q36
            obtain ⟨ce46, hcl46, hM46, hcc46, hfr46⟩ := Kd.R_elem HO_6.out z51 (t189 : Int) (of_decide_eq_true Z1) (by have h_ : (t189 : Int) < ((x6_1.length : Int) : Int) := of_decide_eq_true Z1; first | exact h_ | (have e_ := (Kd.R_reads' HO_6.out).1; omega) | simpa using h_)
            obtain rfl := k51_openM hM46
            have HP46 := (Kd.R_seg HO_6.out (t189 : Int) (of_decide_eq_true Z1) (by have h_ : (t189 : Int) < ((x6_1.length : Int) : Int) := of_decide_eq_true Z1; first | exact h_ | (have e_ := (Kd.R_reads' HO_6.out).1; omega) | simpa using h_) (seg := [.int .u64 (IntKind.u64.wrap (((rd_T51 x6_1 t189).f1) + ((rd_T52 l1 x7_1).f1)))]) (j := 2) hcl46 hcc46 (show 3 ≤ 4 from by decide) (x' := (⟨(⟨(rd_T51 x6_1 t189).f0.f0, (rd_T51 x6_1 t189).f0.f1⟩ : S48), IntKind.u64.wrap (((rd_T51 x6_1 t189).f1) + ((rd_T52 l1 x7_1).f1)), (rd_T51 x6_1 t189).f2⟩ : S51)) (k51_mkM _ _ _ (⟨(⟨(rd_T51 x6_1 t189).f0.f0, (rd_T51 x6_1 t189).f0.f1⟩ : S48), IntKind.u64.wrap (((rd_T51 x6_1 t189).f1) + ((rd_T52 l1 x7_1).f1)), (rd_T51 x6_1 t189).f2⟩ : S51) ) (fun _ hk => hk)).1
            rw [← Ny194.out] at HP46
            have HQ46 := Aside0.mk HP46
            clear hcl46 hcc46 hfr46 hM46 HP46
            refine start_ (n := 13) (S := fun w' => w'.cell? ⟨gb188, 0, none⟩ = some (.int .i64 ((rd_T52 l1 x7_1).f0.f0)) ∧ w'.cell? ⟨gb188, 1, none⟩ = some (.int .i64 ((rd_T52 l1 x7_1).f0.f1)) ∧ w'.cell? ⟨gb188, 2, none⟩ = some (.int .u64 ((rd_T52 l1 x7_1).f1)) ∧ w'.cell? ⟨gb188, 3, none⟩ = some (.int .i64 ((rd_T52 l1 x7_1).f2)) ∧ w'.cell? ⟨go36, ((t189).toNat * 4), none⟩ = some (.int .i64 ((rd_T51 x6_1 t189).f0.f0)) ∧ w'.cell? ⟨go36, ((t189).toNat * 4) + 1, none⟩ = some (.int .i64 ((rd_T51 x6_1 t189).f0.f1)) ∧ w'.cell? ⟨go36, ((t189).toNat * 4) + 2, none⟩ = some (.int .u64 ((rd_T51 x6_1 t189).f1)) ∧ w'.cell? ⟨go36, ((t189).toNat * 4) + 3, none⟩ = some (.int .i64 ((rd_T51 x6_1 t189).f2))) (ds := [12]) (bm 13 0) (by kernel_rfl) rfl rfl ⟨(blk_cell BK188.out 0).trans rfl, (blk_cell BK188.out 1).trans rfl, (blk_cell BK188.out 2).trans rfl, (blk_cell BK188.out 3).trans rfl, hx193_0, hx193_1, hx193_2, hx193_3⟩ (fun hHeld => ?_); refine with_tabW ensembleref05_More.tab15 ensembleref05_More.bits15 (fun HT_ HW_ => ?_)
            generalize w44.drew = w45 at HO_6 BK188 HB GG36 HQ46 hf36_0 hf36_1 hf36_2 hf36_3 hx190_0 hx190_1 hx190_2 hx190_3 hx192_0 hx192_1 hx192_2 hx192_3 hx193_0 hx193_1 hx193_2 hx193_3 hx36_0 hx36_1 hx36_2 hx36_3 hHeld ⊢
            refine pu 0 (some 50) (bm 13 1) ?_
            refine pu 1 (some 51) (bm 13 3) ?_
            refine pu 2 (some 52) (bm 13 7) ?_
            refine pu 3 (some 53) (bm 13 15) ?_
            refine pu 4 (some 54) (bm 13 31) ?_
            refine pu 5 (some 55) (bm 13 63) ?_
            refine pu 7 (some 57) (bm 13 191) ?_
            refine tk8 6 (some 56) (bm 13 255) ?_
            refine tk8 8 (some 58) (bm 13 511) ?_
            refine pu 9 (some 59) (bm 13 1023) ?_
            refine pu 10 (some 60) (bm 13 2047) ?_
            refine pu 11 (some 61) (bm 13 4095) ?_
            refine last_ (i := 12) (N := none) (bm 13 8191) rfl rfl (one_of HT_.out (by kernel_rfl)) (by decide) (fun K hK => ?_)
            refine skip_ (w1 := ?_) (by rfl) rfl ?_ ?_
            rotate_left
            ·go_simp
             rfl
            refine hK.out _ _ ?_
            clear hK K
            refine done_ (done_of HT_.out (by kernel_rfl)) ?_
            try go_wp2
            have n0_ : Aside0 (Kd.R k51 51 (w45.setCell ⟨go36, (t189 : Int).toNat * 4 + 2, none⟩ (.int .u64 (IntKind.u64.wrap (((rd_T51 x6_1 t189).f1) + ((rd_T52 l1 x7_1).f1))))) w.heap.size (fun _ => True) (.slice (some ⟨go36, 0, none⟩) x6_1.length co40) y194) := ⟨by (with_reducible repeat (first | apply Kd.R_alloc | apply Kd.R_drewN | apply Kd.R_drew)); exact HQ46.out⟩
            have n1_ : Aside0 ((w45.setCell ⟨go36, (t189 : Int).toNat * 4 + 2, none⟩ (.int .u64 (IntKind.u64.wrap (((rd_T51 x6_1 t189).f1) + ((rd_T52 l1 x7_1).f1))))).heap[gb188]? = some (.cells #[.int .i64 ((rd_T52 l1 x7_1).f0.f0), .int .i64 ((rd_T52 l1 x7_1).f0.f1), .int .u64 ((rd_T52 l1 x7_1).f1), .int .i64 ((rd_T52 l1 x7_1).f2)] 52 (0, 0))) := ⟨by (with_reducible repeat (first | refine blk_drewN ?_ _ | refine blk_drew ?_ | refine blk_alloc ?_ _)); refine blk_far ?_ (by have h_ := Kd.R_ne HO_6.out BK188.out (by decide); intro e_; exact h_ (by rw [e_]; rfl)) _; (with_reducible repeat (first | refine blk_drewN ?_ _ | refine blk_drew ?_ | refine blk_alloc ?_ _)); exact BK188.out⟩
            have n2_ : Aside0 (Below w.heap.size w (w45.setCell ⟨go36, (t189 : Int).toNat * 4 + 2, none⟩ (.int .u64 (IntKind.u64.wrap (((rd_T51 x6_1 t189).f1) + ((rd_T52 l1 x7_1).f1)))))) := ⟨by repeat (first | (with_reducible first | exact HB.out | apply below_alloc | apply pw_below_drewN | apply below_drew1 | refine below_set ?_ GB36.out | refine below_set ?_ GE188.out) | exact HB.out)⟩
            (try clear HO_6)
            (try clear BK188)
            (try clear HB)
            generalize (w45.setCell ⟨go36, (t189 : Int).toNat * 4 + 2, none⟩ (.int .u64 (IntKind.u64.wrap (((rd_T51 x6_1 t189).f1) + ((rd_T52 l1 x7_1).f1))))) = w47 at n0_ n1_ n2_ ⊢
            have HO_6 := n0_
            have BK188 := n1_
            have HB := n2_
            clear n0_ n1_ n2_
            replace HO_6 := Aside0.mk (Kd.R_drew HO_6.out)
            replace BK188 := Aside0.mk (blk_drew BK188.out)
            replace HB := Aside0.mk (below_drew1 HB.out)
            have p195 : 0 ≤ (t189 : Int) := of_decide_eq_true Z1
            have q195 : t189 < (y194.length : Int) := (by have h_ : (t189 : Int) < ((x6_1.length : Int) : Int) := of_decide_eq_true Z1; first | (have e_ := (Kd.R_reads' HO_6.out).1; omega) | simpa only [Ny194.out, List.length_set] using h_)
            have ql195 : ((t189 : Int) < ((x6_1.length : Int) : Int)) = True := eq_true (of_decide_eq_true Z1)
            obtain ⟨ad195, e195, hx195_0, hx195_1, hx195_2, hx195_3⟩ := at_T51 (Kd.R_reads' HO_6.out).2.2 t189 p195 q195
            obtain rfl : (⟨go36, 0, none⟩ : Addr) = ad195 := (by injection e195)
            (first | simp only [add_plain] at hx195_0 | simp only [add_at] at hx195_0 | simp only [Addr.add, Nat.zero_add] at hx195_0 | skip)
            (first | simp only [add_plain] at hx195_1 | simp only [add_at] at hx195_1 | simp only [Addr.add, Nat.zero_add] at hx195_1 | skip)
            (first | simp only [add_plain] at hx195_2 | simp only [add_at] at hx195_2 | simp only [Addr.add, Nat.zero_add] at hx195_2 | skip)
            (first | simp only [add_plain] at hx195_3 | simp only [add_at] at hx195_3 | simp only [Addr.add, Nat.zero_add] at hx195_3 | skip)
            replace p195 := eq_true p195
            replace q195 := eq_true q195
            have p37 : 0 ≤ (t189 : Int) := of_decide_eq_true Z1
            have q37 : (t189 : Int) < ((x6_1.length : Int) : Int) := of_decide_eq_true Z1
            obtain ⟨ce37, hcl37, hM37, hcc37, hfr37⟩ := Kd.R_elem HO_6.out z51 (t189 : Int) p37 q37
            obtain rfl := k51_openM hM37
            have hx37_0 : World.cell? _ ⟨go36, (t189 : Int).toNat * 4, none⟩ = some (.int .i64 ((rd_T51 y194 t189).f0.f0)) := hcc37 0 _ rfl
            have hx37_1 : World.cell? _ ⟨go36, (t189 : Int).toNat * 4 + 1, none⟩ = some (.int .i64 ((rd_T51 y194 t189).f0.f1)) := hcc37 1 _ rfl
            have hx37_2 : World.cell? _ ⟨go36, (t189 : Int).toNat * 4 + 2, none⟩ = some (.int .u64 ((rd_T51 y194 t189).f1)) := hcc37 2 _ rfl
            have hx37_3 : World.cell? _ ⟨go36, (t189 : Int).toNat * 4 + 3, none⟩ = some (.int .i64 ((rd_T51 y194 t189).f2)) := hcc37 3 _ rfl
            have hf37_0 : World.frozen? _ ⟨go36, (t189 : Int).toNat * 4, none⟩ = false := hfr37 0
            have hf37_1 : World.frozen? _ ⟨go36, (t189 : Int).toNat * 4 + 1, none⟩ = false := hfr37 1
            have hf37_2 : World.frozen? _ ⟨go36, (t189 : Int).toNat * 4 + 2, none⟩ = false := hfr37 2
            have hf37_3 : World.frozen? _ ⟨go36, (t189 : Int).toNat * 4 + 3, none⟩ = false := hfr37 3
            clear hcl37 hcc37 hfr37 hM37
            replace p37 := eq_true p37
            replace q37 := eq_true q37
            obtain ⟨ce49, hcl49, hM49, hcc49, hfr49⟩ := Kd.R_elem HO_6.out z51 (t189 : Int) (of_decide_eq_true Z1) (by have h_ : (t189 : Int) < ((x6_1.length : Int) : Int) := of_decide_eq_true Z1; first | exact h_ | (have e_ := (Kd.R_reads' HO_6.out).1; omega) | simpa using h_)
            obtain rfl := k51_openM hM49
            have HP49 := (Kd.R_seg HO_6.out (t189 : Int) (of_decide_eq_true Z1) (by have h_ : (t189 : Int) < ((x6_1.length : Int) : Int) := of_decide_eq_true Z1; first | exact h_ | (have e_ := (Kd.R_reads' HO_6.out).1; omega) | simpa using h_) (seg := [.int .i64 (wrap64 (((rd_T51 y194 t189).f2) + ((rd_T52 l1 x7_1).f2)))]) (j := 3) hcl49 hcc49 (show 4 ≤ 4 from by decide) (x' := (⟨(⟨(rd_T51 y194 t189).f0.f0, (rd_T51 y194 t189).f0.f1⟩ : S48), (rd_T51 y194 t189).f1, wrap64 (((rd_T51 y194 t189).f2) + ((rd_T52 l1 x7_1).f2))⟩ : S51)) (k51_mkM _ _ _ (⟨(⟨(rd_T51 y194 t189).f0.f0, (rd_T51 y194 t189).f0.f1⟩ : S48), (rd_T51 y194 t189).f1, wrap64 (((rd_T51 y194 t189).f2) + ((rd_T52 l1 x7_1).f2))⟩ : S51) ) (fun _ hk => hk)).1
            rw [← Ny196.out] at HP49
            have HQ49 := Aside0.mk HP49
            clear hcl49 hcc49 hfr49 hM49 HP49
            refine start_ (n := 13) (S := fun w' => w'.cell? ⟨gb188, 0, none⟩ = some (.int .i64 ((rd_T52 l1 x7_1).f0.f0)) ∧ w'.cell? ⟨gb188, 1, none⟩ = some (.int .i64 ((rd_T52 l1 x7_1).f0.f1)) ∧ w'.cell? ⟨gb188, 2, none⟩ = some (.int .u64 ((rd_T52 l1 x7_1).f1)) ∧ w'.cell? ⟨gb188, 3, none⟩ = some (.int .i64 ((rd_T52 l1 x7_1).f2)) ∧ w'.cell? ⟨go36, (t189).toNat * 4, none⟩ = some (.int .i64 ((rd_T51 y194 t189).f0.f0)) ∧ w'.cell? ⟨go36, (t189).toNat * 4 + 1, none⟩ = some (.int .i64 ((rd_T51 y194 t189).f0.f1)) ∧ w'.cell? ⟨go36, (t189).toNat * 4 + 2, none⟩ = some (.int .u64 ((rd_T51 y194 t189).f1)) ∧ w'.cell? ⟨go36, (t189).toNat * 4 + 3, none⟩ = some (.int .i64 ((rd_T51 y194 t189).f2))) (ds := [12]) (bm 13 0) (by kernel_rfl) rfl rfl ⟨(blk_cell BK188.out 0).trans rfl, (blk_cell BK188.out 1).trans rfl, (blk_cell BK188.out 2).trans rfl, (blk_cell BK188.out 3).trans rfl, hx195_0, hx195_1, hx195_2, hx195_3⟩ (fun hHeld => ?_); refine with_tabW ensembleref05_More.tab16 ensembleref05_More.bits16 (fun HT_ HW_ => ?_)
            generalize w47.drew = w48 at HO_6 BK188 HB HQ46 HQ49 hf37_0 hf37_1 hf37_2 hf37_3 hx195_0 hx195_1 hx195_2 hx195_3 hx37_0 hx37_1 hx37_2 hx37_3 hHeld ⊢
            refine pu 0 (some 62) (bm 13 1) ?_
            refine pu 1 (some 63) (bm 13 3) ?_
            refine pu 2 (some 64) (bm 13 7) ?_
            refine pu 3 (some 65) (bm 13 15) ?_
            refine pu 4 (some 66) (bm 13 31) ?_
            refine pu 5 (some 67) (bm 13 63) ?_
            refine pu 7 (some 69) (bm 13 191) ?_
            refine tk8 6 (some 68) (bm 13 255) ?_
            refine tk8 8 (some 70) (bm 13 511) ?_
            refine pu 9 (some 71) (bm 13 1023) ?_
            refine pu 10 (some 72) (bm 13 2047) ?_
            refine pu 11 (some 73) (bm 13 4095) ?_
            refine last_ (i := 12) (N := none) (bm 13 8191) rfl rfl (one_of HT_.out (by kernel_rfl)) (by decide) (fun K hK => ?_)
            refine skip_ (w1 := ?_) (by rfl) rfl ?_ ?_
            rotate_left
            ·go_simp
             rfl
            refine hK.out _ _ ?_
            clear hK K
            refine done_ (done_of HT_.out (by kernel_rfl)) ?_
            try go_wp2
            go_roundg k1
            case measure => have := HK1.out; omega
            case rel => exact ⟨(y196), (wrap64 (x7_1 + 1)), Z4, H', ⟨by have := HK1.out; omega⟩, ⟨by (with_reducible repeat (first | apply Kd.R_alloc | apply Kd.R_drewN | apply Kd.R_drew)); exact HQ49.out⟩, ⟨by repeat (first | (with_reducible first | exact HB.out | apply below_alloc | apply pw_below_drewN | apply below_drew1 | refine below_set ?_ GB36.out | refine below_set ?_ GE188.out) | exact HB.out)⟩⟩
         ·rw [if_neg c19] at H
          exact absurd H (by simp)
        ·rw [if_neg c18] at H
         exact absurd H (by simp)
     ·rw [if_neg c8] at H
      exact absurd H (by simp)
    ·rw [if_neg c7] at H
     have c7b0 : decide (x7_1 < (l1.length : Int)) = false := decide_eq_false c7
     clear c7
     simp only [Option.some.injEq, Prod.mk.injEq] at H
     obtain ⟨rfl, rfl⟩ := H
     go_wp2
     go_ret2
     exact ⟨_, by first | rfl | (simp [errW_none, errW_some] <;> rfl) | (simp [*, errW_none, errW_some] <;> rfl), by (with_reducible repeat (first | apply Kd.R_alloc | apply Kd.R_drewN | apply Kd.R_drew)); exact HO_6.out, hb_⟩
 ·rw [if_neg c3] at H
  exact absurd H (by simp)
end Go.Proofs.Ytckhjehibjdjdaa.P
