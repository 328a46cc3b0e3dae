/- PackFew: part 2 of the walk and of the plain law that it comes to. No condition. -/
import Derived.Test.YtckhjehibjdjdaaZPackFew1
import Derived.ArgAppend
import Derived.Below
import Derived.BigQuiet
import Derived.BigRegion
import Derived.Carry
import Derived.Deep.AppendLies
import Derived.Deep.CutBlock
import Derived.Deep.DeepCutAuto
import Derived.Deep.Draws
import Derived.Deep.LoopGhost
import Derived.Deep.OwnRows
import Derived.Deep.QuietTactic
import Derived.Deep.RegionHeld3
import Derived.Deep.Slices
import Derived.DeepKeys3
import Derived.DeepKeys4
import Derived.KernelRfl
import Derived.Laws.Bits64
import Derived.Laws.Bits64b
import Derived.Laws.BitsLemmas
import Derived.Laws.BytesArg
import Derived.Laws.Externs
import Derived.Laws.IdiomCopy
import Derived.Laws.MakeOwn
import Derived.Laws.OwnMore
import Derived.Laws.Rows
import Derived.Laws.Slices
import Derived.Lib.AppendStr
import Derived.Lib.ConvBytes
import Derived.Lib.ReflectliteSlice
import Derived.Lib.ReflectliteSwap
import Derived.Lib.SliceRun
import Derived.LoopIn
import Derived.LoopN
import Derived.LoopNIn
import Derived.Maps.AppendAt
import Derived.Maps.Keyed
import Derived.Maps.Own
import Derived.Maps.OwnOps
import Derived.Maps.OwnSet
import Derived.Maps.Views
import Derived.OrdersHeld
import Derived.Outline
import Derived.OwnWalk
import Derived.OwnWalkIn
import Derived.ProofKit
import Derived.RangeFuncBound
import Derived.RangeFuncBox
import Derived.RangeFuncCalls
import Derived.RangeFuncFrom
import Derived.RangeFuncLeaves
import Derived.RowKit
import Derived.RowKit3
import Derived.Shelf.Abstract
import Derived.Shelf.RegionOpen
import Derived.StillTailTactics
import Derived.Tactics
import Derived.TacticsInMore
import Derived.WalkKit
import Derived.WideKeyEntry
import Derived.WideLaws
set_option linter.unusedVariables false
set_option linter.unusedSimpArgs false
namespace Go.Proofs.Ytckhjehibjdjdaa.P
open Go.RowKit Go.Proofs.YtckhjehibjdjdaaW.PrintWords Go.Proofs.YtckhjehibjdjdaaW.PrintLast Go.Proofs.YtckhjehibjdjdaaW.PrintMore
attribute [local go_sem] max2_int min2_int max_two min_two max_three min_three max_four min_four
def shape_Piece.f (a0_0 a0_1 a0_2 a0_3 a1_0 a1_1 a1_2 a1_3 : Int) : Option (Int × Int × Int × Int × Int × Int × Int × Int × Int) := (shape_Check.f a0_0 a0_1 a0_2 a0_3).bind fun t840 => (if t840 = 0 then ((shape_Fits.f a0_0 a0_1 a0_2 a0_3 a1_0 a1_1 a1_2 a1_3).bind fun t841 => (if t841 = 0 then (some (0, 0, 0, 0, 0, 0, 0, 0, 7)) else ((mask_Lowest.f a1_2 a0_0).bind fun bt842 => (some (a1_0, a1_1, bt842.1, a0_1, a1_0, a1_1, Go.bits .andNot .u64 a1_2 bt842.1, wrap64 (a1_3 - a0_1), 0))))) else (some (0, 0, 0, 0, 0, 0, 0, 0, t840)))
def shape_Piece.T7 : Bool × List (List Nat × List Nat) := (true, [([], []), ([0], [0]), ([], []), ([], []), ([3], [3]), ([1, 2, 4], [1, 2, 4]), ([], []), ([6], [6]), ([], []), ([8], [8]), ([], []), ([9, 10], [9, 10]), ([], []), ([12], [12]), ([], []), ([14], [14]), ([13, 15], [13, 15]), ([7, 11, 16], [7, 11, 16]), ([5, 0, 1, 2, 3, 4, 5], [5]), ([17, 18, 0, 1, 2, 3, 4, 5, 6, 7, 8, 9, 10, 11, 12, 13, 14, 15, 16, 17, 18], [17]), ([19, 0, 1, 2, 3, 4, 5, 6, 7, 8, 9, 10, 11, 12, 13, 14, 15, 16, 17, 18, 19], [])])
def shape_Piece.B7 : List Nat := [0, 1, 0, 0, 8, 31, 0, 64, 0, 256, 0, 1792, 0, 4096, 0, 16384, 61440, 131008, 63, 524287, 1048575]
theorem shape_Piece.tab7 : rtab .any (opsOf Try.f88 7) = shape_Piece.T7 := by kernel_rfl
theorem shape_Piece.bits7 : waitsOk shape_Piece.T7.2 shape_Piece.B7 = true := by kernel_rfl
set_option maxHeartbeats 8000000 in
set_option maxRecDepth 100000 in
theorem shape_Piece.calls (a0_0 a0_1 a0_2 a0_3 a1_0 a1_1 a1_2 a1_3 r1 r2 r3 r4 r5 r6 r7 r8 r9 : Int) (w : World) (h : shape_Piece.f a0_0 a0_1 a0_2 a0_3 a1_0 a1_1 a1_2 a1_3 = some (r1, r2, r3, r4, r5, r6, r7, r8, r9)) :
  Calls Try.prog 88 #[.agg #[.int .i64 a0_0, .int .i64 a0_1, .int .i64 a0_2, .int .i64 a0_3], .agg #[.int .i64 a1_0, .int .i64 a1_1, .int .u64 a1_2, .int .i64 a1_3]] w fun e w' => e = .returned (.tuple #[.agg #[.int .i64 r1, .int .i64 r2, .int .u64 r3, .int .i64 r4], .agg #[.int .i64 r5, .int .i64 r6, .int .u64 r7, .int .i64 r8], .int .i64 r9]) ∧ Below w.heap.size w w' := by
 have hu27 := Try.underlying27
 have hu51 := Try.underlying51
 have hu52 := Try.underlying52
 have hu48 := Try.underlying48
 have HB := m_ (Below.refl w.heap.size w)
 have H := h
 unfold shape_Piece.f at H
 clear h
 replace H := Option.bind_eq_some_iff.mp H
 obtain ⟨t840, A30, H⟩ := H
 try dsimp only at H
 have A3 := m_ A30
 clear A30
 by_cases c4 : t840 = 0
 ·rw [if_pos c4] at H
  have c4b0 : (t840 == 0) = true := beq_iff_eq.mpr c4
  have c4b1 : (t840 != 0) = false := bne_eq_false_iff_eq.mpr c4
  clear c4
  replace H := Option.bind_eq_some_iff.mp H
  obtain ⟨t841, A50, H⟩ := H
  try dsimp only at H
  have A5 := m_ A50
  clear A50
  by_cases c6 : t841 = 0
  ·rw [if_pos c6] at H
   have c6b0 : (t841 == 0) = true := beq_iff_eq.mpr c6
   have c6b1 : (t841 != 0) = false := bne_eq_false_iff_eq.mpr c6
   clear c6
   simp only [Option.some.injEq, Prod.mk.injEq] at H
   obtain ⟨rfl, rfl, rfl, rfl, rfl, rfl, rfl, rfl, rfl⟩ := H
   go_enter Try.func88, Try.ntmps88
   go_wp2_with (first | ((with_reducible refine a3_ (N := 2) rfl ?_); refine bx 2 #[.int .i64 a0_0, .int .i64 a0_1, .int .i64 a0_2, .int .i64 a0_3] 27 ?_; intro gb836 hg w7 hbox hb; have BK836 := m_ (hbox); have GW836 := ge_ hg; have GE836 := ge_ hg; replace HB := hs_ hb; clear hb hbox hg) | ((with_reducible refine a3_ (N := 3) rfl ?_); refine bx 3 #[.int .i64 a1_0, .int .i64 a1_1, .int .u64 a1_2, .int .i64 a1_3] 51 ?_; intro gb837 hg w8 hbox hb; have BK837 := m_ (hbox); have GW837 := ge_ hg; have GE837 := ge_ hg; have NB836_837 := nl_ BK836 hg; have NB837_836 := nr_ BK836 hg; replace BK836 := bk_ BK836 hb; replace HB := hs_ hb; clear hb hbox hg) | ((with_reducible refine a3_ (N := 4) rfl ?_); refine bx 4 #[.int .i64 0, .int .i64 0, .int .u64 0, .int .i64 0] 52 ?_; intro gb838 hg w9 hbox hb; have BK838 := m_ (hbox); have GW838 := ge_ hg; have GE838 := ge_ hg; have NB836_838 := nl_ BK836 hg; have NB838_836 := nr_ BK836 hg; have NB837_838 := nl_ BK837 hg; have NB838_837 := nr_ BK837 hg; replace BK836 := bk_ BK836 hb; replace BK837 := bk_ BK837 hb; replace HB := hs_ hb; clear hb hbox hg) | ((with_reducible refine a3_ (N := 5) rfl ?_); refine bx 5 #[.int .i64 0, .int .i64 0, .int .u64 0, .int .i64 0] 51 ?_; intro gb839 hg w10 hbox hb; have BK839 := m_ (hbox); have GW839 := ge_ hg; have GE839 := ge_ hg; have NB836_839 := nl_ BK836 hg; have NB839_836 := nr_ BK836 hg; have NB837_839 := nl_ BK837 hg; have NB839_837 := nr_ BK837 hg; have NB838_839 := nl_ BK838 hg; have NB839_838 := nr_ BK838 hg; replace BK836 := bk_ BK836 hb; replace BK837 := bk_ BK837 hb; replace BK838 := bk_ BK838 hb; replace HB := hs_ hb; clear hb hbox hg; have hnb11 := NB836_837.out; have hnc11 := NB837_836.out; have hnb12 := NB836_838.out; have hnc12 := NB838_836.out; have hnb13 := NB836_839.out; have hnc13 := NB839_836.out; obtain ⟨hcz14_0, hcz14_1, hcz14_2, hcz14_3, hfz14_0, hfz14_1, hfz14_2, hfz14_3⟩ := bz4_ BK836) | ((with_reducible refine a9_ (f := 83) rfl ?_); refine goesL_ (some 11) rfl rfl Try.func83 (by kernel_rfl) rfl #[.agg #[.int .i64 a0_0, .int .i64 a0_1, .int .i64 a0_2, .int .i64 a0_3]] rfl Z0 ?_; (with_reducible refine (shape_Check.calls a0_0 a0_1 a0_2 a0_3 t840 _ A3.out).mono ?_); rintro e w15 ⟨rfl, hb⟩; refine ⟨_, rfl, ?_⟩; replace BK836 := bk_ BK836 hb; replace BK837 := bk_ BK837 hb; replace BK838 := bk_ BK838 hb; replace BK839 := bk_ BK839 hb; replace HB := hs_ hb; (try clear hb); (try clear hb2); (try clear hk); (try clear hi); obtain ⟨hcz16_0, hcz16_1, hcz16_2, hcz16_3, hfz16_0, hfz16_1, hfz16_2, hfz16_3⟩ := bz4_ BK836; have hnb17 := NB837_838.out; have hnc17 := NB838_837.out; have hnb18 := NB837_839.out; have hnc18 := NB839_837.out; obtain ⟨hcz19_0, hcz19_1, hcz19_2, hcz19_3, hfz19_0, hfz19_1, hfz19_2, hfz19_3⟩ := bz4_ BK837) | ((with_reducible refine a9_ (f := 87) rfl ?_); refine goesL_ (some 19) rfl rfl Try.func87 (by kernel_rfl) rfl #[.agg #[.int .i64 a0_0, .int .i64 a0_1, .int .i64 a0_2, .int .i64 a0_3], .agg #[.int .i64 a1_0, .int .i64 a1_1, .int .u64 a1_2, .int .i64 a1_3]] rfl Z0 ?_; (with_reducible refine (shape_Fits.calls a0_0 a0_1 a0_2 a0_3 a1_0 a1_1 a1_2 a1_3 t841 _ A5.out).mono ?_); rintro e w20 ⟨rfl, hb⟩; refine ⟨_, rfl, ?_⟩; replace BK836 := bk_ BK836 hb; replace BK837 := bk_ BK837 hb; replace BK838 := bk_ BK838 hb; replace BK839 := bk_ BK839 hb; replace HB := hs_ hb; (try clear hb); (try clear hb2); (try clear hk); (try clear hi); have hnb21 := NB838_839.out; have hnc21 := NB839_838.out; obtain ⟨hcz22_0, hcz22_1, hcz22_2, hcz22_3, hfz22_0, hfz22_1, hfz22_2, hfz22_3⟩ := bz4_ BK838; obtain ⟨hcz23_0, hcz23_1, hcz23_2, hcz23_3, hfz23_0, hfz23_1, hfz23_2, hfz23_3⟩ := bz4_ BK839))
   refine bodyPost_ret (results_list (rs := [.cell 4 52, .cell 5 51, .tmp 6]) rfl (by simp) (.cell gb838 52 #[.int .i64 0, .int .i64 0, .int .u64 0, .int .i64 0] (0, 0) _ rfl (bt_ BK838) Try.underlying52 rfl (by kernel_rfl) (.cell gb839 51 #[.int .i64 0, .int .i64 0, .int .u64 0, .int .i64 0] (0, 0) _ rfl (bt_ BK839) Try.underlying51 rfl (by kernel_rfl) (.tmp .nil)))) rfl ?_
   exact ⟨by first | rfl | (simp [a8_, a7_] <;> rfl) | (simp [*, a8_, a7_] <;> rfl), hb_⟩
  ·rw [if_neg c6] at H
   have c6b0 : (t841 == 0) = false := beq_eq_false_iff_ne.mpr c6
   have c6b1 : (t841 != 0) = true := bne_iff_ne.mpr c6
   replace H := Option.bind_eq_some_iff.mp H
   obtain ⟨⟨t842, t843⟩, A240, H⟩ := H
   try dsimp only at H
   have A24 := m_ A240
   clear A240
   simp only [Option.some.injEq, Prod.mk.injEq] at H
   obtain ⟨rfl, rfl, rfl, rfl, rfl, rfl, rfl, rfl, rfl⟩ := H
   go_enter Try.func88, Try.ntmps88
   try go_wp2_with (first | ((with_reducible refine a3_ (N := 2) rfl ?_); refine bx 2 #[.int .i64 a0_0, .int .i64 a0_1, .int .i64 a0_2, .int .i64 a0_3] 27 ?_; intro gb836 hg w25 hbox hb; have BK836 := m_ (hbox); have GW836 := ge_ hg; have GE836 := ge_ hg; replace HB := hs_ hb; clear hb hbox hg) | ((with_reducible refine a3_ (N := 3) rfl ?_); refine bx 3 #[.int .i64 a1_0, .int .i64 a1_1, .int .u64 a1_2, .int .i64 a1_3] 51 ?_; intro gb837 hg w26 hbox hb; have BK837 := m_ (hbox); have GW837 := ge_ hg; have GE837 := ge_ hg; have NB836_837 := nl_ BK836 hg; have NB837_836 := nr_ BK836 hg; replace BK836 := bk_ BK836 hb; replace HB := hs_ hb; clear hb hbox hg) | ((with_reducible refine a3_ (N := 4) rfl ?_); refine bx 4 #[.int .i64 0, .int .i64 0, .int .u64 0, .int .i64 0] 52 ?_; intro gb838 hg w27 hbox hb; have BK838 := m_ (hbox); have GW838 := ge_ hg; have GE838 := ge_ hg; have NB836_838 := nl_ BK836 hg; have NB838_836 := nr_ BK836 hg; have NB837_838 := nl_ BK837 hg; have NB838_837 := nr_ BK837 hg; replace BK836 := bk_ BK836 hb; replace BK837 := bk_ BK837 hb; replace HB := hs_ hb; clear hb hbox hg) | ((with_reducible refine a3_ (N := 5) rfl ?_); refine bx 5 #[.int .i64 0, .int .i64 0, .int .u64 0, .int .i64 0] 51 ?_; intro gb839 hg w28 hbox hb; have BK839 := m_ (hbox); have GW839 := ge_ hg; have GE839 := ge_ hg; have NB836_839 := nl_ BK836 hg; have NB839_836 := nr_ BK836 hg; have NB837_839 := nl_ BK837 hg; have NB839_837 := nr_ BK837 hg; have NB838_839 := nl_ BK838 hg; have NB839_838 := nr_ BK838 hg; replace BK836 := bk_ BK836 hb; replace BK837 := bk_ BK837 hb; replace BK838 := bk_ BK838 hb; replace HB := hs_ hb; clear hb hbox hg; have hnb29 := NB836_837.out; have hnc29 := NB837_836.out; have hnb30 := NB836_838.out; have hnc30 := NB838_836.out; have hnb31 := NB836_839.out; have hnc31 := NB839_836.out; obtain ⟨hcz32_0, hcz32_1, hcz32_2, hcz32_3, hfz32_0, hfz32_1, hfz32_2, hfz32_3⟩ := bz4_ BK836) | ((with_reducible refine a9_ (f := 83) rfl ?_); refine goesL_ (some 11) rfl rfl Try.func83 (by kernel_rfl) rfl #[.agg #[.int .i64 a0_0, .int .i64 a0_1, .int .i64 a0_2, .int .i64 a0_3]] rfl Z0 ?_; (with_reducible refine (shape_Check.calls a0_0 a0_1 a0_2 a0_3 t840 _ A3.out).mono ?_); rintro e w33 ⟨rfl, hb⟩; refine ⟨_, rfl, ?_⟩; replace BK836 := bk_ BK836 hb; replace BK837 := bk_ BK837 hb; replace BK838 := bk_ BK838 hb; replace BK839 := bk_ BK839 hb; replace HB := hs_ hb; (try clear hb); (try clear hb2); (try clear hk); (try clear hi); obtain ⟨hcz34_0, hcz34_1, hcz34_2, hcz34_3, hfz34_0, hfz34_1, hfz34_2, hfz34_3⟩ := bz4_ BK836; have hnb35 := NB837_838.out; have hnc35 := NB838_837.out; have hnb36 := NB837_839.out; have hnc36 := NB839_837.out; obtain ⟨hcz37_0, hcz37_1, hcz37_2, hcz37_3, hfz37_0, hfz37_1, hfz37_2, hfz37_3⟩ := bz4_ BK837) | ((with_reducible refine a9_ (f := 87) rfl ?_); refine goesL_ (some 19) rfl rfl Try.func87 (by kernel_rfl) rfl #[.agg #[.int .i64 a0_0, .int .i64 a0_1, .int .i64 a0_2, .int .i64 a0_3], .agg #[.int .i64 a1_0, .int .i64 a1_1, .int .u64 a1_2, .int .i64 a1_3]] rfl Z0 ?_; (with_reducible refine (shape_Fits.calls a0_0 a0_1 a0_2 a0_3 a1_0 a1_1 a1_2 a1_3 t841 _ A5.out).mono ?_); rintro e w38 ⟨rfl, hb⟩; refine ⟨_, rfl, ?_⟩; replace BK836 := bk_ BK836 hb; replace BK837 := bk_ BK837 hb; replace BK838 := bk_ BK838 hb; replace BK839 := bk_ BK839 hb; replace HB := hs_ hb; (try clear hb); (try clear hb2); (try clear hk); (try clear hi); obtain ⟨hcz39_0, hcz39_1, hcz39_2, hcz39_3, hfz39_0, hfz39_1, hfz39_2, hfz39_3⟩ := bz4_ BK837; obtain ⟨hcz40_0, hcz40_1, hcz40_2, hcz40_3, hfz40_0, hfz40_1, hfz40_2, hfz40_3⟩ := bz4_ BK836) | ((with_reducible refine a9_ (f := 114) rfl ?_); refine goesL_ (some 28) rfl rfl Try.func114 (by kernel_rfl) rfl #[.int .u64 a1_2, .int .i64 a0_0] rfl Z0 ?_; (with_reducible refine (mask_Lowest.calls a1_2 a0_0 t842 t843 _ A24.out).mono ?_); rintro e w41 ⟨rfl, hb⟩; refine ⟨_, rfl, ?_⟩; replace BK836 := bk_ BK836 hb; replace BK837 := bk_ BK837 hb; replace BK838 := bk_ BK838 hb; replace BK839 := bk_ BK839 hb; replace HB := hs_ hb; (try clear hb); (try clear hb2); (try clear hk); (try clear hi)))
   replace BK836 := m_ (c8_ BK836.out)
   replace BK837 := m_ (c8_ BK837.out)
   replace BK838 := m_ (c8_ BK838.out)
   replace BK839 := m_ (c8_ BK839.out)
   replace HB := m_ (b4_ HB.out)
   refine start_ (n := 21) (S := fun w' => w'.cell? ⟨gb837, 0, none⟩ = some (.int .i64 a1_0) ∧ w'.cell? ⟨gb837, 1, none⟩ = some (.int .i64 a1_1) ∧ w'.cell? ⟨gb837, 2, none⟩ = some (.int .u64 a1_2) ∧ w'.cell? ⟨gb837, 3, none⟩ = some (.int .i64 a1_3) ∧ w'.cell? ⟨gb836, 0, none⟩ = some (.int .i64 a0_0) ∧ w'.cell? ⟨gb836, 1, none⟩ = some (.int .i64 a0_1) ∧ w'.cell? ⟨gb836, 2, none⟩ = some (.int .i64 a0_2) ∧ w'.cell? ⟨gb836, 3, none⟩ = some (.int .i64 a0_3)) (ds := []) (bm 21 0) (by kernel_rfl) rfl rfl ⟨(a0_ BK837.out 0).trans rfl, (a0_ BK837.out 1).trans rfl, (a0_ BK837.out 2).trans rfl, (a0_ BK837.out 3).trans rfl, (a0_ BK836.out 0).trans rfl, (a0_ BK836.out 1).trans rfl, (a0_ BK836.out 2).trans rfl, (a0_ BK836.out 3).trans rfl⟩ (fun hHeld => ?_); refine with_tabW shape_Piece.tab7 shape_Piece.bits7 (fun HT_ HW_ => ?_)
   generalize w41.drew = w42 at BK836 BK837 BK838 BK839 HB hHeld ⊢
   refine pu 0 (some 31) (bm 21 1) ?_
   refine pu 2 (some 33) (bm 21 5) ?_
   refine pu 3 (some 34) (bm 21 13) ?_
   refine pu 6 (some 37) (bm 21 77) ?_
   refine pu 8 (some 39) (bm 21 333) ?_
   refine pu 10 (some 41) (bm 21 1357) ?_
   refine pu 12 (some 43) (bm 21 5453) ?_
   refine pu 14 (some 45) (bm 21 21837) ?_
   refine tk 1 (some 32) (bm 21 21839) ?_
   refine tk 4 (some 35) (bm 21 21855) ?_
   refine pu 5 (some 36) (bm 21 21887) ?_
   refine tk 7 (some 38) (bm 21 22015) ?_
   refine tk 9 (some 40) (bm 21 22527) ?_
   refine pu 11 (some 42) (bm 21 24575) ?_
   refine tk 13 (some 44) (bm 21 32767) ?_
   refine tk 15 (some 46) (bm 21 65535) ?_
   refine pu 16 (some 47) (bm 21 131071) ?_
   refine pu 17 (some 48) (bm 21 262143) ?_
   refine one_ (i := 18) (N := none) (bm 21 524287) rfl rfl (one_of HT_.out (by kernel_rfl)) (by decide) (fun K hK => ?_)
   have hs43 : w42.cell? ⟨gb838, 0, none⟩ = some (.int .i64 0) := (a0_ BK838.out 0).trans rfl
   have hfs43 := a2_ BK838.out 0
   have hns43_0 := NB836_838.out
   have hns43_1 := NB837_838.out
   have hns43_3 := NB839_838.out
   have hms43_0 := NB838_836.out
   have hms43_1 := NB838_837.out
   have hms43_3 := NB838_839.out
   have hs44 : w42.cell? ⟨gb838, 1, none⟩ = some (.int .i64 0) := (a0_ BK838.out 1).trans rfl
   have hfs44 := a2_ BK838.out 1
   have hns44_0 := NB836_838.out
   have hns44_1 := NB837_838.out
   have hns44_3 := NB839_838.out
   have hms44_0 := NB838_836.out
   have hms44_1 := NB838_837.out
   have hms44_3 := NB838_839.out
   have hs45 : w42.cell? ⟨gb838, 2, none⟩ = some (.int .u64 0) := (a0_ BK838.out 2).trans rfl
   have hfs45 := a2_ BK838.out 2
   have hns45_0 := NB836_838.out
   have hns45_1 := NB837_838.out
   have hns45_3 := NB839_838.out
   have hms45_0 := NB838_836.out
   have hms45_1 := NB838_837.out
   have hms45_3 := NB838_839.out
   have hs46 : w42.cell? ⟨gb838, 3, none⟩ = some (.int .i64 0) := (a0_ BK838.out 3).trans rfl
   have hfs46 := a2_ BK838.out 3
   have hns46_0 := NB836_838.out
   have hns46_1 := NB837_838.out
   have hns46_3 := NB839_838.out
   have hms46_0 := NB838_836.out
   have hms46_1 := NB838_837.out
   have hms46_3 := NB838_839.out
   refine skip_ (w1 := ?_) (by rfl) rfl ?_ ?_
   rotate_left
   ·go_simp
    rfl
   refine hK.out _ _ ⟨((b6_ (p := ⟨gb838, _, none⟩) NB837_838.out _).trans (((b6_ (p := ⟨gb838, _, none⟩) NB837_838.out _).trans (((b6_ (p := ⟨gb838, _, none⟩) NB837_838.out _).trans (((b6_ (p := ⟨gb838, _, none⟩) NB837_838.out _).trans (hHeld.1)))))))), ((b6_ (p := ⟨gb838, _, none⟩) NB837_838.out _).trans (((b6_ (p := ⟨gb838, _, none⟩) NB837_838.out _).trans (((b6_ (p := ⟨gb838, _, none⟩) NB837_838.out _).trans (((b6_ (p := ⟨gb838, _, none⟩) NB837_838.out _).trans (hHeld.2.1)))))))), ((b6_ (p := ⟨gb838, _, none⟩) NB837_838.out _).trans (((b6_ (p := ⟨gb838, _, none⟩) NB837_838.out _).trans (((b6_ (p := ⟨gb838, _, none⟩) NB837_838.out _).trans (((b6_ (p := ⟨gb838, _, none⟩) NB837_838.out _).trans (hHeld.2.2.1)))))))), ((b6_ (p := ⟨gb838, _, none⟩) NB837_838.out _).trans (((b6_ (p := ⟨gb838, _, none⟩) NB837_838.out _).trans (((b6_ (p := ⟨gb838, _, none⟩) NB837_838.out _).trans (((b6_ (p := ⟨gb838, _, none⟩) NB837_838.out _).trans (hHeld.2.2.2.1)))))))), ((b6_ (p := ⟨gb838, _, none⟩) NB836_838.out _).trans (((b6_ (p := ⟨gb838, _, none⟩) NB836_838.out _).trans (((b6_ (p := ⟨gb838, _, none⟩) NB836_838.out _).trans (((b6_ (p := ⟨gb838, _, none⟩) NB836_838.out _).trans (hHeld.2.2.2.2.1)))))))), ((b6_ (p := ⟨gb838, _, none⟩) NB836_838.out _).trans (((b6_ (p := ⟨gb838, _, none⟩) NB836_838.out _).trans (((b6_ (p := ⟨gb838, _, none⟩) NB836_838.out _).trans (((b6_ (p := ⟨gb838, _, none⟩) NB836_838.out _).trans (hHeld.2.2.2.2.2.1)))))))), ((b6_ (p := ⟨gb838, _, none⟩) NB836_838.out _).trans (((b6_ (p := ⟨gb838, _, none⟩) NB836_838.out _).trans (((b6_ (p := ⟨gb838, _, none⟩) NB836_838.out _).trans (((b6_ (p := ⟨gb838, _, none⟩) NB836_838.out _).trans (hHeld.2.2.2.2.2.2.1)))))))), ((b6_ (p := ⟨gb838, _, none⟩) NB836_838.out _).trans (((b6_ (p := ⟨gb838, _, none⟩) NB836_838.out _).trans (((b6_ (p := ⟨gb838, _, none⟩) NB836_838.out _).trans (((b6_ (p := ⟨gb838, _, none⟩) NB836_838.out _).trans (hHeld.2.2.2.2.2.2.2))))))))⟩ (fun hHeld => ?_)
   clear hK K
   refine one_ (i := 19) (N := none) (bm 21 1048575) rfl rfl (one_of HT_.out (by kernel_rfl)) (by decide) (fun K hK => ?_)
   have hs47 : w42.cell? ⟨gb839, 0, none⟩ = some (.int .i64 0) := (a0_ BK839.out 0).trans rfl
   have hfs47 := a2_ BK839.out 0
   have hns47_0 := NB836_839.out
   have hns47_1 := NB837_839.out
   have hns47_2 := NB838_839.out
   have hms47_0 := NB839_836.out
   have hms47_1 := NB839_837.out
   have hms47_2 := NB839_838.out
   have hs48 : w42.cell? ⟨gb839, 1, none⟩ = some (.int .i64 0) := (a0_ BK839.out 1).trans rfl
   have hfs48 := a2_ BK839.out 1
   have hns48_0 := NB836_839.out
   have hns48_1 := NB837_839.out
   have hns48_2 := NB838_839.out
   have hms48_0 := NB839_836.out
   have hms48_1 := NB839_837.out
   have hms48_2 := NB839_838.out
   have hs49 : w42.cell? ⟨gb839, 2, none⟩ = some (.int .u64 0) := (a0_ BK839.out 2).trans rfl
   have hfs49 := a2_ BK839.out 2
   have hns49_0 := NB836_839.out
   have hns49_1 := NB837_839.out
   have hns49_2 := NB838_839.out
   have hms49_0 := NB839_836.out
   have hms49_1 := NB839_837.out
   have hms49_2 := NB839_838.out
   have hs50 : w42.cell? ⟨gb839, 3, none⟩ = some (.int .i64 0) := (a0_ BK839.out 3).trans rfl
   have hfs50 := a2_ BK839.out 3
   have hns50_0 := NB836_839.out
   have hns50_1 := NB837_839.out
   have hns50_2 := NB838_839.out
   have hms50_0 := NB839_836.out
   have hms50_1 := NB839_837.out
   have hms50_2 := NB839_838.out
   refine skip_ (w1 := ?_) (by rfl) rfl ?_ ?_
   rotate_left
   ·go_simp
    rfl
   refine hK.out _ _ ⟨((b6_ (p := ⟨gb839, _, none⟩) NB837_839.out _).trans (((b6_ (p := ⟨gb839, _, none⟩) NB837_839.out _).trans (((b6_ (p := ⟨gb839, _, none⟩) NB837_839.out _).trans (((b6_ (p := ⟨gb839, _, none⟩) NB837_839.out _).trans (hHeld.1)))))))), ((b6_ (p := ⟨gb839, _, none⟩) NB837_839.out _).trans (((b6_ (p := ⟨gb839, _, none⟩) NB837_839.out _).trans (((b6_ (p := ⟨gb839, _, none⟩) NB837_839.out _).trans (((b6_ (p := ⟨gb839, _, none⟩) NB837_839.out _).trans (hHeld.2.1)))))))), ((b6_ (p := ⟨gb839, _, none⟩) NB837_839.out _).trans (((b6_ (p := ⟨gb839, _, none⟩) NB837_839.out _).trans (((b6_ (p := ⟨gb839, _, none⟩) NB837_839.out _).trans (((b6_ (p := ⟨gb839, _, none⟩) NB837_839.out _).trans (hHeld.2.2.1)))))))), ((b6_ (p := ⟨gb839, _, none⟩) NB837_839.out _).trans (((b6_ (p := ⟨gb839, _, none⟩) NB837_839.out _).trans (((b6_ (p := ⟨gb839, _, none⟩) NB837_839.out _).trans (((b6_ (p := ⟨gb839, _, none⟩) NB837_839.out _).trans (hHeld.2.2.2.1)))))))), ((b6_ (p := ⟨gb839, _, none⟩) NB836_839.out _).trans (((b6_ (p := ⟨gb839, _, none⟩) NB836_839.out _).trans (((b6_ (p := ⟨gb839, _, none⟩) NB836_839.out _).trans (((b6_ (p := ⟨gb839, _, none⟩) NB836_839.out _).trans (hHeld.2.2.2.2.1)))))))), ((b6_ (p := ⟨gb839, _, none⟩) NB836_839.out _).trans (((b6_ (p := ⟨gb839, _, none⟩) NB836_839.out _).trans (((b6_ (p := ⟨gb839, _, none⟩) NB836_839.out _).trans (((b6_ (p := ⟨gb839, _, none⟩) NB836_839.out _).trans (hHeld.2.2.2.2.2.1)))))))), ((b6_ (p := ⟨gb839, _, none⟩) NB836_839.out _).trans (((b6_ (p := ⟨gb839, _, none⟩) NB836_839.out _).trans (((b6_ (p := ⟨gb839, _, none⟩) NB836_839.out _).trans (((b6_ (p := ⟨gb839, _, none⟩) NB836_839.out _).trans (hHeld.2.2.2.2.2.2.1)))))))), ((b6_ (p := ⟨gb839, _, none⟩) NB836_839.out _).trans (((b6_ (p := ⟨gb839, _, none⟩) NB836_839.out _).trans (((b6_ (p := ⟨gb839, _, none⟩) NB836_839.out _).trans (((b6_ (p := ⟨gb839, _, none⟩) NB836_839.out _).trans (hHeld.2.2.2.2.2.2.2))))))))⟩ (fun hHeld => ?_)
   clear hK K
   refine pu 20 (some 6) (bm 21 2097151) ?_
   refine done_ (done_of HT_.out (by kernel_rfl)) ?_
   try go_wp2
   refine bodyPost_ret (results_list (rs := [.cell 4 52, .cell 5 51, .tmp 6]) rfl (by simp) (.cell gb838 52 #[.int .i64 a1_0, .int .i64 a1_1, .int .u64 t842, .int .i64 a0_1] (0, 0) _ rfl (bt_ BK838) Try.underlying52 rfl (by kernel_rfl) (.cell gb839 51 #[.int .i64 a1_0, .int .i64 a1_1, .int .u64 (Go.bits .andNot .u64 a1_2 t842), .int .i64 (wrap64 (a1_3 - a0_1))] (0, 0) _ rfl (bt_ BK839) Try.underlying51 rfl (by kernel_rfl) (.tmp .nil)))) rfl ?_
   exact ⟨by first | rfl | (simp [a8_, a7_] <;> rfl) | (simp [*, a8_, a7_] <;> rfl), hb_⟩
 ·rw [if_neg c4] at H
  have c4b0 : (t840 == 0) = false := beq_eq_false_iff_ne.mpr c4
  have c4b1 : (t840 != 0) = true := bne_iff_ne.mpr c4
  simp only [Option.some.injEq, Prod.mk.injEq] at H
  obtain ⟨rfl, rfl, rfl, rfl, rfl, rfl, rfl, rfl, rfl⟩ := H
  go_enter Try.func88, Try.ntmps88
  go_wp2_with (first | ((with_reducible refine a3_ (N := 2) rfl ?_); refine bx 2 #[.int .i64 a0_0, .int .i64 a0_1, .int .i64 a0_2, .int .i64 a0_3] 27 ?_; intro gb836 hg w51 hbox hb; have BK836 := m_ (hbox); have GW836 := ge_ hg; have GE836 := ge_ hg; replace HB := hs_ hb; clear hb hbox hg) | ((with_reducible refine a3_ (N := 3) rfl ?_); refine bx 3 #[.int .i64 a1_0, .int .i64 a1_1, .int .u64 a1_2, .int .i64 a1_3] 51 ?_; intro gb837 hg w52 hbox hb; have BK837 := m_ (hbox); have GW837 := ge_ hg; have GE837 := ge_ hg; have NB836_837 := nl_ BK836 hg; have NB837_836 := nr_ BK836 hg; replace BK836 := bk_ BK836 hb; replace HB := hs_ hb; clear hb hbox hg) | ((with_reducible refine a3_ (N := 4) rfl ?_); refine bx 4 #[.int .i64 0, .int .i64 0, .int .u64 0, .int .i64 0] 52 ?_; intro gb838 hg w53 hbox hb; have BK838 := m_ (hbox); have GW838 := ge_ hg; have GE838 := ge_ hg; have NB836_838 := nl_ BK836 hg; have NB838_836 := nr_ BK836 hg; have NB837_838 := nl_ BK837 hg; have NB838_837 := nr_ BK837 hg; replace BK836 := bk_ BK836 hb; replace BK837 := bk_ BK837 hb; replace HB := hs_ hb; clear hb hbox hg) | ((with_reducible refine a3_ (N := 5) rfl ?_); refine bx 5 #[.int .i64 0, .int .i64 0, .int .u64 0, .int .i64 0] 51 ?_; intro gb839 hg w54 hbox hb; have BK839 := m_ (hbox); have GW839 := ge_ hg; have GE839 := ge_ hg; have NB836_839 := nl_ BK836 hg; have NB839_836 := nr_ BK836 hg; have NB837_839 := nl_ BK837 hg; have NB839_837 := nr_ BK837 hg; have NB838_839 := nl_ BK838 hg; have NB839_838 := nr_ BK838 hg; replace BK836 := bk_ BK836 hb; replace BK837 := bk_ BK837 hb; replace BK838 := bk_ BK838 hb; replace HB := hs_ hb; clear hb hbox hg; have hnb55 := NB836_837.out; have hnc55 := NB837_836.out; have hnb56 := NB836_838.out; have hnc56 := NB838_836.out; have hnb57 := NB836_839.out; have hnc57 := NB839_836.out; obtain ⟨hcz58_0, hcz58_1, hcz58_2, hcz58_3, hfz58_0, hfz58_1, hfz58_2, hfz58_3⟩ := bz4_ BK836) | ((with_reducible refine a9_ (f := 83) rfl ?_); refine goesL_ (some 11) rfl rfl Try.func83 (by kernel_rfl) rfl #[.agg #[.int .i64 a0_0, .int .i64 a0_1, .int .i64 a0_2, .int .i64 a0_3]] rfl Z0 ?_; (with_reducible refine (shape_Check.calls a0_0 a0_1 a0_2 a0_3 t840 _ A3.out).mono ?_); rintro e w59 ⟨rfl, hb⟩; refine ⟨_, rfl, ?_⟩; replace BK836 := bk_ BK836 hb; replace BK837 := bk_ BK837 hb; replace BK838 := bk_ BK838 hb; replace BK839 := bk_ BK839 hb; replace HB := hs_ hb; (try clear hb); (try clear hb2); (try clear hk); (try clear hi); have hnb60 := NB838_837.out; have hnc60 := NB837_838.out; have hnb61 := NB838_839.out; have hnc61 := NB839_838.out; obtain ⟨hcz62_0, hcz62_1, hcz62_2, hcz62_3, hfz62_0, hfz62_1, hfz62_2, hfz62_3⟩ := bz4_ BK838; have hnb63 := NB839_837.out; have hnc63 := NB837_839.out; obtain ⟨hcz64_0, hcz64_1, hcz64_2, hcz64_3, hfz64_0, hfz64_1, hfz64_2, hfz64_3⟩ := bz4_ BK839))
  refine bodyPost_ret (results_list (rs := [.cell 4 52, .cell 5 51, .tmp 6]) rfl (by simp) (.cell gb838 52 #[.int .i64 0, .int .i64 0, .int .u64 0, .int .i64 0] (0, 0) _ rfl (bt_ BK838) Try.underlying52 rfl (by kernel_rfl) (.cell gb839 51 #[.int .i64 0, .int .i64 0, .int .u64 0, .int .i64 0] (0, 0) _ rfl (bt_ BK839) Try.underlying51 rfl (by kernel_rfl) (.tmp .nil)))) rfl ?_
  exact ⟨by first | rfl | (simp [a8_, a7_] <;> rfl) | (simp [*, a8_, a7_] <;> rfl), hb_⟩
end Go.Proofs.Ytckhjehibjdjdaa.P
namespace Go.Proofs.Ytckhjehibjdjdaa.P
open Go.RowKit Go.Shelf Go.Lib Go.Proofs.YtckhjehibjdjdaaW.PrintWords Go.Proofs.YtckhjehibjdjdaaW.PrintLast Go.Proofs.YtckhjehibjdjdaaW.PrintMore
open Go.Proofs.Ytckhjehibjdjdaa.Bits
attribute [local go_sem] Oper.semAt_some
theorem sortAny (base : Nat) (ok : Nat → Prop) (v : Value) (gs gl : Nat) (s0 s1 s2 s3 : Int) (xs : List S51) (w : World) (hgs : w.heap[gs]? = some (.cells #[.int .i64 s0, .int .i64 s1, .int .i64 s2, .int .i64 s3] 27 (0, 0))) (hgl : w.heap[gl]? = some (.cells #[v] 22 (0, 0)))
  (hrw : Kd.R k51 51 w base ok v xs) (hn : xs.length ≤ 1000000) (hf : ∀ f ∈ xs, freeOk f = true) :
  Calls Try.prog 85 #[.iface 22 v, .func (.func 86) #[] #[.pointer (some ⟨gs, 0, none⟩), .pointer (some ⟨gl, 0, none⟩)]] w fun e w' => e = .returned (.tuple #[]) ∧ Kd.R k51 51 w' base ok v (isort (fkey s0 s1 s2 s3) xs) ∧ w.grownBy w' v.ownBlock := by
 by_cases h2 : 2 ≤ xs.length
 ·obtain ⟨g, c, cur, hv, _, _, hh⟩ := own51 hrw (by omega)
  subst hv
  have h1 : gs ≠ g := blk_ne hgs hh (by decide)
  have h3 : gl ≠ g := blk_ne hgl hh (by decide)
  have := sortPlace base ok g gs gl xs.length c s0 s1 s2 s3 xs w hgs hgl hrw h2 hn hf h1 h3 (b7_ hh)
  refine this.mono ?_
  rintro e w' ⟨he, hr, hg⟩
  exact ⟨he, hr, by simpa [Value.ownBlock] using hg⟩
 ·obtain ⟨A, c, rfl⟩ := Kd.R_slice hrw
  refine (sortPlace_tiny A xs.length c (by omega) _ w).mono ?_
  rintro e w' ⟨he, hb⟩
  rw [isort_one (fkey s0 s1 s2 s3) xs (by omega)]
  exact ⟨he, Kd.R_below hrw hb, ⟨hb.os, hb.tape, hb.output, hb.size, fun k hk _ => hb.block k hk⟩⟩
def pieceL (s0 s1 : Int) (f : S51) : S52 := ⟨f.f0, lowI f.f1 s0, s1⟩
def leftF (s0 s1 : Int) (f : S51) : S51 := ⟨f.f0, Go.bits .andNot .u64 f.f1 (lowI f.f1 s0), wrap64 (f.f2 - s1)⟩
def cutL (s0 s1 s2 s3 : Int) (m : Nat) : Nat → S51 → List S52 → List S52
 | 0, _, out => out
 | k + 1, f, out => if out.length < m ∧ fitV s0 s1 s2 s3 f.f1 f.f2 ≠ 0 then cutL s0 s1 s2 s3 m k (leftF s0 s1 f) (out ++ [pieceL s0 s1 f]) else out
def placeL (s0 s1 s2 s3 : Int) (m : Nat) (l : List S51) : List S52 := l.foldl (fun out f => cutL s0 s1 s2 s3 m 17 f out) []
theorem cutL_le (s0 s1 s2 s3 : Int) (m : Nat) : ∀ (k : Nat) (f : S51) (out : List S52), out.length ≤ m → (cutL s0 s1 s2 s3 m k f out).length ≤ m
 | 0, _, out, h => h
 | k + 1, f, out, h => by
  rw [cutL]
  split
  ·rename_i hc; exact cutL_le s0 s1 s2 s3 m k _ _ (by simp; omega)
  ·exact h
theorem placeL_le (s0 s1 s2 s3 : Int) (m : Nat) (l : List S51) : (placeL s0 s1 s2 s3 m l).length ≤ m := by
 have : ∀ (l : List S51) (out : List S52), out.length ≤ m → (l.foldl (fun out f => cutL s0 s1 s2 s3 m 17 f out) out).length ≤ m := by
  intro l
  induction l with
  | nil => intro out h; exact h
  | cons x l ih => intro out h; exact ih _ (cutL_le s0 s1 s2 s3 m 17 x out h)
 exact this l [] (by simp)
theorem placeL_take (s0 s1 s2 s3 : Int) (m : Nat) (l : List S51) (i : Nat) (h : i < l.length) : placeL s0 s1 s2 s3 m (l.take (i + 1)) = cutL s0 s1 s2 s3 m 17 l[i] (placeL s0 s1 s2 s3 m (l.take i)) := by
 unfold placeL
 rw [List.take_succ_eq_append_getElem h, List.foldl_append]; rfl
def placeOk (view : List S51) : Bool := view.all freeOk && decide (view.length ≤ 1000000)
def placeB (view : List S51) (s0 s1 s2 s3 m : Int) : List S52 × Int :=
 if c4_ s0 s1 s2 s3 = true ∧ 1 ≤ m ∧ m ≤ 16 then
  (if (placeL s0 s1 s2 s3 m.toNat (isort (fkey s0 s1 s2 s3) view)).length < m.toNat then ([], 7) else (placeL s0 s1 s2 s3 m.toNat (isort (fkey s0 s1 s2 s3) view), 0))
 else ([], 1)
theorem good_out0 {g c mn mx : Int} (h : c4_ g c mn mx = true) : 0 ≤ g ∧ g ≤ 16 ∧ 0 ≤ c ∧ c ≤ 1024 := by
 simp only [c4_, Bool.and_eq_true, decide_eq_true_eq] at h
 omega
def pack_Place.f (l0 : List (S51)) (a1_0 a1_1 a1_2 a1_3 a2 : Int) : Option ((List (S52)) × Int) := if placeOk l0 = true then some (placeB l0 a1_0 a1_1 a1_2 a1_3 a2) else none
theorem put4 {W : World} {g : Nat} {t : TypeId} {a b c d a' b' c' d' : Value} (h : W.heap[g]? = some (.cells #[a, b, c, d] t (0, 0))) :
  ((((W.setCell ⟨g, 0, none⟩ a').setCell ⟨g, 1, none⟩ b').setCell ⟨g, 2, none⟩ c').setCell ⟨g, 3, none⟩ d').heap[g]? = some (.cells #[a', b', c', d'] t (0, 0)) := c5_ (c5_ (c5_ (c5_ h 0 _ rfl) 1 _ rfl) 2 _ rfl) 3 _ rfl
theorem grown4 (W : World) (g : Nat) {a' b' c' d' : Value} : W.grownBy ((((W.setCell ⟨g, 0, none⟩ a').setCell ⟨g, 1, none⟩ b').setCell ⟨g, 2, none⟩ c').setCell ⟨g, 3, none⟩ d') (some g) := grown_set (grown_set (grown_set (grown_set (c7_ W (some g)))))
theorem k4c {W : World} {g : Nat} {t : TypeId} {a b c d : Value} (h : A_ (W.heap[g]? = some (.cells #[a, b, c, d] t (0, 0)))) : W.cell? ⟨g, 0, none⟩ = some a ∧ W.cell? ⟨g, 1, none⟩ = some b ∧ W.cell? ⟨g, 2, none⟩ = some c ∧ W.cell? ⟨g, 3, none⟩ = some d := ⟨a0_ h.out 0, a0_ h.out 1, a0_ h.out 2, a0_ h.out 3⟩
theorem far4 {W : World} {g k : Nat} {t : TypeId} {cs : Array Value} {a' b' c' d' : Value} (h : W.heap[k]? = some (.cells cs t (0, 0))) (hne : k ≠ g) :
  ((((W.setCell ⟨g, 0, none⟩ a').setCell ⟨g, 1, none⟩ b').setCell ⟨g, 2, none⟩ c').setCell ⟨g, 3, none⟩ d').heap[k]? = some (.cells cs t (0, 0)) := b8_ (b8_ (b8_ (b8_ h hne _) hne _) hne _) hne _
theorem below4 {w W : World} {g : Nat} {a' b' c' d' : Value} (h : Below w.heap.size w W) (hg : w.heap.size ≤ g) :
  Below w.heap.size w ((((W.setCell ⟨g, 0, none⟩ a').setCell ⟨g, 1, none⟩ b').setCell ⟨g, 2, none⟩ c').setCell ⟨g, 3, none⟩ d') := b2_ (b2_ (b2_ (b2_ h hg) hg) hg) hg
theorem fit_pop {s0 s1 s2 s3 : Int} {f : S51} (hg : c4_ s0 s1 s2 s3 = true) (hf : freeOk f = true) (h : fitV s0 s1 s2 s3 f.f1 f.f2 ≠ 0) : ¬ popI f.f1 < s0 := fun hp => by
 have hb := good_out0 hg
 have h0 := (popI_bd f.f1).1
 apply h
 unfold fitV
 split
 ·rename_i hc
  unfold fitN
  have e1 : eachI (popI f.f1) s0 = 0 := by
   unfold eachI
   rw [if_neg (by omega)]
   exact Int.ediv_eq_zero_of_lt h0 hp
  have e2 : 0 ≤ eachI f.f2 s1 := by
   unfold eachI
   split
   ·decide
   ·exact Int.ediv_nonneg hc.2 hb.2.2.1
  rw [e1]
  omega
 ·rfl
theorem freeOk0 {f : S51} (hf : freeOk f = true) : 0 ≤ f.f1 ∧ f.f1 < 18446744073709551616 ∧ f.f2 ≤ 9223372036854775807 := by
 simp only [freeOk, w64B, Bool.and_eq_true, decide_eq_true_eq] at hf; omega
theorem piece_no {s0 s1 s2 s3 : Int} (f : S51) (hg : c4_ s0 s1 s2 s3 = true) (hf : freeOk f = true) (h : fitV s0 s1 s2 s3 f.f1 f.f2 = 0) : shape_Piece.f s0 s1 s2 s3 f.f0.f0 f.f0.f1 f.f1 f.f2 = some (0, 0, 0, 0, 0, 0, 0, 0, 7) := by
 unfold shape_Piece.f shape_Check.f shape_Fits.f
 rw [if_pos hg, Option.bind_some, if_pos rfl, if_pos (freeOk0 hf), Option.bind_some, if_pos h]
theorem piece_yes {s0 s1 s2 s3 : Int} (f : S51) (hg : c4_ s0 s1 s2 s3 = true) (hf : freeOk f = true) (h : fitV s0 s1 s2 s3 f.f1 f.f2 ≠ 0) : shape_Piece.f s0 s1 s2 s3 f.f0.f0 f.f0.f1 f.f1 f.f2 = some (f.f0.f0, f.f0.f1, lowI f.f1 s0, s1, f.f0.f0, f.f0.f1, Go.bits .andNot .u64 f.f1 (lowI f.f1 s0), wrap64 (f.f2 - s1), 0) := by
 have hp := fit_pop hg hf h
 have h0 := freeOk0 hf
 have hb := good_out0 hg
 have e : mask_Lowest.f f.f1 s0 = some (lowI f.f1 s0, 0) := by
  unfold mask_Lowest.f
  rw [if_pos ⟨h0.1, h0.2.1⟩, if_neg (by omega), if_neg hp]
 unfold shape_Piece.f shape_Check.f shape_Fits.f
 rw [if_pos hg, Option.bind_some, if_pos rfl, if_pos h0, Option.bind_some, if_neg h, e, Option.bind_some]
theorem leftF_ok (s0 s1 : Int) {f : S51} (hf : freeOk f = true) : freeOk (leftF s0 s1 f) = true := by
 have e : Go.bits .andNot .u64 f.f1 (lowI f.f1 s0) = ((BitVec.ofInt 64 f.f1 &&& ~~~ BitVec.ofInt 64 (lowI f.f1 s0)).toNat : Int) := by
  show IntKind.u64.wrap ((BitVec.ofInt 64 f.f1 &&& ~~~ BitVec.ofInt 64 (lowI f.f1 s0)).toNat : Int) = _
  rw [wrapN, Nat.mod_eq_of_lt (BitVec.isLt _)]
 have h1 := (BitVec.ofInt 64 f.f1 &&& ~~~ BitVec.ofInt 64 (lowI f.f1 s0)).isLt
 unfold leftF freeOk
 simp only
 rw [e, decide_eq_true (by omega), decide_eq_true (by omega)]
 exact w64_wrap _
def T46 : Bool × List (List Nat × List Nat) := (true, [([], []), ([], []), ([1], [1]), ([0, 2], [0, 2]), ([], []), ([3, 3, 0, 1, 2, 3], [0, 3]), ([4, 5, 0, 1, 2, 3, 4, 5], [4])])
def B46 : List Nat := [0, 0, 2, 7, 0, 15, 63]
theorem tab46 : rtab .any (opsOf Try.f46 12) = T46 := by kernel_rfl
theorem bits46 : waitsOk T46.2 B46 = true := by kernel_rfl
set_option maxHeartbeats 16000000 in
set_option maxRecDepth 100000 in
theorem place_any (A0 : Option Addr) (c0 : Nat) (l0 : List S51) (s0 s1 s2 s3 : Int) (m : Nat) (w : World) (hr0 : Kd.C k51 w A0 l0.length l0) (hc0 : l0.length ≤ c0) (hf : ∀ f ∈ l0, freeOk f = true) (hl : l0.length ≤ 1000000) (hg : c4_ s0 s1 s2 s3 = true) (hm1 : 1 ≤ m) (hm : m ≤ 16) :
  Calls Try.prog 46 #[.slice A0 l0.length c0, .agg #[.int .i64 s0, .int .i64 s1, .int .i64 s2, .int .i64 s3], .int .i64 (m : Int)] w fun e w' => ∃ v0_ : Value, e = .returned (.tuple #[v0_, .int .i64 (placeB l0 s0 s1 s2 s3 (m : Int)).2]) ∧ Kd.R k52 52 w' w.heap.size (fun _ => True) v0_ (placeB l0 s0 s1 s2 s3 (m : Int)).1 ∧ Below w.heap.size w w' := by
 have hu27 := Try.underlying27
 have hu22 := Try.underlying22
 have hu51 := Try.underlying51
 have hu39 := Try.underlying39
 have hu52 := Try.underlying52
 have HCHK := m_ (show shape_Check.f s0 s1 s2 s3 = some 0 from by unfold shape_Check.f; rw [if_pos hg])
 have HGD := m_ hg
 have HR0 := m_ hr0
 have HC0 := m_ hc0
 have HF := m_ hf
 obtain ⟨L, hL⟩ : ∃ L, L = isort (fkey s0 s1 s2 s3) l0 := ⟨_, rfl⟩
 have hLl : L.length = l0.length := by rw [hL]; exact (isort_perm _ _).length_eq
 have HLF := m_ (show ∀ f ∈ L, freeOk f = true from fun f h => hf f (by rw [hL] at h; exact (isort_perm (fkey s0 s1 s2 s3) l0).mem_iff.1 h))
 have hpB : placeB l0 s0 s1 s2 s3 (m : Int) = if (placeL s0 s1 s2 s3 m L).length < m then ([], 7) else (placeL s0 s1 s2 s3 m L, 0) := by
  unfold placeB
  rw [if_pos ⟨hg, by omega, by omega⟩, Int.toNat_natCast, hL]
 have HL := m_ hL
 generalize placeB l0 s0 s1 s2 s3 (m : Int) = pB at *
 have HPB := m_ hpB
 have q1 : ¬ (m : Int) < 1 := by omega
 have q2 : ¬ (16 : Int) < (m : Int) := by omega
 have hgd : c4_ s0 s1 s2 s3 = true := hg
 clear hr0 hc0 hf hg hL hpB
 go_enter Try.func46, Try.ntmps46
 go_wp2_with (first | ((with_reducible refine a3_ (N := 4) rfl ?_); refine bx 4 #[.int .i64 s0, .int .i64 s1, .int .i64 s2, .int .i64 s3] 27 ?_; intro gs hggs w1 hxgs hbgs; have HGS := m_ hxgs; have HB := m_ hbgs; clear hggs hxgs hbgs; obtain ⟨e0, e1, e2, e3⟩ := k4c HGS) | (go_at_call 83; refine (shape_Check.calls s0 s1 s2 s3 0 _ HCHK.out).mono ?_; rintro e w2 ⟨rfl, hb⟩; replace HGS := m_ (a1_ HGS.out hb); replace HB := m_ (a6_ HB.out hb); clear hb; obtain ⟨e0, e1, e2, e3⟩ := k4c HGS) | (go_at_call 84; refine (clone84_any A0 c0 l0 _ (Kd.C_below HR0.out HB.out) HC0.out (by omega)).mono ?_; rintro e w5 ⟨v5, rfl, hr5, hb5⟩; obtain ⟨A5, c5, rfl⟩ := Kd.R_slice hr5; have hbs := b3_ HB.out; replace HGS := m_ (a1_ HGS.out hb5); replace HB := m_ (a6_ HB.out hb5); have HR5 := m_ (Kd.R_lower hr5 hbs); clear hb5 hr5 hbs) | (go_at_call 85; have hb6 := b1_ (Below.refl w5.heap.size w5) (.cells #[.slice A5 l0.length c5] 22); have hr6 := Kd.R_below HR5.out hb6; have hs6 := a1_ HGS.out hb6; have hl6 := blk_new w5 (.cells #[.slice A5 l0.length c5] 22); refine (sortAny _ _ _ gs w5.heap.size s0 s1 s2 s3 l0 _ hs6 hl6 hr6 hl HF.out).mono ?_; rintro e w7 ⟨rfl, hr7, hg7⟩; have HRW := m_ hr7; have hgs7 := d4_ hs6 hg7 (Kd.R_ne hr6 hs6 (by decide)); have hgl7 := d4_ hl6 hg7 (Kd.R_ne hr6 hl6 (by decide)); replace HB := m_ (pw_below_grown (a6_ HB.out hb6) _ (b3_ (a6_ HB.out hb6)) hg7 (Kd.R_base hr6)); replace HGS := m_ hgs7; have HGL := m_ hgl7; clear hb6 hr6 hs6 hl6 hr7 hg7 hgs7 hgl7; have hz0 : w7.cell? ⟨w5.heap.size, 0, none⟩ = some (.slice A5 l0.length c5) := (a0_ HGL.out 0).trans rfl))
 rw [← HL.out] at HRW
 go_loopw [9, 34] (fun v9 v34 wr => ∃ (i : Nat) (vo : Value), i ≤ l0.length ∧ v34 = .int .i64 (i : Int) ∧ v9 = vo ∧ A_ (Kd.R k52 52 wr w.heap.size (fun _ => True) vo (placeL s0 s1 s2 s3 m (L.take i))) ∧ A_ (Kd.R k51 51 wr w.heap.size (fun _ => True) (.slice A5 l0.length c5) L) ∧ A_ (wr.heap[gs]? = some (.cells #[.int .i64 s0, .int .i64 s1, .int .i64 s2, .int .i64 s3] 27 (0, 0))) ∧ A_ (Below w.heap.size w wr)) (fun _ v34 _ => l0.length - (intOf v34).toNat)
 case atStart => exact ⟨0, _, Nat.zero_le _, rfl, rfl, ⟨Kd.R_nil _ _ _ _ _⟩, HRW, HGS, HB⟩
 case round =>
  clear HRW HGS HB HGL hz0 HR5
  obtain ⟨i, vo, hi, rfl, rfl, HO, HRW, HGS, HB⟩ := hrel
  by_cases hlt : i < l0.length
  ·have hlt' : (i : Int) < l0.length := by omega
   have hiL : i < L.length := by omega
   obtain ⟨x, hx⟩ : ∃ x, L[i]? = some x := ⟨_, List.getElem?_eq_getElem hiL⟩
   have HST := m_ (show placeL s0 s1 s2 s3 m (L.take (i + 1)) = cutL s0 s1 s2 s3 m 17 x (placeL s0 s1 s2 s3 m (L.take i)) from by
    rw [placeL_take _ _ _ _ _ _ _ hiL]; congr 1; rw [List.getElem?_eq_getElem hiL] at hx; injection hx)
   have HXO := m_ (HLF.out x (List.mem_of_getElem? hx))
   have hlen := placeL_le s0 s1 s2 s3 m (L.take i)
   obtain ⟨g5, c5', cur5, hv5, _, _, hh5⟩ := own51 HRW.out (by omega)
   injection hv5 with ha5 hn5 hc5
   subst ha5
   clear hn5 hc5
   obtain ⟨x0, x1, x2, x3⟩ := row51 (n := l0.length) HRW.out hx
   clear hh5 hx hiL
   generalize placeL s0 s1 s2 s3 m (L.take i) = out0 at *
   obtain ⟨goal, hgoal⟩ : ∃ g, g = placeL s0 s1 s2 s3 m (L.take (i + 1)) := ⟨_, rfl⟩
   have HGO := m_ hgoal
   replace HST := HST.out
   rw [← hgoal] at HST
   replace HST := m_ HST
   clear hgoal
   have HLL := m_ hLl
   have HGDD := m_ hgd
   clear hLl hgd
   go_wp2_with (first | ((with_reducible refine a3_ (N := 11) rfl ?_); refine bx 11 #[.int .i64 0, .int .i64 0, .int .u64 0, .int .i64 0] 51 ?_; intro gf hggf wf hxgf hbgf; have N5 := m_ (show gf ≠ g5 from by have := Kd.R_lt HRW.out g5 rfl; omega); have hb0 := HB.out; have HXF := m_ (put4 (a' := .int .i64 x.f0.f0) (b' := .int .i64 x.f0.f1) (c' := .int .u64 x.f1) (d' := .int .i64 x.f2) hxgf); have hb4 := below4 (a' := .int .i64 x.f0.f0) (b' := .int .i64 x.f0.f1) (c' := .int .u64 x.f1) (d' := .int .i64 x.f2) hbgf (Nat.le_of_eq hggf.symm); replace HO := m_ (Kd.R_below HO.out hb4); replace HRW := m_ (Kd.R_below HRW.out hb4); replace HGS := m_ (a1_ HGS.out hb4); replace HB := m_ (a6_ HB.out hb4); have hgfw : w.heap.size ≤ gf := Nat.le_trans (b3_ hb0) (Nat.le_of_eq hggf.symm); obtain ⟨c0_, c1_, c2_, c3_⟩ := k4c ⟨hxgf⟩; have z0_ := a2_ hxgf 0; have z1_ := a2_ hxgf 1; have z2_ := a2_ hxgf 2; have z3_ := a2_ hxgf 3; clear hb4 hbgf hb0 hggf hxgf))
   have hLl := HLL.out
   have hgd := HGDD.out
   clear x0 x1 x2 x3 c0_ c1_ c2_ c3_ z0_ z1_ z2_ z3_
   go_loopg [9] 17 (fun kq v9 w2 => ∃ (vo : Value) (f : S51) (out : List S52), v9 = vo ∧ m ≤ out.length + kq ∧ out.length ≤ m ∧ A_ (freeOk f = true) ∧ A_ (cutL s0 s1 s2 s3 m kq f out = goal) ∧ A_ (Kd.R k52 52 w2 w.heap.size (fun _ => True) vo out) ∧ A_ (w2.heap[gf]? = some (.cells #[.int .i64 f.f0.f0, .int .i64 f.f0.f1, .int .u64 f.f1, .int .i64 f.f2] 51 (0, 0))) ∧ A_ (Kd.R k51 51 w2 w.heap.size (fun _ => True) (.slice (some ⟨g5, 0, none⟩) l0.length c5) L) ∧ A_ (w2.heap[gs]? = some (.cells #[.int .i64 s0, .int .i64 s1, .int .i64 s2, .int .i64 s3] 27 (0, 0))) ∧ A_ (Below w.heap.size w w2))
   case atStart => exact ⟨_, x, out0, rfl, by omega, hlen, HXO, ⟨HST.out.symm⟩, HO, HXF, HRW, HGS, HB⟩
   case round =>
    clear HXO HST HO HXF HRW HGS HB hlen
    obtain ⟨vo, f, out, rfl, hfu, hlen, HFO, HCU, HO, HXF, HRW, HGS, HB⟩ := hrel
    obtain ⟨Ao, co, rfl⟩ := Kd.R_slice HO.out
    have HGF := m_ (show w.heap.size ≤ gf from hgfw)
    by_cases hlm : out.length < m
    ·have hlm' : (out.length : Int) < (m : Int) := by omega
     obtain ⟨k', hk'⟩ : ∃ k', gk = k' + 1 := ⟨gk - 1, by omega⟩
     rw [hk'] at HCU hfu
     have HKK := m_ hk'
     clear hk'
     obtain ⟨e0, e1, e2, e3⟩ := k4c HGS
     obtain ⟨f0, f1, f2, f3⟩ := k4c HXF
     by_cases hfit : fitV s0 s1 s2 s3 f.f1 f.f2 = 0
     ·have HPC := m_ (piece_no f hgd HFO.out hfit)
      have HEQ := m_ (show out = goal from by rw [← HCU.out, cutL, if_neg (fun h => h.2 hfit)])
      clear hfit hLl hgd
      go_wp2_with (first | (go_at_call 88; refine (shape_Piece.calls s0 s1 s2 s3 f.f0.f0 f.f0.f1 f.f1 f.f2 0 0 0 0 0 0 0 0 7 _ HPC.out).mono ?_; rintro e wp ⟨rfl, hb⟩; replace HXF := m_ (a1_ HXF.out hb); replace HGS := m_ (a1_ HGS.out hb); replace HRW := m_ (Kd.R_below HRW.out hb); replace HO := m_ (Kd.R_below HO.out hb); replace HB := m_ (a6_ HB.out hb); clear hb) | ((with_reducible refine a3_ (N := 12) rfl ?_); refine bx 12 #[.int .i64 0, .int .i64 0, .int .u64 0, .int .i64 0] 52 ?_; intro g12 hgg12 wa hxg12 hbg12; have HX12 := m_ hxg12; have HP := m_ hbg12; have hg12w : wp.heap.size ≤ g12 := Nat.le_of_eq hgg12.symm; have N12 := m_ (show some g12 ≠ (.slice Ao out.length co : Value).ownBlock from fun h => by have := Kd.R_lt HO.out g12 h.symm; omega); clear hgg12 hxg12 hbg12) | ((with_reducible refine a3_ (N := 13) rfl ?_); refine bx 13 #[.int .i64 0, .int .i64 0, .int .u64 0, .int .i64 0] 51 ?_; intro g13 hgg13 wb hxg13 hbg13; have HX13 := m_ hxg13; have N1213 := m_ (show g12 ≠ g13 from by have := b7_ HX12.out; omega); replace HX12 := m_ (a1_ HX12.out hbg13); have hg13w : wp.heap.size ≤ g13 := (by have := b3_ HP.out; omega); replace HP := m_ (a6_ HP.out hbg13); clear hgg13 hxg13 hbg13; obtain ⟨c0_, c1_, c2_, c3_⟩ := k4c HX12; have z0_ := a2_ HX12.out 0; have z1_ := a2_ HX12.out 1; have z2_ := a2_ HX12.out 2; have z3_ := a2_ HX12.out 3; obtain ⟨d0_, d1_, d2_, d3_⟩ := k4c HX13; have y0_ := a2_ HX13.out 0; have y1_ := a2_ HX13.out 1; have y2_ := a2_ HX13.out 2; have y3_ := a2_ HX13.out 3; have n1_ := N1213.out; have n2_ := N1213.out.symm))
      go_roundw
      case rel => exact ⟨i + 1, _, by omega, by go_num, rfl, ⟨by rw [← HGO.out, ← HEQ.out]; exact Kd.R_below HO.out (below4 (below4 HP.out hg12w) hg13w)⟩, ⟨Kd.R_below HRW.out (below4 (below4 HP.out hg12w) hg13w)⟩, ⟨a1_ HGS.out (below4 (below4 HP.out hg12w) hg13w)⟩, ⟨a6_ HB.out (below4 (below4 HP.out hg12w) hg13w)⟩⟩
      case measure => simp [intOf]; omega
     ·have HPC := m_ (piece_yes f hgd HFO.out hfit)
      have HEQ := m_ (show cutL s0 s1 s2 s3 m k' (leftF s0 s1 f) (out ++ [pieceL s0 s1 f]) = goal from by rw [← HCU.out, cutL, if_pos ⟨hlm, hfit⟩])
      have HFL := m_ (leftF_ok s0 s1 HFO.out)
      clear hfit hLl hgd
      go_wp2_with (first | (go_at_call 88; refine (shape_Piece.calls s0 s1 s2 s3 f.f0.f0 f.f0.f1 f.f1 f.f2 f.f0.f0 f.f0.f1 (lowI f.f1 s0) s1 f.f0.f0 f.f0.f1 (Go.bits .andNot .u64 f.f1 (lowI f.f1 s0)) (wrap64 (f.f2 - s1)) 0 _ HPC.out).mono ?_; rintro e wp ⟨rfl, hb⟩; replace HXF := m_ (a1_ HXF.out hb); replace HGS := m_ (a1_ HGS.out hb); replace HRW := m_ (Kd.R_below HRW.out hb); replace HO := m_ (Kd.R_below HO.out hb); replace HB := m_ (a6_ HB.out hb); clear hb) | ((with_reducible refine a3_ (N := 12) rfl ?_); refine bx 12 #[.int .i64 0, .int .i64 0, .int .u64 0, .int .i64 0] 52 ?_; intro g12 hgg12 wa hxg12 hbg12; have HX12 := m_ hxg12; have HP := m_ hbg12; have hg12w : wp.heap.size ≤ g12 := Nat.le_of_eq hgg12.symm; have N12 := m_ (show some g12 ≠ (.slice Ao out.length co : Value).ownBlock from fun h => by have := Kd.R_lt HO.out g12 h.symm; omega); clear hgg12 hxg12 hbg12) | ((with_reducible refine a3_ (N := 13) rfl ?_); refine bx 13 #[.int .i64 0, .int .i64 0, .int .u64 0, .int .i64 0] 51 ?_; intro g13 hgg13 wb hxg13 hbg13; have HX13 := m_ hxg13; have N1213 := m_ (show g12 ≠ g13 from by have := b7_ HX12.out; omega); replace HX12 := m_ (a1_ HX12.out hbg13); have hg13w : wp.heap.size ≤ g13 := (by have := b3_ HP.out; omega); replace HP := m_ (a6_ HP.out hbg13); clear hgg13 hxg13 hbg13; obtain ⟨c0_, c1_, c2_, c3_⟩ := k4c HX12; have z0_ := a2_ HX12.out 0; have z1_ := a2_ HX12.out 1; have z2_ := a2_ HX12.out 2; have z3_ := a2_ HX12.out 3; obtain ⟨d0_, d1_, d2_, d3_⟩ := k4c HX13; have y0_ := a2_ HX13.out 0; have y1_ := a2_ HX13.out 1; have y2_ := a2_ HX13.out 2; have y3_ := a2_ HX13.out 3; have n1_ := N1213.out; have n2_ := N1213.out.symm))
      have hP8 := b4_ (below4 (a' := .int .i64 (f.f0.f0)) (b' := .int .i64 (f.f0.f1)) (c' := .int .u64 (Go.bits .andNot .u64 f.f1 (lowI f.f1 s0))) (d' := .int .i64 (wrap64 (f.f2 - s1))) (below4 (a' := .int .i64 (f.f0.f0)) (b' := .int .i64 (f.f0.f1)) (c' := .int .u64 (lowI f.f1 s0)) (d' := .int .i64 (s1)) HP.out hg12w) hg13w)
      have hx12 := c8_ (far4 (a' := .int .i64 (f.f0.f0)) (b' := .int .i64 (f.f0.f1)) (c' := .int .u64 (Go.bits .andNot .u64 f.f1 (lowI f.f1 s0))) (d' := .int .i64 (wrap64 (f.f2 - s1))) (put4 (a' := .int .i64 (f.f0.f0)) (b' := .int .i64 (f.f0.f1)) (c' := .int .u64 (lowI f.f1 s0)) (d' := .int .i64 (s1)) HX12.out) N1213.out)
      have hx13 := c8_ (put4 (a' := .int .i64 (f.f0.f0)) (b' := .int .i64 (f.f0.f1)) (c' := .int .u64 (Go.bits .andNot .u64 f.f1 (lowI f.f1 s0))) (d' := .int .i64 (wrap64 (f.f2 - s1))) (far4 (a' := .int .i64 (f.f0.f0)) (b' := .int .i64 (f.f0.f1)) (c' := .int .u64 (lowI f.f1 s0)) (d' := .int .i64 (s1)) HX13.out N1213.out.symm))
      replace HXF := m_ (a1_ HXF.out hP8)
      replace HGS := m_ (a1_ HGS.out hP8)
      replace HRW := m_ (Kd.R_below HRW.out hP8)
      replace HO := m_ (Kd.R_below HO.out hP8)
      replace HB := m_ (a6_ HB.out hP8)
      replace HX12 := m_ hx12
      replace HX13 := m_ hx13
      have HT_ := m_ tab46
      have HW_ := m_ bits46
      clear hP8 hx12 hx13 HP c0_ c1_ c2_ c3_ z0_ z1_ z2_ z3_ d0_ d1_ d2_ d3_ y0_ y1_ y2_ y3_ n1_ n2_
      refine start_ (n := 7) (S := fun w' => w'.cell? ⟨g12, 0, none⟩ = some (.int .i64 (f.f0.f0)) ∧ w'.cell? ⟨g12, 1, none⟩ = some (.int .i64 (f.f0.f1)) ∧ w'.cell? ⟨g12, 2, none⟩ = some (.int .u64 (lowI f.f1 s0)) ∧ w'.cell? ⟨g12, 3, none⟩ = some (.int .i64 (s1)) ∧ w'.cell? ⟨g13, 0, none⟩ = some (.int .i64 (f.f0.f0)) ∧ w'.cell? ⟨g13, 1, none⟩ = some (.int .i64 (f.f0.f1)) ∧ w'.cell? ⟨g13, 2, none⟩ = some (.int .u64 (Go.bits .andNot .u64 f.f1 (lowI f.f1 s0))) ∧ w'.cell? ⟨g13, 3, none⟩ = some (.int .i64 (wrap64 (f.f2 - s1)))) (ds := [6]) (bm 7 0) (by kernel_rfl) rfl rfl ⟨(a0_ HX12.out 0).trans rfl, (a0_ HX12.out 1).trans rfl, (a0_ HX12.out 2).trans rfl, (a0_ HX12.out 3).trans rfl, (a0_ HX13.out 0).trans rfl, (a0_ HX13.out 1).trans rfl, (a0_ HX13.out 2).trans rfl, (a0_ HX13.out 3).trans rfl⟩ (fun hHeld => ?_)
      generalize World.drew _ = wq0 at HX12 HX13 HXF HGS HRW HB HO hHeld ⊢
      refine pu 0 (some 51) (bm 7 1) ?_
      refine tk 1 (some 52) (bm 7 3) ?_
      refine tk 4 (some 55) (bm 7 19) ?_
      refine one_ (i := 2) (N := some 53) (bm 7 23) rfl rfl (one_of HT_.out (by kernel_rfl)) (by decide) (fun K hK => ?_)
      refine value_ (w1 := ?_) (v := ?_) (by rfl) rfl ?_ ?_
      rotate_left 2
      ·go_simp
       constructor
       ·rfl
       ·rfl
      refine hK.out _ _ ⟨(a0_ (b5_ HX12.out _) 0).trans rfl, (a0_ (b5_ HX12.out _) 1).trans rfl, (a0_ (b5_ HX12.out _) 2).trans rfl, (a0_ (b5_ HX12.out _) 3).trans rfl, (a0_ (b5_ HX13.out _) 0).trans rfl, (a0_ (b5_ HX13.out _) 1).trans rfl, (a0_ (b5_ HX13.out _) 2).trans rfl, (a0_ (b5_ HX13.out _) 3).trans rfl⟩ (fun hHeld => ?_)
      clear hK K
      refine norm_ (a' := ?_) ?_ ?_
      rotate_left
      ·show Act.put _ (some 53) _ = _
       simp only [Act.put, List.setIfInBounds_toArray, List.set_cons_zero, List.set_cons_succ, i64_w, i32_w]
       rfl
      refine one_ (i := 3) (N := some 54) (bm 7 31) rfl rfl (one_of HT_.out (by kernel_rfl)) (by decide) (fun K hK => ?_)
      refine Kd.R_append_step k52 (w0 := w) w.heap.size (by rfl) (.tmp 51) (.tmp 53) 39 52 (.agg #[(.int .i64 0), (.int .i64 0), (.int .u64 0), (.int .i64 0)]) 32 rfl Try.underlying39 info52 rfl (by decide) (by omega) (.slice Ao out.length co) out (pieceL s0 s1 f) [.int .i64 (f.f0.f0), .int .i64 (f.f0.f1), .int .u64 (lowI f.f1 s0), .int .i64 (s1)] (fun _ => True) (fun _ => False) rfl rfl (k52_mkM _ _ _ (pieceL s0 s1 f)) (fun _ hk => hk.elim) (fun _ _ => trivial) HO.out HB.out (b3_ HB.out) (by omega) ?_
      intro v54 wn ho hb hg hat
      have hx12 := d4_ HX12.out hg (N12.out)
      have hx13 := d4_ HX13.out hg (Kd.R_ne HO.out HX13.out (by decide))
      replace HXF := m_ (d4_ HXF.out hg (Kd.R_ne HO.out HXF.out (by decide)))
      replace HGS := m_ (d4_ HGS.out hg (Kd.R_ne HO.out HGS.out (by decide)))
      replace HRW := m_ (Kd.R_over' HRW.out (Kd.R_typed HO.out) (by decide) hg)
      replace HX12 := m_ hx12
      replace HX13 := m_ hx13
      replace HB := m_ hb
      replace HO := m_ ho
      clear ho hb hg hat hx12 hx13 N12
      refine hK.out _ _ kc_ (fun hHeld => ?_)
      clear hK K
      refine norm_ (a' := ?_) ?_ ?_
      rotate_left
      ·show Act.put _ (some 54) _ = _
       simp only [Act.put, List.setIfInBounds_toArray, List.set_cons_zero, List.set_cons_succ, i64_w, i32_w]
       rfl
      refine pu 5 (some 9) (bm 7 63) ?_
      refine last_ (i := 6) (N := none) (bm 7 127) rfl rfl (one_of HT_.out (by kernel_rfl)) (by decide) (fun K hK => ?_)
      have hz0 := a2_ HXF.out 0
      have hz1 := a2_ HXF.out 1
      have hz2 := a2_ HXF.out 2
      have hz3 := a2_ HXF.out 3
      have hc0 := a0_ HXF.out 0
      have hc1 := a0_ HXF.out 1
      have hc2 := a0_ HXF.out 2
      have hc3 := a0_ HXF.out 3
      refine skip_ (w1 := ?_) (by rfl) rfl ?_ ?_
      rotate_left
      ·go_simp
       rfl
      refine hK.out _ _ ?_
      clear hK K hz0 hz1 hz2 hz3 hc0 hc1 hc2 hc3
      refine done_ (done_of HT_.out (by kernel_rfl)) ?_
      go_wp2
      go_roundg k'
      case rel => exact ⟨_, leftF s0 s1 f, out ++ [pieceL s0 s1 f], rfl, by simp; omega, by simp; omega, HFL, HEQ, ⟨Kd.R_grown2 HO.out rfl (grown4 wn gf) (fun k hk => by injection hk with hk; subst hk; exact Kd.R_ne HO.out HXF.out (by decide))⟩, ⟨put4 HXF.out⟩, ⟨Kd.R_grown2 HRW.out rfl (grown4 wn gf) (fun k hk => by injection hk with hk; subst hk; exact fun e => N5.out (by simpa [Value.ownBlock] using e))⟩, ⟨far4 HGS.out (blk_ne HGS.out HXF.out (by decide))⟩, ⟨below4 HB.out HGF.out⟩⟩
      case measure => have := HKK.out; omega
    ·have hlm' : ¬ (out.length : Int) < (m : Int) := by omega
     have HEQ := m_ (show out = goal from by
      rw [← HCU.out]
      cases gk with
      | zero => rfl
      | succ k => rw [cutL, if_neg (fun h => hlm h.1)])
     clear hLl hgd
     go_wp2
     go_roundw
     case rel => exact ⟨i + 1, _, by omega, by go_num, rfl, ⟨by rw [← HGO.out, ← HEQ.out]; exact HO.out⟩, HRW, HGS, HB⟩
     case measure => simp [intOf]; omega
  ·obtain rfl : i = l0.length := by omega
   have htk : L.take l0.length = L := List.take_of_length_le (by omega)
   rw [htk] at HO
   have hpb0 := HPB.out
   clear HPB
   generalize placeL s0 s1 s2 s3 m L = out at *
   have HPB := m_ hpb0
   clear hpb0 htk
   obtain ⟨Ao, co, rfl⟩ := Kd.R_slice HO.out
   by_cases hlm : out.length < m
   ·have hlm' : (out.length : Int) < (m : Int) := by omega
    have hpb := HPB.out
    rw [if_pos hlm] at hpb
    subst hpb
    go_wp2
    go_ret2
    exact ⟨_, rfl, Kd.R_nil _ _ _ _ _, HB.out⟩
   ·have hlm' : ¬ (out.length : Int) < (m : Int) := by omega
    have hpb := HPB.out
    rw [if_neg hlm] at hpb
    subst hpb
    go_wp2
    go_ret2
    exact ⟨_, rfl, HO.out, HB.out⟩
set_option maxHeartbeats 8000000 in
set_option maxRecDepth 100000 in
theorem place_bad (A0 : Option Addr) (c0 n0 : Nat) (s0 s1 s2 s3 m : Int) (w : World) (hb : ¬ (c4_ s0 s1 s2 s3 = true ∧ 1 ≤ m ∧ m ≤ 16)) :
  Calls Try.prog 46 #[.slice A0 n0 c0, .agg #[.int .i64 s0, .int .i64 s1, .int .i64 s2, .int .i64 s3], .int .i64 m] w fun e w' => ∃ v0_ : Value, e = .returned (.tuple #[v0_, .int .i64 1]) ∧ Kd.R k52 52 w' w.heap.size (fun _ => True) v0_ [] ∧ Below w.heap.size w w' := by
 have hu27 := Try.underlying27
 by_cases hg : c4_ s0 s1 s2 s3 = true
 ·have HCHK := m_ (show shape_Check.f s0 s1 s2 s3 = some 0 from by unfold shape_Check.f; rw [if_pos hg])
  have hm : ¬ (1 ≤ m ∧ m ≤ 16) := fun h => hb ⟨hg, h⟩
  clear hb hg
  by_cases h1 : m < 1
  ·have q1 : decide (m < 1) = true := by simp; omega
   clear hm
   go_enter Try.func46, Try.ntmps46
   go_wp2_with (first | ((with_reducible refine a3_ (N := 4) rfl ?_); refine bx 4 #[.int .i64 s0, .int .i64 s1, .int .i64 s2, .int .i64 s3] 27 ?_; intro gs hggs w1 hxgs hbgs; have HGS := m_ hxgs; have HB := m_ hbgs; clear hggs hxgs hbgs; obtain ⟨e0, e1, e2, e3⟩ := k4c HGS) | (go_at_call 83; refine (shape_Check.calls s0 s1 s2 s3 0 _ HCHK.out).mono ?_; rintro e w2 ⟨rfl, hb⟩; replace HB := m_ (a6_ HB.out hb); clear hb))
   go_ret2
   exact ⟨_, rfl, Kd.R_nil _ _ _ _ _, HB.out⟩
  ·have q1 : decide (m < 1) = false := by simp; omega
   have q2 : decide (16 < m) = true := by simp; omega
   clear hm
   go_enter Try.func46, Try.ntmps46
   go_wp2_with (first | ((with_reducible refine a3_ (N := 4) rfl ?_); refine bx 4 #[.int .i64 s0, .int .i64 s1, .int .i64 s2, .int .i64 s3] 27 ?_; intro gs hggs w1 hxgs hbgs; have HGS := m_ hxgs; have HB := m_ hbgs; clear hggs hxgs hbgs; obtain ⟨e0, e1, e2, e3⟩ := k4c HGS) | (go_at_call 83; refine (shape_Check.calls s0 s1 s2 s3 0 _ HCHK.out).mono ?_; rintro e w2 ⟨rfl, hb⟩; replace HB := m_ (a6_ HB.out hb); clear hb))
   go_ret2
   exact ⟨_, rfl, Kd.R_nil _ _ _ _ _, HB.out⟩
 ·have HCHK := m_ (show shape_Check.f s0 s1 s2 s3 = some 1 from by unfold shape_Check.f; rw [if_neg hg])
  clear hb hg
  go_enter Try.func46, Try.ntmps46
  go_wp2_with (first | ((with_reducible refine a3_ (N := 4) rfl ?_); refine bx 4 #[.int .i64 s0, .int .i64 s1, .int .i64 s2, .int .i64 s3] 27 ?_; intro gs hggs w1 hxgs hbgs; have HGS := m_ hxgs; have HB := m_ hbgs; clear hggs hxgs hbgs; obtain ⟨e0, e1, e2, e3⟩ := k4c HGS) | (go_at_call 83; refine (shape_Check.calls s0 s1 s2 s3 1 _ HCHK.out).mono ?_; rintro e w2 ⟨rfl, hb⟩; replace HB := m_ (a6_ HB.out hb); clear hb))
  go_ret2
  exact ⟨_, rfl, Kd.R_nil _ _ _ _ _, HB.out⟩
theorem pack_Place.calls (A0 : Option Addr) (c0 : Nat) (l0 : List (S51)) (a1_0 a1_1 a1_2 a1_3 a2 : Int) (r1 : List (S52)) (r2 : Int) (w : World) (hr0 : Kd.C k51 w A0 l0.length l0) (hc0 : l0.length ≤ c0) (h : pack_Place.f l0 a1_0 a1_1 a1_2 a1_3 a2 = some (r1, r2)) :
  Calls Try.prog 46 #[.slice A0 l0.length c0, .agg #[.int .i64 a1_0, .int .i64 a1_1, .int .i64 a1_2, .int .i64 a1_3], .int .i64 a2] w fun e w' => ∃ v0_ : Value, e = .returned (.tuple #[v0_, .int .i64 r2]) ∧ Kd.R k52 52 w' w.heap.size (fun _ => True) v0_ r1 ∧ Below w.heap.size w w' := by
 unfold pack_Place.f at h
 by_cases hok : placeOk l0 = true
 case neg => rw [if_neg hok] at h; cases h
 rw [if_pos hok] at h
 injection h with h
 unfold placeOk at hok
 simp only [Bool.and_eq_true, List.all_eq_true, decide_eq_true_eq] at hok
 by_cases hb : c4_ a1_0 a1_1 a1_2 a1_3 = true ∧ 1 ≤ a2 ∧ a2 ≤ 16
 ·obtain ⟨m, rfl⟩ := Int.eq_ofNat_of_zero_le (show 0 ≤ a2 by omega)
  have := place_any A0 c0 l0 a1_0 a1_1 a1_2 a1_3 m w hr0 hc0 hok.1 hok.2 hb.1 (by omega) (by omega)
  rw [h] at this
  exact this
 ·unfold placeB at h
  rw [if_neg hb] at h
  injection h with h1 h2
  subst h1 h2
  exact place_bad A0 c0 l0.length a1_0 a1_1 a1_2 a1_3 a2 w hb
end Go.Proofs.Ytckhjehibjdjdaa.P
namespace Go.Proofs.Ytckhjehibjdjdaa.P
open Go.RowKit Go.Proofs.YtckhjehibjdjdaaW.PrintWords Go.Proofs.YtckhjehibjdjdaaW.PrintLast Go.Proofs.YtckhjehibjdjdaaW.PrintMore
attribute [local go_sem] max2_int min2_int max_two min_two max_three min_three max_four min_four
theorem eqA48 (d : Nat) (w : World) (x0 y0 x1 y1 : Int) :
  (Op.equalIn (d + 2) 48 (.agg #[.int .i64 x0, .int .i64 x1]) (.agg #[.int .i64 y0, .int .i64 y1])).run Try.prog w = .ok (x0 == y0 && (x1 == y1)) w := by
 refine eqA_of Try.underlying48 (by kernel_rfl) ?_
 refine eqf_cons (by rfl) (by go_simp; rfl) (by go_simp; rfl) (by go_simp) ?_
 exact eqf_last (by rfl) (by go_simp; rfl) (by go_simp; rfl) (by go_simp)
end Go.Proofs.Ytckhjehibjdjdaa.P
namespace Go.Proofs.Ytckhjehibjdjdaa.P
open Go.RowKit Go.Proofs.YtckhjehibjdjdaaW.PrintWords Go.Proofs.YtckhjehibjdjdaaW.PrintLast Go.Proofs.YtckhjehibjdjdaaW.PrintMore
attribute [local go_sem] max2_int min2_int max_two min_two max_three min_three max_four min_four
attribute [local go_sem high] eqA48
def ensembleref05_find.l0 : Nat → List (S51) → Int → Int → Int → Option (Int)
 | 0, _, _, _, _ => none
 | k + 1, x0, x5, x119000, x119001 => if x5 < (x0.length : Int) then (if 0 ≤ x5 then (if (((a4_ x0 x5).f0.f0) == x119000 && (((a4_ x0 x5).f0.f1) == x119001)) = true then (some x5) else (ensembleref05_find.l0 k x0 (wrap64 (x5 + 1)) x119000 x119001)) else (none)) else (some (-1))
def ensembleref05_find.f (k : Nat) (l0 : List (S51)) (a1_0 a1_1 : Int) : Option (Int) := ensembleref05_find.l0 k l0 0 a1_0 a1_1
set_option maxHeartbeats 8000000 in
set_option maxRecDepth 100000 in
theorem ensembleref05_find.calls (k : Nat) (A0 : Option Addr) (c0 : Nat) (l0 : List (S51)) (a1_0 a1_1 r : Int) (w : World) (hr0 : Kd.C k51 w A0 l0.length l0) (hc0 : l0.length ≤ c0) (h : ensembleref05_find.f k l0 a1_0 a1_1 = some r) :
  Calls Try.prog 79 #[.slice A0 l0.length c0, .agg #[.int .i64 a1_0, .int .i64 a1_1]] w fun e w' => e = .returned (.int .i64 r) ∧ Below w.heap.size w w' := by
 have hu48 := Try.underlying48
 have HR0 := m_ hr0
 have HC0 := m_ hc0
 clear hr0 hc0
 have HB := m_ (Below.refl w.heap.size w)
 have H := h
 unfold ensembleref05_find.f at H
 clear h
 have H' := m_ H
 clear H
 go_enter Try.func79, Try.ntmps79
 go_wp2_with (first | ((with_reducible refine a3_ (N := 3) rfl ?_); refine bx 3 #[.int .i64 a1_0, .int .i64 a1_1] 48 ?_; intro gb118 hg w3 hbox hb; have BK118 := m_ (hbox); have GW118 := ge_ hg; have GE118 := ge_ hg; replace HB := hs_ hb; clear hb hbox hg))
 repeat (go_quiet (first | ((with_reducible refine a3_ (N := 3) rfl ?_); refine bx 3 #[.int .i64 a1_0, .int .i64 a1_1] 48 ?_; intro gb118 hg w3 hbox hb; have BK118 := m_ (hbox); have GW118 := ge_ hg; have GE118 := ge_ hg; replace HB := hs_ hb; clear hb hbox hg)); try go_wp2_with (first | ((with_reducible refine a3_ (N := 3) rfl ?_); refine bx 3 #[.int .i64 a1_0, .int .i64 a1_1] 48 ?_; intro gb118 hg w3 hbox hb; have BK118 := m_ (hbox); have GW118 := ge_ hg; have GE118 := ge_ hg; replace HB := hs_ hb; clear hb hbox hg)))
 go_loopg [5] k (fun kq v5 w' => ∃ (x5_1 : Int), v5 = .int .i64 x5_1 ∧ A_ (ensembleref05_find.l0 kq l0 x5_1 a1_0 a1_1 = some r) ∧ A_ (kq ≤ k) ∧ A_ (w'.heap[gb118]? = some (.cells #[.int .i64 a1_0, .int .i64 a1_1] 48 (0, 0))) ∧ A_ (Below w.heap.size w w'))
 case atStart => exact ⟨(0), Z3, H', ⟨Nat.le_refl _⟩, ⟨bo_ BK118⟩, ⟨hb_⟩⟩
 case round =>
  clear H'
  try clear p2
  obtain ⟨x5_1, rfl, HA, HK1, BK118, HB⟩ := hrel
  cases gk with
  | zero => exact absurd HA.out (by simp [ensembleref05_find.l0])
  | succ k1 =>
   have H := HA.out
   clear HA
   simp only [ensembleref05_find.l0] at H
   by_cases c4 : x5_1 < (l0.length : Int)
   ·rw [if_pos c4] at H
    have c4b0 : decide (x5_1 < (l0.length : Int)) = true := decide_eq_true c4
    clear c4
    by_cases c5 : 0 ≤ x5_1
    ·rw [if_pos c5] at H
     have c5b0 : decide (0 ≤ x5_1) = true := decide_eq_true c5
     clear c5
     by_cases c6 : (((a4_ l0 x5_1).f0.f0) == a1_0 && (((a4_ l0 x5_1).f0.f1) == a1_1)) = true
     ·rw [if_pos c6] at H
      have c6b0 : (((a4_ l0 x5_1).f0.f0) == a1_0 && (((a4_ l0 x5_1).f0.f1) == a1_1)) = true := c6
      (try (have c6b1 : decide (((a4_ l0 x5_1).f0.f0) = a1_0 && (((a4_ l0 x5_1).f0.f1) == a1_1)) = true := by simpa using c6))
      (try (have c6b2 : (((a4_ l0 x5_1).f0.f0) == a1_0 && (((a4_ l0 x5_1).f0.f1) == a1_1)) = true := by simpa using c6))
      clear c6
      obtain rfl := Option.some.inj H
      have p119 : 0 ≤ (x5_1 : Int) := of_decide_eq_true Z5
      have q119 : x5_1 < (l0.length : Int) := of_decide_eq_true Z5
      obtain ⟨ad119, e119, hx119_0, hx119_1, hx119_2, hx119_3⟩ := at_T51 (Kd.C_below HR0.out HB.out) x5_1 p119 q119
      cases e119
      replace p119 := eq_true p119
      replace q119 := eq_true q119
      obtain ⟨hcz7_0, hcz7_1, hfz7_0, hfz7_1⟩ := bz2_ BK118
      go_wp2
      repeat (go_quiet (fail); try go_wp2)
      go_ret
      exact ⟨by first | rfl | (simp [a8_, a7_] <;> rfl) | (simp [*, a8_, a7_] <;> rfl), hb_⟩
     ·rw [if_neg c6] at H
      have c6b0 : (((a4_ l0 x5_1).f0.f0) == a1_0 && (((a4_ l0 x5_1).f0.f1) == a1_1)) = false := by simpa using c6
      (try (have c6b1 : decide (((a4_ l0 x5_1).f0.f0) = a1_0 && (((a4_ l0 x5_1).f0.f1) == a1_1)) = false := by simpa using c6))
      (try (have c6b2 : (((a4_ l0 x5_1).f0.f0) == a1_0 && (((a4_ l0 x5_1).f0.f1) == a1_1)) = false := by simpa using c6))
      (try (have c6b3 : ¬ (((a4_ l0 x5_1).f0.f0) = a1_0 && (((a4_ l0 x5_1).f0.f1) == a1_1)) := by simpa using c6))
      clear c6
      have H' := m_ H
      clear H
      have p119 : 0 ≤ (x5_1 : Int) := of_decide_eq_true Z5
      have q119 : x5_1 < (l0.length : Int) := of_decide_eq_true Z5
      obtain ⟨ad119, e119, hx119_0, hx119_1, hx119_2, hx119_3⟩ := at_T51 (Kd.C_below HR0.out HB.out) x5_1 p119 q119
      cases e119
      replace p119 := eq_true p119
      replace q119 := eq_true q119
      obtain ⟨hcz8_0, hcz8_1, hfz8_0, hfz8_1⟩ := bz2_ BK118
      go_wp2
      repeat (go_quiet (fail); try go_wp2)
      go_roundg k1
      case measure => have := HK1.out; omega
      case rel => exact ⟨(wrap64 (x5_1 + 1)), Z3, H', ⟨by have := HK1.out; omega⟩, ⟨bo_ BK118⟩, ⟨hb_⟩⟩
    ·rw [if_neg c5] at H
     exact absurd H (by simp)
   ·rw [if_neg c4] at H
    have c4b0 : decide (x5_1 < (l0.length : Int)) = false := decide_eq_false c4
    clear c4
    obtain rfl := Option.some.inj H
    go_wp2
    repeat (go_quiet (fail); try go_wp2)
    go_ret
    exact ⟨by first | rfl | (simp [a8_, a7_] <;> rfl) | (simp [*, a8_, a7_] <;> rfl), hb_⟩
end Go.Proofs.Ytckhjehibjdjdaa.P
namespace Go.Proofs.Ytckhjehibjdjdaa.P
open Go.RowKit Go.Proofs.YtckhjehibjdjdaaW.PrintWords Go.Proofs.YtckhjehibjdjdaaW.PrintLast Go.Proofs.YtckhjehibjdjdaaW.PrintMore
attribute [local go_sem] max2_int min2_int max_two min_two max_three min_three max_four min_four
attribute [local go_sem] cellBx frozBx
def ensembleref05_Right.l0 : Nat → List (S51) → Int → Option (Bool)
 | 0, _, _ => none
 | k + 1, x0, x3 => if x3 < (x0.length : Int) then (if 0 ≤ x3 then (if ((a4_ x0 x3).f2) < 0 then (some false) else (if ((a4_ x0 x3).f2) > 1048576 then (some false) else (if x3 ≤ (x0.length : Int) then ((ensembleref05_find.f k (x0.take (x3 : Int).toNat) ((a4_ x0 x3).f0.f0) ((a4_ x0 x3).f0.f1)).bind fun t127 => (if t127 ≥ 0 then (some false) else (ensembleref05_Right.l0 k x0 (wrap64 (x3 + 1))))) else (none)))) else (none)) else (some true)
def ensembleref05_Right.f (k : Nat) (l0 : List (S51)) : Option (Bool) := ensembleref05_Right.l0 k l0 0
theorem ensembleref05_Right.find {k n : Nat} {A : Option Addr} {c : Nat} {l : List S51} {a b r : Int} {w : World} (hl : l.length = n) (hr : Kd.C k51 w A l.length l) (hc : l.length ≤ c) (h : A_ (ensembleref05_find.f k l a b = some r)) :
  Calls Try.prog 79 #[.slice A n c, .agg #[.int .i64 a, .int .i64 b]] w fun e w' => e = .returned (.int .i64 r) ∧ Below w.heap.size w w' := by
 subst hl
 exact ensembleref05_find.calls k A c l a b r w hr hc h.out
set_option maxHeartbeats 8000000 in
set_option maxRecDepth 100000 in
theorem ensembleref05_Right.calls (k : Nat) (A0 : Option Addr) (c0 : Nat) (l0 : List (S51)) (r : Bool) (w : World) (hr0 : Kd.C k51 w A0 l0.length l0) (hc0 : l0.length ≤ c0) (h : ensembleref05_Right.f k l0 = some r) :
  Calls Try.prog 67 #[.slice A0 l0.length c0] w fun e w' => e = .returned (.bool r) ∧ Below w.heap.size w w' := by
 have hu51 := Try.underlying51
 have hu48 := Try.underlying48
 have : Be w w := ⟨Below.refl _ _⟩
 unfold ensembleref05_Right.f at h
 have H2 := m_ h
 clear h
 go_enter Try.func67, Try.ntmps67
 go_wp2
 go_loopg [3] k (fun kq v3 w' => ∃ x : Int, v3 = .int .i64 x ∧ A_ (ensembleref05_Right.l0 kq l0 x = some r) ∧ A_ (kq ≤ k) ∧ Be w w')
 case atStart => exact ⟨_, rfl, H2, ⟨Nat.le_refl _⟩, inferInstance⟩
 case round =>
 clear H2
 obtain ⟨x, rfl, HA, HK, be⟩ := hrel
 cases gk with
 | zero => exact absurd HA.out (by simp [ensembleref05_Right.l0])
 | succ k1 =>
 have hh := HA.out
 clear HA
 rw [ensembleref05_Right.l0] at hh
 by_cases c1 : x < (l0.length : Int)
 case neg =>
  rw [if_neg c1] at hh
  have q := decide_eq_false c1
  clear c1
  obtain rfl := Option.some.inj hh
  go_wp2
  go_ret
  exact ⟨rfl, Be.out⟩
 rw [if_pos c1] at hh
 by_cases c2 : 0 ≤ x
 case neg => rw [if_neg c2] at hh; cases hh
 rw [if_pos c2] at hh
 obtain ⟨ad, hea, y0, y1, _, y3⟩ := at_T51 (Kd.C_below hr0 be.out) x c2 c1
 subst hea
 generalize a4_ l0 x = s at *
 have C1 := m_ (show 0 ≤ x ∧ x < (l0.length : Int) from ⟨c2, c1⟩)
 have p1 := decide_eq_true c1
 have p2 := eq_true c2
 have p3 := eq_true c1
 have c6 : x ≤ (l0.length : Int) := by omega
 have p6 := eq_true c6
 obtain ⟨i0, hi0, _, _, _⟩ := info_parts info51
 have hcut := cut_to (P := Try.prog) 22 51 .i64 Try.underlying22 hi0 (some ad) l0.length c0 x (by omega) (by omega) hc0
 clear hi0 c1 c2
 by_cases c3 : s.f2 < 0
 case pos =>
  rw [if_pos c3] at hh
  have q3 : decide (s.f2 < 0) = true := decide_eq_true c3
  clear c3
  obtain rfl := Option.some.inj hh
  go_wp2
  go_region
  go_wp2
  go_ret
  exact ⟨rfl, Be.out⟩
 rw [if_neg c3] at hh
 have q3 : decide (s.f2 < 0) = false := decide_eq_false c3
 clear c3
 by_cases c4 : s.f2 > 1048576
 case pos =>
  rw [if_pos c4] at hh
  have q4 : decide (1048576 < s.f2) = true := decide_eq_true c4
  clear c4
  obtain rfl := Option.some.inj hh
  go_wp2
  go_region
  go_wp2
  go_ret
  exact ⟨rfl, Be.out⟩
 rw [if_neg c4] at hh
 have q4 : decide (1048576 < s.f2) = false := decide_eq_false c4
 clear c4
 rw [if_pos c6] at hh
 clear c6
 replace hh := bindS hh
 obtain ⟨t, hF, hh⟩ := hh
 have HF := m_ hF
 clear hF
 by_cases c5 : t ≥ 0
 case pos =>
  rw [if_pos c5] at hh
  have q5 : decide (0 ≤ t) = true := decide_eq_true c5
  clear c5
  obtain rfl := Option.some.inj hh
  go_wp2
  go_region_held3 (fun w' => w'.cell? (ad.add (x.toNat * 4)) = some (.int .i64 s.f0.f0) ∧ w'.cell? ⟨(ad.add (x.toNat * 4)).block, (ad.add (x.toNat * 4)).off + 1, none⟩ = some (.int .i64 s.f0.f1) ∧ w'.cell? ⟨(ad.add (x.toNat * 4)).block, (ad.add (x.toNat * 4)).off + 3, none⟩ = some (.int .i64 s.f2)) ((repeat' (refine And.intro ?_ ?_)) <;> first | assumption | exact d6_ Bl.out (by assumption)) ((go_at_call 79; refine (ensembleref05_Right.find (by rw [List.length_take]; have := C1.out; omega) (Kd.C_take (Kd.C_below hr0 Be.out) (by have := C1.out; omega)) (by rw [List.length_take]; omega) HF).mono ?_; rintro e wz ⟨rfl, hb⟩; have := Bl.mk hb; clear hb))
  go_wp2
  go_ret
  exact ⟨rfl, Be.out⟩
 rw [if_neg c5] at hh
 have q5 : decide (0 ≤ t) = false := decide_eq_false c5
 clear c5
 have H2 := m_ hh
 clear hh
 go_wp2
 go_region_held3 (fun w' => w'.cell? (ad.add (x.toNat * 4)) = some (.int .i64 s.f0.f0) ∧ w'.cell? ⟨(ad.add (x.toNat * 4)).block, (ad.add (x.toNat * 4)).off + 1, none⟩ = some (.int .i64 s.f0.f1) ∧ w'.cell? ⟨(ad.add (x.toNat * 4)).block, (ad.add (x.toNat * 4)).off + 3, none⟩ = some (.int .i64 s.f2)) ((repeat' (refine And.intro ?_ ?_)) <;> first | assumption | exact d6_ Bl.out (by assumption)) ((go_at_call 79; refine (ensembleref05_Right.find (by rw [List.length_take]; have := C1.out; omega) (Kd.C_take (Kd.C_below hr0 Be.out) (by have := C1.out; omega)) (by rw [List.length_take]; omega) HF).mono ?_; rintro e wz ⟨rfl, hb⟩; have := Bl.mk hb; clear hb))
 go_wp2
 go_roundg k1
 case measure => have := HK.out; omega
 case rel => exact ⟨_, rfl, H2, ⟨by have := HK.out; omega⟩, inferInstance⟩
end Go.Proofs.Ytckhjehibjdjdaa.P
namespace Go.Proofs.Ytckhjehibjdjdaa.P
open Go.RowKit Go.Proofs.YtckhjehibjdjdaaW.PrintWords Go.Proofs.YtckhjehibjdjdaaW.PrintLast Go.Proofs.YtckhjehibjdjdaaW.PrintMore
attribute [local go_sem] max2_int min2_int max_two min_two max_three min_three max_four min_four
def ensemblelaw05_few.f (k : Nat) (l0 : List (S51)) : Option (Bool) := if (l0.length : Int) ≤ 70 then ((ensembleref05_Right.f k l0).bind fun t491 => (some t491)) else (some false)
set_option maxHeartbeats 8000000 in
set_option maxRecDepth 100000 in
theorem ensemblelaw05_few.calls (k : Nat) (A0 : Option Addr) (c0 : Nat) (l0 : List (S51)) (r : Bool) (w : World) (hr0 : Kd.C k51 w A0 l0.length l0) (hc0 : l0.length ≤ c0) (h : ensemblelaw05_few.f k l0 = some r) :
  Calls Try.prog 44 #[.slice A0 l0.length c0] w fun e w' => e = .returned (.bool r) ∧ Below w.heap.size w w' := by
 have HR0 := m_ hr0
 have HC0 := m_ hc0
 clear hr0 hc0
 have HB := m_ (Below.refl w.heap.size w)
 have H := h
 unfold ensemblelaw05_few.f at H
 clear h
 by_cases c2 : (l0.length : Int) ≤ 70
 ·rw [if_pos c2] at H
  have c2b0 : decide ((l0.length : Int) ≤ 70) = true := decide_eq_true c2
  have c2b1 : decide (l0.length ≤ 70) = true := decide_eq_true (by omega)
  clear c2
  replace H := Option.bind_eq_some_iff.mp H
  obtain ⟨t491, A30, H⟩ := H
  try dsimp only at H
  have A3 := m_ A30
  clear A30
  obtain rfl := Option.some.inj H
  go_enter Try.func44, Try.ntmps44
  go_wp2_with (first | (go_at_call 67; (with_reducible refine (ensembleref05_Right.calls k _ _ l0 t491 _ ?side1 ?side2 A3.out).mono ?_); (case side1 => repeat (first | exact HR0.out | (with_reducible refine Kd.C_alloc ?_ _) | (with_reducible refine Kd.C_drewN ?_ _) | (with_reducible refine Kd.C_drew ?_))); (case side2 => exact HC0.out); rintro e w4 ⟨rfl, hb⟩; replace HB := hs_ hb; (try clear hb); (try clear hb2); (try clear hk); (try clear hi)))
  go_ret
  exact ⟨by first | rfl | (simp [a8_, a7_] <;> rfl) | (simp [*, a8_, a7_] <;> rfl), hb_⟩
 ·rw [if_neg c2] at H
  have c2b0 : decide ((l0.length : Int) ≤ 70) = false := decide_eq_false c2
  have c2b1 : decide (l0.length ≤ 70) = false := decide_eq_false (by omega)
  clear c2
  obtain rfl := Option.some.inj H
  go_enter Try.func44, Try.ntmps44
  go_wp2
  go_ret
  exact ⟨by first | rfl | (simp [a8_, a7_] <;> rfl) | (simp [*, a8_, a7_] <;> rfl), hb_⟩
def ensembleref01_Has.l0 : Nat → Int → Int → Int → Option (Bool)
 | 0, _, _, _ => none
 | k + 1, x0, x1, x5 => if x5 < x1 then (ensembleref01_Has.l0 k (IntKind.u64.wrap (Int.tdiv x0 2)) x1 (wrap64 (x5 + 1))) else (if x1 ≥ 0 then (if x1 < 64 then (some ((Int.tmod x0 2) == 1)) else (some false)) else (some false))
def ensembleref01_Has.f (k : Nat) (a0 a1 : Int) : Option (Bool) := ensembleref01_Has.l0 k a0 a1 0
set_option maxHeartbeats 8000000 in
set_option maxRecDepth 100000 in
theorem ensembleref01_Has.calls (k : Nat) (a0 a1 : Int) (r : Bool) (w : World) (h : ensembleref01_Has.f k a0 a1 = some r) :
  Calls Try.prog 106 #[.int .u64 a0, .int .i64 a1] w fun e w' => e = .returned (.bool r) ∧ Drawn0 w w' := by
 have H := h
 unfold ensembleref01_Has.f at H
 clear h
 have H' := m_ H
 clear H
 go_enter Try.func106, Try.ntmps106
 go_wp2
 go_loopg [0, 5] k (fun kq v0 v5 w' => ∃ (x0_1 : Int) (x5_1 : Int), v0 = .int .u64 x0_1 ∧ v5 = .int .i64 x5_1 ∧ A_ (ensembleref01_Has.l0 kq x0_1 a1 x5_1 = some r) ∧ A_ (kq ≤ k) ∧ Drawn0 w w')
 case atStart => exact ⟨(a0), (0), Z3, Z3, H', ⟨Nat.le_refl _⟩, by repeat (first | exact Drawn0.refl _ | apply Drawn0.step)⟩
 case round =>
  clear H'
  try clear c1
  try clear p2
  obtain ⟨x0_1, x5_1, rfl, rfl, HA, HK1, ⟨m1, rfl⟩⟩ := hrel
  cases gk with
  | zero => exact absurd HA.out (by simp [ensembleref01_Has.l0])
  | succ k1 =>
   have H := HA.out
   clear HA
   simp only [ensembleref01_Has.l0] at H
   by_cases c3 : x5_1 < a1
   ·rw [if_pos c3] at H
    have c3b0 : decide (x5_1 < a1) = true := decide_eq_true c3
    clear c3
    have H' := m_ H
    clear H
    go_wp2
    go_roundg k1
    case measure => have := HK1.out; omega
    case rel => exact ⟨(IntKind.u64.wrap (Int.tdiv x0_1 2)), (wrap64 (x5_1 + 1)), Z3, Z3, H', ⟨by have := HK1.out; omega⟩, by repeat (first | exact Drawn0.refl _ | apply Drawn0.step)⟩
   ·rw [if_neg c3] at H
    have c3b0 : decide (x5_1 < a1) = false := decide_eq_false c3
    clear c3
    by_cases c4 : a1 ≥ 0
    ·rw [if_pos c4] at H
     have c4b0 : decide (0 ≤ a1) = true := decide_eq_true c4
     clear c4
     by_cases c5 : a1 < 64
     ·rw [if_pos c5] at H
      have c5b0 : decide (a1 < 64) = true := decide_eq_true c5
      clear c5
      obtain rfl := Option.some.inj H
      go_wp2
      go_ret
      exact ⟨by first | rfl | (simp; done) | (simp [*]; done), by repeat (first | exact Drawn0.refl _ | apply Drawn0.step)⟩
     ·rw [if_neg c5] at H
      have c5b0 : decide (a1 < 64) = false := decide_eq_false c5
      clear c5
      obtain rfl := Option.some.inj H
      go_wp2
      go_ret
      exact ⟨by first | rfl | (simp; done) | (simp [*]; done), by repeat (first | exact Drawn0.refl _ | apply Drawn0.step)⟩
    ·rw [if_neg c4] at H
     have c4b0 : decide (0 ≤ a1) = false := decide_eq_false c4
     clear c4
     obtain rfl := Option.some.inj H
     go_wp2
     go_ret
     exact ⟨by first | rfl | (simp; done) | (simp [*]; done), by repeat (first | exact Drawn0.refl _ | apply Drawn0.step)⟩
def ensembleref01_Units.l0 : Nat → Int → List Int → Int → Option (List Int)
 | 0, _, _, _ => none
 | k + 1, x0, x3, x4 => if x4 < 64 then ((ensembleref01_Has.f k x0 x4).bind fun t134 => (if t134 = true then (if x3.length < 17592186044416 then (ensembleref01_Units.l0 k x0 (x3 ++ [x4]) (wrap64 (x4 + 1))) else (none)) else (ensembleref01_Units.l0 k x0 x3 (wrap64 (x4 + 1))))) else (some x3)
def ensembleref01_Units.f (k : Nat) (a0 : Int) : Option (List Int) := ensembleref01_Units.l0 k a0 ([] : List Int) 0
set_option maxHeartbeats 8000000 in
set_option maxRecDepth 100000 in
theorem ensembleref01_Units.calls (k : Nat) (a0 : Int) (r : List Int) (w : World) (h : ensembleref01_Units.f k a0 = some r) :
  Calls Try.prog 82 #[.int .u64 a0] w fun e w' => ∃ v0_ : Value, e = .returned (v0_) ∧ Kd.R (Kd.int .i64) 3 w' w.heap.size (fun _ => True) v0_ r ∧ Below w.heap.size w w' := by
 have HB := m_ (Below.refl w.heap.size w)
 have H := h
 unfold ensembleref01_Units.f at H
 clear h
 have H' := m_ H
 clear H
 go_enter Try.func82, Try.ntmps82
 go_wp2
 go_loopg [3, 4] k (fun kq v3 v4 w' => ∃ (x3_1 : List Int) (x4_1 : Int), v4 = .int .i64 x4_1 ∧ A_ (ensembleref01_Units.l0 kq a0 x3_1 x4_1 = some r) ∧ A_ (kq ≤ k) ∧ A_ (Kd.R (Kd.int .i64) 3 w' w.heap.size (fun _ => True) v3 x3_1) ∧ A_ (Below w.heap.size w w'))
 case atStart => exact ⟨(([] : List Int)), (0), Z3, H', ⟨Nat.le_refl _⟩, ⟨by first | exact Kd.R_nil _ _ _ _ _ | exact Kd.N_nil _ _ _ _ _ | exact Kd.V_nil _ _ _ _ _ | exact Kd.Q_nil _ _ _ _ _ | exact Kd.S_nil _ _ _ _ _⟩, ⟨hb_⟩⟩
 case round =>
  clear H'
  obtain ⟨x3_1, x4_1, rfl, HA, HK1, HO_3, HB⟩ := hrel
  cases gk with
  | zero => exact absurd HA.out (by simp [ensembleref01_Units.l0])
  | succ k1 =>
   have H := HA.out
   clear HA
   simp only [ensembleref01_Units.l0] at H
   by_cases c2 : x4_1 < 64
   ·rw [if_pos c2] at H
    have c2b0 : decide (x4_1 < 64) = true := decide_eq_true c2
    clear c2
    replace H := Option.bind_eq_some_iff.mp H
    obtain ⟨t134, A30, H⟩ := H
    try dsimp only at H
    have A3 := m_ A30
    clear A30
    by_cases c4 : t134 = true
    ·subst c4
     have H1 : (if x3_1.length < 17592186044416 then (ensembleref01_Units.l0 k1 a0 (x3_1 ++ [x4_1]) (wrap64 (x4_1 + 1))) else (none)) = some r := by rw [if_pos rfl] at H; exact H
     clear H
     have H := H1
     clear H1
     by_cases c5 : x3_1.length < 17592186044416
     ·rw [if_pos c5] at H
      have LMc5 := m_ c5
      clear c5
      obtain ⟨y135, hy135⟩ : ∃ y_ : List Int, y_ = (x3_1 ++ [x4_1]) := ⟨_, rfl⟩
      replace H : (ensembleref01_Units.l0 k1 a0 y135 (wrap64 (x4_1 + 1))) = some r := by first | (rw [hy135]; with_reducible exact H) | (have H2_ := (Option.bind_some _ _).symm.trans H; rw [hy135]; with_reducible exact H2_) | (have H2_ := (Option.bind_some _ _).symm.trans H; with_reducible exact H2_) | with_reducible exact H | (rw [hy135]; exact H) | exact H
      have Ny135 := m_ hy135
      clear hy135
      have H' := m_ H
      clear H
      go_wp2_with (first | ((with_reducible refine a9_ (f := 106) rfl ?_); refine goesL_ (some 11) rfl rfl Try.func106 (by kernel_rfl) rfl #[.int .u64 a0, .int .i64 x4_1] rfl Z0 ?_; (with_reducible refine (ensembleref01_Has.calls k1 a0 x4_1 true _ A3.out).mono ?_); rintro e w' ⟨rfl, ⟨nd, rfl⟩⟩; refine ⟨_, rfl, ?_⟩) | ((with_reducible refine gate_builtin (b := .append) (xs := #[.tmp 12, .tmp 14]) rfl ?_); at_builtin; refine Kd.R_append (Kd.int .i64) (w0 := w) w.heap.size rfl (.tmp 12) (.tmp 14) 71 3 (.int .i64 0) 8 rfl Try.underlying71 info3 rfl (by decide) (by omega) u3 x3_1 x4_1 [.int .i64 x4_1] (fun _ => True) (fun _ => False) rfl rfl ?aP (fun _ hk => hk.elim) ?aF ?aO ?aB ?aS ?aL ?_; (case aP => exact rfl); (case aB => exact hb_); (case aF => exact (fun _ _ => trivial)); (case aO => exact (by (with_reducible repeat (first | apply Kd.R_alloc | apply Kd.R_drewN | apply Kd.R_drew)); exact HO_3.out)); (case aS => exact (b3_ hb_)); (case aL => have := LMc5.out; omega); intro v136 w6 ho hb hg hat; rw [← Ny135.out] at ho; have HO137 := m_ (ho); replace HB := m_ (hb); clear HO_3; clear ho hb hg hat))
      go_roundg k1
      case measure => have := HK1.out; omega
      case rel => exact ⟨(y135), (wrap64 (x4_1 + 1)), Z3, H', ⟨by have := HK1.out; omega⟩, ⟨by (with_reducible repeat (first | apply Kd.R_alloc | apply Kd.R_drewN | apply Kd.R_drew)); exact HO137.out⟩, ⟨hb_⟩⟩
     ·rw [if_neg c5] at H
      exact absurd H (by simp)
    ·replace c4 := Bool.eq_false_iff.mpr c4
     subst c4
     have H1 : (ensembleref01_Units.l0 k1 a0 x3_1 (wrap64 (x4_1 + 1))) = some r := by rw [if_neg (show ¬ (false = true) by decide)] at H; exact H
     clear H
     have H := H1
     clear H1
     have H' := m_ H
     clear H
     go_wp2_with (first | ((with_reducible refine a9_ (f := 106) rfl ?_); refine goesL_ (some 11) rfl rfl Try.func106 (by kernel_rfl) rfl #[.int .u64 a0, .int .i64 x4_1] rfl Z0 ?_; (with_reducible refine (ensembleref01_Has.calls k1 a0 x4_1 false _ A3.out).mono ?_); rintro e w' ⟨rfl, ⟨nd, rfl⟩⟩; refine ⟨_, rfl, ?_⟩))
     go_roundg k1
     case measure => have := HK1.out; omega
     case rel => exact ⟨(x3_1), (wrap64 (x4_1 + 1)), Z3, H', ⟨by have := HK1.out; omega⟩, ⟨by (with_reducible repeat (first | apply Kd.R_alloc | apply Kd.R_drewN | apply Kd.R_drew)); exact HO_3.out⟩, ⟨hb_⟩⟩
   ·rw [if_neg c2] at H
    have c2b0 : decide (x4_1 < 64) = false := decide_eq_false c2
    clear c2
    obtain rfl := Option.some.inj H
    go_wp2
    go_ret
    exact ⟨_, by first | rfl | (simp [a8_, a7_] <;> rfl) | (simp [*, a8_, a7_] <;> rfl), by (with_reducible repeat (first | apply Kd.R_alloc | apply Kd.R_drewN | apply Kd.R_drew)); exact HO_3.out, hb_⟩
def ensembleref01_bit.l0 : Nat → Int → Int → Int → Option (Int)
 | 0, _, _, _ => none
 | k + 1, x0, x3, x4 => if x4 < x0 then (ensembleref01_bit.l0 k x0 (IntKind.u64.wrap (x3 * 2)) (wrap64 (x4 + 1))) else (some x3)
def ensembleref01_bit.f (k : Nat) (a0 : Int) : Option (Int) := ensembleref01_bit.l0 k a0 1 0
set_option maxHeartbeats 8000000 in
set_option maxRecDepth 100000 in
theorem ensembleref01_bit.calls (k : Nat) (a0 r : Int) (w : World) (h : ensembleref01_bit.f k a0 = some r) :
  Calls Try.prog 134 #[.int .i64 a0] w fun e w' => e = .returned (.int .u64 r) ∧ Drawn0 w w' := by
 have H := h
 unfold ensembleref01_bit.f at H
 clear h
 have H' := m_ H
 clear H
 go_enter Try.func134, Try.ntmps134
 go_wp2
 go_loopg [3, 4] k (fun kq v3 v4 w' => ∃ (x3_1 : Int) (x4_1 : Int), v3 = .int .u64 x3_1 ∧ v4 = .int .i64 x4_1 ∧ A_ (ensembleref01_bit.l0 kq a0 x3_1 x4_1 = some r) ∧ A_ (kq ≤ k) ∧ Drawn0 w w')
 case atStart => exact ⟨(1), (0), Z3, Z3, H', ⟨Nat.le_refl _⟩, by repeat (first | exact Drawn0.refl _ | apply Drawn0.step)⟩
 case round =>
  clear H'
  try clear c1
  obtain ⟨x3_1, x4_1, rfl, rfl, HA, HK1, ⟨m1, rfl⟩⟩ := hrel
  cases gk with
  | zero => exact absurd HA.out (by simp [ensembleref01_bit.l0])
  | succ k1 =>
   have H := HA.out
   clear HA
   simp only [ensembleref01_bit.l0] at H
   by_cases c2 : x4_1 < a0
   ·rw [if_pos c2] at H
    have c2b0 : decide (x4_1 < a0) = true := decide_eq_true c2
    clear c2
    have H' := m_ H
    clear H
    go_wp2
    go_roundg k1
    case measure => have := HK1.out; omega
    case rel => exact ⟨(IntKind.u64.wrap (x3_1 * 2)), (wrap64 (x4_1 + 1)), Z3, Z3, H', ⟨by have := HK1.out; omega⟩, by repeat (first | exact Drawn0.refl _ | apply Drawn0.step)⟩
   ·rw [if_neg c2] at H
    have c2b0 : decide (x4_1 < a0) = false := decide_eq_false c2
    clear c2
    obtain rfl := Option.some.inj H
    go_wp2
    go_ret
    exact ⟨by first | rfl | (simp; done) | (simp [*]; done), by repeat (first | exact Drawn0.refl _ | apply Drawn0.step)⟩
def ensembleref01_Lowest.l0 : Nat → Int → List Int → Int → Int → Option (Int × Int)
 | 0, _, _, _, _ => none
 | k + 1, x1, x6, x7, x8 => if x8 < x1 then (if 0 ≤ x8 then (if x8 < (x6.length : Int) then ((ensembleref01_bit.f k (rd x6 x8)).bind fun t142 => (ensembleref01_Lowest.l0 k x1 x6 (IntKind.u64.wrap (x7 + t142)) (wrap64 (x8 + 1)))) else (none)) else (none)) else (some (x7, 0))
def ensembleref01_Lowest.f (k : Nat) (a0 a1 : Int) : Option (Int × Int) := if a1 < 0 then (some (0, 1)) else ((ensembleref01_Units.f k a0).bind fun t138 => (if a1 > (t138.length : Int) then (some (0, 2)) else (ensembleref01_Lowest.l0 k a1 t138 0 0)))
set_option maxHeartbeats 8000000 in
set_option maxRecDepth 100000 in
theorem ensembleref01_Lowest.calls (k : Nat) (a0 a1 r1 r2 : Int) (w : World) (h : ensembleref01_Lowest.f k a0 a1 = some (r1, r2)) :
  Calls Try.prog 115 #[.int .u64 a0, .int .i64 a1] w fun e w' => e = .returned (.tuple #[.int .u64 r1, .int .i64 r2]) ∧ Below w.heap.size w w' := by
 have HB := m_ (Below.refl w.heap.size w)
 have H := h
 unfold ensembleref01_Lowest.f at H
 clear h
 by_cases c3 : a1 < 0
 ·rw [if_pos c3] at H
  have c3b0 : decide (a1 < 0) = true := decide_eq_true c3
  clear c3
  simp only [Option.some.injEq, Prod.mk.injEq] at H
  obtain ⟨rfl, rfl⟩ := H
  go_enter Try.func115, Try.ntmps115
  go_wp2
  go_ret2
  exact ⟨by first | rfl | (simp [a8_, a7_] <;> rfl) | (simp [*, a8_, a7_] <;> rfl), hb_⟩
 ·rw [if_neg c3] at H
  have c3b0 : decide (a1 < 0) = false := decide_eq_false c3
  clear c3
  replace H := Option.bind_eq_some_iff.mp H
  obtain ⟨t138, A40, H⟩ := H
  try dsimp only at H
  have A4 := m_ A40
  clear A40
  by_cases c5 : a1 > (t138.length : Int)
  ·rw [if_pos c5] at H
   have c5b0 : decide ((t138.length : Int) < a1) = true := decide_eq_true c5
   clear c5
   simp only [Option.some.injEq, Prod.mk.injEq] at H
   obtain ⟨rfl, rfl⟩ := H
   go_enter Try.func115, Try.ntmps115
   go_wp2_with (first | ((with_reducible refine a9_ (f := 82) rfl ?_); refine goesL_ (some 12) rfl rfl Try.func82 (by kernel_rfl) rfl #[.int .u64 a0] rfl Z0 ?_; (with_reducible refine (ensembleref01_Units.calls k a0 t138 _ A4.out).mono ?_); rintro e w6 ⟨v139, rfl, ho0, hb⟩; refine ⟨_, rfl, ?_⟩; have HO140 := m_ (Kd.R_lower ho0 (b3_ hb_)); replace HB := hs_ hb; (try clear hb); (try clear hb2); (try clear hk); (try clear hi); (try clear ho0); obtain ⟨Ao7, co7, eo7⟩ := Kd.R_slice HO140.out; subst eo7))
   go_ret2
   exact ⟨by first | rfl | (simp [a8_, a7_] <;> rfl) | (simp [*, a8_, a7_] <;> rfl), hb_⟩
  ·rw [if_neg c5] at H
   have c5b0 : decide ((t138.length : Int) < a1) = false := decide_eq_false c5
   clear c5
   have H' := m_ H
   clear H
   go_enter Try.func115, Try.ntmps115
   go_wp2_with (first | ((with_reducible refine a9_ (f := 82) rfl ?_); refine goesL_ (some 12) rfl rfl Try.func82 (by kernel_rfl) rfl #[.int .u64 a0] rfl Z0 ?_; (with_reducible refine (ensembleref01_Units.calls k a0 t138 _ A4.out).mono ?_); rintro e w8 ⟨v139, rfl, ho0, hb⟩; refine ⟨_, rfl, ?_⟩; have HO140 := m_ (Kd.R_lower ho0 (b3_ hb_)); replace HB := hs_ hb; (try clear hb); (try clear hb2); (try clear hk); (try clear hi); (try clear ho0); obtain ⟨Ao9, co9, eo9⟩ := Kd.R_slice HO140.out; subst eo9))
   go_loopg [7, 8] k (fun kq v7 v8 w' => ∃ (x7_1 : Int) (x8_1 : Int), v7 = .int .u64 x7_1 ∧ v8 = .int .i64 x8_1 ∧ A_ (ensembleref01_Lowest.l0 kq a1 t138 x7_1 x8_1 = some (r1, r2)) ∧ A_ (kq ≤ k) ∧ A_ (Kd.R (Kd.int .i64) 3 w' w.heap.size (fun _ => True) (.slice Ao9 t138.length co9) t138) ∧ A_ (Below w.heap.size w w'))
   case atStart => exact ⟨(0), (0), Z3, Z3, H', ⟨Nat.le_refl _⟩, ⟨by (with_reducible repeat (first | apply Kd.R_alloc | apply Kd.R_drewN | apply Kd.R_drew)); exact HO140.out⟩, ⟨hb_⟩⟩
   case round =>
    clear H'
    try clear c1
    try clear p2
    try clear c3
    try clear c3b0
    try clear c5
    try clear c5b0
    try clear c8
    obtain ⟨x7_1, x8_1, rfl, rfl, HA, HK1, HO_6, HB⟩ := hrel
    cases gk with
    | zero => exact absurd HA.out (by simp [ensembleref01_Lowest.l0])
    | succ k1 =>
     have H := HA.out
     clear HA
     simp only [ensembleref01_Lowest.l0] at H
     by_cases c10 : x8_1 < a1
     ·rw [if_pos c10] at H
      have c10b0 : decide (x8_1 < a1) = true := decide_eq_true c10
      clear c10
      by_cases c11 : 0 ≤ x8_1
      ·rw [if_pos c11] at H
       have c11b0 : decide (0 ≤ x8_1) = true := decide_eq_true c11
       clear c11
       by_cases c12 : x8_1 < (t138.length : Int)
       ·rw [if_pos c12] at H
        have c12b0 : decide (x8_1 < (t138.length : Int)) = true := decide_eq_true c12
        clear c12
        replace H := Option.bind_eq_some_iff.mp H
        obtain ⟨t142, A130, H⟩ := H
        try dsimp only at H
        have A13 := m_ A130
        clear A130
        have H' := m_ H
        clear H
        have p141 : 0 ≤ (x8_1 : Int) := of_decide_eq_true Z5
        have q141 : x8_1 < (t138.length : Int) := of_decide_eq_true Z5
        obtain ⟨ad141, e141, hx141_0⟩ := Kd.at_int (Kd.R_reads' HO_6.out).2.2 x8_1 p141 q141
        cases e141
        replace p141 := eq_true p141
        replace q141 := eq_true q141
        go_wp2_with (first | ((with_reducible refine a9_ (f := 134) rfl ?_); refine goesL_ (some 27) rfl rfl Try.func134 (by kernel_rfl) rfl #[.int .i64 (rd t138 x8_1)] rfl Z0 ?_; (with_reducible refine (ensembleref01_bit.calls k1 (rd t138 x8_1) t142 _ A13.out).mono ?_); rintro e w' ⟨rfl, ⟨nd, rfl⟩⟩; refine ⟨_, rfl, ?_⟩))
        go_roundg k1
        case measure => have := HK1.out; omega
        case rel => exact ⟨(IntKind.u64.wrap (x7_1 + t142)), (wrap64 (x8_1 + 1)), Z3, Z3, H', ⟨by have := HK1.out; omega⟩, ⟨by (with_reducible repeat (first | apply Kd.R_alloc | apply Kd.R_drewN | apply Kd.R_drew)); exact HO_6.out⟩, ⟨hb_⟩⟩
       ·rw [if_neg c12] at H
        exact absurd H (by simp)
      ·rw [if_neg c11] at H
       exact absurd H (by simp)
     ·rw [if_neg c10] at H
      have c10b0 : decide (x8_1 < a1) = false := decide_eq_false c10
      clear c10
      simp only [Option.some.injEq, Prod.mk.injEq] at H
      obtain ⟨rfl, rfl⟩ := H
      go_wp2
      go_ret2
      exact ⟨by first | rfl | (simp [a8_, a7_] <;> rfl) | (simp [*, a8_, a7_] <;> rfl), hb_⟩
def ensembleref04_Piece.f (k : Nat) (a0_0 a0_1 a0_2 a0_3 a1_0 a1_1 a1_2 a1_3 : Int) : Option (Int × Int × Int × Int × Int × Int × Int × Int × Int) := (ensembleref01_Lowest.f k a1_2 a0_0).bind fun bt147 => (if bt147.2 = 0 then (if a1_3 < 0 then (some (0, 0, 0, 0, 0, 0, 0, 0, 7)) else (if a1_3 < a0_1 then (some (0, 0, 0, 0, 0, 0, 0, 0, 7)) else (some (a1_0, a1_1, bt147.1, a0_1, a1_0, a1_1, IntKind.u64.wrap (a1_2 - bt147.1), wrap64 (a1_3 - a0_1), 0)))) else (some (0, 0, 0, 0, 0, 0, 0, 0, 7)))
def ensembleref04_Piece.T4 : Bool × List (List Nat × List Nat) := (true, [([], []), ([0], [0]), ([], []), ([], []), ([3], [3]), ([1, 2, 4], [1, 2, 4]), ([], []), ([6], [6]), ([], []), ([8], [8]), ([], []), ([9, 10], [9, 10]), ([], []), ([12], [12]), ([], []), ([14], [14]), ([13, 15], [13, 15]), ([7, 11, 16], [7, 11, 16]), ([5, 0, 1, 2, 3, 4, 5], [5]), ([17, 18, 0, 1, 2, 3, 4, 5, 6, 7, 8, 9, 10, 11, 12, 13, 14, 15, 16, 17, 18], [17]), ([19, 0, 1, 2, 3, 4, 5, 6, 7, 8, 9, 10, 11, 12, 13, 14, 15, 16, 17, 18, 19], [])])
def ensembleref04_Piece.B4 : List Nat := [0, 1, 0, 0, 8, 31, 0, 64, 0, 256, 0, 1792, 0, 4096, 0, 16384, 61440, 131008, 63, 524287, 1048575]
theorem ensembleref04_Piece.tab4 : rtab .any (opsOf Try.f89 4) = ensembleref04_Piece.T4 := by kernel_rfl
theorem ensembleref04_Piece.bits4 : waitsOk ensembleref04_Piece.T4.2 ensembleref04_Piece.B4 = true := by kernel_rfl
set_option maxHeartbeats 8000000 in
set_option maxRecDepth 100000 in
theorem ensembleref04_Piece.calls (k : Nat) (a0_0 a0_1 a0_2 a0_3 a1_0 a1_1 a1_2 a1_3 r1 r2 r3 r4 r5 r6 r7 r8 r9 : Int) (w : World) (h : ensembleref04_Piece.f k a0_0 a0_1 a0_2 a0_3 a1_0 a1_1 a1_2 a1_3 = some (r1, r2, r3, r4, r5, r6, r7, r8, r9)) :
  Calls Try.prog 89 #[.agg #[.int .i64 a0_0, .int .i64 a0_1, .int .i64 a0_2, .int .i64 a0_3], .agg #[.int .i64 a1_0, .int .i64 a1_1, .int .u64 a1_2, .int .i64 a1_3]] w fun e w' => e = .returned (.tuple #[.agg #[.int .i64 r1, .int .i64 r2, .int .u64 r3, .int .i64 r4], .agg #[.int .i64 r5, .int .i64 r6, .int .u64 r7, .int .i64 r8], .int .i64 r9]) ∧ Below w.heap.size w w' := by
 have hu27 := Try.underlying27
 have hu51 := Try.underlying51
 have hu52 := Try.underlying52
 have hu48 := Try.underlying48
 have HB := m_ (Below.refl w.heap.size w)
 have H := h
 unfold ensembleref04_Piece.f at H
 clear h
 replace H := Option.bind_eq_some_iff.mp H
 obtain ⟨⟨t147, t148⟩, A30, H⟩ := H
 try dsimp only at H
 have A3 := m_ A30
 clear A30
 by_cases c4 : t148 = 0
 ·rw [if_pos c4] at H
  have c4b0 : (t148 == 0) = true := beq_iff_eq.mpr c4
  have c4b1 : (t148 != 0) = false := bne_eq_false_iff_eq.mpr c4
  clear c4
  by_cases c5 : a1_3 < 0
  ·rw [if_pos c5] at H
   have c5b0 : decide (a1_3 < 0) = true := decide_eq_true c5
   clear c5
   simp only [Option.some.injEq, Prod.mk.injEq] at H
   obtain ⟨rfl, rfl, rfl, rfl, rfl, rfl, rfl, rfl, rfl⟩ := H
   go_enter Try.func89, Try.ntmps89
   go_wp2_with (first | ((with_reducible refine a3_ (N := 2) rfl ?_); refine bx 2 #[.int .i64 a0_0, .int .i64 a0_1, .int .i64 a0_2, .int .i64 a0_3] 27 ?_; intro gb143 hg w6 hbox hb; have BK143 := m_ (hbox); have GW143 := ge_ hg; have GE143 := ge_ hg; replace HB := hs_ hb; clear hb hbox hg) | ((with_reducible refine a3_ (N := 3) rfl ?_); refine bx 3 #[.int .i64 a1_0, .int .i64 a1_1, .int .u64 a1_2, .int .i64 a1_3] 51 ?_; intro gb144 hg w7 hbox hb; have BK144 := m_ (hbox); have GW144 := ge_ hg; have GE144 := ge_ hg; have NB143_144 := nl_ BK143 hg; have NB144_143 := nr_ BK143 hg; replace BK143 := bk_ BK143 hb; replace HB := hs_ hb; clear hb hbox hg) | ((with_reducible refine a3_ (N := 4) rfl ?_); refine bx 4 #[.int .i64 0, .int .i64 0, .int .u64 0, .int .i64 0] 52 ?_; intro gb145 hg w8 hbox hb; have BK145 := m_ (hbox); have GW145 := ge_ hg; have GE145 := ge_ hg; have NB143_145 := nl_ BK143 hg; have NB145_143 := nr_ BK143 hg; have NB144_145 := nl_ BK144 hg; have NB145_144 := nr_ BK144 hg; replace BK143 := bk_ BK143 hb; replace BK144 := bk_ BK144 hb; replace HB := hs_ hb; clear hb hbox hg) | ((with_reducible refine a3_ (N := 5) rfl ?_); refine bx 5 #[.int .i64 0, .int .i64 0, .int .u64 0, .int .i64 0] 51 ?_; intro gb146 hg w9 hbox hb; have BK146 := m_ (hbox); have GW146 := ge_ hg; have GE146 := ge_ hg; have NB143_146 := nl_ BK143 hg; have NB146_143 := nr_ BK143 hg; have NB144_146 := nl_ BK144 hg; have NB146_144 := nr_ BK144 hg; have NB145_146 := nl_ BK145 hg; have NB146_145 := nr_ BK145 hg; replace BK143 := bk_ BK143 hb; replace BK144 := bk_ BK144 hb; replace BK145 := bk_ BK145 hb; replace HB := hs_ hb; clear hb hbox hg; have hnb10 := NB144_143.out; have hnc10 := NB143_144.out; have hnb11 := NB144_145.out; have hnc11 := NB145_144.out; have hnb12 := NB144_146.out; have hnc12 := NB146_144.out; obtain ⟨hcz13_0, hcz13_1, hcz13_2, hcz13_3, hfz13_0, hfz13_1, hfz13_2, hfz13_3⟩ := bz4_ BK144; have hnb14 := NB143_145.out; have hnc14 := NB145_143.out; have hnb15 := NB143_146.out; have hnc15 := NB146_143.out; obtain ⟨hcz16_0, hcz16_1, hcz16_2, hcz16_3, hfz16_0, hfz16_1, hfz16_2, hfz16_3⟩ := bz4_ BK143) | ((with_reducible refine a9_ (f := 115) rfl ?_); refine goesL_ (some 14) rfl rfl Try.func115 (by kernel_rfl) rfl #[.int .u64 a1_2, .int .i64 a0_0] rfl Z0 ?_; (with_reducible refine (ensembleref01_Lowest.calls k a1_2 a0_0 t147 t148 _ A3.out).mono ?_); rintro e w17 ⟨rfl, hb⟩; refine ⟨_, rfl, ?_⟩; replace BK143 := bk_ BK143 hb; replace BK144 := bk_ BK144 hb; replace BK145 := bk_ BK145 hb; replace BK146 := bk_ BK146 hb; replace HB := hs_ hb; (try clear hb); (try clear hb2); (try clear hk); (try clear hi); obtain ⟨hcz18_0, hcz18_1, hcz18_2, hcz18_3, hfz18_0, hfz18_1, hfz18_2, hfz18_3⟩ := bz4_ BK144; have hnb19 := NB145_146.out; have hnc19 := NB146_145.out; obtain ⟨hcz20_0, hcz20_1, hcz20_2, hcz20_3, hfz20_0, hfz20_1, hfz20_2, hfz20_3⟩ := bz4_ BK145; obtain ⟨hcz21_0, hcz21_1, hcz21_2, hcz21_3, hfz21_0, hfz21_1, hfz21_2, hfz21_3⟩ := bz4_ BK146))
   refine bodyPost_ret (results_list (rs := [.cell 4 52, .cell 5 51, .tmp 6]) rfl (by simp) (.cell gb145 52 #[.int .i64 0, .int .i64 0, .int .u64 0, .int .i64 0] (0, 0) _ rfl (bt_ BK145) Try.underlying52 rfl (by kernel_rfl) (.cell gb146 51 #[.int .i64 0, .int .i64 0, .int .u64 0, .int .i64 0] (0, 0) _ rfl (bt_ BK146) Try.underlying51 rfl (by kernel_rfl) (.tmp .nil)))) rfl ?_
   exact ⟨by first | rfl | (simp [a8_, a7_] <;> rfl) | (simp [*, a8_, a7_] <;> rfl), hb_⟩
  ·rw [if_neg c5] at H
   have c5b0 : decide (a1_3 < 0) = false := decide_eq_false c5
   clear c5
   by_cases c22 : a1_3 < a0_1
   ·rw [if_pos c22] at H
    have c22b0 : decide (a1_3 < a0_1) = true := decide_eq_true c22
    clear c22
    simp only [Option.some.injEq, Prod.mk.injEq] at H
    obtain ⟨rfl, rfl, rfl, rfl, rfl, rfl, rfl, rfl, rfl⟩ := H
    go_enter Try.func89, Try.ntmps89
    go_wp2_with (first | ((with_reducible refine a3_ (N := 2) rfl ?_); refine bx 2 #[.int .i64 a0_0, .int .i64 a0_1, .int .i64 a0_2, .int .i64 a0_3] 27 ?_; intro gb143 hg w23 hbox hb; have BK143 := m_ (hbox); have GW143 := ge_ hg; have GE143 := ge_ hg; replace HB := hs_ hb; clear hb hbox hg) | ((with_reducible refine a3_ (N := 3) rfl ?_); refine bx 3 #[.int .i64 a1_0, .int .i64 a1_1, .int .u64 a1_2, .int .i64 a1_3] 51 ?_; intro gb144 hg w24 hbox hb; have BK144 := m_ (hbox); have GW144 := ge_ hg; have GE144 := ge_ hg; have NB143_144 := nl_ BK143 hg; have NB144_143 := nr_ BK143 hg; replace BK143 := bk_ BK143 hb; replace HB := hs_ hb; clear hb hbox hg) | ((with_reducible refine a3_ (N := 4) rfl ?_); refine bx 4 #[.int .i64 0, .int .i64 0, .int .u64 0, .int .i64 0] 52 ?_; intro gb145 hg w25 hbox hb; have BK145 := m_ (hbox); have GW145 := ge_ hg; have GE145 := ge_ hg; have NB143_145 := nl_ BK143 hg; have NB145_143 := nr_ BK143 hg; have NB144_145 := nl_ BK144 hg; have NB145_144 := nr_ BK144 hg; replace BK143 := bk_ BK143 hb; replace BK144 := bk_ BK144 hb; replace HB := hs_ hb; clear hb hbox hg) | ((with_reducible refine a3_ (N := 5) rfl ?_); refine bx 5 #[.int .i64 0, .int .i64 0, .int .u64 0, .int .i64 0] 51 ?_; intro gb146 hg w26 hbox hb; have BK146 := m_ (hbox); have GW146 := ge_ hg; have GE146 := ge_ hg; have NB143_146 := nl_ BK143 hg; have NB146_143 := nr_ BK143 hg; have NB144_146 := nl_ BK144 hg; have NB146_144 := nr_ BK144 hg; have NB145_146 := nl_ BK145 hg; have NB146_145 := nr_ BK145 hg; replace BK143 := bk_ BK143 hb; replace BK144 := bk_ BK144 hb; replace BK145 := bk_ BK145 hb; replace HB := hs_ hb; clear hb hbox hg; have hnb27 := NB144_143.out; have hnc27 := NB143_144.out; have hnb28 := NB144_145.out; have hnc28 := NB145_144.out; have hnb29 := NB144_146.out; have hnc29 := NB146_144.out; obtain ⟨hcz30_0, hcz30_1, hcz30_2, hcz30_3, hfz30_0, hfz30_1, hfz30_2, hfz30_3⟩ := bz4_ BK144; have hnb31 := NB143_145.out; have hnc31 := NB145_143.out; have hnb32 := NB143_146.out; have hnc32 := NB146_143.out; obtain ⟨hcz33_0, hcz33_1, hcz33_2, hcz33_3, hfz33_0, hfz33_1, hfz33_2, hfz33_3⟩ := bz4_ BK143) | ((with_reducible refine a9_ (f := 115) rfl ?_); refine goesL_ (some 14) rfl rfl Try.func115 (by kernel_rfl) rfl #[.int .u64 a1_2, .int .i64 a0_0] rfl Z0 ?_; (with_reducible refine (ensembleref01_Lowest.calls k a1_2 a0_0 t147 t148 _ A3.out).mono ?_); rintro e w34 ⟨rfl, hb⟩; refine ⟨_, rfl, ?_⟩; replace BK143 := bk_ BK143 hb; replace BK144 := bk_ BK144 hb; replace BK145 := bk_ BK145 hb; replace BK146 := bk_ BK146 hb; replace HB := hs_ hb; (try clear hb); (try clear hb2); (try clear hk); (try clear hi); obtain ⟨hcz35_0, hcz35_1, hcz35_2, hcz35_3, hfz35_0, hfz35_1, hfz35_2, hfz35_3⟩ := bz4_ BK144; obtain ⟨hcz36_0, hcz36_1, hcz36_2, hcz36_3, hfz36_0, hfz36_1, hfz36_2, hfz36_3⟩ := bz4_ BK143; have hnb37 := NB145_146.out; have hnc37 := NB146_145.out; obtain ⟨hcz38_0, hcz38_1, hcz38_2, hcz38_3, hfz38_0, hfz38_1, hfz38_2, hfz38_3⟩ := bz4_ BK145; obtain ⟨hcz39_0, hcz39_1, hcz39_2, hcz39_3, hfz39_0, hfz39_1, hfz39_2, hfz39_3⟩ := bz4_ BK146))
    refine bodyPost_ret (results_list (rs := [.cell 4 52, .cell 5 51, .tmp 6]) rfl (by simp) (.cell gb145 52 #[.int .i64 0, .int .i64 0, .int .u64 0, .int .i64 0] (0, 0) _ rfl (bt_ BK145) Try.underlying52 rfl (by kernel_rfl) (.cell gb146 51 #[.int .i64 0, .int .i64 0, .int .u64 0, .int .i64 0] (0, 0) _ rfl (bt_ BK146) Try.underlying51 rfl (by kernel_rfl) (.tmp .nil)))) rfl ?_
    exact ⟨by first | rfl | (simp [a8_, a7_] <;> rfl) | (simp [*, a8_, a7_] <;> rfl), hb_⟩
   ·rw [if_neg c22] at H
    have c22b0 : decide (a1_3 < a0_1) = false := decide_eq_false c22
    clear c22
    simp only [Option.some.injEq, Prod.mk.injEq] at H
    obtain ⟨rfl, rfl, rfl, rfl, rfl, rfl, rfl, rfl, rfl⟩ := H
    go_enter Try.func89, Try.ntmps89
    try go_wp2_with (first | ((with_reducible refine a3_ (N := 2) rfl ?_); refine bx 2 #[.int .i64 a0_0, .int .i64 a0_1, .int .i64 a0_2, .int .i64 a0_3] 27 ?_; intro gb143 hg w40 hbox hb; have BK143 := m_ (hbox); have GW143 := ge_ hg; have GE143 := ge_ hg; replace HB := hs_ hb; clear hb hbox hg) | ((with_reducible refine a3_ (N := 3) rfl ?_); refine bx 3 #[.int .i64 a1_0, .int .i64 a1_1, .int .u64 a1_2, .int .i64 a1_3] 51 ?_; intro gb144 hg w41 hbox hb; have BK144 := m_ (hbox); have GW144 := ge_ hg; have GE144 := ge_ hg; have NB143_144 := nl_ BK143 hg; have NB144_143 := nr_ BK143 hg; replace BK143 := bk_ BK143 hb; replace HB := hs_ hb; clear hb hbox hg) | ((with_reducible refine a3_ (N := 4) rfl ?_); refine bx 4 #[.int .i64 0, .int .i64 0, .int .u64 0, .int .i64 0] 52 ?_; intro gb145 hg w42 hbox hb; have BK145 := m_ (hbox); have GW145 := ge_ hg; have GE145 := ge_ hg; have NB143_145 := nl_ BK143 hg; have NB145_143 := nr_ BK143 hg; have NB144_145 := nl_ BK144 hg; have NB145_144 := nr_ BK144 hg; replace BK143 := bk_ BK143 hb; replace BK144 := bk_ BK144 hb; replace HB := hs_ hb; clear hb hbox hg) | ((with_reducible refine a3_ (N := 5) rfl ?_); refine bx 5 #[.int .i64 0, .int .i64 0, .int .u64 0, .int .i64 0] 51 ?_; intro gb146 hg w43 hbox hb; have BK146 := m_ (hbox); have GW146 := ge_ hg; have GE146 := ge_ hg; have NB143_146 := nl_ BK143 hg; have NB146_143 := nr_ BK143 hg; have NB144_146 := nl_ BK144 hg; have NB146_144 := nr_ BK144 hg; have NB145_146 := nl_ BK145 hg; have NB146_145 := nr_ BK145 hg; replace BK143 := bk_ BK143 hb; replace BK144 := bk_ BK144 hb; replace BK145 := bk_ BK145 hb; replace HB := hs_ hb; clear hb hbox hg; have hnb44 := NB144_143.out; have hnc44 := NB143_144.out; have hnb45 := NB144_145.out; have hnc45 := NB145_144.out; have hnb46 := NB144_146.out; have hnc46 := NB146_144.out; obtain ⟨hcz47_0, hcz47_1, hcz47_2, hcz47_3, hfz47_0, hfz47_1, hfz47_2, hfz47_3⟩ := bz4_ BK144; have hnb48 := NB143_145.out; have hnc48 := NB145_143.out; have hnb49 := NB143_146.out; have hnc49 := NB146_143.out; obtain ⟨hcz50_0, hcz50_1, hcz50_2, hcz50_3, hfz50_0, hfz50_1, hfz50_2, hfz50_3⟩ := bz4_ BK143) | ((with_reducible refine a9_ (f := 115) rfl ?_); refine goesL_ (some 14) rfl rfl Try.func115 (by kernel_rfl) rfl #[.int .u64 a1_2, .int .i64 a0_0] rfl Z0 ?_; (with_reducible refine (ensembleref01_Lowest.calls k a1_2 a0_0 t147 t148 _ A3.out).mono ?_); rintro e w51 ⟨rfl, hb⟩; refine ⟨_, rfl, ?_⟩; replace BK143 := bk_ BK143 hb; replace BK144 := bk_ BK144 hb; replace BK145 := bk_ BK145 hb; replace BK146 := bk_ BK146 hb; replace HB := hs_ hb; (try clear hb); (try clear hb2); (try clear hk); (try clear hi); obtain ⟨hcz52_0, hcz52_1, hcz52_2, hcz52_3, hfz52_0, hfz52_1, hfz52_2, hfz52_3⟩ := bz4_ BK144; obtain ⟨hcz53_0, hcz53_1, hcz53_2, hcz53_3, hfz53_0, hfz53_1, hfz53_2, hfz53_3⟩ := bz4_ BK143))
    replace BK143 := m_ (c8_ BK143.out)
    replace BK144 := m_ (c8_ BK144.out)
    replace BK145 := m_ (c8_ BK145.out)
    replace BK146 := m_ (c8_ BK146.out)
    replace HB := m_ (b4_ HB.out)
    refine start_ (n := 21) (S := fun w' => w'.cell? ⟨gb144, 0, none⟩ = some (.int .i64 a1_0) ∧ w'.cell? ⟨gb144, 1, none⟩ = some (.int .i64 a1_1) ∧ w'.cell? ⟨gb144, 2, none⟩ = some (.int .u64 a1_2) ∧ w'.cell? ⟨gb144, 3, none⟩ = some (.int .i64 a1_3) ∧ w'.cell? ⟨gb143, 0, none⟩ = some (.int .i64 a0_0) ∧ w'.cell? ⟨gb143, 1, none⟩ = some (.int .i64 a0_1) ∧ w'.cell? ⟨gb143, 2, none⟩ = some (.int .i64 a0_2) ∧ w'.cell? ⟨gb143, 3, none⟩ = some (.int .i64 a0_3)) (ds := []) (bm 21 0) (by kernel_rfl) rfl rfl ⟨(a0_ BK144.out 0).trans rfl, (a0_ BK144.out 1).trans rfl, (a0_ BK144.out 2).trans rfl, (a0_ BK144.out 3).trans rfl, (a0_ BK143.out 0).trans rfl, (a0_ BK143.out 1).trans rfl, (a0_ BK143.out 2).trans rfl, (a0_ BK143.out 3).trans rfl⟩ (fun hHeld => ?_); refine with_tabW ensembleref04_Piece.tab4 ensembleref04_Piece.bits4 (fun HT_ HW_ => ?_)
    generalize w51.drew = w54 at BK143 BK144 BK145 BK146 HB hHeld ⊢
    refine pu 0 (some 33) (bm 21 1) ?_
    refine pu 2 (some 35) (bm 21 5) ?_
    refine pu 3 (some 36) (bm 21 13) ?_
    refine pu 6 (some 39) (bm 21 77) ?_
    refine pu 8 (some 41) (bm 21 333) ?_
    refine pu 10 (some 43) (bm 21 1357) ?_
    refine pu 12 (some 45) (bm 21 5453) ?_
    refine pu 14 (some 47) (bm 21 21837) ?_
    refine tk 1 (some 34) (bm 21 21839) ?_
    refine tk 4 (some 37) (bm 21 21855) ?_
    refine pu 5 (some 38) (bm 21 21887) ?_
    refine tk 7 (some 40) (bm 21 22015) ?_
    refine tk 9 (some 42) (bm 21 22527) ?_
    refine pu 11 (some 44) (bm 21 24575) ?_
    refine tk 13 (some 46) (bm 21 32767) ?_
    refine tk 15 (some 48) (bm 21 65535) ?_
    refine pu 16 (some 49) (bm 21 131071) ?_
    refine pu 17 (some 50) (bm 21 262143) ?_
    refine one_ (i := 18) (N := none) (bm 21 524287) rfl rfl (one_of HT_.out (by kernel_rfl)) (by decide) (fun K hK => ?_)
    have hs55 : w54.cell? ⟨gb145, 0, none⟩ = some (.int .i64 0) := (a0_ BK145.out 0).trans rfl
    have hfs55 := a2_ BK145.out 0
    have hns55_0 := NB143_145.out
    have hns55_1 := NB144_145.out
    have hns55_3 := NB146_145.out
    have hms55_0 := NB145_143.out
    have hms55_1 := NB145_144.out
    have hms55_3 := NB145_146.out
    have hs56 : w54.cell? ⟨gb145, 1, none⟩ = some (.int .i64 0) := (a0_ BK145.out 1).trans rfl
    have hfs56 := a2_ BK145.out 1
    have hns56_0 := NB143_145.out
    have hns56_1 := NB144_145.out
    have hns56_3 := NB146_145.out
    have hms56_0 := NB145_143.out
    have hms56_1 := NB145_144.out
    have hms56_3 := NB145_146.out
    have hs57 : w54.cell? ⟨gb145, 2, none⟩ = some (.int .u64 0) := (a0_ BK145.out 2).trans rfl
    have hfs57 := a2_ BK145.out 2
    have hns57_0 := NB143_145.out
    have hns57_1 := NB144_145.out
    have hns57_3 := NB146_145.out
    have hms57_0 := NB145_143.out
    have hms57_1 := NB145_144.out
    have hms57_3 := NB145_146.out
    have hs58 : w54.cell? ⟨gb145, 3, none⟩ = some (.int .i64 0) := (a0_ BK145.out 3).trans rfl
    have hfs58 := a2_ BK145.out 3
    have hns58_0 := NB143_145.out
    have hns58_1 := NB144_145.out
    have hns58_3 := NB146_145.out
    have hms58_0 := NB145_143.out
    have hms58_1 := NB145_144.out
    have hms58_3 := NB145_146.out
    refine skip_ (w1 := ?_) (by rfl) rfl ?_ ?_
    rotate_left
    ·go_simp
     rfl
    refine hK.out _ _ ⟨((b6_ (p := ⟨gb145, _, none⟩) NB144_145.out _).trans (((b6_ (p := ⟨gb145, _, none⟩) NB144_145.out _).trans (((b6_ (p := ⟨gb145, _, none⟩) NB144_145.out _).trans (((b6_ (p := ⟨gb145, _, none⟩) NB144_145.out _).trans (hHeld.1)))))))), ((b6_ (p := ⟨gb145, _, none⟩) NB144_145.out _).trans (((b6_ (p := ⟨gb145, _, none⟩) NB144_145.out _).trans (((b6_ (p := ⟨gb145, _, none⟩) NB144_145.out _).trans (((b6_ (p := ⟨gb145, _, none⟩) NB144_145.out _).trans (hHeld.2.1)))))))), ((b6_ (p := ⟨gb145, _, none⟩) NB144_145.out _).trans (((b6_ (p := ⟨gb145, _, none⟩) NB144_145.out _).trans (((b6_ (p := ⟨gb145, _, none⟩) NB144_145.out _).trans (((b6_ (p := ⟨gb145, _, none⟩) NB144_145.out _).trans (hHeld.2.2.1)))))))), ((b6_ (p := ⟨gb145, _, none⟩) NB144_145.out _).trans (((b6_ (p := ⟨gb145, _, none⟩) NB144_145.out _).trans (((b6_ (p := ⟨gb145, _, none⟩) NB144_145.out _).trans (((b6_ (p := ⟨gb145, _, none⟩) NB144_145.out _).trans (hHeld.2.2.2.1)))))))), ((b6_ (p := ⟨gb145, _, none⟩) NB143_145.out _).trans (((b6_ (p := ⟨gb145, _, none⟩) NB143_145.out _).trans (((b6_ (p := ⟨gb145, _, none⟩) NB143_145.out _).trans (((b6_ (p := ⟨gb145, _, none⟩) NB143_145.out _).trans (hHeld.2.2.2.2.1)))))))), ((b6_ (p := ⟨gb145, _, none⟩) NB143_145.out _).trans (((b6_ (p := ⟨gb145, _, none⟩) NB143_145.out _).trans (((b6_ (p := ⟨gb145, _, none⟩) NB143_145.out _).trans (((b6_ (p := ⟨gb145, _, none⟩) NB143_145.out _).trans (hHeld.2.2.2.2.2.1)))))))), ((b6_ (p := ⟨gb145, _, none⟩) NB143_145.out _).trans (((b6_ (p := ⟨gb145, _, none⟩) NB143_145.out _).trans (((b6_ (p := ⟨gb145, _, none⟩) NB143_145.out _).trans (((b6_ (p := ⟨gb145, _, none⟩) NB143_145.out _).trans (hHeld.2.2.2.2.2.2.1)))))))), ((b6_ (p := ⟨gb145, _, none⟩) NB143_145.out _).trans (((b6_ (p := ⟨gb145, _, none⟩) NB143_145.out _).trans (((b6_ (p := ⟨gb145, _, none⟩) NB143_145.out _).trans (((b6_ (p := ⟨gb145, _, none⟩) NB143_145.out _).trans (hHeld.2.2.2.2.2.2.2))))))))⟩ (fun hHeld => ?_)
    clear hK K
    refine one_ (i := 19) (N := none) (bm 21 1048575) rfl rfl (one_of HT_.out (by kernel_rfl)) (by decide) (fun K hK => ?_)
    have hs59 : w54.cell? ⟨gb146, 0, none⟩ = some (.int .i64 0) := (a0_ BK146.out 0).trans rfl
    have hfs59 := a2_ BK146.out 0
    have hns59_0 := NB143_146.out
    have hns59_1 := NB144_146.out
    have hns59_2 := NB145_146.out
    have hms59_0 := NB146_143.out
    have hms59_1 := NB146_144.out
    have hms59_2 := NB146_145.out
    have hs60 : w54.cell? ⟨gb146, 1, none⟩ = some (.int .i64 0) := (a0_ BK146.out 1).trans rfl
    have hfs60 := a2_ BK146.out 1
    have hns60_0 := NB143_146.out
    have hns60_1 := NB144_146.out
    have hns60_2 := NB145_146.out
    have hms60_0 := NB146_143.out
    have hms60_1 := NB146_144.out
    have hms60_2 := NB146_145.out
    have hs61 : w54.cell? ⟨gb146, 2, none⟩ = some (.int .u64 0) := (a0_ BK146.out 2).trans rfl
    have hfs61 := a2_ BK146.out 2
    have hns61_0 := NB143_146.out
    have hns61_1 := NB144_146.out
    have hns61_2 := NB145_146.out
    have hms61_0 := NB146_143.out
    have hms61_1 := NB146_144.out
    have hms61_2 := NB146_145.out
    have hs62 : w54.cell? ⟨gb146, 3, none⟩ = some (.int .i64 0) := (a0_ BK146.out 3).trans rfl
    have hfs62 := a2_ BK146.out 3
    have hns62_0 := NB143_146.out
    have hns62_1 := NB144_146.out
    have hns62_2 := NB145_146.out
    have hms62_0 := NB146_143.out
    have hms62_1 := NB146_144.out
    have hms62_2 := NB146_145.out
    refine skip_ (w1 := ?_) (by rfl) rfl ?_ ?_
    rotate_left
    ·go_simp
     rfl
    refine hK.out _ _ ⟨((b6_ (p := ⟨gb146, _, none⟩) NB144_146.out _).trans (((b6_ (p := ⟨gb146, _, none⟩) NB144_146.out _).trans (((b6_ (p := ⟨gb146, _, none⟩) NB144_146.out _).trans (((b6_ (p := ⟨gb146, _, none⟩) NB144_146.out _).trans (hHeld.1)))))))), ((b6_ (p := ⟨gb146, _, none⟩) NB144_146.out _).trans (((b6_ (p := ⟨gb146, _, none⟩) NB144_146.out _).trans (((b6_ (p := ⟨gb146, _, none⟩) NB144_146.out _).trans (((b6_ (p := ⟨gb146, _, none⟩) NB144_146.out _).trans (hHeld.2.1)))))))), ((b6_ (p := ⟨gb146, _, none⟩) NB144_146.out _).trans (((b6_ (p := ⟨gb146, _, none⟩) NB144_146.out _).trans (((b6_ (p := ⟨gb146, _, none⟩) NB144_146.out _).trans (((b6_ (p := ⟨gb146, _, none⟩) NB144_146.out _).trans (hHeld.2.2.1)))))))), ((b6_ (p := ⟨gb146, _, none⟩) NB144_146.out _).trans (((b6_ (p := ⟨gb146, _, none⟩) NB144_146.out _).trans (((b6_ (p := ⟨gb146, _, none⟩) NB144_146.out _).trans (((b6_ (p := ⟨gb146, _, none⟩) NB144_146.out _).trans (hHeld.2.2.2.1)))))))), ((b6_ (p := ⟨gb146, _, none⟩) NB143_146.out _).trans (((b6_ (p := ⟨gb146, _, none⟩) NB143_146.out _).trans (((b6_ (p := ⟨gb146, _, none⟩) NB143_146.out _).trans (((b6_ (p := ⟨gb146, _, none⟩) NB143_146.out _).trans (hHeld.2.2.2.2.1)))))))), ((b6_ (p := ⟨gb146, _, none⟩) NB143_146.out _).trans (((b6_ (p := ⟨gb146, _, none⟩) NB143_146.out _).trans (((b6_ (p := ⟨gb146, _, none⟩) NB143_146.out _).trans (((b6_ (p := ⟨gb146, _, none⟩) NB143_146.out _).trans (hHeld.2.2.2.2.2.1)))))))), ((b6_ (p := ⟨gb146, _, none⟩) NB143_146.out _).trans (((b6_ (p := ⟨gb146, _, none⟩) NB143_146.out _).trans (((b6_ (p := ⟨gb146, _, none⟩) NB143_146.out _).trans (((b6_ (p := ⟨gb146, _, none⟩) NB143_146.out _).trans (hHeld.2.2.2.2.2.2.1)))))))), ((b6_ (p := ⟨gb146, _, none⟩) NB143_146.out _).trans (((b6_ (p := ⟨gb146, _, none⟩) NB143_146.out _).trans (((b6_ (p := ⟨gb146, _, none⟩) NB143_146.out _).trans (((b6_ (p := ⟨gb146, _, none⟩) NB143_146.out _).trans (hHeld.2.2.2.2.2.2.2))))))))⟩ (fun hHeld => ?_)
    clear hK K
    refine pu 20 (some 6) (bm 21 2097151) ?_
    refine done_ (done_of HT_.out (by kernel_rfl)) ?_
    try go_wp2
    refine bodyPost_ret (results_list (rs := [.cell 4 52, .cell 5 51, .tmp 6]) rfl (by simp) (.cell gb145 52 #[.int .i64 a1_0, .int .i64 a1_1, .int .u64 t147, .int .i64 a0_1] (0, 0) _ rfl (bt_ BK145) Try.underlying52 rfl (by kernel_rfl) (.cell gb146 51 #[.int .i64 a1_0, .int .i64 a1_1, .int .u64 (IntKind.u64.wrap (a1_2 - t147)), .int .i64 (wrap64 (a1_3 - a0_1))] (0, 0) _ rfl (bt_ BK146) Try.underlying51 rfl (by kernel_rfl) (.tmp .nil)))) rfl ?_
    exact ⟨by first | rfl | (simp [a8_, a7_] <;> rfl) | (simp [*, a8_, a7_] <;> rfl), hb_⟩
 ·rw [if_neg c4] at H
  have c4b0 : (t148 == 0) = false := beq_eq_false_iff_ne.mpr c4
  have c4b1 : (t148 != 0) = true := bne_iff_ne.mpr c4
  simp only [Option.some.injEq, Prod.mk.injEq] at H
  obtain ⟨rfl, rfl, rfl, rfl, rfl, rfl, rfl, rfl, rfl⟩ := H
  go_enter Try.func89, Try.ntmps89
  go_wp2_with (first | ((with_reducible refine a3_ (N := 2) rfl ?_); refine bx 2 #[.int .i64 a0_0, .int .i64 a0_1, .int .i64 a0_2, .int .i64 a0_3] 27 ?_; intro gb143 hg w63 hbox hb; have BK143 := m_ (hbox); have GW143 := ge_ hg; have GE143 := ge_ hg; replace HB := hs_ hb; clear hb hbox hg) | ((with_reducible refine a3_ (N := 3) rfl ?_); refine bx 3 #[.int .i64 a1_0, .int .i64 a1_1, .int .u64 a1_2, .int .i64 a1_3] 51 ?_; intro gb144 hg w64 hbox hb; have BK144 := m_ (hbox); have GW144 := ge_ hg; have GE144 := ge_ hg; have NB143_144 := nl_ BK143 hg; have NB144_143 := nr_ BK143 hg; replace BK143 := bk_ BK143 hb; replace HB := hs_ hb; clear hb hbox hg) | ((with_reducible refine a3_ (N := 4) rfl ?_); refine bx 4 #[.int .i64 0, .int .i64 0, .int .u64 0, .int .i64 0] 52 ?_; intro gb145 hg w65 hbox hb; have BK145 := m_ (hbox); have GW145 := ge_ hg; have GE145 := ge_ hg; have NB143_145 := nl_ BK143 hg; have NB145_143 := nr_ BK143 hg; have NB144_145 := nl_ BK144 hg; have NB145_144 := nr_ BK144 hg; replace BK143 := bk_ BK143 hb; replace BK144 := bk_ BK144 hb; replace HB := hs_ hb; clear hb hbox hg) | ((with_reducible refine a3_ (N := 5) rfl ?_); refine bx 5 #[.int .i64 0, .int .i64 0, .int .u64 0, .int .i64 0] 51 ?_; intro gb146 hg w66 hbox hb; have BK146 := m_ (hbox); have GW146 := ge_ hg; have GE146 := ge_ hg; have NB143_146 := nl_ BK143 hg; have NB146_143 := nr_ BK143 hg; have NB144_146 := nl_ BK144 hg; have NB146_144 := nr_ BK144 hg; have NB145_146 := nl_ BK145 hg; have NB146_145 := nr_ BK145 hg; replace BK143 := bk_ BK143 hb; replace BK144 := bk_ BK144 hb; replace BK145 := bk_ BK145 hb; replace HB := hs_ hb; clear hb hbox hg; have hnb67 := NB144_143.out; have hnc67 := NB143_144.out; have hnb68 := NB144_145.out; have hnc68 := NB145_144.out; have hnb69 := NB144_146.out; have hnc69 := NB146_144.out; obtain ⟨hcz70_0, hcz70_1, hcz70_2, hcz70_3, hfz70_0, hfz70_1, hfz70_2, hfz70_3⟩ := bz4_ BK144; have hnb71 := NB143_145.out; have hnc71 := NB145_143.out; have hnb72 := NB143_146.out; have hnc72 := NB146_143.out; obtain ⟨hcz73_0, hcz73_1, hcz73_2, hcz73_3, hfz73_0, hfz73_1, hfz73_2, hfz73_3⟩ := bz4_ BK143) | ((with_reducible refine a9_ (f := 115) rfl ?_); refine goesL_ (some 14) rfl rfl Try.func115 (by kernel_rfl) rfl #[.int .u64 a1_2, .int .i64 a0_0] rfl Z0 ?_; (with_reducible refine (ensembleref01_Lowest.calls k a1_2 a0_0 t147 t148 _ A3.out).mono ?_); rintro e w74 ⟨rfl, hb⟩; refine ⟨_, rfl, ?_⟩; replace BK143 := bk_ BK143 hb; replace BK144 := bk_ BK144 hb; replace BK145 := bk_ BK145 hb; replace BK146 := bk_ BK146 hb; replace HB := hs_ hb; (try clear hb); (try clear hb2); (try clear hk); (try clear hi); have hnb75 := NB145_146.out; have hnc75 := NB146_145.out; obtain ⟨hcz76_0, hcz76_1, hcz76_2, hcz76_3, hfz76_0, hfz76_1, hfz76_2, hfz76_3⟩ := bz4_ BK145; obtain ⟨hcz77_0, hcz77_1, hcz77_2, hcz77_3, hfz77_0, hfz77_1, hfz77_2, hfz77_3⟩ := bz4_ BK146))
  refine bodyPost_ret (results_list (rs := [.cell 4 52, .cell 5 51, .tmp 6]) rfl (by simp) (.cell gb145 52 #[.int .i64 0, .int .i64 0, .int .u64 0, .int .i64 0] (0, 0) _ rfl (bt_ BK145) Try.underlying52 rfl (by kernel_rfl) (.cell gb146 51 #[.int .i64 0, .int .i64 0, .int .u64 0, .int .i64 0] (0, 0) _ rfl (bt_ BK146) Try.underlying51 rfl (by kernel_rfl) (.tmp .nil)))) rfl ?_
  exact ⟨by first | rfl | (simp [a8_, a7_] <;> rfl) | (simp [*, a8_, a7_] <;> rfl), hb_⟩
def ensembleref04_Right.f (a0_0 a0_1 a0_2 a0_3 : Int) : Option (Bool) := if a0_0 ≥ 0 then (if a0_0 ≤ 16 then (if a0_1 ≥ 0 then (if a0_1 ≤ 1024 then (if (wrap64 (a0_0 + a0_1)) > 0 then (if a0_2 ≥ 1 then (if a0_2 ≤ a0_3 then (some (decide (a0_3 ≤ 16))) else (some false)) else (some false)) else (some false)) else (some false)) else (some false)) else (some false)) else (some false)
set_option maxHeartbeats 8000000 in
set_option maxRecDepth 100000 in
theorem ensembleref04_Right.calls (a0_0 a0_1 a0_2 a0_3 : Int) (r : Bool) (w : World) (h : ensembleref04_Right.f a0_0 a0_1 a0_2 a0_3 = some r) :
  Calls Try.prog 45 #[.agg #[.int .i64 a0_0, .int .i64 a0_1, .int .i64 a0_2, .int .i64 a0_3]] w fun e w' => e = .returned (.bool r) ∧ Below w.heap.size w w' := by
 have hu27 := Try.underlying27
 have HB := m_ (Below.refl w.heap.size w)
 have H := h
 unfold ensembleref04_Right.f at H
 clear h
 by_cases c2 : a0_0 ≥ 0
 ·rw [if_pos c2] at H
  have c2b0 : decide (0 ≤ a0_0) = true := decide_eq_true c2
  clear c2
  by_cases c3 : a0_0 ≤ 16
  ·rw [if_pos c3] at H
   have c3b0 : decide (a0_0 ≤ 16) = true := decide_eq_true c3
   clear c3
   by_cases c4 : a0_1 ≥ 0
   ·rw [if_pos c4] at H
    have c4b0 : decide (0 ≤ a0_1) = true := decide_eq_true c4
    clear c4
    by_cases c5 : a0_1 ≤ 1024
    ·rw [if_pos c5] at H
     have c5b0 : decide (a0_1 ≤ 1024) = true := decide_eq_true c5
     clear c5
     by_cases c6 : (wrap64 (a0_0 + a0_1)) > 0
     ·rw [if_pos c6] at H
      have c6b0 : decide (0 < (wrap64 (a0_0 + a0_1))) = true := decide_eq_true c6
      clear c6
      by_cases c7 : a0_2 ≥ 1
      ·rw [if_pos c7] at H
       have c7b0 : decide (1 ≤ a0_2) = true := decide_eq_true c7
       clear c7
       by_cases c8 : a0_2 ≤ a0_3
       ·rw [if_pos c8] at H
        have c8b0 : decide (a0_2 ≤ a0_3) = true := decide_eq_true c8
        clear c8
        obtain rfl := Option.some.inj H
        go_enter Try.func45, Try.ntmps45
        go_wp2_with (first | ((with_reducible refine a3_ (N := 1) rfl ?_); refine bx 1 #[.int .i64 a0_0, .int .i64 a0_1, .int .i64 a0_2, .int .i64 a0_3] 27 ?_; intro gb131 hg w9 hbox hb; have BK131 := m_ (hbox); have GW131 := ge_ hg; have GE131 := ge_ hg; replace HB := hs_ hb; clear hb hbox hg; obtain ⟨hcz10_0, hcz10_1, hcz10_2, hcz10_3, hfz10_0, hfz10_1, hfz10_2, hfz10_3⟩ := bz4_ BK131))
        go_ret
        exact ⟨by first | rfl | (simp [a8_, a7_] <;> rfl) | (simp [*, a8_, a7_] <;> rfl), hb_⟩
       ·rw [if_neg c8] at H
        have c8b0 : decide (a0_2 ≤ a0_3) = false := decide_eq_false c8
        clear c8
        obtain rfl := Option.some.inj H
        go_enter Try.func45, Try.ntmps45
        go_wp2_with (first | ((with_reducible refine a3_ (N := 1) rfl ?_); refine bx 1 #[.int .i64 a0_0, .int .i64 a0_1, .int .i64 a0_2, .int .i64 a0_3] 27 ?_; intro gb131 hg w11 hbox hb; have BK131 := m_ (hbox); have GW131 := ge_ hg; have GE131 := ge_ hg; replace HB := hs_ hb; clear hb hbox hg; obtain ⟨hcz12_0, hcz12_1, hcz12_2, hcz12_3, hfz12_0, hfz12_1, hfz12_2, hfz12_3⟩ := bz4_ BK131))
        go_ret
        exact ⟨by first | rfl | (simp [a8_, a7_] <;> rfl) | (simp [*, a8_, a7_] <;> rfl), hb_⟩
      ·rw [if_neg c7] at H
       have c7b0 : decide (1 ≤ a0_2) = false := decide_eq_false c7
       clear c7
       obtain rfl := Option.some.inj H
       go_enter Try.func45, Try.ntmps45
       go_wp2_with (first | ((with_reducible refine a3_ (N := 1) rfl ?_); refine bx 1 #[.int .i64 a0_0, .int .i64 a0_1, .int .i64 a0_2, .int .i64 a0_3] 27 ?_; intro gb131 hg w13 hbox hb; have BK131 := m_ (hbox); have GW131 := ge_ hg; have GE131 := ge_ hg; replace HB := hs_ hb; clear hb hbox hg; obtain ⟨hcz14_0, hcz14_1, hcz14_2, hcz14_3, hfz14_0, hfz14_1, hfz14_2, hfz14_3⟩ := bz4_ BK131))
       go_ret
       exact ⟨by first | rfl | (simp [a8_, a7_] <;> rfl) | (simp [*, a8_, a7_] <;> rfl), hb_⟩
     ·rw [if_neg c6] at H
      have c6b0 : decide (0 < (wrap64 (a0_0 + a0_1))) = false := decide_eq_false c6
      clear c6
      obtain rfl := Option.some.inj H
      go_enter Try.func45, Try.ntmps45
      go_wp2_with (first | ((with_reducible refine a3_ (N := 1) rfl ?_); refine bx 1 #[.int .i64 a0_0, .int .i64 a0_1, .int .i64 a0_2, .int .i64 a0_3] 27 ?_; intro gb131 hg w15 hbox hb; have BK131 := m_ (hbox); have GW131 := ge_ hg; have GE131 := ge_ hg; replace HB := hs_ hb; clear hb hbox hg; obtain ⟨hcz16_0, hcz16_1, hcz16_2, hcz16_3, hfz16_0, hfz16_1, hfz16_2, hfz16_3⟩ := bz4_ BK131))
      go_ret
      exact ⟨by first | rfl | (simp [a8_, a7_] <;> rfl) | (simp [*, a8_, a7_] <;> rfl), hb_⟩
    ·rw [if_neg c5] at H
     have c5b0 : decide (a0_1 ≤ 1024) = false := decide_eq_false c5
     clear c5
     obtain rfl := Option.some.inj H
     go_enter Try.func45, Try.ntmps45
     go_wp2_with (first | ((with_reducible refine a3_ (N := 1) rfl ?_); refine bx 1 #[.int .i64 a0_0, .int .i64 a0_1, .int .i64 a0_2, .int .i64 a0_3] 27 ?_; intro gb131 hg w17 hbox hb; have BK131 := m_ (hbox); have GW131 := ge_ hg; have GE131 := ge_ hg; replace HB := hs_ hb; clear hb hbox hg; obtain ⟨hcz18_0, hcz18_1, hcz18_2, hcz18_3, hfz18_0, hfz18_1, hfz18_2, hfz18_3⟩ := bz4_ BK131))
     go_ret
     exact ⟨by first | rfl | (simp [a8_, a7_] <;> rfl) | (simp [*, a8_, a7_] <;> rfl), hb_⟩
   ·rw [if_neg c4] at H
    have c4b0 : decide (0 ≤ a0_1) = false := decide_eq_false c4
    clear c4
    obtain rfl := Option.some.inj H
    go_enter Try.func45, Try.ntmps45
    go_wp2_with (first | ((with_reducible refine a3_ (N := 1) rfl ?_); refine bx 1 #[.int .i64 a0_0, .int .i64 a0_1, .int .i64 a0_2, .int .i64 a0_3] 27 ?_; intro gb131 hg w19 hbox hb; have BK131 := m_ (hbox); have GW131 := ge_ hg; have GE131 := ge_ hg; replace HB := hs_ hb; clear hb hbox hg; obtain ⟨hcz20_0, hcz20_1, hcz20_2, hcz20_3, hfz20_0, hfz20_1, hfz20_2, hfz20_3⟩ := bz4_ BK131))
    go_ret
    exact ⟨by first | rfl | (simp [a8_, a7_] <;> rfl) | (simp [*, a8_, a7_] <;> rfl), hb_⟩
  ·rw [if_neg c3] at H
   have c3b0 : decide (a0_0 ≤ 16) = false := decide_eq_false c3
   clear c3
   obtain rfl := Option.some.inj H
   go_enter Try.func45, Try.ntmps45
   go_wp2_with (first | ((with_reducible refine a3_ (N := 1) rfl ?_); refine bx 1 #[.int .i64 a0_0, .int .i64 a0_1, .int .i64 a0_2, .int .i64 a0_3] 27 ?_; intro gb131 hg w21 hbox hb; have BK131 := m_ (hbox); have GW131 := ge_ hg; have GE131 := ge_ hg; replace HB := hs_ hb; clear hb hbox hg; obtain ⟨hcz22_0, hcz22_1, hcz22_2, hcz22_3, hfz22_0, hfz22_1, hfz22_2, hfz22_3⟩ := bz4_ BK131))
   go_ret
   exact ⟨by first | rfl | (simp [a8_, a7_] <;> rfl) | (simp [*, a8_, a7_] <;> rfl), hb_⟩
 ·rw [if_neg c2] at H
  have c2b0 : decide (0 ≤ a0_0) = false := decide_eq_false c2
  clear c2
  obtain rfl := Option.some.inj H
  go_enter Try.func45, Try.ntmps45
  go_wp2_with (first | ((with_reducible refine a3_ (N := 1) rfl ?_); refine bx 1 #[.int .i64 a0_0, .int .i64 a0_1, .int .i64 a0_2, .int .i64 a0_3] 27 ?_; intro gb131 hg w23 hbox hb; have BK131 := m_ (hbox); have GW131 := ge_ hg; have GE131 := ge_ hg; replace HB := hs_ hb; clear hb hbox hg; obtain ⟨hcz24_0, hcz24_1, hcz24_2, hcz24_3, hfz24_0, hfz24_1, hfz24_2, hfz24_3⟩ := bz4_ BK131))
  go_ret
  exact ⟨by first | rfl | (simp [a8_, a7_] <;> rfl) | (simp [*, a8_, a7_] <;> rfl), hb_⟩
def ensembleref04_Fits.l0 : Nat → Int → Int → Int → Int → Int → Int → Int → Int → Int → Option (Int)
 | 0, _, _, _, _, _, _, _, _, _ => none
 | k + 1, x5, x150000, x150001, x150002, x150003, x151000, x151001, x151002, x151003 => if x5 < 16 then ((ensembleref04_Piece.f k x150000 x150001 x150002 x150003 x151000 x151001 x151002 x151003).bind fun bt152 => (if bt152.2.2.2.2.2.2.2.2 = 0 then (ensembleref04_Fits.l0 k (wrap64 (x5 + 1)) x150000 x150001 x150002 x150003 bt152.2.2.2.2.1 bt152.2.2.2.2.2.1 bt152.2.2.2.2.2.2.1 bt152.2.2.2.2.2.2.2.1) else (some x5))) else (some x5)
def ensembleref04_Fits.f (k : Nat) (a0_0 a0_1 a0_2 a0_3 a1_0 a1_1 a1_2 a1_3 : Int) : Option (Int) := (ensembleref04_Right.f a0_0 a0_1 a0_2 a0_3).bind fun t151 => (if t151 = true then (ensembleref04_Fits.l0 k 0 a0_0 a0_1 a0_2 a0_3 a1_0 a1_1 a1_2 a1_3) else (some 0))
set_option maxHeartbeats 8000000 in
set_option maxRecDepth 100000 in
theorem ensembleref04_Fits.calls (k : Nat) (a0_0 a0_1 a0_2 a0_3 a1_0 a1_1 a1_2 a1_3 r : Int) (w : World) (h : ensembleref04_Fits.f k a0_0 a0_1 a0_2 a0_3 a1_0 a1_1 a1_2 a1_3 = some r) :
  Calls Try.prog 47 #[.agg #[.int .i64 a0_0, .int .i64 a0_1, .int .i64 a0_2, .int .i64 a0_3], .agg #[.int .i64 a1_0, .int .i64 a1_1, .int .u64 a1_2, .int .i64 a1_3]] w fun e w' => e = .returned (.int .i64 r) ∧ Below w.heap.size w w' := by
 have hu27 := Try.underlying27
 have hu51 := Try.underlying51
 have hu52 := Try.underlying52
 have HB := m_ (Below.refl w.heap.size w)
 have H := h
 unfold ensembleref04_Fits.f at H
 clear h
 replace H := Option.bind_eq_some_iff.mp H
 obtain ⟨t151, A30, H⟩ := H
 try dsimp only at H
 have A3 := m_ A30
 clear A30
 by_cases c4 : t151 = true
 ·subst c4
  have H1 : (ensembleref04_Fits.l0 k 0 a0_0 a0_1 a0_2 a0_3 a1_0 a1_1 a1_2 a1_3) = some r := by rw [if_pos rfl] at H; exact H
  clear H
  have H := H1
  clear H1
  have H' := m_ H
  clear H
  go_enter Try.func47, Try.ntmps47
  go_wp2_with (first | ((with_reducible refine a3_ (N := 2) rfl ?_); refine bx 2 #[.int .i64 a0_0, .int .i64 a0_1, .int .i64 a0_2, .int .i64 a0_3] 27 ?_; intro gb149 hg w5 hbox hb; have BK149 := m_ (hbox); have GW149 := ge_ hg; have GE149 := ge_ hg; replace HB := hs_ hb; clear hb hbox hg) | ((with_reducible refine a3_ (N := 3) rfl ?_); refine bx 3 #[.int .i64 a1_0, .int .i64 a1_1, .int .u64 a1_2, .int .i64 a1_3] 51 ?_; intro gb150 hg w6 hbox hb; have BK150 := m_ (hbox); have GW150 := ge_ hg; have GE150 := ge_ hg; have NB149_150 := nl_ BK149 hg; have NB150_149 := nr_ BK149 hg; replace BK149 := bk_ BK149 hb; replace HB := hs_ hb; clear hb hbox hg; have hnb7 := NB149_150.out; have hnc7 := NB150_149.out; obtain ⟨hcz8_0, hcz8_1, hcz8_2, hcz8_3, hfz8_0, hfz8_1, hfz8_2, hfz8_3⟩ := bz4_ BK149) | ((with_reducible refine a9_ (f := 45) rfl ?_); refine goesL_ (some 10) rfl rfl Try.func45 (by kernel_rfl) rfl #[.agg #[.int .i64 a0_0, .int .i64 a0_1, .int .i64 a0_2, .int .i64 a0_3]] rfl Z0 ?_; (with_reducible refine (ensembleref04_Right.calls a0_0 a0_1 a0_2 a0_3 true _ A3.out).mono ?_); rintro e w9 ⟨rfl, hb⟩; refine ⟨_, rfl, ?_⟩; replace BK149 := bk_ BK149 hb; replace BK150 := bk_ BK150 hb; replace HB := hs_ hb; (try clear hb); (try clear hb2); (try clear hk); (try clear hi)))
  go_loopg [5] k (fun kq v5 w' => ∃ (x5_1 : Int) (x151000_1 : Int) (x151001_1 : Int) (x151002_1 : Int) (x151003_1 : Int), v5 = .int .i64 x5_1 ∧ A_ (ensembleref04_Fits.l0 kq x5_1 a0_0 a0_1 a0_2 a0_3 x151000_1 x151001_1 x151002_1 x151003_1 = some r) ∧ A_ (kq ≤ k) ∧ A_ (w'.heap[gb149]? = some (.cells #[.int .i64 a0_0, .int .i64 a0_1, .int .i64 a0_2, .int .i64 a0_3] 27 (0, 0))) ∧ A_ (w'.heap[gb150]? = some (.cells #[.int .i64 x151000_1, .int .i64 x151001_1, .int .u64 x151002_1, .int .i64 x151003_1] 51 (0, 0))) ∧ A_ (Below w.heap.size w w'))
  case atStart => exact ⟨(0), (a1_0), (a1_1), (a1_2), (a1_3), Z3, H', ⟨Nat.le_refl _⟩, ⟨bo_ BK149⟩, ⟨bo_ BK150⟩, ⟨hb_⟩⟩
  case round =>
   clear H'
   try clear p2
   try clear c4
   try clear c7
   try clear hcz8_0 hcz8_1 hcz8_2 hcz8_3 hfz8_0 hfz8_1 hfz8_2 hfz8_3
   obtain ⟨x5_1, x151000_1, x151001_1, x151002_1, x151003_1, rfl, HA, HK1, BK149, BK150, HB⟩ := hrel
   cases gk with
   | zero => exact absurd HA.out (by simp [ensembleref04_Fits.l0])
   | succ k1 =>
    have H := HA.out
    clear HA
    simp only [ensembleref04_Fits.l0] at H
    by_cases c10 : x5_1 < 16
    ·rw [if_pos c10] at H
     have c10b0 : decide (x5_1 < 16) = true := decide_eq_true c10
     clear c10
     replace H := Option.bind_eq_some_iff.mp H
     obtain ⟨⟨t152, t153, t154, t155, t156, t157, t158, t159, t160⟩, A110, H⟩ := H
     try dsimp only at H
     have A11 := m_ A110
     clear A110
     by_cases c12 : t160 = 0
     ·rw [if_pos c12] at H
      have c12b0 : (t160 == 0) = true := beq_iff_eq.mpr c12
      have c12b1 : (t160 != 0) = false := bne_eq_false_iff_eq.mpr c12
      clear c12
      have H' := m_ H
      clear H
      have hnb13 := NB149_150.out
      have hnc13 := NB150_149.out
      obtain ⟨hcz14_0, hcz14_1, hcz14_2, hcz14_3, hfz14_0, hfz14_1, hfz14_2, hfz14_3⟩ := bz4_ BK149
      obtain ⟨hcz15_0, hcz15_1, hcz15_2, hcz15_3, hfz15_0, hfz15_1, hfz15_2, hfz15_3⟩ := bz4_ BK150
      go_wp2_with (first | ((with_reducible refine a9_ (f := 89) rfl ?_); refine goesL_ (some 17) rfl rfl Try.func89 (by kernel_rfl) rfl #[.agg #[.int .i64 a0_0, .int .i64 a0_1, .int .i64 a0_2, .int .i64 a0_3], .agg #[.int .i64 x151000_1, .int .i64 x151001_1, .int .u64 x151002_1, .int .i64 x151003_1]] rfl Z0 ?_; (with_reducible refine (ensembleref04_Piece.calls k1 a0_0 a0_1 a0_2 a0_3 x151000_1 x151001_1 x151002_1 x151003_1 t152 t153 t154 t155 t156 t157 t158 t159 t160 _ A11.out).mono ?_); rintro e w16 ⟨rfl, hb⟩; refine ⟨_, rfl, ?_⟩; replace BK149 := bk_ BK149 hb; replace BK150 := bk_ BK150 hb; replace HB := hs_ hb; (try clear hb); (try clear hb2); (try clear hk); (try clear hi)) | ((with_reducible refine a3_ (N := 6) rfl ?_); refine bx 6 #[.int .i64 0, .int .i64 0, .int .u64 0, .int .i64 0] 52 ?_; intro gb161 hg w17 hbox hb; have BK161 := m_ (hbox); have GW161 := ge_ hg; have GE161 := ge_ hg; have NB149_161 := nl_ BK149 hg; have NB161_149 := nr_ BK149 hg; have NB150_161 := nl_ BK150 hg; have NB161_150 := nr_ BK150 hg; replace BK149 := bk_ BK149 hb; replace BK150 := bk_ BK150 hb; replace HB := hs_ hb; clear hb hbox hg) | ((with_reducible refine a3_ (N := 7) rfl ?_); refine bx 7 #[.int .i64 0, .int .i64 0, .int .u64 0, .int .i64 0] 51 ?_; intro gb162 hg w18 hbox hb; have BK162 := m_ (hbox); have GW162 := ge_ hg; have GE162 := ge_ hg; have NB149_162 := nl_ BK149 hg; have NB162_149 := nr_ BK149 hg; have NB150_162 := nl_ BK150 hg; have NB162_150 := nr_ BK150 hg; have NB161_162 := nl_ BK161 hg; have NB162_161 := nr_ BK161 hg; replace BK149 := bk_ BK149 hb; replace BK150 := bk_ BK150 hb; replace BK161 := bk_ BK161 hb; replace HB := hs_ hb; clear hb hbox hg; have hnb19 := NB161_149.out; have hnc19 := NB149_161.out; have hnb20 := NB161_150.out; have hnc20 := NB150_161.out; have hnb21 := NB161_162.out; have hnc21 := NB162_161.out; obtain ⟨hcz22_0, hcz22_1, hcz22_2, hcz22_3, hfz22_0, hfz22_1, hfz22_2, hfz22_3⟩ := bz4_ BK161; have hnb23 := NB162_149.out; have hnc23 := NB149_162.out; have hnb24 := NB162_150.out; have hnc24 := NB150_162.out; obtain ⟨hcz25_0, hcz25_1, hcz25_2, hcz25_3, hfz25_0, hfz25_1, hfz25_2, hfz25_3⟩ := bz4_ BK162; obtain ⟨hcz26_0, hcz26_1, hcz26_2, hcz26_3, hfz26_0, hfz26_1, hfz26_2, hfz26_3⟩ := bz4_ BK150))
      go_roundg k1
      case measure => have := HK1.out; omega
      case rel => exact ⟨(wrap64 (x5_1 + 1)), (t156), (t157), (t158), (t159), Z3, H', ⟨by have := HK1.out; omega⟩, ⟨bs_⟩, ⟨bs_⟩, ⟨hb_⟩⟩
     ·rw [if_neg c12] at H
      have c12b0 : (t160 == 0) = false := beq_eq_false_iff_ne.mpr c12
      have c12b1 : (t160 != 0) = true := bne_iff_ne.mpr c12
      obtain rfl := Option.some.inj H
      have hnb27 := NB149_150.out
      have hnc27 := NB150_149.out
      obtain ⟨hcz28_0, hcz28_1, hcz28_2, hcz28_3, hfz28_0, hfz28_1, hfz28_2, hfz28_3⟩ := bz4_ BK149
      obtain ⟨hcz29_0, hcz29_1, hcz29_2, hcz29_3, hfz29_0, hfz29_1, hfz29_2, hfz29_3⟩ := bz4_ BK150
      go_wp2_with (first | ((with_reducible refine a9_ (f := 89) rfl ?_); refine goesL_ (some 17) rfl rfl Try.func89 (by kernel_rfl) rfl #[.agg #[.int .i64 a0_0, .int .i64 a0_1, .int .i64 a0_2, .int .i64 a0_3], .agg #[.int .i64 x151000_1, .int .i64 x151001_1, .int .u64 x151002_1, .int .i64 x151003_1]] rfl Z0 ?_; (with_reducible refine (ensembleref04_Piece.calls k1 a0_0 a0_1 a0_2 a0_3 x151000_1 x151001_1 x151002_1 x151003_1 t152 t153 t154 t155 t156 t157 t158 t159 t160 _ A11.out).mono ?_); rintro e w30 ⟨rfl, hb⟩; refine ⟨_, rfl, ?_⟩; replace BK149 := bk_ BK149 hb; replace BK150 := bk_ BK150 hb; replace HB := hs_ hb; (try clear hb); (try clear hb2); (try clear hk); (try clear hi)) | ((with_reducible refine a3_ (N := 6) rfl ?_); refine bx 6 #[.int .i64 0, .int .i64 0, .int .u64 0, .int .i64 0] 52 ?_; intro gb161 hg w31 hbox hb; have BK161 := m_ (hbox); have GW161 := ge_ hg; have GE161 := ge_ hg; have NB149_161 := nl_ BK149 hg; have NB161_149 := nr_ BK149 hg; have NB150_161 := nl_ BK150 hg; have NB161_150 := nr_ BK150 hg; replace BK149 := bk_ BK149 hb; replace BK150 := bk_ BK150 hb; replace HB := hs_ hb; clear hb hbox hg) | ((with_reducible refine a3_ (N := 7) rfl ?_); refine bx 7 #[.int .i64 0, .int .i64 0, .int .u64 0, .int .i64 0] 51 ?_; intro gb162 hg w32 hbox hb; have BK162 := m_ (hbox); have GW162 := ge_ hg; have GE162 := ge_ hg; have NB149_162 := nl_ BK149 hg; have NB162_149 := nr_ BK149 hg; have NB150_162 := nl_ BK150 hg; have NB162_150 := nr_ BK150 hg; have NB161_162 := nl_ BK161 hg; have NB162_161 := nr_ BK161 hg; replace BK149 := bk_ BK149 hb; replace BK150 := bk_ BK150 hb; replace BK161 := bk_ BK161 hb; replace HB := hs_ hb; clear hb hbox hg; have hnb33 := NB161_149.out; have hnc33 := NB149_161.out; have hnb34 := NB161_150.out; have hnc34 := NB150_161.out; have hnb35 := NB161_162.out; have hnc35 := NB162_161.out; obtain ⟨hcz36_0, hcz36_1, hcz36_2, hcz36_3, hfz36_0, hfz36_1, hfz36_2, hfz36_3⟩ := bz4_ BK161; have hnb37 := NB162_149.out; have hnc37 := NB149_162.out; have hnb38 := NB162_150.out; have hnc38 := NB150_162.out; obtain ⟨hcz39_0, hcz39_1, hcz39_2, hcz39_3, hfz39_0, hfz39_1, hfz39_2, hfz39_3⟩ := bz4_ BK162))
      go_ret
      exact ⟨by first | rfl | (simp [a8_, a7_] <;> rfl) | (simp [*, a8_, a7_] <;> rfl), hb_⟩
    ·rw [if_neg c10] at H
     have c10b0 : decide (x5_1 < 16) = false := decide_eq_false c10
     clear c10
     obtain rfl := Option.some.inj H
     go_wp2
     go_ret
     exact ⟨by first | rfl | (simp [a8_, a7_] <;> rfl) | (simp [*, a8_, a7_] <;> rfl), hb_⟩
 ·replace c4 := Bool.eq_false_iff.mpr c4
  subst c4
  have H1 : (some 0) = some r := by rw [if_neg (show ¬ (false = true) by decide)] at H; exact H
  clear H
  have H := H1
  clear H1
  obtain rfl := Option.some.inj H
  go_enter Try.func47, Try.ntmps47
  go_wp2_with (first | ((with_reducible refine a3_ (N := 2) rfl ?_); refine bx 2 #[.int .i64 a0_0, .int .i64 a0_1, .int .i64 a0_2, .int .i64 a0_3] 27 ?_; intro gb149 hg w40 hbox hb; have BK149 := m_ (hbox); have GW149 := ge_ hg; have GE149 := ge_ hg; replace HB := hs_ hb; clear hb hbox hg) | ((with_reducible refine a3_ (N := 3) rfl ?_); refine bx 3 #[.int .i64 a1_0, .int .i64 a1_1, .int .u64 a1_2, .int .i64 a1_3] 51 ?_; intro gb150 hg w41 hbox hb; have BK150 := m_ (hbox); have GW150 := ge_ hg; have GE150 := ge_ hg; have NB149_150 := nl_ BK149 hg; have NB150_149 := nr_ BK149 hg; replace BK149 := bk_ BK149 hb; replace HB := hs_ hb; clear hb hbox hg; have hnb42 := NB149_150.out; have hnc42 := NB150_149.out; obtain ⟨hcz43_0, hcz43_1, hcz43_2, hcz43_3, hfz43_0, hfz43_1, hfz43_2, hfz43_3⟩ := bz4_ BK149) | ((with_reducible refine a9_ (f := 45) rfl ?_); refine goesL_ (some 10) rfl rfl Try.func45 (by kernel_rfl) rfl #[.agg #[.int .i64 a0_0, .int .i64 a0_1, .int .i64 a0_2, .int .i64 a0_3]] rfl Z0 ?_; (with_reducible refine (ensembleref04_Right.calls a0_0 a0_1 a0_2 a0_3 false _ A3.out).mono ?_); rintro e w44 ⟨rfl, hb⟩; refine ⟨_, rfl, ?_⟩; replace BK149 := bk_ BK149 hb; replace BK150 := bk_ BK150 hb; replace HB := hs_ hb; (try clear hb); (try clear hb2); (try clear hk); (try clear hi)))
  go_ret
  exact ⟨by first | rfl | (simp [a8_, a7_] <;> rfl) | (simp [*, a8_, a7_] <;> rfl), hb_⟩
end Go.Proofs.Ytckhjehibjdjdaa.P
namespace Go.Proofs.Ytckhjehibjdjdaa.P
open Go.RowKit Go.Proofs.YtckhjehibjdjdaaW.PrintWords Go.Proofs.YtckhjehibjdjdaaW.PrintLast Go.Proofs.YtckhjehibjdjdaaW.PrintMore
instance : DecidableEq S48 := fun a b => decidable_of_iff (a.f0 = b.f0 ∧ a.f1 = b.f1) ⟨fun h => by cases a; cases b; simp at h; simp [h], fun h => h ▸ ⟨rfl, rfl⟩⟩
def newN : List S48 → List S52 → Nat
 | _, [] => 0
 | seen, x :: r => (if x.f0 ∈ seen then 0 else 1) + newN (x.f0 :: seen) r
def fitsL (k : Nat) (s0 s1 s2 s3 : Int) : List S51 → List Int → Option (List Int)
 | [], ft => some ft
 | f :: r, ft => (ensembleref04_Fits.f k s0 s1 s2 s3 f.f0.f0 f.f0.f1 f.f1 f.f2).bind fun n => if 0 ≤ n ∧ n < 17 then fitsL k s0 s1 s2 s3 r (ft.set n.toNat (wrap64 (ft.getD n.toNat 0 + 1))) else none
def inL : Nat → Int → Int → Int → Int × Int
 | 0, n, left, sum => (left, sum)
 | c + 1, n, left, sum => if left > 0 then inL c n (wrap64 (left - 1)) (wrap64 (sum + n)) else (left, sum)
def outL : Nat → List Int → Int → Int → Int × Int
 | 0, ft, left, sum => (left, sum)
 | n + 1, ft, left, sum => if left > 0 then outL n ft (inL (ft.getD (n + 1) 0).toNat ((n + 1 : Nat) : Int) left sum).1 (inL (ft.getD (n + 1) 0).toNat ((n + 1 : Nat) : Int) left sum).2 else (left, sum)
def ensemblelaw05_PackFew.f (k : Nat) (l0 : List S51) (a1_0 a1_1 a1_2 a1_3 a2 : Int) : Option Bool :=
 (ensemblelaw05_few.f k l0).bind fun few => if few = false then some true else
 (ensembleref04_Right.f a1_0 a1_1 a1_2 a1_3).bind fun rt => if rt = false then some true else
 (pack_Place.f l0 a1_0 a1_1 a1_2 a1_3 a2).bind fun p => if p.2 ≠ 0 then some true else
 if p.1.length ≤ 16 ∧ l0.length ≤ 70 ∧ (∀ x ∈ p.1, (w64B x.f0.f0 && w64B x.f0.f1) = true) then
  (fitsL k a1_0 a1_1 a1_2 a1_3 l0 (List.replicate 17 0)).bind fun ft =>
  if (∀ x ∈ ft, x ≤ 70) then some (decide ((outL 16 ft (wrap64 ((newN [] p.1 : Int) - 1)) 0).2 < a2)) else none
 else none
end Go.Proofs.Ytckhjehibjdjdaa.P
namespace Go.Proofs.Ytckhjehibjdjdaa.P
open Go.RowKit Go.Proofs.YtckhjehibjdjdaaW.PrintWords Go.Proofs.YtckhjehibjdjdaaW.PrintLast Go.Proofs.YtckhjehibjdjdaaW.PrintMore
open Go.WideMaps (KeyLaw)
open Go.Maps (Keyed IsMap Tidy)
open Go.ChangeMaps (setBlock heap_setBlock_same)
theorem laidTry : laidOutB Try.prog = true := by kernel_rfl
theorem spotLaw : KeyLaw Try.prog 48 := deep_law_laid laidTry (m := 2) (by omega) (of_decide_eq_true (by kernel_rfl)) (by kernel_rfl) (by rw [Try.underlying48])
theorem zeroI3 (w : World) : (zeroValue 3).run Try.prog w = .ok (.int .i64 0) w := by kernel_rfl
theorem und70 : Try.prog.underlying 70 = some (.map 48 3) := by kernel_rfl
def spotV (s : S48) : Value := .agg #[.int .i64 s.f0, .int .i64 s.f1]
theorem spotOf {s : S48} (h : (w64B s.f0 && w64B s.f1) = true) : ∃ kl, keyOf Try.prog 48 (spotV s) = some kl := by
 have hk : Try.prog.keyType 48 = true := by kernel_rfl
 have hc : Try.prog.cellsOf 48 = 2 := by kernel_rfl
 have h3 : Try.prog.cellsOf 3 = 1 := by kernel_rfl
 obtain ⟨n, hn⟩ : ∃ n, Try.prog.types.size = n + 1 := ⟨Try.prog.types.size - 1, by have : 0 < Try.prog.types.size := of_decide_eq_true (by kernel_rfl); omega⟩
 have hw : (Lit.int .i64 s.f0).wf = true ∧ (Lit.int .i64 s.f1).wf = true := by
  simp only [w64B, Bool.and_eq_true, decide_eq_true_eq] at h
  exact ⟨WalkArith.wf_i64 (by omega), WalkArith.wf_i64 (by omega)⟩
 have hl : ∃ ls, Try.prog.keyLits (n + 2) 48 [.int .i64 s.f0, .int .i64 s.f1] = some ls := by
  simp [Program.keyLits, Try.underlying48, Try.underlying3, hc, h3, hw.1, hw.2]
 obtain ⟨ls, hl⟩ := hl
 refine ⟨.string (keyBytes ls), ?_⟩
 have hf : (spotV s).formed Try.prog 48 = true := by simp [spotV, Value.formed, Try.underlying48, hc]
 unfold keyOf
 rw [Try.underlying48]
 show (if (Try.prog.keyType 48 && (spotV s).formed Try.prog 48) = true then _ else _) = _
 rw [hk, hf, hn, if_pos (by rfl)]
 show (Try.prog.keyLits (n + 2) 48 [.int .i64 s.f0, .int .i64 s.f1]).map _ = _
 rw [hl]; rfl
def Owns (W : World) (b n : Nat) (D : DataW Unit) : Prop := W.ownsMap Try.prog 48 (plainElem Try.prog 3) b n D
set_option maxRecDepth 100000 in
theorem lookAfter {W w1 : World} {b n : Nat} {D : DataW Unit} (h : Owns W b n D) (hn : n < maxLen) {key v0 sv : Value} {kl : Lit} (hkey : keyOf Try.prog 48 key = some kl) {c : Int} (hl : (Instr.lookup 70 (.map (some b)) key false).run Try.prog W = .ok (.int .i64 c) W)
  (hat : D.atKey kl (.lit (.int .i64 0)) = .lit (.int .i64 c)) (hm : (Instr.mapEntry 70 (.map (some b)) key).run Try.prog W = .ok (.tuple #[v0, sv]) w1) : (Instr.lookup 70 (.map (some b)) key false).run Try.prog w1 = .ok (.int .i64 c) w1 := by
 have h' := h
 obtain ⟨es, clock, hb, F, hs, hD⟩ := h'
 rcases spotLaw.find W hkey es.toList F.keys with ⟨h1, h2⟩ | ⟨j, e0, h1, h2, h3⟩
 ·have e1 : (Instr.mapEntry 70 (.map (some b)) key).run Try.prog W = .ok (.tuple #[.int .i64 0, goInt clock]) (setBlock W b (.map (es.push ⟨key, .int .i64 0, clock⟩) (clock + 1))) := by
   simp [Instr.mapEntry, run_underlying und70, MapKept.run_getObj_map hb, spotLaw.check W false hkey, h1, zeroI3, MapKept.run_setObj_map _ hb, Result.andThen, setBlock]
  have e2 : (Instr.mapUpdate 70 (.map (some b)) key (.int .i64 0)).run Try.prog W = .ok () (setBlock W b (.map (es.push ⟨key, .int .i64 0, clock⟩) (clock + 1))) := by
   simp [Instr.mapUpdate, run_underlying und70, MapKept.run_getObj_map hb, spotLaw.check W false hkey, h1, MapKept.run_setObj_map _ hb, Result.andThen, setBlock]
  have e3 : (Instr.lookup 70 (.map (some b)) key false).run Try.prog W = .ok (.int .i64 0) W := by
   simp [Instr.lookup, run_underlying und70, MapKept.run_getObj_map hb, spotLaw.check W _ hkey, h1, zeroI3, Result.andThen]
  rw [hl] at e3
  have hc : c = 0 := (Value.int.inj (Result.ok.inj e3).1).2
  rw [e1] at hm
  have hw := (Result.ok.inj hm).2
  obtain ⟨w', u1, u2, _⟩ := World.ownsMap.update h (Keyed.of_law spotLaw) und70 hn hkey (plainElem_int (H := Unit) Try.underlying3 (a := 0) (by decide))
  rw [e2] at u1
  have hw' := (Result.ok.inj u1).2
  rw [← hw', hw] at u2
  obtain ⟨c', l1, l2, _⟩ := World.ownsMap.lookup_int u2 (Keyed.of_law spotLaw) und70 Try.underlying3 (zeroI3 _) hkey
  rw [Maps.atKey_put_same (World.ownsMap.isMap h) ((Keyed.of_law spotLaw).key hkey)] at l2
  have hc' : c' = 0 := (Lit.int.inj (DataW.lit.inj l2)).2.symm
  rw [hc'] at l1
  rw [hc]; exact l1
 ·have hj : es[j]? = some e0 := by simpa using h2
  have hsame : es.modify j (fun e => { e with key := key }) = es := by
   apply Array.ext'
   rw [Array.toList_modify, ChangeMaps.modify_eq_set _ _ _ _ h2]
   have : ({ e0 with key := key } : MapEntry) = e0 := by rw [← h3]
   rw [this]
   exact WideElems.set_self _ _ _ h2
  have e1 : (Instr.mapEntry 70 (.map (some b)) key).run Try.prog W = .ok (.tuple #[e0.val, goInt e0.born]) (setBlock W b (.map es clock)) := by
   simp [Instr.mapEntry, run_underlying und70, MapKept.run_getObj_map hb, spotLaw.check W false hkey, h1, hj, h3, spotLaw.stays W hkey, hsame, MapKept.run_setObj_map _ hb, Result.andThen, setBlock]
  rw [e1] at hm
  have hw := (Result.ok.inj hm).2
  have u2 : Owns w1 b n D := by rw [← hw]; exact ⟨es, clock, heap_setBlock_same hb _, F, hs, hD⟩
  obtain ⟨c', l1, l2, _⟩ := World.ownsMap.lookup_int u2 (Keyed.of_law spotLaw) und70 Try.underlying3 (zeroI3 _) hkey
  rw [hat] at l2
  have hc' : c' = c := (Lit.int.inj (DataW.lit.inj l2)).2.symm
  rw [hc'] at l1
  exact l1
theorem entryUp {W : World} {b n : Nat} {D : DataW Unit} (h : Owns W b n D) (hn : n < maxLen) {key : Value} {kl : Lit} (hkey : keyOf Try.prog 48 key = some kl) :
  ∃ (c : Int) (sv v0 : Value) (w1 : World), (Instr.lookup 70 (.map (some b)) key false).run Try.prog W = .ok (.int .i64 c) W ∧ (Instr.mapEntry 70 (.map (some b)) key).run Try.prog W = .ok (.tuple #[v0, sv]) w1 ∧ W.grownBy w1 (some b) ∧ (Instr.lookup 70 (.map (some b)) key false).run Try.prog w1 = .ok (.int .i64 c) w1 ∧
   ∃ w2, (Instr.entryStore 70 (.map (some b)) sv (.int .i64 (wrap64 (c + 1)))).run Try.prog w1 = .ok () w2 ∧ Owns w2 b (n + 1) (D.put kl (.lit (.int .i64 (wrap64 (c + 1))))) ∧ W.grownBy w2 (some b) := by
 obtain ⟨c, hl, hat, _⟩ := World.ownsMap.lookup_int h (Keyed.of_law spotLaw) und70 Try.underlying3 (zeroI3 W) hkey
 have h' := h
 obtain ⟨es, clock, hb, F, hs, hD⟩ := h'
 obtain ⟨v0, st, es1, clock1, h1, _, h3⟩ := WideElems.entry_then_store spotLaw und70 zeroI3 hb F hkey
 obtain ⟨es', clock', h4, h5⟩ := h3 (setBlock W b (.map es1 clock1)) (.int .i64 (wrap64 (c + 1))) (heap_setBlock_same hb _)
 obtain ⟨w', h6, h7, h8⟩ := World.ownsMap.update h (Keyed.of_law spotLaw) und70 hn hkey (plainElem_int (H := Unit) Try.underlying3 (wrap64_wf (c + 1)))
 rw [h5] at h6
 injection h6 with _ e
 subst e
 refine ⟨c, goInt st, v0, _, hl, h1, ⟨rfl, rfl, rfl, by simp [setBlock], fun i _ hi => ChangeMaps.heap_setBlock_other hb _ (fun e => hi (by rw [e]))⟩, lookAfter h hn hkey hl hat h1, _, h4, ?_, ?_⟩
 ·have e2 : setBlock (setBlock W b (.map es1 clock1)) b (.map es' clock') = setBlock W b (.map es' clock') := by simp [setBlock]
  rw [e2]; exact h7
 ·have e2 : setBlock (setBlock W b (.map es1 clock1)) b (.map es' clock') = setBlock W b (.map es' clock') := by simp [setBlock]
  rw [e2]; exact h8
def Seen (D : DataW Unit) (seen : List S48) : Prop := ∀ (s : S48) (kl : Lit), keyOf Try.prog 48 (spotV s) = some kl → (Maps.has D kl = true ↔ s ∈ seen)
theorem Seen.nil : Seen (.map []) [] := fun s kl _ => by simp [Maps.has]
theorem Seen.put {W : World} {b n : Nat} {D : DataW Unit} {seen : List S48} (h : Seen D seen) (hw : Owns W b n D) {x : S48} {kl : Lit} (hk : keyOf Try.prog 48 (spotV x) = some kl) (d : DataW Unit) :
  Seen (D.put kl d) (x :: seen) ∧ Maps.size (D.put kl d) = Maps.size D + (if x ∈ seen then 0 else 1) := by
 have K := Keyed.of_law spotLaw
 have hT := World.ownsMap.tidy hw K
 refine ⟨fun s kl' hk' => ?_, ?_⟩
 ·by_cases e : kl' = kl
  ·subst e
   have e1 := spotLaw.inj hk' hk
   have : s = x := by
    unfold spotV at e1
    cases s; cases x
    simp at e1
    simp [e1.1, e1.2]
   subst this
   rw [Maps.has_put_same (World.ownsMap.isMap hw) (K.key hk) d]
   simp
  ·rw [Maps.has_put_other e d, h s kl' hk', List.mem_cons]
   exact ⟨.inr, fun hh => hh.elim (fun e2 => absurd (by rw [e2] at hk'; rw [hk] at hk'; exact (Option.some.inj hk').symm) e) id⟩
 ·rw [Maps.size_put hT d]
  by_cases hx : x ∈ seen
  ·rw [if_pos ((h x kl hk).2 hx), if_pos hx]; rfl
  ·rw [if_neg (fun e => hx ((h x kl hk).1 e)), if_neg hx]
end Go.Proofs.Ytckhjehibjdjdaa.P
namespace Go.Proofs.Ytckhjehibjdjdaa.P
open Go.RowKit Go.Proofs.YtckhjehibjdjdaaW.PrintWords Go.Proofs.YtckhjehibjdjdaaW.PrintLast Go.Proofs.YtckhjehibjdjdaaW.PrintMore
attribute [local go_sem] max2_int min2_int max_two min_two max_three min_three max_four min_four
theorem eqA52 (d : Nat) (w : World) (x0 y0 x1 y1 x2 y2 x3 y3 : Int) :
  (Op.equalIn (d + 3) 52 (.agg #[.int .i64 x0, .int .i64 x1, .int .u64 x2, .int .i64 x3]) (.agg #[.int .i64 y0, .int .i64 y1, .int .u64 y2, .int .i64 y3])).run Try.prog w = .ok ((x0 == y0 && (x1 == y1)) && (x2 == y2 && (x3 == y3))) w := by
 refine eqA_of Try.underlying52 (by kernel_rfl) ?_
 refine eqf_cons (by rfl) (by go_simp) (by go_simp) (eqA48 (d + 0) w _ _ _ _) ?_
 refine eqf_cons (by rfl) (by go_simp; rfl) (by go_simp; rfl) (by go_simp) ?_
 exact eqf_last (by rfl) (by go_simp; rfl) (by go_simp; rfl) (by go_simp)
end Go.Proofs.Ytckhjehibjdjdaa.P
namespace Go.Proofs.Ytckhjehibjdjdaa.P
open Go.RowKit Go.Proofs.YtckhjehibjdjdaaW.PrintWords Go.Proofs.YtckhjehibjdjdaaW.PrintLast Go.Proofs.YtckhjehibjdjdaaW.PrintMore
attribute [local go_sem] max2_int min2_int max_two min_two max_three min_three max_four min_four
attribute [local go_sem high] eqA52
def ensemblelaw05_awake.f  : Option (Bool) := (pack_Place.f (([(⟨(⟨0, 0⟩ : S48), 1, 0⟩ : S51), (⟨(⟨1, 0⟩ : S48), 7, 0⟩ : S51)] : List (S51))) 1 0 1 3 4).bind fun bt483 => (if bt483.2 = 0 then (if (bt483.1.length : Int) = 4 then (if 0 < (bt483.1.length : Int) then (if ((a5_ bt483.1 0).f0.f0) = 1 then (if ((a5_ bt483.1 0).f1) = 1 then (if 2 < (bt483.1.length : Int) then (if ((a5_ bt483.1 2).f1) = 4 then (if 3 < (bt483.1.length : Int) then (some ((((a5_ bt483.1 3).f0.f0) == 0 && (((a5_ bt483.1 3).f0.f1) == 0)) && (((a5_ bt483.1 3).f1) == 1 && (((a5_ bt483.1 3).f2) == 0)))) else (none)) else (some false)) else (none)) else (some false)) else (some false)) else (none)) else (some false)) else (some false))
set_option maxHeartbeats 8000000 in
set_option maxRecDepth 100000 in
theorem ensemblelaw05_awake.calls  (r : Bool) (w : World) (h : ensemblelaw05_awake.f  = some r) (hr_ : r = true := by rfl) :
  Calls Try.prog 43 #[] w fun e w' => e = .returned (.bool r) ∧ Below w.heap.size w w' := by
 have hu27 := Try.underlying27
 have hu51 := Try.underlying51
 have hu48 := Try.underlying48
 have hu52 := Try.underlying52
 have HB := m_ (Below.refl w.heap.size w)
 have H := h
 unfold ensemblelaw05_awake.f at H
 clear h
 obtain ⟨y480, hy480⟩ : ∃ y_ : List (S51), y_ = (([(⟨(⟨0, 0⟩ : S48), 1, 0⟩ : S51), (⟨(⟨1, 0⟩ : S48), 7, 0⟩ : S51)] : List (S51))) := ⟨_, rfl⟩
 replace H : ((pack_Place.f y480 1 0 1 3 4).bind fun bt483 => (if bt483.2 = 0 then (if (bt483.1.length : Int) = 4 then (if 0 < (bt483.1.length : Int) then (if ((a5_ bt483.1 0).f0.f0) = 1 then (if ((a5_ bt483.1 0).f1) = 1 then (if 2 < (bt483.1.length : Int) then (if ((a5_ bt483.1 2).f1) = 4 then (if 3 < (bt483.1.length : Int) then (some ((((a5_ bt483.1 3).f0.f0) == 0 && (((a5_ bt483.1 3).f0.f1) == 0)) && (((a5_ bt483.1 3).f1) == 1 && (((a5_ bt483.1 3).f2) == 0)))) else (none)) else (some false)) else (none)) else (some false)) else (some false)) else (none)) else (some false)) else (some false))) = some r := by first | (rw [hy480]; with_reducible exact H) | (have H2_ := (Option.bind_some _ _).symm.trans H; rw [hy480]; with_reducible exact H2_) | (have H2_ := (Option.bind_some _ _).symm.trans H; with_reducible exact H2_) | with_reducible exact H | (rw [hy480]; exact H) | exact H
 have Ny480 := m_ hy480
 clear hy480
 replace H := Option.bind_eq_some_iff.mp H
 obtain ⟨⟨t483, t486⟩, A10, H⟩ := H
 try dsimp only at H
 have A1 := m_ A10
 clear A10
 by_cases c2 : t486 = 0
 ·rw [if_pos c2] at H
  have c2b0 : (t486 == 0) = true := beq_iff_eq.mpr c2
  have c2b1 : (t486 != 0) = false := bne_eq_false_iff_eq.mpr c2
  clear c2
  by_cases c3 : (t483.length : Int) = 4
  ·rw [if_pos c3] at H
   have c3b0 : ((t483.length : Int) == 4) = true := beq_iff_eq.mpr c3
   have c3b1 : ((t483.length : Int) != 4) = false := bne_eq_false_iff_eq.mpr c3
   clear c3
   by_cases c4 : 0 < (t483.length : Int)
   ·rw [if_pos c4] at H
    have c4b0 : decide (0 < (t483.length : Int)) = true := decide_eq_true c4
    have c4b1 : decide (0 < t483.length) = true := decide_eq_true (by omega)
    clear c4
    by_cases c5 : ((a5_ t483 0).f0.f0) = 1
    ·rw [if_pos c5] at H
     have c5b0 : (((a5_ t483 0).f0.f0) == 1) = true := beq_iff_eq.mpr c5
     have c5b1 : (((a5_ t483 0).f0.f0) != 1) = false := bne_eq_false_iff_eq.mpr c5
     clear c5
     by_cases c6 : ((a5_ t483 0).f1) = 1
     ·rw [if_pos c6] at H
      have c6b0 : (((a5_ t483 0).f1) == 1) = true := beq_iff_eq.mpr c6
      have c6b1 : (((a5_ t483 0).f1) != 1) = false := bne_eq_false_iff_eq.mpr c6
      clear c6
      by_cases c7 : 2 < (t483.length : Int)
      ·rw [if_pos c7] at H
       have c7b0 : decide (2 < (t483.length : Int)) = true := decide_eq_true c7
       have c7b1 : decide (2 < t483.length) = true := decide_eq_true (by omega)
       clear c7
       by_cases c8 : ((a5_ t483 2).f1) = 4
       ·rw [if_pos c8] at H
        have c8b0 : (((a5_ t483 2).f1) == 4) = true := beq_iff_eq.mpr c8
        have c8b1 : (((a5_ t483 2).f1) != 4) = false := bne_eq_false_iff_eq.mpr c8
        clear c8
        by_cases c9 : 3 < (t483.length : Int)
        ·rw [if_pos c9] at H
         have c9b0 : decide (3 < (t483.length : Int)) = true := decide_eq_true c9
         have c9b1 : decide (3 < t483.length) = true := decide_eq_true (by omega)
         clear c9
         clear hr_
         obtain rfl := Option.some.inj H
         go_enter Try.func43, Try.ntmps43
         go_wp2_with (first | ((with_reducible refine a3_ (N := 1) rfl ?_); (try (refine gate_guard (by rfl) ?_; dsimp only)); refine bx 1 #[.int .i64 0, .int .i64 0, .int .i64 0, .int .i64 0] 27 ?_; intro gb479 hg w10 hbox hb; have BK479 := m_ (hbox); have GW479 := ge_ hg; have GE479 := ge_ hg; replace HB := hs_ hb; clear hb hbox hg; obtain ⟨hcz11_0, hcz11_1, hcz11_2, hcz11_3, hfz11_0, hfz11_1, hfz11_2, hfz11_3⟩ := bz4_ BK479) | ((with_reducible refine a3_ (N := 9) rfl ?_); (try (refine gate_guard (by rfl) ?_; dsimp only)); refine Kd.R_lit k51 _ 51 ?hg (N := 9) ?hd (xs := ([(⟨(⟨0, 0⟩ : S48), 1, 0⟩ : S51), (⟨(⟨1, 0⟩ : S48), 7, 0⟩ : S51)] : List (S51))) (inner := [.int .i64 0, .int .i64 0, .int .u64 1, .int .i64 0, .int .i64 1, .int .i64 0, .int .u64 7, .int .i64 0]) (ok := fun _ => True) (okp := fun _ => True) ?hr ?hp (fun _ hk => hk) trivial (Below.refl _ _) (Nat.le_refl _) (by simp) ?_; (case hd => rfl); (case hg => rfl); (case hr => first | (go_simp; done) | (go_simp; rfl)); (case hp => exact (Reps.c4 (show Kd.M k51 _ _ _ (⟨(⟨0, 0⟩ : S48), 1, 0⟩ : S51) [.int .i64 0, .int .i64 0, .int .u64 1, .int .i64 0] from (k51_mkM _ _ _ (⟨(⟨0, 0⟩ : S48), 1, 0⟩ : S51) )) (Reps.c4 (show Kd.M k51 _ _ _ (⟨(⟨1, 0⟩ : S48), 7, 0⟩ : S51) [.int .i64 1, .int .i64 0, .int .u64 7, .int .i64 0] from (k51_mkM _ _ _ (⟨(⟨1, 0⟩ : S48), 7, 0⟩ : S51) )) (Reps.none _ _)))); intro v481 w12 ho13 hb hg_ hnew_; clear hg_ hnew_; (first | rw [← Ny480.out] at ho13 | (simp only [Int.reduceToNat] at ho13; rw [← Ny480.out] at ho13)); have HO482 := m_ (Kd.R_lower ho13 (b3_ hb_)); replace BK479 := m_ (a1_ (g := gb479) (o := .cells #[.int .i64 1, .int .i64 0, .int .i64 1, .int .i64 3] 27 (0, 0)) (bt_ BK479) hb); replace HB := hs_ hb; clear hb ho13; obtain ⟨hcz14_0, hcz14_1, hcz14_2, hcz14_3, hfz14_0, hfz14_1, hfz14_2, hfz14_3⟩ := bz4_ BK479; obtain ⟨Ao15, co15, eo15⟩ := Kd.R_slice HO482.out; subst eo15) | ((with_reducible refine a9_ (f := 46) rfl ?_); refine goesL_ (some 11) rfl rfl Try.func46 (by kernel_rfl) rfl #[.slice Ao15 y480.length co15, .agg #[.int .i64 1, .int .i64 0, .int .i64 1, .int .i64 3], .int .i64 4] rfl Z0 ?_; (with_reducible refine (pack_Place.calls _ _ y480 1 0 1 3 4 t483 t486 _ ?side1 ?side2 A1.out).mono ?_); (case side1 => repeat (first | exact (Kd.R_reads' HO482.out).2.2 | (with_reducible refine Kd.C_alloc ?_ _) | (with_reducible refine Kd.C_drewN ?_ _) | (with_reducible refine Kd.C_drew ?_))); (case side2 => exact (Kd.R_reads' HO482.out).2.1); rintro e w16 ⟨v484, rfl, ho0, hb⟩; refine ⟨_, rfl, ?_⟩; have HO485 := m_ (Kd.R_lower ho0 (b3_ hb_)); replace HO482 := m_ (Kd.R_below (by (with_reducible repeat (first | apply Kd.R_alloc | apply Kd.R_drewN | apply Kd.R_drew)); exact HO482.out) hb); replace BK479 := bk_ BK479 hb; replace HB := hs_ hb; (try clear hb); (try clear hb2); (try clear hk); (try clear hi); (try clear ho0); obtain ⟨Ao17, co17, eo17⟩ := Kd.R_slice HO485.out; subst eo17; have p487 : 0 ≤ (0 : Int) := (by omega); have q487 : 0 < (t483.length : Int) := of_decide_eq_true Z5; obtain ⟨ad487, e487, hx487_0, hx487_1, hx487_2, hx487_3⟩ := at_T52 (Kd.R_reads' HO485.out).2.2 0 p487 q487; cases e487; have qi487 : (0 < t483.length) = True := eq_true (by omega); (try rw [show ((0 : Int)).toNat = 0 from rfl] at hx487_0); (try rw [show 0 * 4 = 0 from rfl] at hx487_0); (try rw [Addr.add_zero'] at hx487_0); (try rw [show ((0 : Int)).toNat = 0 from rfl] at hx487_1); (try rw [show 0 * 4 = 0 from rfl] at hx487_1); (try rw [Addr.add_zero'] at hx487_1); (try rw [show ((0 : Int)).toNat = 0 from rfl] at hx487_2); (try rw [show 0 * 4 = 0 from rfl] at hx487_2); (try rw [Addr.add_zero'] at hx487_2); (try rw [show ((0 : Int)).toNat = 0 from rfl] at hx487_3); (try rw [show 0 * 4 = 0 from rfl] at hx487_3); (try rw [Addr.add_zero'] at hx487_3); replace p487 := eq_true p487; replace q487 := eq_true q487; have p488 : 0 ≤ (0 : Int) := (by omega); have q488 : 0 < (t483.length : Int) := of_decide_eq_true Z5; obtain ⟨ad488, e488, hx488_0, hx488_1, hx488_2, hx488_3⟩ := at_T52 (Kd.R_reads' HO485.out).2.2 0 p488 q488; obtain rfl : ad487 = ad488 := (by injection e488); have qi488 : (0 < t483.length) = True := eq_true (by omega); (try rw [show ((0 : Int)).toNat = 0 from rfl] at hx488_0); (try rw [show 0 * 4 = 0 from rfl] at hx488_0); (try rw [Addr.add_zero'] at hx488_0); (try rw [show ((0 : Int)).toNat = 0 from rfl] at hx488_1); (try rw [show 0 * 4 = 0 from rfl] at hx488_1); (try rw [Addr.add_zero'] at hx488_1); (try rw [show ((0 : Int)).toNat = 0 from rfl] at hx488_2); (try rw [show 0 * 4 = 0 from rfl] at hx488_2); (try rw [Addr.add_zero'] at hx488_2); (try rw [show ((0 : Int)).toNat = 0 from rfl] at hx488_3); (try rw [show 0 * 4 = 0 from rfl] at hx488_3); (try rw [Addr.add_zero'] at hx488_3); replace p488 := eq_true p488; replace q488 := eq_true q488; have p489 : 0 ≤ (2 : Int) := (by omega); have q489 : 2 < (t483.length : Int) := of_decide_eq_true Z5; obtain ⟨ad489, e489, hx489_0, hx489_1, hx489_2, hx489_3⟩ := at_T52 (Kd.R_reads' HO485.out).2.2 2 p489 q489; obtain rfl : ad487 = ad489 := (by injection e489); (try simp only [show (2 : Int).toNat = 2 from rfl, Nat.reduceMul, Nat.reduceEqDiff, Go.Addr.add, ↓reduceIte] at hx489_0); (try simp only [show (2 : Int).toNat = 2 from rfl, Nat.reduceMul, Nat.reduceEqDiff, Go.Addr.add, ↓reduceIte] at hx489_1); (try simp only [show (2 : Int).toNat = 2 from rfl, Nat.reduceMul, Nat.reduceEqDiff, Go.Addr.add, ↓reduceIte] at hx489_2); (try simp only [show (2 : Int).toNat = 2 from rfl, Nat.reduceMul, Nat.reduceEqDiff, Go.Addr.add, ↓reduceIte] at hx489_3); have qi489 : (2 < t483.length) = True := eq_true (by omega); (try rw [show ((2 : Int)).toNat = 2 from rfl] at hx489_0); (try rw [show 2 * 4 = 8 from rfl] at hx489_0); (try rw [show ((2 : Int)).toNat = 2 from rfl] at hx489_1); (try rw [show 2 * 4 = 8 from rfl] at hx489_1); (try rw [show ((2 : Int)).toNat = 2 from rfl] at hx489_2); (try rw [show 2 * 4 = 8 from rfl] at hx489_2); (try rw [show ((2 : Int)).toNat = 2 from rfl] at hx489_3); (try rw [show 2 * 4 = 8 from rfl] at hx489_3); replace p489 := eq_true p489; replace q489 := eq_true q489; have p490 : 0 ≤ (3 : Int) := (by omega); have q490 : 3 < (t483.length : Int) := of_decide_eq_true Z5; obtain ⟨ad490, e490, hx490_0, hx490_1, hx490_2, hx490_3⟩ := at_T52 (Kd.R_reads' HO485.out).2.2 3 p490 q490; obtain rfl : ad487 = ad490 := (by injection e490); (try simp only [show (3 : Int).toNat = 3 from rfl, Nat.reduceMul, Nat.reduceEqDiff, Go.Addr.add, ↓reduceIte] at hx490_0); (try simp only [show (3 : Int).toNat = 3 from rfl, Nat.reduceMul, Nat.reduceEqDiff, Go.Addr.add, ↓reduceIte] at hx490_1); (try simp only [show (3 : Int).toNat = 3 from rfl, Nat.reduceMul, Nat.reduceEqDiff, Go.Addr.add, ↓reduceIte] at hx490_2); (try simp only [show (3 : Int).toNat = 3 from rfl, Nat.reduceMul, Nat.reduceEqDiff, Go.Addr.add, ↓reduceIte] at hx490_3); have qi490 : (3 < t483.length) = True := eq_true (by omega); (try rw [show ((3 : Int)).toNat = 3 from rfl] at hx490_0); (try rw [show 3 * 4 = 12 from rfl] at hx490_0); (try rw [show ((3 : Int)).toNat = 3 from rfl] at hx490_1); (try rw [show 3 * 4 = 12 from rfl] at hx490_1); (try rw [show ((3 : Int)).toNat = 3 from rfl] at hx490_2); (try rw [show 3 * 4 = 12 from rfl] at hx490_2); (try rw [show ((3 : Int)).toNat = 3 from rfl] at hx490_3); (try rw [show 3 * 4 = 12 from rfl] at hx490_3); replace p490 := eq_true p490; replace q490 := eq_true q490))
         go_ret
         exact ⟨by first | rfl | (simp [a8_, a7_] <;> rfl) | (simp [*, a8_, a7_] <;> rfl), hb_⟩
        ·rw [if_neg c9] at H
         exact absurd H (by simp)
       ·rw [if_neg c8] at H
        have c8b0 : (((a5_ t483 2).f1) == 4) = false := beq_eq_false_iff_ne.mpr c8
        have c8b1 : (((a5_ t483 2).f1) != 4) = true := bne_iff_ne.mpr c8
        rw [hr_] at H
        cases H
      ·rw [if_neg c7] at H
       exact absurd H (by simp)
     ·rw [if_neg c6] at H
      have c6b0 : (((a5_ t483 0).f1) == 1) = false := beq_eq_false_iff_ne.mpr c6
      have c6b1 : (((a5_ t483 0).f1) != 1) = true := bne_iff_ne.mpr c6
      rw [hr_] at H
      cases H
    ·rw [if_neg c5] at H
     have c5b0 : (((a5_ t483 0).f0.f0) == 1) = false := beq_eq_false_iff_ne.mpr c5
     have c5b1 : (((a5_ t483 0).f0.f0) != 1) = true := bne_iff_ne.mpr c5
     rw [hr_] at H
     cases H
   ·rw [if_neg c4] at H
    exact absurd H (by simp)
  ·rw [if_neg c3] at H
   have c3b0 : ((t483.length : Int) == 4) = false := beq_eq_false_iff_ne.mpr c3
   have c3b1 : ((t483.length : Int) != 4) = true := bne_iff_ne.mpr c3
   rw [hr_] at H
   cases H
 ·rw [if_neg c2] at H
  have c2b0 : (t486 == 0) = false := beq_eq_false_iff_ne.mpr c2
  have c2b1 : (t486 != 0) = true := bne_iff_ne.mpr c2
  rw [hr_] at H
  cases H
end Go.Proofs.Ytckhjehibjdjdaa.P
namespace Go.Proofs.Ytckhjehibjdjdaa.P
open Go.RowKit Go.Shelf Go.Proofs.YtckhjehibjdjdaaW.PrintWords Go.Proofs.YtckhjehibjdjdaaW.PrintLast Go.Proofs.YtckhjehibjdjdaaW.PrintMore
attribute [local go_sem] cellBx frozBx
theorem aw05 : ensemblelaw05_awake.f = some true := by decide +kernel
theorem und71 : Try.prog.underlying 71 = some (.slice 3) := by kernel_rfl
def ftA (l : List Int) : Array Value := (l.map (Value.int .i64)).toArray
def ft0 : List Int := List.replicate 17 0
theorem ftA_get {l : List Int} {i : Nat} (h : i < l.length) : (ftA l)[i]? = some (.int .i64 (l.getD i 0)) := by
 unfold ftA
 rw [List.getElem?_toArray, List.getElem?_map, List.getElem?_eq_getElem h, List.getD_eq_getElem?_getD, List.getElem?_eq_getElem h]; rfl
theorem ftA_set (l : List Int) (i : Nat) (v : Int) : (ftA l).setIfInBounds i (.int .i64 v) = ftA (l.set i v) := by
 unfold ftA
 rw [List.setIfInBounds_toArray, List.map_set]
theorem getD_le {l : List Int} (h : ∀ x ∈ l, x ≤ 70) {i : Nat} : l.getD i 0 ≤ 70 := by
 rw [List.getD_eq_getElem?_getD]
 cases hi : l[i]? with
 | none => simp
 | some x => exact h x (List.mem_of_getElem? hi)
theorem newN_le : ∀ (l : List S52) (sn : List S48), newN sn l ≤ l.length
 | [], _ => by simp [newN]
 | x :: r, sn => by rw [newN, List.length_cons]; have := newN_le r (x.f0 :: sn); split <;> omega
theorem Owns.bl {W W' : World} {b n : Nat} {D : DataW Unit} (h : Owns W b n D) (hb : Below W.heap.size W W') : Owns W' b n D := World.ownsMap.kept (row := none) h ⟨hb.os, hb.tape, hb.output, hb.size, fun i hi _ => hb.block i hi⟩ (by simp)
theorem made17 : madeCells #[Value.int .i64 0] 17 = ftA ft0 := by kernel_rfl
theorem make17 (W : World) : (Instr.makeSlice 71 (.int .i64 17) (.int .i64 17)).run Try.prog W = .ok (.slice (some ⟨W.heap.size, 0, none⟩) 17 17) (W.alloc (.cells (ftA ft0) 3)) := by
 have h := print_make (P := Try.prog) 71 3 .i64 8 und71 (by kernel_rfl) (by decide) 17 (by decide) W
 rw [made17] at h
 exact h
def R13.T12 : Bool × List (List Nat × List Nat) := (true, [([], []), ([], []), ([], []), ([1, 2], [1, 2]), ([3], [3]), ([4], [4]), ([0, 5], [0, 5]), ([6], [6]), ([0, 5, 0, 1, 2, 3, 4, 5], [0, 5]), ([8], [8]), ([0, 9, 7, 8, 0, 1, 2, 3, 4, 5, 6, 7, 8, 9], [0, 7, 9])])
def R13.B12 : List Nat := [0, 0, 0, 6, 14, 30, 63, 127, 63, 319, 1023]
theorem R13.tab12 : rtab .any (opsOf Try.f13 12) = R13.T12 := by kernel_rfl
theorem R13.bits12 : waitsOk R13.T12.2 R13.B12 = true := by kernel_rfl
def R13.T17 : Bool × List (List Nat × List Nat) := (true, [([], []), ([], []), ([], []), ([], []), ([2, 3], [2, 3]), ([4], [4]), ([1, 5], [1, 5]), ([0, 6], [0, 6]), ([7], [7]), ([8], [8]), ([0, 6, 0, 1, 2, 3, 4, 5, 6, 7, 8, 9], [0, 6]), ([10, 9, 6, 0, 1, 2, 3, 4, 5, 6, 7, 8, 9], [9, 10])])
def R13.B17 : List Nat := [0, 0, 0, 0, 12, 28, 62, 127, 255, 511, 1023, 2047]
theorem R13.tab17 : rtab .any (opsOf Try.f13 17) = R13.T17 := by kernel_rfl
theorem R13.bits17 : waitsOk R13.T17.2 R13.B17 = true := by kernel_rfl
set_option maxHeartbeats 8000000 in
set_option maxRecDepth 100000 in
theorem ensemblelaw05_PackFew.calls (k : Nat) (A0 : Option Addr) (c0 : Nat) (l0 : List S51) (a1_0 a1_1 a1_2 a1_3 a2 : Int) (r : Bool) (w : World) (hr0 : Kd.C k51 w A0 l0.length l0) (hc0 : l0.length ≤ c0) (h : ensemblelaw05_PackFew.f k l0 a1_0 a1_1 a1_2 a1_3 a2 = some r) (hr_ : r = true := by rfl) :
  Calls Try.prog 13 #[.slice A0 l0.length c0, .agg #[.int .i64 a1_0, .int .i64 a1_1, .int .i64 a1_2, .int .i64 a1_3], .int .i64 a2] w fun e w' => e = .returned (.bool r) ∧ Below w.heap.size w w' := by
 have hu27 := Try.underlying27
 have hu22 := Try.underlying22
 have hu39 := Try.underlying39
 have hu52 := Try.underlying52
 have hu51 := Try.underlying51
 have hu48 := Try.underlying48
 have hu3 := Try.underlying3
 have hu70 := und70
 have hu71 := und71
 have hmm := @run_makeMap Try.prog
 have hmk := make17
 have : Be w w := ⟨Below.refl _ _⟩
 unfold ensemblelaw05_PackFew.f at h
 replace h := bindS h
 obtain ⟨few, hF, h⟩ := h
 have HF := m_ hF
 have H := m_ h
 clear hF h
 go_enter Try.func13, Try.ntmps13
 have hh := H.out
 clear H
 cases few with
 | false =>
  rw [if_pos rfl] at hh
  obtain rfl := Option.some.inj hh
  clear hh
  go_wp2_with (first | ((with_reducible refine a3_ (N := 4) rfl ?_); refine bxT 4 #[.int .i64 a1_0, .int .i64 a1_1, .int .i64 a1_2, .int .i64 a1_3] 27 ?_; intro g4 wb _ _ _) | (go_at_call 43; refine (ensemblelaw05_awake.calls true _ aw05).mono ?_; rintro e wa ⟨rfl, hb⟩; have := Bl.mk hb; clear hb) | (go_at_call 44; refine (ensemblelaw05_few.calls _ _ _ _ _ _ (Kd.C_below hr0 Be.out) hc0 HF.out).mono ?_; rintro e wf ⟨rfl, hb⟩; have := Bl.mk hb; clear hb))
  go_ret
  exact ⟨rfl, Be.out⟩
 | true =>
  rw [if_neg (by decide)] at hh
  replace hh := bindS hh
  obtain ⟨rt, hR, hh⟩ := hh
  have HR := m_ hR
  clear hR
  cases rt with
  | false =>
   rw [if_pos rfl] at hh
   obtain rfl := Option.some.inj hh
   clear hh
   go_wp2_with (first | ((with_reducible refine a3_ (N := 4) rfl ?_); refine bxT 4 #[.int .i64 a1_0, .int .i64 a1_1, .int .i64 a1_2, .int .i64 a1_3] 27 ?_; intro g4 wb _ _ _) | (go_at_call 43; refine (ensemblelaw05_awake.calls true _ aw05).mono ?_; rintro e wa ⟨rfl, hb⟩; have := Bl.mk hb; clear hb) | (go_at_call 44; refine (ensemblelaw05_few.calls _ _ _ _ _ _ (Kd.C_below hr0 Be.out) hc0 HF.out).mono ?_; rintro e wf ⟨rfl, hb⟩; have := Bl.mk hb; clear hb) | (go_at_call 45; refine (ensembleref04_Right.calls _ _ _ _ _ _ HR.out).mono ?_; rintro e wr0 ⟨rfl, hb⟩; have := Bl.mk hb; clear hb))
   go_ret
   exact ⟨rfl, Be.out⟩
  | true =>
   rw [if_neg (by decide)] at hh
   replace hh := bindS hh
   obtain ⟨⟨lp, pe⟩, hP, hh⟩ := hh
   simp only at hh
   have HP := m_ hP
   have H := m_ hh
   clear hP hh
   go_upto_region 5 with (first | ((with_reducible refine a3_ (N := 4) rfl ?_); refine bxT 4 #[.int .i64 a1_0, .int .i64 a1_1, .int .i64 a1_2, .int .i64 a1_3] 27 ?_; intro g4 wb _ _ _) | (go_at_call 43; refine (ensemblelaw05_awake.calls true _ aw05).mono ?_; rintro e wa ⟨rfl, hb⟩; have := Bl.mk hb; clear hb) | (go_at_call 44; refine (ensemblelaw05_few.calls _ _ _ _ _ _ (Kd.C_below hr0 Be.out) hc0 HF.out).mono ?_; rintro e wf ⟨rfl, hb⟩; have := Bl.mk hb; clear hb) | (go_at_call 45; refine (ensembleref04_Right.calls _ _ _ _ _ _ HR.out).mono ?_; rintro e wr0 ⟨rfl, hb⟩; have := Bl.mk hb; clear hb))
   clear HF HR
   go_upto_region 6 with (first | (go_at_call 46; refine (pack_Place.calls _ _ _ _ _ _ _ _ _ _ _ (Kd.C_below hr0 Be.out) hc0 HP.out).mono ?_; rintro e wp ⟨vp, rfl, hv, hb⟩; have := Bl.mk hb; obtain ⟨Al, cl, hvp⟩ := Kd.R_slice hv; subst hvp; have HV := m_ hv; clear hb hv))
   clear HP
   have hh := H.out
   clear H
   by_cases e1 : pe = 0
   case neg =>
    rw [if_pos e1] at hh
    obtain rfl := Option.some.inj hh
    clear hh
    have q := bne_iff_ne.2 e1
    clear e1
    go_wp2
    go_ret
    exact ⟨rfl, Be.out⟩
   rw [if_neg (fun h => h e1)] at hh
   subst e1
   by_cases hg : lp.length ≤ 16 ∧ l0.length ≤ 70 ∧ (∀ x ∈ lp, (w64B x.f0.f0 && w64B x.f0.f1) = true)
   case neg => rw [if_neg hg] at hh; cases hh
   rw [if_pos hg] at hh
   have HG := m_ hg
   clear hg
   replace hh := bindS hh
   obtain ⟨ft, hF, hh⟩ := hh
   by_cases hx : ∀ x ∈ ft, x ≤ 70
   case neg => rw [if_neg hx] at hh; cases hh
   rw [if_pos hx] at hh
   have hr := Option.some.inj hh
   have HRR0 := m_ hr
   clear hr hh
   have HX := m_ hx
   have HF := m_ (show fitsL k a1_0 a1_1 a1_2 a1_3 l0 ft0 = some ft from hF)
   clear hx hF
   have rl : Rw k52 wp Al cl lp := ⟨(Kd.R_reads' HV.out).2.2, (Kd.R_reads' HV.out).2.1⟩
   clear HV
   have b4p : Bx wp g4 #[.int .i64 a1_0, .int .i64 a1_1, .int .i64 a1_2, .int .i64 a1_3] 27 := inferInstance
   have bep : Be w wp := inferInstance
   go_upto_region 9 with (fail)
   obtain ⟨B, hB⟩ : ∃ x, wp.heap.size = x := ⟨_, rfl⟩
   have HO := m_ (show Owns (wp.alloc (.map #[] 0)) B 0 (.map []) from by rw [← hB]; exact World.ownsMap_made _ _ _ _)
   have HBl := m_ (b1_ (Below.refl wp.heap.size wp) (.map #[] 0))
   rw [hB]
   have HB := m_ hB
   clear hB
   generalize wp.alloc (.map #[] 0) = wm at *
   go_wp2
   go_loopw [10] (fun v10 wr => ∃ (i : Nat) (D : DataW Unit) (seen : List S48), i ≤ lp.length ∧ v10 = .int .i64 (i : Int) ∧ A_ (Owns wr B i D) ∧ A_ (Seen D seen) ∧ A_ (Maps.size D + newN seen (lp.drop i) = newN [] lp) ∧ A_ (Below wp.heap.size wp wr)) (fun v10 _ => lp.length - (intOf v10).toNat)
   case atStart => exact ⟨0, .map [], [], Nat.zero_le _, rfl, HO, ⟨Seen.nil⟩, ⟨by simp [Maps.size]⟩, HBl⟩
   case round =>
    clear HO HBl
    obtain ⟨i, D, seen, hi, rfl, HO, HSe, HS, HBl⟩ := hrel
    by_cases hlt : i < lp.length
    case pos =>
     have h16 : (i : Int) ≤ 16 := by have := HG.out.1; omega
     have hbz := HBl.out
     have hC := Kd.C_below rl.out hbz
     obtain ⟨ad, ee, y0, y1, _⟩ := at_T52 hC (i : Int) (by omega) (by omega)
     subst ee
     simp only [Int.toNat_natCast] at y0 y1
     have hx : a5_ lp (i : Int) = lp[i] := by simp [a5_, List.getD_eq_getElem?_getD, List.getElem?_eq_getElem hlt]
     rw [hx] at y0 y1
     have hsz := HS.out
     rw [List.drop_eq_getElem_cons hlt, newN] at hsz
     have hw := HG.out.2.2 _ (List.getElem_mem hlt)
     have hp0 : wp.cell? (ad.add (i * 4)) = some (.int .i64 (lp[i]).f0.f0) ∧ wp.cell? ⟨(ad.add (i * 4)).block, (ad.add (i * 4)).off + 1, none⟩ = some (.int .i64 (lp[i]).f0.f1) := by
      obtain ⟨ad2, e2, z0, z1, _⟩ := at_T52 rl.out (i : Int) (by omega) (by omega)
      obtain rfl : ad = ad2 := (by injection e2)
      simp only [Int.toNat_natCast] at z0 z1
      rw [hx] at z0 z1
      exact ⟨z0, z1⟩
     generalize lp[i] = x at *
     obtain ⟨kl, hkl⟩ := spotOf hw
     obtain ⟨c, sv, v0, w1, e1, e2, hg1, e4, w2, e3, ho2, hg2⟩ := entryUp (show Owns wr.drew B i D from World.ownsMap.drew HO.out) (by unfold maxLen; omega) hkl
     unfold spotV at e1 e2 e4
     obtain ⟨hs2, hz2⟩ := Seen.put HSe.out HO.out hkl (.lit (.int .i64 (wrap64 (c + 1))))
     have hle : ∀ j, some B = some j → wp.heap.size ≤ j := fun j hj => by cases hj; exact Nat.le_of_eq HB.out
     have hbd : Below wp.heap.size wp wr.drew := b4_ hbz
     have hb1 := hbd.grown hg1 hbd.size hle
     have HC1 := m_ (show w1.cell? (ad.add (i * 4)) = some (.int .i64 x.f0.f0) ∧ w1.cell? ⟨(ad.add (i * 4)).block, (ad.add (i * 4)).off + 1, none⟩ = some (.int .i64 x.f0.f1) from ⟨d6_ hb1 hp0.1, d6_ hb1 hp0.2⟩)
     have HB2 := m_ (hbd.grown hg2 hbd.size hle)
     have HO2 := m_ ho2
     have HSe2 := m_ hs2
     have HS2 : A_ (Maps.size (D.put kl (.lit (.int .i64 (wrap64 (c + 1))))) + newN (x.f0 :: seen) (lp.drop (i + 1)) = newN [] lp) := ⟨by rw [hz2]; omega⟩
     have HLT := m_ hlt
     have hlt' : (i : Int) < lp.length := by omega
     have h0i : 0 ≤ (i : Int) := by omega
     clear hx hsz hw hp0 hkl hs2 hz2 hle hbd hb1 hg1 hg2 ho2 hbz hC hlt hi
     go_upto_region 12 with (fail)
     refine start_ (n := 11) (S := fun w' => w'.cell? (ad.add (i * 4)) = some (.int .i64 x.f0.f0) ∧ w'.cell? ⟨(ad.add (i * 4)).block, (ad.add (i * 4)).off + 1, none⟩ = some (.int .i64 x.f0.f1)) (ds := [10]) (bm 11 0) (by kernel_rfl) rfl rfl ⟨y0, y1⟩ (fun hHeld => ?_)
     refine with_tabW R13.tab12 R13.bits12 (fun HT_ HW_ => ?_)
     generalize wr.drew = wz at *
     refine pu 0 (some 43) (bm 11 1) ?_
     refine pu 1 (some 44) (bm 11 3) ?_
     refine pu 2 (some 45) (bm 11 7) ?_
     refine pu 3 (some 46) (bm 11 15) ?_
     refine pu 4 (some 47) (bm 11 31) ?_
     refine tk 5 (some 48) (bm 11 63) ?_
     refine two_ (i := 6) (j := 8) (Ni := some 49) (Nj := some 51) (bm 11 127) (bm 11 319) rfl rfl rfl rfl (two_of HT_.out (by kernel_rfl)) (by decide) (by decide) (fun K hK => ?_) (fun K hK => ?_)
     ·skip
      refine value_ (w1 := ?_) (v := ?_) (by rfl) rfl ?_ ?_
      rotate_left 2
      ·go_simp
       constructor
       ·rfl
       ·rfl
      refine hK.out _ _ hHeld (fun hHeld => ?_)
      clear hK K
      refine norm_ (a' := ?_) ?_ ?_
      rotate_left
      ·show Act.put _ (some 49) _ = _
       simp only [Act.put, List.setIfInBounds_toArray, List.set_cons_zero, List.set_cons_succ, i64_w, i32_w]
       rfl
      refine pu 7 (some 50) (bm 11 255) ?_
      refine one_ (i := 8) (N := some 51) (bm 11 511) rfl rfl (one_of HT_.out (by kernel_rfl)) (by decide) (fun K hK => ?_)
      refine value_ (w1 := ?_) (v := ?_) (by rfl) rfl ?_ ?_
      rotate_left 2
      ·go_simp
       constructor
       ·rfl
       ·rfl
      refine hK.out _ _ HC1.out (fun hHeld => ?_)
      clear hK K
      refine norm_ (a' := ?_) ?_ ?_
      rotate_left
      ·show Act.put _ (some 51) _ = _
       simp only [Act.put, List.setIfInBounds_toArray, List.set_cons_zero, List.set_cons_succ, i64_w, i32_w]
       rfl
      refine pu 9 (some 52) (bm 11 1023) ?_
      refine last_ (i := 10) (N := none) (bm 11 2047) rfl rfl (one_of HT_.out (by kernel_rfl)) (by decide) (fun K hK => ?_)
      refine skip_ (w1 := ?_) (by rfl) rfl ?_ ?_
      rotate_left
      ·go_simp
       rfl
      refine hK.out _ _ ?_
      clear hK K
      refine done_ (done_of HT_.out (by kernel_rfl)) ?_
      clear HC1 HT_ HW_ y0 y1
      go_wp2
      go_roundw
      case rel => exact ⟨i + 1, _, x.f0 :: seen, HLT.out, by go_num, HO2, HSe2, HS2, HB2⟩
      case measure => have := HLT.out; simp [intOf]; omega
     ·skip
      refine value_ (w1 := ?_) (v := ?_) (by rfl) rfl ?_ ?_
      rotate_left 2
      ·go_simp
       constructor
       ·rfl
       ·rfl
      refine hK.out _ _ HC1.out (fun hHeld => ?_)
      clear hK K
      refine norm_ (a' := ?_) ?_ ?_
      rotate_left
      ·show Act.put _ (some 51) _ = _
       simp only [Act.put, List.setIfInBounds_toArray, List.set_cons_zero, List.set_cons_succ, i64_w, i32_w]
       rfl
      refine pu 9 (some 52) (bm 11 831) ?_
      refine one_ (i := 6) (N := some 49) (bm 11 895) rfl rfl (one_of HT_.out (by kernel_rfl)) (by decide) (fun K hK => ?_)
      refine value_ (w1 := ?_) (v := ?_) (by rfl) rfl ?_ ?_
      rotate_left 2
      ·go_simp
       constructor
       ·rfl
       ·rfl
      refine hK.out _ _ HC1.out (fun hHeld => ?_)
      clear hK K
      refine norm_ (a' := ?_) ?_ ?_
      rotate_left
      ·show Act.put _ (some 49) _ = _
       simp only [Act.put, List.setIfInBounds_toArray, List.set_cons_zero, List.set_cons_succ, i64_w, i32_w]
       rfl
      refine pu 7 (some 50) (bm 11 1023) ?_
      refine last_ (i := 10) (N := none) (bm 11 2047) rfl rfl (one_of HT_.out (by kernel_rfl)) (by decide) (fun K hK => ?_)
      refine skip_ (w1 := ?_) (by rfl) rfl ?_ ?_
      rotate_left
      ·go_simp
       rfl
      refine hK.out _ _ ?_
      clear hK K
      refine done_ (done_of HT_.out (by kernel_rfl)) ?_
      clear HC1 HT_ HW_ y0 y1
      go_wp2
      go_roundw
      case rel => exact ⟨i + 1, _, x.f0 :: seen, HLT.out, by go_num, HO2, HSe2, HS2, HB2⟩
      case measure => have := HLT.out; simp [intOf]; omega
    obtain rfl : i = lp.length := by omega
    have hsz := HS.out
    rw [List.drop_length, newN, Nat.add_zero] at hsz
    have HSZ := m_ hsz
    have hlen := World.ownsMap.len HO.out und70
    rw [hsz] at hlen
    clear hsz HS HSe hlt hi
    have be : Be w wr := ⟨a6_ bep.out HBl.out⟩
    have b4 : Bx wr g4 #[.int .i64 a1_0, .int .i64 a1_1, .int .i64 a1_2, .int .i64 a1_3] 27 := ⟨a1_ b4p.out HBl.out⟩
    have HBq := m_ (show B < wr.heap.size from World.ownsMap.lt HO.out)
    clear HBl hlen b4p bep rl
    obtain ⟨wo, hwo⟩ : ∃ x, x = wr := ⟨_, rfl⟩
    subst hwo
    go_upto_region 14 with (fail)
    obtain ⟨gf, wq, _, _, _, e1, e2⟩ := nameA wo (ftA ft0) 3
    rw [e1, e2]
    clear e1 e2
    have HOq := m_ (Owns.bl HO.out (Bl.out (W' := wq)))
    have HNE := m_ (show B ≠ gf from by have := HBq.out; have := Fr.out (W := wo) (g := gf); omega)
    have bf : Bx wq gf (ftA ft0) 3 := inferInstance
    have beq : Be w wq := inferInstance
    have b4q : Bx wq g4 #[.int .i64 a1_0, .int .i64 a1_1, .int .i64 a1_2, .int .i64 a1_3] 27 := inferInstance
    have hne4 : Nq g4 gf := inferInstance
    have hge : Ge w gf := inferInstance
    clear HO HBq
    go_wp2
    go_loopw [12] (fun v12 wr => ∃ (i : Nat) (fx : List Int), i ≤ l0.length ∧ v12 = .int .i64 (i : Int) ∧ A_ (fitsL k a1_0 a1_1 a1_2 a1_3 (l0.drop i) fx = some ft) ∧ A_ (fx.length = 17) ∧ A_ (Owns wr B lp.length D) ∧ Bx wr gf (ftA fx) 3 ∧ Bx wr g4 #[.int .i64 a1_0, .int .i64 a1_1, .int .i64 a1_2, .int .i64 a1_3] 27 ∧ Be w wr) (fun v12 _ => l0.length - (intOf v12).toNat)
    case atStart => exact ⟨0, _, Nat.zero_le _, rfl, HF, ⟨by simp [ft0]⟩, HOq, bf, b4q, beq⟩
    case round =>
     clear HF HOq
     obtain ⟨i, fx, hi, rfl, HFx, HL, HO, bf, b4, be⟩ := hrel
     by_cases hlt : i < l0.length
     case pos =>
      have h70 : (i : Int) ≤ 70 := by have := HG.out.2.1; omega
      obtain ⟨ad, ee, y0, y1, y2, y3⟩ := at_T51 (Kd.C_below hr0 be.out) (i : Int) (by omega) (by omega)
      subst ee
      simp only [Int.toNat_natCast] at y0 y1 y2 y3
      have hx : a4_ l0 (i : Int) = l0[i] := by simp [a4_, List.getD_eq_getElem?_getD, List.getElem?_eq_getElem hlt]
      rw [hx] at y0 y1 y2 y3
      have hh := HFx.out
      rw [List.drop_eq_getElem_cons hlt] at hh
      generalize l0[i] = x at *
      rw [fitsL] at hh
      replace hh := bindS hh
      obtain ⟨n, hN, hh⟩ := hh
      by_cases hn : 0 ≤ n ∧ n < 17
      case neg => rw [if_neg hn] at hh; cases hh
      rw [if_pos hn] at hh
      have HN := m_ hN
      have HF3h := hh
      have hn0 := hn.1
      have hn17 := hn.2
      have hcf : (ftA fx)[n.toNat]? = some (.int .i64 (fx.getD n.toNat 0)) := ftA_get (by have := HL.out; omega)
      obtain ⟨cv, hcv⟩ : ∃ z, z = fx.getD n.toNat 0 := ⟨_, rfl⟩
      rw [← hcv] at hcf HF3h
      have HF3 := m_ HF3h
      clear hcv HF3h
      have HLT := m_ hlt
      have hlt' : (i : Int) < l0.length := by omega
      have h0i : 0 ≤ (i : Int) := by omega
      clear hx hN hh hn hlt hi HFx
      go_upto_region 17 with (fail)
      refine start_ (n := 12) (S := fun w' => w'.cell? ⟨g4, 0, none⟩ = some (.int .i64 a1_0) ∧ w'.cell? ⟨g4, 1, none⟩ = some (.int .i64 a1_1) ∧ w'.cell? ⟨g4, 2, none⟩ = some (.int .i64 a1_2) ∧ w'.cell? ⟨g4, 3, none⟩ = some (.int .i64 a1_3) ∧ w'.cell? (ad.add (i * 4)) = some (.int .i64 x.f0.f0) ∧ w'.cell? ⟨(ad.add (i * 4)).block, (ad.add (i * 4)).off + 1, none⟩ = some (.int .i64 x.f0.f1) ∧ w'.cell? ⟨(ad.add (i * 4)).block, (ad.add (i * 4)).off + 2, none⟩ = some (.int .u64 x.f1) ∧ w'.cell? ⟨(ad.add (i * 4)).block, (ad.add (i * 4)).off + 3, none⟩ = some (.int .i64 x.f2) ∧ w'.cell? ⟨gf, n.toNat, none⟩ = some (.int .i64 cv)) (ds := [11]) (bm 12 0) (by kernel_rfl) rfl rfl ⟨(cellBx _).trans rfl, (cellBx _).trans rfl, (cellBx _).trans rfl, (cellBx _).trans rfl, y0, y1, y2, y3, (cellBx _).trans hcf⟩ (fun hHeld => ?_)
      refine with_tabW R13.tab17 R13.bits17 (fun HT_ HW_ => ?_)
      have bb : Bx wr.drew gf (ftA fx) 3 ∧ Bx wr.drew g4 #[.int .i64 a1_0, .int .i64 a1_1, .int .i64 a1_2, .int .i64 a1_3] 27 ∧ Be w wr.drew := ⟨inferInstance, inferInstance, inferInstance⟩
      have HOz : A_ (Owns wr.drew B lp.length D) := ⟨HO.out⟩
      generalize wr.drew = wz at bb HOz hHeld ⊢
      obtain ⟨_, _, _⟩ := bb
      refine pu 0 (some 60) (bm 12 1) ?_
      refine tk 1 (some 61) (bm 12 3) ?_
      refine pu 2 (some 62) (bm 12 7) ?_
      refine pu 3 (some 63) (bm 12 15) ?_
      refine pu 4 (some 64) (bm 12 31) ?_
      refine tk 5 (some 65) (bm 12 63) ?_
      refine one_ (i := 6) (N := some 66) (bm 12 127) rfl rfl (one_of HT_.out (by kernel_rfl)) (by decide) (fun K hK => ?_)
      refine goes_ Try.func47 (by kernel_rfl) rfl #[.agg #[.int .i64 a1_0, .int .i64 a1_1, .int .i64 a1_2, .int .i64 a1_3], .agg #[.int .i64 x.f0.f0, .int .i64 x.f0.f1, .int .u64 x.f1, .int .i64 x.f2]] (by rfl) rfl rfl Z0 ?_
      refine (ensembleref04_Fits.calls _ _ _ _ _ _ _ _ _ _ _ HN.out).mono ?_
      rintro e wy ⟨rfl, hb⟩
      have := Bl.mk hb
      clear hb
      refine ⟨_, rfl, ?_⟩
      refine hK.out _ _ ⟨(cellBx _).trans rfl, (cellBx _).trans rfl, (cellBx _).trans rfl, (cellBx _).trans rfl, d6_ Bl.out hHeld.2.2.2.2.1, d6_ Bl.out hHeld.2.2.2.2.2.1, d6_ Bl.out hHeld.2.2.2.2.2.2.1, d6_ Bl.out hHeld.2.2.2.2.2.2.2.1, d6_ Bl.out hHeld.2.2.2.2.2.2.2.2⟩ (fun hHeld => ?_)
      clear hK K
      refine norm_ (a' := ?_) ?_ ?_
      rotate_left
      ·show Act.put _ (some 66) _ = _
       simp only [Act.put, List.setIfInBounds_toArray, List.set_cons_zero, List.set_cons_succ, i64_w, i32_w]
       rfl
      refine pu 7 (some 67) (bm 12 255) ?_
      refine tk 8 (some 68) (bm 12 511) ?_
      refine pu 9 (some 69) (bm 12 1023) ?_
      refine pu 10 (some 70) (bm 12 2047) ?_
      refine last_ (i := 11) (N := none) (bm 12 4095) rfl rfl (one_of HT_.out (by kernel_rfl)) (by decide) (fun K hK => ?_)
      refine skip_ (w1 := ?_) (by rfl) rfl ?_ ?_
      rotate_left
      ·go_simp
       rfl
      refine hK.out _ _ ?_
      clear hK K
      refine done_ (done_of HT_.out (by kernel_rfl)) ?_
      have bf2 : Bx (wy.setCell ⟨gf, n.toNat, none⟩ (.int .i64 (wrap64 (cv + 1)))) gf (ftA (fx.set n.toNat (wrap64 (cv + 1)))) 3 := by rw [← ftA_set]; exact bxSetS
      have b42 : Bx (wy.setCell ⟨gf, n.toNat, none⟩ (.int .i64 (wrap64 (cv + 1)))) g4 #[.int .i64 a1_0, .int .i64 a1_1, .int .i64 a1_2, .int .i64 a1_3] 27 := inferInstance
      have be2 : Be w (wy.setCell ⟨gf, n.toNat, none⟩ (.int .i64 (wrap64 (cv + 1)))) := inferInstance
      have HO2 := m_ (show Owns (wy.setCell ⟨gf, n.toNat, none⟩ (.int .i64 (wrap64 (cv + 1)))) B lp.length D from World.ownsMap.setCell (Owns.bl HOz.out (Bl.out (W' := wy))) HNE.out _)
      have HL2 : A_ ((fx.set n.toNat (wrap64 (cv + 1))).length = 17) := ⟨by rw [List.length_set]; exact HL.out⟩
      generalize wy.setCell ⟨gf, n.toNat, none⟩ (.int .i64 (wrap64 (cv + 1))) = wx at *
      clear HOz HO HL HT_ HW_ HN y0 y1 y2 y3 hcf
      go_wp2
      go_roundw
      case rel => exact ⟨i + 1, _, HLT.out, by go_num, HF3, HL2, HO2, bf2, b42, be2⟩
      case measure => have := HLT.out; simp [intOf]; omega
     obtain rfl : i = l0.length := by omega
     have hh := HFx.out
     rw [List.drop_length, fitsL] at hh
     obtain rfl := Option.some.inj hh
     have hlen := World.ownsMap.len HO.out und70
     rw [HSZ.out] at hlen
     have hle : newN [] lp ≤ 16 := by have := newN_le lp []; have := HG.out.1; omega
     clear hh HFx hlt hi
     obtain ⟨wo, hwo⟩ : ∃ x, x = wr := ⟨_, rfl⟩
     subst hwo
     obtain ⟨dn, hdn⟩ : ∃ x, x = newN [] lp := ⟨_, rfl⟩
     rw [← hdn] at hlen hle
     have HDN := m_ hdn
     clear hdn
     go_upto_region 21 with (fail)
     clear hlen HO b4
     obtain ⟨R, hR⟩ : ∃ R, outL 16 fx (wrap64 ((dn : Int) - 1)) 0 = R := ⟨_, rfl⟩
     have hR2 : outL 16 fx ((dn : Int) - 1) 0 = R := by rw [← hR, w_id (by omega)]
     have HRR := m_ hR2
     have HRF := m_ (show decide (R.2 < a2) = r from by rw [← HRR0.out, ← HDN.out, hR])
     clear hR hR2 HRR0
     go_wp2
     go_loopg [13, 14, 15] 16 (fun n v13 v14 v15 w' => ∃ left sum : Int, v13 = .int .i64 left ∧ v14 = .int .i64 sum ∧ v15 = .int .i64 (n : Int) ∧ A_ (outL n fx left sum = R) ∧ A_ (n ≤ 16) ∧ Bx w' gf (ftA fx) 3 ∧ Be w w')
     case atStart => exact ⟨_, _, rfl, rfl, rfl, HRR, ⟨Nat.le_refl _⟩, inferInstance, inferInstance⟩
     case round =>
      clear HRR
      obtain ⟨left, sum, rfl, rfl, rfl, HA, HN, bf, be⟩ := hrel
      cases gk with
      | zero =>
       have hh := HA.out
       rw [outL] at hh
       have hr := HRF.out
       rw [← hh] at hr
       simp only at hr
       try clear hr_
       subst hr
       clear hh HA HRF
       go_wp2
       go_ret
       exact ⟨rfl, Be.out⟩
      | succ n =>
       have hh := HA.out
       rw [outL] at hh
       obtain ⟨m, hm⟩ : ∃ m : Int, m = ((n + 1 : Nat) : Int) := ⟨_, rfl⟩
       rw [← hm] at hh ⊢
       have hm1 : 0 < m := by omega
       have hm16 : m ≤ 16 := by have := HN.out; omega
       by_cases hl : left > 0
       case neg =>
        rw [if_neg hl] at hh
        have hr := HRF.out
        rw [← hh] at hr
        simp only at hr
        try clear hr_
        subst hr
        have q : decide (0 < left) = false := decide_eq_false hl
        clear hh hl hm HA HRF
        go_wp2
        go_ret
        exact ⟨rfl, Be.out⟩
       rw [if_pos hl] at hh
       have q : decide (0 < left) = true := decide_eq_true hl
       have HM := m_ hm
       have HA2 := m_ hh
       clear hl hm hh HA
       obtain ⟨c, hc⟩ : ∃ c, c = (fx.getD (n + 1) 0).toNat := ⟨_, rfl⟩
       rw [← hc] at HA2
       have hv : fx.getD (n + 1) 0 ≤ 70 := getD_le HX.out
       obtain ⟨v, hvv⟩ : ∃ v, v = fx.getD (n + 1) 0 := ⟨_, rfl⟩
       have hcv : (c : Int) = max v 0 := by rw [hc, ← hvv]; omega
       have HCV := m_ hcv
       have HCE := m_ (show (ftA fx)[m.toNat]? = some (.int .i64 v) from by rw [HM.out, Int.toNat_natCast, hvv]; exact ftA_get (by have := HL.out; have := HN.out; omega))
       have HV70 := m_ (show v ≤ 70 by rw [hvv]; exact hv)
       clear hv hvv hcv hc
       obtain ⟨wo2, hwo2⟩ : ∃ x, x = wr := ⟨_, rfl⟩
       subst hwo2
       go_wp2
       go_loopg [13, 14, 16] c (fun j v13 v14 v16 w' => ∃ (lf sm kk : Int), v13 = .int .i64 lf ∧ v14 = .int .i64 sm ∧ v16 = .int .i64 kk ∧ A_ (kk + j = c ∧ 0 ≤ kk) ∧ A_ (outL n fx (inL j m lf sm).1 (inL j m lf sm).2 = R) ∧ Bx w' gf (ftA fx) 3 ∧ Be w w')
       case atStart => exact ⟨_, _, 0, rfl, rfl, rfl, ⟨by omega⟩, HA2, inferInstance, inferInstance⟩
       case round =>
        clear HA2 q
        obtain ⟨lf, sm, kk, rfl, rfl, rfl, HJ, HA3, bf, be⟩ := hrel
        have hce : wr.cell? ⟨gf, m.toNat, none⟩ = some (.int .i64 v) := (cellBx _).trans HCE.out
        have hh := HA3.out
        have hj := HJ.out
        have hcv := HCV.out
        cases gk with
        | zero =>
         rw [inL] at hh
         have q : decide (kk < v) = false := decide_eq_false (by omega)
         clear hj hcv
         have HA4 := m_ hh
         clear hh HA3
         go_wp2
         go_roundg n
         case measure => exact Nat.lt_succ_self _
         case rel => exact ⟨_, _, rfl, rfl, by have h1 := HM.out; have h2 : m - 1 = (n : Int) := (by omega); rw [h2], HA4, ⟨by have := HN.out; omega⟩, inferInstance, inferInstance⟩
        | succ j =>
         rw [inL] at hh
         have q1 : decide (kk < v) = true := decide_eq_true (by omega)
         have hkb : kk ≤ 1000 := by have := HV70.out; omega
         have hk0 : 0 ≤ kk := hj.2
         have HJ2 := m_ (show kk + 1 + (j : Int) = c ∧ 0 ≤ kk + 1 by omega)
         clear hj hcv
         by_cases hl : lf > 0
         case neg =>
          rw [if_neg hl] at hh
          have q : decide (0 < lf) = false := decide_eq_false hl
          clear hl
          have HA4 := m_ hh
          clear hh HA3
          go_wp2
          go_roundg n
          case measure => exact Nat.lt_succ_self _
          case rel => exact ⟨_, _, rfl, rfl, by have h1 := HM.out; have h2 : m - 1 = (n : Int) := (by omega); rw [h2], HA4, ⟨by have := HN.out; omega⟩, inferInstance, inferInstance⟩
         rw [if_pos hl] at hh
         have q : decide (0 < lf) = true := decide_eq_true hl
         have HA4 := m_ hh
         clear hl hh HA3
         go_wp2
         go_roundg j
         case measure => exact Nat.lt_succ_self _
         case rel => exact ⟨_, _, kk + 1, rfl, rfl, by go_num, HJ2, HA4, inferInstance, inferInstance⟩
end Go.Proofs.Ytckhjehibjdjdaa.P
namespace Go.Proofs.Ytckhjehibjdjdaa.Ob
open Go.RowKit Go.Deep Go.Proofs.YtckhjehibjdjdaaW.PrintWords Go.WideShapes
def Opens {α : Type} (P : Program) (t : TypeId) (d : Kd α) (wf : α → Prop) : Prop :=
 ∀ (H : Type) (enc : TypeId × Value → H) (W : World) (base : Nat) (spare : Nat → Bool) (held : Bool) (fuel : Nat) (cs : List Value) (x : DataW H × List MemPlace),
  DataW.trod enc P W base spare held fuel t cs = some x → ∃ a, d.K W a cs ∧ wf a
variable {P : Program} {t e : TypeId}
theorem Opens.int {k : IntKind} (ht : P.underlying t = some (.int k)) : Opens P t (Kd.int k) (fun n => (Lit.int k n).wf = true) := by
 intro H enc W base spare held fuel cs x h
 obtain ⟨n, rfl, _, hw⟩ := DataW.trod_int ht h
 exact ⟨n, rfl, hw⟩
theorem Opens.bool (ht : P.underlying t = some .bool) : Opens P t Kd.bool (fun _ => True) := by
 intro H enc W base spare held fuel cs x h
 obtain ⟨b, rfl, _⟩ := DataW.trod_bool ht h
 exact ⟨b, rfl, trivial⟩
theorem Opens.slice {α : Type} {d : Kd α} {wf : α → Prop} (ht : P.underlying t = some (.slice e)) (hsz : P.cellsOf e = d.sz) (he : Opens P e d wf) :
  Opens P t (Kd.slice e d) (fun xs => xs.length ≤ maxLen ∧ ∀ x ∈ xs, wf x) := by
 intro H enc W base spare held fuel cs x h
 rcases open_slice ht h with ⟨rfl, _⟩ | ⟨a, len, cap, m, n, D, Pl, rfl, _, hl, hm, hmm, hxx, hx⟩
 ·exact ⟨[], ⟨none, 0, rfl, Nat.le_refl _, rfl, by simp, fun h => absurd h (by simp)⟩, by simp [maxLen], fun x hx => by simp at hx⟩
 ·have hlm : len ≤ m := by rw [hmm]; split <;> omega
  have hx' : ∀ i, i < len → ∃ (y : α) (c : List Value), d.K W y c ∧ wf y ∧ c.length = d.sz ∧ ∀ j u, c[j]? = some u → W.cell? (a.add (i * d.sz + j)) = some u := by
   intro i hi
   obtain ⟨c, h1, h2⟩ := hx i (by omega)
   obtain ⟨y, hK, hw⟩ := he H enc W base spare held n c _ h2
   obtain ⟨_, h3, h4⟩ := World.cells?_some h1
   refine ⟨y, c, hK, hw, d.K_len hK, fun j u hu => ?_⟩
   have hj : j < c.length := by
    rcases Nat.lt_or_ge j c.length with h | h
    ·exact h
    ·rw [List.getElem?_eq_none h] at hu; cases hu
   have h5 := h4 j (by omega)
   rw [Deep.add_add, hsz] at h5
   rw [h5]; exact hu
  have hall : ∃ xs : List α, xs.length = len ∧ ∀ (i : Nat) (p : α), xs[i]? = some p → ∃ c, c.length = d.sz ∧ d.K W p c ∧ wf p ∧ ∀ j u, c[j]? = some u → W.cell? (a.add (i * d.sz + j)) = some u := by
   clear hx hm hl hmm hlm h hxx
   induction len with
   | zero => exact ⟨[], rfl, fun i p hp => by simp at hp⟩
   | succ len ih =>
    obtain ⟨xs, hxl, hxs⟩ := ih (fun i hi => hx' i (by omega))
    obtain ⟨y, c, hK, hw, hcl, hc⟩ := hx' len (by omega)
    refine ⟨xs ++ [y], by simp [hxl], fun i p hp => ?_⟩
    rcases Nat.lt_or_ge i xs.length with h | h
    ·rw [List.getElem?_append_left h] at hp
     exact hxs i p hp
    ·have hi : i = xs.length := by
      have := (List.getElem?_eq_some_iff.1 hp).1
      rw [List.length_append, List.length_singleton] at this
      omega
     subst hi
     have hp' : y = p := by simpa using hp
     subst hp'
     exact ⟨c, hcl, hK, hw, by rw [hxl]; exact hc⟩
  obtain ⟨xs, hxl, hxs⟩ := hall
  refine ⟨xs, ⟨some a, cap, by rw [hxl], by omega, rfl, by rw [hxl]; simp only [maxLen] at hm; omega, fun _ => ⟨a, rfl, fun j p hp => ?_⟩⟩, by rw [hxl]; omega, fun x hx => ?_⟩
  ·obtain ⟨c, h1, h2, _, h3⟩ := hxs j p hp
   exact ⟨c, h1, h2, h3⟩
  ·obtain ⟨i, hi, rfl⟩ := List.getElem_of_mem hx
   obtain ⟨_, _, _, h, _⟩ := hxs i _ (List.getElem?_eq_getElem hi)
   exact h
def OpensAt {α : Type} (P : Program) (fs : List (Nat × TypeId)) (off : Nat) (d : Kd α) (wf : α → Prop) : Prop :=
 ∀ (H : Type) (enc : TypeId × Value → H) (W : World) (base : Nat) (spare : Nat → Bool) (held : Bool) (fuel : Nat) (cs : List Value), cs.length = off + d.sz →
  (∀ f, f ∈ fs → ∃ x, DataW.trod enc P W base spare held fuel f.2 ((cs.drop f.1).take (P.cellsOf f.2)) = some x) → ∃ a, d.K W a (cs.drop off) ∧ wf a
theorem OpensAt.last {α : Type} {d : Kd α} {wf : α → Prop} {off : Nat} (h : Opens P t d wf) (hsz : P.cellsOf t = d.sz) : OpensAt P [(off, t)] off d wf := by
 intro H enc W base spare held fuel cs hl hf
 obtain ⟨x, hx⟩ := hf (off, t) (by simp)
 rw [hsz, List.take_of_length_le (by rw [List.length_drop]; omega)] at hx
 exact h H enc W base spare held fuel _ x hx
theorem OpensAt.cons {α β : Type} {d : Kd α} {wf : α → Prop} {d' : Kd β} {wf' : β → Prop} {off off' : Nat} {fs : List (Nat × TypeId)} (h : Opens P t d wf) (hsz : P.cellsOf t = d.sz) (ho : off' = off + d.sz)
  (h' : OpensAt P fs off' d' wf') : OpensAt P ((off, t) :: fs) off (Kd.pair d d') (fun x => wf x.1 ∧ wf' x.2) := by
 intro H enc W base spare held fuel cs hl hf
 obtain ⟨x, hx⟩ := hf (off, t) (by simp)
 have hl' : cs.length = off' + d'.sz := by rw [hl, ho]; show off + (d.sz + d'.sz) = _; omega
 obtain ⟨a, hK, hw⟩ := h H enc W base spare held fuel _ x hx
 obtain ⟨b, hK', hw'⟩ := h' H enc W base spare held fuel cs hl' (fun f hf' => hf f (by simp [hf']))
 refine ⟨(a, b), ⟨_, _, ?_, hK, hK'⟩, hw, hw'⟩
 rw [hsz, ho, ← List.drop_drop, List.take_append_drop]
theorem Opens.struct {α β : Type} {d : Kd β} {wf : β → Prop} {fs : Array Field} {l : List (Nat × TypeId)} (ht : P.underlying t = some (.struct fs)) (hl : fs.toList.map (fun f => (f.offset, f.type)) = l) (hsz : P.cellsOf t = d.sz)
  (h : OpensAt P l 0 d wf) (f : α → β) (g : β → α) (hfg : ∀ b, f (g b) = b) : Opens P t (Kd.iso d f) (fun x => wf (f x)) := by
 intro H enc W base spare held fuel cs x hx
 obtain ⟨xs, n, _, _, hcl, hxl, hfs⟩ := DataW.trod_struct ht hx
 obtain ⟨b, hK, hw⟩ := h H enc W base spare held n cs (by rw [hcl, hsz]; omega) (fun p hp => by
  rw [← hl] at hp
  obtain ⟨fd, hfd, rfl⟩ := List.mem_map.1 hp
  obtain ⟨i, hi, rfl⟩ := List.getElem_of_mem hfd
  have := hfs i fs.toList[i] (by simp)
  rw [List.getElem?_eq_getElem (by rw [hxl]; simpa using hi)] at this
  exact ⟨_, this⟩)
 exact ⟨g b, by show d.K W (f (g b)) cs; rw [hfg]; simpa using hK, by show wf (f (g b)); rw [hfg]; exact hw⟩
theorem Opens.imp {α : Type} {d : Kd α} {wf wf' : α → Prop} (h : Opens P t d wf) (hi : ∀ a, wf a → wf' a) : Opens P t d wf' := fun H enc W base spare held fuel cs x hx =>
 let ⟨a, h1, h2⟩ := h H enc W base spare held fuel cs x hx; ⟨a, h1, hi a h2⟩
theorem Opens.open {α : Type} {d : Kd α} {wf : α → Prop} (h : Opens P t d wf) {H : Type} {enc : TypeId × Value → H} {W : World} {base : Nat} {spare : Nat → Bool} {held : Bool} {v : Value} {y : DataW H} {p : List MemPlace}
  (hv : DataW.Trod enc P W base spare held t v y p) : ∃ a, d.K W a v.cells.toList ∧ wf a := by
 obtain ⟨fuel, hf⟩ := hv
 exact h H enc W base spare held fuel _ _ hf
end Go.Proofs.Ytckhjehibjdjdaa.Ob
namespace Go.Proofs.Ytckhjehibjdjdaa.P
open Go.RowKit Go.Proofs.Ytckhjehibjdjdaa.Ob Go.Proofs.YtckhjehibjdjdaaW.PrintWords
def I64 (x : Int) : Prop := -9223372036854775808 ≤ x ∧ x ≤ 9223372036854775807
def U64 (x : Int) : Prop := 0 ≤ x ∧ x ≤ 18446744073709551615
theorem i64_of {x : Int} (h : (Lit.int .i64 x).wf = true) : I64 x := by unfold I64; simp [Lit.wf, IntKind.min, IntKind.max, IntKind.bits, IntKind.signed] at h; omega
theorem u64_of {x : Int} (h : (Lit.int .u64 x).wf = true) : U64 x := by unfold U64; simp [Lit.wf, IntKind.min, IntKind.max, IntKind.bits, IntKind.signed] at h; omega
theorem o_i64 {t : TypeId} (h : Try.prog.underlying t = some (.int .i64)) : Opens Try.prog t (Kd.int .i64) I64 := (Opens.int h).imp fun _ h => i64_of h
theorem o_u64 {t : TypeId} (h : Try.prog.underlying t = some (.int .u64)) : Opens Try.prog t (Kd.int .u64) U64 := (Opens.int h).imp fun _ h => u64_of h
def wfd48 (x : S48) : Prop := I64 x.f0 ∧ I64 x.f1
theorem o48 : Opens Try.prog 48 k48 wfd48 := (Opens.struct Try.underlying48 rfl (by kernel_rfl) (OpensAt.cons (o_i64 Try.underlying3) (by kernel_rfl) rfl (OpensAt.last (o_i64 Try.underlying3) (by kernel_rfl))) _ (fun p => (⟨p.1, p.2⟩ : S48)) (fun _ => rfl)).imp (fun _ h => h)
def wfd51 (x : S51) : Prop := wfd48 x.f0 ∧ U64 x.f1 ∧ I64 x.f2
theorem o51 : Opens Try.prog 51 k51 wfd51 := (Opens.struct Try.underlying51 rfl (by kernel_rfl) (OpensAt.cons (o48) (by kernel_rfl) rfl (OpensAt.cons (o_u64 Try.underlying49) (by kernel_rfl) rfl (OpensAt.last (o_i64 Try.underlying3) (by kernel_rfl)))) _ (fun p => (⟨p.1, p.2.1, p.2.2⟩ : S51)) (fun _ => rfl)).imp (fun _ h => h)
def wfd27 (x : S27) : Prop := I64 x.f0 ∧ I64 x.f1 ∧ I64 x.f2 ∧ I64 x.f3
theorem o27 : Opens Try.prog 27 k27 wfd27 := (Opens.struct Try.underlying27 rfl (by kernel_rfl) (OpensAt.cons (o_i64 Try.underlying3) (by kernel_rfl) rfl (OpensAt.cons (o_i64 Try.underlying3) (by kernel_rfl) rfl (OpensAt.cons (o_i64 Try.underlying3) (by kernel_rfl) rfl (OpensAt.last (o_i64 Try.underlying3) (by kernel_rfl))))) _ (fun p => (⟨p.1, p.2.1, p.2.2.1, p.2.2.2⟩ : S27)) (fun _ => rfl)).imp (fun _ h => h)
end Go.Proofs.Ytckhjehibjdjdaa.P
namespace Go.Proofs.Ytckhjehibjdjdaa.P
open Go.RowKit Go.Proofs.YtckhjehibjdjdaaW.PrintWords Go.Proofs.YtckhjehibjdjdaaW.PrintLast Go.Proofs.YtckhjehibjdjdaaW.PrintMore
attribute [local go_sem] max2_int min2_int max_two min_two max_three min_three max_four min_four
end Go.Proofs.Ytckhjehibjdjdaa.P
namespace Go.Proofs.Ytckhjehibjdjdaa.P
open Go.RowKit Go.Proofs.YtckhjehibjdjdaaW.PrintWords Go.Proofs.YtckhjehibjdjdaaW.PrintLast Go.Proofs.YtckhjehibjdjdaaW.PrintMore
open Go.Proofs.Ytckhjehibjdjdaa.Bits Go.Proofs.Ytckhjehibjdjdaa.Mp
theorem u64_id {x : Int} (h0 : 0 ≤ x) (h1 : x < 18446744073709551616) : IntKind.u64.wrap x = x := by
 obtain ⟨n, rfl⟩ := Int.eq_ofNat_of_zero_le h0
 rw [wrapN, Nat.mod_eq_of_lt (by omega)]
theorem half_nat (M j : Nat) (hM : M < 18446744073709551616) : IntKind.u64.wrap (Int.tdiv ((M / 2 ^ j : Nat) : Int) 2) = ((M / 2 ^ (j + 1) : Nat) : Int) := by
 have h1 : M / 2 ^ (j + 1) = M / 2 ^ j / 2 := by rw [Nat.pow_succ, Nat.div_div_eq_div_mul]
 have h2 : M / 2 ^ j ≤ M := Nat.div_le_self _ _
 generalize M / 2 ^ j = a at *
 rw [h1, Int.tdiv_eq_ediv_of_nonneg (by omega), u64_id (by omega) (by omega)]
 omega
theorem has_l (M : Nat) (hM : M < 18446744073709551616) (n : Nat) : ∀ j i : Nat, j ≤ i → i - j = n → i < 64 → Ev (fun k => ensembleref01_Has.l0 k ((M / 2 ^ j : Nat) : Int) (i : Int) (j : Int)) (M.testBit i) := by
 induction n with
 | zero =>
  intro j i hj hn hi
  obtain rfl : j = i := by omega
  refine Ev.step (f := fun _ => some (M.testBit j)) (fun k => ?_) (Ev.now _)
  rw [ensembleref01_Has.l0, if_neg (by omega), if_pos (by omega), if_pos (by omega), Nat.testBit_eq_decide_div_mod_eq]
  generalize M / 2 ^ j = a
  rw [Int.tmod_eq_emod_of_nonneg (by omega)]
  congr 1
  rw [Bool.eq_iff_iff]
  simp
  omega
 | succ n ih =>
  intro j i hj hn hi
  refine Ev.step (f := fun k => ensembleref01_Has.l0 k ((M / 2 ^ (j + 1) : Nat) : Int) (i : Int) ((j + 1 : Nat) : Int)) (fun k => ?_) (ih (j + 1) i (by omega) (by omega) hi)
  rw [ensembleref01_Has.l0, if_pos (by omega), half_nat M j hM, w_id (by omega)]
  congr 1
theorem has_ev (M i : Nat) (hM : M < 18446744073709551616) (hi : i < 64) : Ev (fun k => ensembleref01_Has.f k (M : Int) (i : Int)) (M.testBit i) := by
 have := has_l M hM i 0 i (by omega) (by omega) hi
 rw [Nat.pow_zero, Nat.div_one] at this
 exact this
def posI (M : Nat) : List Int := (pos M).map fun (i : Nat) => (i : Int)
def posTo (M i : Nat) : List Int := ((List.range i).filter fun j => M.testBit j).map fun (i : Nat) => (i : Int)
theorem posTo_len (M i : Nat) : (posTo M i).length ≤ i := by
 unfold posTo; rw [List.length_map]
 exact Nat.le_trans (List.length_filter_le _ _) (by simp)
theorem units_l (M : Nat) (hM : M < 18446744073709551616) (n : Nat) : ∀ i : Nat, i ≤ 64 → 64 - i = n → Ev (fun k => ensembleref01_Units.l0 k (M : Int) (posTo M i) (i : Int)) (posI M) := by
 induction n with
 | zero =>
  intro i hi hn
  obtain rfl : i = 64 := by omega
  refine Ev.step (f := fun _ => some (posI M)) (fun k => ?_) (Ev.now _)
  rw [ensembleref01_Units.l0, if_neg (by omega)]; rfl
 | succ n ih =>
  intro i hi hn
  refine Ev.step (fun k => by rw [ensembleref01_Units.l0, if_pos (by omega)]) (Ev.bind (has_ev M i hM (by omega)) ?_)
  have I := ih (i + 1) (by omega) (by omega)
  have hl := posTo_len M i
  refine Ev.congr (fun k => ?_) I
  have e1 : wrap64 ((i : Int) + 1) = ((i + 1 : Nat) : Int) := by rw [w_id (by omega)]; omega
  have e2 : posTo M (i + 1) = if M.testBit i = true then posTo M i ++ [(i : Int)] else posTo M i := by
   unfold posTo
   rw [List.range_succ, List.filter_append, List.map_append]
   split
   ·rename_i h; simp [h]
   ·rename_i h; simp [h]
  rw [e1, e2]
  split
  ·rw [if_pos (by omega)]
  ·rfl
theorem units_ev (M : Nat) (hM : M < 18446744073709551616) : Ev (fun k => ensembleref01_Units.f k (M : Int)) (posI M) := units_l M hM 64 0 (by omega) (by omega)
theorem posI_len (M : Nat) : ((posI M).length : Int) = popI (M : Int) := by
 unfold posI popI popN; simp
theorem posI_get (M i : Nat) (h : i < (posI M).length) : rd (posI M) (i : Int) = (((pos M)[i]'(by unfold posI at h; simpa using h) : Nat) : Int) := by
 simp [rd, posI, List.getD_eq_getElem?_getD] at h ⊢
 rw [List.getElem?_eq_getElem h]; rfl
theorem bit_l (u : Nat) (hu : u < 64) (n : Nat) : ∀ j : Nat, j ≤ u → u - j = n → Ev (fun k => ensembleref01_bit.l0 k (u : Int) ((2 ^ j : Nat) : Int) (j : Int)) ((2 ^ u : Nat) : Int) := by
 induction n with
 | zero =>
  intro j hj hn
  obtain rfl : j = u := by omega
  refine Ev.step (f := fun _ => some ((2 ^ j : Nat) : Int)) (fun k => ?_) (Ev.now _)
  rw [ensembleref01_bit.l0, if_neg (by omega)]
 | succ n ih =>
  intro j hj hn
  refine Ev.step (f := fun k => ensembleref01_bit.l0 k (u : Int) ((2 ^ (j + 1) : Nat) : Int) ((j + 1 : Nat) : Int)) (fun k => ?_) (ih (j + 1) (by omega) (by omega))
  have h2 : 2 ^ (j + 1) ≤ 2 ^ 63 := Nat.pow_le_pow_right (by omega) (by omega)
  rw [Nat.pow_succ] at h2 ⊢
  rw [ensembleref01_bit.l0, if_pos (by omega), u64_id (by omega) (by omega), w_id (by omega)]
  congr 1
theorem bit_ev (u : Nat) (hu : u < 64) : Ev (fun k => ensembleref01_bit.f k (u : Int)) ((2 ^ u : Nat) : Int) := bit_l u hu u 0 (by omega) (by omega)
def sumP (l : List Nat) : Nat := (l.map fun i => 2 ^ i).sum
theorem sumP_append (a b : List Nat) : sumP (a ++ b) = sumP a + sumP b := by simp [sumP]
theorem orAll_lt_n {l : List Nat} {n : Nat} (h : ∀ i ∈ l, i < n) : orAll l < 2 ^ n := by
 refine Nat.lt_pow_two_of_testBit _ fun j hj => ?_
 rw [testBit_orAll, decide_eq_false]
 intro hm
 have := h j hm
 omega
theorem sumP_orAll (l : List Nat) (hp : l.Pairwise (· < ·)) : ∀ n : Nat, n ≤ l.length → sumP (l.take n) = orAll (l.take n) := by
 intro n
 induction n with
 | zero => intro _; simp [sumP, orAll]
 | succ n ih =>
  intro hn
  have hlt : n < l.length := by omega
  have hb : orAll (l.take n) < 2 ^ l[n] := orAll_lt_n fun i hi => by
   obtain ⟨j, hj, rfl⟩ := List.mem_iff_getElem.1 hi
   rw [List.getElem_take]
   rw [List.length_take] at hj
   exact List.pairwise_iff_getElem.1 hp j n (by omega) hlt (by omega)
  have h1 := Nat.two_pow_add_eq_or_of_lt hb 1
  rw [Nat.mul_one, Nat.or_comm] at h1
  rw [List.take_succ_eq_append_getElem hlt, sumP_append, orAll_snoc, ih (by omega), ← h1]
  simp [sumP]
  omega
theorem sumP_lt (l : List Nat) (hp : l.Pairwise (· < ·)) (h : ∀ i ∈ l, i < 64) (n : Nat) (hn : n ≤ l.length) : sumP (l.take n) < 18446744073709551616 := by
 rw [sumP_orAll l hp n hn]
 exact orAll_lt_n (n := 64) fun i hi => h i (List.mem_of_mem_take hi)
theorem lowest_l (M n : Nat) (hM : M < 18446744073709551616) (hn : n ≤ popN M) (d : Nat) : ∀ j : Nat, j ≤ n → n - j = d → Ev (fun k => ensembleref01_Lowest.l0 k (n : Int) (posI M) ((sumP ((pos M).take j) : Nat) : Int) (j : Int)) ((lowN M n : Nat), 0) := by
 have h64 : popN M ≤ 64 := popN_le M
 have hb64 : ∀ i ∈ pos M, i < 64 := fun i hi => (mem_pos.1 hi).1
 induction d with
 | zero =>
  intro j hj hd
  obtain rfl : j = n := by omega
  refine Ev.step (f := fun _ => some (((lowN M j : Nat) : Int), (0 : Int))) (fun k => ?_) (Ev.now _)
  rw [ensembleref01_Lowest.l0, if_neg (by omega), sumP_orAll (pos M) (pos_sorted M) j (by unfold popN at hn; omega)]; rfl
 | succ d ih =>
  intro j hj hd
  have hjl : j < (pos M).length := by unfold popN at hn; omega
  have hji : j < (posI M).length := by unfold posI; simpa using hjl
  refine Ev.step (fun k => by rw [ensembleref01_Lowest.l0, if_pos (by omega), if_pos (by omega), if_pos (by omega), posI_get M j hji]) (Ev.bind (bit_ev _ (hb64 _ (List.getElem_mem hjl))) ?_)
  refine Ev.congr (fun k => ?_) (ih (j + 1) (by omega) (by omega))
  have hs := sumP_lt (pos M) (pos_sorted M) hb64 (j + 1) (by omega)
  rw [List.take_succ_eq_append_getElem hjl, sumP_append] at hs ⊢
  have e : sumP [(pos M)[j]] = 2 ^ (pos M)[j] := by simp [sumP]
  rw [e] at hs ⊢
  rw [u64_id (by omega) (by omega), w_id (by omega)]
  congr 1
theorem lowest_ev (M : Nat) (n : Int) (hM : M < 18446744073709551616) : Ev (fun k => ensembleref01_Lowest.f k (M : Int) n) (if n < 0 then (0, 1) else if n > popI (M : Int) then (0, 2) else (lowI (M : Int) n, 0)) := by
 by_cases h0 : n < 0
 ·rw [if_pos h0]
  exact Ev.congr (fun k => by rw [ensembleref01_Lowest.f, if_pos h0]) (Ev.now _)
 ·rw [if_neg h0]
  obtain ⟨n, rfl⟩ := Int.eq_ofNat_of_zero_le (show 0 ≤ n by omega)
  refine Ev.congr (fun k => by rw [ensembleref01_Lowest.f, if_neg h0]) (Ev.bind (units_ev M hM) ?_)
  have hl := posI_len M
  by_cases h1 : (n : Int) > popI (M : Int)
  ·rw [if_pos h1]
   exact Ev.congr (fun k => by rw [if_pos (by omega)]) (Ev.now _)
  ·rw [if_neg h1]
   have h2 : n ≤ popN M := by unfold popI at h1; rw [Int.toNat_natCast] at h1; omega
   refine Ev.congr (fun k => by rw [if_neg (by omega)]) ?_
   have := lowest_l M n hM h2 n 0 (by omega) (by omega)
   simp only [List.take_zero] at this
   exact this
end Go.Proofs.Ytckhjehibjdjdaa.P
namespace Go.Proofs.Ytckhjehibjdjdaa.P
open Go.RowKit Go.Proofs.YtckhjehibjdjdaaW.PrintWords Go.Proofs.YtckhjehibjdjdaaW.PrintLast Go.Proofs.YtckhjehibjdjdaaW.PrintMore
attribute [local go_sem] max2_int min2_int max_two min_two max_three min_three max_four min_four

end Go.Proofs.Ytckhjehibjdjdaa.P
namespace Go.Proofs.Ytckhjehibjdjdaa.P
open Go.RowKit Go.Proofs.YtckhjehibjdjdaaW.PrintWords Go.Proofs.YtckhjehibjdjdaaW.PrintLast Go.Proofs.YtckhjehibjdjdaaW.PrintMore
attribute [local go_sem] max2_int min2_int max_two min_two max_three min_three max_four min_four
attribute [local go_sem] cellBx frozBx
end Go.Proofs.Ytckhjehibjdjdaa.P
namespace Go.Proofs.Ytckhjehibjdjdaa.P
open Go.RowKit Go.Proofs.YtckhjehibjdjdaaW.PrintWords Go.Proofs.YtckhjehibjdjdaaW.PrintLast Go.Proofs.YtckhjehibjdjdaaW.PrintMore
open Go.Proofs.Ytckhjehibjdjdaa.Bits Go.Proofs.Ytckhjehibjdjdaa.Mp
theorem pos_orAll (l : List Nat) (hp : l.Pairwise (· < ·)) (h : ∀ i ∈ l, i < 64) : pos (orAll l) = l := by
 refine List.Perm.eq_of_pairwise (le := (· < ·)) (fun a b _ _ h1 h2 => absurd h1 (by omega)) (pos_sorted _) hp ?_
 have n1 : (pos (orAll l)).Nodup := (pos_sorted _).imp (fun h => by omega)
 have n2 : l.Nodup := hp.imp (fun h => by omega)
 refine (List.perm_ext_iff_of_nodup n1 n2).2 fun j => ?_
 rw [mem_pos, testBit_orAll, decide_eq_true_eq]
 exact ⟨fun h => h.2, fun hj => ⟨h j hj, hj⟩⟩
theorem sub_low (M n : Nat) (hM : M < 18446744073709551616) : M = lowN M n + orAll ((pos M).drop n) := by
 have e0 := orAll_pos (m := M) (by simpa using hM)
 have e1 := sumP_orAll (pos M) (pos_sorted M) (pos M).length (Nat.le_refl _)
 rw [List.take_length] at e1
 have hd : ((pos M).drop n).Pairwise (· < ·) := (pos_sorted M).sublist (List.drop_sublist _ _)
 have e2 := sumP_orAll ((pos M).drop n) hd _ (Nat.le_refl _)
 rw [List.take_length] at e2
 have e3 := sumP_append ((pos M).take n) ((pos M).drop n)
 rw [List.take_append_drop] at e3
 have e4 : sumP ((pos M).take n) = lowN M n := by
  unfold lowN
  by_cases h : n ≤ (pos M).length
  ·exact sumP_orAll (pos M) (pos_sorted M) n h
  ·rw [List.take_of_length_le (by omega), e1]
 omega
theorem pop_sub_low (M n : Nat) (hM : M < 18446744073709551616) : popN (M - lowN M n) = popN M - n := by
 have h := sub_low M n hM
 have e : M - lowN M n = orAll ((pos M).drop n) := by omega
 have hd : ((pos M).drop n).Pairwise (· < ·) := (pos_sorted M).sublist (List.drop_sublist _ _)
 unfold popN
 rw [e, pos_orAll _ hd (fun i hi => (mem_pos.1 (List.mem_of_mem_drop hi)).1), List.length_drop]
theorem low_le (M n : Nat) (hM : M < 18446744073709551616) : lowN M n ≤ M := by have := sub_low M n hM; omega
theorem right04 (g c mn mx : Int) : ensembleref04_Right.f g c mn mx = some (c4_ g c mn mx) := by
 unfold ensembleref04_Right.f
 by_cases h1 : g ≥ 0
 ·by_cases h2 : g ≤ 16
  ·by_cases h3 : c ≥ 0
   ·by_cases h4 : c ≤ 1024
    ·rw [if_pos h1, if_pos h2, if_pos h3, if_pos h4, w_id (by omega)]
     unfold c4_
     rw [decide_eq_true (p := 0 ≤ g) (by omega), decide_eq_true (p := g ≤ 16) h2, decide_eq_true (p := 0 ≤ c) (by omega), decide_eq_true (p := c ≤ 1024) h4]
     by_cases h5 : g + c > 0
     ·rw [if_pos h5]
      have e5 : (decide (g = 0) && decide (c = 0)) = false := by
       rw [Bool.and_eq_false_iff]
       by_cases hg : g = 0
       ·right; exact decide_eq_false (by omega)
       ·left; exact decide_eq_false hg
      rw [e5]
      by_cases h6 : mn ≥ 1
      ·rw [if_pos h6, decide_eq_true (p := 1 ≤ mn) h6]
       by_cases h7 : mn ≤ mx
       ·rw [if_pos h7, decide_eq_true h7, decide_eq_true (p := 1 ≤ mx) (by omega)]; simp
       ·rw [if_neg h7, decide_eq_false h7]; simp
      ·rw [if_neg h6, decide_eq_false (p := 1 ≤ mn) h6]; simp
     ·rw [if_neg h5, decide_eq_true (p := g = 0) (by omega), decide_eq_true (p := c = 0) (by omega)]; simp
    ·rw [if_pos h1, if_pos h2, if_pos h3, if_neg h4]; unfold c4_; rw [decide_eq_false h4]; simp
   ·rw [if_pos h1, if_pos h2, if_neg h3]; unfold c4_; rw [decide_eq_false (p := 0 ≤ c) h3]; simp
  ·rw [if_pos h1, if_neg h2]; unfold c4_; rw [decide_eq_false h2]; simp
 ·rw [if_neg h1]; unfold c4_; rw [decide_eq_false (p := 0 ≤ g) h1]; simp
theorem good_out {g c mn mx : Int} (h : c4_ g c mn mx = true) : 0 ≤ g ∧ g ≤ 16 ∧ 0 ≤ c ∧ c ≤ 1024 ∧ 1 ≤ mn ∧ mn ≤ mx ∧ 1 ≤ mx ∧ mx ≤ 16 ∧ ¬ (g = 0 ∧ c = 0) := by
 simp only [c4_, Bool.and_eq_true, decide_eq_true_eq, Bool.not_eq_true'] at h
 obtain ⟨⟨⟨⟨⟨⟨⟨⟨h1, h2⟩, h3⟩, h4⟩, h5⟩, h6⟩, h7⟩, h8⟩, h9⟩ := h
 refine ⟨h1, h2, h3, h4, h5, h6, h7, h8, fun ⟨a, b⟩ => ?_⟩
 rw [decide_eq_true a, decide_eq_true b] at h9
 cases h9
def pieceB (g c s0 s1 m cp : Int) : Int × Int × Int × Int × Int × Int × Int × Int × Int :=
 if g ≤ popI m ∧ 0 ≤ cp ∧ c ≤ cp then (s0, s1, lowI m g, c, s0, s1, m - lowI m g, cp - c, 0) else (0, 0, 0, 0, 0, 0, 0, 0, 7)
theorem piece_ev (g c mn mx s0 s1 m cp : Int) (hg : c4_ g c mn mx = true) (hm : 0 ≤ m ∧ m < 18446744073709551616) (hc : cp ≤ 9223372036854775807) :
  Ev (fun k => ensembleref04_Piece.f k g c mn mx s0 s1 m cp) (pieceB g c s0 s1 m cp) := by
 obtain ⟨M, rfl⟩ := Int.eq_ofNat_of_zero_le hm.1
 have hM : M < 18446744073709551616 := by omega
 have hb := good_out hg
 have hlow := lowest_ev M g hM
 rw [if_neg (by omega)] at hlow
 refine Ev.congr (fun k => by rw [ensembleref04_Piece.f]) (Ev.bind hlow ?_)
 by_cases h1 : g > popI (M : Int)
 ·rw [if_pos h1, show pieceB g c s0 s1 (M : Int) cp = (0, 0, 0, 0, 0, 0, 0, 0, 7) from if_neg (by omega)]
  exact Ev.congr (fun k => by rw [if_neg (by decide)]) (Ev.now _)
 ·rw [if_neg h1]
  have h2 : lowN M g.toNat ≤ M := low_le M _ hM
  have e3 : lowI (M : Int) g = ((lowN M g.toNat : Nat) : Int) := rfl
  by_cases h4 : cp < 0
  ·rw [show pieceB g c s0 s1 (M : Int) cp = (0, 0, 0, 0, 0, 0, 0, 0, 7) from if_neg (by omega)]
   exact Ev.congr (fun k => by rw [if_pos (by rfl), if_pos h4]) (Ev.now _)
  ·by_cases h5 : cp < c
   ·rw [show pieceB g c s0 s1 (M : Int) cp = (0, 0, 0, 0, 0, 0, 0, 0, 7) from if_neg (by omega)]
    exact Ev.congr (fun k => by rw [if_pos (by rfl), if_neg h4, if_pos h5]) (Ev.now _)
   ·rw [show pieceB g c s0 s1 (M : Int) cp = (s0, s1, lowI (M : Int) g, c, s0, s1, (M : Int) - lowI (M : Int) g, cp - c, 0) from if_pos (by omega)]
    refine Ev.congr (fun k => ?_) (Ev.now _)
    rw [if_pos (by rfl), if_neg h4, if_neg h5]
    simp only
    rw [e3, u64_id (by omega) (by omega), w_id (by omega)]
def fitC (g c : Int) (n : Nat) (m cp : Int) : Int := if 0 ≤ cp then (n : Int) + min (16 - (n : Int)) (min (eachI (popI m) g) (eachI cp c)) else (n : Int)
theorem pop_sub (m g : Int) (hm : 0 ≤ m ∧ m < 18446744073709551616) (hg : 0 ≤ g) (hgp : g ≤ popI m) : popI (m - lowI m g) = popI m - g ∧ 0 ≤ m - lowI m g ∧ m - lowI m g < 18446744073709551616 := by
 obtain ⟨M, rfl⟩ := Int.eq_ofNat_of_zero_le hm.1
 obtain ⟨G, rfl⟩ := Int.eq_ofNat_of_zero_le hg
 have hM : M < 18446744073709551616 := by omega
 have h1 := low_le M G hM
 have h2 := pop_sub_low M G hM
 have e3 : lowI (M : Int) (G : Int) = ((lowN M G : Nat) : Int) := by unfold lowI; simp
 have e4 : popI (M : Int) = ((popN M : Nat) : Int) := by unfold popI; simp
 rw [e3]
 rw [e4] at hgp ⊢
 have e5 : ((M : Int) - ((lowN M G : Nat) : Int)) = ((M - lowN M G : Nat) : Int) := by omega
 rw [e5]
 have e6 : popI ((M - lowN M G : Nat) : Int) = ((popN (M - lowN M G) : Nat) : Int) := by unfold popI; simp
 rw [e6, h2]
 omega
theorem each_sub (a b : Int) (hb : 0 ≤ b) (h : b ≤ a) (n : Nat) (hn : n < 16) (X : Int) : 1 ≤ eachI a b ∧ (min (16 - (n : Int)) (min (eachI a b) X)) = 1 + min (16 - ((n : Int) + 1)) (min (eachI (a - b) b) (X - 1)) := by
 unfold eachI
 by_cases h0 : b = 0
 ·rw [if_pos h0, if_pos h0]; omega
 ·rw [if_neg h0, if_neg h0, show (a - b) / b = a / b - 1 from by
   rw [Int.sub_ediv_of_dvd _ (Int.dvd_refl b), Int.ediv_self h0]]
  have : 1 ≤ a / b := (Int.le_ediv_iff_mul_le (by omega)).2 (by omega)
  omega
theorem fits04_l (g c mn mx s0 s1 : Int) (hg : c4_ g c mn mx = true) (d : Nat) : ∀ (n : Nat) (m cp : Int), n ≤ 16 → 16 - n = d → 0 ≤ m ∧ m < 18446744073709551616 → cp ≤ 9223372036854775807 →
  Ev (fun k => ensembleref04_Fits.l0 k (n : Int) g c mn mx s0 s1 m cp) (fitC g c n m cp) := by
 have hb := good_out hg
 induction d with
 | zero =>
  intro n m cp hn hd hm hc
  obtain rfl : n = 16 := by omega
  refine Ev.step (f := fun _ => some (fitC g c 16 m cp)) (fun k => ?_) (Ev.now _)
  rw [ensembleref04_Fits.l0, if_neg (by omega)]
  unfold fitC
  split
  ·rename_i h0
   have h1 := eachI_nn (popI_bd m).1 (show 0 ≤ g by omega)
   have h2 := eachI_nn h0 (show 0 ≤ c by omega)
   congr 1; omega
  ·rfl
 | succ d ih =>
  intro n m cp hn hd hm hc
  have hpb := popI_bd m
  refine Ev.step (fun k => by rw [ensembleref04_Fits.l0, if_pos (by omega)]) (Ev.bind (piece_ev g c mn mx s0 s1 m cp hg hm hc) ?_)
  by_cases h : g ≤ popI m ∧ 0 ≤ cp ∧ c ≤ cp
  ·rw [show pieceB g c s0 s1 m cp = (s0, s1, lowI m g, c, s0, s1, m - lowI m g, cp - c, 0) from if_pos h]
   have hs := pop_sub m g hm (by omega) h.1
   have I := ih (n + 1) (m - lowI m g) (cp - c) (by omega) (by omega) hs.2 (by omega)
   have e : fitC g c (n + 1) (m - lowI m g) (cp - c) = fitC g c n m cp := by
    unfold fitC
    rw [if_pos (by omega), if_pos (by omega), hs.1]
    have A := each_sub (popI m) g (by omega) h.1 n (by omega) (eachI cp c)
    have B := each_sub cp c (by omega) h.2.2 n (by omega) (eachI (popI m - g) g + 1)
    omega
   rw [e] at I
   refine Ev.congr (fun k => ?_) I
   rw [if_pos (by rfl), w_id (by omega)]
   congr 1
  ·rw [show pieceB g c s0 s1 m cp = (0, 0, 0, 0, 0, 0, 0, 0, 7) from if_neg h]
   refine Ev.congr (fun k => ?_) (Ev.now _)
   rw [if_neg (by decide)]
   congr 1
   unfold fitC
   split
   ·rename_i h0
    have h1 := eachI_nn (popI_bd m).1 (show 0 ≤ g by omega)
    have h2 := eachI_nn h0 (show 0 ≤ c by omega)
    by_cases hp : g ≤ popI m
    ·have : eachI cp c = 0 := by
      unfold eachI
      rw [if_neg (by omega)]
      exact Int.ediv_eq_zero_of_lt h0 (by omega)
     omega
    ·have : eachI (popI m) g = 0 := by
      unfold eachI
      rw [if_neg (by omega)]
      exact Int.ediv_eq_zero_of_lt hpb.1 (by omega)
     omega
   ·rfl
theorem fits04_ev (g c mn mx s0 s1 m cp : Int) (hm : 0 ≤ m ∧ m < 18446744073709551616) (hc : cp ≤ 9223372036854775807) : Ev (fun k => ensembleref04_Fits.f k g c mn mx s0 s1 m cp) (fitV g c mn mx m cp) := by
 unfold ensembleref04_Fits.f fitV
 refine Ev.congr (fun k => by rw [right04, Option.bind_some]) ?_
 by_cases h : c4_ g c mn mx = true
 ·have hb := good_out h
  refine Ev.congr (fun k => by rw [if_pos h]) ?_
  have := fits04_l g c mn mx s0 s1 h 16 0 m cp (by omega) (by omega) hm hc
  unfold fitC at this
  by_cases h0 : 0 ≤ cp
  ·rw [if_pos h0] at this
   rw [if_pos ⟨h, h0⟩]
   unfold fitN
   have e : (((0 : Nat) : Int) + min (16 - ((0 : Nat) : Int)) (min (eachI (popI m) g) (eachI cp c))) = min 16 (min (eachI (popI m) g) (eachI cp c)) := by omega
   rw [e] at this
   exact this
  ·rw [if_neg h0] at this
   rw [if_neg (fun x => h0 x.2)]
   exact this
 ·rw [if_neg (fun x => h x.1)]
  exact Ev.congr (fun k => by rw [if_neg h]) (Ev.now _)
end Go.Proofs.Ytckhjehibjdjdaa.P
namespace Go.Proofs.Ytckhjehibjdjdaa.P
open Go.RowKit Go.Proofs.YtckhjehibjdjdaaW.PrintWords Go.Proofs.YtckhjehibjdjdaaW.PrintLast Go.Proofs.YtckhjehibjdjdaaW.PrintMore
attribute [local go_sem] max2_int min2_int max_two min_two max_three min_three max_four min_four
attribute [local go_sem] cellBx frozBx
theorem ensembleref05_More.find {k n : Nat} {A : Option Addr} {c : Nat} {l : List S51} {a b r : Int} {w : World} (hl : A_ (l.length = n)) (hr : Kd.C k51 w A l.length l) (hc : l.length ≤ c) (h : A_ (ensembleref05_find.f k l a b = some r)) :
  Calls Try.prog 79 #[.slice A n c, .agg #[.int .i64 a, .int .i64 b]] w fun e w' => e = .returned (.int .i64 r) ∧ Below w.heap.size w w' := by
 obtain rfl := hl.out
 exact ensembleref05_find.calls k A c l a b r w hr hc h.out
theorem ensembleref05_Less.find {k n : Nat} {A : Option Addr} {c : Nat} {l : List S51} {a b r : Int} {w : World} (hl : A_ (l.length = n)) (hr : Kd.C k51 w A l.length l) (hc : l.length ≤ c) (h : A_ (ensembleref05_find.f k l a b = some r)) :
  Calls Try.prog 79 #[.slice A n c, .agg #[.int .i64 a, .int .i64 b]] w fun e w' => e = .returned (.int .i64 r) ∧ Below w.heap.size w w' := by
 obtain rfl := hl.out
 exact ensembleref05_find.calls k A c l a b r w hr hc h.out
end Go.Proofs.Ytckhjehibjdjdaa.P
namespace Go.Proofs.Ytckhjehibjdjdaa.P
open Go.RowKit Go.Proofs.YtckhjehibjdjdaaW.PrintWords Go.Proofs.YtckhjehibjdjdaaW.PrintLast Go.Proofs.YtckhjehibjdjdaaW.PrintMore
attribute [local go_sem] max2_int min2_int max_two min_two max_three min_three max_four min_four
end Go.Proofs.Ytckhjehibjdjdaa.P
namespace Go.Proofs.Ytckhjehibjdjdaa.P
open Go.RowKit Go.Proofs.YtckhjehibjdjdaaW.PrintWords Go.Proofs.YtckhjehibjdjdaaW.PrintLast Go.Proofs.YtckhjehibjdjdaaW.PrintMore
open Go.Proofs.Ytckhjehibjdjdaa.Bits Go.Proofs.Ytckhjehibjdjdaa.Mp
theorem andNot_nat (a b : Nat) (ha : a < 18446744073709551616) (hb : b < 18446744073709551616) : Go.bits .andNot .u64 (a : Int) (b : Int) = ((a - (a &&& b) : Nat) : Int) := by
 have h1 : (BitVec.ofInt 64 (a : Int)).toNat = a := by
  rw [BitVec.ofInt_natCast, BitVec.toNat_ofNat]; exact Nat.mod_eq_of_lt (by omega)
 have h2 : (BitVec.ofInt 64 (b : Int)).toNat = b := by
  rw [BitVec.ofInt_natCast, BitVec.toNat_ofNat]; exact Nat.mod_eq_of_lt (by omega)
 show IntKind.u64.wrap ((BitVec.ofInt 64 (a : Int) &&& ~~~ BitVec.ofInt 64 (b : Int)).toNat : Int) = _
 generalize BitVec.ofInt 64 (a : Int) = A at *
 generalize BitVec.ofInt 64 (b : Int) = B at *
 have hz : (A &&& ~~~B) &&& (A &&& B) = 0#64 := by ext i; simp; intro _ h _; exact h
 have hs : (A &&& ~~~B) + (A &&& B) = A := by
  rw [BitVec.add_eq_or_of_and_eq_zero _ _ hz]
  ext i; simp; cases A[i] <;> cases B[i] <;> rfl
 have hn := BitVec.toNat_add_of_and_eq_zero hz
 rw [hs, BitVec.toNat_and A B, h1, h2] at hn
 have hl := (A &&& ~~~B).isLt
 rw [wrapN, Nat.mod_eq_of_lt (by omega)]
 omega
def isAt (a b : Int) (f : S51) : Bool := f.f0.f0 == a && (f.f0.f1 == b)
def findI (view : List S51) (a b : Int) : Int := match view.findIdx? (isAt a b) with
 | some j => (j : Int)
 | none => -1
theorem find_l (view : List S51) (a b : Int) (hl : view.length < 4398046511104) (d : Nat) : ∀ i : Nat, i ≤ view.length → view.length - i = d →
  Ev (fun k => ensembleref05_find.l0 k view (i : Int) a b) (match (view.drop i).findIdx? (isAt a b) with | some j => ((i + j : Nat) : Int) | none => -1) := by
 induction d with
 | zero =>
  intro i hi hd
  rw [List.drop_eq_nil_of_le (by omega)]
  exact Ev.step (f := fun _ => some (-1)) (fun k => by rw [ensembleref05_find.l0, if_neg (by omega)]) (Ev.now _)
 | succ d ih =>
  intro i hi hd
  have hil : i < view.length := by omega
  rw [List.drop_eq_getElem_cons hil, List.findIdx?_cons]
  by_cases h : isAt a b view[i] = true
  ·rw [if_pos h]
   refine Ev.step (f := fun _ => some ((i + 0 : Nat) : Int)) (fun k => ?_) (Ev.now _)
   rw [ensembleref05_find.l0, if_pos (by omega), if_pos (by omega), rd51' view i hil, if_pos (show (view[i].f0.f0 == a && (view[i].f0.f1 == b)) = true from h)]; rfl
  ·rw [if_neg h]
   have I := ih (i + 1) (by omega) (by omega)
   refine Ev.step (f := fun k => ensembleref05_find.l0 k view ((i + 1 : Nat) : Int) a b) (fun k => ?_) ?_
   ·rw [ensembleref05_find.l0, if_pos (by omega), if_pos (by omega), rd51' view i hil, if_neg (show ¬ (view[i].f0.f0 == a && (view[i].f0.f1 == b)) = true from h), w_id (by omega)]; rfl
   ·cases hf : (view.drop (i + 1)).findIdx? (isAt a b) with
    | none => rw [hf] at I; exact I
    | some j =>
     rw [hf] at I
     simp only [Option.map_some]
     rw [show i + (j + 1) = i + 1 + j by omega]; exact I
theorem find_ev (view : List S51) (a b : Int) (hl : view.length < 4398046511104) : Ev (fun k => ensembleref05_find.f k view a b) (findI view a b) := by
 have := find_l view a b hl view.length 0 (by omega) (by omega)
 rw [List.drop_zero] at this
 unfold findI
 cases hf : view.findIdx? (isAt a b) with
 | none => rw [hf] at this; exact this
 | some j => rw [hf] at this; simp only [Nat.zero_add] at this; exact this
def spot (f : S51) : Int × Int := (f.f0.f0, f.f0.f1)
def cpOk (f : S51) : Prop := 0 ≤ f.f2 ∧ f.f2 ≤ 1048576
def viewR (view : List S51) : Prop := (∀ f ∈ view, cpOk f) ∧ (view.map spot).Nodup
theorem isAt_iff {a b : Int} {f : S51} : isAt a b f = true ↔ spot f = (a, b) := by
 unfold isAt spot; simp
theorem findI_neg {view : List S51} {a b : Int} : findI view a b < 0 ↔ (a, b) ∉ view.map spot := by
 unfold findI
 cases h : view.findIdx? (isAt a b) with
 | none =>
  rw [List.findIdx?_eq_none_iff] at h
  simp only [List.mem_map, not_exists, not_and]
  exact ⟨fun _ f hf e => (by rw [← isAt_iff, h f hf] at e; cases e), fun _ => by omega⟩
 | some j =>
  rw [List.findIdx?_eq_some_iff_getElem] at h
  obtain ⟨hj, h1, _⟩ := h
  constructor
  ·intro h; simp only at h; omega
  ·intro hn
   exact absurd (List.mem_map.2 ⟨view[j], List.getElem_mem hj, isAt_iff.1 h1⟩) hn
theorem findI_bd (view : List S51) (a b : Int) : -1 ≤ findI view a b ∧ findI view a b < view.length := by
 unfold findI
 cases h : view.findIdx? (isAt a b) with
 | none => simp only; omega
 | some j =>
  rw [List.findIdx?_eq_some_iff_getElem] at h
  obtain ⟨hj, _⟩ := h
  simp only; omega
theorem right05_l (view : List S51) (hl : view.length < 4398046511104) (d : Nat) : ∀ i : Nat, i ≤ view.length → view.length - i = d → (∀ f ∈ view.take i, cpOk f) → ((view.take i).map spot).Nodup →
  (Ev (fun k => ensembleref05_Right.l0 k view (i : Int)) true ∧ viewR view) ∨ Ev (fun k => ensembleref05_Right.l0 k view (i : Int)) false := by
 induction d with
 | zero =>
  intro i hi hd hc hn
  left
  obtain rfl : i = view.length := by omega
  rw [List.take_length] at hc hn
  exact ⟨Ev.step (f := fun _ => some true) (fun k => by rw [ensembleref05_Right.l0, if_neg (by omega)]) (Ev.now _), hc, hn⟩
 | succ d ih =>
  intro i hi hd hc hn
  have hil : i < view.length := by omega
  by_cases h1 : (view[i]).f2 < 0
  ·right
   exact Ev.step (f := fun _ => some false) (fun k => by rw [ensembleref05_Right.l0, if_pos (by omega), if_pos (by omega), rd51' view i hil, if_pos h1]) (Ev.now _)
  by_cases h2 : (view[i]).f2 > 1048576
  ·right
   exact Ev.step (f := fun _ => some false) (fun k => by rw [ensembleref05_Right.l0, if_pos (by omega), if_pos (by omega), rd51' view i hil, if_neg h1, if_pos h2]) (Ev.now _)
  have hF := find_ev (view.take i) (view[i]).f0.f0 (view[i]).f0.f1 (by rw [List.length_take]; omega)
  have hstep : ∀ k, ensembleref05_Right.l0 (k + 1) view (i : Int) = (ensembleref05_find.f k (view.take i) (view[i]).f0.f0 (view[i]).f0.f1).bind fun t127 => (if t127 ≥ 0 then (some false) else (ensembleref05_Right.l0 k view (wrap64 ((i : Int) + 1)))) := fun k => by
   rw [ensembleref05_Right.l0, if_pos (by omega), if_pos (by omega), rd51' view i hil, if_neg h1, if_neg h2, if_pos (by omega), Int.toNat_natCast]
  by_cases h3 : findI (view.take i) (view[i]).f0.f0 (view[i]).f0.f1 ≥ 0
  ·right
   exact Ev.step hstep (Ev.bind hF (Ev.congr (fun k => by rw [if_pos h3]) (Ev.now _)))
  ·have hcon : ∀ r, Ev (fun k => ensembleref05_Right.l0 k view ((i + 1 : Nat) : Int)) r → Ev (fun k => ensembleref05_Right.l0 k view (i : Int)) r := fun r hr =>
    Ev.step hstep (Ev.bind hF (Ev.congr (fun k => by rw [if_neg h3, w_id (by omega)]; congr 1) hr))
   have hnm := findI_neg.1 (show findI (view.take i) (view[i]).f0.f0 (view[i]).f0.f1 < 0 by omega)
   rcases ih (i + 1) (by omega) (by omega) (by
    intro f hf
    rw [List.take_succ_eq_append_getElem hil] at hf
    rcases List.mem_append.1 hf with hf | hf
    ·exact hc f hf
    ·rw [List.mem_singleton.1 hf]; exact ⟨by omega, by omega⟩) (by
    rw [List.take_succ_eq_append_getElem hil, List.map_append, List.nodup_append]
    refine ⟨hn, by simp, fun x hx y hy => ?_⟩
    rw [List.map_singleton, List.mem_singleton] at hy
    rintro rfl
    apply hnm
    rw [hy] at hx
    exact hx) with ⟨h, hv⟩ | h
   ·exact .inl ⟨hcon _ h, hv⟩
   ·exact .inr (hcon _ h)
theorem right05_ev (view : List S51) (hl : view.length < 4398046511104) : (Ev (fun k => ensembleref05_Right.f k view) true ∧ viewR view) ∨ Ev (fun k => ensembleref05_Right.f k view) false := by
 have := right05_l view hl view.length 0 (by omega) (by omega) (by simp) (by simp)
 exact this
def turnF (E : S51 → S52 → Int) (F : S51 → S52 → S51) : List S51 → List S52 → List S51 × Int
 | out, [] => (out, 0)
 | out, s :: ss => if s.f2 < 0 then ([], 1) else if findI out s.f0.f0 s.f0.f1 < 0 then ([], 3)
  else if E (a4_ out (findI out s.f0.f0 s.f0.f1)) s = 0 then turnF E F (out.set (findI out s.f0.f0 s.f0.f1).toNat (F (a4_ out (findI out s.f0.f0 s.f0.f1)) s)) ss
  else ([], E (a4_ out (findI out s.f0.f0 s.f0.f1)) s)
theorem bits_and_z {a b : Int} (ha : 0 ≤ a ∧ a < 18446744073709551616) (hb : 0 ≤ b ∧ b < 18446744073709551616) : Go.bits .and .u64 a b = ((a.toNat &&& b.toNat : Nat) : Int) := by
 obtain ⟨x, rfl⟩ := Int.eq_ofNat_of_zero_le ha.1
 obtain ⟨y, rfl⟩ := Int.eq_ofNat_of_zero_le hb.1
 rw [Int.toNat_natCast, Int.toNat_natCast]
 exact bits_and_u64_nat x y (by omega) (by omega)
theorem freeOk_out {f : S51} (h : freeOk f = true) : (0 ≤ f.f1 ∧ f.f1 < 18446744073709551616) ∧ -9223372036854775808 ≤ f.f2 ∧ f.f2 ≤ 9223372036854775807 := by
 simp only [freeOk, w64B, Bool.and_eq_true, decide_eq_true_eq] at h
 exact ⟨⟨h.1.1, h.1.2⟩, h.2.1, h.2.2⟩
theorem maskOk_out {s : S52} (h : maskOk s = true) : 0 ≤ s.f1 ∧ s.f1 < 18446744073709551616 := by
 simp only [maskOk, Bool.and_eq_true, decide_eq_true_eq] at h
 exact h
theorem set_all {P : S51 → Prop} {out : List S51} {k : Nat} {x : S51} (h : ∀ f ∈ out, P f) (hx : P x) : ∀ f ∈ out.set k x, P f := fun f hf => by
 rcases List.mem_or_eq_of_mem_set hf with h' | rfl
 ·exact h f h'
 ·exact hx
theorem lessF_ok {f : S51} {s : S52} (hf : freeOk f = true) (hs : maskOk s = true) : freeOk (lessF f s) = true := by
 have h1 := freeOk_out hf
 have h2 := maskOk_out hs
 have e : Go.bits .andNot .u64 f.f1 s.f1 = ((f.f1.toNat - (f.f1.toNat &&& s.f1.toNat) : Nat) : Int) := by
  have := andNot_nat f.f1.toNat s.f1.toNat (by omega) (by omega)
  rw [Int.toNat_of_nonneg h1.1.1, Int.toNat_of_nonneg h2.1] at this
  exact this
 have e1 : 0 ≤ (lessF f s).f1 ∧ (lessF f s).f1 < 18446744073709551616 := by
  show 0 ≤ Go.bits .andNot .u64 f.f1 s.f1 ∧ Go.bits .andNot .u64 f.f1 s.f1 < 18446744073709551616
  rw [e]; omega
 unfold freeOk
 rw [decide_eq_true e1.1, decide_eq_true e1.2]
 exact w64_wrap _
theorem findI_spots {a b : List S51} (h : a.map spot = b.map spot) (x y : Int) : findI a x y = findI b x y := by
 have e : ∀ l : List S51, l.findIdx? (isAt x y) = (l.map spot).findIdx? (fun p => p.1 == x && p.2 == y) := fun l => by
  rw [List.findIdx?_map]; rfl
 unfold findI
 rw [e a, e b, h]
theorem ixS_find (view : List S51) (hn : (view.map spot).Nodup) : ∀ i : Nat, i ≤ view.length → ∀ a b : Int, ixS view i a b = if 0 ≤ findI view a b ∧ findI view a b < i then some (findI view a b) else none := by
 intro i
 induction i with
 | zero => intro _ a b; rw [if_neg (by omega)]; rfl
 | succ i ih =>
  intro hi a b
  have hil : i < view.length := by omega
  unfold ixS updS
  rw [rd51' view i hil]
  have hfi : findI view (view[i]).f0.f0 (view[i]).f0.f1 = (i : Int) := by
   unfold findI
   have : view.findIdx? (isAt (view[i]).f0.f0 (view[i]).f0.f1) = some i := by
    rw [List.findIdx?_eq_some_iff_getElem]
    refine ⟨hil, by unfold isAt; simp, fun j hj => ?_⟩
    intro hjt
    have h1 := isAt_iff.1 hjt
    have h2 := List.pairwise_iff_getElem.1 hn j i (by rw [List.length_map]; omega) (by rw [List.length_map]; exact hil) hj
    apply h2
    rw [List.getElem_map, List.getElem_map, h1]
    rfl
   rw [this]
  by_cases h : a = (view[i]).f0.f0 ∧ b = (view[i]).f0.f1
  ·rw [if_pos h, h.1, h.2, hfi, if_pos (by omega)]
  ·rw [if_neg h, ih (by omega) a b]
   have hne : findI view a b ≠ (i : Int) := by
    intro e
    unfold findI at e
    cases hf : view.findIdx? (isAt a b) with
    | none => rw [hf] at e; simp only at e; omega
    | some j =>
     rw [hf] at e
     simp only at e
     obtain rfl : j = i := by omega
     rw [List.findIdx?_eq_some_iff_getElem] at hf
     have := isAt_iff.1 hf.2.1
     unfold spot at this
     injection this with h1 h2
     exact h ⟨h1.symm, h2.symm⟩
   by_cases hc : 0 ≤ findI view a b ∧ findI view a b < i
   ·rw [if_pos hc, if_pos (by omega)]
   ·rw [if_neg hc, if_neg (by omega)]
theorem spots_set {out : List S51} {k : Nat} {x : S51} (hx : ∀ h : k < out.length, spot x = spot out[k]) : (out.set k x).map spot = out.map spot := by
 rw [List.map_set]
 by_cases h : k < out.length
 ·rw [hx h]
  apply List.ext_getElem
  ·simp
  ·intro i h1 h2
   rw [List.getElem_set]
   split
   ·rename_i e; subst e; rw [List.getElem_map]
   ·rfl
 ·rw [List.set_eq_of_length_le (by rw [List.length_map]; omega)]
theorem turned_find (E : S51 → S52 → Int) (F : S51 → S52 → S51) (hF : ∀ f s, (F f s).f0 = f.f0) (view : List S51) (hn : (view.map spot).Nodup) : ∀ (slots : List S52) (out : List S51), out.map spot = view.map spot →
  turnedL E F (ixS view view.length) out slots = turnF E F out slots
 | [], out, _ => rfl
 | s :: ss, out, ho => by
  have hb := findI_bd view s.f0.f0 s.f0.f1
  rw [turnedL, turnF, findI_spots ho, ixS_find view hn _ (Nat.le_refl _)]
  generalize findI view s.f0.f0 s.f0.f1 = p at *
  by_cases h1 : s.f2 < 0
  ·rw [if_pos h1, if_pos h1]
  rw [if_neg h1, if_neg h1]
  by_cases h2 : p < 0
  ·rw [if_neg (by omega), if_pos h2]
  rw [if_pos (by omega), if_neg h2]
  simp only
  by_cases h3 : E (a4_ out p) s = 0
  ·rw [if_pos h3, if_pos h3]
   refine turned_find E F hF view hn ss _ ?_
   rw [spots_set (fun hk => ?_), ho]
   have : a4_ out p = out[p.toNat] := by
    have := rd51' out p.toNat hk
    rw [Int.toNat_of_nonneg (by omega)] at this
    exact this
   unfold spot
   rw [hF, this]
  ·rw [if_neg h3, if_neg h3]
theorem turned51_find {E : S51 → S52 → Int} {F : S51 → S52 → S51} (hF : ∀ f s, (F f s).f0 = f.f0) {view : List S51} (hn : (view.map spot).Nodup) (slots : List S52) : turned51 E F view slots = turnF E F view slots :=
 turned_find E F hF view hn slots view rfl
end Go.Proofs.Ytckhjehibjdjdaa.P
namespace Go.Proofs.Ytckhjehibjdjdaa.P
open Go.RowKit Go.Proofs.YtckhjehibjdjdaaW.PrintWords Go.Proofs.YtckhjehibjdjdaaW.PrintLast Go.Proofs.YtckhjehibjdjdaaW.PrintMore
attribute [local go_sem] max2_int min2_int max_two min_two max_three min_three max_four min_four


end Go.Proofs.Ytckhjehibjdjdaa.P
namespace Go.Proofs.Ytckhjehibjdjdaa.P
open Go.RowKit Go.Proofs.YtckhjehibjdjdaaW.PrintWords Go.Proofs.YtckhjehibjdjdaaW.PrintLast Go.Proofs.YtckhjehibjdjdaaW.PrintMore
open Go.Proofs.Ytckhjehibjdjdaa.Bits Go.Proofs.Ytckhjehibjdjdaa.Mp
def ended (T : Int) (ends : List S41) : List S41 := ends.filter fun h => decide (h.f2 ≤ T)
def b9_ (l : List S41) : List S52 := l.flatMap fun h => h.f4
theorem slotsOf_cons (h : S41) (l : List S41) : b9_ (h :: l) = h.f4 ++ b9_ l := List.flatMap_cons
theorem slotsOf_append (a b : List S41) : b9_ (a ++ b) = b9_ a ++ b9_ b := List.flatMap_append
theorem sub_slots {a b : List S41} (h : a.Sublist b) : (b9_ a).Sublist (b9_ b) := by
 induction h with
 | slnil => exact List.Sublist.slnil
 | cons x _ ih => rw [slotsOf_cons]; exact ih.trans (List.sublist_append_right _ _)
 | cons_cons x _ ih => rw [slotsOf_cons, slotsOf_cons]; exact List.Sublist.append (List.Sublist.refl _) ih
def leftQ (q : Int) : Int × Int → List S41 → Int × Int
 | a, [] => a
 | a, h :: l => leftQ q (if h.f1 = q then (wrap64 (a.1 + (addL true (0, 0) h.f4).1), wrap64 (a.2 + (addL true (0, 0) h.f4).2)) else a) l
def atB (view : List S51) (lg lc : Int) (ends : List S41) (q m g c mn mx T : Int) : Bool :=
 fitsB (turnF moreE moreF view (b9_ (ended T ends))).1 (leftQ q (lg, lc) (ended T ends)).1 (leftQ q (lg, lc) (ended T ends)).2 m g c mn mx
structure Inp (view : List S51) (ends : List S41) : Prop where
 vl : view.length < 4398046511104
 vf : ∀ f ∈ view, freeOk f = true
 el : ends.length < 1000000
 es : (b9_ ends).length < 4000000000
 sm : ∀ s ∈ b9_ ends, maskOk s = true
theorem Inp.sub {view : List S51} {ends l : List S41} (I : Inp view ends) (h : l.Sublist ends) : Inp view l :=
 have hs : (b9_ l).Sublist (b9_ ends) := sub_slots h
 ⟨I.vl, I.vf, Nat.lt_of_le_of_lt h.length_le I.el, Nat.lt_of_le_of_lt hs.length_le I.es, fun s hs' => I.sm s (hs.subset hs')⟩
theorem Inp.ended {view : List S51} {ends : List S41} (I : Inp view ends) (T : Int) : Inp view (ended T ends) := I.sub List.filter_sublist
def bestF (A : Int → Bool) (now : Int) : Int → List S41 → Int
 | b, [] => b
 | b, h :: l => bestF A now (if h.f2 > now ∧ h.f2 < b ∧ A h.f2 = true then h.f2 else b) l
def refEarly (now : Int) (view : List S51) (lg lc : Int) (ends : List S41) (q m g c mn mx : Int) : Int × Int :=
 if now < 0 ∨ now > 1073741824 ∨ rightB m g c mn mx = false then (0, 1)
 else if (turnF moreE moreF view (b9_ ends)).2 ≠ 0 then (0, (turnF moreE moreF view (b9_ ends)).2)
 else if atB view lg lc ends q m g c mn mx now = true then (now, 0)
 else (bestF (atB view lg lc ends q m g c mn mx) now 1073741825 ends, 0)
def sspot (s : S52) : Int × Int := (s.f0.f0, s.f0.f1)
def atS (f : S51) (l : List S52) : List S52 := l.filter fun s => decide (sspot s = spot f)
def stepV (view : List S51) (s : S52) : List S51 := view.map fun f => if spot f = sspot s then moreF f s else f
def disj (a b : Int) : Prop := a.toNat &&& b.toNat = 0
theorem disj_comm {a b : Int} (h : disj a b) : disj b a := by unfold disj at *; rw [Nat.and_comm]; exact h
structure okF (f : S51) (l : List S52) : Prop where
 own : ∀ s ∈ l, disj s.f1 f.f1
 two : l.Pairwise fun a b => disj a.f1 b.f1
 sum : f.f2 + (l.map fun s => s.f2).sum ≤ 1048576
structure okS (view : List S51) (slots : List S52) : Prop where
 pos : ∀ s ∈ slots, 0 ≤ s.f2 ∧ sspot s ∈ view.map spot
 fit : ∀ f ∈ view, okF f (atS f slots)
def viewS (view : List S51) (slots : List S52) : List S51 := view.map fun f => (atS f slots).foldl moreF f
theorem atS_moreF (f : S51) (s : S52) (l : List S52) : atS (moreF f s) l = atS f l := rfl
theorem stepV_spots (view : List S51) (s : S52) : (stepV view s).map spot = view.map spot := by
 unfold stepV
 rw [List.map_map]
 apply List.map_congr_left
 intro f _
 simp only [Function.comp_apply]
 split <;> rfl
theorem bits_or_bv (a b : Int) : Go.bits .or .u64 a b = ((BitVec.ofInt 64 a ||| BitVec.ofInt 64 b).toNat : Int) := by
 show IntKind.u64.wrap ((BitVec.ofInt 64 a ||| BitVec.ofInt 64 b).toNat : Int) = _
 rw [wrapN, Nat.mod_eq_of_lt (BitVec.isLt _)]
theorem ofInt_toNat (x : BitVec 64) : BitVec.ofInt 64 (x.toNat : Int) = x := by
 rw [BitVec.ofInt_natCast]; simp
theorem or_right_comm (a b c : Int) : Go.bits .or .u64 (Go.bits .or .u64 a b) c = Go.bits .or .u64 (Go.bits .or .u64 a c) b := by
 rw [bits_or_bv, bits_or_bv a b, ofInt_toNat, bits_or_bv, bits_or_bv a c, ofInt_toNat, BitVec.or_assoc, BitVec.or_comm (BitVec.ofInt 64 b), ← BitVec.or_assoc]
theorem wrap_right_comm (a b c : Int) : wrap64 (wrap64 (a + b) + c) = wrap64 (wrap64 (a + c) + b) := by unfold wrap64; omega
theorem moreF_comm (f : S51) (a b : S52) : moreF (moreF f a) b = moreF (moreF f b) a := by
 unfold moreF
 rw [or_right_comm, wrap_right_comm]
theorem and_iff_disj {a b : Int} (ha : 0 ≤ a ∧ a < 18446744073709551616) (hb : 0 ≤ b ∧ b < 18446744073709551616) : Go.bits .and .u64 a b = 0 ↔ disj a b := by
 rw [bits_and_z ha hb]; unfold disj; omega
theorem disj_or {a b c : Int} (ha : 0 ≤ a ∧ a < 18446744073709551616) (hb : 0 ≤ b ∧ b < 18446744073709551616) : disj c (Go.bits .or .u64 a b) ↔ disj c a ∧ disj c b := by
 obtain ⟨x, rfl⟩ := Int.eq_ofNat_of_zero_le ha.1
 obtain ⟨y, rfl⟩ := Int.eq_ofNat_of_zero_le hb.1
 rw [bits_or_u64_nat x y (by omega) (by omega)]
 unfold disj
 rw [Int.toNat_natCast, Int.toNat_natCast, Int.toNat_natCast, Nat.and_or_distrib_left, Nat.or_eq_zero_iff]
theorem moreE_iff {f : S51} {s : S52} (hf : freeOk f = true) (hc : cpOk f) (hs : maskOk s = true) (h0 : 0 ≤ s.f2) : moreE f s = 0 ↔ disj s.f1 f.f1 ∧ f.f2 + s.f2 ≤ 1048576 := by
 have h1 := freeOk_out hf
 have h2 := maskOk_out hs
 unfold cpOk at hc
 unfold moreE
 rw [show wrap64 (1048576 - f.f2) = 1048576 - f.f2 from w_id (by omega)]
 by_cases hd : disj s.f1 f.f1
 ·rw [if_neg (fun x => x ((and_iff_disj h2 h1.1).2 hd))]
  by_cases h : s.f2 > 1048576 - f.f2
  ·rw [if_pos h]; constructor
   ·intro x; cases x
   ·intro x; omega
  ·rw [if_neg h]; exact ⟨fun _ => ⟨hd, by omega⟩, fun _ => rfl⟩
 ·rw [if_pos (fun x => hd ((and_iff_disj h2 h1.1).1 x))]; constructor
  ·intro x; cases x
  ·intro x; exact absurd x.1 hd
theorem okF_cons {f : S51} {s : S52} {l : List S52} (hf : freeOk f = true) (hc : cpOk f) (hs : maskOk s = true) (h0 : 0 ≤ s.f2) (hl : ∀ x ∈ l, 0 ≤ x.f2) :
  okF f (s :: l) ↔ moreE f s = 0 ∧ okF (moreF f s) l := by
 have h1 := freeOk_out hf
 have h2 := maskOk_out hs
 rw [moreE_iff hf hc hs h0]
 have hsum : 0 ≤ (l.map fun s => s.f2).sum := by
  clear h1 h2 hc
  induction l with
  | nil => simp
  | cons x l ih =>
   have := hl x (by simp)
   have := ih (fun y hy => hl y (by simp [hy]))
   rw [List.map_cons, List.sum_cons]; omega
 unfold cpOk at hc
 have hw : f.f2 + s.f2 ≤ 1048576 → (moreF f s).f2 = f.f2 + s.f2 := fun h => by unfold moreF; exact w_id (by omega)
 constructor
 ·rintro ⟨a, b, c⟩
  rw [List.map_cons, List.sum_cons] at c
  have hb := List.pairwise_cons.1 b
  refine ⟨⟨a s (by simp), by omega⟩, fun x hx => ?_, hb.2, ?_⟩
  ·show disj x.f1 (Go.bits .or .u64 f.f1 s.f1)
   exact (disj_or h1.1 h2).2 ⟨a x (by simp [hx]), disj_comm (hb.1 x hx)⟩
  ·rw [hw (by omega)]; omega
 ·rintro ⟨⟨a, b⟩, c, d, e⟩
  rw [hw b] at e
  refine ⟨fun x hx => ?_, List.pairwise_cons.2 ⟨fun x hx => ?_, d⟩, ?_⟩
  ·rcases List.mem_cons.1 hx with rfl | hx
   ·exact a
   ·exact ((disj_or h1.1 h2).1 (c x hx)).1
  ·exact disj_comm ((disj_or h1.1 h2).1 (c x hx)).2
  ·rw [List.map_cons, List.sum_cons]; omega
theorem set_step {view : List S51} (hn : (view.map spot).Nodup) {s : S52} {p : Nat} (hp : findI view s.f0.f0 s.f0.f1 = (p : Int)) :
  ∃ h : p < view.length, spot view[p] = sspot s ∧ view.set p (moreF view[p] s) = stepV view s ∧ ∀ f ∈ view, spot f = sspot s → f = view[p] := by
 unfold findI at hp
 cases hf : view.findIdx? (isAt s.f0.f0 s.f0.f1) with
 | none => rw [hf] at hp; simp only at hp; omega
 | some j =>
  rw [hf] at hp
  simp only at hp
  obtain rfl : j = p := by omega
  rw [List.findIdx?_eq_some_iff_getElem] at hf
  obtain ⟨hj, h1, _⟩ := hf
  have hs := isAt_iff.1 h1
  have huniq : ∀ i (hi : i < view.length), spot view[i] = sspot s → i = j := fun i hi he => by
   have hn' := List.pairwise_iff_getElem.1 hn
   rcases Nat.lt_trichotomy i j with h | h | h
   ·exact absurd (by rw [List.getElem_map, List.getElem_map, he, hs]; rfl) (hn' i j (by simpa using hi) (by simpa using hj) h)
   ·exact h
   ·exact absurd (by rw [List.getElem_map, List.getElem_map, he, hs]; rfl) (hn' j i (by simpa using hj) (by simpa using hi) h)
  refine ⟨hj, hs, ?_, fun f hf he => ?_⟩
  ·unfold stepV
   apply List.ext_getElem
   ·simp
   ·intro i h1 h2
    rw [List.getElem_set, List.getElem_map]
    rw [List.length_set] at h1
    by_cases hij : j = i
    ·subst hij
     rw [if_pos rfl, if_pos (show spot view[j] = sspot s from hs)]
    ·rw [if_neg hij, if_neg (fun h => hij (huniq i h1 h).symm)]
  ·obtain ⟨i, hi, rfl⟩ := List.mem_iff_getElem.1 hf
   have := huniq i hi he
   subst this; rfl
structure View (view : List S51) : Prop where
 right : viewR view
 free : ∀ f ∈ view, freeOk f = true
theorem stepV_mem {view : List S51} {s : S52} {P : S51 → Prop} : (∀ f ∈ stepV view s, P f) ↔ ∀ f ∈ view, P (if spot f = sspot s then moreF f s else f) := by
 unfold stepV
 simp only [List.mem_map]
 constructor
 ·intro h f hf; exact h _ ⟨f, hf, rfl⟩
 ·rintro h f ⟨g, hg, rfl⟩; exact h g hg
theorem View.step {view : List S51} (V : View view) {s : S52} (hs : maskOk s = true) (h0 : 0 ≤ s.f2) (hE : ∀ f ∈ view, spot f = sspot s → moreE f s = 0) : View (stepV view s) := by
 refine ⟨⟨stepV_mem.2 fun f hf => ?_, by rw [stepV_spots]; exact V.right.2⟩, stepV_mem.2 fun f hf => ?_⟩
 ·split
  ·rename_i h
   have h1 := (moreE_iff (V.free f hf) (V.right.1 f hf) hs h0).1 (hE f hf h)
   have h2 := V.right.1 f hf
   unfold cpOk at h2 ⊢
   have : (moreF f s).f2 = f.f2 + s.f2 := by unfold moreF; exact w_id (by omega)
   omega
  ·exact V.right.1 f hf
 ·split
  ·exact moreF_ok (V.free f hf) hs
  ·exact V.free f hf
theorem atS_cons (f : S51) (s : S52) (l : List S52) : atS f (s :: l) = if sspot s = spot f then s :: atS f l else atS f l := by
 unfold atS
 by_cases h : sspot s = spot f
 ·rw [if_pos h, List.filter_cons_of_pos (by simpa using h)]
 ·rw [if_neg h, List.filter_cons_of_neg (by simpa using h)]
theorem viewS_step (view : List S51) (s : S52) (l : List S52) : viewS (stepV view s) l = viewS view (s :: l) := by
 unfold viewS stepV
 rw [List.map_map]
 apply List.map_congr_left
 intro f _
 simp only [Function.comp_apply]
 by_cases h : spot f = sspot s
 ·rw [if_pos h, atS_moreF, atS_cons, if_pos h.symm]; rfl
 ·rw [if_neg h, atS_cons, if_neg (fun x => h x.symm)]
theorem turnF_iff : ∀ (slots : List S52) (view : List S51), View view → (∀ s ∈ slots, maskOk s = true) →
  ((turnF moreE moreF view slots).2 = 0 ↔ okS view slots) ∧ ((turnF moreE moreF view slots).2 = 0 → (turnF moreE moreF view slots).1 = viewS view slots)
 | [], view, V, _ => by
  refine ⟨⟨fun _ => ⟨by simp, fun f hf => ⟨by simp [atS], by simp [atS], ?_⟩⟩, fun _ => rfl⟩, fun _ => ?_⟩
  ·have := V.right.1 f hf
   unfold cpOk at this
   simp [atS]; omega
  ·unfold viewS atS turnF; simp
 | s :: ss, view, V, hm => by
  have hms := hm s (by simp)
  rw [turnF]
  by_cases h1 : s.f2 < 0
  ·rw [if_pos h1]
   exact ⟨⟨fun h => (by cases h), fun h => (by have := (h.pos s (by simp)).1; omega)⟩, fun h => (by cases h)⟩
  rw [if_neg h1]
  by_cases h2 : findI view s.f0.f0 s.f0.f1 < 0
  ·rw [if_pos h2]
   have hn := findI_neg.1 h2
   exact ⟨⟨fun h => (by cases h), fun h => absurd (h.pos s (by simp)).2 hn⟩, fun h => (by cases h)⟩
  rw [if_neg h2]
  obtain ⟨p, hp⟩ := Int.eq_ofNat_of_zero_le (show 0 ≤ findI view s.f0.f0 s.f0.f1 by omega)
  obtain ⟨hpl, hps, hset, huni⟩ := set_step V.right.2 hp
  have hin : sspot s ∈ view.map spot := List.mem_map.2 ⟨view[p], List.getElem_mem hpl, hps⟩
  rw [hp, Int.toNat_natCast, rd51' view p hpl]
  have hfp := V.free _ (List.getElem_mem hpl)
  have hcp := V.right.1 _ (List.getElem_mem hpl)
  have hall : (∀ f ∈ view, spot f = sspot s → moreE f s = 0) ↔ moreE view[p] s = 0 :=
   ⟨fun h => h _ (List.getElem_mem hpl) hps, fun h f hf he => by rw [huni f hf he]; exact h⟩
  by_cases h3 : moreE view[p] s = 0
  ·rw [if_pos h3, hset]
   have V' := V.step hms (by omega) (hall.2 h3)
   have ih := turnF_iff ss (stepV view s) V' (fun x hx => hm x (by simp [hx]))
   have hiff : okS (stepV view s) ss ↔ okS view (s :: ss) := by
    constructor
    ·rintro ⟨a, b⟩
     have hpos : ∀ x ∈ s :: ss, 0 ≤ x.f2 ∧ sspot x ∈ view.map spot := fun x hx => by
      rcases List.mem_cons.1 hx with rfl | hx
      ·exact ⟨by omega, hin⟩
      ·have := a x hx; rw [stepV_spots] at this; exact this
     refine ⟨hpos, fun f hf => ?_⟩
     have hb := stepV_mem.1 b f hf
     rw [atS_cons]
     by_cases he : spot f = sspot s
     ·rw [if_pos he, atS_moreF] at hb
      rw [if_pos he.symm]
      exact (okF_cons (V.free f hf) (V.right.1 f hf) hms (by omega) (fun x hx => (hpos x (by simp [(List.mem_filter.1 hx).1])).1)).2 ⟨hall.2 h3 f hf he, hb⟩
     ·rw [if_neg he] at hb
      rw [if_neg (fun x => he x.symm)]
      exact hb
    ·rintro ⟨a, b⟩
     refine ⟨fun x hx => by rw [stepV_spots]; exact a x (by simp [hx]), stepV_mem.2 fun f hf => ?_⟩
     have hb := b f hf
     rw [atS_cons] at hb
     by_cases he : spot f = sspot s
     ·rw [if_pos he.symm] at hb
      rw [if_pos he, atS_moreF]
      exact ((okF_cons (V.free f hf) (V.right.1 f hf) hms (by omega) (fun x hx => (a x (by simp [(List.mem_filter.1 hx).1])).1)).1 hb).2
     ·rw [if_neg (fun x => he x.symm)] at hb
      rw [if_neg he]; exact hb
   exact ⟨ih.1.trans hiff, fun h => by rw [ih.2 h, viewS_step]⟩
  ·rw [if_neg h3]
   refine ⟨⟨fun h => absurd h h3, fun h => ?_⟩, fun h => absurd h h3⟩
   have hb := h.fit _ (List.getElem_mem hpl)
   rw [atS_cons, if_pos hps.symm] at hb
   exact absurd ((okF_cons hfp hcp hms (by omega) (fun x hx => (h.pos x (by simp [(List.mem_filter.1 hx).1])).1)).1 hb).1 h3
theorem perm_sum {l l' : List Int} (h : l.Perm l') : l.sum = l'.sum := by
 induction h with
 | nil => rfl
 | cons x _ ih => rw [List.sum_cons, List.sum_cons, ih]
 | swap x y l => rw [List.sum_cons, List.sum_cons, List.sum_cons, List.sum_cons]; omega
 | trans _ _ h1 h2 => exact h1.trans h2
theorem sub_sum {l l' : List S52} (h : l'.Sublist l) : (∀ s ∈ l, 0 ≤ s.f2) → (l'.map fun s => s.f2).sum ≤ (l.map fun s => s.f2).sum := by
 induction h with
 | slnil => intro _; simp
 | cons x _ ih =>
  intro h0
  have h1 := ih (fun s hs => h0 s (by simp [hs]))
  have h2 := h0 x (by simp)
  rw [List.map_cons, List.sum_cons]; omega
 | cons_cons x _ ih =>
  intro h0
  have h1 := ih (fun s hs => h0 s (by simp [hs]))
  rw [List.map_cons, List.sum_cons, List.map_cons, List.sum_cons]; omega
theorem okF_perm {f : S51} {l l' : List S52} (h : l.Perm l') : okF f l → okF f l' := fun ⟨a, b, c⟩ =>
 ⟨fun s hs => a s (h.mem_iff.2 hs), (h.pairwise_iff (fun {x y} hxy => disj_comm hxy)).1 b, by rw [← perm_sum (h.map fun s => s.f2)]; exact c⟩
theorem okF_sub {f : S51} {l l' : List S52} (h : l'.Sublist l) (h0 : ∀ s ∈ l, 0 ≤ s.f2) : okF f l → okF f l' := fun ⟨a, b, c⟩ => by
 refine ⟨fun s hs => a s (h.subset hs), b.sublist h, ?_⟩
 have := sub_sum h h0
 omega
theorem okS_perm {view : List S51} {l l' : List S52} (h : l.Perm l') : okS view l → okS view l' := fun ⟨a, b⟩ =>
 ⟨fun s hs => a s (h.mem_iff.2 hs), fun f hf => okF_perm (h.filter _) (b f hf)⟩
theorem okS_sub {view : List S51} {l l' : List S52} (h : l'.Sublist l) : okS view l → okS view l' := fun ⟨a, b⟩ =>
 ⟨fun s hs => a s (h.subset hs), fun f hf => okF_sub (h.filter _) (fun s hs => (a s (List.mem_filter.1 hs).1).1) (b f hf)⟩
theorem viewS_perm {view : List S51} {l l' : List S52} (h : l.Perm l') : viewS view l = viewS view l' := by
 unfold viewS
 apply List.map_congr_left
 intro f _
 exact (h.filter _).foldl_eq' (fun x _ y _ z => moreF_comm z x y) _
theorem turnF_append {E : S51 → S52 → Int} {F : S51 → S52 → S51} : ∀ (a b : List S52) (view : List S51), (turnF E F view a).2 = 0 → turnF E F view (a ++ b) = turnF E F (turnF E F view a).1 b
 | [], b, view, _ => rfl
 | s :: ss, b, view, h => by
  rw [turnF] at h
  rw [List.cons_append, turnF, turnF]
  by_cases h1 : s.f2 < 0
  ·rw [if_pos h1] at h; cases h
  rw [if_neg h1] at h
  rw [if_neg h1, if_neg h1]
  by_cases h2 : findI view s.f0.f0 s.f0.f1 < 0
  ·rw [if_pos h2] at h; cases h
  rw [if_neg h2] at h
  rw [if_neg h2, if_neg h2]
  by_cases h3 : E (a4_ view (findI view s.f0.f0 s.f0.f1)) s = 0
  ·rw [if_pos h3] at h
   rw [if_pos h3, if_pos h3]
   exact turnF_append ss b _ h
  ·rw [if_neg h3] at h; exact absurd h h3
end Go.Proofs.Ytckhjehibjdjdaa.P
