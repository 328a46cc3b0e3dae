/- ElasticMore: part 3 of the walk and of the plain law that it comes to. No condition. -/
import Derived.Test.YtckhjehibjdjdaaZElasticMore2
import Derived.ArgAppend
import Derived.Below
import Derived.BigQuiet
import Derived.BigRegion
import Derived.Carry
import Derived.Deep.AppendLies
import Derived.Deep.CutBlock
import Derived.Deep.DeepCutAuto
import Derived.Deep.Draws
import Derived.Deep.LoopGhost
import Derived.Deep.OwnRows
import Derived.Deep.QuietTactic
import Derived.Deep.RegionHeld3
import Derived.DeepKeys3
import Derived.KernelRfl
import Derived.Laws.Bits64
import Derived.Laws.Bits64b
import Derived.Laws.BitsLemmas
import Derived.Laws.BytesArg
import Derived.Laws.Externs
import Derived.Laws.IdiomCopy
import Derived.Laws.MakeOwn
import Derived.Laws.OwnMore
import Derived.Laws.Rows
import Derived.Laws.Slices
import Derived.Lib.AppendStr
import Derived.Lib.ConvBytes
import Derived.Lib.ReflectliteSlice
import Derived.Lib.ReflectliteSwap
import Derived.Lib.SliceRun
import Derived.LoopIn
import Derived.LoopN
import Derived.LoopNIn
import Derived.Maps.AppendAt
import Derived.Maps.Keyed
import Derived.Maps.Own
import Derived.Maps.OwnOps
import Derived.Maps.OwnSet
import Derived.Maps.Views
import Derived.OrdersHeld
import Derived.Outline
import Derived.OwnWalk
import Derived.OwnWalkIn
import Derived.RangeFuncBound
import Derived.RangeFuncBox
import Derived.RangeFuncCalls
import Derived.RangeFuncFrom
import Derived.RangeFuncLeaves
import Derived.RangeFuncNested
import Derived.RowKit
import Derived.RowKit3
import Derived.Shelf.Abstract
import Derived.Shelf.RegionOpen
import Derived.StillTailTactics
import Derived.Tactics
import Derived.TacticsInMore
import Derived.WalkKit
import Derived.WideLaws
set_option linter.unusedVariables false
set_option linter.unusedSimpArgs false
namespace Go.Proofs.Ytckhjehibjdjdaa.P
open Go.RowKit Go.Proofs.YtckhjehibjdjdaaW.PrintWords Go.Proofs.YtckhjehibjdjdaaW.PrintLast Go.Proofs.YtckhjehibjdjdaaW.PrintMore
attribute [local go_sem] max2_int min2_int max_two min_two max_three min_three max_four min_four
def elastic_left.f (a0_0 a0_1 a0_2 a0_3 : Int) (l0_4 : List (S51)) (l0_5 : List (S24)) (l0_6 : List (S41)) (l0_7 : List (S105)) (l0_8 : List (S149)) (a1_0 a1_1 a1_2 a1_3 a1_4 a1_5 a1_6 a1_7 : Int) : Option (Int × Int × Int) := (shape_Check.f a1_4 a1_5 a1_6 a1_7).bind fun t873 => (if t873 = 0 then (if a1_1 < 0 then (some (0, 0, 3)) else (if a1_1 ≥ (l0_5.length : Int) then (some (0, 0, 3)) else (if 0 ≤ a1_1 then (if a1_1 < (l0_5.length : Int) then (some ((a7_ l0_5 a1_1).f0, (a7_ l0_5 a1_1).f1, 0)) else (none)) else (none)))) else (some (0, 0, t873)))
set_option maxHeartbeats 8000000 in
set_option maxRecDepth 100000 in
theorem elastic_left.calls (a0_0 a0_1 a0_2 a0_3 : Int) (A0_4 : Option Addr) (c0_4 : Nat) (l0_4 : List (S51)) (A0_5 : Option Addr) (c0_5 : Nat) (l0_5 : List (S24)) (A0_6 : Option Addr) (c0_6 : Nat) (l0_6 : List (S41)) (A0_7 : Option Addr) (c0_7 : Nat) (l0_7 : List (S105)) (A0_8 : Option Addr) (c0_8 : Nat) (l0_8 : List (S149)) (a1_0 a1_1 a1_2 a1_3 a1_4 a1_5 a1_6 a1_7 r1 r2 r3 : Int) (w : World) (hr0_4 : Kd.C k51 w A0_4 l0_4.length l0_4) (hc0_4 : l0_4.length ≤ c0_4) (hr0_5 : Kd.C k24 w A0_5 l0_5.length l0_5) (hc0_5 : l0_5.length ≤ c0_5) (hr0_6 : Kd.C k41 w A0_6 l0_6.length l0_6) (hc0_6 : l0_6.length ≤ c0_6) (hr0_7 : Kd.C k105 w A0_7 l0_7.length l0_7) (hc0_7 : l0_7.length ≤ c0_7) (hr0_8 : Kd.C k149 w A0_8 l0_8.length l0_8) (hc0_8 : l0_8.length ≤ c0_8) (h : elastic_left.f a0_0 a0_1 a0_2 a0_3 l0_4 l0_5 l0_6 l0_7 l0_8 a1_0 a1_1 a1_2 a1_3 a1_4 a1_5 a1_6 a1_7 = some (r1, r2, r3)) :
  Calls Try.prog 93 #[.agg #[.int .i64 a0_0, .int .i64 a0_1, .int .i64 a0_2, .int .i64 a0_3, .slice A0_4 l0_4.length c0_4, .slice A0_5 l0_5.length c0_5, .slice A0_6 l0_6.length c0_6, .slice A0_7 l0_7.length c0_7, .slice A0_8 l0_8.length c0_8], .agg #[.int .i64 a1_0, .int .i64 a1_1, .int .i64 a1_2, .int .i64 a1_3, .int .i64 a1_4, .int .i64 a1_5, .int .i64 a1_6, .int .i64 a1_7]] w fun e w' => e = .returned (.tuple #[.agg #[.int .i64 r1, .int .i64 r2], .int .i64 r3]) ∧ Below w.heap.size w w' := by
 have hu86 := Try.underlying86
 have hu88 := Try.underlying88
 have hu24 := Try.underlying24
 have hu27 := Try.underlying27
 have HR0_4 := m_ hr0_4
 have HC0_4 := m_ hc0_4
 clear hr0_4 hc0_4
 have HR0_5 := m_ hr0_5
 have HC0_5 := m_ hc0_5
 clear hr0_5 hc0_5
 have HR0_6 := m_ hr0_6
 have HC0_6 := m_ hc0_6
 clear hr0_6 hc0_6
 have HR0_7 := m_ hr0_7
 have HC0_7 := m_ hc0_7
 clear hr0_7 hc0_7
 have HR0_8 := m_ hr0_8
 have HC0_8 := m_ hc0_8
 clear hr0_8 hc0_8
 have HB := m_ (Below.refl w.heap.size w)
 have H : ((shape_Check.f a1_4 a1_5 a1_6 a1_7).bind fun t873 => (if t873 = 0 then (if a1_1 < 0 then (some (0, 0, 3)) else (if a1_1 ≥ (l0_5.length : Int) then (some (0, 0, 3)) else (if 0 ≤ a1_1 then (if a1_1 < (l0_5.length : Int) then (some ((a7_ l0_5 a1_1).f0, (a7_ l0_5 a1_1).f1, 0)) else (none)) else (none)))) else (some (0, 0, t873)))) = some (r1, r2, r3) := h
 clear h
 replace H := Option.bind_eq_some_iff.mp H
 obtain ⟨t873, A30, H⟩ := H
 replace H : (if t873 = 0 then (if a1_1 < 0 then (some (0, 0, 3)) else (if a1_1 ≥ (l0_5.length : Int) then (some (0, 0, 3)) else (if 0 ≤ a1_1 then (if a1_1 < (l0_5.length : Int) then (some ((a7_ l0_5 a1_1).f0, (a7_ l0_5 a1_1).f1, 0)) else (none)) else (none)))) else (some (0, 0, t873))) = some (r1, r2, r3) := H
 have A3 := m_ A30
 clear A30
 by_cases c4 : t873 = 0
 ·rw [if_pos c4] at H
  have c4b0 : (t873 == 0) = true := beq_iff_eq.mpr c4
  have c4b1 : (t873 != 0) = false := bne_eq_false_iff_eq.mpr c4
  clear c4
  by_cases c5 : a1_1 < 0
  ·rw [if_pos c5] at H
   have c5b0 : decide (a1_1 < 0) = true := decide_eq_true c5
   clear c5
   simp only [Option.some.injEq, Prod.mk.injEq] at H
   obtain ⟨rfl, rfl, rfl⟩ := H
   go_enter Try.func93, Try.ntmps93
   go_wp2_with (first | ((with_reducible refine a3_ (N := 2) rfl ?_); (try (refine gate_guard (by rfl) ?_; dsimp only)); refine bx 2 #[.int .i64 a0_0, .int .i64 a0_1, .int .i64 a0_2, .int .i64 a0_3, .slice A0_4 l0_4.length c0_4, .slice A0_5 l0_5.length c0_5, .slice A0_6 l0_6.length c0_6, .slice A0_7 l0_7.length c0_7, .slice A0_8 l0_8.length c0_8] 86 ?_; intro gb870 hg w6 hbox hb; have BK870 := m_ (hbox); have GW870 := ge_ hg; have GE870 := ge_ hg; replace HB := hs_ hb; clear hb hbox hg) | ((with_reducible refine a3_ (N := 3) rfl ?_); (try (refine gate_guard (by rfl) ?_; dsimp only)); refine bx 3 #[.int .i64 a1_0, .int .i64 a1_1, .int .i64 a1_2, .int .i64 a1_3, .int .i64 a1_4, .int .i64 a1_5, .int .i64 a1_6, .int .i64 a1_7] 88 ?_; intro gb871 hg w7 hbox hb; have BK871 := m_ (hbox); have GW871 := ge_ hg; have GE871 := ge_ hg; have NB870_871 := nl_ BK870 hg; have NB871_870 := nr_ BK870 hg; replace BK870 := bk_ BK870 hb; replace HB := hs_ hb; clear hb hbox hg) | ((with_reducible refine a3_ (N := 4) rfl ?_); (try (refine gate_guard (by rfl) ?_; dsimp only)); refine bx 4 #[.int .i64 0, .int .i64 0] 24 ?_; intro gb872 hg w8 hbox hb; have BK872 := m_ (hbox); have GW872 := ge_ hg; have GE872 := ge_ hg; have NB870_872 := nl_ BK870 hg; have NB872_870 := nr_ BK870 hg; have NB871_872 := nl_ BK871 hg; have NB872_871 := nr_ BK871 hg; replace BK870 := bk_ BK870 hb; replace BK871 := bk_ BK871 hb; replace HB := hs_ hb; clear hb hbox hg; have hnb9 := NB871_870.out; have hnc9 := NB870_871.out; have hnb10 := NB871_872.out; have hnc10 := NB872_871.out; obtain ⟨hcz11_0, hcz11_1, hcz11_2, hcz11_3, hcz11_4, hcz11_5, hcz11_6, hcz11_7, hfz11_0, hfz11_1, hfz11_2, hfz11_3, hfz11_4, hfz11_5, hfz11_6, hfz11_7⟩ := bz8_ BK871) | ((with_reducible refine b2_ (f := 83) rfl ?_); refine goesL_ (some 9) rfl rfl Try.func83 (by kernel_rfl) rfl #[.agg #[.int .i64 a1_4, .int .i64 a1_5, .int .i64 a1_6, .int .i64 a1_7]] rfl Z0 ?_; (with_reducible refine (shape_Check.calls a1_4 a1_5 a1_6 a1_7 t873 _ A3.out).mono ?_); rintro e w12 ⟨rfl, hb⟩; refine ⟨_, rfl, ?_⟩; replace BK870 := bk_ BK870 hb; replace BK871 := bk_ BK871 hb; replace BK872 := bk_ BK872 hb; replace HB := hs_ hb; (try clear hb); (try clear hb2); (try clear hk); (try clear hi); obtain ⟨hcz13_0, hcz13_1, hcz13_2, hcz13_3, hcz13_4, hcz13_5, hcz13_6, hcz13_7, hfz13_0, hfz13_1, hfz13_2, hfz13_3, hfz13_4, hfz13_5, hfz13_6, hfz13_7⟩ := bz8_ BK871; have hnb14 := NB872_870.out; have hnc14 := NB870_872.out; obtain ⟨hcz15_0, hcz15_1, hfz15_0, hfz15_1⟩ := bz2_ BK872))
   refine bodyPost_ret (results_ct rfl _ _ gb872 24 #[.int .i64 0, .int .i64 0] (0, 0) _ rfl (bt_ BK872) Try.underlying24 rfl (by kernel_rfl)) rfl ?_
   exact ⟨by first | rfl | (simp [b1_, b0_] <;> rfl) | (simp [*, b1_, b0_] <;> rfl), hb_⟩
  ·rw [if_neg c5] at H
   have c5b0 : decide (a1_1 < 0) = false := decide_eq_false c5
   clear c5
   by_cases c16 : a1_1 ≥ (l0_5.length : Int)
   ·rw [if_pos c16] at H
    have c16b0 : decide ((l0_5.length : Int) ≤ a1_1) = true := decide_eq_true c16
    clear c16
    simp only [Option.some.injEq, Prod.mk.injEq] at H
    obtain ⟨rfl, rfl, rfl⟩ := H
    go_enter Try.func93, Try.ntmps93
    go_wp2_with (first | ((with_reducible refine a3_ (N := 2) rfl ?_); (try (refine gate_guard (by rfl) ?_; dsimp only)); refine bx 2 #[.int .i64 a0_0, .int .i64 a0_1, .int .i64 a0_2, .int .i64 a0_3, .slice A0_4 l0_4.length c0_4, .slice A0_5 l0_5.length c0_5, .slice A0_6 l0_6.length c0_6, .slice A0_7 l0_7.length c0_7, .slice A0_8 l0_8.length c0_8] 86 ?_; intro gb870 hg w17 hbox hb; have BK870 := m_ (hbox); have GW870 := ge_ hg; have GE870 := ge_ hg; replace HB := hs_ hb; clear hb hbox hg) | ((with_reducible refine a3_ (N := 3) rfl ?_); (try (refine gate_guard (by rfl) ?_; dsimp only)); refine bx 3 #[.int .i64 a1_0, .int .i64 a1_1, .int .i64 a1_2, .int .i64 a1_3, .int .i64 a1_4, .int .i64 a1_5, .int .i64 a1_6, .int .i64 a1_7] 88 ?_; intro gb871 hg w18 hbox hb; have BK871 := m_ (hbox); have GW871 := ge_ hg; have GE871 := ge_ hg; have NB870_871 := nl_ BK870 hg; have NB871_870 := nr_ BK870 hg; replace BK870 := bk_ BK870 hb; replace HB := hs_ hb; clear hb hbox hg) | ((with_reducible refine a3_ (N := 4) rfl ?_); (try (refine gate_guard (by rfl) ?_; dsimp only)); refine bx 4 #[.int .i64 0, .int .i64 0] 24 ?_; intro gb872 hg w19 hbox hb; have BK872 := m_ (hbox); have GW872 := ge_ hg; have GE872 := ge_ hg; have NB870_872 := nl_ BK870 hg; have NB872_870 := nr_ BK870 hg; have NB871_872 := nl_ BK871 hg; have NB872_871 := nr_ BK871 hg; replace BK870 := bk_ BK870 hb; replace BK871 := bk_ BK871 hb; replace HB := hs_ hb; clear hb hbox hg; have hnb20 := NB871_870.out; have hnc20 := NB870_871.out; have hnb21 := NB871_872.out; have hnc21 := NB872_871.out; obtain ⟨hcz22_0, hcz22_1, hcz22_2, hcz22_3, hcz22_4, hcz22_5, hcz22_6, hcz22_7, hfz22_0, hfz22_1, hfz22_2, hfz22_3, hfz22_4, hfz22_5, hfz22_6, hfz22_7⟩ := bz8_ BK871) | ((with_reducible refine b2_ (f := 83) rfl ?_); refine goesL_ (some 9) rfl rfl Try.func83 (by kernel_rfl) rfl #[.agg #[.int .i64 a1_4, .int .i64 a1_5, .int .i64 a1_6, .int .i64 a1_7]] rfl Z0 ?_; (with_reducible refine (shape_Check.calls a1_4 a1_5 a1_6 a1_7 t873 _ A3.out).mono ?_); rintro e w23 ⟨rfl, hb⟩; refine ⟨_, rfl, ?_⟩; replace BK870 := bk_ BK870 hb; replace BK871 := bk_ BK871 hb; replace BK872 := bk_ BK872 hb; replace HB := hs_ hb; (try clear hb); (try clear hb2); (try clear hk); (try clear hi); obtain ⟨hcz24_0, hcz24_1, hcz24_2, hcz24_3, hcz24_4, hcz24_5, hcz24_6, hcz24_7, hfz24_0, hfz24_1, hfz24_2, hfz24_3, hfz24_4, hfz24_5, hfz24_6, hfz24_7⟩ := bz8_ BK871; have hnb25 := NB870_872.out; have hnc25 := NB872_870.out; obtain ⟨hcz26_0, hcz26_1, hcz26_2, hcz26_3, hcz26_4, hcz26_5, hcz26_6, hcz26_7, hcz26_8, hfz26_0, hfz26_1, hfz26_2, hfz26_3, hfz26_4, hfz26_5, hfz26_6, hfz26_7, hfz26_8⟩ := bz9_ BK870; obtain ⟨hcz27_0, hcz27_1, hfz27_0, hfz27_1⟩ := bz2_ BK872))
    refine bodyPost_ret (results_ct rfl _ _ gb872 24 #[.int .i64 0, .int .i64 0] (0, 0) _ rfl (bt_ BK872) Try.underlying24 rfl (by kernel_rfl)) rfl ?_
    exact ⟨by first | rfl | (simp [b1_, b0_] <;> rfl) | (simp [*, b1_, b0_] <;> rfl), hb_⟩
   ·rw [if_neg c16] at H
    have c16b0 : decide ((l0_5.length : Int) ≤ a1_1) = false := decide_eq_false c16
    clear c16
    by_cases c28 : 0 ≤ a1_1
    ·rw [if_pos c28] at H
     have c28b0 : decide (0 ≤ a1_1) = true := decide_eq_true c28
     clear c28
     by_cases c29 : a1_1 < (l0_5.length : Int)
     ·rw [if_pos c29] at H
      have c29b0 : decide (a1_1 < (l0_5.length : Int)) = true := decide_eq_true c29
      clear c29
      simp only [Option.some.injEq, Prod.mk.injEq] at H
      obtain ⟨rfl, rfl, rfl⟩ := H
      go_enter Try.func93, Try.ntmps93
      go_wp2_with (first | ((with_reducible refine a3_ (N := 2) rfl ?_); (try (refine gate_guard (by rfl) ?_; dsimp only)); refine bx 2 #[.int .i64 a0_0, .int .i64 a0_1, .int .i64 a0_2, .int .i64 a0_3, .slice A0_4 l0_4.length c0_4, .slice A0_5 l0_5.length c0_5, .slice A0_6 l0_6.length c0_6, .slice A0_7 l0_7.length c0_7, .slice A0_8 l0_8.length c0_8] 86 ?_; intro gb870 hg w30 hbox hb; have BK870 := m_ (hbox); have GW870 := ge_ hg; have GE870 := ge_ hg; replace HB := hs_ hb; clear hb hbox hg) | ((with_reducible refine a3_ (N := 3) rfl ?_); (try (refine gate_guard (by rfl) ?_; dsimp only)); refine bx 3 #[.int .i64 a1_0, .int .i64 a1_1, .int .i64 a1_2, .int .i64 a1_3, .int .i64 a1_4, .int .i64 a1_5, .int .i64 a1_6, .int .i64 a1_7] 88 ?_; intro gb871 hg w31 hbox hb; have BK871 := m_ (hbox); have GW871 := ge_ hg; have GE871 := ge_ hg; have NB870_871 := nl_ BK870 hg; have NB871_870 := nr_ BK870 hg; replace BK870 := bk_ BK870 hb; replace HB := hs_ hb; clear hb hbox hg) | ((with_reducible refine a3_ (N := 4) rfl ?_); (try (refine gate_guard (by rfl) ?_; dsimp only)); refine bx 4 #[.int .i64 0, .int .i64 0] 24 ?_; intro gb872 hg w32 hbox hb; have BK872 := m_ (hbox); have GW872 := ge_ hg; have GE872 := ge_ hg; have NB870_872 := nl_ BK870 hg; have NB872_870 := nr_ BK870 hg; have NB871_872 := nl_ BK871 hg; have NB872_871 := nr_ BK871 hg; replace BK870 := bk_ BK870 hb; replace BK871 := bk_ BK871 hb; replace HB := hs_ hb; clear hb hbox hg; have hnb33 := NB871_870.out; have hnc33 := NB870_871.out; have hnb34 := NB871_872.out; have hnc34 := NB872_871.out; obtain ⟨hcz35_0, hcz35_1, hcz35_2, hcz35_3, hcz35_4, hcz35_5, hcz35_6, hcz35_7, hfz35_0, hfz35_1, hfz35_2, hfz35_3, hfz35_4, hfz35_5, hfz35_6, hfz35_7⟩ := bz8_ BK871) | ((with_reducible refine b2_ (f := 83) rfl ?_); refine goesL_ (some 9) rfl rfl Try.func83 (by kernel_rfl) rfl #[.agg #[.int .i64 a1_4, .int .i64 a1_5, .int .i64 a1_6, .int .i64 a1_7]] rfl Z0 ?_; (with_reducible refine (shape_Check.calls a1_4 a1_5 a1_6 a1_7 t873 _ A3.out).mono ?_); rintro e w36 ⟨rfl, hb⟩; refine ⟨_, rfl, ?_⟩; replace BK870 := bk_ BK870 hb; replace BK871 := bk_ BK871 hb; replace BK872 := bk_ BK872 hb; replace HB := hs_ hb; (try clear hb); (try clear hb2); (try clear hk); (try clear hi); obtain ⟨hcz37_0, hcz37_1, hcz37_2, hcz37_3, hcz37_4, hcz37_5, hcz37_6, hcz37_7, hfz37_0, hfz37_1, hfz37_2, hfz37_3, hfz37_4, hfz37_5, hfz37_6, hfz37_7⟩ := bz8_ BK871; have hnb38 := NB870_872.out; have hnc38 := NB872_870.out; obtain ⟨hcz39_0, hcz39_1, hcz39_2, hcz39_3, hcz39_4, hcz39_5, hcz39_6, hcz39_7, hcz39_8, hfz39_0, hfz39_1, hfz39_2, hfz39_3, hfz39_4, hfz39_5, hfz39_6, hfz39_7, hfz39_8⟩ := bz9_ BK870; have p874 : 0 ≤ (a1_1 : Int) := of_decide_eq_true Z1; have q874 : a1_1 < (l0_5.length : Int) := of_decide_eq_true Z1; obtain ⟨ad874, e874, hx874_0, hx874_1⟩ := at_T24 HR0_5.out a1_1 p874 q874; cases e874; replace hx874_0 := cx_ hx874_0; replace hx874_1 := cx_ hx874_1; replace p874 := eq_true p874; replace q874 := eq_true q874; obtain ⟨hcz40_0, hcz40_1, hfz40_0, hfz40_1⟩ := bz2_ BK872))
      refine bodyPost_ret (results_ct rfl _ _ gb872 24 #[.int .i64 ((a7_ l0_5 a1_1).f0), .int .i64 ((a7_ l0_5 a1_1).f1)] (0, 0) _ rfl (bt_ BK872) Try.underlying24 rfl (by kernel_rfl)) rfl ?_
      exact ⟨by first | rfl | (simp [b1_, b0_] <;> rfl) | (simp [*, b1_, b0_] <;> rfl), hb_⟩
     ·rw [if_neg c29] at H
      exact absurd H (by simp)
    ·rw [if_neg c28] at H
     exact absurd H (by simp)
 ·rw [if_neg c4] at H
  have c4b0 : (t873 == 0) = false := beq_eq_false_iff_ne.mpr c4
  have c4b1 : (t873 != 0) = true := bne_iff_ne.mpr c4
  simp only [Option.some.injEq, Prod.mk.injEq] at H
  obtain ⟨rfl, rfl, rfl⟩ := H
  go_enter Try.func93, Try.ntmps93
  go_wp2_with (first | ((with_reducible refine a3_ (N := 2) rfl ?_); (try (refine gate_guard (by rfl) ?_; dsimp only)); refine bx 2 #[.int .i64 a0_0, .int .i64 a0_1, .int .i64 a0_2, .int .i64 a0_3, .slice A0_4 l0_4.length c0_4, .slice A0_5 l0_5.length c0_5, .slice A0_6 l0_6.length c0_6, .slice A0_7 l0_7.length c0_7, .slice A0_8 l0_8.length c0_8] 86 ?_; intro gb870 hg w41 hbox hb; have BK870 := m_ (hbox); have GW870 := ge_ hg; have GE870 := ge_ hg; replace HB := hs_ hb; clear hb hbox hg) | ((with_reducible refine a3_ (N := 3) rfl ?_); (try (refine gate_guard (by rfl) ?_; dsimp only)); refine bx 3 #[.int .i64 a1_0, .int .i64 a1_1, .int .i64 a1_2, .int .i64 a1_3, .int .i64 a1_4, .int .i64 a1_5, .int .i64 a1_6, .int .i64 a1_7] 88 ?_; intro gb871 hg w42 hbox hb; have BK871 := m_ (hbox); have GW871 := ge_ hg; have GE871 := ge_ hg; have NB870_871 := nl_ BK870 hg; have NB871_870 := nr_ BK870 hg; replace BK870 := bk_ BK870 hb; replace HB := hs_ hb; clear hb hbox hg) | ((with_reducible refine a3_ (N := 4) rfl ?_); (try (refine gate_guard (by rfl) ?_; dsimp only)); refine bx 4 #[.int .i64 0, .int .i64 0] 24 ?_; intro gb872 hg w43 hbox hb; have BK872 := m_ (hbox); have GW872 := ge_ hg; have GE872 := ge_ hg; have NB870_872 := nl_ BK870 hg; have NB872_870 := nr_ BK870 hg; have NB871_872 := nl_ BK871 hg; have NB872_871 := nr_ BK871 hg; replace BK870 := bk_ BK870 hb; replace BK871 := bk_ BK871 hb; replace HB := hs_ hb; clear hb hbox hg; have hnb44 := NB871_870.out; have hnc44 := NB870_871.out; have hnb45 := NB871_872.out; have hnc45 := NB872_871.out; obtain ⟨hcz46_0, hcz46_1, hcz46_2, hcz46_3, hcz46_4, hcz46_5, hcz46_6, hcz46_7, hfz46_0, hfz46_1, hfz46_2, hfz46_3, hfz46_4, hfz46_5, hfz46_6, hfz46_7⟩ := bz8_ BK871) | ((with_reducible refine b2_ (f := 83) rfl ?_); refine goesL_ (some 9) rfl rfl Try.func83 (by kernel_rfl) rfl #[.agg #[.int .i64 a1_4, .int .i64 a1_5, .int .i64 a1_6, .int .i64 a1_7]] rfl Z0 ?_; (with_reducible refine (shape_Check.calls a1_4 a1_5 a1_6 a1_7 t873 _ A3.out).mono ?_); rintro e w47 ⟨rfl, hb⟩; refine ⟨_, rfl, ?_⟩; replace BK870 := bk_ BK870 hb; replace BK871 := bk_ BK871 hb; replace BK872 := bk_ BK872 hb; replace HB := hs_ hb; (try clear hb); (try clear hb2); (try clear hk); (try clear hi); have hnb48 := NB872_870.out; have hnc48 := NB870_872.out; obtain ⟨hcz49_0, hcz49_1, hfz49_0, hfz49_1⟩ := bz2_ BK872))
  refine bodyPost_ret (results_ct rfl _ _ gb872 24 #[.int .i64 0, .int .i64 0] (0, 0) _ rfl (bt_ BK872) Try.underlying24 rfl (by kernel_rfl)) rfl ?_
  exact ⟨by first | rfl | (simp [b1_, b0_] <;> rfl) | (simp [*, b1_, b0_] <;> rfl), hb_⟩
def elastic_within.f (a0_0 a0_1 a0_2 a0_3 a1 a2_0 a2_1 : Int) : Option (Bool) := (shape_Units.f a0_0 a0_1 a0_2 a0_3 a1).bind fun bt877 => (if bt877.1 ≤ a2_0 then (some (decide (bt877.2.1 ≤ a2_1))) else (some false))
set_option maxHeartbeats 8000000 in
set_option maxRecDepth 100000 in
theorem elastic_within.calls (a0_0 a0_1 a0_2 a0_3 a1 a2_0 a2_1 : Int) (r : Bool) (w : World) (h : elastic_within.f a0_0 a0_1 a0_2 a0_3 a1 a2_0 a2_1 = some r) :
  Calls Try.prog 116 #[.agg #[.int .i64 a0_0, .int .i64 a0_1, .int .i64 a0_2, .int .i64 a0_3], .int .i64 a1, .agg #[.int .i64 a2_0, .int .i64 a2_1]] w fun e w' => e = .returned (.bool r) ∧ Below w.heap.size w w' := by
 have hu27 := Try.underlying27
 have hu24 := Try.underlying24
 have HB := m_ (Below.refl w.heap.size w)
 have H : ((shape_Units.f a0_0 a0_1 a0_2 a0_3 a1).bind fun bt877 => (if bt877.1 ≤ a2_0 then (some (decide (bt877.2.1 ≤ a2_1))) else (some false))) = some r := h
 clear h
 replace H := Option.bind_eq_some_iff.mp H
 obtain ⟨⟨t877, t878, t879⟩, A40, H⟩ := H
 replace H : (if t877 ≤ a2_0 then (some (decide (t878 ≤ a2_1))) else (some false)) = some r := H
 have A4 := m_ A40
 clear A40
 by_cases c5 : t877 ≤ a2_0
 ·rw [if_pos c5] at H
  have c5b0 : decide (t877 ≤ a2_0) = true := decide_eq_true c5
  clear c5
  obtain rfl := Option.some.inj H
  go_enter Try.func116, Try.ntmps116
  go_wp2_with (first | ((with_reducible refine a3_ (N := 3) rfl ?_); refine bx 3 #[.int .i64 a0_0, .int .i64 a0_1, .int .i64 a0_2, .int .i64 a0_3] 27 ?_; intro gb875 hg w6 hbox hb; have BK875 := m_ (hbox); have GW875 := ge_ hg; have GE875 := ge_ hg; replace HB := hs_ hb; clear hb hbox hg) | ((with_reducible refine a3_ (N := 5) rfl ?_); refine bx 5 #[.int .i64 a2_0, .int .i64 a2_1] 24 ?_; intro gb876 hg w7 hbox hb; have BK876 := m_ (hbox); have GW876 := ge_ hg; have GE876 := ge_ hg; have NB875_876 := nl_ BK875 hg; have NB876_875 := nr_ BK875 hg; replace BK875 := bk_ BK875 hb; replace HB := hs_ hb; clear hb hbox hg; have hnb8 := NB875_876.out; have hnc8 := NB876_875.out; obtain ⟨hcz9_0, hcz9_1, hcz9_2, hcz9_3, hfz9_0, hfz9_1, hfz9_2, hfz9_3⟩ := bz4_ BK875) | ((with_reducible refine b2_ (f := 76) rfl ?_); refine goesL_ (some 12) rfl rfl Try.func76 (by kernel_rfl) rfl #[.agg #[.int .i64 a0_0, .int .i64 a0_1, .int .i64 a0_2, .int .i64 a0_3], .int .i64 a1] rfl Z0 ?_; (with_reducible refine (shape_Units.calls a0_0 a0_1 a0_2 a0_3 a1 t877 t878 t879 _ A4.out).mono ?_); rintro e w10 ⟨rfl, hb⟩; refine ⟨_, rfl, ?_⟩; replace BK875 := bk_ BK875 hb; replace BK876 := bk_ BK876 hb; replace HB := hs_ hb; (try clear hb); (try clear hb2); (try clear hk); (try clear hi)) | ((with_reducible refine a3_ (N := 7) rfl ?_); refine bx 7 #[.int .i64 0, .int .i64 0] 24 ?_; intro gb880 hg w11 hbox hb; have BK880 := m_ (hbox); have GW880 := ge_ hg; have GE880 := ge_ hg; have NB875_880 := nl_ BK875 hg; have NB880_875 := nr_ BK875 hg; have NB876_880 := nl_ BK876 hg; have NB880_876 := nr_ BK876 hg; replace BK875 := bk_ BK875 hb; replace BK876 := bk_ BK876 hb; replace HB := hs_ hb; clear hb hbox hg; have hnb12 := NB880_875.out; have hnc12 := NB875_880.out; have hnb13 := NB880_876.out; have hnc13 := NB876_880.out; obtain ⟨hcz14_0, hcz14_1, hfz14_0, hfz14_1⟩ := bz2_ BK880; obtain ⟨hcz15_0, hcz15_1, hfz15_0, hfz15_1⟩ := bz2_ BK876))
  go_ret
  exact ⟨by first | rfl | (simp [b1_, b0_] <;> rfl) | (simp [*, b1_, b0_] <;> rfl), hb_⟩
 ·rw [if_neg c5] at H
  have c5b0 : decide (t877 ≤ a2_0) = false := decide_eq_false c5
  clear c5
  obtain rfl := Option.some.inj H
  go_enter Try.func116, Try.ntmps116
  go_wp2_with (first | ((with_reducible refine a3_ (N := 3) rfl ?_); refine bx 3 #[.int .i64 a0_0, .int .i64 a0_1, .int .i64 a0_2, .int .i64 a0_3] 27 ?_; intro gb875 hg w16 hbox hb; have BK875 := m_ (hbox); have GW875 := ge_ hg; have GE875 := ge_ hg; replace HB := hs_ hb; clear hb hbox hg) | ((with_reducible refine a3_ (N := 5) rfl ?_); refine bx 5 #[.int .i64 a2_0, .int .i64 a2_1] 24 ?_; intro gb876 hg w17 hbox hb; have BK876 := m_ (hbox); have GW876 := ge_ hg; have GE876 := ge_ hg; have NB875_876 := nl_ BK875 hg; have NB876_875 := nr_ BK875 hg; replace BK875 := bk_ BK875 hb; replace HB := hs_ hb; clear hb hbox hg; have hnb18 := NB875_876.out; have hnc18 := NB876_875.out; obtain ⟨hcz19_0, hcz19_1, hcz19_2, hcz19_3, hfz19_0, hfz19_1, hfz19_2, hfz19_3⟩ := bz4_ BK875) | ((with_reducible refine b2_ (f := 76) rfl ?_); refine goesL_ (some 12) rfl rfl Try.func76 (by kernel_rfl) rfl #[.agg #[.int .i64 a0_0, .int .i64 a0_1, .int .i64 a0_2, .int .i64 a0_3], .int .i64 a1] rfl Z0 ?_; (with_reducible refine (shape_Units.calls a0_0 a0_1 a0_2 a0_3 a1 t877 t878 t879 _ A4.out).mono ?_); rintro e w20 ⟨rfl, hb⟩; refine ⟨_, rfl, ?_⟩; replace BK875 := bk_ BK875 hb; replace BK876 := bk_ BK876 hb; replace HB := hs_ hb; (try clear hb); (try clear hb2); (try clear hk); (try clear hi)) | ((with_reducible refine a3_ (N := 7) rfl ?_); refine bx 7 #[.int .i64 0, .int .i64 0] 24 ?_; intro gb880 hg w21 hbox hb; have BK880 := m_ (hbox); have GW880 := ge_ hg; have GE880 := ge_ hg; have NB875_880 := nl_ BK875 hg; have NB880_875 := nr_ BK875 hg; have NB876_880 := nl_ BK876 hg; have NB880_876 := nr_ BK876 hg; replace BK875 := bk_ BK875 hb; replace BK876 := bk_ BK876 hb; replace HB := hs_ hb; clear hb hbox hg; have hnb22 := NB880_875.out; have hnc22 := NB875_880.out; have hnb23 := NB880_876.out; have hnc23 := NB876_880.out; obtain ⟨hcz24_0, hcz24_1, hfz24_0, hfz24_1⟩ := bz2_ BK880; obtain ⟨hcz25_0, hcz25_1, hfz25_0, hfz25_1⟩ := bz2_ BK876))
  go_ret
  exact ⟨by first | rfl | (simp [b1_, b0_] <;> rfl) | (simp [*, b1_, b0_] <;> rfl), hb_⟩
def elastic_can.f (k : Nat) (a0_0 a0_1 a0_2 a0_3 : Int) (l0_4 : List (S51)) (l0_5 : List (S24)) (l0_6 : List (S41)) (l0_7 : List (S105)) (l0_8 : List (S149)) (a1_0 a1_1 a1_2 a1_3 a2 a3_0 a3_1 : Int) : Option (Int) := (pack_Room.f k l0_4 a1_0 a1_1 a1_2 a1_3).bind fun t884 => (if t884 < a2 then (some 7) else ((elastic_within.f a1_0 a1_1 a1_2 a1_3 a2 a3_0 a3_1).bind fun t885 => (if t885 = true then (some 0) else (some 6))))
set_option maxHeartbeats 8000000 in
set_option maxRecDepth 100000 in
theorem elastic_can.calls (k : Nat) (a0_0 a0_1 a0_2 a0_3 : Int) (A0_4 : Option Addr) (c0_4 : Nat) (l0_4 : List (S51)) (A0_5 : Option Addr) (c0_5 : Nat) (l0_5 : List (S24)) (A0_6 : Option Addr) (c0_6 : Nat) (l0_6 : List (S41)) (A0_7 : Option Addr) (c0_7 : Nat) (l0_7 : List (S105)) (A0_8 : Option Addr) (c0_8 : Nat) (l0_8 : List (S149)) (a1_0 a1_1 a1_2 a1_3 a2 a3_0 a3_1 r : Int) (w : World) (hr0_4 : Kd.C k51 w A0_4 l0_4.length l0_4) (hc0_4 : l0_4.length ≤ c0_4) (hr0_5 : Kd.C k24 w A0_5 l0_5.length l0_5) (hc0_5 : l0_5.length ≤ c0_5) (hr0_6 : Kd.C k41 w A0_6 l0_6.length l0_6) (hc0_6 : l0_6.length ≤ c0_6) (hr0_7 : Kd.C k105 w A0_7 l0_7.length l0_7) (hc0_7 : l0_7.length ≤ c0_7) (hr0_8 : Kd.C k149 w A0_8 l0_8.length l0_8) (hc0_8 : l0_8.length ≤ c0_8) (h : elastic_can.f k a0_0 a0_1 a0_2 a0_3 l0_4 l0_5 l0_6 l0_7 l0_8 a1_0 a1_1 a1_2 a1_3 a2 a3_0 a3_1 = some r) :
  Calls Try.prog 94 #[.agg #[.int .i64 a0_0, .int .i64 a0_1, .int .i64 a0_2, .int .i64 a0_3, .slice A0_4 l0_4.length c0_4, .slice A0_5 l0_5.length c0_5, .slice A0_6 l0_6.length c0_6, .slice A0_7 l0_7.length c0_7, .slice A0_8 l0_8.length c0_8], .agg #[.int .i64 a1_0, .int .i64 a1_1, .int .i64 a1_2, .int .i64 a1_3], .int .i64 a2, .agg #[.int .i64 a3_0, .int .i64 a3_1]] w fun e w' => e = .returned (.int .i64 r) ∧ Below w.heap.size w w' := by
 have hu86 := Try.underlying86
 have hu27 := Try.underlying27
 have hu24 := Try.underlying24
 have HR0_4 := m_ hr0_4
 have HC0_4 := m_ hc0_4
 clear hr0_4 hc0_4
 have HR0_5 := m_ hr0_5
 have HC0_5 := m_ hc0_5
 clear hr0_5 hc0_5
 have HR0_6 := m_ hr0_6
 have HC0_6 := m_ hc0_6
 clear hr0_6 hc0_6
 have HR0_7 := m_ hr0_7
 have HC0_7 := m_ hc0_7
 clear hr0_7 hc0_7
 have HR0_8 := m_ hr0_8
 have HC0_8 := m_ hc0_8
 clear hr0_8 hc0_8
 have HB := m_ (Below.refl w.heap.size w)
 have H : ((pack_Room.f k l0_4 a1_0 a1_1 a1_2 a1_3).bind fun t884 => (if t884 < a2 then (some 7) else ((elastic_within.f a1_0 a1_1 a1_2 a1_3 a2 a3_0 a3_1).bind fun t885 => (if t885 = true then (some 0) else (some 6))))) = some r := h
 clear h
 replace H := Option.bind_eq_some_iff.mp H
 obtain ⟨t884, A50, H⟩ := H
 replace H : (if t884 < a2 then (some 7) else ((elastic_within.f a1_0 a1_1 a1_2 a1_3 a2 a3_0 a3_1).bind fun t885 => (if t885 = true then (some 0) else (some 6)))) = some r := H
 have A5 := m_ A50
 clear A50
 by_cases c6 : t884 < a2
 ·rw [if_pos c6] at H
  have c6b0 : decide (t884 < a2) = true := decide_eq_true c6
  clear c6
  obtain rfl := Option.some.inj H
  go_enter Try.func94, Try.ntmps94
  go_wp2_with (first | ((with_reducible refine a3_ (N := 4) rfl ?_); refine bx 4 #[.int .i64 a0_0, .int .i64 a0_1, .int .i64 a0_2, .int .i64 a0_3, .slice A0_4 l0_4.length c0_4, .slice A0_5 l0_5.length c0_5, .slice A0_6 l0_6.length c0_6, .slice A0_7 l0_7.length c0_7, .slice A0_8 l0_8.length c0_8] 86 ?_; intro gb881 hg w7 hbox hb; have BK881 := m_ (hbox); have GW881 := ge_ hg; have GE881 := ge_ hg; replace HB := hs_ hb; clear hb hbox hg) | ((with_reducible refine a3_ (N := 5) rfl ?_); refine bx 5 #[.int .i64 a1_0, .int .i64 a1_1, .int .i64 a1_2, .int .i64 a1_3] 27 ?_; intro gb882 hg w8 hbox hb; have BK882 := m_ (hbox); have GW882 := ge_ hg; have GE882 := ge_ hg; have NB881_882 := nl_ BK881 hg; have NB882_881 := nr_ BK881 hg; replace BK881 := bk_ BK881 hb; replace HB := hs_ hb; clear hb hbox hg) | ((with_reducible refine a3_ (N := 7) rfl ?_); refine bx 7 #[.int .i64 a3_0, .int .i64 a3_1] 24 ?_; intro gb883 hg w9 hbox hb; have BK883 := m_ (hbox); have GW883 := ge_ hg; have GE883 := ge_ hg; have NB881_883 := nl_ BK881 hg; have NB883_881 := nr_ BK881 hg; have NB882_883 := nl_ BK882 hg; have NB883_882 := nr_ BK882 hg; replace BK881 := bk_ BK881 hb; replace BK882 := bk_ BK882 hb; replace HB := hs_ hb; clear hb hbox hg; have hnb10 := NB881_882.out; have hnc10 := NB882_881.out; have hnb11 := NB881_883.out; have hnc11 := NB883_881.out; obtain ⟨hcz12_0, hcz12_1, hcz12_2, hcz12_3, hcz12_4, hcz12_5, hcz12_6, hcz12_7, hcz12_8, hfz12_0, hfz12_1, hfz12_2, hfz12_3, hfz12_4, hfz12_5, hfz12_6, hfz12_7, hfz12_8⟩ := bz9_ BK881; have hnb13 := NB882_883.out; have hnc13 := NB883_882.out; obtain ⟨hcz14_0, hcz14_1, hcz14_2, hcz14_3, hfz14_0, hfz14_1, hfz14_2, hfz14_3⟩ := bz4_ BK882) | ((with_reducible refine b2_ (f := 50) rfl ?_); refine goesL_ (some 13) rfl rfl Try.func50 (by kernel_rfl) rfl #[.slice A0_4 l0_4.length c0_4, .agg #[.int .i64 a1_0, .int .i64 a1_1, .int .i64 a1_2, .int .i64 a1_3]] rfl Z0 ?_; (with_reducible refine (pack_Room.calls k _ _ l0_4 a1_0 a1_1 a1_2 a1_3 t884 _ ?side1 ?side2 A5.out).mono ?_); (case side1 => exact cs_ HR0_4); (case side2 => exact HC0_4.out); rintro e w15 ⟨rfl, hb⟩; refine ⟨_, rfl, ?_⟩; replace BK881 := bk_ BK881 hb; replace BK882 := bk_ BK882 hb; replace BK883 := bk_ BK883 hb; replace HB := hs_ hb; (try clear hb); (try clear hb2); (try clear hk); (try clear hi)))
  go_ret
  exact ⟨by first | rfl | (simp [b1_, b0_] <;> rfl) | (simp [*, b1_, b0_] <;> rfl), hb_⟩
 ·rw [if_neg c6] at H
  have c6b0 : decide (t884 < a2) = false := decide_eq_false c6
  clear c6
  replace H := Option.bind_eq_some_iff.mp H
  obtain ⟨t885, A160, H⟩ := H
  replace H : (if t885 = true then (some 0) else (some 6)) = some r := H
  have A16 := m_ A160
  clear A160
  by_cases c17 : t885 = true
  ·subst c17
   have H1 : (some 0) = some r := by rw [if_pos rfl] at H; exact H
   clear H
   have H := H1
   clear H1
   obtain rfl := Option.some.inj H
   go_enter Try.func94, Try.ntmps94
   go_wp2_with (first | ((with_reducible refine a3_ (N := 4) rfl ?_); refine bx 4 #[.int .i64 a0_0, .int .i64 a0_1, .int .i64 a0_2, .int .i64 a0_3, .slice A0_4 l0_4.length c0_4, .slice A0_5 l0_5.length c0_5, .slice A0_6 l0_6.length c0_6, .slice A0_7 l0_7.length c0_7, .slice A0_8 l0_8.length c0_8] 86 ?_; intro gb881 hg w18 hbox hb; have BK881 := m_ (hbox); have GW881 := ge_ hg; have GE881 := ge_ hg; replace HB := hs_ hb; clear hb hbox hg) | ((with_reducible refine a3_ (N := 5) rfl ?_); refine bx 5 #[.int .i64 a1_0, .int .i64 a1_1, .int .i64 a1_2, .int .i64 a1_3] 27 ?_; intro gb882 hg w19 hbox hb; have BK882 := m_ (hbox); have GW882 := ge_ hg; have GE882 := ge_ hg; have NB881_882 := nl_ BK881 hg; have NB882_881 := nr_ BK881 hg; replace BK881 := bk_ BK881 hb; replace HB := hs_ hb; clear hb hbox hg) | ((with_reducible refine a3_ (N := 7) rfl ?_); refine bx 7 #[.int .i64 a3_0, .int .i64 a3_1] 24 ?_; intro gb883 hg w20 hbox hb; have BK883 := m_ (hbox); have GW883 := ge_ hg; have GE883 := ge_ hg; have NB881_883 := nl_ BK881 hg; have NB883_881 := nr_ BK881 hg; have NB882_883 := nl_ BK882 hg; have NB883_882 := nr_ BK882 hg; replace BK881 := bk_ BK881 hb; replace BK882 := bk_ BK882 hb; replace HB := hs_ hb; clear hb hbox hg; have hnb21 := NB881_882.out; have hnc21 := NB882_881.out; have hnb22 := NB881_883.out; have hnc22 := NB883_881.out; obtain ⟨hcz23_0, hcz23_1, hcz23_2, hcz23_3, hcz23_4, hcz23_5, hcz23_6, hcz23_7, hcz23_8, hfz23_0, hfz23_1, hfz23_2, hfz23_3, hfz23_4, hfz23_5, hfz23_6, hfz23_7, hfz23_8⟩ := bz9_ BK881; have hnb24 := NB882_883.out; have hnc24 := NB883_882.out; obtain ⟨hcz25_0, hcz25_1, hcz25_2, hcz25_3, hfz25_0, hfz25_1, hfz25_2, hfz25_3⟩ := bz4_ BK882) | ((with_reducible refine b2_ (f := 50) rfl ?_); refine goesL_ (some 13) rfl rfl Try.func50 (by kernel_rfl) rfl #[.slice A0_4 l0_4.length c0_4, .agg #[.int .i64 a1_0, .int .i64 a1_1, .int .i64 a1_2, .int .i64 a1_3]] rfl Z0 ?_; (with_reducible refine (pack_Room.calls k _ _ l0_4 a1_0 a1_1 a1_2 a1_3 t884 _ ?side1 ?side2 A5.out).mono ?_); (case side1 => exact cs_ HR0_4); (case side2 => exact HC0_4.out); rintro e w26 ⟨rfl, hb⟩; refine ⟨_, rfl, ?_⟩; replace BK881 := bk_ BK881 hb; replace BK882 := bk_ BK882 hb; replace BK883 := bk_ BK883 hb; replace HB := hs_ hb; (try clear hb); (try clear hb2); (try clear hk); (try clear hi); obtain ⟨hcz27_0, hcz27_1, hcz27_2, hcz27_3, hfz27_0, hfz27_1, hfz27_2, hfz27_3⟩ := bz4_ BK882; obtain ⟨hcz28_0, hcz28_1, hfz28_0, hfz28_1⟩ := bz2_ BK883) | ((with_reducible refine b2_ (f := 116) rfl ?_); refine goesL_ (some 20) rfl rfl Try.func116 (by kernel_rfl) rfl #[.agg #[.int .i64 a1_0, .int .i64 a1_1, .int .i64 a1_2, .int .i64 a1_3], .int .i64 a2, .agg #[.int .i64 a3_0, .int .i64 a3_1]] rfl Z0 ?_; (with_reducible refine (elastic_within.calls a1_0 a1_1 a1_2 a1_3 a2 a3_0 a3_1 true _ A16.out).mono ?_); rintro e w29 ⟨rfl, hb⟩; refine ⟨_, rfl, ?_⟩; replace BK881 := bk_ BK881 hb; replace BK882 := bk_ BK882 hb; replace BK883 := bk_ BK883 hb; replace HB := hs_ hb; (try clear hb); (try clear hb2); (try clear hk); (try clear hi)))
   go_ret
   exact ⟨by first | rfl | (simp [b1_, b0_] <;> rfl) | (simp [*, b1_, b0_] <;> rfl), hb_⟩
  ·replace c17 := Bool.eq_false_iff.mpr c17
   subst c17
   have H1 : (some 6) = some r := by rw [if_neg (show ¬ (false = true) by decide)] at H; exact H
   clear H
   have H := H1
   clear H1
   obtain rfl := Option.some.inj H
   go_enter Try.func94, Try.ntmps94
   go_wp2_with (first | ((with_reducible refine a3_ (N := 4) rfl ?_); refine bx 4 #[.int .i64 a0_0, .int .i64 a0_1, .int .i64 a0_2, .int .i64 a0_3, .slice A0_4 l0_4.length c0_4, .slice A0_5 l0_5.length c0_5, .slice A0_6 l0_6.length c0_6, .slice A0_7 l0_7.length c0_7, .slice A0_8 l0_8.length c0_8] 86 ?_; intro gb881 hg w30 hbox hb; have BK881 := m_ (hbox); have GW881 := ge_ hg; have GE881 := ge_ hg; replace HB := hs_ hb; clear hb hbox hg) | ((with_reducible refine a3_ (N := 5) rfl ?_); refine bx 5 #[.int .i64 a1_0, .int .i64 a1_1, .int .i64 a1_2, .int .i64 a1_3] 27 ?_; intro gb882 hg w31 hbox hb; have BK882 := m_ (hbox); have GW882 := ge_ hg; have GE882 := ge_ hg; have NB881_882 := nl_ BK881 hg; have NB882_881 := nr_ BK881 hg; replace BK881 := bk_ BK881 hb; replace HB := hs_ hb; clear hb hbox hg) | ((with_reducible refine a3_ (N := 7) rfl ?_); refine bx 7 #[.int .i64 a3_0, .int .i64 a3_1] 24 ?_; intro gb883 hg w32 hbox hb; have BK883 := m_ (hbox); have GW883 := ge_ hg; have GE883 := ge_ hg; have NB881_883 := nl_ BK881 hg; have NB883_881 := nr_ BK881 hg; have NB882_883 := nl_ BK882 hg; have NB883_882 := nr_ BK882 hg; replace BK881 := bk_ BK881 hb; replace BK882 := bk_ BK882 hb; replace HB := hs_ hb; clear hb hbox hg; have hnb33 := NB881_882.out; have hnc33 := NB882_881.out; have hnb34 := NB881_883.out; have hnc34 := NB883_881.out; obtain ⟨hcz35_0, hcz35_1, hcz35_2, hcz35_3, hcz35_4, hcz35_5, hcz35_6, hcz35_7, hcz35_8, hfz35_0, hfz35_1, hfz35_2, hfz35_3, hfz35_4, hfz35_5, hfz35_6, hfz35_7, hfz35_8⟩ := bz9_ BK881; have hnb36 := NB882_883.out; have hnc36 := NB883_882.out; obtain ⟨hcz37_0, hcz37_1, hcz37_2, hcz37_3, hfz37_0, hfz37_1, hfz37_2, hfz37_3⟩ := bz4_ BK882) | ((with_reducible refine b2_ (f := 50) rfl ?_); refine goesL_ (some 13) rfl rfl Try.func50 (by kernel_rfl) rfl #[.slice A0_4 l0_4.length c0_4, .agg #[.int .i64 a1_0, .int .i64 a1_1, .int .i64 a1_2, .int .i64 a1_3]] rfl Z0 ?_; (with_reducible refine (pack_Room.calls k _ _ l0_4 a1_0 a1_1 a1_2 a1_3 t884 _ ?side1 ?side2 A5.out).mono ?_); (case side1 => exact cs_ HR0_4); (case side2 => exact HC0_4.out); rintro e w38 ⟨rfl, hb⟩; refine ⟨_, rfl, ?_⟩; replace BK881 := bk_ BK881 hb; replace BK882 := bk_ BK882 hb; replace BK883 := bk_ BK883 hb; replace HB := hs_ hb; (try clear hb); (try clear hb2); (try clear hk); (try clear hi); obtain ⟨hcz39_0, hcz39_1, hcz39_2, hcz39_3, hfz39_0, hfz39_1, hfz39_2, hfz39_3⟩ := bz4_ BK882; obtain ⟨hcz40_0, hcz40_1, hfz40_0, hfz40_1⟩ := bz2_ BK883) | ((with_reducible refine b2_ (f := 116) rfl ?_); refine goesL_ (some 20) rfl rfl Try.func116 (by kernel_rfl) rfl #[.agg #[.int .i64 a1_0, .int .i64 a1_1, .int .i64 a1_2, .int .i64 a1_3], .int .i64 a2, .agg #[.int .i64 a3_0, .int .i64 a3_1]] rfl Z0 ?_; (with_reducible refine (elastic_within.calls a1_0 a1_1 a1_2 a1_3 a2 a3_0 a3_1 false _ A16.out).mono ?_); rintro e w41 ⟨rfl, hb⟩; refine ⟨_, rfl, ?_⟩; replace BK881 := bk_ BK881 hb; replace BK882 := bk_ BK882 hb; replace BK883 := bk_ BK883 hb; replace HB := hs_ hb; (try clear hb); (try clear hb2); (try clear hk); (try clear hi)))
   go_ret
   exact ⟨by first | rfl | (simp [b1_, b0_] <;> rfl) | (simp [*, b1_, b0_] <;> rfl), hb_⟩
end Go.Proofs.Ytckhjehibjdjdaa.P
namespace Go.Proofs.Ytckhjehibjdjdaa.P
open Go.RowKit Go.Shelf Go.Proofs.YtckhjehibjdjdaaW.PrintWords Go.Proofs.YtckhjehibjdjdaaW.PrintLast Go.Proofs.YtckhjehibjdjdaaW.PrintMore
open Go.Proofs.Ytckhjehibjdjdaa.RF
attribute [local go_sem] Oper.semAt_some
def withB (g c n lg lc : Int) : Bool := decide (g * n ≤ lg) && decide (c * n ≤ lc)
def canB (view : List S51) (g c mn mx n lg lc : Int) : Int := if roomS g c mn mx view < n then 7 else if withB g c n lg lc = true then 0 else 6
theorem can_eq (k : Nat) (a0 a1 a2 a3 : Int) (view : List S51) (l5 : List S24) (l6 : List S41) (l7 : List S105) (l8 : List S149) (g c mn mx n lg lc : Int) (hk : view.length + 1 ≤ k) (hl : view.length ≤ 1000000) (hv : ∀ f ∈ view, freeOk f = true)
  (hg : c7_ g c mn mx = true) (h0 : 0 ≤ n) (h1 : n ≤ 16) : elastic_can.f k a0 a1 a2 a3 view l5 l6 l7 l8 g c mn mx n lg lc = some (canB view g c mn mx n lg lc) := by
 have hb := good_out0 hg
 have e1 : wrap64 (g * n) = g * n := by
  have : 0 ≤ g * n := Int.mul_nonneg hb.1 h0
  have : g * n ≤ 16 * 16 := Int.mul_le_mul hb.2.1 h1 h0 (by decide)
  unfold wrap64; omega
 have e2 : wrap64 (c * n) = c * n := by
  have : 0 ≤ c * n := Int.mul_nonneg hb.2.2.1 h0
  have : c * n ≤ 1024 * 16 := Int.mul_le_mul hb.2.2.2 h1 h0 (by decide)
  unfold wrap64; omega
 unfold elastic_can.f
 rw [room_eq k view g c mn mx hk (by omega) hv, Option.bind_some]
 unfold canB
 by_cases hr : roomS g c mn mx view < n
 ·rw [if_pos hr, if_pos hr]
 rw [if_neg hr, if_neg hr]
 unfold elastic_within.f shape_Units.f shape_Check.f
 rw [if_pos hg, Option.bind_some, if_pos rfl, if_neg (by omega), if_neg (by omega), Option.bind_some]
 simp only [e1, e2]
 unfold withB
 by_cases h2 : g * n ≤ lg
 ·rw [if_pos h2, Option.bind_some, decide_eq_true h2, Bool.true_and]
  by_cases h3 : c * n ≤ lc
  ·rw [decide_eq_true h3, if_pos rfl, if_pos rfl]
  ·rw [decide_eq_false h3, if_neg (by decide), if_neg (by decide)]
 ·rw [if_neg h2, Option.bind_some, decide_eq_false h2, Bool.false_and, if_neg (by decide), if_neg (by decide)]
def leftB (left : List S24) (q g c mn mx : Int) : Int × Int × Int :=
 if c7_ g c mn mx = true then (if 0 ≤ q ∧ q < left.length then ((a7_ left q).f0, (a7_ left q).f1, 0) else (0, 0, 3)) else (0, 0, 1)
theorem left_eq0 (a0 a1 a2 a3 : Int) (view : List S51) (l5 : List S24) (l6 : List S41) (l7 : List S105) (l8 : List S149) (b0 q b2 b3 g c mn mx : Int) :
  elastic_left.f a0 a1 a2 a3 view l5 l6 l7 l8 b0 q b2 b3 g c mn mx = some (leftB l5 q g c mn mx) := by
 unfold elastic_left.f shape_Check.f leftB
 by_cases hg : c7_ g c mn mx = true
 ·rw [if_pos hg, Option.bind_some, if_pos rfl, if_pos hg]
  by_cases h0 : q < 0
  ·rw [if_pos h0, if_neg (by omega)]
  ·rw [if_neg h0]
   by_cases h1 : q ≥ (l5.length : Int)
   ·rw [if_pos h1, if_neg (by omega)]
   ·rw [if_neg h1, if_pos (by omega), if_pos (by omega), if_pos ⟨by omega, by omega⟩]
 ·rw [if_neg hg, Option.bind_some, if_neg (by decide), if_neg hg]
def firstGo (view : List S51) (g c mn mx lg lc : Int) : Option Int := (downL mx mn).find? fun n => canB view g c mn mx n lg lc == 0
def mostB (view : List S51) (left : List S24) (q g c mn mx : Int) : List S52 × Int :=
 if (leftB left q g c mn mx).2.2 ≠ 0 then ([], (leftB left q g c mn mx).2.2) else
 if canB view g c mn mx mn (leftB left q g c mn mx).1 (leftB left q g c mn mx).2.1 ≠ 0 then ([], canB view g c mn mx mn (leftB left q g c mn mx).1 (leftB left q g c mn mx).2.1) else
 match firstGo view g c mn mx (leftB left q g c mn mx).1 (leftB left q g c mn mx).2.1 with
 | some n => placeB view g c mn mx n
 | none => ([], 7)
def elastic_Most.f (a0_0 a0_1 a0_2 a0_3 : Int) (l0_4 : List (S51)) (l0_5 : List (S24)) (l0_6 : List (S41)) (l0_7 : List (S105)) (l0_8 : List (S149)) (a1_0 a1_1 a1_2 a1_3 a1_4 a1_5 a1_6 a1_7 : Int) : Option ((List (S52)) × Int) :=
 if placeOk l0_4 = true then some (mostB l0_4 l0_5 a1_1 a1_4 a1_5 a1_6 a1_7) else none
theorem good_out1 {g c mn mx : Int} (h : c7_ g c mn mx = true) : 1 ≤ mn ∧ mn ≤ mx ∧ mx ≤ 16 := by
 simp only [c7_, Bool.and_eq_true, decide_eq_true_eq] at h
 omega
theorem R_own {α : Type} {d : Kd α} {e base : Nat} {ok : Nat → Prop} {W W' : World} {v : Value} {xs : List α} (h : d.R e W base ok v xs) {row : Option Nat} (hg : W.grownBy W' row) (hr : ∀ r, row = some r → ∃ o : Obj, W.heap[r]? = some o ∧ o.isCells = false) : d.R e W' base ok v xs := by
 refine Kd.R_mono (Kd.R_move (Kd.R_bound h) (fun k hk => hg.block k hk.2.2.1 (fun he => ?_))) (fun _ hk => hk.1)
 obtain ⟨_, _, _, q, hq, cells, hc⟩ := hk
 obtain ⟨o, ho, hn⟩ := hr k he.symm
 rw [hc] at ho; cases ho; cases hn
theorem blk_own {W W' : World} {g : Nat} {cs : Array Value} {t : TypeId} (h : W.heap[g]? = some (.cells cs t (0, 0))) {row : Option Nat} (hg : W.grownBy W' row) (hr : ∀ r, row = some r → ∃ o : Obj, W.heap[r]? = some o ∧ o.isCells = false) : W'.heap[g]? = some (.cells cs t (0, 0)) := by
 refine (hg.block g (c4_ h) (fun he => ?_)).trans h
 obtain ⟨o, ho, hn⟩ := hr g he.symm
 rw [h] at ho; cases ho; cases hn
def Stands (w : World) (g4 g5 : Nat) (r : List S52 × Int) (W : World) : Prop :=
 ∃ v, W.heap[g4]? = some (.cells #[v] 39 (0, 0)) ∧ W.heap[g5]? = some (.cells #[.int .i64 r.2] 32 (0, 0)) ∧ Kd.R k52 52 W w.heap.size (fun _ => True) v r.1 ∧ Below w.heap.size w W
theorem Stands.own {w : World} {g4 g5 : Nat} {r : List S52 × Int} {B : Nat} (hB : w.heap.size ≤ B) : OwnFrom B (fun (_ : Unit) W => Stands w g4 g5 r W) := by
 rintro _ A C row ⟨v, h1, h2, h3, h4⟩ hg hr
 have hr' : ∀ r, row = some r → ∃ o : Obj, A.heap[r]? = some o ∧ o.isCells = false := fun r e => (hr r e).2
 exact ⟨v, blk_own h1 hg hr', blk_own h2 hg hr', R_own h3 hg hr', h4.grown hg h4.size (fun k e => Nat.le_trans hB (hr k e).1)⟩
theorem Stands.mark {w : World} {g4 g5 : Nat} {r : List S52 × Int} {W : World} {D : Nat} (h : Stands w g4 g5 r W) (hD : w.heap.size ≤ D) (hK : W.heap[D]? = some (.deferred (some []))) : Stands w g4 g5 r (W.putObj D (.deferred none)) :=
 Stands.own (Nat.le_refl _) () _ _ (some D) h (grownBy_putObj' W D _) (fun r e => by cases e; exact ⟨hD, _, hK, rfl⟩)
theorem results57 {tmps : Array Value} {w : World} {g4 g5 : Nat} {v u : Value} {t t' : TypeId} (h4 : tmps.getD 4 undef = .pointer (some ⟨g4, 0, none⟩)) (h5 : tmps.getD 5 undef = .pointer (some ⟨g5, 0, none⟩))
  (b4 : w.heap[g4]? = some (.cells #[v] t (0, 0))) (b5 : w.heap[g5]? = some (.cells #[u] t' (0, 0))) : (results Try.f57 tmps).run Try.prog w = .ok (.tuple #[v, u]) w := by
 have h4' : tmps[4]?.getD undef = .pointer (some ⟨g4, 0, none⟩) := by simpa using h4
 have h5' : tmps[5]?.getD undef = .pointer (some ⟨g5, 0, none⟩) := by simpa using h5
 have c4 : w.cell? ⟨g4, 0, none⟩ = some v := (a0_ b4 0).trans rfl
 have c5 : w.cell? ⟨g5, 0, none⟩ = some u := (a0_ b5 0).trans rfl
 have hu39 := Try.underlying39
 have hu32 := Try.underlying32
 simp [results, Try.f57, go_sem, h4', h5', c4, c5, hu39, hu32]
set_option maxHeartbeats 8000000 in
set_option maxRecDepth 100000 in
theorem most_left (a0_0 a0_1 a0_2 a0_3 : Int) (A0_4 : Option Addr) (c0_4 : Nat) (l0_4 : List (S51)) (A0_5 : Option Addr) (c0_5 : Nat) (l0_5 : List (S24)) (A0_6 : Option Addr) (c0_6 : Nat) (l0_6 : List (S41)) (A0_7 : Option Addr) (c0_7 : Nat) (l0_7 : List (S105)) (A0_8 : Option Addr) (c0_8 : Nat) (l0_8 : List (S149)) (a1_0 a1_1 a1_2 a1_3 a1_4 a1_5 a1_6 a1_7 lg lc e0 : Int) (w : World) (hr0_4 : Kd.C k51 w A0_4 l0_4.length l0_4) (hc0_4 : l0_4.length ≤ c0_4) (hr0_5 : Kd.C k24 w A0_5 l0_5.length l0_5) (hc0_5 : l0_5.length ≤ c0_5) (hr0_6 : Kd.C k41 w A0_6 l0_6.length l0_6) (hc0_6 : l0_6.length ≤ c0_6) (hr0_7 : Kd.C k105 w A0_7 l0_7.length l0_7) (hc0_7 : l0_7.length ≤ c0_7) (hr0_8 : Kd.C k149 w A0_8 l0_8.length l0_8) (hc0_8 : l0_8.length ≤ c0_8) (hL : elastic_left.f a0_0 a0_1 a0_2 a0_3 l0_4 l0_5 l0_6 l0_7 l0_8 a1_0 a1_1 a1_2 a1_3 a1_4 a1_5 a1_6 a1_7 = some (lg, lc, e0)) (he : e0 ≠ 0) :
  Calls Try.prog 57 #[.agg #[.int .i64 a0_0, .int .i64 a0_1, .int .i64 a0_2, .int .i64 a0_3, .slice A0_4 l0_4.length c0_4, .slice A0_5 l0_5.length c0_5, .slice A0_6 l0_6.length c0_6, .slice A0_7 l0_7.length c0_7, .slice A0_8 l0_8.length c0_8], .agg #[.int .i64 a1_0, .int .i64 a1_1, .int .i64 a1_2, .int .i64 a1_3, .int .i64 a1_4, .int .i64 a1_5, .int .i64 a1_6, .int .i64 a1_7]] w fun e w' => ∃ v0_ : Value, e = .returned (.tuple #[v0_, .int .i64 e0]) ∧ Kd.R k52 52 w' w.heap.size (fun _ => True) v0_ [] ∧ Below w.heap.size w w' := by
 have hu86 := Try.underlying86
 have hu88 := Try.underlying88
 have hu24 := Try.underlying24
 have hu39 := Try.underlying39
 have hu32 := Try.underlying32
 have HR0_4 := m_ hr0_4
 have HC0_4 := m_ hc0_4
 clear hr0_4 hc0_4
 have HR0_5 := m_ hr0_5
 have HC0_5 := m_ hc0_5
 clear hr0_5 hc0_5
 have HR0_6 := m_ hr0_6
 have HC0_6 := m_ hc0_6
 clear hr0_6 hc0_6
 have HR0_7 := m_ hr0_7
 have HC0_7 := m_ hc0_7
 clear hr0_7 hc0_7
 have HR0_8 := m_ hr0_8
 have HC0_8 := m_ hc0_8
 clear hr0_8 hc0_8
 have HL := m_ hL
 have HB := m_ (Below.refl w.heap.size w)
 have t0 : (e0 != 0) = true := by simpa using he
 clear hL he
 refine calls_marks Try.func57 rfl ?_
 simp only [Try.ntmps57, List.size_toArray, List.length_cons, List.length_nil, Nat.reduceAdd, Nat.reduceSub, Array.replicate_succ, Array.replicate_zero, List.push_toArray, List.append_toArray, List.nil_append, List.cons_append]
 go_upto_region 2 with (first | ((with_reducible refine a3_ (N := 2) rfl ?_); refine bx 2 #[.int .i64 a0_0, .int .i64 a0_1, .int .i64 a0_2, .int .i64 a0_3, .slice A0_4 l0_4.length c0_4, .slice A0_5 l0_5.length c0_5, .slice A0_6 l0_6.length c0_6, .slice A0_7 l0_7.length c0_7, .slice A0_8 l0_8.length c0_8] 86 ?_; intro g2 hgg2 wg2 hxg2 hbg2; have Gg2 : w.heap.size ≤ g2 := Z13; replace HB := m_ (a9_ HB.out hbg2); have HXg2 := m_ hxg2; clear hgg2 hxg2 hbg2) | ((with_reducible refine a3_ (N := 3) rfl ?_); refine bx 3 #[.int .i64 a1_0, .int .i64 a1_1, .int .i64 a1_2, .int .i64 a1_3, .int .i64 a1_4, .int .i64 a1_5, .int .i64 a1_6, .int .i64 a1_7] 88 ?_; intro g3 hgg3 wg3 hxg3 hbg3; have Ng2_g3 := m_ (show g2 ≠ g3 from by have := c4_ HXg2.out; omega); replace HXg2 := m_ (a1_ HXg2.out hbg3); have Gg3 : w.heap.size ≤ g3 := Z13; replace HB := m_ (a9_ HB.out hbg3); have HXg3 := m_ hxg3; clear hgg3 hxg3 hbg3) | ((with_reducible refine a3_ (N := 4) rfl ?_); refine bx 4 #[.slice none 0 0] 39 ?_; intro g4 hgg4 wg4 hxg4 hbg4; have Ng2_g4 := m_ (show g2 ≠ g4 from by have := c4_ HXg2.out; omega); have Ng3_g4 := m_ (show g3 ≠ g4 from by have := c4_ HXg3.out; omega); replace HXg2 := m_ (a1_ HXg2.out hbg4); replace HXg3 := m_ (a1_ HXg3.out hbg4); have Gg4 : w.heap.size ≤ g4 := Z13; replace HB := m_ (a9_ HB.out hbg4); have HXg4 := m_ hxg4; clear hgg4 hxg4 hbg4) | ((with_reducible refine a3_ (N := 5) rfl ?_); refine bx 5 #[.int .i64 0] 32 ?_; intro g5 hgg5 wg5 hxg5 hbg5; have Ng2_g5 := m_ (show g2 ≠ g5 from by have := c4_ HXg2.out; omega); have Ng3_g5 := m_ (show g3 ≠ g5 from by have := c4_ HXg3.out; omega); have Ng4_g5 := m_ (show g4 ≠ g5 from by have := c4_ HXg4.out; omega); replace HXg2 := m_ (a1_ HXg2.out hbg5); replace HXg3 := m_ (a1_ HXg3.out hbg5); replace HXg4 := m_ (a1_ HXg4.out hbg5); have Gg5 : w.heap.size ≤ g5 := Z13; replace HB := m_ (a9_ HB.out hbg5); have HXg5 := m_ hxg5; clear hgg5 hxg5 hbg5; obtain ⟨cg2_0, cg2_1, cg2_2, cg2_3, cg2_4, cg2_5, cg2_6, cg2_7, cg2_8⟩ := cz9_ HXg2; obtain ⟨cg3_0, cg3_1, cg3_2, cg3_3, cg3_4, cg3_5, cg3_6, cg3_7⟩ := cz8_ HXg3) | (go_at_call 93; refine (elastic_left.calls a0_0 a0_1 a0_2 a0_3 _ _ l0_4 _ _ l0_5 _ _ l0_6 _ _ l0_7 _ _ l0_8 a1_0 a1_1 a1_2 a1_3 a1_4 a1_5 a1_6 a1_7 lg lc e0 _ (Kd.C_below HR0_4.out (HB.out)) HC0_4.out (Kd.C_below HR0_5.out (HB.out)) HC0_5.out (Kd.C_below HR0_6.out (HB.out)) HC0_6.out (Kd.C_below HR0_7.out (HB.out)) HC0_7.out (Kd.C_below HR0_8.out (HB.out)) HC0_8.out HL.out).mono ?_; rintro e w7 ⟨rfl, hb7⟩; clear cg2_0 cg2_1 cg2_2 cg2_3 cg2_4 cg2_5 cg2_6 cg2_7 cg2_8 cg3_0 cg3_1 cg3_2 cg3_3 cg3_4 cg3_5 cg3_6 cg3_7; replace HXg2 := m_ (a1_ HXg2.out hb7); replace HXg3 := m_ (a1_ HXg3.out hb7); replace HXg4 := m_ (a1_ HXg4.out hb7); replace HXg5 := m_ (a1_ HXg5.out hb7); replace HB := m_ (a9_ HB.out hb7); clear hb7) | ((with_reducible refine a3_ (N := 6) rfl ?_); refine bx 6 #[.int .i64 0, .int .i64 0] 24 ?_; intro g6 hgg6 wg6 hxg6 hbg6; have Ng2_g6 := m_ (show g2 ≠ g6 from by have := c4_ HXg2.out; omega); have Ng3_g6 := m_ (show g3 ≠ g6 from by have := c4_ HXg3.out; omega); have Ng4_g6 := m_ (show g4 ≠ g6 from by have := c4_ HXg4.out; omega); have Ng5_g6 := m_ (show g5 ≠ g6 from by have := c4_ HXg5.out; omega); replace HXg2 := m_ (a1_ HXg2.out hbg6); replace HXg3 := m_ (a1_ HXg3.out hbg6); replace HXg4 := m_ (a1_ HXg4.out hbg6); replace HXg5 := m_ (a1_ HXg5.out hbg6); have Gg6 : w.heap.size ≤ g6 := Z13; replace HB := m_ (a9_ HB.out hbg6); have HXg6 := m_ hxg6; clear hgg6 hxg6 hbg6; have zg6_0 : wg6.frozen? ⟨g6, 0, none⟩ = false := a2_ HXg6.out 0; have zg6_1 : wg6.frozen? ⟨g6, 1, none⟩ = false := a2_ HXg6.out 1; obtain ⟨cg6_0, cg6_1⟩ := cz2_ HXg6))
 obtain ⟨wB, hwB⟩ : ∃ wB, wB = (wg6.setCell ⟨g6, 0, none⟩ (.int .i64 lg)).setCell ⟨g6, 1, none⟩ (.int .i64 lc) := ⟨_, rfl⟩
 rw [← hwB]
 have hxg2 : wB.heap[g2]? = some (.cells #[.int .i64 a0_0, .int .i64 a0_1, .int .i64 a0_2, .int .i64 a0_3, .slice A0_4 l0_4.length c0_4, .slice A0_5 l0_5.length c0_5, .slice A0_6 l0_6.length c0_6, .slice A0_7 l0_7.length c0_7, .slice A0_8 l0_8.length c0_8] 86 (0, 0)) := by rw [hwB]; exact c5_ (c5_ HXg2.out (Ng2_g6.out) _) (Ng2_g6.out) _
 have hxg3 : wB.heap[g3]? = some (.cells #[.int .i64 a1_0, .int .i64 a1_1, .int .i64 a1_2, .int .i64 a1_3, .int .i64 a1_4, .int .i64 a1_5, .int .i64 a1_6, .int .i64 a1_7] 88 (0, 0)) := by rw [hwB]; exact c5_ (c5_ HXg3.out (Ng3_g6.out) _) (Ng3_g6.out) _
 have hxg4 : wB.heap[g4]? = some (.cells #[.slice none 0 0] 39 (0, 0)) := by rw [hwB]; exact c5_ (c5_ HXg4.out (Ng4_g6.out) _) (Ng4_g6.out) _
 have hxg5 : wB.heap[g5]? = some (.cells #[.int .i64 0] 32 (0, 0)) := by rw [hwB]; exact c5_ (c5_ HXg5.out (Ng5_g6.out) _) (Ng5_g6.out) _
 have hxg6 : wB.heap[g6]? = some (.cells #[.int .i64 lg, .int .i64 lc] 24 (0, 0)) := by rw [hwB]; exact c8_ (c8_ HXg6.out 0 _ rfl) 1 _ rfl
 have hbB : Below w.heap.size w wB := by rw [hwB]; exact b5_ (b5_ HB.out Gg6) Gg6
 replace HXg2 := m_ hxg2
 replace HXg3 := m_ hxg3
 replace HXg4 := m_ hxg4
 replace HXg5 := m_ hxg5
 replace HXg6 := m_ hxg6
 replace HB := m_ hbB
 clear hwB hxg2 hxg3 hxg4 hxg5 hxg6 hbB zg6_0 zg6_1 cg6_0 cg6_1
 have z4 : wB.frozen? ⟨g4, 0, none⟩ = false := a2_ HXg4.out 0
 have z5 : wB.frozen? ⟨g5, 0, none⟩ = false := a2_ HXg5.out 0
 have c4 : wB.cell? ⟨g4, 0, none⟩ = some (.slice none 0 0) := (a0_ HXg4.out 0).trans rfl
 have c5 : wB.cell? ⟨g5, 0, none⟩ = some (.int .i64 0) := (a0_ HXg5.out 0).trans rfl
 have n45 := Ng4_g5.out
 go_wp2
 have h4 : ((wB.setCell ⟨g4, 0, none⟩ (.slice none 0 0)).setCell ⟨g5, 0, none⟩ (.int .i64 e0)).heap[g4]? = some (.cells #[.slice none 0 0] 39 (0, 0)) := c5_ (c8_ HXg4.out 0 _ rfl) n45 _
 have h5 : ((wB.setCell ⟨g4, 0, none⟩ (.slice none 0 0)).setCell ⟨g5, 0, none⟩ (.int .i64 e0)).heap[g5]? = some (.cells #[.int .i64 e0] 32 (0, 0)) := c8_ (c5_ HXg5.out n45.symm _) 0 _ rfl
 exact marks_ret0 (results57 rfl rfl h4 h5) ⟨_, rfl, Kd.R_nil _ _ _ _ _, b5_ (b5_ HB.out Gg4) Gg5⟩
set_option maxHeartbeats 8000000 in
set_option maxRecDepth 100000 in
theorem most_can (kc : Nat) (a0_0 a0_1 a0_2 a0_3 : Int) (A0_4 : Option Addr) (c0_4 : Nat) (l0_4 : List (S51)) (A0_5 : Option Addr) (c0_5 : Nat) (l0_5 : List (S24)) (A0_6 : Option Addr) (c0_6 : Nat) (l0_6 : List (S41)) (A0_7 : Option Addr) (c0_7 : Nat) (l0_7 : List (S105)) (A0_8 : Option Addr) (c0_8 : Nat) (l0_8 : List (S149)) (a1_0 a1_1 a1_2 a1_3 a1_4 a1_5 a1_6 a1_7 lg lc r0 : Int) (cn : Int → Int) (pl : Int → List S52 × Int) (w : World) (hr0_4 : Kd.C k51 w A0_4 l0_4.length l0_4) (hc0_4 : l0_4.length ≤ c0_4) (hr0_5 : Kd.C k24 w A0_5 l0_5.length l0_5) (hc0_5 : l0_5.length ≤ c0_5) (hr0_6 : Kd.C k41 w A0_6 l0_6.length l0_6) (hc0_6 : l0_6.length ≤ c0_6) (hr0_7 : Kd.C k105 w A0_7 l0_7.length l0_7) (hc0_7 : l0_7.length ≤ c0_7) (hr0_8 : Kd.C k149 w A0_8 l0_8.length l0_8) (hc0_8 : l0_8.length ≤ c0_8) (hL : elastic_left.f a0_0 a0_1 a0_2 a0_3 l0_4 l0_5 l0_6 l0_7 l0_8 a1_0 a1_1 a1_2 a1_3 a1_4 a1_5 a1_6 a1_7 = some (lg, lc, 0))
  (hmx : a1_6 ≤ a1_7 ∧ a1_7 ≤ 16) (hmn : 1 ≤ a1_6)
  (hc0 : elastic_can.f kc a0_0 a0_1 a0_2 a0_3 l0_4 l0_5 l0_6 l0_7 l0_8 a1_4 a1_5 a1_6 a1_7 a1_6 lg lc = some r0) (hcn : ∀ n, a1_6 ≤ n → n ≤ a1_7 → elastic_can.f kc a0_0 a0_1 a0_2 a0_3 l0_4 l0_5 l0_6 l0_7 l0_8 a1_4 a1_5 a1_6 a1_7 n lg lc = some (cn n))
  (hpl : ∀ n, a1_6 ≤ n → n ≤ a1_7 → pack_Place.f l0_4 a1_4 a1_5 a1_6 a1_7 n = some (pl n)) (rr : List S52 × Int)
  (hrr : rr = if r0 ≠ 0 then ([], r0) else match (downL a1_7 a1_6).find? (fun n => cn n == 0) with | some n => pl n | none => ([], 7)) :
  Calls Try.prog 57 #[.agg #[.int .i64 a0_0, .int .i64 a0_1, .int .i64 a0_2, .int .i64 a0_3, .slice A0_4 l0_4.length c0_4, .slice A0_5 l0_5.length c0_5, .slice A0_6 l0_6.length c0_6, .slice A0_7 l0_7.length c0_7, .slice A0_8 l0_8.length c0_8], .agg #[.int .i64 a1_0, .int .i64 a1_1, .int .i64 a1_2, .int .i64 a1_3, .int .i64 a1_4, .int .i64 a1_5, .int .i64 a1_6, .int .i64 a1_7]] w fun e w' => ∃ v0_ : Value, e = .returned (.tuple #[v0_, .int .i64 rr.2]) ∧ Kd.R k52 52 w' w.heap.size (fun _ => True) v0_ rr.1 ∧ Below w.heap.size w w' := by
 have hu86 := Try.underlying86
 have hu88 := Try.underlying88
 have hu24 := Try.underlying24
 have hu27 := Try.underlying27
 have hu39 := Try.underlying39
 have hu32 := Try.underlying32
 have HR0_4 := m_ hr0_4
 have HC0_4 := m_ hc0_4
 clear hr0_4 hc0_4
 have HR0_5 := m_ hr0_5
 have HC0_5 := m_ hc0_5
 clear hr0_5 hc0_5
 have HR0_6 := m_ hr0_6
 have HC0_6 := m_ hc0_6
 clear hr0_6 hc0_6
 have HR0_7 := m_ hr0_7
 have HC0_7 := m_ hc0_7
 clear hr0_7 hc0_7
 have HR0_8 := m_ hr0_8
 have HC0_8 := m_ hc0_8
 clear hr0_8 hc0_8
 have HL := m_ hL
 have HC0 := m_ hc0
 have HCN := m_ hcn
 have HPL := m_ hpl
 have HRR := m_ hrr
 have HMX := m_ (And.intro hmx hmn)
 have HB := m_ (Below.refl w.heap.size w)
 clear hL hc0 hcn hpl hrr hmx hmn
 refine calls_marks Try.func57 rfl ?_
 simp only [Try.ntmps57, List.size_toArray, List.length_cons, List.length_nil, Nat.reduceAdd, Nat.reduceSub, Array.replicate_succ, Array.replicate_zero, List.push_toArray, List.append_toArray, List.nil_append, List.cons_append]
 go_upto_region 2 with (first | ((with_reducible refine a3_ (N := 2) rfl ?_); refine bx 2 #[.int .i64 a0_0, .int .i64 a0_1, .int .i64 a0_2, .int .i64 a0_3, .slice A0_4 l0_4.length c0_4, .slice A0_5 l0_5.length c0_5, .slice A0_6 l0_6.length c0_6, .slice A0_7 l0_7.length c0_7, .slice A0_8 l0_8.length c0_8] 86 ?_; intro g2 hgg2 wg2 hxg2 hbg2; have Gg2 : w.heap.size ≤ g2 := Z13; replace HB := m_ (a9_ HB.out hbg2); have HXg2 := m_ hxg2; clear hgg2 hxg2 hbg2) | ((with_reducible refine a3_ (N := 3) rfl ?_); refine bx 3 #[.int .i64 a1_0, .int .i64 a1_1, .int .i64 a1_2, .int .i64 a1_3, .int .i64 a1_4, .int .i64 a1_5, .int .i64 a1_6, .int .i64 a1_7] 88 ?_; intro g3 hgg3 wg3 hxg3 hbg3; have Ng2_g3 := m_ (show g2 ≠ g3 from by have := c4_ HXg2.out; omega); replace HXg2 := m_ (a1_ HXg2.out hbg3); have Gg3 : w.heap.size ≤ g3 := Z13; replace HB := m_ (a9_ HB.out hbg3); have HXg3 := m_ hxg3; clear hgg3 hxg3 hbg3) | ((with_reducible refine a3_ (N := 4) rfl ?_); refine bx 4 #[.slice none 0 0] 39 ?_; intro g4 hgg4 wg4 hxg4 hbg4; have Ng2_g4 := m_ (show g2 ≠ g4 from by have := c4_ HXg2.out; omega); have Ng3_g4 := m_ (show g3 ≠ g4 from by have := c4_ HXg3.out; omega); replace HXg2 := m_ (a1_ HXg2.out hbg4); replace HXg3 := m_ (a1_ HXg3.out hbg4); have Gg4 : w.heap.size ≤ g4 := Z13; replace HB := m_ (a9_ HB.out hbg4); have HXg4 := m_ hxg4; clear hgg4 hxg4 hbg4) | ((with_reducible refine a3_ (N := 5) rfl ?_); refine bx 5 #[.int .i64 0] 32 ?_; intro g5 hgg5 wg5 hxg5 hbg5; have Ng2_g5 := m_ (show g2 ≠ g5 from by have := c4_ HXg2.out; omega); have Ng3_g5 := m_ (show g3 ≠ g5 from by have := c4_ HXg3.out; omega); have Ng4_g5 := m_ (show g4 ≠ g5 from by have := c4_ HXg4.out; omega); replace HXg2 := m_ (a1_ HXg2.out hbg5); replace HXg3 := m_ (a1_ HXg3.out hbg5); replace HXg4 := m_ (a1_ HXg4.out hbg5); have Gg5 : w.heap.size ≤ g5 := Z13; replace HB := m_ (a9_ HB.out hbg5); have HXg5 := m_ hxg5; clear hgg5 hxg5 hbg5; obtain ⟨cg2_0, cg2_1, cg2_2, cg2_3, cg2_4, cg2_5, cg2_6, cg2_7, cg2_8⟩ := cz9_ HXg2; obtain ⟨cg3_0, cg3_1, cg3_2, cg3_3, cg3_4, cg3_5, cg3_6, cg3_7⟩ := cz8_ HXg3) | (go_at_call 93; refine (elastic_left.calls a0_0 a0_1 a0_2 a0_3 _ _ l0_4 _ _ l0_5 _ _ l0_6 _ _ l0_7 _ _ l0_8 a1_0 a1_1 a1_2 a1_3 a1_4 a1_5 a1_6 a1_7 lg lc 0 _ (Kd.C_below HR0_4.out (HB.out)) HC0_4.out (Kd.C_below HR0_5.out (HB.out)) HC0_5.out (Kd.C_below HR0_6.out (HB.out)) HC0_6.out (Kd.C_below HR0_7.out (HB.out)) HC0_7.out (Kd.C_below HR0_8.out (HB.out)) HC0_8.out HL.out).mono ?_; rintro e w7 ⟨rfl, hb7⟩; clear cg2_0 cg2_1 cg2_2 cg2_3 cg2_4 cg2_5 cg2_6 cg2_7 cg2_8 cg3_0 cg3_1 cg3_2 cg3_3 cg3_4 cg3_5 cg3_6 cg3_7; replace HXg2 := m_ (a1_ HXg2.out hb7); replace HXg3 := m_ (a1_ HXg3.out hb7); replace HXg4 := m_ (a1_ HXg4.out hb7); replace HXg5 := m_ (a1_ HXg5.out hb7); replace HB := m_ (a9_ HB.out hb7); clear hb7) | ((with_reducible refine a3_ (N := 6) rfl ?_); refine bx 6 #[.int .i64 0, .int .i64 0] 24 ?_; intro g6 hgg6 wg6 hxg6 hbg6; have Ng2_g6 := m_ (show g2 ≠ g6 from by have := c4_ HXg2.out; omega); have Ng3_g6 := m_ (show g3 ≠ g6 from by have := c4_ HXg3.out; omega); have Ng4_g6 := m_ (show g4 ≠ g6 from by have := c4_ HXg4.out; omega); have Ng5_g6 := m_ (show g5 ≠ g6 from by have := c4_ HXg5.out; omega); replace HXg2 := m_ (a1_ HXg2.out hbg6); replace HXg3 := m_ (a1_ HXg3.out hbg6); replace HXg4 := m_ (a1_ HXg4.out hbg6); replace HXg5 := m_ (a1_ HXg5.out hbg6); have Gg6 : w.heap.size ≤ g6 := Z13; replace HB := m_ (a9_ HB.out hbg6); have HXg6 := m_ hxg6; clear hgg6 hxg6 hbg6; have zg6_0 : wg6.frozen? ⟨g6, 0, none⟩ = false := a2_ HXg6.out 0; have zg6_1 : wg6.frozen? ⟨g6, 1, none⟩ = false := a2_ HXg6.out 1; obtain ⟨cg6_0, cg6_1⟩ := cz2_ HXg6))
 obtain ⟨wB, hwB⟩ : ∃ wB, wB = (wg6.setCell ⟨g6, 0, none⟩ (.int .i64 lg)).setCell ⟨g6, 1, none⟩ (.int .i64 lc) := ⟨_, rfl⟩
 rw [← hwB]
 have hxg2 : wB.heap[g2]? = some (.cells #[.int .i64 a0_0, .int .i64 a0_1, .int .i64 a0_2, .int .i64 a0_3, .slice A0_4 l0_4.length c0_4, .slice A0_5 l0_5.length c0_5, .slice A0_6 l0_6.length c0_6, .slice A0_7 l0_7.length c0_7, .slice A0_8 l0_8.length c0_8] 86 (0, 0)) := by rw [hwB]; exact c5_ (c5_ HXg2.out (Ng2_g6.out) _) (Ng2_g6.out) _
 have hxg3 : wB.heap[g3]? = some (.cells #[.int .i64 a1_0, .int .i64 a1_1, .int .i64 a1_2, .int .i64 a1_3, .int .i64 a1_4, .int .i64 a1_5, .int .i64 a1_6, .int .i64 a1_7] 88 (0, 0)) := by rw [hwB]; exact c5_ (c5_ HXg3.out (Ng3_g6.out) _) (Ng3_g6.out) _
 have hxg4 : wB.heap[g4]? = some (.cells #[.slice none 0 0] 39 (0, 0)) := by rw [hwB]; exact c5_ (c5_ HXg4.out (Ng4_g6.out) _) (Ng4_g6.out) _
 have hxg5 : wB.heap[g5]? = some (.cells #[.int .i64 0] 32 (0, 0)) := by rw [hwB]; exact c5_ (c5_ HXg5.out (Ng5_g6.out) _) (Ng5_g6.out) _
 have hxg6 : wB.heap[g6]? = some (.cells #[.int .i64 lg, .int .i64 lc] 24 (0, 0)) := by rw [hwB]; exact c8_ (c8_ HXg6.out 0 _ rfl) 1 _ rfl
 have hbB : Below w.heap.size w wB := by rw [hwB]; exact b5_ (b5_ HB.out Gg6) Gg6
 replace HXg2 := m_ hxg2
 replace HXg3 := m_ hxg3
 replace HXg4 := m_ hxg4
 replace HXg5 := m_ hxg5
 replace HXg6 := m_ hxg6
 replace HB := m_ hbB
 clear hwB hxg2 hxg3 hxg4 hxg5 hxg6 hbB zg6_0 zg6_1 cg6_0 cg6_1
 obtain ⟨cg2_0, cg2_1, cg2_2, cg2_3, cg2_4, cg2_5, cg2_6, cg2_7, cg2_8⟩ := cz9_ HXg2
 obtain ⟨cg3_0, cg3_1, cg3_2, cg3_3, cg3_4, cg3_5, cg3_6, cg3_7⟩ := cz8_ HXg3
 obtain ⟨cg6_0, cg6_1⟩ := cz2_ HXg6
 go_upto_region 5 with (first | (go_at_call 94; refine (elastic_can.calls kc a0_0 a0_1 a0_2 a0_3 _ _ l0_4 _ _ l0_5 _ _ l0_6 _ _ l0_7 _ _ l0_8 a1_4 a1_5 a1_6 a1_7 a1_6 lg lc r0 _ (Kd.C_below HR0_4.out (HB.out)) HC0_4.out (Kd.C_below HR0_5.out (HB.out)) HC0_5.out (Kd.C_below HR0_6.out (HB.out)) HC0_6.out (Kd.C_below HR0_7.out (HB.out)) HC0_7.out (Kd.C_below HR0_8.out (HB.out)) HC0_8.out (HC0.out)).mono ?_; rintro e w8 ⟨rfl, hb8⟩; clear cg2_0 cg2_1 cg2_2 cg2_3 cg2_4 cg2_5 cg2_6 cg2_7 cg2_8 cg3_0 cg3_1 cg3_2 cg3_3 cg3_4 cg3_5 cg3_6 cg3_7 cg6_0 cg6_1; replace HXg2 := m_ (a1_ HXg2.out hb8); replace HXg3 := m_ (a1_ HXg3.out hb8); replace HXg4 := m_ (a1_ HXg4.out hb8); replace HXg5 := m_ (a1_ HXg5.out hb8); replace HXg6 := m_ (a1_ HXg6.out hb8); replace HB := m_ (a9_ HB.out hb8); clear hb8))
 by_cases hr0 : r0 = 0
 ·subst hr0
  have hrr := HRR.out
  rw [if_neg (by decide)] at hrr
  clear HRR
  have HRR := m_ hrr
  clear hrr
  obtain ⟨cg3_0, cg3_1, cg3_2, cg3_3, cg3_4, cg3_5, cg3_6, cg3_7⟩ := cz8_ HXg3
  go_wp2_with (first | (go_at_call 95; refine (down_calls a1_7 a1_6 _).mono ?_; rintro e w9 ⟨rfl, hd1, hd2, hb9⟩; have HD1 := m_ hd1; have HD2 := m_ hd2; have HBL := m_ (HB.out.size); clear cg3_0 cg3_1 cg3_2 cg3_3 cg3_4 cg3_5 cg3_6 cg3_7; replace HXg2 := m_ (a1_ HXg2.out hb9); replace HXg3 := m_ (a1_ HXg3.out hb9); replace HXg4 := m_ (a1_ HXg4.out hb9); replace HXg5 := m_ (a1_ HXg5.out hb9); replace HXg6 := m_ (a1_ HXg6.out hb9); replace HB := m_ (a9_ HB.out hb9); clear hb9 hd1 hd2))
  have hlt9 := HBL.out
  have hz8 := HBL.out
  refine range_try (gf := 117) (lb := #[.pointer (some ⟨w8.heap.size, 0, none⟩), .pointer (some ⟨w8.heap.size + 1, 0, none⟩)]) rfl (enters_of Try.func117 (by kernel_rfl) rfl)
   (enc := fun x : Int => #[.int .i64 x]) (down_goes _ _ a1_7 a1_6 _ HD1.out HD2.out (by have := HMX.out; omega) (by have := HMX.out; omega)) (fun _ => rfl)
   (fun x => cn x ≠ 0) (fun x W => cn x = 0 ∧ Stands w g4 g5 (pl x) W) ?hRx
   (fun x a' _ => a' = { tmps := #[.agg #[.int .i64 a0_0, .int .i64 a0_1, .int .i64 a0_2, .int .i64 a0_3, .slice A0_4 l0_4.length c0_4, .slice A0_5 l0_5.length c0_5, .slice A0_6 l0_6.length c0_6, .slice A0_7 l0_7.length c0_7, .slice A0_8 l0_8.length c0_8], .agg #[.int .i64 a1_0, .int .i64 a1_1, .int .i64 a1_2, .int .i64 a1_3, .int .i64 a1_4, .int .i64 a1_5, .int .i64 a1_6, .int .i64 a1_7], .pointer (some ⟨g2, 0, none⟩), .pointer (some ⟨g3, 0, none⟩), .pointer (some ⟨g4, 0, none⟩), .pointer (some ⟨g5, 0, none⟩), .pointer (some ⟨g6, 0, none⟩), .int .i64 0, .int .i64 0, .int .i64 x, .tuple #[.agg #[.int .i64 lg, .int .i64 lc], .int .i64 0], .agg #[.int .i64 a0_0, .int .i64 a0_1, .int .i64 a0_2, .int .i64 a0_3, .slice A0_4 l0_4.length c0_4, .slice A0_5 l0_5.length c0_5, .slice A0_6 l0_6.length c0_6, .slice A0_7 l0_7.length c0_7, .slice A0_8 l0_8.length c0_8], .agg #[.int .i64 a1_0, .int .i64 a1_1, .int .i64 a1_2, .int .i64 a1_3, .int .i64 a1_4, .int .i64 a1_5, .int .i64 a1_6, .int .i64 a1_7], .tuple #[.agg #[.int .i64 lg, .int .i64 lc], .int .i64 0], .agg #[.int .i64 lg, .int .i64 lc], .int .i64 0, .int .i64 0, .bool false, undef, .agg #[.int .i64 a0_0, .int .i64 a0_1, .int .i64 a0_2, .int .i64 a0_3, .slice A0_4 l0_4.length c0_4, .slice A0_5 l0_5.length c0_5, .slice A0_6 l0_6.length c0_6, .slice A0_7 l0_7.length c0_7, .slice A0_8 l0_8.length c0_8], .pointer (some ⟨g3, 4, none⟩), .agg #[.int .i64 a1_4, .int .i64 a1_5, .int .i64 a1_6, .int .i64 a1_7], .pointer (some ⟨g3, 4, none⟩), .pointer (some ⟨g3, 6, none⟩), .int .i64 a1_6, .agg #[.int .i64 lg, .int .i64 lc], .int .i64 0, .int .i64 0, .bool false, undef, .pointer (some ⟨g3, 4, none⟩), .pointer (some ⟨g3, 7, none⟩), .int .i64 a1_7, .pointer (some ⟨g3, 4, none⟩), .pointer (some ⟨g3, 6, none⟩), .int .i64 a1_6, .func (.func 117) #[] #[.pointer (some ⟨w8.heap.size, 0, none⟩), .pointer (some ⟨w8.heap.size + 1, 0, none⟩)], .int .i64 x, undef, undef, undef, undef, undef, undef, undef, undef, undef, undef, undef, undef, undef, undef, undef], defers := [] }) (fun _ _ => ownFrom_pure (β := Unit) _ _) ?assign ?body ?done ?stop
  case hRx => exact fun y => OwnFrom.and (ownFrom_pure _ _) (Stands.own HB.out.size)
  case assign =>
   intro l x W K hx hB hK
   gi_wp2
   exact hK _ _ (Below.refl _ _) rfl
  case body =>
   rintro l x a' W hx hBW rfl
   have hmem := downL_mem hx
   have HC := m_ (HCN.out x hmem.1 hmem.2)
   have HP := m_ (HPL.out x hmem.1 hmem.2)
   have hBw := a9_ HB.out hBW
   have HBW := m_ hBw
   have hy2 := a1_ HXg2.out hBW
   have hy3 := a1_ HXg3.out hBW
   have hy4 := a1_ HXg4.out hBW
   have hy5 := a1_ HXg5.out hBW
   have hy6 := a1_ HXg6.out hBW
   have HS9 := m_ hBW.size
   have HBQ := m_ HB.out.size
   clear HXg2 HXg3 HXg4 HXg5 HXg6 HB hBW hBw hx hmem HD1 HD2 HL HC0 HCN HPL HRR
   have HB := HBW
   clear HBW
   have HXg2 := m_ hy2
   have HXg3 := m_ hy3
   have HXg4 := m_ hy4
   have HXg5 := m_ hy5
   have HXg6 := m_ hy6
   clear hy2 hy3 hy4 hy5 hy6
   obtain ⟨cx, hce⟩ : ∃ cx, cx = cn x := ⟨_, rfl⟩
   obtain ⟨px, hpe⟩ : ∃ px, px = pl x := ⟨_, rfl⟩
   rw [← hce] at HC
   rw [← hpe] at HP
   have HCE := m_ hce
   have HPE := m_ hpe
   clear hce hpe
   obtain ⟨cg2_0, cg2_1, cg2_2, cg2_3, cg2_4, cg2_5, cg2_6, cg2_7, cg2_8⟩ := cz9_ HXg2
   obtain ⟨cg3_0, cg3_1, cg3_2, cg3_3, cg3_4, cg3_5, cg3_6, cg3_7⟩ := cz8_ HXg3
   obtain ⟨cg6_0, cg6_1⟩ := cz2_ HXg6
   by_cases hcx : cx = 0
   ·subst hcx
    gi_wp2_with (first | ((try refine ⟨trivial, ?_⟩); gi_at_call 94; refine (CallsIn.inRound l (callsIn_wide.2 (elastic_can.calls kc a0_0 a0_1 a0_2 a0_3 _ _ l0_4 _ _ l0_5 _ _ l0_6 _ _ l0_7 _ _ l0_8 a1_4 a1_5 a1_6 a1_7 x lg lc _ _ (Kd.C_below HR0_4.out (HB.out)) HC0_4.out (Kd.C_below HR0_5.out (HB.out)) HC0_5.out (Kd.C_below HR0_6.out (HB.out)) HC0_6.out (Kd.C_below HR0_7.out (HB.out)) HC0_7.out (Kd.C_below HR0_8.out (HB.out)) HC0_8.out (HC.out)))).mono ?_; rintro e wc ⟨rfl, hbc⟩; have HBC := m_ hbc; clear cg2_0 cg2_1 cg2_2 cg2_3 cg2_4 cg2_5 cg2_6 cg2_7 cg2_8 cg3_0 cg3_1 cg3_2 cg3_3 cg3_4 cg3_5 cg3_6 cg3_7 cg6_0 cg6_1; replace HXg2 := m_ (a1_ HXg2.out hbc); replace HXg3 := m_ (a1_ HXg3.out hbc); replace HXg4 := m_ (a1_ HXg4.out hbc); replace HXg5 := m_ (a1_ HXg5.out hbc); replace HXg6 := m_ (a1_ HXg6.out hbc); replace HB := m_ (a9_ HB.out hbc); clear hbc; obtain ⟨cg2_0, cg2_1, cg2_2, cg2_3, cg2_4, cg2_5, cg2_6, cg2_7, cg2_8⟩ := cz9_ HXg2; obtain ⟨cg3_0, cg3_1, cg3_2, cg3_3, cg3_4, cg3_5, cg3_6, cg3_7⟩ := cz8_ HXg3) | ((try refine ⟨trivial, ?_⟩); gi_at_call 46; refine (CallsIn.inRound l (callsIn_wide.2 (pack_Place.calls _ _ l0_4 a1_4 a1_5 a1_6 a1_7 x _ _ _ (Kd.C_below HR0_4.out HB.out) HC0_4.out HP.out))).mono ?_; rintro e wp ⟨vp, rfl, hrp, hbp⟩; obtain ⟨Ap, cp, rfl⟩ := Kd.R_slice hrp; have HBP := m_ hbp; have HRP := m_ hrp; clear cg2_0 cg2_1 cg2_2 cg2_3 cg2_4 cg2_5 cg2_6 cg2_7 cg2_8 cg3_0 cg3_1 cg3_2 cg3_3 cg3_4 cg3_5 cg3_6 cg3_7; replace HXg2 := m_ (a1_ HXg2.out hbp); replace HXg3 := m_ (a1_ HXg3.out hbp); replace HXg4 := m_ (a1_ HXg4.out hbp); replace HXg5 := m_ (a1_ HXg5.out hbp); replace HXg6 := m_ (a1_ HXg6.out hbp); replace HB := m_ (a9_ HB.out hbp); clear hbp hrp; have z4 : wp.frozen? ⟨g4, 0, none⟩ = false := a2_ HXg4.out 0; have z5 : wp.frozen? ⟨g5, 0, none⟩ = false := a2_ HXg5.out 0; have cg4_0 : wp.cell? ⟨g4, 0, none⟩ = some (.slice none 0 0) := (a0_ HXg4.out 0).trans rfl; have cg5_0 : wp.cell? ⟨g5, 0, none⟩ = some (.int .i64 0) := (a0_ HXg5.out 0).trans rfl; have n45 := Ng4_g5.out))
    have n45 := Ng4_g5.out
    have h4 : ((wp.setCell ⟨g4, 0, none⟩ (.slice Ap px.1.length cp)).setCell ⟨g5, 0, none⟩ (.int .i64 px.2)).heap[g4]? = some (.cells #[.slice Ap px.1.length cp] 39 (0, 0)) := c5_ (c8_ HXg4.out 0 _ rfl) n45 _
    have h5 : ((wp.setCell ⟨g4, 0, none⟩ (.slice Ap px.1.length cp)).setCell ⟨g5, 0, none⟩ (.int .i64 px.2)).heap[g5]? = some (.cells #[.int .i64 px.2] 32 (0, 0)) := c8_ (c5_ HXg5.out n45.symm _) 0 _ rfl
    have hr1 := Kd.R_grown2 HRP.out rfl (grown_set (j := 0) (v := .slice Ap px.1.length cp) (d4_ wp (some g4))) (fun k hk => by injection hk with hk; subst hk; exact Kd.R_ne HRP.out HXg4.out (by decide))
    have hx5 : (wp.setCell ⟨g4, 0, none⟩ (.slice Ap px.1.length cp)).heap[g5]? = some (.cells #[.int .i64 0] 32 (0, 0)) := c5_ HXg5.out n45.symm _
    have hr2 := Kd.R_grown2 hr1 rfl (grown_set (j := 0) (v := .int .i64 px.2) (d4_ _ (some g5))) (fun k hk => by injection hk with hk; subst hk; exact Kd.R_ne hr1 hx5 (by decide))
    show KeepsFrom _ _ _ ∧ cn x = 0 ∧ Stands w g4 g5 (pl x) _
    rw [← HCE.out, ← HPE.out]
    refine ⟨((keepsFrom_below HBC.out).trans (keepsFrom_below HBP.out)).trans (((KeepsOthers.setCell _ _ _).trans (KeepsOthers.setCell _ _ _)).from _), rfl, _, h4, h5, Kd.R_lower hr2 ?_, b5_ (b5_ HB.out Gg4) Gg5⟩
    have h1 := HBC.out.size
    have h2 := HS9.out
    have h3 := HBL.out
    have h6 := HBQ.out
    omega
   ·have t0 : (cx == 0) = false := by simpa using hcx
    have HCX := m_ hcx
    clear hcx
    gi_wp2_with (first | ((try refine ⟨trivial, ?_⟩); gi_at_call 94; refine (CallsIn.inRound l (callsIn_wide.2 (elastic_can.calls kc a0_0 a0_1 a0_2 a0_3 _ _ l0_4 _ _ l0_5 _ _ l0_6 _ _ l0_7 _ _ l0_8 a1_4 a1_5 a1_6 a1_7 x lg lc _ _ (Kd.C_below HR0_4.out (HB.out)) HC0_4.out (Kd.C_below HR0_5.out (HB.out)) HC0_5.out (Kd.C_below HR0_6.out (HB.out)) HC0_6.out (Kd.C_below HR0_7.out (HB.out)) HC0_7.out (Kd.C_below HR0_8.out (HB.out)) HC0_8.out (HC.out)))).mono ?_; rintro e wc ⟨rfl, hbc⟩; have HBC := m_ hbc; clear cg2_0 cg2_1 cg2_2 cg2_3 cg2_4 cg2_5 cg2_6 cg2_7 cg2_8 cg3_0 cg3_1 cg3_2 cg3_3 cg3_4 cg3_5 cg3_6 cg3_7 cg6_0 cg6_1; replace HXg2 := m_ (a1_ HXg2.out hbc); replace HXg3 := m_ (a1_ HXg3.out hbc); replace HXg4 := m_ (a1_ HXg4.out hbc); replace HXg5 := m_ (a1_ HXg5.out hbc); replace HXg6 := m_ (a1_ HXg6.out hbc); replace HB := m_ (a9_ HB.out hbc); clear hbc; obtain ⟨cg2_0, cg2_1, cg2_2, cg2_3, cg2_4, cg2_5, cg2_6, cg2_7, cg2_8⟩ := cz9_ HXg2; obtain ⟨cg3_0, cg3_1, cg3_2, cg3_3, cg3_4, cg3_5, cg3_6, cg3_7⟩ := cz8_ HXg3))
    exact ⟨HBC.out, by show cn x ≠ 0; rw [← HCE.out]; exact HCX.out⟩
  case done =>
   intro D W hD hf hBW hK
   have hrr : rr = ([], 7) := by
    rw [HRR.out]
    have : (downL a1_7 a1_6).find? (fun n => cn n == 0) = none := List.find?_eq_none.2 fun x hx => by simpa using hf x hx
    rw [this]
   subst hrr
   have hy4 := a1_ HXg4.out hBW
   have hy5 := a1_ HXg5.out hBW
   have HBW := m_ (a9_ HB.out hBW)
   have HD := m_ hD
   have HK := m_ hK
   have HW9 := m_ HB.out.size
   clear HXg2 HXg3 HXg4 HXg5 HXg6 HB hBW hK hD hf HRR HD1 HD2
   have HXg4 := m_ hy4
   have HXg5 := m_ hy5
   clear hy4 hy5
   have z4 : W.frozen? ⟨g4, 0, none⟩ = false := a2_ HXg4.out 0
   have z5 : W.frozen? ⟨g5, 0, none⟩ = false := a2_ HXg5.out 0
   have c4 : W.cell? ⟨g4, 0, none⟩ = some (.slice none 0 0) := (a0_ HXg4.out 0).trans rfl
   have c5 : W.cell? ⟨g5, 0, none⟩ = some (.int .i64 0) := (a0_ HXg5.out 0).trans rfl
   have n45 := Ng4_g5.out
   go_wp2
   have h4 : ((W.setCell ⟨g4, 0, none⟩ (.slice none 0 0)).setCell ⟨g5, 0, none⟩ (.int .i64 7)).heap[g4]? = some (.cells #[.slice none 0 0] 39 (0, 0)) := c5_ (c8_ HXg4.out 0 _ rfl) n45 _
   have h5 : ((W.setCell ⟨g4, 0, none⟩ (.slice none 0 0)).setCell ⟨g5, 0, none⟩ (.int .i64 7)).heap[g5]? = some (.cells #[.int .i64 7] 32 (0, 0)) := c8_ (c5_ HXg5.out n45.symm _) 0 _ rfl
   have hk := ((KeepsOthers.setCell W ⟨g4, 0, none⟩ (.slice none 0 0)).trans (KeepsOthers.setCell _ ⟨g5, 0, none⟩ (.int .i64 7))).same D _ HK.out rfl
   have hs : Stands w g4 g5 ([], 7) ((W.setCell ⟨g4, 0, none⟩ (.slice none 0 0)).setCell ⟨g5, 0, none⟩ (.int .i64 7)) := ⟨_, h4, h5, Kd.R_nil _ _ _ _ _, b5_ (b5_ HBW.out Gg4) Gg5⟩
   obtain ⟨v, k4, k5, kr, kb⟩ := hs.mark (by have := HD.out; have := HW9.out; omega) hk
   exact marks_ret1 hk (results57 rfl rfl k4 k5) ⟨v, rfl, kr, kb⟩
  case stop =>
   intro D k x W hD hx hf ⟨hcx, hs⟩ hK
   have hrr : rr = pl x := by
    rw [HRR.out]
    have : (downL a1_7 a1_6).find? (fun n => cn n == 0) = some x := by
     rw [List.find?_eq_some_iff_getElem]
     obtain ⟨hk, he⟩ := List.getElem?_eq_some_iff.1 hx
     refine ⟨by simpa using hcx, k, hk, he, fun j hj => ?_⟩
     have := hf (downL a1_7 a1_6)[j] (List.mem_take_iff_getElem.2 ⟨j, by omega, rfl⟩)
     simpa using this
    rw [this]
   subst hrr
   have hw := HB.out.size
   obtain ⟨v, k4, k5, kr, kb⟩ := hs.mark (by omega) hK
   exact marks_ret1 hK (results57 rfl rfl k4 k5) ⟨v, rfl, kr, kb⟩
 ·have t0 : (r0 != 0) = true := by simpa using hr0
  have hrr := HRR.out
  rw [if_pos hr0] at hrr
  subst hrr
  clear HRR hr0
  have z4 : w8.frozen? ⟨g4, 0, none⟩ = false := a2_ HXg4.out 0
  have z5 : w8.frozen? ⟨g5, 0, none⟩ = false := a2_ HXg5.out 0
  have c4 : w8.cell? ⟨g4, 0, none⟩ = some (.slice none 0 0) := (a0_ HXg4.out 0).trans rfl
  have c5 : w8.cell? ⟨g5, 0, none⟩ = some (.int .i64 0) := (a0_ HXg5.out 0).trans rfl
  have n45 := Ng4_g5.out
  go_wp2
  have h4 : ((w8.setCell ⟨g4, 0, none⟩ (.slice none 0 0)).setCell ⟨g5, 0, none⟩ (.int .i64 r0)).heap[g4]? = some (.cells #[.slice none 0 0] 39 (0, 0)) := c5_ (c8_ HXg4.out 0 _ rfl) n45 _
  have h5 : ((w8.setCell ⟨g4, 0, none⟩ (.slice none 0 0)).setCell ⟨g5, 0, none⟩ (.int .i64 r0)).heap[g5]? = some (.cells #[.int .i64 r0] 32 (0, 0)) := c8_ (c5_ HXg5.out n45.symm _) 0 _ rfl
  exact marks_ret0 (results57 rfl rfl h4 h5) ⟨_, rfl, Kd.R_nil _ _ _ _ _, b5_ (b5_ HB.out Gg4) Gg5⟩
theorem leftB_ok {left : List S24} {q g c mn mx : Int} (h : (leftB left q g c mn mx).2.2 = 0) : c7_ g c mn mx = true ∧ (0 ≤ q ∧ q < left.length) ∧ leftB left q g c mn mx = ((a7_ left q).f0, (a7_ left q).f1, 0) := by
 unfold leftB at h ⊢
 by_cases hg : c7_ g c mn mx = true
 ·rw [if_pos hg] at h ⊢
  by_cases hq : 0 ≤ q ∧ q < (left.length : Int)
  ·rw [if_pos hq]; exact ⟨hg, hq, rfl⟩
  ·rw [if_neg hq] at h; cases h
 ·rw [if_neg hg] at h; cases h
theorem elastic_Most.calls (a0_0 a0_1 a0_2 a0_3 : Int) (A0_4 : Option Addr) (c0_4 : Nat) (l0_4 : List (S51)) (A0_5 : Option Addr) (c0_5 : Nat) (l0_5 : List (S24)) (A0_6 : Option Addr) (c0_6 : Nat) (l0_6 : List (S41)) (A0_7 : Option Addr) (c0_7 : Nat) (l0_7 : List (S105)) (A0_8 : Option Addr) (c0_8 : Nat) (l0_8 : List (S149)) (a1_0 a1_1 a1_2 a1_3 a1_4 a1_5 a1_6 a1_7 : Int) (r1 : List (S52)) (r2 : Int) (w : World) (hr0_4 : Kd.C k51 w A0_4 l0_4.length l0_4) (hc0_4 : l0_4.length ≤ c0_4) (hr0_5 : Kd.C k24 w A0_5 l0_5.length l0_5) (hc0_5 : l0_5.length ≤ c0_5) (hr0_6 : Kd.C k41 w A0_6 l0_6.length l0_6) (hc0_6 : l0_6.length ≤ c0_6) (hr0_7 : Kd.C k105 w A0_7 l0_7.length l0_7) (hc0_7 : l0_7.length ≤ c0_7) (hr0_8 : Kd.C k149 w A0_8 l0_8.length l0_8) (hc0_8 : l0_8.length ≤ c0_8) (h : elastic_Most.f a0_0 a0_1 a0_2 a0_3 l0_4 l0_5 l0_6 l0_7 l0_8 a1_0 a1_1 a1_2 a1_3 a1_4 a1_5 a1_6 a1_7 = some (r1, r2)) :
  Calls Try.prog 57 #[.agg #[.int .i64 a0_0, .int .i64 a0_1, .int .i64 a0_2, .int .i64 a0_3, .slice A0_4 l0_4.length c0_4, .slice A0_5 l0_5.length c0_5, .slice A0_6 l0_6.length c0_6, .slice A0_7 l0_7.length c0_7, .slice A0_8 l0_8.length c0_8], .agg #[.int .i64 a1_0, .int .i64 a1_1, .int .i64 a1_2, .int .i64 a1_3, .int .i64 a1_4, .int .i64 a1_5, .int .i64 a1_6, .int .i64 a1_7]] w fun e w' => ∃ v0_ : Value, e = .returned (.tuple #[v0_, .int .i64 r2]) ∧ Kd.R k52 52 w' w.heap.size (fun _ => True) v0_ r1 ∧ Below w.heap.size w w' := by
 unfold elastic_Most.f at h
 by_cases hok : placeOk l0_4 = true
 case neg => rw [if_neg hok] at h; cases h
 rw [if_pos hok] at h
 injection h with h
 have hok' := hok
 unfold placeOk at hok'
 simp only [Bool.and_eq_true, List.all_eq_true, decide_eq_true_eq] at hok'
 have hL := left_eq0 a0_0 a0_1 a0_2 a0_3 l0_4 l0_5 l0_6 l0_7 l0_8 a1_0 a1_1 a1_2 a1_3 a1_4 a1_5 a1_6 a1_7
 unfold mostB at h
 by_cases he : (leftB l0_5 a1_1 a1_4 a1_5 a1_6 a1_7).2.2 = 0
 ·rw [if_neg (by simpa using he)] at h
  obtain ⟨hg, hq, e3⟩ := leftB_ok he
  rw [e3] at h hL
  have hb := good_out1 hg
  have hcan : ∀ n, a1_6 ≤ n → n ≤ a1_7 → elastic_can.f (l0_4.length + 1) a0_0 a0_1 a0_2 a0_3 l0_4 l0_5 l0_6 l0_7 l0_8 a1_4 a1_5 a1_6 a1_7 n (a7_ l0_5 a1_1).f0 (a7_ l0_5 a1_1).f1 = some (canB l0_4 a1_4 a1_5 a1_6 a1_7 n (a7_ l0_5 a1_1).f0 (a7_ l0_5 a1_1).f1) :=
   fun n h1 h2 => can_eq _ _ _ _ _ _ _ _ _ _ _ _ _ _ _ _ _ (Nat.le_refl _) hok'.2 hok'.1 hg (by omega) (by omega)
  have := most_can (l0_4.length + 1) a0_0 a0_1 a0_2 a0_3 A0_4 c0_4 l0_4 A0_5 c0_5 l0_5 A0_6 c0_6 l0_6 A0_7 c0_7 l0_7 A0_8 c0_8 l0_8 a1_0 a1_1 a1_2 a1_3 a1_4 a1_5 a1_6 a1_7 _ _ _ (fun n => canB l0_4 a1_4 a1_5 a1_6 a1_7 n (a7_ l0_5 a1_1).f0 (a7_ l0_5 a1_1).f1) (fun n => placeB l0_4 a1_4 a1_5 a1_6 a1_7 n) w hr0_4 hc0_4 hr0_5 hc0_5 hr0_6 hc0_6 hr0_7 hc0_7 hr0_8 hc0_8 hL ⟨hb.2.1, hb.2.2⟩ hb.1
   (hcan a1_6 (Int.le_refl _) hb.2.1) hcan (fun n _ _ => by unfold pack_Place.f; rw [if_pos hok]) (r1, r2) h.symm
  exact this
 ·rw [if_pos (by simpa using he)] at h
  injection h with h1 h2
  subst h1 h2
  exact most_left a0_0 a0_1 a0_2 a0_3 A0_4 c0_4 l0_4 A0_5 c0_5 l0_5 A0_6 c0_6 l0_6 A0_7 c0_7 l0_7 A0_8 c0_8 l0_8 a1_0 a1_1 a1_2 a1_3 a1_4 a1_5 a1_6 a1_7 (leftB l0_5 a1_1 a1_4 a1_5 a1_6 a1_7).1 (leftB l0_5 a1_1 a1_4 a1_5 a1_6 a1_7).2.1 _ w hr0_4 hc0_4 hr0_5 hc0_5 hr0_6 hc0_6 hr0_7 hc0_7 hr0_8 hc0_8 hL he
end Go.Proofs.Ytckhjehibjdjdaa.P
namespace Go.Proofs.Ytckhjehibjdjdaa.P
open Go.RowKit Go.Shelf Go.Proofs.YtckhjehibjdjdaaW.PrintWords Go.Proofs.YtckhjehibjdjdaaW.PrintLast Go.Proofs.YtckhjehibjdjdaaW.PrintMore
attribute [local go_sem] Oper.semAt_some
theorem srt_le {V : List HV} (hV : Srt hkey V) {i j : Nat} {x y : HV} (hij : i ≤ j) (hx : V[i]? = some x) (hy : V[j]? = some y) : hkey x ≤ hkey y := by
 obtain ⟨hi, rfl⟩ := List.getElem?_eq_some_iff.1 hx
 obtain ⟨hj, rfl⟩ := List.getElem?_eq_some_iff.1 hy
 by_cases e : i = j
 ·subst e; exact Int.le_refl _
 ·exact List.pairwise_iff_getElem.1 hV i j hi hj (by omega)
theorem split12 {U V : List HV} (hU : Srt hkey U) (hV : Srt hkey V) {p q : Nat} (hp : p ≤ U.length) (h : p = 0 ∨ V.length ≤ q ∨ ∀ x y, U[p - 1]? = some x → V[q]? = some y → hkey x ≤ hkey y) : ∀ x ∈ U.take p, ∀ y ∈ V.drop q, hkey x ≤ hkey y := fun x hx y hy => by
 obtain ⟨i, hi, rfl⟩ := List.mem_iff_getElem.1 hx
 obtain ⟨j, hj, rfl⟩ := List.mem_iff_getElem.1 hy
 rw [List.length_take] at hi
 rw [List.length_drop] at hj
 rw [List.getElem_take, List.getElem_drop]
 rcases h with h | h | h
 ·omega
 ·omega
 ·have h1 := srt_le hU (i := i) (j := p - 1) (by omega) (List.getElem?_eq_getElem (by omega)) (List.getElem?_eq_getElem (by omega))
  have h2 := srt_le hV (i := q) (j := q + j) (by omega) (List.getElem?_eq_getElem (by omega)) (List.getElem?_eq_getElem (by omega))
  have h3 := h _ _ (List.getElem?_eq_getElem (show p - 1 < U.length by omega)) (List.getElem?_eq_getElem (show q < V.length by omega))
  omega
theorem split21 {U V : List HV} (hU : Srt hkey U) (hV : Srt hkey V) {p q : Nat} (hq : q ≤ V.length) (h : U.length ≤ p ∨ q = 0 ∨ ∀ x y, U[p]? = some x → V[q - 1]? = some y → hkey y < hkey x) : ∀ x ∈ U.drop p, ∀ y ∈ V.take q, hkey y < hkey x := fun x hx y hy => by
 obtain ⟨i, hi, rfl⟩ := List.mem_iff_getElem.1 hx
 obtain ⟨j, hj, rfl⟩ := List.mem_iff_getElem.1 hy
 rw [List.length_drop] at hi
 rw [List.length_take] at hj
 rw [List.getElem_take, List.getElem_drop]
 rcases h with h | h | h
 ·omega
 ·omega
 ·have h1 := srt_le hU (i := p) (j := p + i) (by omega) (List.getElem?_eq_getElem (by omega)) (List.getElem?_eq_getElem (by omega))
  have h2 := srt_le hV (i := j) (j := q - 1) (by omega) (List.getElem?_eq_getElem (by omega)) (List.getElem?_eq_getElem (by omega))
  have h3 := h _ _ (List.getElem?_eq_getElem (show p < U.length by omega)) (List.getElem?_eq_getElem (show q - 1 < V.length by omega))
  omega
def SymC (sz : Nat) : Prop := ∀ (g n cap base a m b : Nat) (ok : Nat → Prop) (X U V Z : List HV) (w : World), U.length + V.length = sz → Kd.R kh 41 w base ok (.slice (some ⟨g, 0, none⟩) n cap) (X ++ (U ++ (V ++ Z))) → a = X.length → m = X.length + U.length → b = X.length + U.length + V.length → 0 < U.length → 0 < V.length → Srt hkey U → Srt hkey V → n ≤ 1000000000000 → (∀ k, ok k → k < w.heap.size) →
  Calls Try.prog 121 #[.slice (some ⟨g, 0, none⟩) n cap, .int .i64 a, .int .i64 m, .int .i64 b, .func (.func 72) #[] #[]] w fun e w' => e = .returned (.tuple #[]) ∧ Kd.R kh 41 w' base ok (.slice (some ⟨g, 0, none⟩) n cap) (X ++ (mrg hkey U V ++ Z)) ∧ w.grownBy w' (some g)
set_option maxHeartbeats 16000000 in
set_option maxRecDepth 100000 in
theorem symMerge_gen (sz : Nat) (IH : ∀ s, s < sz → SymC s) (g n cap base a m b : Nat) (ok : Nat → Prop) (X U V Z : List HV) (w : World) (hsz : U.length + V.length = sz) (hr : Kd.R kh 41 w base ok (.slice (some ⟨g, 0, none⟩) n cap) (X ++ (U ++ (V ++ Z)))) (ha : a = X.length) (hm : m = X.length + U.length) (hb : b = X.length + U.length + V.length) (hU2 : 1 < U.length) (hV2 : 1 < V.length) (hU : Srt hkey U) (hV : Srt hkey V) (hn : n ≤ 1000000000000) (hok : ∀ k, ok k → k < w.heap.size) :
  Calls Try.prog 121 #[.slice (some ⟨g, 0, none⟩) n cap, .int .i64 a, .int .i64 m, .int .i64 b, .func (.func 72) #[] #[]] w fun e w' => e = .returned (.tuple #[]) ∧ Kd.R kh 41 w' base ok (.slice (some ⟨g, 0, none⟩) n cap) (X ++ (mrg hkey U V ++ Z)) ∧ w.grownBy w' (some g) := by
 have hu41 := Try.underlying41
 have HR := m_ hr
 have HOK := m_ hok
 have HS := m_ (And.intro hU hV)
 have HIH := m_ IH
 have hxl := (Kd.R_reads' hr).1
 simp only [List.length_append] at hxl
 obtain ⟨mid, hmid⟩ : ∃ mid, mid = (a + b) / 2 := ⟨_, rfl⟩
 have bm : a + 1 < m ∧ m + 1 < b ∧ b ≤ n ∧ a < mid ∧ mid < b ∧ 2 * mid ≤ a + b ∧ a + b ≤ 2 * mid + 1 := by omega
 obtain ⟨b1, b2, b3, b4, b5, b6, b7⟩ := bm
 obtain ⟨lo, hi, hlh⟩ : ∃ lo hi : Nat, (mid < m ∧ lo + b = mid + m ∧ hi = mid) ∨ (¬ mid < m ∧ lo = a ∧ hi = m) := by
  by_cases h : mid < m
  ·exact ⟨mid + m - b, mid, .inl ⟨h, by omega, rfl⟩⟩
  ·exact ⟨a, m, .inr ⟨h, rfl, rfl⟩⟩
 have bl : a ≤ lo ∧ lo ≤ hi ∧ hi ≤ m ∧ hi ≤ mid ∧ mid + m ≤ lo + b := by omega
 obtain ⟨l1, l2, l3, l4, l5⟩ := bl
 have HLH := m_ hlh
 have hma : ((m : Int) - (a : Int) == 1) = false := by simp; omega
 have hbm : ((b : Int) - (m : Int) == 1) = false := by simp; omega
 have hmd : ((a : Int) + (b : Int)) / 2 = (mid : Int) := by omega
 have HLN := m_ (show X.length = a ∧ U.length = m - a ∧ V.length = b - m ∧ U.length + V.length = sz from by omega)
 clear hr hok hU hV hxl hm ha hb hU2 hV2 IH hsz hmid
 rcases hlh with ⟨q1, q2, q3⟩ | ⟨q1, q2, q3⟩
 ·have t1 : decide ((mid : Int) < (m : Int)) = true := by simp; omega
  have t2 : (mid : Int) + (m : Int) - (b : Int) = (lo : Int) := by omega
  have t3 : (mid : Int) < (m : Int) := by omega
  subst q3
  clear q2 t1
  go_enter Try.func121, Try.ntmps121
  go_wp2
  go_loopw [20, 21] (fun v20 v21 wr => ∃ (s r : Nat), v20 = .int .i64 (s : Int) ∧ v21 = .int .i64 (r : Int) ∧ lo ≤ s ∧ s ≤ r ∧ r ≤ hi ∧ A_ (∀ c x y, lo ≤ c → c < s → U[c - a]? = some x → V[hi + m - 1 - c - m]? = some y → hkey x ≤ hkey y) ∧ A_ (∀ c x y, r ≤ c → c < hi → U[c - a]? = some x → V[hi + m - 1 - c - m]? = some y → hkey y < hkey x) ∧
   A_ (Kd.R kh 41 wr base ok (.slice (some ⟨g, 0, none⟩) n cap) (X ++ (U ++ (V ++ Z)))) ∧ A_ (w.grownBy wr (some g))) (fun v20 v21 _ => (intOf v21).toNat - (intOf v20).toNat)
  case atStart => exact ⟨lo, hi, rfl, rfl, Nat.le_refl _, l2, Nat.le_refl _, ⟨fun c x y h1 h2 => by omega⟩, ⟨fun c x y h1 h2 => by omega⟩, HR, ⟨d4_ _ _⟩⟩
  case round =>
   clear HR
   obtain ⟨s, r, rfl, rfl, hls, hsr, hrh, HT, HD, HA, HG⟩ := hrel
   by_cases hlt : s < r
   ·have hlt' : (s : Int) < r := by omega
    obtain ⟨c, hc⟩ : ∃ c, c = (s + r) / 2 := ⟨_, rfl⟩
    have hc1 : s ≤ c ∧ c < r := by omega
    obtain ⟨hc2, hc3⟩ := hc1
    obtain ⟨d, hd⟩ : ∃ d, d = hi + m - 1 - c := ⟨_, rfl⟩
    have hd1 : m ≤ d ∧ d < b := by omega
    have hxu : U[c - a]? = some _ := List.getElem?_eq_getElem (show c - a < U.length by have := HLN.out; omega)
    have hyv : V[d - m]? = some _ := List.getElem?_eq_getElem (show d - m < V.length by have := HLN.out; omega)
    generalize U[c - a]'_ = x at *
    generalize V[d - m]'_ = y at *
    have hrx : (X ++ (U ++ (V ++ Z)))[c]? = some x := by rw [List.getElem?_append_right Z8, List.getElem?_append_left Z8, show c - X.length = c - a by have := HLN.out; omega]; exact hxu
    have hry : (X ++ (U ++ (V ++ Z)))[d]? = some y := by rw [List.getElem?_append_right Z8, List.getElem?_append_right Z8, List.getElem?_append_left Z8, show d - X.length - U.length = d - m by have := HLN.out; omega]; exact hyv
    obtain ⟨x0, x1, x2, x3, x4⟩ := at_kh HA.out c x hrx
    obtain ⟨y0, y1, y2, y3, y4⟩ := at_kh HA.out d y hry
    have HXU := m_ hxu
    have HYV := m_ hyv
    have HDD := m_ hd
    have hcc : ((s : Int) + (r : Int)) / 2 = (c : Int) := by omega
    have hdd : (hi : Int) + (m : Int) - 1 - (c : Int) = (d : Int) := by omega
    have hdw : IntKind.i64.wrap ((hi : Int) + (m : Int) - 1 - (c : Int)) = (d : Int) := by rw [IntKind.wrap_i64]; omega
    have hdw2 : IntKind.i64.wrap (d : Int) = (d : Int) := by rw [IntKind.wrap_i64]; omega
    have j0 : (c : Int) < n := by omega
    have j1 : (d : Int) < n := by omega
    have c0 : (0 : Int) ≤ (s : Int) + (r : Int) := by omega
    have c1 : (s : Int) + (r : Int) ≤ 2000000000000 := by omega
    clear hxu hyv hrx hry hd hc
    go_wp2
    go_still_tail 11, (by kernel_rfl)
    change wpList _ _ _ _ _ wr.drew
    have hAd := Kd.R_drew HA.out
    have hGd := grown_drew HG.out
    clear x0 x1 x2 x3 x4 y0 y1 y2 y3 y4
    generalize wr.drew = w3 at *
    have HA3 := m_ hAd
    have HG3 := m_ hGd
    clear hAd hGd HA HG
    have hcl := cmpI_lt y.1.f2 x.1.f2
    by_cases hlt2 : hkey y < hkey x
    ·rw [decide_eq_true (show y.1.f2 < x.1.f2 from hlt2)] at hcl
     have HLT := m_ hlt2
     clear hlt2
     go_wp2_with (go_at_call 72; refine (cmpH_any y x _).mono ?_; rintro e w4 ⟨rfl, hb4⟩; have HA4 := m_ (Kd.R_below HA3.out hb4); have HG4 := m_ (e3_ HG3.out hb4); clear hb4)
     go_roundw
     case rel => exact ⟨s, c, rfl, by first | rfl | exact int_i64 (by omega), hls, hc2, by omega, HT, ⟨fun c' x' y' h1 h2 h3 h4 => by
      by_cases e : r ≤ c'
      ·exact HD.out c' x' y' e h2 h3 h4
      ·have k1 := srt_le HS.out.1 (i := c - a) (j := c' - a) (by omega) HXU.out h3
       have k2 := srt_le HS.out.2 (i := hi + m - 1 - c' - m) (j := d - m) (by have := HDD.out; omega) h4 HYV.out
       have := HLT.out
       omega⟩, HA4, HG4⟩
     case measure => simp [intOf]; omega
    ·rw [decide_eq_false (show ¬ y.1.f2 < x.1.f2 from hlt2)] at hcl
     have HLT := m_ (show hkey x ≤ hkey y by omega)
     clear hlt2
     go_wp2_with (go_at_call 72; refine (cmpH_any y x _).mono ?_; rintro e w4 ⟨rfl, hb4⟩; have HA4 := m_ (Kd.R_below HA3.out hb4); have HG4 := m_ (e3_ HG3.out hb4); clear hb4)
     go_roundw
     case rel => exact ⟨c + 1, r, by first | exact int_i64 (by omega) | go_num, rfl, by omega, by omega, hrh, ⟨fun c' x' y' h1 h2 h3 h4 => by
      by_cases e : c' < s
      ·exact HT.out c' x' y' h1 e h3 h4
      ·have k1 := srt_le HS.out.1 (i := c' - a) (j := c - a) (by omega) h3 HXU.out
       have k2 := srt_le HS.out.2 (i := d - m) (j := hi + m - 1 - c' - m) (by have := HDD.out; omega) HYV.out h4
       have := HLT.out
       omega⟩, HD, HA4, HG4⟩
     case measure => simp [intOf]; omega
   ·obtain rfl : s = r := by omega
    obtain ⟨e, he⟩ : ∃ e, e = hi + m - s := ⟨_, rfl⟩
    have he1 : m ≤ e ∧ e ≤ b ∧ e + s = hi + m := by omega
    obtain ⟨e1, e2, e3⟩ := he1
    have h12 := split12 HS.out.1 HS.out.2 (p := s - a) (q := e - m) Z8 (by
     by_cases h1 : s = a
     ·exact .inl (by omega)
     ·by_cases h2 : e = b
      ·exact .inr (.inl Z8)
      ·exact .inr (.inr fun x y hx hy => HT.out (s - 1) x y (by have := HLH.out; omega) (by omega) (by rw [show s - 1 - a = s - a - 1 by omega]; exact hx) (by rw [show hi + m - 1 - (s - 1) - m = e - m by omega]; exact hy)))
    have h21 := split21 HS.out.1 HS.out.2 (p := s - a) (q := e - m) Z8 (by
     by_cases h1 : s = m
     ·exact .inl Z8
     ·by_cases h2 : e = m
      ·exact .inr (.inl (by omega))
      ·exact .inr (.inr fun x y hx hy => HD.out s x y (by omega) (by have := HLH.out; omega) hx (by rw [show hi + m - 1 - s - m = e - m - 1 by omega]; exact hy)))
    have hU1 : U.take (s - a) ++ U.drop (s - a) = U := List.take_append_drop _ U
    have hV1 : V.take (e - m) ++ V.drop (e - m) = V := List.take_append_drop _ V
    have hml := mrg_split hkey _ _ _ _ h12 h21
    rw [hU1, hV1] at hml
    have hS1 : Srt hkey (U.take (s - a)) ∧ Srt hkey (U.drop (s - a)) ∧ Srt hkey (V.take (e - m)) ∧ Srt hkey (V.drop (e - m)) := ⟨HS.out.1.sublist (List.take_sublist _ _), HS.out.1.sublist (List.drop_sublist _ _), HS.out.2.sublist (List.take_sublist _ _), HS.out.2.sublist (List.drop_sublist _ _)⟩
    have hl1 : (U.take (s - a)).length = s - a ∧ (U.drop (s - a)).length = m - s ∧ (V.take (e - m)).length = e - m ∧ (V.drop (e - m)).length = b - e := by
     rw [List.length_take, List.length_drop, List.length_take, List.length_drop]; have := HLN.out; omega
    have hA0 := HA.out
    rw [← hU1, ← hV1] at hA0
    have HML := m_ hml
    generalize U.take (s - a) = U1 at *
    generalize U.drop (s - a) = U2 at *
    generalize V.take (e - m) = V1 at *
    generalize V.drop (e - m) = V2 at *
    have HS1 := m_ hS1
    have HL1 := m_ hl1
    have HA0 := m_ (show Kd.R kh 41 wr base ok (.slice (some ⟨g, 0, none⟩) n cap) (X ++ (U1 ++ (U2 ++ (V1 ++ (V2 ++ Z))))) from by simpa using hA0)
    have hok1 : ∀ k, ok k → k < wr.heap.size := fun k hk => Nat.lt_of_lt_of_le (HOK.out k hk) HG.out.size
    have HOK1 := m_ hok1
    have hen : (hi : Int) + (m : Int) - (s : Int) = (e : Int) := by omega
    have hbnd : a ≤ s ∧ s ≤ m ∧ s ≤ hi := by omega
    obtain ⟨n1, n2, n3⟩ := hbnd
    clear h12 h21 hU1 hV1 hml hS1 hl1 hA0 HA HT HD hok1 he
    have hcs : (a < s ∧ m < e ∧ s < m ∧ e < b) ∨ (a < s ∧ m < e ∧ s < m ∧ b ≤ e) ∨ (a < s ∧ m < e ∧ m ≤ s ∧ e < b) ∨ (a < s ∧ e ≤ m ∧ s < m ∧ e < b) ∨ (a < s ∧ e ≤ m ∧ m ≤ s ∧ e < b) ∨ (s ≤ a ∧ m < e ∧ s < m ∧ e < b) ∨ (s ≤ a ∧ m < e ∧ s < m ∧ b ≤ e) := by omega
    rcases hcs with ⟨k1, k2, k3, k4⟩ | ⟨k1, k2, k3, k4⟩ | ⟨k1, k2, k3, k4⟩ | ⟨k1, k2, k3, k4⟩ | ⟨k1, k2, k3, k4⟩ | ⟨k1, k2, k3, k4⟩ | ⟨k1, k2, k3, k4⟩
    ·have z1 : (s : Int) < (m : Int) := by omega
     have z2 : (m : Int) < (e : Int) := by omega
     have z3 : (a : Int) < (s : Int) := by omega
     have z4 : (s : Int) < (hi : Int) := by omega
     have z5 : (hi : Int) < (e : Int) := by omega
     have z6 : (e : Int) < (b : Int) := by omega
     have HRB := m_ (show Kd.R kh 41 wr base ok (.slice (some ⟨g, 0, none⟩) n cap) ((X ++ U1) ++ (U2 ++ (V1 ++ (V2 ++ Z)))) from by simpa using HA0.out)
     go_wp2_with (go_at_call 136; refine (rotate_any g n cap base s m e ok (X ++ U1) U2 V1 (V2 ++ Z) wr HRB.out Z5 Z5 Z5 Z7 Z7 hn HOK1.out).mono ?_; rintro e' w5 ⟨rfl, hr5, hg5⟩; have HR5 := m_ (show Kd.R kh 41 w5 base ok (.slice (some ⟨g, 0, none⟩) n cap) (X ++ (U1 ++ (V1 ++ (U2 ++ (V2 ++ Z))))) from by simpa using hr5); have HG5 := m_ (b3_ HG.out hg5); have HOK5 := m_ (fun k hk => Nat.lt_of_lt_of_le (HOK1.out k hk) hg5.size); clear hr5 hg5)
     refine (HIH.out (U1.length + V1.length) Z12 g n cap base a s hi ok X U1 V1 (U2 ++ (V2 ++ Z)) w5 rfl HR5.out Z8 Z11 Z11 Z7 Z7 HS1.out.1 HS1.out.2.2.1 hn HOK5.out).mono ?_
     rintro e' w6 ⟨rfl, hr6, hg6⟩
     have HR6 := m_ hr6
     have HG6 := m_ (b3_ HG5.out hg6)
     have HOK6 := m_ (fun k hk => Nat.lt_of_lt_of_le (HOK5.out k hk) hg6.size)
     clear hr6 hg6
     go_wp2_with fail
     have HML1 := m_ (show (X ++ mrg hkey U1 V1).length = hi from by rw [List.length_append, mrg_length]; have := HLN.out; have := HL1.out; omega)
     have HR7 := m_ (show Kd.R kh 41 w6 base ok (.slice (some ⟨g, 0, none⟩) n cap) ((X ++ mrg hkey U1 V1) ++ (U2 ++ (V2 ++ Z))) from by rw [List.append_assoc]; exact HR6.out)
     refine (HIH.out (U2.length + V2.length) Z12 g n cap base hi e b ok (X ++ mrg hkey U1 V1) U2 V2 Z w6 rfl HR7.out (by have := HML1.out; omega) Z10 Z10 Z7 Z7 HS1.out.2.1 HS1.out.2.2.2 hn HOK6.out).mono ?_
     rintro e' w7 ⟨rfl, hr7, hg7⟩
     have HR8 := m_ hr7
     have HG8 := m_ (b3_ HG6.out hg7)
     clear hr7 hg7
     go_wp2_with fail
     go_end0
     exact ⟨rfl, by rw [HML.out]; have := HR8.out; simpa using this, HG8.out⟩
    ·have z1 : (s : Int) < (m : Int) := by omega
     have z2 : (m : Int) < (e : Int) := by omega
     have z3 : (a : Int) < (s : Int) := by omega
     have z4 : (s : Int) < (hi : Int) := by omega
     have z5 : (hi : Int) < (e : Int) := by omega
     have z6 : decide ((e : Int) < (b : Int)) = false := by simp; omega
     have HRB := m_ (show Kd.R kh 41 wr base ok (.slice (some ⟨g, 0, none⟩) n cap) ((X ++ U1) ++ (U2 ++ (V1 ++ (V2 ++ Z)))) from by simpa using HA0.out)
     go_wp2_with (go_at_call 136; refine (rotate_any g n cap base s m e ok (X ++ U1) U2 V1 (V2 ++ Z) wr HRB.out Z5 Z5 Z5 Z7 Z7 hn HOK1.out).mono ?_; rintro e' w5 ⟨rfl, hr5, hg5⟩; have HR5 := m_ (show Kd.R kh 41 w5 base ok (.slice (some ⟨g, 0, none⟩) n cap) (X ++ (U1 ++ (V1 ++ (U2 ++ (V2 ++ Z))))) from by simpa using hr5); have HG5 := m_ (b3_ HG.out hg5); have HOK5 := m_ (fun k hk => Nat.lt_of_lt_of_le (HOK1.out k hk) hg5.size); clear hr5 hg5)
     refine (HIH.out (U1.length + V1.length) Z12 g n cap base a s hi ok X U1 V1 (U2 ++ (V2 ++ Z)) w5 rfl HR5.out Z8 Z11 Z11 Z7 Z7 HS1.out.1 HS1.out.2.2.1 hn HOK5.out).mono ?_
     rintro e' w6 ⟨rfl, hr6, hg6⟩
     have HR6 := m_ hr6
     have HG6 := m_ (b3_ HG5.out hg6)
     have HOK6 := m_ (fun k hk => Nat.lt_of_lt_of_le (HOK5.out k hk) hg6.size)
     clear hr6 hg6
     go_wp2_with fail
     have HML1 := m_ (show (X ++ mrg hkey U1 V1).length = hi from by rw [List.length_append, mrg_length]; have := HLN.out; have := HL1.out; omega)
     have HR7 := m_ (show Kd.R kh 41 w6 base ok (.slice (some ⟨g, 0, none⟩) n cap) ((X ++ mrg hkey U1 V1) ++ (U2 ++ (V2 ++ Z))) from by rw [List.append_assoc]; exact HR6.out)
     have hem : V2 = [] := List.eq_nil_of_length_eq_zero Z7
     have HR8 := m_ (show Kd.R kh 41 w6 base ok (.slice (some ⟨g, 0, none⟩) n cap) ((X ++ mrg hkey U1 V1) ++ (mrg hkey U2 V2 ++ Z)) from by have := HR7.out; rw [hem] at this ⊢; rw [mrg_nil_right]; simpa using this)
     have HG8 := HG6
     clear hem
     go_end0
     exact ⟨rfl, by rw [HML.out]; have := HR8.out; simpa using this, HG8.out⟩
    ·exfalso; omega
    ·have z1 : (s : Int) < (m : Int) := by omega
     have z2 : decide ((m : Int) < (e : Int)) = false := by simp; omega
     have z3 : (a : Int) < (s : Int) := by omega
     have z4 : decide ((s : Int) < (hi : Int)) = false := by simp; omega
     have z5 : (hi : Int) < (e : Int) := by omega
     have z6 : (e : Int) < (b : Int) := by omega
     have hem : V1 = [] := List.eq_nil_of_length_eq_zero Z7
     have HR5 := m_ (show Kd.R kh 41 wr base ok (.slice (some ⟨g, 0, none⟩) n cap) (X ++ (U1 ++ (V1 ++ (U2 ++ (V2 ++ Z))))) from by have := HA0.out; rw [hem] at this ⊢; simpa using this)
     have HG5 := HG
     have HOK5 := HOK1
     clear hem
     go_wp2_with fail
     have hem : V1 = [] := List.eq_nil_of_length_eq_zero Z7
     have HR6 := m_ (show Kd.R kh 41 wr base ok (.slice (some ⟨g, 0, none⟩) n cap) (X ++ (mrg hkey U1 V1 ++ (U2 ++ (V2 ++ Z)))) from by have := HR5.out; rw [hem] at this ⊢; rw [mrg_nil_right]; simpa using this)
     have HG6 := HG5
     have HOK6 := HOK5
     clear hem
     have HML1 := m_ (show (X ++ mrg hkey U1 V1).length = hi from by rw [List.length_append, mrg_length]; have := HLN.out; have := HL1.out; omega)
     have HR7 := m_ (show Kd.R kh 41 wr base ok (.slice (some ⟨g, 0, none⟩) n cap) ((X ++ mrg hkey U1 V1) ++ (U2 ++ (V2 ++ Z))) from by rw [List.append_assoc]; exact HR6.out)
     refine (HIH.out (U2.length + V2.length) Z12 g n cap base hi e b ok (X ++ mrg hkey U1 V1) U2 V2 Z wr rfl HR7.out (by have := HML1.out; omega) Z10 Z10 Z7 Z7 HS1.out.2.1 HS1.out.2.2.2 hn HOK6.out).mono ?_
     rintro e' w7 ⟨rfl, hr7, hg7⟩
     have HR8 := m_ hr7
     have HG8 := m_ (b3_ HG6.out hg7)
     clear hr7 hg7
     go_wp2_with fail
     go_end0
     exact ⟨rfl, by rw [HML.out]; have := HR8.out; simpa using this, HG8.out⟩
    ·exfalso; omega
    ·exfalso; omega
    ·have z1 : (s : Int) < (m : Int) := by omega
     have z2 : (m : Int) < (e : Int) := by omega
     have z3 : decide ((a : Int) < (s : Int)) = false := by simp; omega
     have z4 : (s : Int) < (hi : Int) := by omega
     have z5 : (hi : Int) < (e : Int) := by omega
     have z6 : decide ((e : Int) < (b : Int)) = false := by simp; omega
     have HRB := m_ (show Kd.R kh 41 wr base ok (.slice (some ⟨g, 0, none⟩) n cap) ((X ++ U1) ++ (U2 ++ (V1 ++ (V2 ++ Z)))) from by simpa using HA0.out)
     go_wp2_with (go_at_call 136; refine (rotate_any g n cap base s m e ok (X ++ U1) U2 V1 (V2 ++ Z) wr HRB.out Z5 Z5 Z5 Z7 Z7 hn HOK1.out).mono ?_; rintro e' w5 ⟨rfl, hr5, hg5⟩; have HR5 := m_ (show Kd.R kh 41 w5 base ok (.slice (some ⟨g, 0, none⟩) n cap) (X ++ (U1 ++ (V1 ++ (U2 ++ (V2 ++ Z))))) from by simpa using hr5); have HG5 := m_ (b3_ HG.out hg5); have HOK5 := m_ (fun k hk => Nat.lt_of_lt_of_le (HOK1.out k hk) hg5.size); clear hr5 hg5)
     have hem : U1 = [] := List.eq_nil_of_length_eq_zero Z7
     have HR6 := m_ (show Kd.R kh 41 w5 base ok (.slice (some ⟨g, 0, none⟩) n cap) (X ++ (mrg hkey U1 V1 ++ (U2 ++ (V2 ++ Z)))) from by have := HR5.out; rw [hem] at this ⊢; rw [mrg_nil_left]; simpa using this)
     have HG6 := HG5
     have HOK6 := HOK5
     clear hem
     have HML1 := m_ (show (X ++ mrg hkey U1 V1).length = hi from by rw [List.length_append, mrg_length]; have := HLN.out; have := HL1.out; omega)
     have HR7 := m_ (show Kd.R kh 41 w5 base ok (.slice (some ⟨g, 0, none⟩) n cap) ((X ++ mrg hkey U1 V1) ++ (U2 ++ (V2 ++ Z))) from by rw [List.append_assoc]; exact HR6.out)
     have hem : V2 = [] := List.eq_nil_of_length_eq_zero Z7
     have HR8 := m_ (show Kd.R kh 41 w5 base ok (.slice (some ⟨g, 0, none⟩) n cap) ((X ++ mrg hkey U1 V1) ++ (mrg hkey U2 V2 ++ Z)) from by have := HR7.out; rw [hem] at this ⊢; rw [mrg_nil_right]; simpa using this)
     have HG8 := HG6
     clear hem
     go_end0
     exact ⟨rfl, by rw [HML.out]; have := HR8.out; simpa using this, HG8.out⟩
 ·have t1 : decide ((mid : Int) < (m : Int)) = false := by simp; omega
  subst q2 q3
  go_enter Try.func121, Try.ntmps121
  go_wp2
  go_loopw [20, 21] (fun v20 v21 wr => ∃ (s r : Nat), v20 = .int .i64 (s : Int) ∧ v21 = .int .i64 (r : Int) ∧ lo ≤ s ∧ s ≤ r ∧ r ≤ hi ∧ A_ (∀ c x y, lo ≤ c → c < s → U[c - lo]? = some x → V[mid + hi - 1 - c - hi]? = some y → hkey x ≤ hkey y) ∧ A_ (∀ c x y, r ≤ c → c < hi → U[c - lo]? = some x → V[mid + hi - 1 - c - hi]? = some y → hkey y < hkey x) ∧
   A_ (Kd.R kh 41 wr base ok (.slice (some ⟨g, 0, none⟩) n cap) (X ++ (U ++ (V ++ Z)))) ∧ A_ (w.grownBy wr (some g))) (fun v20 v21 _ => (intOf v21).toNat - (intOf v20).toNat)
  case atStart => exact ⟨lo, hi, rfl, rfl, Nat.le_refl _, l2, Nat.le_refl _, ⟨fun c x y h1 h2 => by omega⟩, ⟨fun c x y h1 h2 => by omega⟩, HR, ⟨d4_ _ _⟩⟩
  case round =>
   clear HR
   obtain ⟨s, r, rfl, rfl, hls, hsr, hrh, HT, HD, HA, HG⟩ := hrel
   by_cases hlt : s < r
   ·have hlt' : (s : Int) < r := by omega
    obtain ⟨c, hc⟩ : ∃ c, c = (s + r) / 2 := ⟨_, rfl⟩
    have hc1 : s ≤ c ∧ c < r := by omega
    obtain ⟨hc2, hc3⟩ := hc1
    obtain ⟨d, hd⟩ : ∃ d, d = mid + hi - 1 - c := ⟨_, rfl⟩
    have hd1 : hi ≤ d ∧ d < b := by omega
    have hxu : U[c - lo]? = some _ := List.getElem?_eq_getElem (show c - lo < U.length by have := HLN.out; omega)
    have hyv : V[d - hi]? = some _ := List.getElem?_eq_getElem (show d - hi < V.length by have := HLN.out; omega)
    generalize U[c - lo]'_ = x at *
    generalize V[d - hi]'_ = y at *
    have hrx : (X ++ (U ++ (V ++ Z)))[c]? = some x := by rw [List.getElem?_append_right Z8, List.getElem?_append_left Z8, show c - X.length = c - lo by have := HLN.out; omega]; exact hxu
    have hry : (X ++ (U ++ (V ++ Z)))[d]? = some y := by rw [List.getElem?_append_right Z8, List.getElem?_append_right Z8, List.getElem?_append_left Z8, show d - X.length - U.length = d - hi by have := HLN.out; omega]; exact hyv
    obtain ⟨x0, x1, x2, x3, x4⟩ := at_kh HA.out c x hrx
    obtain ⟨y0, y1, y2, y3, y4⟩ := at_kh HA.out d y hry
    have HXU := m_ hxu
    have HYV := m_ hyv
    have HDD := m_ hd
    have hcc : ((s : Int) + (r : Int)) / 2 = (c : Int) := by omega
    have hdd : (mid : Int) + (hi : Int) - 1 - (c : Int) = (d : Int) := by omega
    have hdw : IntKind.i64.wrap ((mid : Int) + (hi : Int) - 1 - (c : Int)) = (d : Int) := by rw [IntKind.wrap_i64]; omega
    have hdw2 : IntKind.i64.wrap (d : Int) = (d : Int) := by rw [IntKind.wrap_i64]; omega
    have j0 : (c : Int) < n := by omega
    have j1 : (d : Int) < n := by omega
    have c0 : (0 : Int) ≤ (s : Int) + (r : Int) := by omega
    have c1 : (s : Int) + (r : Int) ≤ 2000000000000 := by omega
    clear hxu hyv hrx hry hd hc
    go_wp2
    go_still_tail 11, (by kernel_rfl)
    change wpList _ _ _ _ _ wr.drew
    have hAd := Kd.R_drew HA.out
    have hGd := grown_drew HG.out
    clear x0 x1 x2 x3 x4 y0 y1 y2 y3 y4
    generalize wr.drew = w3 at *
    have HA3 := m_ hAd
    have HG3 := m_ hGd
    clear hAd hGd HA HG
    have hcl := cmpI_lt y.1.f2 x.1.f2
    by_cases hlt2 : hkey y < hkey x
    ·rw [decide_eq_true (show y.1.f2 < x.1.f2 from hlt2)] at hcl
     have HLT := m_ hlt2
     clear hlt2
     go_wp2_with (go_at_call 72; refine (cmpH_any y x _).mono ?_; rintro e w4 ⟨rfl, hb4⟩; have HA4 := m_ (Kd.R_below HA3.out hb4); have HG4 := m_ (e3_ HG3.out hb4); clear hb4)
     go_roundw
     case rel => exact ⟨s, c, rfl, by first | rfl | exact int_i64 (by omega), hls, hc2, by omega, HT, ⟨fun c' x' y' h1 h2 h3 h4 => by
      by_cases e : r ≤ c'
      ·exact HD.out c' x' y' e h2 h3 h4
      ·have k1 := srt_le HS.out.1 (i := c - lo) (j := c' - lo) (by omega) HXU.out h3
       have k2 := srt_le HS.out.2 (i := mid + hi - 1 - c' - hi) (j := d - hi) (by have := HDD.out; omega) h4 HYV.out
       have := HLT.out
       omega⟩, HA4, HG4⟩
     case measure => simp [intOf]; omega
    ·rw [decide_eq_false (show ¬ y.1.f2 < x.1.f2 from hlt2)] at hcl
     have HLT := m_ (show hkey x ≤ hkey y by omega)
     clear hlt2
     go_wp2_with (go_at_call 72; refine (cmpH_any y x _).mono ?_; rintro e w4 ⟨rfl, hb4⟩; have HA4 := m_ (Kd.R_below HA3.out hb4); have HG4 := m_ (e3_ HG3.out hb4); clear hb4)
     go_roundw
     case rel => exact ⟨c + 1, r, by first | exact int_i64 (by omega) | go_num, rfl, by omega, by omega, hrh, ⟨fun c' x' y' h1 h2 h3 h4 => by
      by_cases e : c' < s
      ·exact HT.out c' x' y' h1 e h3 h4
      ·have k1 := srt_le HS.out.1 (i := c' - lo) (j := c - lo) (by omega) h3 HXU.out
       have k2 := srt_le HS.out.2 (i := d - hi) (j := mid + hi - 1 - c' - hi) (by have := HDD.out; omega) HYV.out h4
       have := HLT.out
       omega⟩, HD, HA4, HG4⟩
     case measure => simp [intOf]; omega
   ·obtain rfl : s = r := by omega
    obtain ⟨e, he⟩ : ∃ e, e = mid + hi - s := ⟨_, rfl⟩
    have he1 : hi ≤ e ∧ e ≤ b ∧ e + s = mid + hi := by omega
    obtain ⟨e1, e2, e3⟩ := he1
    have h12 := split12 HS.out.1 HS.out.2 (p := s - lo) (q := e - hi) Z8 (by
     by_cases h1 : s = lo
     ·exact .inl (by omega)
     ·by_cases h2 : e = b
      ·exact .inr (.inl Z8)
      ·exact .inr (.inr fun x y hx hy => HT.out (s - 1) x y (by have := HLH.out; omega) (by omega) (by rw [show s - 1 - lo = s - lo - 1 by omega]; exact hx) (by rw [show mid + hi - 1 - (s - 1) - hi = e - hi by omega]; exact hy)))
    have h21 := split21 HS.out.1 HS.out.2 (p := s - lo) (q := e - hi) Z8 (by
     by_cases h1 : s = hi
     ·exact .inl Z8
     ·by_cases h2 : e = hi
      ·exact .inr (.inl (by omega))
      ·exact .inr (.inr fun x y hx hy => HD.out s x y (by omega) (by have := HLH.out; omega) hx (by rw [show mid + hi - 1 - s - hi = e - hi - 1 by omega]; exact hy)))
    have hU1 : U.take (s - lo) ++ U.drop (s - lo) = U := List.take_append_drop _ U
    have hV1 : V.take (e - hi) ++ V.drop (e - hi) = V := List.take_append_drop _ V
    have hml := mrg_split hkey _ _ _ _ h12 h21
    rw [hU1, hV1] at hml
    have hS1 : Srt hkey (U.take (s - lo)) ∧ Srt hkey (U.drop (s - lo)) ∧ Srt hkey (V.take (e - hi)) ∧ Srt hkey (V.drop (e - hi)) := ⟨HS.out.1.sublist (List.take_sublist _ _), HS.out.1.sublist (List.drop_sublist _ _), HS.out.2.sublist (List.take_sublist _ _), HS.out.2.sublist (List.drop_sublist _ _)⟩
    have hl1 : (U.take (s - lo)).length = s - lo ∧ (U.drop (s - lo)).length = hi - s ∧ (V.take (e - hi)).length = e - hi ∧ (V.drop (e - hi)).length = b - e := by
     rw [List.length_take, List.length_drop, List.length_take, List.length_drop]; have := HLN.out; omega
    have hA0 := HA.out
    rw [← hU1, ← hV1] at hA0
    have HML := m_ hml
    generalize U.take (s - lo) = U1 at *
    generalize U.drop (s - lo) = U2 at *
    generalize V.take (e - hi) = V1 at *
    generalize V.drop (e - hi) = V2 at *
    have HS1 := m_ hS1
    have HL1 := m_ hl1
    have HA0 := m_ (show Kd.R kh 41 wr base ok (.slice (some ⟨g, 0, none⟩) n cap) (X ++ (U1 ++ (U2 ++ (V1 ++ (V2 ++ Z))))) from by simpa using hA0)
    have hok1 : ∀ k, ok k → k < wr.heap.size := fun k hk => Nat.lt_of_lt_of_le (HOK.out k hk) HG.out.size
    have HOK1 := m_ hok1
    have hen : (mid : Int) + (hi : Int) - (s : Int) = (e : Int) := by omega
    have hbnd : lo ≤ s ∧ s ≤ hi ∧ s ≤ mid := by omega
    obtain ⟨n1, n2, n3⟩ := hbnd
    clear h12 h21 hU1 hV1 hml hS1 hl1 hA0 HA HT HD hok1 he
    have hcs : (lo < s ∧ hi < e ∧ s < hi ∧ e < b) ∨ (lo < s ∧ hi < e ∧ s < hi ∧ b ≤ e) ∨ (lo < s ∧ hi < e ∧ hi ≤ s ∧ e < b) ∨ (lo < s ∧ e ≤ hi ∧ s < hi ∧ e < b) ∨ (lo < s ∧ e ≤ hi ∧ hi ≤ s ∧ e < b) ∨ (s ≤ lo ∧ hi < e ∧ s < hi ∧ e < b) ∨ (s ≤ lo ∧ hi < e ∧ s < hi ∧ b ≤ e) := by omega
    rcases hcs with ⟨k1, k2, k3, k4⟩ | ⟨k1, k2, k3, k4⟩ | ⟨k1, k2, k3, k4⟩ | ⟨k1, k2, k3, k4⟩ | ⟨k1, k2, k3, k4⟩ | ⟨k1, k2, k3, k4⟩ | ⟨k1, k2, k3, k4⟩
    ·have z1 : (s : Int) < (hi : Int) := by omega
     have z2 : (hi : Int) < (e : Int) := by omega
     have z3 : (lo : Int) < (s : Int) := by omega
     have z4 : (s : Int) < (mid : Int) := by omega
     have z5 : (mid : Int) < (e : Int) := by omega
     have z6 : (e : Int) < (b : Int) := by omega
     have HRB := m_ (show Kd.R kh 41 wr base ok (.slice (some ⟨g, 0, none⟩) n cap) ((X ++ U1) ++ (U2 ++ (V1 ++ (V2 ++ Z)))) from by simpa using HA0.out)
     go_wp2_with (go_at_call 136; refine (rotate_any g n cap base s hi e ok (X ++ U1) U2 V1 (V2 ++ Z) wr HRB.out Z5 Z5 Z5 Z7 Z7 hn HOK1.out).mono ?_; rintro e' w5 ⟨rfl, hr5, hg5⟩; have HR5 := m_ (show Kd.R kh 41 w5 base ok (.slice (some ⟨g, 0, none⟩) n cap) (X ++ (U1 ++ (V1 ++ (U2 ++ (V2 ++ Z))))) from by simpa using hr5); have HG5 := m_ (b3_ HG.out hg5); have HOK5 := m_ (fun k hk => Nat.lt_of_lt_of_le (HOK1.out k hk) hg5.size); clear hr5 hg5)
     refine (HIH.out (U1.length + V1.length) Z12 g n cap base lo s mid ok X U1 V1 (U2 ++ (V2 ++ Z)) w5 rfl HR5.out Z8 Z11 Z11 Z7 Z7 HS1.out.1 HS1.out.2.2.1 hn HOK5.out).mono ?_
     rintro e' w6 ⟨rfl, hr6, hg6⟩
     have HR6 := m_ hr6
     have HG6 := m_ (b3_ HG5.out hg6)
     have HOK6 := m_ (fun k hk => Nat.lt_of_lt_of_le (HOK5.out k hk) hg6.size)
     clear hr6 hg6
     go_wp2_with fail
     have HML1 := m_ (show (X ++ mrg hkey U1 V1).length = mid from by rw [List.length_append, mrg_length]; have := HLN.out; have := HL1.out; omega)
     have HR7 := m_ (show Kd.R kh 41 w6 base ok (.slice (some ⟨g, 0, none⟩) n cap) ((X ++ mrg hkey U1 V1) ++ (U2 ++ (V2 ++ Z))) from by rw [List.append_assoc]; exact HR6.out)
     refine (HIH.out (U2.length + V2.length) Z12 g n cap base mid e b ok (X ++ mrg hkey U1 V1) U2 V2 Z w6 rfl HR7.out (by have := HML1.out; omega) Z10 Z10 Z7 Z7 HS1.out.2.1 HS1.out.2.2.2 hn HOK6.out).mono ?_
     rintro e' w7 ⟨rfl, hr7, hg7⟩
     have HR8 := m_ hr7
     have HG8 := m_ (b3_ HG6.out hg7)
     clear hr7 hg7
     go_wp2_with fail
     go_end0
     exact ⟨rfl, by rw [HML.out]; have := HR8.out; simpa using this, HG8.out⟩
    ·exfalso; omega
    ·have z1 : decide ((s : Int) < (hi : Int)) = false := by simp; omega
     have z2 : (hi : Int) < (e : Int) := by omega
     have z3 : (lo : Int) < (s : Int) := by omega
     have z4 : (s : Int) < (mid : Int) := by omega
     have z5 : decide ((mid : Int) < (e : Int)) = false := by simp; omega
     have z6 : (e : Int) < (b : Int) := by omega
     have hem : U2 = [] := List.eq_nil_of_length_eq_zero Z7
     have HR5 := m_ (show Kd.R kh 41 wr base ok (.slice (some ⟨g, 0, none⟩) n cap) (X ++ (U1 ++ (V1 ++ (U2 ++ (V2 ++ Z))))) from by have := HA0.out; rw [hem] at this ⊢; simpa using this)
     have HG5 := HG
     have HOK5 := HOK1
     clear hem
     go_wp2_with fail
     refine (HIH.out (U1.length + V1.length) Z12 g n cap base lo s mid ok X U1 V1 (U2 ++ (V2 ++ Z)) wr rfl HR5.out Z8 Z11 Z11 Z7 Z7 HS1.out.1 HS1.out.2.2.1 hn HOK5.out).mono ?_
     rintro e' w6 ⟨rfl, hr6, hg6⟩
     have HR6 := m_ hr6
     have HG6 := m_ (b3_ HG5.out hg6)
     have HOK6 := m_ (fun k hk => Nat.lt_of_lt_of_le (HOK5.out k hk) hg6.size)
     clear hr6 hg6
     go_wp2_with fail
     have HML1 := m_ (show (X ++ mrg hkey U1 V1).length = mid from by rw [List.length_append, mrg_length]; have := HLN.out; have := HL1.out; omega)
     have HR7 := m_ (show Kd.R kh 41 w6 base ok (.slice (some ⟨g, 0, none⟩) n cap) ((X ++ mrg hkey U1 V1) ++ (U2 ++ (V2 ++ Z))) from by rw [List.append_assoc]; exact HR6.out)
     have hem : U2 = [] := List.eq_nil_of_length_eq_zero Z7
     have HR8 := m_ (show Kd.R kh 41 w6 base ok (.slice (some ⟨g, 0, none⟩) n cap) ((X ++ mrg hkey U1 V1) ++ (mrg hkey U2 V2 ++ Z)) from by have := HR7.out; rw [hem] at this ⊢; rw [mrg_nil_left]; simpa using this)
     have HG8 := HG6
     clear hem
     go_end0
     exact ⟨rfl, by rw [HML.out]; have := HR8.out; simpa using this, HG8.out⟩
    ·exfalso; omega
    ·have z1 : decide ((s : Int) < (hi : Int)) = false := by simp; omega
     have z2 : decide ((hi : Int) < (e : Int)) = false := by simp; omega
     have z3 : (lo : Int) < (s : Int) := by omega
     have z4 : decide ((s : Int) < (mid : Int)) = false := by simp; omega
     have z5 : decide ((mid : Int) < (e : Int)) = false := by simp; omega
     have z6 : (e : Int) < (b : Int) := by omega
     have hem : U2 = [] := List.eq_nil_of_length_eq_zero Z7
     have HR5 := m_ (show Kd.R kh 41 wr base ok (.slice (some ⟨g, 0, none⟩) n cap) (X ++ (U1 ++ (V1 ++ (U2 ++ (V2 ++ Z))))) from by have := HA0.out; rw [hem] at this ⊢; simpa using this)
     have HG5 := HG
     have HOK5 := HOK1
     clear hem
     go_wp2_with fail
     have hem : V1 = [] := List.eq_nil_of_length_eq_zero Z7
     have HR6 := m_ (show Kd.R kh 41 wr base ok (.slice (some ⟨g, 0, none⟩) n cap) (X ++ (mrg hkey U1 V1 ++ (U2 ++ (V2 ++ Z)))) from by have := HR5.out; rw [hem] at this ⊢; rw [mrg_nil_right]; simpa using this)
     have HG6 := HG5
     have HOK6 := HOK5
     clear hem
     have HML1 := m_ (show (X ++ mrg hkey U1 V1).length = mid from by rw [List.length_append, mrg_length]; have := HLN.out; have := HL1.out; omega)
     have HR7 := m_ (show Kd.R kh 41 wr base ok (.slice (some ⟨g, 0, none⟩) n cap) ((X ++ mrg hkey U1 V1) ++ (U2 ++ (V2 ++ Z))) from by rw [List.append_assoc]; exact HR6.out)
     have hem : U2 = [] := List.eq_nil_of_length_eq_zero Z7
     have HR8 := m_ (show Kd.R kh 41 wr base ok (.slice (some ⟨g, 0, none⟩) n cap) ((X ++ mrg hkey U1 V1) ++ (mrg hkey U2 V2 ++ Z)) from by have := HR7.out; rw [hem] at this ⊢; rw [mrg_nil_left]; simpa using this)
     have HG8 := HG6
     clear hem
     go_end0
     exact ⟨rfl, by rw [HML.out]; have := HR8.out; simpa using this, HG8.out⟩
    ·have z1 : (s : Int) < (hi : Int) := by omega
     have z2 : (hi : Int) < (e : Int) := by omega
     have z3 : decide ((lo : Int) < (s : Int)) = false := by simp; omega
     have z4 : (s : Int) < (mid : Int) := by omega
     have z5 : (mid : Int) < (e : Int) := by omega
     have z6 : (e : Int) < (b : Int) := by omega
     have HRB := m_ (show Kd.R kh 41 wr base ok (.slice (some ⟨g, 0, none⟩) n cap) ((X ++ U1) ++ (U2 ++ (V1 ++ (V2 ++ Z)))) from by simpa using HA0.out)
     go_wp2_with (go_at_call 136; refine (rotate_any g n cap base s hi e ok (X ++ U1) U2 V1 (V2 ++ Z) wr HRB.out Z5 Z5 Z5 Z7 Z7 hn HOK1.out).mono ?_; rintro e' w5 ⟨rfl, hr5, hg5⟩; have HR5 := m_ (show Kd.R kh 41 w5 base ok (.slice (some ⟨g, 0, none⟩) n cap) (X ++ (U1 ++ (V1 ++ (U2 ++ (V2 ++ Z))))) from by simpa using hr5); have HG5 := m_ (b3_ HG.out hg5); have HOK5 := m_ (fun k hk => Nat.lt_of_lt_of_le (HOK1.out k hk) hg5.size); clear hr5 hg5)
     have hem : U1 = [] := List.eq_nil_of_length_eq_zero Z7
     have HR6 := m_ (show Kd.R kh 41 w5 base ok (.slice (some ⟨g, 0, none⟩) n cap) (X ++ (mrg hkey U1 V1 ++ (U2 ++ (V2 ++ Z)))) from by have := HR5.out; rw [hem] at this ⊢; rw [mrg_nil_left]; simpa using this)
     have HG6 := HG5
     have HOK6 := HOK5
     clear hem
     have HML1 := m_ (show (X ++ mrg hkey U1 V1).length = mid from by rw [List.length_append, mrg_length]; have := HLN.out; have := HL1.out; omega)
     have HR7 := m_ (show Kd.R kh 41 w5 base ok (.slice (some ⟨g, 0, none⟩) n cap) ((X ++ mrg hkey U1 V1) ++ (U2 ++ (V2 ++ Z))) from by rw [List.append_assoc]; exact HR6.out)
     refine (HIH.out (U2.length + V2.length) Z12 g n cap base mid e b ok (X ++ mrg hkey U1 V1) U2 V2 Z w5 rfl HR7.out (by have := HML1.out; omega) Z10 Z10 Z7 Z7 HS1.out.2.1 HS1.out.2.2.2 hn HOK6.out).mono ?_
     rintro e' w7 ⟨rfl, hr7, hg7⟩
     have HR8 := m_ hr7
     have HG8 := m_ (b3_ HG6.out hg7)
     clear hr7 hg7
     go_wp2_with fail
     go_end0
     exact ⟨rfl, by rw [HML.out]; have := HR8.out; simpa using this, HG8.out⟩
    ·have z1 : (s : Int) < (hi : Int) := by omega
     have z2 : (hi : Int) < (e : Int) := by omega
     have z3 : decide ((lo : Int) < (s : Int)) = false := by simp; omega
     have z4 : (s : Int) < (mid : Int) := by omega
     have z5 : (mid : Int) < (e : Int) := by omega
     have z6 : decide ((e : Int) < (b : Int)) = false := by simp; omega
     have HRB := m_ (show Kd.R kh 41 wr base ok (.slice (some ⟨g, 0, none⟩) n cap) ((X ++ U1) ++ (U2 ++ (V1 ++ (V2 ++ Z)))) from by simpa using HA0.out)
     go_wp2_with (go_at_call 136; refine (rotate_any g n cap base s hi e ok (X ++ U1) U2 V1 (V2 ++ Z) wr HRB.out Z5 Z5 Z5 Z7 Z7 hn HOK1.out).mono ?_; rintro e' w5 ⟨rfl, hr5, hg5⟩; have HR5 := m_ (show Kd.R kh 41 w5 base ok (.slice (some ⟨g, 0, none⟩) n cap) (X ++ (U1 ++ (V1 ++ (U2 ++ (V2 ++ Z))))) from by simpa using hr5); have HG5 := m_ (b3_ HG.out hg5); have HOK5 := m_ (fun k hk => Nat.lt_of_lt_of_le (HOK1.out k hk) hg5.size); clear hr5 hg5)
     have hem : U1 = [] := List.eq_nil_of_length_eq_zero Z7
     have HR6 := m_ (show Kd.R kh 41 w5 base ok (.slice (some ⟨g, 0, none⟩) n cap) (X ++ (mrg hkey U1 V1 ++ (U2 ++ (V2 ++ Z)))) from by have := HR5.out; rw [hem] at this ⊢; rw [mrg_nil_left]; simpa using this)
     have HG6 := HG5
     have HOK6 := HOK5
     clear hem
     have HML1 := m_ (show (X ++ mrg hkey U1 V1).length = mid from by rw [List.length_append, mrg_length]; have := HLN.out; have := HL1.out; omega)
     have HR7 := m_ (show Kd.R kh 41 w5 base ok (.slice (some ⟨g, 0, none⟩) n cap) ((X ++ mrg hkey U1 V1) ++ (U2 ++ (V2 ++ Z))) from by rw [List.append_assoc]; exact HR6.out)
     have hem : V2 = [] := List.eq_nil_of_length_eq_zero Z7
     have HR8 := m_ (show Kd.R kh 41 w5 base ok (.slice (some ⟨g, 0, none⟩) n cap) ((X ++ mrg hkey U1 V1) ++ (mrg hkey U2 V2 ++ Z)) from by have := HR7.out; rw [hem] at this ⊢; rw [mrg_nil_right]; simpa using this)
     have HG8 := HG6
     clear hem
     go_end0
     exact ⟨rfl, by rw [HML.out]; have := HR8.out; simpa using this, HG8.out⟩
theorem symMerge_any : ∀ sz, SymC sz := fun sz => by
 induction sz using Nat.strongRecOn with
 | ind sz IH =>
  intro g n cap base a m b ok X U V Z w hsz hr ha hm hb hU0 hV0 hU hV hn hok
  by_cases h1 : U.length = 1
  ·obtain ⟨u, rfl⟩ := List.length_eq_one_iff.1 h1
   exact symMerge_left g n cap base a m b ok X V Z u w hr ha (by simpa using hm) (by simpa using hb) hV hn hok
  ·by_cases h2 : V.length = 1
   ·obtain ⟨v, rfl⟩ := List.length_eq_one_iff.1 h2
    exact symMerge_right g n cap base a m b ok X U Z v w hr ha hm (by simpa using hb) (by omega) hU hn hok
   ·exact symMerge_gen sz IH g n cap base a m b ok X U V Z w hsz hr ha hm hb (by omega) (by omega) hU hV hn hok
theorem pre_get (X l : List HV) {a i : Nat} (ha : a = X.length) (h : a ≤ i) : (X ++ l)[i]? = l[i - a]? := by
 rw [List.getElem?_append_right (by omega), ha]
theorem pre_set (X l : List HV) {a i : Nat} (ha : a = X.length) (h : a ≤ i) (v : HV) : (X ++ l).set i v = X ++ l.set (i - a) v := by
 rw [List.set_append_right _ _ (by omega), ha]
set_option maxHeartbeats 8000000 in
set_option maxRecDepth 100000 in
theorem insert_gen (g n cap base a b c : Nat) (ok : Nat → Prop) (X xs : List (HV)) (w : World) (hr : Kd.R kh 41 w base ok (.slice (some ⟨g, 0, none⟩) n cap) (X ++ xs)) (ha : a = X.length) (hb : b = a + c) (hc : c ≤ xs.length) (hn : n ≤ 1000000000000) (h2 : 2 ≤ c) (hok : ∀ k, ok k → k < w.heap.size) :
  Calls Try.prog 120 #[.slice (some ⟨g, 0, none⟩) n cap, .int .i64 a, .int .i64 b, .func (.func 72) #[] #[]] w fun e w' => e = .returned (.tuple #[]) ∧ Kd.R kh 41 w' base ok (.slice (some ⟨g, 0, none⟩) n cap) (X ++ (isort hkey (xs.take c) ++ xs.drop c)) ∧ w.grownBy w' (some g) := by
 have hu41 := Try.underlying41
 have HR := m_ hr
 have hxl := (Kd.R_reads' hr).1
 rw [List.length_append] at hxl
 have bb : a + 2 ≤ b ∧ b ≤ n := by omega
 obtain ⟨bb1, bb2⟩ := bb
 have HXL := m_ (show X.length = a ∧ a + xs.length = n ∧ b = a + c ∧ c ≤ xs.length from by omega)
 clear hr hxl ha hb hc h2
 go_enter Try.func120, Try.ntmps120
 go_wp2
 go_loopw [8] (fun v8 wr => ∃ p : Nat, a + 1 ≤ p ∧ p ≤ b ∧ v8 = .int .i64 (p : Int) ∧ A_ (Kd.R kh 41 wr base ok (.slice (some ⟨g, 0, none⟩) n cap) (X ++ (isort hkey (xs.take (p - a)) ++ xs.drop (p - a)))) ∧ A_ (w.grownBy wr (some g))) (fun v8 _ => b - (intOf v8).toNat)
 case atStart => exact ⟨a + 1, Nat.le_refl _, by omega, by go_num, ⟨by
  have : isort hkey (xs.take (a + 1 - a)) ++ xs.drop (a + 1 - a) = xs := by
   rw [show a + 1 - a = 1 by omega]
   cases xs with
   | nil => rfl
   | cons x xs => simp [isort, insK]
  rw [this]; exact HR.out⟩, ⟨d4_ _ _⟩⟩
 case round =>
  obtain ⟨p, hi1, hib, rfl, HA, HG⟩ := hrel
  by_cases hlt : p < b
  ·have hlt' : (p : Int) < b := by omega
   obtain ⟨i, hpi⟩ : ∃ i, i = p - a := ⟨_, rfl⟩
   have hix : i < xs.length := by have := HXL.out; omega
   have hLl : (isort hkey (xs.take i)).length = i := by rw [(isort_perm hkey _).length_eq, List.length_take]; omega
   have hz : isort hkey (xs.take i) ++ xs.drop i = zAt (isort hkey (xs.take i)) xs[i] (xs.drop (i + 1)) i := by
    unfold zAt
    have t1 : (isort hkey (xs.take i)).take i = isort hkey (xs.take i) := List.take_of_length_le (by omega)
    have t2 : (isort hkey (xs.take i)).drop i = [] := List.drop_eq_nil_of_le (by omega)
    rw [t1, t2, List.nil_append, List.drop_eq_getElem_cons hix]
   have hstep := isort_take hkey xs i hix
   have hsrt := isort_sorted hkey (xs.take i)
   rw [← hpi, hz] at HA
   have hrl : (xs.drop (i + 1)).length = xs.length - (i + 1) := List.length_drop
   clear hz
   have HST := m_ hstep
   have HPI := m_ (And.intro hpi (show p + 1 - a = i + 1 by omega))
   clear hstep
   generalize hL : isort hkey (xs.take i) = L at *
   generalize hx : xs[i] = x at *
   generalize hre : xs.drop (i + 1) = rest at *
   have HSRT := m_ hsrt
   have HRE := m_ hre
   have HLL := m_ (show L.length = i ∧ a + i + 1 + rest.length = n ∧ i + a = p from by have := HXL.out; omega)
   clear hsrt hL hx hre hpi hLl hrl
   go_wp2
   obtain ⟨wo, hwo⟩ : ∃ wo : World, wo = wr := ⟨_, rfl⟩
   subst hwo
   go_loopg [9] p (fun kq v9 w2 => ∃ q : Nat, a ≤ q ∧ q ≤ p ∧ v9 = .int .i64 (q : Int) ∧ A_ (kq = q) ∧ A_ (∀ y ∈ L.drop (q - a), hkey x < hkey y) ∧ A_ (Kd.R kh 41 w2 base ok (.slice (some ⟨g, 0, none⟩) n cap) (X ++ zAt L x rest (q - a))) ∧ A_ (w.grownBy w2 (some g)))
   case atStart => exact ⟨p, by omega, Nat.le_refl _, rfl, ⟨rfl⟩, ⟨fun y hy => by rw [List.drop_eq_nil_of_le (by have := HLL.out; omega)] at hy; cases hy⟩, ⟨by rw [← HPI.out.1]; exact HA.out⟩, HG⟩
   case round =>
    clear HA HG
    obtain ⟨q, hqa, hj, rfl, HQ, HD, HA, HG⟩ := hrel
    by_cases hq0 : q ≤ a
    ·have hqe : q - a = 0 := by omega
     have hdone : X ++ (isort hkey (xs.take (p + 1 - a)) ++ xs.drop (p + 1 - a)) = X ++ zAt L x rest (q - a) := by
      have hd := HD.out
      rw [hqe] at hd ⊢
      rw [HPI.out.2, HST.out, HRE.out, insK_at hkey x L 0 (by simp) hd]
      simp [zAt]
     rw [← hdone] at HA
     have hd1 : decide ((a : Int) < (q : Int)) = false := by simp; omega
     have hd2 : decide (a < q) = false := by simp; omega
     clear hdone hqe
     go_wp2
     go_quiet (fail)
     go_wp2
     go_roundw
     case rel => exact ⟨p + 1, by omega, by omega, by go_num, HA, ⟨e3_ HG.out (d8_ (Below.refl _ _) _)⟩⟩
     case measure => simp [intOf]; omega
    ·obtain ⟨m, rfl⟩ : ∃ m, q = m + 1 := ⟨q - 1, by omega⟩
     have hm : m - a < L.length := by have := HLL.out; omega
     have hxp : (X ++ zAt L x rest (m + 1 - a))[m + 1]? = some x := by
      rw [pre_get X _ HXL.out.1.symm (by omega)]; exact zAt_get L x rest (m + 1 - a) (by omega)
     have hyp : (X ++ zAt L x rest (m + 1 - a))[m]? = some L[m - a] := by
      rw [pre_get X _ HXL.out.1.symm (by omega), show m + 1 - a = m - a + 1 by omega]; exact zAt_get1 L x rest (m - a) hm
     obtain ⟨x0, x1, x2, x3, x4⟩ := at_kh HA.out (m + 1) x hxp
     obtain ⟨y0, y1, y2, y3, y4⟩ := at_kh HA.out m L[m - a] hyp
     have hzs : ((X ++ zAt L x rest (m + 1 - a)).set (m + 1) L[m - a]).set m x = X ++ zAt L x rest (m - a) := by
      rw [pre_set X _ HXL.out.1.symm (by omega), pre_set X _ HXL.out.1.symm (by omega), show m + 1 - a = m - a + 1 by omega, zAt_step L x rest (m - a) hm]
     have hd := List.drop_eq_getElem_cons hm
     have ht := List.take_succ_eq_append_getElem hm
     generalize L[m - a] = y at *
     have HZS := m_ hzs
     have HXP := m_ hxp
     have HYP := m_ hyp
     have HDR := m_ hd
     have HTK := m_ ht
     clear hzs hd ht hxp hyp
     have e1 : IntKind.i64.wrap (m : Int) = (m : Int) := by rw [IntKind.wrap_i64]; omega
     have i0 : (0 : Int) ≤ (m : Int) + 1 := by omega
     have i1 : (a : Int) < (m : Int) + 1 := by omega
     have i2 : (m : Int) + 1 < n := by omega
     have i3 : (m : Int) < n := by omega
     have i4 : ((m : Int) + 1).toNat = m + 1 := by omega
     go_wp2
     go_still_tail 14, (by kernel_rfl)
     change wpList _ _ _ _ _ wr.drew
     have hAd := Kd.R_drew HA.out
     have hGd := grown_drew HG.out
     clear x0 x1 x2 x3 x4 y0 y1 y2 y3 y4
     generalize wr.drew = w3 at *
     have HA3 := m_ hAd
     have HG3 := m_ hGd
     clear hAd hGd HA HG
     by_cases hlt2 : hkey x < hkey y
     ·have hcmp : cmpI x.1.f2 y.1.f2 = -1 := by unfold hkey at hlt2; unfold cmpI; rw [if_pos hlt2]
      have HLT := m_ hlt2
      clear hlt2
      go_wp2_with (go_at_call 72; refine (cmpH_any x y _).mono ?_; rintro e w4 ⟨rfl, hb4⟩; rw [hcmp]; have HA4 := m_ (Kd.R_below HA3.out hb4); have HG4 := m_ (e3_ HG3.out hb4); clear hb4)
      obtain ⟨x0, x1, x2, x3, x4⟩ := at_kh HA4.out (m + 1) x HXP.out
      obtain ⟨y0, y1, y2, y3, y4⟩ := at_kh HA4.out m y HYP.out
      obtain ⟨g', cap', cur, hv, _, _, hh⟩ := ownh HA4.out (by rw [List.length_append, zAt_len _ _ _ _ (by omega)]; omega)
      injection hv with ha hn1 hc1
      injection ha with ha
      injection ha with ha
      subst ha
      clear hn1 hc1
      have z0 := a2_ hh ((m + 1) * 5)
      have z1 := a2_ hh ((m + 1) * 5 + 1)
      have z2 := a2_ hh ((m + 1) * 5 + 2)
      have z3 := a2_ hh ((m + 1) * 5 + 3)
      have z4 := a2_ hh ((m + 1) * 5 + 4)
      have v0 := a2_ hh (m * 5)
      have v1 := a2_ hh (m * 5 + 1)
      have v2 := a2_ hh (m * 5 + 2)
      have v3 := a2_ hh (m * 5 + 3)
      have v4 := a2_ hh (m * 5 + 4)
      clear hh
      have p1 := put_kh HA4.out (m + 1) (by omega) y
      have p2 := put_kh p1.1 m (by omega) x
      have hR5 := Kd.R_drew p2.1
      have hG5 := grown_drew (b3_ (b3_ HG4.out p1.2) p2.2)
      rw [HZS.out] at hR5
      simp only [hc, World.setCells, Nat.add_assoc, Nat.reduceAdd] at hR5 hG5
      have HR5 := m_ hR5
      have HG5 := m_ hG5
      clear hR5 hG5 p1 p2
      go_region
      revert HR5 HG5
      generalize World.drew _ = w5
      intro HR5 HG5
      go_wp2
      go_roundg m
      case rel => exact ⟨m, by omega, by omega, rfl, ⟨rfl⟩, ⟨fun z hz => by
       rw [HDR.out] at hz
       rcases List.mem_cons.1 hz with rfl | hz
       ·exact HLT.out
       ·exact HD.out z (by rw [show m + 1 - a = m - a + 1 by omega]; exact hz)⟩, HR5, HG5⟩
      case measure => have := HQ.out; omega
     ·have hcmp : decide (cmpI x.1.f2 y.1.f2 < 0) = false := by
       unfold hkey at hlt2; unfold cmpI; rw [if_neg hlt2]; split <;> simp
      have HLT := m_ hlt2
      clear hlt2
      go_wp2_with (go_at_call 72; refine (cmpH_any x y _).mono ?_; rintro e w4 ⟨rfl, hb4⟩; have HA4 := m_ (Kd.R_below HA3.out hb4); have HG4 := m_ (e3_ HG3.out hb4); clear hb4)
      have hdone : X ++ (isort hkey (xs.take (p + 1 - a)) ++ xs.drop (p + 1 - a)) = X ++ zAt L x rest (m + 1 - a) := by
       have hd := HD.out
       rw [show m + 1 - a = m - a + 1 by omega] at hd ⊢
       rw [HPI.out.2, HST.out, HRE.out, insK_at hkey x L (m - a + 1) (fun z hz => by
        rw [HTK.out] at hz
        have hp := HSRT.out
        rw [← List.take_append_drop (m - a) L, List.pairwise_append] at hp
        rcases List.mem_append.1 hz with hz | hz
        ·have := hp.2.2 z hz y (by rw [HDR.out]; simp)
         have := HLT.out
         omega
        ·obtain rfl := List.mem_singleton.1 hz
         have := HLT.out
         omega) hd]
       simp [zAt]
      rw [← hdone] at HA4
      clear hdone
      go_roundw
      case rel => exact ⟨p + 1, by omega, by omega, by go_num, HA4, HG4⟩
      case measure => simp [intOf]; omega
  ·have hlt' : ¬ (p : Int) < b := by omega
   obtain rfl : p = b := by omega
   have hpc : p - a = c := by have := HXL.out; omega
   rw [hpc] at HA
   go_wp2
   go_end0
   exact ⟨rfl, HA.out, HG.out⟩
theorem insert_part (g n cap base a b c : Nat) (ok : Nat → Prop) (X xs : List (HV)) (w : World) (hr : Kd.R kh 41 w base ok (.slice (some ⟨g, 0, none⟩) n cap) (X ++ xs)) (ha : a = X.length) (hb : b = a + c) (hc : c ≤ xs.length) (hn : n ≤ 1000000000000) (hok : ∀ k, ok k → k < w.heap.size) :
  Calls Try.prog 120 #[.slice (some ⟨g, 0, none⟩) n cap, .int .i64 a, .int .i64 b, .func (.func 72) #[] #[]] w fun e w' => e = .returned (.tuple #[]) ∧ Kd.R kh 41 w' base ok (.slice (some ⟨g, 0, none⟩) n cap) (X ++ (isort hkey (xs.take c) ++ xs.drop c)) ∧ w.grownBy w' (some g) := by
 by_cases h2 : 2 ≤ c
 ·exact insert_gen g n cap base a b c ok X xs w hr ha hb hc hn h2 hok
 ·have hl := (Kd.R_reads' hr).1
  rw [List.length_append] at hl
  refine (insert_none (.slice (some ⟨g, 0, none⟩) n cap) a b (by omega) (by omega) w).mono ?_
  rintro e w' ⟨rfl, rfl⟩
  rw [isort_one hkey (xs.take c) (by rw [List.length_take]; omega), List.take_append_drop]
  exact ⟨rfl, hr, d4_ _ _⟩
set_option maxHeartbeats 16000000 in
set_option maxRecDepth 100000 in
theorem stable_gen (g n cap base : Nat) (ok : Nat → Prop) (xs : List HV) (w : World) (hr : Kd.R kh 41 w base ok (.slice (some ⟨g, 0, none⟩) n cap) xs) (hn : n ≤ 100000000000) (hok : ∀ k, ok k → k < w.heap.size) :
  Calls Try.prog 103 #[.slice (some ⟨g, 0, none⟩) n cap, .int .i64 n, .func (.func 72) #[] #[]] w fun e w' => e = .returned (.tuple #[]) ∧ Kd.R kh 41 w' base ok (.slice (some ⟨g, 0, none⟩) n cap) (isort hkey xs) ∧ w.grownBy w' (some g) := by
 have hxl := (Kd.R_reads' hr).1
 have HR := m_ hr
 have HOK := m_ hok
 have HXL := m_ hxl
 clear hr hok hxl
 go_enter Try.func103, Try.ntmps103
 go_wp2
 go_loopw [7, 8] (fun v7 v8 wr => ∃ (i a b : Nat), v7 = .int .i64 (a : Int) ∧ v8 = .int .i64 (b : Int) ∧ A_ (a = 20 * i ∧ b = 20 * i + 20) ∧ a ≤ n ∧ A_ (Kd.R kh 41 wr base ok (.slice (some ⟨g, 0, none⟩) n cap) (sp hkey 20 i xs ++ xs.drop (20 * i))) ∧ A_ (w.grownBy wr (some g))) (fun v7 _ _ => n - (intOf v7).toNat)
 case atStart => exact ⟨0, 0, 20, rfl, rfl, ⟨by omega⟩, Nat.zero_le _, ⟨by simpa [sp] using HR.out⟩, ⟨d4_ _ _⟩⟩
 case round =>
  clear HR
  obtain ⟨i, a, b, rfl, rfl, HI, han, HA, HG⟩ := hrel
  have hok1 : ∀ k, ok k → k < wr.heap.size := fun k hk => Nat.lt_of_lt_of_le (HOK.out k hk) HG.out.size
  by_cases hlt : b ≤ n
  ·have hlt' : (b : Int) ≤ n := by omega
   have HC := m_ (insert_part g n cap base a b 20 ok (sp hkey 20 i xs) (xs.drop (20 * i)) wr HA.out (by rw [sp_len hkey 20 i xs (by have := HI.out; have := HXL.out; omega)]; exact HI.out.1) (by have := HI.out; omega) Z14 (by omega) hok1)
   have HE := m_ (show sp hkey 20 i xs ++ (isort hkey ((xs.drop (20 * i)).take 20) ++ (xs.drop (20 * i)).drop 20) = sp hkey 20 (i + 1) xs ++ xs.drop (20 * (i + 1)) from by
    rw [sp_snoc, List.append_assoc, List.drop_drop, Nat.mul_succ])
   clear hok1 HA
   go_wp2_with (go_at_call 120; refine HC.out.mono ?_; rintro e w5 ⟨rfl, hr5, hg5⟩; rw [HE.out] at hr5; have HR5 := m_ hr5; have HG5 := m_ (b3_ HG.out hg5); clear hr5 hg5)
   go_roundw
   case rel => exact ⟨i + 1, b, b + 20, rfl, by go_num, ⟨by have := HI.out; omega⟩, hlt, HR5, HG5⟩
   case measure => simp [intOf]; have := HI.out; omega
  ·have hlt' : ¬ (b : Int) ≤ n := by omega
   have hdiv : n / 20 = i := by have := HI.out; omega
   have hC := insert_part g n cap base a n (n - a) ok (sp hkey 20 i xs) (xs.drop (20 * i)) wr HA.out (by rw [sp_len hkey 20 i xs (by have := HI.out; have := HXL.out; omega)]; exact HI.out.1) (by omega) Z14 (by omega) hok1
   have HE := m_ (show sp hkey 20 i xs ++ (isort hkey ((xs.drop (20 * i)).take (n - a)) ++ (xs.drop (20 * i)).drop (n - a)) = sc hkey 20 xs from by
    unfold sc
    rw [← HXL.out, hdiv, List.take_of_length_le Z14, show (xs.drop (20 * i)).drop (n - a) = [] from List.drop_eq_nil_of_le Z14, List.append_nil])
   have HC := m_ hC
   clear hok1 HA hC hdiv
   go_wp2_with (go_at_call 120; refine HC.out.mono ?_; rintro e w5 ⟨rfl, hr5, hg5⟩; rw [HE.out] at hr5; have HR5 := m_ hr5; have HG5 := m_ (b3_ HG.out hg5); clear hr5 hg5)
   clear HC HE HG HI hlt hlt' han
   go_loopw [6, 7, 8, 9] (fun v6 v7 v8 v9 wr => ∃ bs : Nat, v6 = .int .i64 (bs : Int) ∧ 20 ≤ bs ∧ bs ≤ 200000000000 ∧ A_ (Kd.R kh 41 wr base ok (.slice (some ⟨g, 0, none⟩) n cap) (sc hkey bs xs)) ∧ A_ (w.grownBy wr (some g))) (fun v6 _ _ _ _ => n - (intOf v6).toNat)
   case atStart => exact ⟨20, rfl, by omega, by omega, HR5, HG5⟩
   case round =>
    clear HR5 HG5
    obtain ⟨bs, rfl, hb20, hbM, HA, HG⟩ := hrel
    by_cases hbn : bs < n
    ·have hbn' : (bs : Int) < n := by omega
     go_wp2
     obtain ⟨wo, hwo⟩ : ∃ wo : World, wo = wr := ⟨_, rfl⟩
     subst hwo
     go_loopw [7, 8] (fun v7 v8 wr => ∃ (i a b : Nat), v7 = .int .i64 (a : Int) ∧ v8 = .int .i64 (b : Int) ∧ A_ (a = 2 * bs * i ∧ b = 2 * bs * i + 2 * bs) ∧ a ≤ n ∧ b ≤ n + 2 * bs ∧ A_ (Kd.R kh 41 wr base ok (.slice (some ⟨g, 0, none⟩) n cap) (sp hkey (2 * bs) i xs ++ sc hkey bs (xs.drop (2 * bs * i)))) ∧ A_ (w.grownBy wr (some g))) (fun v7 _ _ => n - (intOf v7).toNat)
     case atStart => exact ⟨0, 0, 2 * bs, rfl, by go_num, ⟨by omega⟩, Nat.zero_le _, by omega, ⟨by simpa [sp] using HA.out⟩, HG⟩
     case round =>
      clear HA HG
      obtain ⟨i, a, b, rfl, rfl, HI, han, hbb, HA, HG⟩ := hrel
      have hok1 : ∀ k, ok k → k < wr.heap.size := fun k hk => Nat.lt_of_lt_of_le (HOK.out k hk) HG.out.size
      have hspl : (sp hkey (2 * bs) i xs).length = a := by rw [sp_len hkey (2 * bs) i xs (by have := HI.out; have := HXL.out; omega)]; exact HI.out.1.symm
      by_cases hlt : b ≤ n
      ·have hlt' : (b : Int) ≤ n := by omega
       have hll : 2 * bs ≤ (xs.drop (2 * bs * i)).length := by rw [List.length_drop]; have := HI.out; have := HXL.out; omega
       have h2 := sc_two hkey bs (xs.drop (2 * bs * i)) (by omega) hll
       have hAr := HA.out
       rw [h2] at hAr
       have l1 : (isort hkey ((xs.drop (2 * bs * i)).take bs)).length = bs := by rw [isort_len, List.length_take]; omega
       have l2 : (isort hkey (((xs.drop (2 * bs * i)).drop bs).take bs)).length = bs := by rw [isort_len, List.length_take, List.length_drop]; omega
       have HC := m_ (symMerge_any _ g n cap base a (a + bs) b ok _ _ _ _ wr rfl hAr hspl.symm (by omega) (by have := HI.out; omega) (by omega) (by omega) (isort_sorted hkey _) (isort_sorted hkey _) (by omega) hok1)
       have HE := m_ (show sp hkey (2 * bs) i xs ++ (mrg hkey (isort hkey ((xs.drop (2 * bs * i)).take bs)) (isort hkey (((xs.drop (2 * bs * i)).drop bs).take bs)) ++ sc hkey bs ((xs.drop (2 * bs * i)).drop (2 * bs))) = sp hkey (2 * bs) (i + 1) xs ++ sc hkey bs (xs.drop (2 * bs * (i + 1))) from by
        rw [← isort_append, ← take_two, sp_snoc, List.append_assoc, List.drop_drop, Nat.mul_succ])
       have e2 : IntKind.i64.wrap ((a : Int) + (bs : Int)) = ((a + bs : Nat) : Int) := by rw [IntKind.wrap_i64]; omega
       have e3 : IntKind.i64.wrap ((a + bs : Nat) : Int) = ((a + bs : Nat) : Int) := by rw [IntKind.wrap_i64]; omega
       clear hok1 HA hAr l1 l2 h2 hll hspl
       go_wp2_with (go_at_call 121; refine HC.out.mono ?_; rintro e w5 ⟨rfl, hr5, hg5⟩; rw [HE.out] at hr5; have HR5 := m_ hr5; have HG5 := m_ (b3_ HG.out hg5); clear hr5 hg5)
       go_roundw
       case rel => exact ⟨i + 1, b, b + 2 * bs, rfl, by first | go_num | exact int_i64 (by omega), ⟨by have := HI.out; rw [Nat.mul_succ]; omega⟩, hlt, by omega, HR5, HG5⟩
       case measure => simp [intOf]; have := HI.out; omega
      ·have hlt' : ¬ (b : Int) ≤ n := by omega
       have hll : (xs.drop (2 * bs * i)).length = n - a ∧ n - a < 2 * bs := by rw [List.length_drop]; have := HI.out; have := HXL.out; omega
       have hdiv : n / (2 * bs) = i := by
        have h1 := HI.out
        exact Nat.div_eq_of_lt_le (by rw [Nat.mul_comm]; omega) (by rw [Nat.mul_comm, Nat.mul_succ]; omega)
       have HSC := m_ (show sc hkey (2 * bs) xs = sp hkey (2 * bs) i xs ++ isort hkey (xs.drop (2 * bs * i)) from by unfold sc; rw [← HXL.out, hdiv])
       by_cases hm : a + bs < n
       ·have hm' : (a : Int) + (bs : Int) < n := by omega
        have hm2 : ((a + bs : Nat) : Int) < n := by omega
        have h2 := sc_part hkey bs (xs.drop (2 * bs * i)) (by omega) (by omega) (by omega)
        have hAr := HA.out
        rw [h2, ← List.append_nil (isort hkey ((xs.drop (2 * bs * i)).drop bs))] at hAr
        have l1 : (isort hkey ((xs.drop (2 * bs * i)).take bs)).length = bs := by rw [isort_len, List.length_take]; omega
        have l2 : (isort hkey ((xs.drop (2 * bs * i)).drop bs)).length = n - a - bs := by rw [isort_len, List.length_drop]; omega
        have HC := m_ (symMerge_any _ g n cap base a (a + bs) n ok _ _ _ _ wr rfl hAr hspl.symm (by omega) (by omega) (by omega) (by omega) (isort_sorted hkey _) (isort_sorted hkey _) (by omega) hok1)
        have HE := m_ (show sp hkey (2 * bs) i xs ++ (mrg hkey (isort hkey ((xs.drop (2 * bs * i)).take bs)) (isort hkey ((xs.drop (2 * bs * i)).drop bs)) ++ []) = sc hkey (2 * bs) xs from by
         rw [← isort_append, List.take_append_drop, List.append_nil, HSC.out])
        have e2 : IntKind.i64.wrap ((a : Int) + (bs : Int)) = ((a + bs : Nat) : Int) := by rw [IntKind.wrap_i64]; omega
        have e3 : IntKind.i64.wrap ((a + bs : Nat) : Int) = ((a + bs : Nat) : Int) := by rw [IntKind.wrap_i64]; omega
        clear hok1 HA hAr l1 l2 h2 hll hspl hdiv
        go_wp2_with (go_at_call 121; refine HC.out.mono ?_; rintro e w5 ⟨rfl, hr5, hg5⟩; rw [HE.out] at hr5; have HR5 := m_ hr5; have HG5 := m_ (b3_ HG.out hg5); clear hr5 hg5)
        go_roundw
        case rel => exact ⟨2 * bs, by first | go_num | exact int_i64 (by omega), by omega, by omega, HR5, HG5⟩
        case measure => simp [intOf]; omega
       ·have hm' : ¬ (a : Int) + (bs : Int) < n := by omega
        have hAr := HA.out
        rw [sc_small hkey bs (xs.drop (2 * bs * i)) (by omega) (by omega), ← HSC.out] at hAr
        have HR5 := m_ hAr
        clear hok1 HA hAr hll hspl hdiv
        go_wp2
        go_roundw
        case rel => exact ⟨2 * bs, by first | go_num | exact int_i64 (by omega), by omega, by omega, HR5, HG⟩
        case measure => simp [intOf]; omega
    ·have hbn' : ¬ (bs : Int) < n := by omega
     have hfin := HA.out
     rw [sc_small hkey bs xs (by omega) (by have := HXL.out; omega)] at hfin
     have HF := m_ hfin
     clear hfin HA
     go_wp2
     go_end0
     exact ⟨rfl, HF.out, HG.out⟩
theorem stable_big (A : Option Addr) (n cap base : Nat) (ok : Nat → Prop) (xs : List HV) (w : World) (hr : Kd.R kh 41 w base ok (.slice A n cap) xs) (hn : n ≤ 100000000000) (hok : ∀ k, ok k → k < w.heap.size) (g : Nat) (hg : ∀ a, A = some a → a.block = g) :
  Calls Try.prog 103 #[.slice A n cap, .int .i64 n, .func (.func 72) #[] #[]] w fun e w' => e = .returned (.tuple #[]) ∧ Kd.R kh 41 w' base ok (.slice A n cap) (isort hkey xs) ∧ w.grownBy w' (some g) := by
 by_cases h2 : n ≤ 20
 ·exact stable_any A n cap base ok xs w hr h2 hok g hg
 ·have hl := (Kd.R_reads' hr).1
  obtain ⟨g', cap', cur, hv, _, _, _⟩ := ownh hr (by omega)
  injection hv with ha hn1 hc1
  subst ha
  obtain rfl : g' = g := hg _ rfl
  exact stable_gen g' n cap base ok xs w hr hn hok
set_option maxHeartbeats 8000000 in
set_option maxRecDepth 100000 in
theorem sort_big (A : Option Addr) (n cap base : Nat) (ok : Nat → Prop) (xs : List HV) (w : World) (hr : Kd.R kh 41 w base ok (.slice A n cap) xs) (hn : n ≤ 100000000000) (hok : ∀ k, ok k → k < w.heap.size) (g : Nat) (hg : ∀ a, A = some a → a.block = g) :
  Calls Try.prog 71 #[.slice A n cap, .func (.func 72) #[] #[]] w fun e w' => e = .returned (.tuple #[]) ∧ Kd.R kh 41 w' base ok (.slice A n cap) (isort hkey xs) ∧ w.grownBy w' (some g) := by
 have HI := m_ (stable_big A n cap base ok xs w hr hn hok g hg)
 clear hr hok hg
 go_enter Try.func71, Try.ntmps71
 go_wp2_with (go_at_call 103; refine HI.out.mono ?_; rintro e w1 ⟨rfl, hr1, hg1⟩; have HR1 := m_ hr1; have HG1 := m_ hg1; clear hr1 hg1)
 go_end0
 exact ⟨rfl, HR1.out, HG1.out⟩
theorem sort_n2 (A : Option Addr) (n cap base : Nat) (xs : List HV) (w : World) (hr : Kd.R kh 41 w base (fun _ => True) (.slice A n cap) xs) (hn : n ≤ 100000) :
  Calls Try.prog 71 #[.slice A n cap, .func (.func 72) #[] #[]] w fun e w' => e = .returned (.tuple #[]) ∧ Kd.R kh 41 w' base (fun k => base ≤ k ∧ k < w.heap.size) (.slice A n cap) (isort hkey xs) ∧ w.grownBy w' (some (blkOf A w.heap.size)) :=
 sort_big A n cap base _ xs w (Kd.R_mono (Kd.R_bound hr) (fun k hk => ⟨hk.2.1, hk.2.2.1⟩)) (Nat.le_trans hn (by decide)) (fun k hk => hk.2) (blkOf A w.heap.size) (fun a ha => by rw [ha]; rfl)
theorem KP.under {w W W' : World} {S : Nat → Prop} (h : KP W W' S) (hb : Below w.heap.size w W) (hs : ∀ k, S k → w.heap.size ≤ k) : Below w.heap.size w W' :=
 ⟨h.os.trans hb.os, h.tape.trans hb.tape, h.output.trans hb.output, Nat.le_trans hb.size h.kept.1, fun k hk => (h.kept.2 k (Nat.lt_of_lt_of_le hk hb.size) (fun hh => by have := hs k hh; omega)).trans (hb.block k hk)⟩
theorem KP.trans {w W W' : World} {S : Nat → Prop} (h : KP w W S) (h' : KP W W' S) : KP w W' S :=
 ⟨⟨Nat.le_trans h.kept.1 h'.kept.1, fun i hi hs => (h'.kept.2 i (Nat.lt_of_lt_of_le hi h.kept.1) hs).trans (h.kept.2 i hi hs)⟩, h'.os.trans h.os, h'.tape.trans h.tape, h'.output.trans h.output⟩
set_option maxHeartbeats 8000000 in
set_option maxRecDepth 100000 in
theorem early_any (now : Int) (A1 : Option Addr) (c1 : Nat) (l1 : List S51) (lg lc : Int) (A3 : Option Addr) (c3 : Nat) (l3 : List S41) (q m g c mn mx : Int) (w : World) (hr1 : Kd.C k51 w A1 l1.length l1) (hc1 : l1.length ≤ c1) (hr3 : Kd.C k41 w A3 l3.length l3) (hc3 : l3.length ≤ c3)
  (hn : l3.length ≤ 1000) (hv : viewOk l1) (hs : ∀ s ∈ l3.flatMap (fun h => h.f4), maskOk s = true ∧ (w64B s.f0.f0 && w64B s.f0.f1) = true) (hlen : (l3.flatMap fun h => h.f4).length < 4000000000) :
  Calls Try.prog 27 #[.int .i64 now, .slice A1 l1.length c1, .agg #[.int .i64 lg, .int .i64 lc], .slice A3 l3.length c3, .agg #[.int .i64 q, .int .i64 m, .int .i64 g, .int .i64 c, .int .i64 mn, .int .i64 mx]] w fun e w' => e = .returned (.tuple #[.int .i64 (earliestB now l1 lg lc l3 q m g c mn mx).1, .int .i64 (earliestB now l1 lg lc l3 q m g c mn mx).2]) ∧ Below w.heap.size w w' := by
 have hu22 := Try.underlying22
 have hu24 := Try.underlying24
 have hu25 := Try.underlying25
 have hu29 := Try.underlying29
 have hu41 := Try.underlying41
 have HR1 := m_ hr1
 have HR3 := m_ hr3
 have HC1 := m_ hc1
 have HC3 := m_ hc3
 have HN := m_ hn
 have HVO := m_ hv
 have HS := m_ hs
 have HLEN := m_ hlen
 have HRT := m_ (fun w => promise_right.calls q m g c mn mx _ w (right_eq q m g c mn mx))
 clear hr1 hr3 hc1 hc3 hn hv hs hlen
 by_cases hbad : now < 0 ∨ now > 1073741824 ∨ rightB m g c mn mx = false
 ·have HE : earliestB now l1 lg lc l3 q m g c mn mx = (0, 1) := by unfold earliestB; rw [if_pos hbad]
  rw [HE]
  clear HE
  have hRT0 := right_eq q m g c mn mx
  by_cases h0 : now < 0
  ·have d0 : decide (now < 0) = true := by simpa using h0
   clear h0 hbad hRT0
   go_enter Try.func27, Try.ntmps27
   go_wp2_with (first | ((with_reducible refine a3_ (N := 6) rfl ?_); refine bx 6 #[.slice A1 l1.length c1] 22 ?_; intro gv hgv w1 hx1 hb1; have wgv : w.heap.size ≤ gv := (by omega); have hgv2 := c4_ hx1; have HX1 := m_ hx1; have HB1 := m_ hb1; clear hx1 hb1) | ((with_reducible refine a3_ (N := 7) rfl ?_); refine bx 7 #[.int .i64 lg, .int .i64 lc] 24 ?_; intro gl hgl w2 hx2 hb2; have wgl : w.heap.size ≤ gl := (by have := HB1.out.size; omega); have hgl2 := c4_ hx2; have HX1b := m_ (a1_ HX1.out hb2); have HX2 := m_ hx2; have HB2 := m_ (a9_ HB1.out hb2); have hs2 := hb2.size; have nvl : gv ≠ gl := (by omega); clear hx2 hb2) | ((with_reducible refine a3_ (N := 9) rfl ?_); refine bx 9 #[.int .i64 q, .int .i64 m, .int .i64 g, .int .i64 c, .int .i64 mn, .int .i64 mx] 29 ?_; intro gw hgw w3 hx3 hb3; have HX1c := m_ (a1_ HX1b.out hb3); have HX2b := m_ (a1_ HX2.out hb3); have HX3 := m_ hx3; have HB3 := m_ (a9_ HB2.out hb3); have nvw : gv ≠ gw := (by omega); have nlw : gl ≠ gw := (by omega); obtain ⟨f0, f1, f2, f3, f4, f5⟩ := cz6_ ⟨hx3⟩; clear hx3 hb3 hgv hgl hgw hgv2 hgl2 hs2 HX1 HX1b HX2 HB1 HB2) | (go_at_call 68; refine (HRT.out _).mono ?_; rintro e w4 ⟨rfl, hb4⟩; have HX4v := m_ (a1_ HX1c.out hb4); have HX4l := m_ (a1_ HX2b.out hb4); have HX4w := m_ (a1_ HX3.out hb4); have HB4 := m_ (a9_ HB3.out hb4); clear hb4 f0 f1 f2 f3 f4 f5 HX1c HX2b HX3 HB3))
   all_goals go_ret2
   all_goals exact ⟨rfl, HB3.out⟩
  ·have d0 : decide (now < 0) = false := by simpa using h0
   by_cases h1 : now > 1073741824
   ·have d1 : decide (1073741824 < now) = true := by simpa using h1
    clear h0 h1 hbad hRT0
    go_enter Try.func27, Try.ntmps27
    go_wp2_with (first | ((with_reducible refine a3_ (N := 6) rfl ?_); refine bx 6 #[.slice A1 l1.length c1] 22 ?_; intro gv hgv w1 hx1 hb1; have wgv : w.heap.size ≤ gv := (by omega); have hgv2 := c4_ hx1; have HX1 := m_ hx1; have HB1 := m_ hb1; clear hx1 hb1) | ((with_reducible refine a3_ (N := 7) rfl ?_); refine bx 7 #[.int .i64 lg, .int .i64 lc] 24 ?_; intro gl hgl w2 hx2 hb2; have wgl : w.heap.size ≤ gl := (by have := HB1.out.size; omega); have hgl2 := c4_ hx2; have HX1b := m_ (a1_ HX1.out hb2); have HX2 := m_ hx2; have HB2 := m_ (a9_ HB1.out hb2); have hs2 := hb2.size; have nvl : gv ≠ gl := (by omega); clear hx2 hb2) | ((with_reducible refine a3_ (N := 9) rfl ?_); refine bx 9 #[.int .i64 q, .int .i64 m, .int .i64 g, .int .i64 c, .int .i64 mn, .int .i64 mx] 29 ?_; intro gw hgw w3 hx3 hb3; have HX1c := m_ (a1_ HX1b.out hb3); have HX2b := m_ (a1_ HX2.out hb3); have HX3 := m_ hx3; have HB3 := m_ (a9_ HB2.out hb3); have nvw : gv ≠ gw := (by omega); have nlw : gl ≠ gw := (by omega); obtain ⟨f0, f1, f2, f3, f4, f5⟩ := cz6_ ⟨hx3⟩; clear hx3 hb3 hgv hgl hgw hgv2 hgl2 hs2 HX1 HX1b HX2 HB1 HB2) | (go_at_call 68; refine (HRT.out _).mono ?_; rintro e w4 ⟨rfl, hb4⟩; have HX4v := m_ (a1_ HX1c.out hb4); have HX4l := m_ (a1_ HX2b.out hb4); have HX4w := m_ (a1_ HX3.out hb4); have HB4 := m_ (a9_ HB3.out hb4); clear hb4 f0 f1 f2 f3 f4 f5 HX1c HX2b HX3 HB3))
    all_goals go_ret2
    all_goals exact ⟨rfl, HB3.out⟩
   ·have d1 : decide (1073741824 < now) = false := by simpa using h1
    have hr : rightB m g c mn mx = false := by
     rcases hbad with h | h | h
     ·exact absurd h h0
     ·exact absurd h h1
     ·exact h
    rw [hr] at HRT
    clear h0 h1 hbad hRT0 hr
    go_enter Try.func27, Try.ntmps27
    go_wp2_with (first | ((with_reducible refine a3_ (N := 6) rfl ?_); refine bx 6 #[.slice A1 l1.length c1] 22 ?_; intro gv hgv w1 hx1 hb1; have wgv : w.heap.size ≤ gv := (by omega); have hgv2 := c4_ hx1; have HX1 := m_ hx1; have HB1 := m_ hb1; clear hx1 hb1) | ((with_reducible refine a3_ (N := 7) rfl ?_); refine bx 7 #[.int .i64 lg, .int .i64 lc] 24 ?_; intro gl hgl w2 hx2 hb2; have wgl : w.heap.size ≤ gl := (by have := HB1.out.size; omega); have hgl2 := c4_ hx2; have HX1b := m_ (a1_ HX1.out hb2); have HX2 := m_ hx2; have HB2 := m_ (a9_ HB1.out hb2); have hs2 := hb2.size; have nvl : gv ≠ gl := (by omega); clear hx2 hb2) | ((with_reducible refine a3_ (N := 9) rfl ?_); refine bx 9 #[.int .i64 q, .int .i64 m, .int .i64 g, .int .i64 c, .int .i64 mn, .int .i64 mx] 29 ?_; intro gw hgw w3 hx3 hb3; have HX1c := m_ (a1_ HX1b.out hb3); have HX2b := m_ (a1_ HX2.out hb3); have HX3 := m_ hx3; have HB3 := m_ (a9_ HB2.out hb3); have nvw : gv ≠ gw := (by omega); have nlw : gl ≠ gw := (by omega); obtain ⟨f0, f1, f2, f3, f4, f5⟩ := cz6_ ⟨hx3⟩; clear hx3 hb3 hgv hgl hgw hgv2 hgl2 hs2 HX1 HX1b HX2 HB1 HB2) | (go_at_call 68; refine (HRT.out _).mono ?_; rintro e w4 ⟨rfl, hb4⟩; have HX4v := m_ (a1_ HX1c.out hb4); have HX4l := m_ (a1_ HX2b.out hb4); have HX4w := m_ (a1_ HX3.out hb4); have HB4 := m_ (a9_ HB3.out hb4); clear hb4 f0 f1 f2 f3 f4 f5 HX1c HX2b HX3 HB3))
    all_goals go_ret2
    all_goals exact ⟨rfl, HB4.out⟩
 ·have hn0 : ¬ now < 0 := fun h => hbad (.inl h)
  have hn1 : ¬ now > 1073741824 := fun h => hbad (.inr (.inl h))
  have hrt : rightB m g c mn mx = true := by
   cases h : rightB m g c mn mx with
   | true => rfl
   | false => exact absurd (.inr (.inr h)) hbad
  have HE : earliestB now l1 lg lc l3 q m g c mn mx = (if (turned51 moreE moreF l1 (l3.flatMap fun h => h.f4)).2 ≠ 0 then (0, (turned51 moreE moreF l1 (l3.flatMap fun h => h.f4)).2)
   else (goE q m g c mn mx (isort skey41 l3) now l1 (lg, lc), 0)) := by unfold earliestB; rw [if_neg hbad]
  rw [HE]
  rw [hrt] at HRT
  have hm0 := more_eq HVO.out (fun s hs => (HS.out s hs).2)
  have ha0 := all_eq (l3.length + 1) l3 (Nat.le_refl _) (by have := HN.out; omega) (by have := HLEN.out; omega)
  generalize hall : l3.flatMap (fun h => h.f4) = al at *
  generalize hmr : turned51 moreE moreF l1 al = mr at *
  obtain ⟨mv, me⟩ := mr
  have HM := m_ hm0
  have HA := m_ ha0
  have HALL := m_ hall
  clear hm0 ha0 hmr hall
  obtain ⟨ps, hmap, hpC, hsl⟩ := holds_of HR3.out
  have hpl : ps.length = l3.length := by rw [← hmap, List.length_map]
  have hsm : (isort hkey ps).map (fun x => x.1) = isort skey41 l3 := by
   have := isort_map skey41 (fun x : HV => x.1) ps []
   rw [hmap] at this
   exact this
  have HMAP := m_ hmap
  have HPC := m_ hpC
  have HSL := m_ hsl
  have HPL := m_ hpl
  have hwl : wrap64 ((ps.length : Int) + 1) = (ps.length : Int) + 1 := w_id (by have := HN.out; omega)
  rw [← hsm]
  have hperm := isort_perm hkey ps
  obtain ⟨SP, hSP⟩ : ∃ SP, isort hkey ps = SP := ⟨_, rfl⟩
  rw [hSP] at hperm ⊢
  have HSPE := m_ hSP
  have HPERM := m_ hperm
  clear hmap hpC hsl hpl hsm hSP hperm
  have d0 : decide (now < 0) = false := by simpa using hn0
  have d1 : decide (1073741824 < now) = false := by simpa using hn1
  clear HE hbad hrt hn0 hn1
  go_enter Try.func27, Try.ntmps27
  go_wp2_with (first | ((with_reducible refine a3_ (N := 6) rfl ?_); refine bx 6 #[.slice A1 l1.length c1] 22 ?_; intro gv hgv w1 hx1 hb1; have wgv : w.heap.size ≤ gv := (by omega); have hgv2 := c4_ hx1; have HX1 := m_ hx1; have HB1 := m_ hb1; clear hx1 hb1) | ((with_reducible refine a3_ (N := 7) rfl ?_); refine bx 7 #[.int .i64 lg, .int .i64 lc] 24 ?_; intro gl hgl w2 hx2 hb2; have wgl : w.heap.size ≤ gl := (by have := HB1.out.size; omega); have hgl2 := c4_ hx2; have HX1b := m_ (a1_ HX1.out hb2); have HX2 := m_ hx2; have HB2 := m_ (a9_ HB1.out hb2); have hs2 := hb2.size; have nvl : gv ≠ gl := (by omega); clear hx2 hb2) | ((with_reducible refine a3_ (N := 9) rfl ?_); refine bx 9 #[.int .i64 q, .int .i64 m, .int .i64 g, .int .i64 c, .int .i64 mn, .int .i64 mx] 29 ?_; intro gw hgw w3 hx3 hb3; have HX1c := m_ (a1_ HX1b.out hb3); have HX2b := m_ (a1_ HX2.out hb3); have HX3 := m_ hx3; have HB3 := m_ (a9_ HB2.out hb3); have nvw : gv ≠ gw := (by omega); have nlw : gl ≠ gw := (by omega); obtain ⟨f0, f1, f2, f3, f4, f5⟩ := cz6_ ⟨hx3⟩; clear hx3 hb3 hgv hgl hgw hgv2 hgl2 hs2 HX1 HX1b HX2 HB1 HB2) | (go_at_call 68; refine (HRT.out _).mono ?_; rintro e w4 ⟨rfl, hb4⟩; have HX4v := m_ (a1_ HX1c.out hb4); have HX4l := m_ (a1_ HX2b.out hb4); have HX4w := m_ (a1_ HX3.out hb4); have HB4 := m_ (a9_ HB3.out hb4); clear hb4 f0 f1 f2 f3 f4 f5 HX1c HX2b HX3 HB3))
  have k4 : w4.cell? ⟨gv, 0, none⟩ = some (.slice A1 l1.length c1) := (a0_ HX4v.out 0).trans rfl
  go_region_held3 (fun w' => w'.cell? ⟨gv, 0, none⟩ = some (.slice A1 l1.length c1)) (first | exact k4 | assumption) (first | (go_at_call 69; refine (promise_all.calls (l3.length + 1) A3 c3 l3 _ _ (Kd.C_below HR3.out (b7_ HB4.out)) HC3.out HA.out).mono ?_; rintro e w5 ⟨v5, rfl, ho5, hb5⟩; obtain ⟨A5, c5, rfl, hc5, hr5⟩ := Kd.R_reads ho5; have k5 : w5.cell? ⟨gv, 0, none⟩ = some (.slice A1 l1.length c1) := d9_ hb5 k4; have HB5 := m_ (a9_ (b7_ (Below.refl w4.heap.size w4)) hb5); have HR5 := m_ (And.intro hc5 hr5); clear ho5 hb5 hc5 hr5) | (go_at_call 52; refine (pack_More.calls A1 c1 l1 A5 c5 al mv me _ (Kd.C_below HR1.out (a9_ HB4.out HB5.out)) HC1.out HR5.out.2 HR5.out.1 HM.out).mono ?_; rintro e w6 ⟨v6, rfl, ho6, hb6⟩; have k6 : w6.cell? ⟨gv, 0, none⟩ = some (.slice A1 l1.length c1) := d9_ hb6 k5; have HB6 := m_ (a9_ HB5.out hb6); clear ho6 hb6))
  clear k4 k5 k6
  by_cases hme : me = 0
  ·subst hme
   go_wp2_with (first | (go_at_call 70; refine (clone70_n A3 c3 l3.length ps _ HPL.out (Kd.C_below HPC.out (a9_ HB4.out HB6.out)) (by have := HPL.out; have := HN.out; omega)).mono ?_; rintro e w7 ⟨v7, rfl, ho7, hb7⟩; obtain ⟨A7, c7, rfl, hc7, _⟩ := Kd.R_reads ho7; have HO7 := m_ ho7; have HB7 := m_ hb7; clear ho7 hb7 hc7) | (go_at_call 71; refine (sort_n2 A7 ps.length c7 w6.heap.size ps _ HO7.out (by have := HPL.out; have := HN.out; omega)).mono ?_; rintro e w8 ⟨rfl, ho8, hg8⟩; rw [HSPE.out] at ho8; have HO8 := m_ ho8; have HG8 := m_ hg8; clear ho8 hg8))
   have hB6 := a9_ HB4.out HB6.out
   have hB7 := a9_ hB6 HB7.out
   have hbb := blkOf_base HO7.out HB7.out.size
   have hs46 := HB6.out.size
   have gv4 := c4_ HX4v.out
   have gl4 := c4_ HX4l.out
   have gw4 := c4_ HX4w.out
   have hB8 : Below w.heap.size w w8 := hB7.grown HG8.out hB7.size (fun k e => by cases e; have := HB4.out.size; omega)
   have hmv : ∀ k, k < w4.heap.size → w8.heap[k]? = w4.heap[k]? := fun k hk => by
    rw [HG8.out.block k (by have := HB7.out.size; omega) (fun e => by cases e; omega), HB7.out.block k (by omega), HB6.out.block k hk]
   have HXv := m_ ((hmv gv gv4).trans HX4v.out)
   have HXl := m_ ((hmv gl gl4).trans HX4l.out)
   have HXw := m_ ((hmv gw gw4).trans HX4w.out)
   have HFv := m_ (Kd.F_mono (ok' := fun k => k ≠ gv ∧ k ≠ gl) (Foot.step (Kd.C_F k51_heap HR1.out) (fun k hk _ => hB8.block k hk)) (fun k hk => ⟨by omega, by omega⟩))
   have HSO := m_ (fun (x : HV) (hx : x ∈ SP) => (show SlotsOk w8 (fun k => k ≠ gv ∧ k ≠ gl) x from
    let h0 := HSL.out x (HPERM.out.mem_iff.1 hx)
    ⟨h0.1, h0.2.1, Kd.F_mono (Foot.step h0.2.2 (fun k hk _ => hB8.block k hk)) (fun k hk => ⟨by omega, by omega⟩)⟩))
   have HMK := m_ (fun (x : HV) (hx : x ∈ SP) (s : S52) (hs : s ∈ x.1.f4) => HS.out s (by
    rw [← HALL.out]
    refine List.mem_flatMap.2 ⟨x.1, ?_, hs⟩
    rw [← HMAP.out]
    exact List.mem_map.2 ⟨x, HPERM.out.mem_iff.1 hx, rfl⟩))
   have HLS := m_ (HPERM.out.length_eq)
   have HPN := m_ (show ps.length ≤ 1000 by have := HPL.out; have := HN.out; omega)
   have HB8 := m_ hB8
   have HBS := m_ (show gv < w6.heap.size ∧ gl < w6.heap.size ∧ gw < w6.heap.size by omega)
   clear hB6 hB7 hbb hs46 gv4 gl4 gw4 hB8 hmv HO7 HB7 HG8 HX4v HX4l HX4w
   rw [hwl]
   go_loopw [48, 16] (fun v48 v16 wr => ∃ (k : Nat) (t : Int) (view : List S51) (left : Int × Int) (Av : Option Addr) (cv : Nat), k ≤ SP.length ∧ v48 = .int .i64 (k : Int) ∧ v16 = .int .i64 t ∧
    A_ (goE q m g c mn mx (SP.map (fun x => x.1)) now l1 (lg, lc) = goE q m g c mn mx ((SP.drop k).map (fun x => x.1)) t view left) ∧
    A_ (wr.heap[gv]? = some (.cells #[.slice Av view.length cv] 22 (0, 0))) ∧ A_ (wr.heap[gl]? = some (.cells #[.int .i64 left.1, .int .i64 left.2] 24 (0, 0))) ∧ A_ (wr.heap[gw]? = some (.cells #[.int .i64 q, .int .i64 m, .int .i64 g, .int .i64 c, .int .i64 mn, .int .i64 mx] 29 (0, 0))) ∧
    A_ (Kd.F k51 wr (fun k => k ≠ gv ∧ k ≠ gl) Av view.length view) ∧ A_ (view.length ≤ cv) ∧ A_ (viewOk view) ∧ A_ (∀ x ∈ SP, SlotsOk wr (fun k => k ≠ gv ∧ k ≠ gl) x) ∧
    A_ (Kd.R kh 41 wr w6.heap.size (fun k => w6.heap.size ≤ k) (.slice A7 ps.length c7) SP) ∧ A_ (Below w.heap.size w wr)) (fun v48 _ _ => SP.length + 1 - (intOf v48).toNat)
   case atStart => exact ⟨0, now, l1, (lg, lc), A1, c1, Nat.zero_le _, rfl, rfl, ⟨rfl⟩, HXv, HXl, HXw, HFv, HC1, HVO, HSO, ⟨Kd.R_mono HO8.out (fun _ hk => hk.1)⟩, HB8⟩
   case round =>
    clear HXv HXl HXw HFv HSO HO8 HB8
    obtain ⟨k, t, view, ⟨lg', lc'⟩, Av, cv, hk, rfl, rfl, HG, HXV, HXL, HXW, HFV, HCV, HVW, HSP, HRW, HBW⟩ := hrel
    have hspl : SP.length = ps.length := HLS.out
    have hpn := HPN.out
    have HFit := fits_eq (view.length + 1) view lg' lc' q m g c mn mx (Nat.le_refl _) (by have := HVW.out.1; omega) HVW.out.2.1
    have HCF := m_ (promise_Fits.calls (view.length + 1) Av cv view lg' lc' q m g c mn mx _ wr (Kd.F_now HFV.out) HCV.out HFit)
    have fv : wr.cell? ⟨gv, 0, none⟩ = some (.slice Av view.length cv) := (a0_ HXV.out 0).trans rfl
    obtain ⟨fl0, fl1⟩ := cz2_ HXL
    obtain ⟨fw0, fw1, fw2, fw3, fw4, fw5⟩ := cz6_ HXW
    clear HFit
    by_cases hkn : k = SP.length
    ·have h1 : (k : Int) < (ps.length : Int) + 1 := by omega
     have h2 : ((k : Int) == (ps.length : Int)) = true := by simp; omega
     rw [List.drop_eq_nil_of_le (by omega)] at HG
     simp only [List.map_nil, goE] at HG
     cases hf : fitsB view lg' lc' m g c mn mx with
     | true =>
      rw [hf] at HCF
      rw [hf, if_pos rfl] at HG
      clear hf hkn
      go_wp2_with (go_at_call 29; refine HCF.out.mono ?_; rintro e w9 ⟨rfl, hb9⟩; have HB9 := m_ (a9_ HBW.out hb9); clear hb9)
      all_goals go_ret2
      all_goals exact ⟨by rw [HG.out]; rfl, HB9.out⟩
     | false =>
      rw [hf] at HCF
      rw [hf, if_neg (by decide)] at HG
      clear hf hkn
      go_wp2_with (go_at_call 29; refine HCF.out.mono ?_; rintro e w9 ⟨rfl, hb9⟩; have HB9 := m_ (a9_ HBW.out hb9); clear hb9)
      all_goals go_ret2
      all_goals exact ⟨by rw [HG.out]; rfl, HB9.out⟩
    ·have hkl : k < SP.length := by omega
     have h1 : (k : Int) < (ps.length : Int) + 1 := by omega
     have h2 : ((k : Int) == (ps.length : Int)) = false := by simp; omega
     have h3 : (k : Int) < (ps.length : Int) := by omega
     have h4 : (0 : Int) ≤ (k : Int) := by omega
     obtain ⟨g7, cap7, cur7, hv7, hok7, _, hh7⟩ := ownh HRW.out (by omega)
     injection hv7 with ha7 hn7 hc7
     subst ha7
     clear hn7 hc7
     have hget := List.getElem?_eq_getElem hkl
     obtain ⟨y0, y1, y2, y3, y4⟩ := at_kh HRW.out k SP[k] hget
     have hSx := HSP.out SP[k] (List.getElem_mem hkl)
     have hMx := HMK.out SP[k] (List.getElem_mem hkl)
     rw [List.drop_eq_getElem_cons hkl, List.map_cons, goE] at HG
     generalize SP[k] = x at *
     have HSX := m_ hSx
     have HMX := m_ hMx
     clear hget hSx hMx hkn
     have hmv1 := more_eq HVW.out (fun s hs => (HMX.out s hs).2)
     have hvok := turned51_ok HVW.out (fun s hs => (HMX.out s hs).1)
     generalize turned51 moreE moreF view x.1.f4 = mr2 at *
     obtain ⟨v2, e2⟩ := mr2
     have HMV := m_ hmv1
     have HVOK := m_ hvok
     clear hmv1 hvok
     have hwk : ∀ k, (k = gv ∨ k = gl) → w.heap.size ≤ k := fun k hk => by rcases hk with rfl | rfl <;> omega
     by_cases hgt : x.1.f2 > t
     ·have b3 : decide (t < x.1.f2) = true := by simpa using hgt
      rw [if_pos hgt] at HG
      clear hgt
      cases hf : fitsB view lg' lc' m g c mn mx with
      | true =>
       rw [hf] at HCF
       rw [hf, if_pos rfl] at HG
       clear hf
       go_wp2_with (go_at_call 29; refine HCF.out.mono ?_; rintro e w9 ⟨rfl, hb9⟩; have HB9 := m_ (a9_ HBW.out hb9); clear hb9)
       all_goals go_ret2
       all_goals exact ⟨by rw [HG.out]; rfl, HB9.out⟩
      | false =>
       rw [hf] at HCF
       rw [hf, if_neg (by decide)] at HG
       clear hf
       by_cases hge : x.1.f2 ≥ 1073741825
       ·have b4 : decide ((1073741825 : Int) ≤ x.1.f2) = true := by simpa using hge
        rw [if_pos hge] at HG
        clear hge
        go_wp2_with (go_at_call 29; refine HCF.out.mono ?_; rintro e w9 ⟨rfl, hb9⟩; have z2 := d9_ hb9 y2; have HB9 := m_ (a9_ HBW.out hb9); clear hb9)
        all_goals go_ret2
        all_goals exact ⟨by rw [HG.out]; rfl, HB9.out⟩
       ·have b4 : decide ((1073741825 : Int) ≤ x.1.f2) = false := by simpa using hge
        rw [if_neg hge] at HG
        clear hge
        go_wp2_with (first | (go_at_call 29; refine HCF.out.mono ?_; rintro e w8b ⟨rfl, hb8⟩; have z0 := d9_ hb8 y0; have z1 := d9_ hb8 y1; have z2 := d9_ hb8 y2; have z3 := d9_ hb8 y3; have z4 := d9_ hb8 y4; have HK8 := m_ (KP.below (KP.refl wr (fun k => k = gv ∨ k = gl)) hb8); have HXV8 := m_ (a1_ HXV.out hb8); have HXW8 := m_ (a1_ HXW.out hb8); have HXL8 := m_ (a1_ HXL.out hb8); have HFV8 := m_ (Kd.F_below HFV.out hb8); have HSX8 := m_ (show SlotsOk w8b (fun k => k ≠ gv ∧ k ≠ gl) x from ⟨HSX.out.1, HSX.out.2.1, Kd.F_below HSX.out.2.2 hb8⟩); clear hb8) | (go_at_call 74; refine (end_any gv gw gl x view Av cv q m g c mn mx lg' lc' v2 e2 w8b HXV8.out HXW8.out HXL8.out nvw nvl (fun e => nlw e.symm) HFV8.out HCV.out HSX8.out (fun s hs => (HMX.out s hs).1) HMV.out).mono ?_; rintro e w9 ⟨rfl, hk9, ⟨A9, c9, hv9, hc9, hf9⟩, hl9⟩; have HK9b := m_ hk9; have HV9 := m_ hv9; have HC9 := m_ hc9; have HF9 := m_ hf9; have HL9 := m_ hl9; clear hk9 hv9 hc9 hf9 hl9))
        have HK9 := m_ (HK8.out.trans HK9b.out)
        have HB9 := m_ (HK9.out.under HBW.out hwk)
        have HW9 := m_ (blk_kept HXW.out HK9.out.kept (fun h => by rcases h with h | h; exact nvw h.symm; exact nlw h.symm))
        have HS9 := m_ (fun (z : HV) (hz : z ∈ SP) => (show SlotsOk w9 (fun k => k ≠ gv ∧ k ≠ gl) z from ⟨(HSP.out z hz).1, (HSP.out z hz).2.1, Kd.F_kept (HSP.out z hz).2.2 HK9.out.kept (fun k hk hs => by rcases hs with h | h; exact hk.1 h; exact hk.2 h)⟩))
        have HR9 := m_ (Kd.R_kept HRW.out HK9.out.kept (fun k hk hs => by have := HBS.out; rcases hs with h | h <;> omega))
        go_roundw
        case rel => exact ⟨k + 1, x.1.f2, v2, _, A9, c9, by omega, by go_num, rfl, HG, HV9, HL9, HW9, HF9, HC9, HVOK, HS9, HR9, HB9⟩
        case measure => simp [intOf]; omega
     ·have b3 : decide (t < x.1.f2) = false := by simpa using hgt
      rw [if_neg hgt] at HG
      clear hgt
      go_wp2_with (first | (go_at_call 74; refine (end_any gv gw gl x view Av cv q m g c mn mx lg' lc' v2 e2 wr HXV.out HXW.out HXL.out nvw nvl (fun e => nlw e.symm) HFV.out HCV.out HSX.out (fun s hs => (HMX.out s hs).1) HMV.out).mono ?_; rintro e w9 ⟨rfl, hk9, ⟨A9, c9, hv9, hc9, hf9⟩, hl9⟩; have HK9 := m_ hk9; have HV9 := m_ hv9; have HC9 := m_ hc9; have HF9 := m_ hf9; have HL9 := m_ hl9; clear hk9 hv9 hc9 hf9 hl9))
      have HB9 := m_ (HK9.out.under HBW.out hwk)
      have HW9 := m_ (blk_kept HXW.out HK9.out.kept (fun h => by rcases h with h | h; exact nvw h.symm; exact nlw h.symm))
      have HS9 := m_ (fun (z : HV) (hz : z ∈ SP) => (show SlotsOk w9 (fun k => k ≠ gv ∧ k ≠ gl) z from ⟨(HSP.out z hz).1, (HSP.out z hz).2.1, Kd.F_kept (HSP.out z hz).2.2 HK9.out.kept (fun k hk hs => by rcases hs with h | h; exact hk.1 h; exact hk.2 h)⟩))
      have HR9 := m_ (Kd.R_kept HRW.out HK9.out.kept (fun k hk hs => by have := HBS.out; rcases hs with h | h <;> omega))
      go_roundw
      case rel => exact ⟨k + 1, t, v2, _, A9, c9, by omega, by go_num, rfl, HG, HV9, HL9, HW9, HF9, HC9, HVOK, HS9, HR9, HB9⟩
      case measure => simp [intOf]; omega
  ·have bme : (me == 0) = false := by simpa using hme
   go_wp2
   go_ret2
   exact ⟨by simp [hme], a9_ HB4.out HB6.out⟩
theorem okE_out {view : List S51} {ends : List S41} (h : okE view ends = true) : ends.length ≤ 1000 ∧ viewOk view ∧ (∀ s ∈ ends.flatMap (fun h => h.f4), maskOk s = true ∧ (w64B s.f0.f0 && w64B s.f0.f1) = true) ∧ (ends.flatMap fun h => h.f4).length < 4000000000 := by
 unfold okE spotsOk at h
 rw [Bool.and_eq_true, Bool.and_eq_true, Bool.and_eq_true, Bool.and_eq_true, Bool.and_eq_true, Bool.and_eq_true] at h
 obtain ⟨⟨⟨⟨h1, ⟨h2, h3⟩, h4⟩, h5⟩, h6⟩, h7⟩ := h
 exact ⟨of_decide_eq_true h1, ⟨of_decide_eq_true h2, fun f hf => List.all_eq_true.1 h5 f hf, fun f hf => List.all_eq_true.1 h3 f hf⟩, fun s hs => ⟨List.all_eq_true.1 h6 s hs, List.all_eq_true.1 h4 s hs⟩, of_decide_eq_true h7⟩
theorem promise_Earliest.calls (a0 : Int) (A1 : Option Addr) (c1 : Nat) (l1 : List (S51)) (a2_0 a2_1 : Int) (A3 : Option Addr) (c3 : Nat) (l3 : List (S41)) (a4_0 a4_1 a4_2 a4_3 a4_4 a4_5 r1 r2 : Int) (w : World) (hr1 : Kd.C k51 w A1 l1.length l1) (hc1 : l1.length ≤ c1) (hr3 : Kd.C k41 w A3 l3.length l3) (hc3 : l3.length ≤ c3) (h : promise_Earliest.f a0 l1 a2_0 a2_1 l3 a4_0 a4_1 a4_2 a4_3 a4_4 a4_5 = some (r1, r2)) :
  Calls Try.prog 27 #[.int .i64 a0, .slice A1 l1.length c1, .agg #[.int .i64 a2_0, .int .i64 a2_1], .slice A3 l3.length c3, .agg #[.int .i64 a4_0, .int .i64 a4_1, .int .i64 a4_2, .int .i64 a4_3, .int .i64 a4_4, .int .i64 a4_5]] w fun e w' => e = .returned (.tuple #[.int .i64 r1, .int .i64 r2]) ∧ Below w.heap.size w w' := by
 unfold promise_Earliest.f at h
 by_cases ho : okE l1 l3 = true
 ·rw [if_pos ho] at h
  obtain ⟨h1, h2, h3, h4⟩ := okE_out ho
  have e := Option.some.inj h
  have e1 : r1 = (earliestB a0 l1 a2_0 a2_1 l3 a4_0 a4_1 a4_2 a4_3 a4_4 a4_5).1 := by rw [e]
  have e2 : r2 = (earliestB a0 l1 a2_0 a2_1 l3 a4_0 a4_1 a4_2 a4_3 a4_4 a4_5).2 := by rw [e]
  rw [e1, e2]
  exact early_any a0 A1 c1 l1 a2_0 a2_1 A3 c3 l3 a4_0 a4_1 a4_2 a4_3 a4_4 a4_5 w hr1 hc1 hr3 hc3 h1 h2 h3 h4
 ·rw [if_neg ho] at h; cases h
def api_Hold.f (l0 : List (S41)) : Option ((List (S41))) := if l0.length < 1000000 then some l0 else none
set_option maxHeartbeats 4000000 in
set_option maxRecDepth 100000 in
theorem cloneN (okF : Nat → Prop) (A0 : Option Addr) (c0 : Nat) (l0 : List S41) (w : World) (hr0 : Kd.F k41 w okF A0 l0.length l0) (hok : ∀ k, okF k → k < w.heap.size) (hl : l0.length < 1000000) :
  Calls Try.prog 70 #[.slice A0 l0.length c0] w fun e w' => ∃ v0_ : Value, e = .returned v0_ ∧ Kd.N k41 41 w' w.heap.size (fun k => okF k ∨ w.heap.size ≤ k) v0_ l0 ∧ Below w.heap.size w w' := by
 have hu25 := Try.underlying25
 have q25 : ∀ (w : World) (a : Option Addr) (n c n' c' : Nat), (binOp .eql 25 (.slice a n c) (.slice none n' c')).run Try.prog w = .ok (.bool a.isNone) w := fun w a n c n' c' => Lib.run_eql_slice_nil w _ _ a n c n' c' Try.underlying25
 have HR := m_ hr0
 have HL := m_ hl
 have HK := m_ hok
 cases A0 with
 | none =>
  have h0 : l0 = [] := by
   rcases Nat.eq_zero_or_pos l0.length with h | h
   ·exact List.eq_nil_of_length_eq_zero h
   ·obtain ⟨ad, hA, _⟩ := (Kd.F_now hr0).2.2 h
    cases hA
  subst h0
  clear hr0 hl hok
  go_enter Try.func70, Try.ntmps70
  go_wp2
  all_goals go_ret
  all_goals exact ⟨_, rfl, Kd.N_nil _ _ _ _ _, Below.refl _ _⟩
 | some ad =>
  clear hr0 hl hok
  go_enter Try.func70, Try.ntmps70
  go_wp2_with (first | ((with_reducible refine a3_ (N := 5) rfl ?_); refine Kd.N_lit k41 _ 41 ?hg (N' := 5) ?hd (xs := ([] : List S41)) (inner := []) (ok := fun k => w.heap.size ≤ k) (okp := fun _ => False) ?hr ?hp (fun _ hk => hk.elim) (Nat.le_refl _) (Below.refl _ _) (Nat.le_refl _) (by simp) ?_; (case hd => rfl); (case hg => rfl); (case hr => first | (go_simp; done) | (go_simp; rfl)); (case hp => exact (Reps.none _ _)); intro v5 w5 ho5 hb hg_ hnew_; have HO5 := m_ ho5; have HB5 := m_ hb; have HN5 := m_ hnew_; clear hg_ hnew_ ho5 hb) | (refine Kd.N_append_rows k41 (w0 := w) w.heap.size rfl (.tmp 5) (.tmp 6) 25 41 (.agg #[(.int .i64 0), (.int .i64 0), (.int .i64 0), (.bool false), (.slice none 0 0)]) 56 rfl Try.underlying25 info41 rfl (by decide) (by omega) v5 [] l0 _ _ _ (fun k => okF k ∨ w.heap.size ≤ k) okF rfl rfl (Kd.N_mono HO5.out (fun _ hk => .inr hk)) (Foot.step HR.out (fun k hk hlt => HB5.out.block k hlt)) (fun k hk => ⟨.inl hk, fun e => by obtain ⟨b, hb, hle⟩ := HN5.out; have := HK.out k hk; rw [hb] at e; injection e with e; omega⟩) (fun k hk => .inr (Nat.le_trans (b6_ HB5.out) hk)) HB5.out (b6_ HB5.out) (by have := HL.out; simp; omega) ?_; intro v7 w7 ho hb hg hat; have HO7 := m_ ho; have HB7 := m_ hb; clear ho hb hg hat))
  all_goals go_ret
  all_goals exact ⟨_, rfl, HO7.out, HB7.out⟩
theorem api_Hold.callsF (okF : Nat → Prop) (A0 : Option Addr) (c0 : Nat) (l0 r : List (S41)) (w : World) (hr0 : Kd.F k41 w okF A0 l0.length l0) (hok : ∀ k, okF k → k < w.heap.size) (h : api_Hold.f l0 = some r) :
  Calls Try.prog 70 #[.slice A0 l0.length c0] w fun e w' => ∃ v0_ : Value, e = .returned (v0_) ∧ Kd.N k41 41 w' w.heap.size (fun k => okF k ∨ w.heap.size ≤ k) v0_ r ∧ Below w.heap.size w w' := by
 unfold api_Hold.f at h
 by_cases hl : l0.length < 1000000
 ·rw [if_pos hl] at h
  cases h
  exact cloneN okF A0 c0 l0 w hr0 hok hl
 ·rw [if_neg hl] at h; cases h
end Go.Proofs.Ytckhjehibjdjdaa.P
namespace Go.Proofs.Ytckhjehibjdjdaa.P
open Go.RowKit Go.Shelf Go.Proofs.YtckhjehibjdjdaaW.PrintWords Go.Proofs.YtckhjehibjdjdaaW.PrintLast Go.Proofs.YtckhjehibjdjdaaW.PrintMore
open Go.Proofs.Ytckhjehibjdjdaa.Bits
attribute [local go_sem] Oper.semAt_some
def subU (a : Int × Int) (s : S52) : Int × Int := (wrap64 (a.1 - popI s.f1), wrap64 (a.2 - s.f2))
def subL (a : Int × Int) (l : List S52) : Int × Int := l.foldl subU a
theorem subL_step (a : Int × Int) (l : List S52) (j : Nat) (h : j < l.length) : subL a (l.take (j + 1)) = subU (subL a (l.take j)) (a5_ l (j : Int)) := by
 have e : a5_ l (j : Int) = l[j] := by simp [a5_, List.getD_eq_getElem?_getD, List.getElem?_eq_getElem h]
 unfold subL
 rw [List.take_succ_eq_append_getElem h, List.foldl_append, e]; rfl
set_option maxHeartbeats 8000000 in
set_option maxRecDepth 100000 in
theorem take1 (gl : Nat) (t0 t1 sm sc lg lc : Int) (w : World) (hl : w.heap[gl]? = some (.cells #[.int .i64 lg, .int .i64 lc] 24 (0, 0))) (hm : 0 ≤ sm ∧ sm < 18446744073709551616) :
  Calls Try.prog 107 #[.agg #[.int .i64 t0, .int .i64 t1, .int .u64 sm, .int .i64 sc], .pointer (some ⟨gl, 0, none⟩)] w fun e w' => e = .returned (.tuple #[]) ∧ KP w w' (fun k => k = gl) ∧
   w'.heap[gl]? = some (.cells #[.int .i64 (wrap64 (lg - popI sm)), .int .i64 (wrap64 (lc - sc))] 24 (0, 0)) := by
 have hu52 := Try.underlying52
 have hu24 := Try.underlying24
 have gll := c4_ hl
 have HL0 := m_ hl
 have HMK := m_ hm
 clear hl hm
 go_enter Try.func107, Try.ntmps107
 go_wp2_with (first | ((with_reducible refine a3_ (N := 2) rfl ?_); refine bx 2 #[.int .i64 t0, .int .i64 t1, .int .u64 sm, .int .i64 sc] 52 ?_; intro g4 hg4 w4 hx4 hb4; have HX4 := m_ hx4; have HB4 := m_ hb4; have n3 : gl ≠ g4 := (by omega); have HL4 := m_ (a1_ HL0.out hb4); have l0 : w4.cell? ⟨gl, 0, none⟩ = some (.int .i64 lg) := (a0_ (a1_ HL0.out hb4) 0).trans rfl; have b2 : w4.cell? ⟨g4, 1 + 1, none⟩ = some (.int .u64 sm) := (a0_ hx4 2).trans rfl; clear hg4 hx4 hb4))
 go_still_tail 7, (by kernel_rfl)
 still_call ((count_any _ HMK.out.1 HMK.out.2 _))
 repeat still_step
 refine wpStill_nil ?_
 change wpList _ _ _ _ _ w4.drew
 clear l0 b2
 have l0 : w4.drew.cell? ⟨gl, 0, none⟩ = some (.int .i64 lg) := (a0_ HL4.out 0).trans rfl
 have z0 : w4.drew.frozen? ⟨gl, 0, none⟩ = false := a2_ HL4.out 0
 have z1 : w4.frozen? ⟨gl, 1, none⟩ = false := a2_ HL4.out 1
 have l1 : w4.cell? ⟨gl, 1, none⟩ = some (.int .i64 lc) := (a0_ HL4.out 1).trans rfl
 have b3 : w4.cell? ⟨g4, 3, none⟩ = some (.int .i64 sc) := (a0_ HX4.out 3).trans rfl
 go_wp2
 go_end0
 exact ⟨rfl, (((KP.below (KP.refl w (fun k => k = gl)) HB4.out).set (g := gl) (j := 0) (Or.inl rfl) _).set (g := gl) (j := 1) (Or.inl rfl) _).drew, blk_set (blk_set HL4.out 0 _) 1 _⟩
def maskAll (l : List S52) : Bool := l.all maskOk && decide (l.length < 1000000000)
def fill_take.f (a0_0 a0_1 : Int) (l1 : List (S52)) : Option (Int × Int) := if maskAll l1 = true then some (subL (a0_0, a0_1) l1) else none
set_option maxHeartbeats 8000000 in
set_option maxRecDepth 100000 in
theorem take_any (a0_0 a0_1 : Int) (A1 : Option Addr) (c1 : Nat) (l1 : List (S52)) (w : World) (hr1 : Kd.C k52 w A1 l1.length l1) (hm : ∀ s ∈ l1, maskOk s = true) (hl : l1.length < 1000000000) :
  Calls Try.prog 81 #[.agg #[.int .i64 a0_0, .int .i64 a0_1], .slice A1 l1.length c1] w fun e w' => e = .returned (.agg #[.int .i64 (subL (a0_0, a0_1) l1).1, .int .i64 (subL (a0_0, a0_1) l1).2]) ∧ Below w.heap.size w w' := by
 have hu52 := Try.underlying52
 have hu24 := Try.underlying24
 have HR := m_ hr1
 have HM := m_ hm
 have HL := m_ hl
 clear hr1 hm hl
 go_enter Try.func81, Try.ntmps81
 go_wp2_with (first | ((with_reducible refine a3_ (N := 2) rfl ?_); refine bx 2 #[.int .i64 a0_0, .int .i64 a0_1] 24 ?_; intro gb hgb wb hxb hbb; have HXB := m_ hxb; have HBB := m_ hbb; have hgb2 : w.heap.size ≤ gb := (by omega); clear hgb hxb hbb))
 have hB1 := b4_ HBB.out (.cells #[.int .i64 0, .int .i64 0] 24)
 have hG1 := b8_ HXB.out (.cells #[.int .i64 0, .int .i64 0] 24)
 have hR1 := heap_alloc_new wb (.cells #[.int .i64 0, .int .i64 0] 24)
 have hne : wb.heap.size ≠ gb := by have := c4_ HXB.out; omega
 have hrs : w.heap.size ≤ wb.heap.size := HBB.out.size
 have HB1 := m_ hB1
 have HG1 := m_ hG1
 have HR1 := m_ hR1
 obtain ⟨gr, hgr⟩ : ∃ gr, gr = wb.heap.size := ⟨_, rfl⟩
 rw [← hgr] at HR1 hne hrs ⊢
 clear hB1 hG1 hR1 hgr HXB HBB
 go_loopw [11] (fun v11 wr => ∃ j : Nat, j ≤ l1.length ∧ v11 = .int .i64 (j : Int) ∧ A_ (Below w.heap.size w wr) ∧ A_ (wr.heap[gb]? = some (.cells #[.int .i64 (subL (a0_0, a0_1) (l1.take j)).1, .int .i64 (subL (a0_0, a0_1) (l1.take j)).2] 24 (0, 0))) ∧ A_ (wr.heap[gr]? = some (.cells #[.int .i64 0, .int .i64 0] 24 (0, 0)))) (fun v11 _ => l1.length - (intOf v11).toNat)
 case atStart => exact ⟨0, Nat.zero_le _, rfl, HB1, HG1, HR1⟩
 case round =>
  clear HB1 HG1 HR1
  obtain ⟨j, hj, rfl, HB, HG, HE⟩ := hrel
  have hC := Kd.C_below HR.out HB.out
  have hlm := HL.out
  by_cases hlt : j < l1.length
  ·have h0 : 0 ≤ (j : Int) := by omega
   have h1' : (j : Int) < l1.length := by omega
   obtain ⟨ad1, ee, y0, y1, y2, y3⟩ := at_T52 hC (j : Int) h0 h1'
   cases ee
   simp only [Int.toNat_natCast] at y0 y1 y2 y3
   have hstep := subL_step (a0_0, a0_1) l1 j hlt
   have hmk := HM.out (a5_ l1 (j : Int)) (by simp [a5_, List.getD_eq_getElem?_getD, List.getElem?_eq_getElem hlt])
   generalize a5_ l1 (j : Int) = s at *
   generalize subL (a0_0, a0_1) (l1.take j) = acc at *
   obtain ⟨⟨t0, t1⟩, sm, sc⟩ := s
   simp only [maskOk, Bool.and_eq_true, decide_eq_true_eq] at hmk
   have HMK := m_ hmk
   have HST := m_ hstep
   clear hmk hstep hC
   simp only at y0 y1 y2 y3
   have HBA := m_ (b4_ HB.out (.cells #[.int .i64 t0, .int .i64 t1, .int .u64 sm, .int .i64 sc] 52))
   have HGA := m_ (b8_ HG.out (.cells #[.int .i64 t0, .int .i64 t1, .int .u64 sm, .int .i64 sc] 52))
   have HEA := m_ (b8_ HE.out (.cells #[.int .i64 t0, .int .i64 t1, .int .u64 sm, .int .i64 sc] 52))
   clear HB HG HE
   go_wp2_with (go_at_call 107; refine (take1 gb t0 t1 sm sc acc.1 acc.2 _ HGA.out HMK.out).mono ?_; rintro e w5 ⟨rfl, hk5, hg5⟩; have HB5 := m_ (hk5.under HBA.out (fun k hk => by omega)); have HG5 := m_ hg5; have HE5 := m_ ((hk5.kept.2 gr (c4_ HEA.out) hne).trans HEA.out); clear hk5 hg5)
   go_roundw
   case rel => exact ⟨j + 1, by omega, by go_num, HB5, ⟨by rw [HST.out]; exact HG5.out⟩, HE5⟩
   case measure => simp [intOf]; omega
  ·obtain rfl : j = l1.length := by omega
   have hg := HG.out
   rw [List.take_length] at hg
   obtain ⟨p0, p1⟩ := cz2_ ⟨hg⟩
   have e0 : wr.cell? ⟨gr, 0, none⟩ = some (.int .i64 0) := (a0_ HE.out 0).trans rfl
   have e1 : wr.cell? ⟨gr, 1, none⟩ = some (.int .i64 0) := (a0_ HE.out 1).trans rfl
   have z0 := a2_ HE.out 0
   have z1 := a2_ HE.out 1
   clear hg hC
   go_wp2
   refine bodyPost_ret (results_cell_row rfl _ _ gr 24 #[.int .i64 (subL (a0_0, a0_1) l1).1, .int .i64 (subL (a0_0, a0_1) l1).2] (0, 0) _ rfl (blk_set (blk_set HE.out 0 _) 1 _) Try.underlying24 rfl rfl) rfl ?_
   exact ⟨rfl, b5_ (b5_ HB.out hrs) hrs⟩
theorem fill_take.calls (a0_0 a0_1 : Int) (A1 : Option Addr) (c1 : Nat) (l1 : List (S52)) (r1 r2 : Int) (w : World) (hr1 : Kd.C k52 w A1 l1.length l1) (hc1 : l1.length ≤ c1) (h : fill_take.f a0_0 a0_1 l1 = some (r1, r2)) :
  Calls Try.prog 81 #[.agg #[.int .i64 a0_0, .int .i64 a0_1], .slice A1 l1.length c1] w fun e w' => e = .returned (.agg #[.int .i64 r1, .int .i64 r2]) ∧ Below w.heap.size w w' := by
 unfold fill_take.f at h
 by_cases ho : maskAll l1 = true
 ·rw [if_pos ho] at h
  unfold maskAll at ho
  rw [Bool.and_eq_true] at ho
  have e := Option.some.inj h
  have e1 : r1 = (subL (a0_0, a0_1) l1).1 := by rw [e]
  have e2 : r2 = (subL (a0_0, a0_1) l1).2 := by rw [e]
  rw [e1, e2]
  exact take_any a0_0 a0_1 A1 c1 l1 w hr1 (fun s hs => List.all_eq_true.1 ho.1 s hs) (of_decide_eq_true ho.2)
 ·rw [if_neg ho] at h; cases h
end Go.Proofs.Ytckhjehibjdjdaa.P
namespace Go.Proofs.Ytckhjehibjdjdaa.P
open Go.RowKit Go.Proofs.YtckhjehibjdjdaaW.PrintWords Go.Proofs.YtckhjehibjdjdaaW.PrintLast Go.Proofs.YtckhjehibjdjdaaW.PrintMore
attribute [local go_sem] max2_int min2_int max_two min_two max_three min_three max_four min_four
def fill_After.f (a0 : Int) (l1 : List (S51)) (a2_0 a2_1 : Int) (l3 : List (S41)) (a4_0 a4_1 a4_2 a4_3 a4_4 a4_5 a5_0 a5_1 a5_2 : Int) (a5_3 : Bool) (l5_4 : List (S52)) : Option (Int × Int) := (pack_Less.f l1 l5_4).bind fun bt329 => (if bt329.2 = 0 then (if a5_1 = a4_0 then ((fill_take.f a2_0 a2_1 l5_4).bind fun bt333 => ((api_Hold.f l3).bind fun t335 => ((some (([(⟨a5_0, a5_1, a5_2, a5_3, l5_4⟩ : S41)] : List (S41)) : List (S41))).bind fun y338 => (if t335.length + y338.length < 2513169434916 then ((promise_Earliest.f a0 bt329.1 bt333.1 bt333.2 (t335 ++ y338) a4_0 a4_1 a4_2 a4_3 a4_4 a4_5).bind fun bt344 => (some (bt344.1, bt344.2))) else (none))))) else ((api_Hold.f l3).bind fun t346 => ((some (([(⟨a5_0, a5_1, a5_2, a5_3, l5_4⟩ : S41)] : List (S41)) : List (S41))).bind fun y349 => (if t346.length + y349.length < 2513169434916 then ((promise_Earliest.f a0 bt329.1 a2_0 a2_1 (t346 ++ y349) a4_0 a4_1 a4_2 a4_3 a4_4 a4_5).bind fun bt355 => (some (bt355.1, bt355.2))) else (none))))) else (some (0, bt329.2)))
def fill_After.T6 : Bool × List (List Nat × List Nat) := (true, [([], []), ([], []), ([], []), ([], []), ([3], [3]), ([], []), ([5], [5]), ([4, 6, 4], [4, 6]), ([], []), ([0, 1, 2, 7, 8, 7], [0, 1, 2, 7, 8]), ([9], [9]), ([9], [9]), ([10, 9, 0, 1, 2, 3, 4, 5, 6, 7, 8, 9, 10, 11], [10]), ([11, 12, 0, 1, 2, 3, 4, 5, 6, 7, 8, 9, 10, 11, 12], [11])])
def fill_After.B6 : List Nat := [0, 0, 0, 0, 8, 0, 32, 120, 0, 511, 1023, 1023, 4095, 8191]
theorem fill_After.tab6 : rtab .any (opsOf Try.f39 6) = fill_After.T6 := by kernel_rfl
theorem fill_After.bits6 : waitsOk fill_After.T6.2 fill_After.B6 = true := by kernel_rfl
set_option maxHeartbeats 8000000 in
set_option maxRecDepth 100000 in
theorem fill_After.callsV (a0 : Int) (A1 : Option Addr) (c1 : Nat) (l1 : List (S51)) (a2_0 a2_1 : Int) (A3 : Option Addr) (c3 : Nat) (l3 : List (S41)) (a4_0 a4_1 a4_2 a4_3 a4_4 a4_5 a5_0 a5_1 a5_2 : Int) (a5_3 : Bool) (P5_4_ : Nat → Prop) (A5_4 : Option Addr) (c5_4 : Nat) (l5_4 : List (S52)) (r1 r2 : Int) (w : World) (hr1 : Kd.C k51 w A1 l1.length l1) (hc1 : l1.length ≤ c1) (hr3 : Kd.C k41 w A3 l3.length l3) (hc3 : l3.length ≤ c3) (hs5_4 : Kd.V k52 52 w w.heap.size (fun k_ => P5_4_ k_) (.slice A5_4 l5_4.length c5_4) l5_4) (h : fill_After.f a0 l1 a2_0 a2_1 l3 a4_0 a4_1 a4_2 a4_3 a4_4 a4_5 a5_0 a5_1 a5_2 a5_3 l5_4 = some (r1, r2)) :
  Calls Try.prog 39 #[.int .i64 a0, .slice A1 l1.length c1, .agg #[.int .i64 a2_0, .int .i64 a2_1], .slice A3 l3.length c3, .agg #[.int .i64 a4_0, .int .i64 a4_1, .int .i64 a4_2, .int .i64 a4_3, .int .i64 a4_4, .int .i64 a4_5], .agg #[.int .i64 a5_0, .int .i64 a5_1, .int .i64 a5_2, .bool a5_3, .slice A5_4 l5_4.length c5_4]] w fun e w' => e = .returned (.tuple #[.int .i64 r1, .int .i64 r2]) ∧ Below w.heap.size w w' := by
 have hu24 := Try.underlying24
 have hu29 := Try.underlying29
 have hu41 := Try.underlying41
 have HR1 := m_ hr1
 have HC1 := m_ hc1
 clear hr1 hc1
 have HR3 := m_ hr3
 have HC3 := m_ hc3
 clear hr3 hc3
 replace hs5_4 := Kd.V_mono (ok' := fun _ => True) hs5_4 (fun _ _ => trivial)
 clear P5_4_
 obtain ⟨P5_4_, hP5⟩ : ∃ P : Nat → Prop, P = fun _ => True := ⟨_, rfl⟩
 have HP5 := m_ (show ∀ k, P5_4_ k from fun k => by rw [hP5]; trivial)
 replace hs5_4 := Kd.V_mono (ok' := fun k_ => P5_4_ k_) hs5_4 (fun k _ => HP5.out k)
 clear hP5
 have HO5_4 := m_ (show Kd.V k52 52 w w.heap.size (fun k_ => (P5_4_ k_ ∨ w.heap.size ≤ k_)) (.slice A5_4 l5_4.length c5_4) l5_4 from Kd.V_mono hs5_4 (fun k_ hk => .inl hk))
 have HB := m_ (Below.refl w.heap.size w)
 have H : ((pack_Less.f l1 l5_4).bind fun bt329 => (if bt329.2 = 0 then (if a5_1 = a4_0 then ((fill_take.f a2_0 a2_1 l5_4).bind fun bt333 => ((api_Hold.f l3).bind fun t335 => ((some (([(⟨a5_0, a5_1, a5_2, a5_3, l5_4⟩ : S41)] : List (S41)) : List (S41))).bind fun y338 => (if t335.length + y338.length < 2513169434916 then ((promise_Earliest.f a0 bt329.1 bt333.1 bt333.2 (t335 ++ y338) a4_0 a4_1 a4_2 a4_3 a4_4 a4_5).bind fun bt344 => (some (bt344.1, bt344.2))) else (none))))) else ((api_Hold.f l3).bind fun t346 => ((some (([(⟨a5_0, a5_1, a5_2, a5_3, l5_4⟩ : S41)] : List (S41)) : List (S41))).bind fun y349 => (if t346.length + y349.length < 2513169434916 then ((promise_Earliest.f a0 bt329.1 a2_0 a2_1 (t346 ++ y349) a4_0 a4_1 a4_2 a4_3 a4_4 a4_5).bind fun bt355 => (some (bt355.1, bt355.2))) else (none))))) else (some (0, bt329.2)))) = some (r1, r2) := h
 clear h
 replace H := Option.bind_eq_some_iff.mp H
 obtain ⟨⟨t329, t330⟩, A70, H⟩ := H
 replace H : (if t330 = 0 then (if a5_1 = a4_0 then ((fill_take.f a2_0 a2_1 l5_4).bind fun bt333 => ((api_Hold.f l3).bind fun t335 => ((some (([(⟨a5_0, a5_1, a5_2, a5_3, l5_4⟩ : S41)] : List (S41)) : List (S41))).bind fun y338 => (if t335.length + y338.length < 2513169434916 then ((promise_Earliest.f a0 t329 bt333.1 bt333.2 (t335 ++ y338) a4_0 a4_1 a4_2 a4_3 a4_4 a4_5).bind fun bt344 => (some (bt344.1, bt344.2))) else (none))))) else ((api_Hold.f l3).bind fun t346 => ((some (([(⟨a5_0, a5_1, a5_2, a5_3, l5_4⟩ : S41)] : List (S41)) : List (S41))).bind fun y349 => (if t346.length + y349.length < 2513169434916 then ((promise_Earliest.f a0 t329 a2_0 a2_1 (t346 ++ y349) a4_0 a4_1 a4_2 a4_3 a4_4 a4_5).bind fun bt355 => (some (bt355.1, bt355.2))) else (none))))) else (some (0, t330))) = some (r1, r2) := H
 have A7 := m_ A70
 clear A70
 by_cases c8 : t330 = 0
 ·rw [if_pos c8] at H
  have c8b0 : (t330 == 0) = true := beq_iff_eq.mpr c8
  have c8b1 : (t330 != 0) = false := bne_eq_false_iff_eq.mpr c8
  clear c8
  by_cases c9 : a5_1 = a4_0
  ·rw [if_pos c9] at H
   have c9b0 : (a5_1 == a4_0) = true := beq_iff_eq.mpr c9
   have c9b1 : (a5_1 != a4_0) = false := bne_eq_false_iff_eq.mpr c9
   clear c9
   replace H := Option.bind_eq_some_iff.mp H
   obtain ⟨⟨t333, t334⟩, A100, H⟩ := H
   replace H : ((api_Hold.f l3).bind fun t335 => ((some (([(⟨a5_0, a5_1, a5_2, a5_3, l5_4⟩ : S41)] : List (S41)) : List (S41))).bind fun y338 => (if t335.length + y338.length < 2513169434916 then ((promise_Earliest.f a0 t329 t333 t334 (t335 ++ y338) a4_0 a4_1 a4_2 a4_3 a4_4 a4_5).bind fun bt344 => (some (bt344.1, bt344.2))) else (none)))) = some (r1, r2) := H
   have A10 := m_ A100
   clear A100
   replace H := Option.bind_eq_some_iff.mp H
   obtain ⟨t335, A110, H⟩ := H
   replace H : ((some (([(⟨a5_0, a5_1, a5_2, a5_3, l5_4⟩ : S41)] : List (S41)) : List (S41))).bind fun y338 => (if t335.length + y338.length < 2513169434916 then ((promise_Earliest.f a0 t329 t333 t334 (t335 ++ y338) a4_0 a4_1 a4_2 a4_3 a4_4 a4_5).bind fun bt344 => (some (bt344.1, bt344.2))) else (none))) = some (r1, r2) := H
   have A11 := m_ A110
   clear A110
   obtain ⟨y338, hy338⟩ : ∃ y_ : List (S41), y_ = (([(⟨a5_0, a5_1, a5_2, a5_3, l5_4⟩ : S41)] : List (S41))) := ⟨_, rfl⟩
   replace H : (if t335.length + y338.length < 2513169434916 then ((promise_Earliest.f a0 t329 t333 t334 (t335 ++ y338) a4_0 a4_1 a4_2 a4_3 a4_4 a4_5).bind fun bt344 => (some (bt344.1, bt344.2))) else (none)) = some (r1, r2) := by first | (rw [hy338]; with_reducible exact H) | (have H2_ := (Option.bind_some _ _).symm.trans H; rw [hy338]; with_reducible exact H2_) | (have H2_ := (Option.bind_some _ _).symm.trans H; with_reducible exact H2_) | with_reducible exact H | (rw [hy338]; exact H) | exact H
   have Ny338 := m_ hy338
   clear hy338
   by_cases c12 : t335.length + y338.length < 2513169434916
   ·rw [if_pos c12] at H
    have LMc12 := m_ c12
    clear c12
    obtain ⟨y341, hy341⟩ : ∃ y_ : List (S41), y_ = (t335 ++ y338) := ⟨_, rfl⟩
    replace H : ((promise_Earliest.f a0 t329 t333 t334 y341 a4_0 a4_1 a4_2 a4_3 a4_4 a4_5).bind fun bt344 => (some (bt344.1, bt344.2))) = some (r1, r2) := by first | (rw [hy341]; with_reducible exact H) | (have H2_ := (Option.bind_some _ _).symm.trans H; rw [hy341]; with_reducible exact H2_) | (have H2_ := (Option.bind_some _ _).symm.trans H; with_reducible exact H2_) | with_reducible exact H | (rw [hy341]; exact H) | exact H
    have Ny341 := m_ hy341
    clear hy341
    replace H := Option.bind_eq_some_iff.mp H
    obtain ⟨⟨t344, t345⟩, A130, H⟩ := H
    replace H : (some (t344, t345)) = some (r1, r2) := H
    have A13 := m_ A130
    clear A130
    simp only [Option.some.injEq, Prod.mk.injEq] at H
    obtain ⟨rfl, rfl⟩ := H
    go_enter Try.func39, Try.ntmps39
    try go_wp2_with (first | ((with_reducible refine a3_ (N := 8) rfl ?_); refine bx 8 #[.int .i64 a2_0, .int .i64 a2_1] 24 ?_; intro gb326 hg w14 hbox hb; have BK326 := m_ (hbox); have GW326 := ge_ hg; have GE326 := ge_ hg; replace HO5_4 := m_ (Kd.V_below (Kd.V_elderB Z4 gb326 (Nat.le_of_eq hg.symm)) hb); replace HB := hs_ hb; clear hb hbox hg) | ((with_reducible refine a3_ (N := 10) rfl ?_); refine bx 10 #[.int .i64 a4_0, .int .i64 a4_1, .int .i64 a4_2, .int .i64 a4_3, .int .i64 a4_4, .int .i64 a4_5] 29 ?_; intro gb327 hg w15 hbox hb; have BK327 := m_ (hbox); have GW327 := ge_ hg; have GE327 := ge_ hg; have NB326_327 := nl_ BK326 hg; have NB327_326 := nr_ BK326 hg; replace HO5_4 := m_ (Kd.V_below (Kd.V_elderB Z4 gb327 (Nat.le_of_eq hg.symm)) hb); replace BK326 := bk_ BK326 hb; replace HB := hs_ hb; clear hb hbox hg) | ((with_reducible refine a3_ (N := 11) rfl ?_); refine bx 11 #[.int .i64 a5_0, .int .i64 a5_1, .int .i64 a5_2, .bool a5_3, .slice A5_4 l5_4.length c5_4] 41 ?_; intro gb328 hg w16 hbox hb; have BK328 := m_ (hbox); have GW328 := ge_ hg; have GE328 := ge_ hg; have NB326_328 := nl_ BK326 hg; have NB328_326 := nr_ BK326 hg; have NB327_328 := nl_ BK327 hg; have NB328_327 := nr_ BK327 hg; replace HO5_4 := m_ (Kd.V_below (Kd.V_elderB Z4 gb328 (Nat.le_of_eq hg.symm)) hb); replace BK326 := bk_ BK326 hb; replace BK327 := bk_ BK327 hb; replace HB := hs_ hb; clear hb hbox hg; have hnb17 := NB328_326.out; have hnc17 := NB326_328.out; have hnb18 := NB328_327.out; have hnc18 := NB327_328.out; obtain ⟨hcz19_0, hcz19_1, hcz19_2, hcz19_3, hcz19_4, hfz19_0, hfz19_1, hfz19_2, hfz19_3, hfz19_4⟩ := bz5_ BK328) | ((with_reducible refine b2_ (f := 51) rfl ?_); refine goesL_ (some 20) rfl rfl Try.func51 (by kernel_rfl) rfl #[.slice A1 l1.length c1, .slice A5_4 l5_4.length c5_4] rfl Z0 ?_; (with_reducible refine (pack_Less.calls _ _ l1 _ _ l5_4 t329 t330 _ ?side1 ?side2 ?side3 ?side4 A7.out).mono ?_); (case side1 => exact cs_ HR1); (case side2 => exact HC1.out); (case side3 => repeat (first | exact (Kd.V_reads' HO5_4.out).2.2 | (with_reducible refine Kd.C_alloc ?_ _) | (with_reducible refine Kd.C_drewN ?_ _) | (with_reducible refine Kd.C_drew ?_))); (case side4 => exact (Kd.V_reads' HO5_4.out).2.1); rintro e w20 ⟨v331, rfl, ho0, hb⟩; refine ⟨_, rfl, ?_⟩; have HO332 := m_ (Kd.R_lower (Kd.R_newM (M := fun k_ => (w.heap.size ≤ k_)) ho0 (b6_ hb_) (fun k_ h_ => h_)) (b6_ hb_)); replace HO5_4 := m_ (Kd.V_elder' Z4 (Kd.R_base ho0) hb); replace BK326 := bk_ BK326 hb; replace BK327 := bk_ BK327 hb; replace BK328 := bk_ BK328 hb; replace HB := hs_ hb; (try clear hb); (try clear hb2); (try clear hk); (try clear hi); (try clear ho0); obtain ⟨hcz21_0, hcz21_1, hcz21_2, hcz21_3, hcz21_4, hfz21_0, hfz21_1, hfz21_2, hfz21_3, hfz21_4⟩ := bz5_ BK328; have hnb22 := NB327_326.out; have hnc22 := NB326_327.out; obtain ⟨hcz23_0, hcz23_1, hcz23_2, hcz23_3, hcz23_4, hcz23_5, hfz23_0, hfz23_1, hfz23_2, hfz23_3, hfz23_4, hfz23_5⟩ := bz6_ BK327; obtain ⟨hcz24_0, hcz24_1, hfz24_0, hfz24_1⟩ := bz2_ BK326) | ((with_reducible refine b2_ (f := 81) rfl ?_); refine goesL_ (some 34) rfl rfl Try.func81 (by kernel_rfl) rfl #[.agg #[.int .i64 a2_0, .int .i64 a2_1], .slice A5_4 l5_4.length c5_4] rfl Z0 ?_; (with_reducible refine (fill_take.calls a2_0 a2_1 _ _ l5_4 t333 t334 _ ?side1 ?side2 A10.out).mono ?_); (case side1 => repeat (first | exact (Kd.V_reads' HO5_4.out).2.2 | (with_reducible refine Kd.C_alloc ?_ _) | (with_reducible refine Kd.C_drewN ?_ _) | (with_reducible refine Kd.C_drew ?_))); (case side2 => exact (Kd.V_reads' HO5_4.out).2.1); rintro e w25 ⟨rfl, hb⟩; refine ⟨_, rfl, ?_⟩; replace HO5_4 := m_ (Kd.V_below Z4 hb); replace HO332 := m_ (Kd.R_below Z3 hb); replace BK326 := bk_ BK326 hb; replace BK327 := bk_ BK327 hb; replace BK328 := bk_ BK328 hb; replace HB := hs_ hb; (try clear hb); (try clear hb2); (try clear hk); (try clear hi); obtain ⟨hcz26_0, hcz26_1, hfz26_0, hfz26_1⟩ := bz2_ BK326; obtain ⟨Ao27, co27, eo27⟩ := Kd.R_slice HO332.out; subst eo27))
    have n0_ : A_ (Kd.V k52 52 ((w25.setCell ⟨gb326, 0, none⟩ (.int .i64 t333)).setCell ⟨gb326, 1, none⟩ (.int .i64 t334)) w.heap.size (fun k_ => (P5_4_ k_ ∨ w.heap.size ≤ k_) ∧ some k_ ≠ (.slice Ao27 t329.length co27 : Value).ownBlock ∧ k_ ≠ gb326 ∧ k_ ≠ gb327 ∧ k_ ≠ gb328) (.slice A5_4 l5_4.length c5_4) l5_4) := ⟨by (with_reducible repeat (first | apply Kd.V_alloc | apply Kd.V_drewN | apply Kd.V_drew)); exact Kd.V_mono (Kd.V_far (p := ⟨gb326, 1, none⟩) (Kd.V_far (p := ⟨gb326, 0, none⟩) (Kd.V_mono HO5_4.out (fun k_ hk => (⟨hk, hk.1.1.1.2⟩ : _ ∧ k_ ≠ gb326))) (fun _ hk => hk.2) (.int .i64 t333)) (fun _ hk => hk.2) (.int .i64 t334)) (fun _ hk => ⟨hk.1.1.1.1.1, ⟨hk.1.2, ⟨hk.1.1.1.1.2, ⟨hk.1.1.1.2, hk.1.1.2⟩⟩⟩⟩)⟩
    have n1_ : A_ (Kd.R k51 51 ((w25.setCell ⟨gb326, 0, none⟩ (.int .i64 t333)).setCell ⟨gb326, 1, none⟩ (.int .i64 t334)) w.heap.size (fun k_ => (w.heap.size ≤ k_)) (.slice Ao27 t329.length co27) t329) := ⟨by (with_reducible repeat (first | apply Kd.R_alloc | apply Kd.R_drewN | apply Kd.R_drew)); exact Kd.R_mono (Kd.R_far (p := ⟨gb326, 1, none⟩) (Kd.R_far (p := ⟨gb326, 0, none⟩) (Kd.R_types HO332.out BK326.out (by decide)) (fun _ hk => hk.2) (.int .i64 t333)) (fun _ hk => hk.2) (.int .i64 t334)) (fun _ hk => hk.1.1)⟩
    have n2_ : A_ (((w25.setCell ⟨gb326, 0, none⟩ (.int .i64 t333)).setCell ⟨gb326, 1, none⟩ (.int .i64 t334)).heap[gb326]? = some (.cells #[.int .i64 t333, .int .i64 t334] 24 (0, 0))) := ⟨bs_⟩
    have n3_ : A_ (((w25.setCell ⟨gb326, 0, none⟩ (.int .i64 t333)).setCell ⟨gb326, 1, none⟩ (.int .i64 t334)).heap[gb327]? = some (.cells #[.int .i64 a4_0, .int .i64 a4_1, .int .i64 a4_2, .int .i64 a4_3, .int .i64 a4_4, .int .i64 a4_5] 29 (0, 0))) := ⟨bs_⟩
    have n4_ : A_ (((w25.setCell ⟨gb326, 0, none⟩ (.int .i64 t333)).setCell ⟨gb326, 1, none⟩ (.int .i64 t334)).heap[gb328]? = some (.cells #[.int .i64 a5_0, .int .i64 a5_1, .int .i64 a5_2, .bool a5_3, .slice A5_4 l5_4.length c5_4] 41 (0, 0))) := ⟨bs_⟩
    have n5_ : A_ (Below w.heap.size w ((w25.setCell ⟨gb326, 0, none⟩ (.int .i64 t333)).setCell ⟨gb326, 1, none⟩ (.int .i64 t334))) := ⟨hb_⟩
    (try clear HO5_4)
    (try clear HO332)
    (try clear BK326)
    (try clear BK327)
    (try clear BK328)
    (try clear HB)
    generalize ((w25.setCell ⟨gb326, 0, none⟩ (.int .i64 t333)).setCell ⟨gb326, 1, none⟩ (.int .i64 t334)) = w28 at n0_ n1_ n2_ n3_ n4_ n5_ ⊢
    have HO5_4 := n0_
    have HO332 := n1_
    have BK326 := n2_
    have BK327 := n3_
    have BK328 := n4_
    have HB := n5_
    clear n0_ n1_ n2_ n3_ n4_ n5_
    replace HO5_4 := m_ (Kd.V_drew HO5_4.out)
    replace HO332 := m_ (Kd.R_drew HO332.out)
    replace BK326 := m_ (d5_ BK326.out)
    replace BK327 := m_ (d5_ BK327.out)
    replace BK328 := m_ (d5_ BK328.out)
    replace HB := m_ (b7_ HB.out)
    refine start_ (n := 14) (S := fun w' => w'.cell? ⟨gb326, 0, none⟩ = some (.int .i64 t333) ∧ w'.cell? ⟨gb326, 1, none⟩ = some (.int .i64 t334) ∧ w'.cell? ⟨gb328, 0, none⟩ = some (.int .i64 a5_0) ∧ w'.cell? ⟨gb328, 1, none⟩ = some (.int .i64 a5_1) ∧ w'.cell? ⟨gb328, 2, none⟩ = some (.int .i64 a5_2) ∧ w'.cell? ⟨gb328, 3, none⟩ = some (.bool a5_3) ∧ w'.cell? ⟨gb328, 4, none⟩ = some (.slice A5_4 l5_4.length c5_4) ∧ w'.cell? ⟨gb327, 0, none⟩ = some (.int .i64 a4_0) ∧ w'.cell? ⟨gb327, 1, none⟩ = some (.int .i64 a4_1) ∧ w'.cell? ⟨gb327, 2, none⟩ = some (.int .i64 a4_2) ∧ w'.cell? ⟨gb327, 3, none⟩ = some (.int .i64 a4_3) ∧ w'.cell? ⟨gb327, 4, none⟩ = some (.int .i64 a4_4) ∧ w'.cell? ⟨gb327, 5, none⟩ = some (.int .i64 a4_5)) (ds := []) (bm 14 0) (by kernel_rfl) rfl rfl ⟨(a0_ BK326.out 0).trans rfl, (a0_ BK326.out 1).trans rfl, (a0_ BK328.out 0).trans rfl, (a0_ BK328.out 1).trans rfl, (a0_ BK328.out 2).trans rfl, (a0_ BK328.out 3).trans rfl, (a0_ BK328.out 4).trans rfl, (a0_ BK327.out 0).trans rfl, (a0_ BK327.out 1).trans rfl, (a0_ BK327.out 2).trans rfl, (a0_ BK327.out 3).trans rfl, (a0_ BK327.out 4).trans rfl, (a0_ BK327.out 5).trans rfl⟩ (fun hHeld => ?_); refine with_tabW fill_After.tab6 fill_After.bits6 (fun HT_ HW_ => ?_)
    generalize w28.drew = w29 at HO5_4 HO332 BK326 BK327 BK328 HB hHeld ⊢
    refine pu 0 (some 35) (bm 14 1) ?_
    refine pu 1 (some 36) (bm 14 3) ?_
    refine pu 3 (some 38) (bm 14 11) ?_
    refine tk 2 (some 37) (bm 14 15) ?_
    refine tk 5 (some 40) (bm 14 47) ?_
    refine tk 8 (some 43) (bm 14 303) ?_
    refine join_ (σ := Value × Value) 6 (bm 14 383) (fun s_ => [(39, s_.1), (41, s_.2)]) (fun s_ w' => (w'.cell? ⟨gb326, 0, none⟩ = some (.int .i64 t333) ∧ w'.cell? ⟨gb326, 1, none⟩ = some (.int .i64 t334) ∧ w'.cell? ⟨gb328, 0, none⟩ = some (.int .i64 a5_0) ∧ w'.cell? ⟨gb328, 1, none⟩ = some (.int .i64 a5_1) ∧ w'.cell? ⟨gb328, 2, none⟩ = some (.int .i64 a5_2) ∧ w'.cell? ⟨gb328, 3, none⟩ = some (.bool a5_3) ∧ w'.cell? ⟨gb328, 4, none⟩ = some (.slice A5_4 l5_4.length c5_4) ∧ w'.cell? ⟨gb327, 0, none⟩ = some (.int .i64 a4_0) ∧ w'.cell? ⟨gb327, 1, none⟩ = some (.int .i64 a4_1) ∧ w'.cell? ⟨gb327, 2, none⟩ = some (.int .i64 a4_2) ∧ w'.cell? ⟨gb327, 3, none⟩ = some (.int .i64 a4_3) ∧ w'.cell? ⟨gb327, 4, none⟩ = some (.int .i64 a4_4) ∧ w'.cell? ⟨gb327, 5, none⟩ = some (.int .i64 a4_5)) ∧ (Kd.R k51 51 w' w.heap.size (fun k_ => (w.heap.size ≤ k_)) (.slice Ao27 t329.length co27) t329) ∧ (Kd.N k41 41 w' w.heap.size (fun k_ => (P5_4_ k_ ∨ w.heap.size ≤ k_) ∧ some k_ ≠ (.slice Ao27 t329.length co27 : Value).ownBlock ∧ some k_ ≠ (s_.2 : Value).ownBlock ∧ k_ ≠ gb326 ∧ k_ ≠ gb327 ∧ k_ ≠ gb328) s_.1 t335) ∧ (Kd.N k41 41 w' w.heap.size (fun k_ => (P5_4_ k_ ∨ w.heap.size ≤ k_) ∧ some k_ ≠ (.slice Ao27 t329.length co27 : Value).ownBlock ∧ some k_ ≠ (s_.1 : Value).ownBlock ∧ k_ ≠ gb326 ∧ k_ ≠ gb327 ∧ k_ ≠ gb328) s_.2 y338) ∧ (Kd.V k52 52 w' w.heap.size (fun k_ => (P5_4_ k_ ∨ w.heap.size ≤ k_) ∧ some k_ ≠ (.slice Ao27 t329.length co27 : Value).ownBlock ∧ some k_ ≠ (s_.1 : Value).ownBlock ∧ some k_ ≠ (s_.2 : Value).ownBlock ∧ k_ ≠ gb326 ∧ k_ ≠ gb327 ∧ k_ ≠ gb328) (.slice A5_4 l5_4.length c5_4) l5_4) ∧ (w'.heap[gb326]? = some (.cells #[.int .i64 t333, .int .i64 t334] 24 (0, 0))) ∧ (w'.heap[gb327]? = some (.cells #[.int .i64 a4_0, .int .i64 a4_1, .int .i64 a4_2, .int .i64 a4_3, .int .i64 a4_4, .int .i64 a4_5] 29 (0, 0))) ∧ (w'.heap[gb328]? = some (.cells #[.int .i64 a5_0, .int .i64 a5_1, .int .i64 a5_2, .bool a5_3, .slice A5_4 l5_4.length c5_4] 41 (0, 0))) ∧ (Below w.heap.size w w')) ?_ ?_
    rotate_left
    ·intro hCont
     refine two_ (i := 4) (j := 6) (Ni := some 39) (Nj := some 41) (bm 14 319) (bm 14 367) rfl rfl rfl rfl (two_of HT_.out (by kernel_rfl)) (by decide) (by decide) (fun K hK => ?_) (fun K hK => ?_)
     ·skip
      refine goes_ Try.func70 (by kernel_rfl) rfl #[.slice A3 l3.length c3] (by rfl) rfl rfl Z0 ?_
      with_reducible refine (api_Hold.callsF (fun k => k < w.heap.size) _ _ l3 t335 _ ?side1 ?side2 A11.out).mono ?_
      (case side1 => exact Foot.step (Kd.C_F k41_heap HR3.out) (fun k hk _ => (show Below w.heap.size w _ from hb_).block k hk))
      (case side2 => exact fun k hk => Nat.lt_of_lt_of_le hk (b6_ hb_))
      rintro e w30 ⟨v336, rfl, ho0, hb⟩
      refine ⟨_, rfl, ?_⟩
      have HO337 := m_ (Kd.N_lower (Kd.N_mono (ok' := fun k_ => (P5_4_ k_ ∨ w.heap.size ≤ k_) ∧ some k_ ≠ (.slice Ao27 t329.length co27 : Value).ownBlock ∧ k_ ≠ gb326 ∧ k_ ≠ gb327 ∧ k_ ≠ gb328) ho0 (fun k_ hk_ => hk_.elim (fun h_ => ⟨.inl (HP5.out k_), (fun e_ => by have := Kd.R_base HO332.out k_ e_.symm; omega), (by have := GE326.out; omega), (by have := GE327.out; omega), (by have := GE328.out; omega)⟩) (fun h_ => ⟨(.inr (Nat.le_trans (b6_ hb_) h_)), (Kd.fresh' (Kd.R_lt Z3) k_ h_), (Kd.freshB (g := gb326) (o := .cells #[.int .i64 t333, .int .i64 t334] 24 (0, 0)) (bo_ BK326) k_ h_), (Kd.freshB (g := gb327) (o := .cells #[.int .i64 a4_0, .int .i64 a4_1, .int .i64 a4_2, .int .i64 a4_3, .int .i64 a4_4, .int .i64 a4_5] 29 (0, 0)) (bo_ BK327) k_ h_), (Kd.freshB (g := gb328) (o := .cells #[.int .i64 a5_0, .int .i64 a5_1, .int .i64 a5_2, .bool a5_3, .slice A5_4 l5_4.length c5_4] 41 (0, 0)) (bo_ BK328) k_ h_)⟩))) (b6_ hb_))
      replace HO5_4 := m_ (Kd.V_elder' Z4 (Kd.N_base ho0) hb)
      replace HO332 := m_ (Kd.R_below Z3 hb)
      replace BK326 := bk_ BK326 hb
      replace BK327 := bk_ BK327 hb
      replace BK328 := bk_ BK328 hb
      replace HB := hs_ hb
      (try clear hb)
      (try clear hb2)
      (try clear hk)
      (try clear hi)
      (try clear ho0)
      refine hK.out _ _ kc_ (fun hHeld => ?_)
      clear hK K
      refine norm_ (a' := ?_) ?_ ?_
      rotate_left
      ·show Act.put _ (some 39) _ = _
       simp only [Act.put, List.setIfInBounds_toArray, List.set_cons_zero, List.set_cons_succ, i64_w, i32_w]
       rfl
      refine one_ (i := 6) (N := some 41) (bm 14 383) rfl rfl (one_of HT_.out (by kernel_rfl)) (by decide) (fun K hK => ?_)
      refine Kd.N_lit_step k41 _ 41 ?hg (N' := 41) ?hd (xs := ([(⟨a5_0, a5_1, a5_2, a5_3, l5_4⟩ : S41)] : List (S41))) (inner := [.int .i64 a5_0, .int .i64 a5_1, .int .i64 a5_2, .bool a5_3, .slice A5_4 l5_4.length c5_4]) (ok := (fun k_ => (P5_4_ k_ ∨ w.heap.size ≤ k_) ∧ some k_ ≠ (.slice Ao27 t329.length co27 : Value).ownBlock ∧ some k_ ≠ (v336 : Value).ownBlock ∧ k_ ≠ gb326 ∧ k_ ≠ gb327 ∧ k_ ≠ gb328)) (okp := (fun k_ => (P5_4_ k_ ∨ w.heap.size ≤ k_) ∧ some k_ ≠ (.slice Ao27 t329.length co27 : Value).ownBlock ∧ some k_ ≠ (v336 : Value).ownBlock ∧ k_ ≠ gb326 ∧ k_ ≠ gb327 ∧ k_ ≠ gb328)) ?hr ?hp (fun _ hk => hk) ((show ∀ k_, w30.heap.size ≤ k_ → (fun k_ => (P5_4_ k_ ∨ w.heap.size ≤ k_) ∧ some k_ ≠ (.slice Ao27 t329.length co27 : Value).ownBlock ∧ some k_ ≠ (v336 : Value).ownBlock ∧ k_ ≠ gb326 ∧ k_ ≠ gb327 ∧ k_ ≠ gb328) k_ from fun k_ hk => ⟨(.inr (Nat.le_trans (b6_ hb_) hk)), Kd.fresh' (Kd.R_lt Z3) k_ hk, Kd.fresh' (Kd.N_lt Z18) k_ hk, Kd.freshB (g := gb326) (o := .cells #[.int .i64 t333, .int .i64 t334] 24 (0, 0)) (bo_ BK326) k_ hk, Kd.freshB (g := gb327) (o := .cells #[.int .i64 a4_0, .int .i64 a4_1, .int .i64 a4_2, .int .i64 a4_3, .int .i64 a4_4, .int .i64 a4_5] 29 (0, 0)) (bo_ BK327) k_ hk, Kd.freshB (g := gb328) (o := .cells #[.int .i64 a5_0, .int .i64 a5_1, .int .i64 a5_2, .bool a5_3, .slice A5_4 l5_4.length c5_4] 41 (0, 0)) (bo_ BK328) k_ hk⟩) _ (Nat.le_refl _)) (Below.refl _ _) (Nat.le_refl _) (by simp) ?_; (case hd => rfl); (case hg => rfl); (case hr => first | (go_simp; done) | (go_simp; rfl)); (case hp => exact (Reps.c5 (show Kd.FK k41 _ _ (⟨a5_0, a5_1, a5_2, a5_3, l5_4⟩ : S41) [.int .i64 a5_0, .int .i64 a5_1, .int .i64 a5_2, .bool a5_3, .slice A5_4 l5_4.length c5_4] from (k41_mkF _ _ (⟨a5_0, a5_1, a5_2, a5_3, l5_4⟩ : S41) (Kd.V_reads' (Kd.V_mono (ok' := (fun k_ => (P5_4_ k_ ∨ w.heap.size ≤ k_) ∧ some k_ ≠ (.slice Ao27 t329.length co27 : Value).ownBlock ∧ some k_ ≠ (v336 : Value).ownBlock ∧ k_ ≠ gb326 ∧ k_ ≠ gb327 ∧ k_ ≠ gb328)) (HO5_4.out) (fun k_ hk => ⟨hk.1.1, ⟨hk.1.2.1, ⟨hk.2, ⟨hk.1.2.2.1, ⟨hk.1.2.2.2.1, hk.1.2.2.2.2⟩⟩⟩⟩⟩))).2.1 (Kd.V_F (Kd.V_mono (ok' := (fun k_ => (P5_4_ k_ ∨ w.heap.size ≤ k_) ∧ some k_ ≠ (.slice Ao27 t329.length co27 : Value).ownBlock ∧ some k_ ≠ (v336 : Value).ownBlock ∧ k_ ≠ gb326 ∧ k_ ≠ gb327 ∧ k_ ≠ gb328)) (HO5_4.out) (fun k_ hk => ⟨hk.1.1, ⟨hk.1.2.1, ⟨hk.2, ⟨hk.1.2.2.1, ⟨hk.1.2.2.2.1, hk.1.2.2.2.2⟩⟩⟩⟩⟩))))) (Reps.none _ _)))
      intro v339 w31 ho32 hb hg_ hnew_
      clear hg_ hnew_
      (first | rw [← Ny338.out] at ho32 | (simp only [Int.reduceToNat] at ho32; rw [← Ny338.out] at ho32))
      have HO340 := m_ (Kd.N_lower ho32 (b6_ hb_))
      replace HO5_4 := m_ (Kd.V_elder' Z4 (Kd.N_base ho32) hb)
      replace HO332 := m_ (Kd.R_below Z3 hb)
      replace HO337 := m_ (Kd.N_elder' Z18 (Kd.N_base ho32) hb)
      replace BK326 := bk_ BK326 hb
      replace BK327 := bk_ BK327 hb
      replace BK328 := bk_ BK328 hb
      replace HB := hs_ hb
      clear hb ho32
      refine hK.out _ _ kc_ (fun hHeld => ?_)
      clear hK K
      refine norm_ (a' := ?_) ?_ ?_
      rotate_left
      ·show Act.put _ (some 41) _ = _
       simp only [Act.put, List.setIfInBounds_toArray, List.set_cons_zero, List.set_cons_succ, i64_w, i32_w]
       rfl
      exact norm_ Z19 (hCont (v336, v339) _ ⟨hHeld, Z3, (by (with_reducible repeat (first | apply Kd.N_alloc | apply Kd.N_drewN | apply Kd.N_drew)); exact Kd.N_mono HO337.out (fun _ hk => ⟨hk.1.1, ⟨hk.1.2.1, ⟨hk.2, ⟨hk.1.2.2.1, ⟨hk.1.2.2.2.1, hk.1.2.2.2.2⟩⟩⟩⟩⟩)), Z17, (by (with_reducible repeat (first | apply Kd.V_alloc | apply Kd.V_drewN | apply Kd.V_drew)); exact Kd.V_mono HO5_4.out (fun _ hk => ⟨hk.1.1.1, ⟨hk.1.1.2.1, ⟨hk.1.2, ⟨hk.2, ⟨hk.1.1.2.2.1, ⟨hk.1.1.2.2.2.1, hk.1.1.2.2.2.2⟩⟩⟩⟩⟩⟩)), (bo_ BK326), (bo_ BK327), (bo_ BK328), hb_⟩)
     ·skip
      refine Kd.N_lit_step k41 _ 41 ?hg (N' := 41) ?hd (xs := ([(⟨a5_0, a5_1, a5_2, a5_3, l5_4⟩ : S41)] : List (S41))) (inner := [.int .i64 a5_0, .int .i64 a5_1, .int .i64 a5_2, .bool a5_3, .slice A5_4 l5_4.length c5_4]) (ok := (fun k_ => (P5_4_ k_ ∨ w.heap.size ≤ k_) ∧ some k_ ≠ (.slice Ao27 t329.length co27 : Value).ownBlock ∧ k_ ≠ gb326 ∧ k_ ≠ gb327 ∧ k_ ≠ gb328)) (okp := (fun k_ => (P5_4_ k_ ∨ w.heap.size ≤ k_) ∧ some k_ ≠ (.slice Ao27 t329.length co27 : Value).ownBlock ∧ k_ ≠ gb326 ∧ k_ ≠ gb327 ∧ k_ ≠ gb328)) ?hr ?hp (fun _ hk => hk) ((show ∀ k_, w29.heap.size ≤ k_ → (fun k_ => (P5_4_ k_ ∨ w.heap.size ≤ k_) ∧ some k_ ≠ (.slice Ao27 t329.length co27 : Value).ownBlock ∧ k_ ≠ gb326 ∧ k_ ≠ gb327 ∧ k_ ≠ gb328) k_ from fun k_ hk => ⟨(.inr (Nat.le_trans (b6_ hb_) hk)), Kd.fresh' (Kd.R_lt Z3) k_ hk, Kd.freshB (g := gb326) (o := .cells #[.int .i64 t333, .int .i64 t334] 24 (0, 0)) (bo_ BK326) k_ hk, Kd.freshB (g := gb327) (o := .cells #[.int .i64 a4_0, .int .i64 a4_1, .int .i64 a4_2, .int .i64 a4_3, .int .i64 a4_4, .int .i64 a4_5] 29 (0, 0)) (bo_ BK327) k_ hk, Kd.freshB (g := gb328) (o := .cells #[.int .i64 a5_0, .int .i64 a5_1, .int .i64 a5_2, .bool a5_3, .slice A5_4 l5_4.length c5_4] 41 (0, 0)) (bo_ BK328) k_ hk⟩) _ (Nat.le_refl _)) (Below.refl _ _) (Nat.le_refl _) (by simp) ?_; (case hd => rfl); (case hg => rfl); (case hr => first | (go_simp; done) | (go_simp; rfl)); (case hp => exact (Reps.c5 (show Kd.FK k41 _ _ (⟨a5_0, a5_1, a5_2, a5_3, l5_4⟩ : S41) [.int .i64 a5_0, .int .i64 a5_1, .int .i64 a5_2, .bool a5_3, .slice A5_4 l5_4.length c5_4] from (k41_mkF _ _ (⟨a5_0, a5_1, a5_2, a5_3, l5_4⟩ : S41) (Kd.V_reads' (Kd.V_mono (ok' := (fun k_ => (P5_4_ k_ ∨ w.heap.size ≤ k_) ∧ some k_ ≠ (.slice Ao27 t329.length co27 : Value).ownBlock ∧ k_ ≠ gb326 ∧ k_ ≠ gb327 ∧ k_ ≠ gb328)) (HO5_4.out) (fun k_ hk => ⟨hk.1, ⟨hk.2.1, ⟨hk.2.2.1, ⟨hk.2.2.2.1, hk.2.2.2.2⟩⟩⟩⟩))).2.1 (Kd.V_F (Kd.V_mono (ok' := (fun k_ => (P5_4_ k_ ∨ w.heap.size ≤ k_) ∧ some k_ ≠ (.slice Ao27 t329.length co27 : Value).ownBlock ∧ k_ ≠ gb326 ∧ k_ ≠ gb327 ∧ k_ ≠ gb328)) (HO5_4.out) (fun k_ hk => ⟨hk.1, ⟨hk.2.1, ⟨hk.2.2.1, ⟨hk.2.2.2.1, hk.2.2.2.2⟩⟩⟩⟩))))) (Reps.none _ _)))
      intro v339 w30 ho31 hb hg_ hnew_
      clear hg_ hnew_
      (first | rw [← Ny338.out] at ho31 | (simp only [Int.reduceToNat] at ho31; rw [← Ny338.out] at ho31))
      have HO340 := m_ (Kd.N_lower ho31 (b6_ hb_))
      replace HO5_4 := m_ (Kd.V_elder' Z4 (Kd.N_base ho31) hb)
      replace HO332 := m_ (Kd.R_below Z3 hb)
      replace BK326 := bk_ BK326 hb
      replace BK327 := bk_ BK327 hb
      replace BK328 := bk_ BK328 hb
      replace HB := hs_ hb
      clear hb ho31
      refine hK.out _ _ kc_ (fun hHeld => ?_)
      clear hK K
      refine norm_ (a' := ?_) ?_ ?_
      rotate_left
      ·show Act.put _ (some 41) _ = _
       simp only [Act.put, List.setIfInBounds_toArray, List.set_cons_zero, List.set_cons_succ, i64_w, i32_w]
       rfl
      refine one_ (i := 4) (N := some 39) (bm 14 383) rfl rfl (one_of HT_.out (by kernel_rfl)) (by decide) (fun K hK => ?_)
      refine goes_ Try.func70 (by kernel_rfl) rfl #[.slice A3 l3.length c3] (by rfl) rfl rfl Z0 ?_
      with_reducible refine (api_Hold.callsF (fun k => k < w.heap.size) _ _ l3 t335 _ ?side1 ?side2 A11.out).mono ?_
      (case side1 => exact Foot.step (Kd.C_F k41_heap HR3.out) (fun k hk _ => (show Below w.heap.size w _ from hb_).block k hk))
      (case side2 => exact fun k hk => Nat.lt_of_lt_of_le hk (b6_ hb_))
      rintro e w32 ⟨v336, rfl, ho0, hb⟩
      refine ⟨_, rfl, ?_⟩
      have HO337 := m_ (Kd.N_lower (Kd.N_mono (ok' := fun k_ => (P5_4_ k_ ∨ w.heap.size ≤ k_) ∧ some k_ ≠ (.slice Ao27 t329.length co27 : Value).ownBlock ∧ some k_ ≠ (v339 : Value).ownBlock ∧ k_ ≠ gb326 ∧ k_ ≠ gb327 ∧ k_ ≠ gb328) ho0 (fun k_ hk_ => hk_.elim (fun h_ => ⟨.inl (HP5.out k_), (fun e_ => by have := Kd.R_base HO332.out k_ e_.symm; omega), (fun e_ => by have := Kd.N_base HO340.out k_ e_.symm; omega), (by have := GE326.out; omega), (by have := GE327.out; omega), (by have := GE328.out; omega)⟩) (fun h_ => ⟨(.inr (Nat.le_trans (b6_ hb_) h_)), (Kd.fresh' (Kd.R_lt Z3) k_ h_), (Kd.fresh' (Kd.N_lt Z17) k_ h_), (Kd.freshB (g := gb326) (o := .cells #[.int .i64 t333, .int .i64 t334] 24 (0, 0)) (bo_ BK326) k_ h_), (Kd.freshB (g := gb327) (o := .cells #[.int .i64 a4_0, .int .i64 a4_1, .int .i64 a4_2, .int .i64 a4_3, .int .i64 a4_4, .int .i64 a4_5] 29 (0, 0)) (bo_ BK327) k_ h_), (Kd.freshB (g := gb328) (o := .cells #[.int .i64 a5_0, .int .i64 a5_1, .int .i64 a5_2, .bool a5_3, .slice A5_4 l5_4.length c5_4] 41 (0, 0)) (bo_ BK328) k_ h_)⟩))) (b6_ hb_))
      replace HO5_4 := m_ (Kd.V_elder' Z4 (Kd.N_base ho0) hb)
      replace HO332 := m_ (Kd.R_below Z3 hb)
      replace HO340 := m_ (Kd.N_elder' Z17 (Kd.N_base ho0) hb)
      replace BK326 := bk_ BK326 hb
      replace BK327 := bk_ BK327 hb
      replace BK328 := bk_ BK328 hb
      replace HB := hs_ hb
      (try clear hb)
      (try clear hb2)
      (try clear hk)
      (try clear hi)
      (try clear ho0)
      refine hK.out _ _ kc_ (fun hHeld => ?_)
      clear hK K
      refine norm_ (a' := ?_) ?_ ?_
      rotate_left
      ·show Act.put _ (some 39) _ = _
       simp only [Act.put, List.setIfInBounds_toArray, List.set_cons_zero, List.set_cons_succ, i64_w, i32_w]
       rfl
      exact norm_ Z19 (hCont (v336, v339) _ ⟨hHeld, Z3, Z18, (by (with_reducible repeat (first | apply Kd.N_alloc | apply Kd.N_drewN | apply Kd.N_drew)); exact Kd.N_mono HO340.out (fun _ hk => ⟨hk.1.1, ⟨hk.1.2.1, ⟨hk.2, ⟨hk.1.2.2.1, ⟨hk.1.2.2.2.1, hk.1.2.2.2.2⟩⟩⟩⟩⟩)), (by (with_reducible repeat (first | apply Kd.V_alloc | apply Kd.V_drewN | apply Kd.V_drew)); exact Kd.V_mono HO5_4.out (fun _ hk => ⟨hk.1.1.1, ⟨hk.1.1.2.1, ⟨hk.2, ⟨hk.1.2, ⟨hk.1.1.2.2.1, ⟨hk.1.1.2.2.2.1, hk.1.1.2.2.2.2⟩⟩⟩⟩⟩⟩)), (bo_ BK326), (bo_ BK327), (bo_ BK328), hb_⟩)
    rintro ⟨v336, v339⟩ w33 ⟨hS_, h0_, h1_, h2_, h3_, h4_, h5_, h6_, h7_⟩
    have n0_ : A_ (Kd.R k51 51 w33 w.heap.size (fun k_ => (w.heap.size ≤ k_)) (.slice Ao27 t329.length co27) t329) := ⟨h0_⟩
    have n1_ : A_ (Kd.N k41 41 w33 w.heap.size (fun k_ => (P5_4_ k_ ∨ w.heap.size ≤ k_) ∧ some k_ ≠ (.slice Ao27 t329.length co27 : Value).ownBlock ∧ some k_ ≠ (v339 : Value).ownBlock ∧ k_ ≠ gb326 ∧ k_ ≠ gb327 ∧ k_ ≠ gb328) v336 t335) := ⟨h1_⟩
    have n2_ : A_ (Kd.N k41 41 w33 w.heap.size (fun k_ => (P5_4_ k_ ∨ w.heap.size ≤ k_) ∧ some k_ ≠ (.slice Ao27 t329.length co27 : Value).ownBlock ∧ some k_ ≠ (v336 : Value).ownBlock ∧ k_ ≠ gb326 ∧ k_ ≠ gb327 ∧ k_ ≠ gb328) v339 y338) := ⟨h2_⟩
    have n3_ : A_ (Kd.V k52 52 w33 w.heap.size (fun k_ => (P5_4_ k_ ∨ w.heap.size ≤ k_) ∧ some k_ ≠ (.slice Ao27 t329.length co27 : Value).ownBlock ∧ some k_ ≠ (v336 : Value).ownBlock ∧ some k_ ≠ (v339 : Value).ownBlock ∧ k_ ≠ gb326 ∧ k_ ≠ gb327 ∧ k_ ≠ gb328) (.slice A5_4 l5_4.length c5_4) l5_4) := ⟨h3_⟩
    have n4_ : A_ (w33.heap[gb326]? = some (.cells #[.int .i64 t333, .int .i64 t334] 24 (0, 0))) := ⟨h4_⟩
    have n5_ : A_ (w33.heap[gb327]? = some (.cells #[.int .i64 a4_0, .int .i64 a4_1, .int .i64 a4_2, .int .i64 a4_3, .int .i64 a4_4, .int .i64 a4_5] 29 (0, 0))) := ⟨h5_⟩
    have n6_ : A_ (w33.heap[gb328]? = some (.cells #[.int .i64 a5_0, .int .i64 a5_1, .int .i64 a5_2, .bool a5_3, .slice A5_4 l5_4.length c5_4] 41 (0, 0))) := ⟨h6_⟩
    have n7_ : A_ (Below w.heap.size w w33) := ⟨h7_⟩
    clear HO5_4
    clear HO332
    clear BK326
    clear BK327
    clear BK328
    clear HB
    clear h0_ h1_ h2_ h3_ h4_ h5_ h6_ h7_
    have HO332 := n0_
    have HO337 := n1_
    have HO340 := n2_
    have HO5_4 := n3_
    have BK326 := n4_
    have BK327 := n5_
    have BK328 := n6_
    have HB := n7_
    clear n0_ n1_ n2_ n3_ n4_ n5_ n6_ n7_
    have hHeld : w33.cell? ⟨gb326, 0, none⟩ = some (.int .i64 t333) ∧ w33.cell? ⟨gb326, 1, none⟩ = some (.int .i64 t334) ∧ w33.cell? ⟨gb328, 0, none⟩ = some (.int .i64 a5_0) ∧ w33.cell? ⟨gb328, 1, none⟩ = some (.int .i64 a5_1) ∧ w33.cell? ⟨gb328, 2, none⟩ = some (.int .i64 a5_2) ∧ w33.cell? ⟨gb328, 3, none⟩ = some (.bool a5_3) ∧ w33.cell? ⟨gb328, 4, none⟩ = some (.slice A5_4 l5_4.length c5_4) ∧ w33.cell? ⟨gb327, 0, none⟩ = some (.int .i64 a4_0) ∧ w33.cell? ⟨gb327, 1, none⟩ = some (.int .i64 a4_1) ∧ w33.cell? ⟨gb327, 2, none⟩ = some (.int .i64 a4_2) ∧ w33.cell? ⟨gb327, 3, none⟩ = some (.int .i64 a4_3) ∧ w33.cell? ⟨gb327, 4, none⟩ = some (.int .i64 a4_4) ∧ w33.cell? ⟨gb327, 5, none⟩ = some (.int .i64 a4_5) := hS_
    obtain ⟨Ao35, co35, eo35⟩ := Kd.N_slice HO340.out
    (first | subst eo35 | (injection eo35 with f1_ f2_ f3_; have f4_ := f1_.symm; have f5_ := f3_.symm; clear f1_ f2_ f3_; subst f4_; subst f5_))
    refine norm_ (a' := ?_) ?_ ?_
    rotate_left
    ·simp only [putAll, Act.put, List.setIfInBounds_toArray, List.set_cons_zero, List.set_cons_succ]
     rfl
    refine one_ (i := 7) (N := some 42) (bm 14 511) rfl rfl (one_of HT_.out (by kernel_rfl)) (by decide) (fun K hK => ?_)
    refine Kd.N_append_rows_step k41 (w0 := w) w.heap.size (by rfl) (.tmp 39) (.tmp 41) 25 41 (.agg #[(.int .i64 0), (.int .i64 0), (.int .i64 0), (.bool false), (.slice none 0 0)]) 56 rfl Try.underlying25 info41 rfl (by decide) (by omega) v336 t335 y338 _ _ _ (fun k_ => (P5_4_ k_ ∨ w.heap.size ≤ k_) ∧ some k_ ≠ (.slice Ao27 t329.length co27 : Value).ownBlock ∧ k_ ≠ gb326 ∧ k_ ≠ gb327 ∧ k_ ≠ gb328) (fun k_ => ((fun k_ => (P5_4_ k_ ∨ w.heap.size ≤ k_) ∧ some k_ ≠ (.slice Ao27 t329.length co27 : Value).ownBlock ∧ k_ ≠ gb326 ∧ k_ ≠ gb327 ∧ k_ ≠ gb328)) k_ ∧ some k_ ≠ (v336 : Value).ownBlock) rfl rfl ?aO ?aR (fun _ hk => hk) ?aF ?aB ?aS ?aL ?_
    (case aR => exact (by skip; exact Kd.N_F (Kd.N_mono (ok' := (fun k_ => ((fun k_ => (P5_4_ k_ ∨ w.heap.size ≤ k_) ∧ some k_ ≠ (.slice Ao27 t329.length co27 : Value).ownBlock ∧ k_ ≠ gb326 ∧ k_ ≠ gb327 ∧ k_ ≠ gb328)) k_ ∧ some k_ ≠ (v336 : Value).ownBlock)) (HO340.out) (fun k_ hk => ⟨⟨hk.1, ⟨hk.2.1, ⟨hk.2.2.2.1, ⟨hk.2.2.2.2.1, hk.2.2.2.2.2⟩⟩⟩⟩, hk.2.2.1⟩))))
    (case aB => exact hb_)
    (case aF => exact (fun k_ hk => ⟨(.inr (Nat.le_trans (b6_ hb_) hk)), Kd.fresh' (Kd.R_lt Z3) k_ hk, Kd.freshB (g := gb326) (o := .cells #[.int .i64 t333, .int .i64 t334] 24 (0, 0)) (bo_ BK326) k_ hk, Kd.freshB (g := gb327) (o := .cells #[.int .i64 a4_0, .int .i64 a4_1, .int .i64 a4_2, .int .i64 a4_3, .int .i64 a4_4, .int .i64 a4_5] 29 (0, 0)) (bo_ BK327) k_ hk, Kd.freshB (g := gb328) (o := .cells #[.int .i64 a5_0, .int .i64 a5_1, .int .i64 a5_2, .bool a5_3, .slice A5_4 l5_4.length c5_4] 41 (0, 0)) (bo_ BK328) k_ hk⟩))
    (case aO => exact (by (with_reducible repeat (first | apply Kd.N_alloc | apply Kd.N_drewN | apply Kd.N_drew)); exact Kd.N_mono HO337.out (fun _ hk => ⟨hk.1, ⟨hk.2.1, ⟨hk.2.2.2.1, ⟨hk.2.2.2.2.1, hk.2.2.2.2.2⟩⟩⟩⟩)))
    (case aS => exact (b6_ hb_))
    (case aL => have := LMc12.out; omega)
    intro v342 w34 ho hb hg hat
    rw [← Ny341.out] at ho
    have HO343 := m_ (ho)
    replace HO5_4 := m_ (Kd.V_afterv (ok := (fun k_ => (P5_4_ k_ ∨ w.heap.size ≤ k_) ∧ some k_ ≠ (.slice Ao27 t329.length co27 : Value).ownBlock ∧ some k_ ≠ (.slice Ao35 y338.length co35 : Value).ownBlock ∧ k_ ≠ gb326 ∧ k_ ≠ gb327 ∧ k_ ≠ gb328)) (by (with_reducible repeat (first | apply Kd.V_alloc | apply Kd.V_drewN | apply Kd.V_drew)); exact Kd.V_mono HO5_4.out (fun _ hk => ⟨⟨hk.1, ⟨hk.2.1, ⟨hk.2.2.2.1, ⟨hk.2.2.2.2.1, ⟨hk.2.2.2.2.2.1, hk.2.2.2.2.2.2⟩⟩⟩⟩⟩, hk.2.2.1⟩)) hg hat)
    replace BK326 := m_ (d7_ (g := gb326) (o := .cells #[.int .i64 t333, .int .i64 t334] 24 (0, 0)) (bo_ BK326) hg (Kd.N_ne HO337.out BK326.out (by decide)))
    replace BK327 := m_ (d7_ (g := gb327) (o := .cells #[.int .i64 a4_0, .int .i64 a4_1, .int .i64 a4_2, .int .i64 a4_3, .int .i64 a4_4, .int .i64 a4_5] 29 (0, 0)) (bo_ BK327) hg (Kd.N_ne HO337.out BK327.out (by decide)))
    replace BK328 := m_ (d7_ (g := gb328) (o := .cells #[.int .i64 a5_0, .int .i64 a5_1, .int .i64 a5_2, .bool a5_3, .slice A5_4 l5_4.length c5_4] 41 (0, 0)) (bo_ BK328) hg (Kd.N_away HO337.out (fun _ hk => hk.2.2.2.2.2)))
    replace HO332 := m_ (Kd.R_over' Z3 (Kd.N_typed Z18) (by decide) hg)
    replace HO340 := m_ (Kd.N_afterv (ok := (fun k_ => (P5_4_ k_ ∨ w.heap.size ≤ k_) ∧ some k_ ≠ (.slice Ao27 t329.length co27 : Value).ownBlock ∧ k_ ≠ gb326 ∧ k_ ≠ gb327 ∧ k_ ≠ gb328)) (by (with_reducible repeat (first | apply Kd.N_alloc | apply Kd.N_drewN | apply Kd.N_drew)); exact Kd.N_mono HO340.out (fun _ hk => ⟨⟨hk.1, ⟨hk.2.1, ⟨hk.2.2.2.1, ⟨hk.2.2.2.2.1, hk.2.2.2.2.2⟩⟩⟩⟩, hk.2.2.1⟩)) hg hat)
    replace HB := m_ (hb)
    clear HO337
    clear ho hb hg hat
    obtain ⟨Ao36, co36, eo36⟩ := Kd.N_slice HO343.out
    (first | subst eo36 | (injection eo36 with f1_ f2_ f3_; have f4_ := f1_.symm; have f5_ := f3_.symm; clear f1_ f2_ f3_; subst f4_; subst f5_))
    refine hK.out _ _ kc_ (fun hHeld => ?_)
    clear hK K
    refine norm_ (a' := ?_) ?_ ?_
    rotate_left
    ·show Act.put _ (some 42) _ = _
     simp only [Act.put, List.setIfInBounds_toArray, List.set_cons_zero, List.set_cons_succ, i64_w, i32_w]
     rfl
    refine one_ (i := 9) (N := some 44) (bm 14 1023) rfl rfl (one_of HT_.out (by kernel_rfl)) (by decide) (fun K hK => ?_)
    refine goes_ Try.func27 (by kernel_rfl) rfl #[.int .i64 a0, .slice Ao27 t329.length co27, .agg #[.int .i64 t333, .int .i64 t334], .slice Ao36 y341.length co36, .agg #[.int .i64 a4_0, .int .i64 a4_1, .int .i64 a4_2, .int .i64 a4_3, .int .i64 a4_4, .int .i64 a4_5]] (by rfl) rfl rfl Z0 ?_
    with_reducible refine (promise_Earliest.calls a0 _ _ t329 t333 t334 _ _ y341 a4_0 a4_1 a4_2 a4_3 a4_4 a4_5 t344 t345 _ ?side1 ?side2 ?side3 ?side4 A13.out).mono ?_
    (case side1 => repeat (first | exact (Kd.R_reads' HO332.out).2.2 | (with_reducible refine Kd.C_alloc ?_ _) | (with_reducible refine Kd.C_drewN ?_ _) | (with_reducible refine Kd.C_drew ?_)))
    (case side2 => exact (Kd.R_reads' HO332.out).2.1)
    (case side3 => repeat (first | exact (Kd.N_reads' HO343.out).2.2 | (with_reducible refine Kd.C_alloc ?_ _) | (with_reducible refine Kd.C_drewN ?_ _) | (with_reducible refine Kd.C_drew ?_)))
    (case side4 => exact (Kd.N_reads' HO343.out).2.1)
    rintro e w37 ⟨rfl, hb⟩
    refine ⟨_, rfl, ?_⟩
    replace HO5_4 := m_ (Kd.V_below Z4 hb)
    replace HO332 := m_ (Kd.R_below Z3 hb)
    replace HO340 := m_ (Kd.N_below Z17 hb)
    replace HO343 := m_ (Kd.N_below (by (with_reducible repeat (first | apply Kd.N_alloc | apply Kd.N_drewN | apply Kd.N_drew)); exact HO343.out) hb)
    replace BK326 := bk_ BK326 hb
    replace BK327 := bk_ BK327 hb
    replace BK328 := bk_ BK328 hb
    replace HB := hs_ hb
    (try clear hb)
    (try clear hb2)
    (try clear hk)
    (try clear hi)
    refine hK.out _ _ kc_ (fun hHeld => ?_)
    clear hK K
    refine norm_ (a' := ?_) ?_ ?_
    rotate_left
    ·show Act.put _ (some 44) _ = _
     simp only [Act.put, List.setIfInBounds_toArray, List.set_cons_zero, List.set_cons_succ, i64_w, i32_w]
     rfl
    refine pu 10 (some 45) (bm 14 2047) ?_
    refine pu 11 (some 46) (bm 14 4095) ?_
    refine pu 12 (some 12) (bm 14 8191) ?_
    refine pu 13 (some 13) (bm 14 16383) ?_
    refine done_ (done_of HT_.out (by kernel_rfl)) ?_
    try go_wp2
    go_ret2
    exact ⟨by first | rfl | (simp [b1_, b0_] <;> rfl) | (simp [*, b1_, b0_] <;> rfl), hb_⟩
   ·rw [if_neg c12] at H
    exact absurd H (by simp)
  ·rw [if_neg c9] at H
   have c9b0 : (a5_1 == a4_0) = false := beq_eq_false_iff_ne.mpr c9
   have c9b1 : (a5_1 != a4_0) = true := bne_iff_ne.mpr c9
   replace H := Option.bind_eq_some_iff.mp H
   obtain ⟨t346, A380, H⟩ := H
   replace H : ((some (([(⟨a5_0, a5_1, a5_2, a5_3, l5_4⟩ : S41)] : List (S41)) : List (S41))).bind fun y349 => (if t346.length + y349.length < 2513169434916 then ((promise_Earliest.f a0 t329 a2_0 a2_1 (t346 ++ y349) a4_0 a4_1 a4_2 a4_3 a4_4 a4_5).bind fun bt355 => (some (bt355.1, bt355.2))) else (none))) = some (r1, r2) := H
   have A38 := m_ A380
   clear A380
   obtain ⟨y349, hy349⟩ : ∃ y_ : List (S41), y_ = (([(⟨a5_0, a5_1, a5_2, a5_3, l5_4⟩ : S41)] : List (S41))) := ⟨_, rfl⟩
   replace H : (if t346.length + y349.length < 2513169434916 then ((promise_Earliest.f a0 t329 a2_0 a2_1 (t346 ++ y349) a4_0 a4_1 a4_2 a4_3 a4_4 a4_5).bind fun bt355 => (some (bt355.1, bt355.2))) else (none)) = some (r1, r2) := by first | (rw [hy349]; with_reducible exact H) | (have H2_ := (Option.bind_some _ _).symm.trans H; rw [hy349]; with_reducible exact H2_) | (have H2_ := (Option.bind_some _ _).symm.trans H; with_reducible exact H2_) | with_reducible exact H | (rw [hy349]; exact H) | exact H
   have Ny349 := m_ hy349
   clear hy349
   by_cases c39 : t346.length + y349.length < 2513169434916
   ·rw [if_pos c39] at H
    have LMc39 := m_ c39
    clear c39
    obtain ⟨y352, hy352⟩ : ∃ y_ : List (S41), y_ = (t346 ++ y349) := ⟨_, rfl⟩
    replace H : ((promise_Earliest.f a0 t329 a2_0 a2_1 y352 a4_0 a4_1 a4_2 a4_3 a4_4 a4_5).bind fun bt355 => (some (bt355.1, bt355.2))) = some (r1, r2) := by first | (rw [hy352]; with_reducible exact H) | (have H2_ := (Option.bind_some _ _).symm.trans H; rw [hy352]; with_reducible exact H2_) | (have H2_ := (Option.bind_some _ _).symm.trans H; with_reducible exact H2_) | with_reducible exact H | (rw [hy352]; exact H) | exact H
    have Ny352 := m_ hy352
    clear hy352
    replace H := Option.bind_eq_some_iff.mp H
    obtain ⟨⟨t355, t356⟩, A400, H⟩ := H
    replace H : (some (t355, t356)) = some (r1, r2) := H
    have A40 := m_ A400
    clear A400
    simp only [Option.some.injEq, Prod.mk.injEq] at H
    obtain ⟨rfl, rfl⟩ := H
    go_enter Try.func39, Try.ntmps39
    try go_wp2_with (first | ((with_reducible refine a3_ (N := 8) rfl ?_); refine bx 8 #[.int .i64 a2_0, .int .i64 a2_1] 24 ?_; intro gb326 hg w41 hbox hb; have BK326 := m_ (hbox); have GW326 := ge_ hg; have GE326 := ge_ hg; replace HO5_4 := m_ (Kd.V_below (Kd.V_elderB Z4 gb326 (Nat.le_of_eq hg.symm)) hb); replace HB := hs_ hb; clear hb hbox hg) | ((with_reducible refine a3_ (N := 10) rfl ?_); refine bx 10 #[.int .i64 a4_0, .int .i64 a4_1, .int .i64 a4_2, .int .i64 a4_3, .int .i64 a4_4, .int .i64 a4_5] 29 ?_; intro gb327 hg w42 hbox hb; have BK327 := m_ (hbox); have GW327 := ge_ hg; have GE327 := ge_ hg; have NB326_327 := nl_ BK326 hg; have NB327_326 := nr_ BK326 hg; replace HO5_4 := m_ (Kd.V_below (Kd.V_elderB Z4 gb327 (Nat.le_of_eq hg.symm)) hb); replace BK326 := bk_ BK326 hb; replace HB := hs_ hb; clear hb hbox hg) | ((with_reducible refine a3_ (N := 11) rfl ?_); refine bx 11 #[.int .i64 a5_0, .int .i64 a5_1, .int .i64 a5_2, .bool a5_3, .slice A5_4 l5_4.length c5_4] 41 ?_; intro gb328 hg w43 hbox hb; have BK328 := m_ (hbox); have GW328 := ge_ hg; have GE328 := ge_ hg; have NB326_328 := nl_ BK326 hg; have NB328_326 := nr_ BK326 hg; have NB327_328 := nl_ BK327 hg; have NB328_327 := nr_ BK327 hg; replace HO5_4 := m_ (Kd.V_below (Kd.V_elderB Z4 gb328 (Nat.le_of_eq hg.symm)) hb); replace BK326 := bk_ BK326 hb; replace BK327 := bk_ BK327 hb; replace HB := hs_ hb; clear hb hbox hg; have hnb44 := NB328_326.out; have hnc44 := NB326_328.out; have hnb45 := NB328_327.out; have hnc45 := NB327_328.out; obtain ⟨hcz46_0, hcz46_1, hcz46_2, hcz46_3, hcz46_4, hfz46_0, hfz46_1, hfz46_2, hfz46_3, hfz46_4⟩ := bz5_ BK328) | ((with_reducible refine b2_ (f := 51) rfl ?_); refine goesL_ (some 20) rfl rfl Try.func51 (by kernel_rfl) rfl #[.slice A1 l1.length c1, .slice A5_4 l5_4.length c5_4] rfl Z0 ?_; (with_reducible refine (pack_Less.calls _ _ l1 _ _ l5_4 t329 t330 _ ?side1 ?side2 ?side3 ?side4 A7.out).mono ?_); (case side1 => exact cs_ HR1); (case side2 => exact HC1.out); (case side3 => repeat (first | exact (Kd.V_reads' HO5_4.out).2.2 | (with_reducible refine Kd.C_alloc ?_ _) | (with_reducible refine Kd.C_drewN ?_ _) | (with_reducible refine Kd.C_drew ?_))); (case side4 => exact (Kd.V_reads' HO5_4.out).2.1); rintro e w47 ⟨v331, rfl, ho0, hb⟩; refine ⟨_, rfl, ?_⟩; have HO332 := m_ (Kd.R_lower (Kd.R_newM (M := fun k_ => (w.heap.size ≤ k_)) ho0 (b6_ hb_) (fun k_ h_ => h_)) (b6_ hb_)); replace HO5_4 := m_ (Kd.V_elder' Z4 (Kd.R_base ho0) hb); replace BK326 := bk_ BK326 hb; replace BK327 := bk_ BK327 hb; replace BK328 := bk_ BK328 hb; replace HB := hs_ hb; (try clear hb); (try clear hb2); (try clear hk); (try clear hi); (try clear ho0); obtain ⟨hcz48_0, hcz48_1, hcz48_2, hcz48_3, hcz48_4, hfz48_0, hfz48_1, hfz48_2, hfz48_3, hfz48_4⟩ := bz5_ BK328; have hnb49 := NB327_326.out; have hnc49 := NB326_327.out; obtain ⟨hcz50_0, hcz50_1, hcz50_2, hcz50_3, hcz50_4, hcz50_5, hfz50_0, hfz50_1, hfz50_2, hfz50_3, hfz50_4, hfz50_5⟩ := bz6_ BK327; obtain ⟨Ao51, co51, eo51⟩ := Kd.R_slice HO332.out; subst eo51))
    replace HO5_4 := m_ (Kd.V_drew HO5_4.out)
    replace HO332 := m_ (Kd.R_drew HO332.out)
    replace BK326 := m_ (d5_ BK326.out)
    replace BK327 := m_ (d5_ BK327.out)
    replace BK328 := m_ (d5_ BK328.out)
    replace HB := m_ (b7_ HB.out)
    refine start_ (n := 14) (S := fun w' => w'.cell? ⟨gb326, 0, none⟩ = some (.int .i64 a2_0) ∧ w'.cell? ⟨gb326, 1, none⟩ = some (.int .i64 a2_1) ∧ w'.cell? ⟨gb328, 0, none⟩ = some (.int .i64 a5_0) ∧ w'.cell? ⟨gb328, 1, none⟩ = some (.int .i64 a5_1) ∧ w'.cell? ⟨gb328, 2, none⟩ = some (.int .i64 a5_2) ∧ w'.cell? ⟨gb328, 3, none⟩ = some (.bool a5_3) ∧ w'.cell? ⟨gb328, 4, none⟩ = some (.slice A5_4 l5_4.length c5_4) ∧ w'.cell? ⟨gb327, 0, none⟩ = some (.int .i64 a4_0) ∧ w'.cell? ⟨gb327, 1, none⟩ = some (.int .i64 a4_1) ∧ w'.cell? ⟨gb327, 2, none⟩ = some (.int .i64 a4_2) ∧ w'.cell? ⟨gb327, 3, none⟩ = some (.int .i64 a4_3) ∧ w'.cell? ⟨gb327, 4, none⟩ = some (.int .i64 a4_4) ∧ w'.cell? ⟨gb327, 5, none⟩ = some (.int .i64 a4_5)) (ds := []) (bm 14 0) (by kernel_rfl) rfl rfl ⟨(a0_ BK326.out 0).trans rfl, (a0_ BK326.out 1).trans rfl, (a0_ BK328.out 0).trans rfl, (a0_ BK328.out 1).trans rfl, (a0_ BK328.out 2).trans rfl, (a0_ BK328.out 3).trans rfl, (a0_ BK328.out 4).trans rfl, (a0_ BK327.out 0).trans rfl, (a0_ BK327.out 1).trans rfl, (a0_ BK327.out 2).trans rfl, (a0_ BK327.out 3).trans rfl, (a0_ BK327.out 4).trans rfl, (a0_ BK327.out 5).trans rfl⟩ (fun hHeld => ?_); refine with_tabW fill_After.tab6 fill_After.bits6 (fun HT_ HW_ => ?_)
    generalize w47.drew = w52 at HO5_4 HO332 BK326 BK327 BK328 HB hHeld ⊢
    refine pu 0 (some 35) (bm 14 1) ?_
    refine pu 1 (some 36) (bm 14 3) ?_
    refine pu 3 (some 38) (bm 14 11) ?_
    refine tk 2 (some 37) (bm 14 15) ?_
    refine tk 5 (some 40) (bm 14 47) ?_
    refine tk 8 (some 43) (bm 14 303) ?_
    refine join_ (σ := Value × Value) 6 (bm 14 383) (fun s_ => [(39, s_.1), (41, s_.2)]) (fun s_ w' => (w'.cell? ⟨gb326, 0, none⟩ = some (.int .i64 a2_0) ∧ w'.cell? ⟨gb326, 1, none⟩ = some (.int .i64 a2_1) ∧ w'.cell? ⟨gb328, 0, none⟩ = some (.int .i64 a5_0) ∧ w'.cell? ⟨gb328, 1, none⟩ = some (.int .i64 a5_1) ∧ w'.cell? ⟨gb328, 2, none⟩ = some (.int .i64 a5_2) ∧ w'.cell? ⟨gb328, 3, none⟩ = some (.bool a5_3) ∧ w'.cell? ⟨gb328, 4, none⟩ = some (.slice A5_4 l5_4.length c5_4) ∧ w'.cell? ⟨gb327, 0, none⟩ = some (.int .i64 a4_0) ∧ w'.cell? ⟨gb327, 1, none⟩ = some (.int .i64 a4_1) ∧ w'.cell? ⟨gb327, 2, none⟩ = some (.int .i64 a4_2) ∧ w'.cell? ⟨gb327, 3, none⟩ = some (.int .i64 a4_3) ∧ w'.cell? ⟨gb327, 4, none⟩ = some (.int .i64 a4_4) ∧ w'.cell? ⟨gb327, 5, none⟩ = some (.int .i64 a4_5)) ∧ (Kd.R k51 51 w' w.heap.size (fun k_ => (w.heap.size ≤ k_)) (.slice Ao51 t329.length co51) t329) ∧ (Kd.N k41 41 w' w.heap.size (fun k_ => (P5_4_ k_ ∨ w.heap.size ≤ k_) ∧ some k_ ≠ (.slice Ao51 t329.length co51 : Value).ownBlock ∧ some k_ ≠ (s_.2 : Value).ownBlock ∧ k_ ≠ gb326 ∧ k_ ≠ gb327 ∧ k_ ≠ gb328) s_.1 t346) ∧ (Kd.N k41 41 w' w.heap.size (fun k_ => (P5_4_ k_ ∨ w.heap.size ≤ k_) ∧ some k_ ≠ (.slice Ao51 t329.length co51 : Value).ownBlock ∧ some k_ ≠ (s_.1 : Value).ownBlock ∧ k_ ≠ gb326 ∧ k_ ≠ gb327 ∧ k_ ≠ gb328) s_.2 y349) ∧ (Kd.V k52 52 w' w.heap.size (fun k_ => (P5_4_ k_ ∨ w.heap.size ≤ k_) ∧ some k_ ≠ (.slice Ao51 t329.length co51 : Value).ownBlock ∧ some k_ ≠ (s_.1 : Value).ownBlock ∧ some k_ ≠ (s_.2 : Value).ownBlock ∧ k_ ≠ gb326 ∧ k_ ≠ gb327 ∧ k_ ≠ gb328) (.slice A5_4 l5_4.length c5_4) l5_4) ∧ (w'.heap[gb326]? = some (.cells #[.int .i64 a2_0, .int .i64 a2_1] 24 (0, 0))) ∧ (w'.heap[gb327]? = some (.cells #[.int .i64 a4_0, .int .i64 a4_1, .int .i64 a4_2, .int .i64 a4_3, .int .i64 a4_4, .int .i64 a4_5] 29 (0, 0))) ∧ (w'.heap[gb328]? = some (.cells #[.int .i64 a5_0, .int .i64 a5_1, .int .i64 a5_2, .bool a5_3, .slice A5_4 l5_4.length c5_4] 41 (0, 0))) ∧ (Below w.heap.size w w')) ?_ ?_
    rotate_left
    ·intro hCont
     refine two_ (i := 4) (j := 6) (Ni := some 39) (Nj := some 41) (bm 14 319) (bm 14 367) rfl rfl rfl rfl (two_of HT_.out (by kernel_rfl)) (by decide) (by decide) (fun K hK => ?_) (fun K hK => ?_)
     ·skip
      refine goes_ Try.func70 (by kernel_rfl) rfl #[.slice A3 l3.length c3] (by rfl) rfl rfl Z0 ?_
      with_reducible refine (api_Hold.callsF (fun k => k < w.heap.size) _ _ l3 t346 _ ?side1 ?side2 A38.out).mono ?_
      (case side1 => exact Foot.step (Kd.C_F k41_heap HR3.out) (fun k hk _ => (show Below w.heap.size w _ from hb_).block k hk))
      (case side2 => exact fun k hk => Nat.lt_of_lt_of_le hk (b6_ hb_))
      rintro e w53 ⟨v347, rfl, ho0, hb⟩
      refine ⟨_, rfl, ?_⟩
      have HO348 := m_ (Kd.N_lower (Kd.N_mono (ok' := fun k_ => (P5_4_ k_ ∨ w.heap.size ≤ k_) ∧ some k_ ≠ (.slice Ao51 t329.length co51 : Value).ownBlock ∧ k_ ≠ gb326 ∧ k_ ≠ gb327 ∧ k_ ≠ gb328) ho0 (fun k_ hk_ => hk_.elim (fun h_ => ⟨.inl (HP5.out k_), (fun e_ => by have := Kd.R_base HO332.out k_ e_.symm; omega), (by have := GE326.out; omega), (by have := GE327.out; omega), (by have := GE328.out; omega)⟩) (fun h_ => ⟨(.inr (Nat.le_trans (b6_ hb_) h_)), (Kd.fresh' (Kd.R_lt Z3) k_ h_), (Kd.freshB (g := gb326) (o := .cells #[.int .i64 a2_0, .int .i64 a2_1] 24 (0, 0)) (bo_ BK326) k_ h_), (Kd.freshB (g := gb327) (o := .cells #[.int .i64 a4_0, .int .i64 a4_1, .int .i64 a4_2, .int .i64 a4_3, .int .i64 a4_4, .int .i64 a4_5] 29 (0, 0)) (bo_ BK327) k_ h_), (Kd.freshB (g := gb328) (o := .cells #[.int .i64 a5_0, .int .i64 a5_1, .int .i64 a5_2, .bool a5_3, .slice A5_4 l5_4.length c5_4] 41 (0, 0)) (bo_ BK328) k_ h_)⟩))) (b6_ hb_))
      replace HO5_4 := m_ (Kd.V_elder' Z4 (Kd.N_base ho0) hb)
      replace HO332 := m_ (Kd.R_below Z3 hb)
      replace BK326 := bk_ BK326 hb
      replace BK327 := bk_ BK327 hb
      replace BK328 := bk_ BK328 hb
      replace HB := hs_ hb
      (try clear hb)
      (try clear hb2)
      (try clear hk)
      (try clear hi)
      (try clear ho0)
      refine hK.out _ _ kc_ (fun hHeld => ?_)
      clear hK K
      refine norm_ (a' := ?_) ?_ ?_
      rotate_left
      ·show Act.put _ (some 39) _ = _
       simp only [Act.put, List.setIfInBounds_toArray, List.set_cons_zero, List.set_cons_succ, i64_w, i32_w]
       rfl
      refine one_ (i := 6) (N := some 41) (bm 14 383) rfl rfl (one_of HT_.out (by kernel_rfl)) (by decide) (fun K hK => ?_)
      refine Kd.N_lit_step k41 _ 41 ?hg (N' := 41) ?hd (xs := ([(⟨a5_0, a5_1, a5_2, a5_3, l5_4⟩ : S41)] : List (S41))) (inner := [.int .i64 a5_0, .int .i64 a5_1, .int .i64 a5_2, .bool a5_3, .slice A5_4 l5_4.length c5_4]) (ok := (fun k_ => (P5_4_ k_ ∨ w.heap.size ≤ k_) ∧ some k_ ≠ (.slice Ao51 t329.length co51 : Value).ownBlock ∧ some k_ ≠ (v347 : Value).ownBlock ∧ k_ ≠ gb326 ∧ k_ ≠ gb327 ∧ k_ ≠ gb328)) (okp := (fun k_ => (P5_4_ k_ ∨ w.heap.size ≤ k_) ∧ some k_ ≠ (.slice Ao51 t329.length co51 : Value).ownBlock ∧ some k_ ≠ (v347 : Value).ownBlock ∧ k_ ≠ gb326 ∧ k_ ≠ gb327 ∧ k_ ≠ gb328)) ?hr ?hp (fun _ hk => hk) ((show ∀ k_, w53.heap.size ≤ k_ → (fun k_ => (P5_4_ k_ ∨ w.heap.size ≤ k_) ∧ some k_ ≠ (.slice Ao51 t329.length co51 : Value).ownBlock ∧ some k_ ≠ (v347 : Value).ownBlock ∧ k_ ≠ gb326 ∧ k_ ≠ gb327 ∧ k_ ≠ gb328) k_ from fun k_ hk => ⟨(.inr (Nat.le_trans (b6_ hb_) hk)), Kd.fresh' (Kd.R_lt Z3) k_ hk, Kd.fresh' (Kd.N_lt Z16) k_ hk, Kd.freshB (g := gb326) (o := .cells #[.int .i64 a2_0, .int .i64 a2_1] 24 (0, 0)) (bo_ BK326) k_ hk, Kd.freshB (g := gb327) (o := .cells #[.int .i64 a4_0, .int .i64 a4_1, .int .i64 a4_2, .int .i64 a4_3, .int .i64 a4_4, .int .i64 a4_5] 29 (0, 0)) (bo_ BK327) k_ hk, Kd.freshB (g := gb328) (o := .cells #[.int .i64 a5_0, .int .i64 a5_1, .int .i64 a5_2, .bool a5_3, .slice A5_4 l5_4.length c5_4] 41 (0, 0)) (bo_ BK328) k_ hk⟩) _ (Nat.le_refl _)) (Below.refl _ _) (Nat.le_refl _) (by simp) ?_; (case hd => rfl); (case hg => rfl); (case hr => first | (go_simp; done) | (go_simp; rfl)); (case hp => exact (Reps.c5 (show Kd.FK k41 _ _ (⟨a5_0, a5_1, a5_2, a5_3, l5_4⟩ : S41) [.int .i64 a5_0, .int .i64 a5_1, .int .i64 a5_2, .bool a5_3, .slice A5_4 l5_4.length c5_4] from (k41_mkF _ _ (⟨a5_0, a5_1, a5_2, a5_3, l5_4⟩ : S41) (Kd.V_reads' (Kd.V_mono (ok' := (fun k_ => (P5_4_ k_ ∨ w.heap.size ≤ k_) ∧ some k_ ≠ (.slice Ao51 t329.length co51 : Value).ownBlock ∧ some k_ ≠ (v347 : Value).ownBlock ∧ k_ ≠ gb326 ∧ k_ ≠ gb327 ∧ k_ ≠ gb328)) (HO5_4.out) (fun k_ hk => ⟨hk.1.1.1.1.1, ⟨hk.1.2, ⟨hk.2, ⟨hk.1.1.1.1.2, ⟨hk.1.1.1.2, hk.1.1.2⟩⟩⟩⟩⟩))).2.1 (Kd.V_F (Kd.V_mono (ok' := (fun k_ => (P5_4_ k_ ∨ w.heap.size ≤ k_) ∧ some k_ ≠ (.slice Ao51 t329.length co51 : Value).ownBlock ∧ some k_ ≠ (v347 : Value).ownBlock ∧ k_ ≠ gb326 ∧ k_ ≠ gb327 ∧ k_ ≠ gb328)) (HO5_4.out) (fun k_ hk => ⟨hk.1.1.1.1.1, ⟨hk.1.2, ⟨hk.2, ⟨hk.1.1.1.1.2, ⟨hk.1.1.1.2, hk.1.1.2⟩⟩⟩⟩⟩))))) (Reps.none _ _)))
      intro v350 w54 ho55 hb hg_ hnew_
      clear hg_ hnew_
      (first | rw [← Ny349.out] at ho55 | (simp only [Int.reduceToNat] at ho55; rw [← Ny349.out] at ho55))
      have HO351 := m_ (Kd.N_lower ho55 (b6_ hb_))
      replace HO5_4 := m_ (Kd.V_elder' Z4 (Kd.N_base ho55) hb)
      replace HO332 := m_ (Kd.R_below Z3 hb)
      replace HO348 := m_ (Kd.N_elder' Z16 (Kd.N_base ho55) hb)
      replace BK326 := bk_ BK326 hb
      replace BK327 := bk_ BK327 hb
      replace BK328 := bk_ BK328 hb
      replace HB := hs_ hb
      clear hb ho55
      refine hK.out _ _ kc_ (fun hHeld => ?_)
      clear hK K
      refine norm_ (a' := ?_) ?_ ?_
      rotate_left
      ·show Act.put _ (some 41) _ = _
       simp only [Act.put, List.setIfInBounds_toArray, List.set_cons_zero, List.set_cons_succ, i64_w, i32_w]
       rfl
      exact norm_ Z19 (hCont (v347, v350) _ ⟨hHeld, (by (with_reducible repeat (first | apply Kd.R_alloc | apply Kd.R_drewN | apply Kd.R_drew)); exact Kd.R_mono HO332.out (fun _ hk => hk.1)), (by (with_reducible repeat (first | apply Kd.N_alloc | apply Kd.N_drewN | apply Kd.N_drew)); exact Kd.N_mono HO348.out (fun _ hk => ⟨hk.1.1, ⟨hk.1.2.1, ⟨hk.2, ⟨hk.1.2.2.1, ⟨hk.1.2.2.2.1, hk.1.2.2.2.2⟩⟩⟩⟩⟩)), Z15, (by (with_reducible repeat (first | apply Kd.V_alloc | apply Kd.V_drewN | apply Kd.V_drew)); exact Kd.V_mono HO5_4.out (fun _ hk => ⟨hk.1.1.1.1.1.1, ⟨hk.1.1.2, ⟨hk.1.2, ⟨hk.2, ⟨hk.1.1.1.1.1.2, ⟨hk.1.1.1.1.2, hk.1.1.1.2⟩⟩⟩⟩⟩⟩)), (bo_ BK326), (bo_ BK327), (bo_ BK328), hb_⟩)
     ·skip
      refine Kd.N_lit_step k41 _ 41 ?hg (N' := 41) ?hd (xs := ([(⟨a5_0, a5_1, a5_2, a5_3, l5_4⟩ : S41)] : List (S41))) (inner := [.int .i64 a5_0, .int .i64 a5_1, .int .i64 a5_2, .bool a5_3, .slice A5_4 l5_4.length c5_4]) (ok := (fun k_ => (P5_4_ k_ ∨ w.heap.size ≤ k_) ∧ some k_ ≠ (.slice Ao51 t329.length co51 : Value).ownBlock ∧ k_ ≠ gb326 ∧ k_ ≠ gb327 ∧ k_ ≠ gb328)) (okp := (fun k_ => (P5_4_ k_ ∨ w.heap.size ≤ k_) ∧ some k_ ≠ (.slice Ao51 t329.length co51 : Value).ownBlock ∧ k_ ≠ gb326 ∧ k_ ≠ gb327 ∧ k_ ≠ gb328)) ?hr ?hp (fun _ hk => hk) ((show ∀ k_, w52.heap.size ≤ k_ → (fun k_ => (P5_4_ k_ ∨ w.heap.size ≤ k_) ∧ some k_ ≠ (.slice Ao51 t329.length co51 : Value).ownBlock ∧ k_ ≠ gb326 ∧ k_ ≠ gb327 ∧ k_ ≠ gb328) k_ from fun k_ hk => ⟨(.inr (Nat.le_trans (b6_ hb_) hk)), Kd.fresh' (Kd.R_lt Z3) k_ hk, Kd.freshB (g := gb326) (o := .cells #[.int .i64 a2_0, .int .i64 a2_1] 24 (0, 0)) (bo_ BK326) k_ hk, Kd.freshB (g := gb327) (o := .cells #[.int .i64 a4_0, .int .i64 a4_1, .int .i64 a4_2, .int .i64 a4_3, .int .i64 a4_4, .int .i64 a4_5] 29 (0, 0)) (bo_ BK327) k_ hk, Kd.freshB (g := gb328) (o := .cells #[.int .i64 a5_0, .int .i64 a5_1, .int .i64 a5_2, .bool a5_3, .slice A5_4 l5_4.length c5_4] 41 (0, 0)) (bo_ BK328) k_ hk⟩) _ (Nat.le_refl _)) (Below.refl _ _) (Nat.le_refl _) (by simp) ?_; (case hd => rfl); (case hg => rfl); (case hr => first | (go_simp; done) | (go_simp; rfl)); (case hp => exact (Reps.c5 (show Kd.FK k41 _ _ (⟨a5_0, a5_1, a5_2, a5_3, l5_4⟩ : S41) [.int .i64 a5_0, .int .i64 a5_1, .int .i64 a5_2, .bool a5_3, .slice A5_4 l5_4.length c5_4] from (k41_mkF _ _ (⟨a5_0, a5_1, a5_2, a5_3, l5_4⟩ : S41) (Kd.V_reads' (Kd.V_mono (ok' := (fun k_ => (P5_4_ k_ ∨ w.heap.size ≤ k_) ∧ some k_ ≠ (.slice Ao51 t329.length co51 : Value).ownBlock ∧ k_ ≠ gb326 ∧ k_ ≠ gb327 ∧ k_ ≠ gb328)) (HO5_4.out) (fun k_ hk => ⟨hk.1.1.1.1, ⟨hk.2, ⟨hk.1.1.1.2, ⟨hk.1.1.2, hk.1.2⟩⟩⟩⟩))).2.1 (Kd.V_F (Kd.V_mono (ok' := (fun k_ => (P5_4_ k_ ∨ w.heap.size ≤ k_) ∧ some k_ ≠ (.slice Ao51 t329.length co51 : Value).ownBlock ∧ k_ ≠ gb326 ∧ k_ ≠ gb327 ∧ k_ ≠ gb328)) (HO5_4.out) (fun k_ hk => ⟨hk.1.1.1.1, ⟨hk.2, ⟨hk.1.1.1.2, ⟨hk.1.1.2, hk.1.2⟩⟩⟩⟩))))) (Reps.none _ _)))
      intro v350 w53 ho54 hb hg_ hnew_
      clear hg_ hnew_
      (first | rw [← Ny349.out] at ho54 | (simp only [Int.reduceToNat] at ho54; rw [← Ny349.out] at ho54))
      have HO351 := m_ (Kd.N_lower ho54 (b6_ hb_))
      replace HO5_4 := m_ (Kd.V_elder' Z4 (Kd.N_base ho54) hb)
      replace HO332 := m_ (Kd.R_below Z3 hb)
      replace BK326 := bk_ BK326 hb
      replace BK327 := bk_ BK327 hb
      replace BK328 := bk_ BK328 hb
      replace HB := hs_ hb
      clear hb ho54
      refine hK.out _ _ kc_ (fun hHeld => ?_)
      clear hK K
      refine norm_ (a' := ?_) ?_ ?_
      rotate_left
      ·show Act.put _ (some 41) _ = _
       simp only [Act.put, List.setIfInBounds_toArray, List.set_cons_zero, List.set_cons_succ, i64_w, i32_w]
       rfl
      refine one_ (i := 4) (N := some 39) (bm 14 383) rfl rfl (one_of HT_.out (by kernel_rfl)) (by decide) (fun K hK => ?_)
      refine goes_ Try.func70 (by kernel_rfl) rfl #[.slice A3 l3.length c3] (by rfl) rfl rfl Z0 ?_
      with_reducible refine (api_Hold.callsF (fun k => k < w.heap.size) _ _ l3 t346 _ ?side1 ?side2 A38.out).mono ?_
      (case side1 => exact Foot.step (Kd.C_F k41_heap HR3.out) (fun k hk _ => (show Below w.heap.size w _ from hb_).block k hk))
      (case side2 => exact fun k hk => Nat.lt_of_lt_of_le hk (b6_ hb_))
      rintro e w55 ⟨v347, rfl, ho0, hb⟩
      refine ⟨_, rfl, ?_⟩
      have HO348 := m_ (Kd.N_lower (Kd.N_mono (ok' := fun k_ => (P5_4_ k_ ∨ w.heap.size ≤ k_) ∧ some k_ ≠ (.slice Ao51 t329.length co51 : Value).ownBlock ∧ some k_ ≠ (v350 : Value).ownBlock ∧ k_ ≠ gb326 ∧ k_ ≠ gb327 ∧ k_ ≠ gb328) ho0 (fun k_ hk_ => hk_.elim (fun h_ => ⟨.inl (HP5.out k_), (fun e_ => by have := Kd.R_base HO332.out k_ e_.symm; omega), (fun e_ => by have := Kd.N_base HO351.out k_ e_.symm; omega), (by have := GE326.out; omega), (by have := GE327.out; omega), (by have := GE328.out; omega)⟩) (fun h_ => ⟨(.inr (Nat.le_trans (b6_ hb_) h_)), (Kd.fresh' (Kd.R_lt Z3) k_ h_), (Kd.fresh' (Kd.N_lt Z15) k_ h_), (Kd.freshB (g := gb326) (o := .cells #[.int .i64 a2_0, .int .i64 a2_1] 24 (0, 0)) (bo_ BK326) k_ h_), (Kd.freshB (g := gb327) (o := .cells #[.int .i64 a4_0, .int .i64 a4_1, .int .i64 a4_2, .int .i64 a4_3, .int .i64 a4_4, .int .i64 a4_5] 29 (0, 0)) (bo_ BK327) k_ h_), (Kd.freshB (g := gb328) (o := .cells #[.int .i64 a5_0, .int .i64 a5_1, .int .i64 a5_2, .bool a5_3, .slice A5_4 l5_4.length c5_4] 41 (0, 0)) (bo_ BK328) k_ h_)⟩))) (b6_ hb_))
      replace HO5_4 := m_ (Kd.V_elder' Z4 (Kd.N_base ho0) hb)
      replace HO332 := m_ (Kd.R_below Z3 hb)
      replace HO351 := m_ (Kd.N_elder' Z15 (Kd.N_base ho0) hb)
      replace BK326 := bk_ BK326 hb
      replace BK327 := bk_ BK327 hb
      replace BK328 := bk_ BK328 hb
      replace HB := hs_ hb
      (try clear hb)
      (try clear hb2)
      (try clear hk)
      (try clear hi)
      (try clear ho0)
      refine hK.out _ _ kc_ (fun hHeld => ?_)
      clear hK K
      refine norm_ (a' := ?_) ?_ ?_
      rotate_left
      ·show Act.put _ (some 39) _ = _
       simp only [Act.put, List.setIfInBounds_toArray, List.set_cons_zero, List.set_cons_succ, i64_w, i32_w]
       rfl
      exact norm_ Z19 (hCont (v347, v350) _ ⟨hHeld, (by (with_reducible repeat (first | apply Kd.R_alloc | apply Kd.R_drewN | apply Kd.R_drew)); exact Kd.R_mono HO332.out (fun _ hk => hk.1)), Z16, (by (with_reducible repeat (first | apply Kd.N_alloc | apply Kd.N_drewN | apply Kd.N_drew)); exact Kd.N_mono HO351.out (fun _ hk => ⟨hk.1.1, ⟨hk.1.2.1, ⟨hk.2, ⟨hk.1.2.2.1, ⟨hk.1.2.2.2.1, hk.1.2.2.2.2⟩⟩⟩⟩⟩)), (by (with_reducible repeat (first | apply Kd.V_alloc | apply Kd.V_drewN | apply Kd.V_drew)); exact Kd.V_mono HO5_4.out (fun _ hk => ⟨hk.1.1.1.1.1.1, ⟨hk.1.1.2, ⟨hk.2, ⟨hk.1.2, ⟨hk.1.1.1.1.1.2, ⟨hk.1.1.1.1.2, hk.1.1.1.2⟩⟩⟩⟩⟩⟩)), (bo_ BK326), (bo_ BK327), (bo_ BK328), hb_⟩)
    rintro ⟨v347, v350⟩ w56 ⟨hS_, h0_, h1_, h2_, h3_, h4_, h5_, h6_, h7_⟩
    have n0_ : A_ (Kd.R k51 51 w56 w.heap.size (fun k_ => (w.heap.size ≤ k_)) (.slice Ao51 t329.length co51) t329) := ⟨h0_⟩
    have n1_ : A_ (Kd.N k41 41 w56 w.heap.size (fun k_ => (P5_4_ k_ ∨ w.heap.size ≤ k_) ∧ some k_ ≠ (.slice Ao51 t329.length co51 : Value).ownBlock ∧ some k_ ≠ (v350 : Value).ownBlock ∧ k_ ≠ gb326 ∧ k_ ≠ gb327 ∧ k_ ≠ gb328) v347 t346) := ⟨h1_⟩
    have n2_ : A_ (Kd.N k41 41 w56 w.heap.size (fun k_ => (P5_4_ k_ ∨ w.heap.size ≤ k_) ∧ some k_ ≠ (.slice Ao51 t329.length co51 : Value).ownBlock ∧ some k_ ≠ (v347 : Value).ownBlock ∧ k_ ≠ gb326 ∧ k_ ≠ gb327 ∧ k_ ≠ gb328) v350 y349) := ⟨h2_⟩
    have n3_ : A_ (Kd.V k52 52 w56 w.heap.size (fun k_ => (P5_4_ k_ ∨ w.heap.size ≤ k_) ∧ some k_ ≠ (.slice Ao51 t329.length co51 : Value).ownBlock ∧ some k_ ≠ (v347 : Value).ownBlock ∧ some k_ ≠ (v350 : Value).ownBlock ∧ k_ ≠ gb326 ∧ k_ ≠ gb327 ∧ k_ ≠ gb328) (.slice A5_4 l5_4.length c5_4) l5_4) := ⟨h3_⟩
    have n4_ : A_ (w56.heap[gb326]? = some (.cells #[.int .i64 a2_0, .int .i64 a2_1] 24 (0, 0))) := ⟨h4_⟩
    have n5_ : A_ (w56.heap[gb327]? = some (.cells #[.int .i64 a4_0, .int .i64 a4_1, .int .i64 a4_2, .int .i64 a4_3, .int .i64 a4_4, .int .i64 a4_5] 29 (0, 0))) := ⟨h5_⟩
    have n6_ : A_ (w56.heap[gb328]? = some (.cells #[.int .i64 a5_0, .int .i64 a5_1, .int .i64 a5_2, .bool a5_3, .slice A5_4 l5_4.length c5_4] 41 (0, 0))) := ⟨h6_⟩
    have n7_ : A_ (Below w.heap.size w w56) := ⟨h7_⟩
    clear HO5_4
    clear HO332
    clear BK326
    clear BK327
    clear BK328
    clear HB
    clear h0_ h1_ h2_ h3_ h4_ h5_ h6_ h7_
    have HO332 := n0_
    have HO348 := n1_
    have HO351 := n2_
    have HO5_4 := n3_
    have BK326 := n4_
    have BK327 := n5_
    have BK328 := n6_
    have HB := n7_
    clear n0_ n1_ n2_ n3_ n4_ n5_ n6_ n7_
    have hHeld : w56.cell? ⟨gb326, 0, none⟩ = some (.int .i64 a2_0) ∧ w56.cell? ⟨gb326, 1, none⟩ = some (.int .i64 a2_1) ∧ w56.cell? ⟨gb328, 0, none⟩ = some (.int .i64 a5_0) ∧ w56.cell? ⟨gb328, 1, none⟩ = some (.int .i64 a5_1) ∧ w56.cell? ⟨gb328, 2, none⟩ = some (.int .i64 a5_2) ∧ w56.cell? ⟨gb328, 3, none⟩ = some (.bool a5_3) ∧ w56.cell? ⟨gb328, 4, none⟩ = some (.slice A5_4 l5_4.length c5_4) ∧ w56.cell? ⟨gb327, 0, none⟩ = some (.int .i64 a4_0) ∧ w56.cell? ⟨gb327, 1, none⟩ = some (.int .i64 a4_1) ∧ w56.cell? ⟨gb327, 2, none⟩ = some (.int .i64 a4_2) ∧ w56.cell? ⟨gb327, 3, none⟩ = some (.int .i64 a4_3) ∧ w56.cell? ⟨gb327, 4, none⟩ = some (.int .i64 a4_4) ∧ w56.cell? ⟨gb327, 5, none⟩ = some (.int .i64 a4_5) := hS_
    obtain ⟨Ao58, co58, eo58⟩ := Kd.N_slice HO351.out
    (first | subst eo58 | (injection eo58 with f1_ f2_ f3_; have f4_ := f1_.symm; have f5_ := f3_.symm; clear f1_ f2_ f3_; subst f4_; subst f5_))
    refine norm_ (a' := ?_) ?_ ?_
    rotate_left
    ·simp only [putAll, Act.put, List.setIfInBounds_toArray, List.set_cons_zero, List.set_cons_succ]
     rfl
    refine one_ (i := 7) (N := some 42) (bm 14 511) rfl rfl (one_of HT_.out (by kernel_rfl)) (by decide) (fun K hK => ?_)
    refine Kd.N_append_rows_step k41 (w0 := w) w.heap.size (by rfl) (.tmp 39) (.tmp 41) 25 41 (.agg #[(.int .i64 0), (.int .i64 0), (.int .i64 0), (.bool false), (.slice none 0 0)]) 56 rfl Try.underlying25 info41 rfl (by decide) (by omega) v347 t346 y349 _ _ _ (fun k_ => (P5_4_ k_ ∨ w.heap.size ≤ k_) ∧ some k_ ≠ (.slice Ao51 t329.length co51 : Value).ownBlock ∧ k_ ≠ gb326 ∧ k_ ≠ gb327 ∧ k_ ≠ gb328) (fun k_ => ((fun k_ => (P5_4_ k_ ∨ w.heap.size ≤ k_) ∧ some k_ ≠ (.slice Ao51 t329.length co51 : Value).ownBlock ∧ k_ ≠ gb326 ∧ k_ ≠ gb327 ∧ k_ ≠ gb328)) k_ ∧ some k_ ≠ (v347 : Value).ownBlock) rfl rfl ?aO ?aR (fun _ hk => hk) ?aF ?aB ?aS ?aL ?_
    (case aR => exact (by skip; exact Kd.N_F (Kd.N_mono (ok' := (fun k_ => ((fun k_ => (P5_4_ k_ ∨ w.heap.size ≤ k_) ∧ some k_ ≠ (.slice Ao51 t329.length co51 : Value).ownBlock ∧ k_ ≠ gb326 ∧ k_ ≠ gb327 ∧ k_ ≠ gb328)) k_ ∧ some k_ ≠ (v347 : Value).ownBlock)) (HO351.out) (fun k_ hk => ⟨⟨hk.1, ⟨hk.2.1, ⟨hk.2.2.2.1, ⟨hk.2.2.2.2.1, hk.2.2.2.2.2⟩⟩⟩⟩, hk.2.2.1⟩))))
    (case aB => exact hb_)
    (case aF => exact (fun k_ hk => ⟨(.inr (Nat.le_trans (b6_ hb_) hk)), Kd.fresh' (Kd.R_lt Z3) k_ hk, Kd.freshB (g := gb326) (o := .cells #[.int .i64 a2_0, .int .i64 a2_1] 24 (0, 0)) (bo_ BK326) k_ hk, Kd.freshB (g := gb327) (o := .cells #[.int .i64 a4_0, .int .i64 a4_1, .int .i64 a4_2, .int .i64 a4_3, .int .i64 a4_4, .int .i64 a4_5] 29 (0, 0)) (bo_ BK327) k_ hk, Kd.freshB (g := gb328) (o := .cells #[.int .i64 a5_0, .int .i64 a5_1, .int .i64 a5_2, .bool a5_3, .slice A5_4 l5_4.length c5_4] 41 (0, 0)) (bo_ BK328) k_ hk⟩))
    (case aO => exact (by (with_reducible repeat (first | apply Kd.N_alloc | apply Kd.N_drewN | apply Kd.N_drew)); exact Kd.N_mono HO348.out (fun _ hk => ⟨hk.1, ⟨hk.2.1, ⟨hk.2.2.2.1, ⟨hk.2.2.2.2.1, hk.2.2.2.2.2⟩⟩⟩⟩)))
    (case aS => exact (b6_ hb_))
    (case aL => have := LMc39.out; omega)
    intro v353 w57 ho hb hg hat
    rw [← Ny352.out] at ho
    have HO354 := m_ (ho)
    replace HO5_4 := m_ (Kd.V_afterv (ok := (fun k_ => (P5_4_ k_ ∨ w.heap.size ≤ k_) ∧ some k_ ≠ (.slice Ao51 t329.length co51 : Value).ownBlock ∧ some k_ ≠ (.slice Ao58 y349.length co58 : Value).ownBlock ∧ k_ ≠ gb326 ∧ k_ ≠ gb327 ∧ k_ ≠ gb328)) (by (with_reducible repeat (first | apply Kd.V_alloc | apply Kd.V_drewN | apply Kd.V_drew)); exact Kd.V_mono HO5_4.out (fun _ hk => ⟨⟨hk.1, ⟨hk.2.1, ⟨hk.2.2.2.1, ⟨hk.2.2.2.2.1, ⟨hk.2.2.2.2.2.1, hk.2.2.2.2.2.2⟩⟩⟩⟩⟩, hk.2.2.1⟩)) hg hat)
    replace BK326 := m_ (d7_ (g := gb326) (o := .cells #[.int .i64 a2_0, .int .i64 a2_1] 24 (0, 0)) (bo_ BK326) hg (Kd.N_ne HO348.out BK326.out (by decide)))
    replace BK327 := m_ (d7_ (g := gb327) (o := .cells #[.int .i64 a4_0, .int .i64 a4_1, .int .i64 a4_2, .int .i64 a4_3, .int .i64 a4_4, .int .i64 a4_5] 29 (0, 0)) (bo_ BK327) hg (Kd.N_ne HO348.out BK327.out (by decide)))
    replace BK328 := m_ (d7_ (g := gb328) (o := .cells #[.int .i64 a5_0, .int .i64 a5_1, .int .i64 a5_2, .bool a5_3, .slice A5_4 l5_4.length c5_4] 41 (0, 0)) (bo_ BK328) hg (Kd.N_away HO348.out (fun _ hk => hk.2.2.2.2.2)))
    replace HO332 := m_ (Kd.R_over' Z3 (Kd.N_typed Z16) (by decide) hg)
    replace HO351 := m_ (Kd.N_afterv (ok := (fun k_ => (P5_4_ k_ ∨ w.heap.size ≤ k_) ∧ some k_ ≠ (.slice Ao51 t329.length co51 : Value).ownBlock ∧ k_ ≠ gb326 ∧ k_ ≠ gb327 ∧ k_ ≠ gb328)) (by (with_reducible repeat (first | apply Kd.N_alloc | apply Kd.N_drewN | apply Kd.N_drew)); exact Kd.N_mono HO351.out (fun _ hk => ⟨⟨hk.1, ⟨hk.2.1, ⟨hk.2.2.2.1, ⟨hk.2.2.2.2.1, hk.2.2.2.2.2⟩⟩⟩⟩, hk.2.2.1⟩)) hg hat)
    replace HB := m_ (hb)
    clear HO348
    clear ho hb hg hat
    obtain ⟨Ao59, co59, eo59⟩ := Kd.N_slice HO354.out
    (first | subst eo59 | (injection eo59 with f1_ f2_ f3_; have f4_ := f1_.symm; have f5_ := f3_.symm; clear f1_ f2_ f3_; subst f4_; subst f5_))
    refine hK.out _ _ kc_ (fun hHeld => ?_)
    clear hK K
    refine norm_ (a' := ?_) ?_ ?_
    rotate_left
    ·show Act.put _ (some 42) _ = _
     simp only [Act.put, List.setIfInBounds_toArray, List.set_cons_zero, List.set_cons_succ, i64_w, i32_w]
     rfl
    refine one_ (i := 9) (N := some 44) (bm 14 1023) rfl rfl (one_of HT_.out (by kernel_rfl)) (by decide) (fun K hK => ?_)
    refine goes_ Try.func27 (by kernel_rfl) rfl #[.int .i64 a0, .slice Ao51 t329.length co51, .agg #[.int .i64 a2_0, .int .i64 a2_1], .slice Ao59 y352.length co59, .agg #[.int .i64 a4_0, .int .i64 a4_1, .int .i64 a4_2, .int .i64 a4_3, .int .i64 a4_4, .int .i64 a4_5]] (by rfl) rfl rfl Z0 ?_
    with_reducible refine (promise_Earliest.calls a0 _ _ t329 a2_0 a2_1 _ _ y352 a4_0 a4_1 a4_2 a4_3 a4_4 a4_5 t355 t356 _ ?side1 ?side2 ?side3 ?side4 A40.out).mono ?_
    (case side1 => repeat (first | exact (Kd.R_reads' HO332.out).2.2 | (with_reducible refine Kd.C_alloc ?_ _) | (with_reducible refine Kd.C_drewN ?_ _) | (with_reducible refine Kd.C_drew ?_)))
    (case side2 => exact (Kd.R_reads' HO332.out).2.1)
    (case side3 => repeat (first | exact (Kd.N_reads' HO354.out).2.2 | (with_reducible refine Kd.C_alloc ?_ _) | (with_reducible refine Kd.C_drewN ?_ _) | (with_reducible refine Kd.C_drew ?_)))
    (case side4 => exact (Kd.N_reads' HO354.out).2.1)
    rintro e w60 ⟨rfl, hb⟩
    refine ⟨_, rfl, ?_⟩
    replace HO5_4 := m_ (Kd.V_below Z4 hb)
    replace HO332 := m_ (Kd.R_below Z3 hb)
    replace HO351 := m_ (Kd.N_below Z15 hb)
    replace HO354 := m_ (Kd.N_below (by (with_reducible repeat (first | apply Kd.N_alloc | apply Kd.N_drewN | apply Kd.N_drew)); exact HO354.out) hb)
    replace BK326 := bk_ BK326 hb
    replace BK327 := bk_ BK327 hb
    replace BK328 := bk_ BK328 hb
    replace HB := hs_ hb
    (try clear hb)
    (try clear hb2)
    (try clear hk)
    (try clear hi)
    refine hK.out _ _ kc_ (fun hHeld => ?_)
    clear hK K
    refine norm_ (a' := ?_) ?_ ?_
    rotate_left
    ·show Act.put _ (some 44) _ = _
     simp only [Act.put, List.setIfInBounds_toArray, List.set_cons_zero, List.set_cons_succ, i64_w, i32_w]
     rfl
    refine pu 10 (some 45) (bm 14 2047) ?_
    refine pu 11 (some 46) (bm 14 4095) ?_
    refine pu 12 (some 12) (bm 14 8191) ?_
    refine pu 13 (some 13) (bm 14 16383) ?_
    refine done_ (done_of HT_.out (by kernel_rfl)) ?_
    try go_wp2
    go_ret2
    exact ⟨by first | rfl | (simp [b1_, b0_] <;> rfl) | (simp [*, b1_, b0_] <;> rfl), hb_⟩
   ·rw [if_neg c39] at H
    exact absurd H (by simp)
 ·rw [if_neg c8] at H
  have c8b0 : (t330 == 0) = false := beq_eq_false_iff_ne.mpr c8
  have c8b1 : (t330 != 0) = true := bne_iff_ne.mpr c8
  simp only [Option.some.injEq, Prod.mk.injEq] at H
  obtain ⟨rfl, rfl⟩ := H
  go_enter Try.func39, Try.ntmps39
  go_wp2_with (first | ((with_reducible refine a3_ (N := 8) rfl ?_); refine bx 8 #[.int .i64 a2_0, .int .i64 a2_1] 24 ?_; intro gb326 hg w61 hbox hb; have BK326 := m_ (hbox); have GW326 := ge_ hg; have GE326 := ge_ hg; replace HO5_4 := m_ (Kd.V_below (Kd.V_elderB Z4 gb326 (Nat.le_of_eq hg.symm)) hb); replace HB := hs_ hb; clear hb hbox hg) | ((with_reducible refine a3_ (N := 10) rfl ?_); refine bx 10 #[.int .i64 a4_0, .int .i64 a4_1, .int .i64 a4_2, .int .i64 a4_3, .int .i64 a4_4, .int .i64 a4_5] 29 ?_; intro gb327 hg w62 hbox hb; have BK327 := m_ (hbox); have GW327 := ge_ hg; have GE327 := ge_ hg; have NB326_327 := nl_ BK326 hg; have NB327_326 := nr_ BK326 hg; replace HO5_4 := m_ (Kd.V_below (Kd.V_elderB Z4 gb327 (Nat.le_of_eq hg.symm)) hb); replace BK326 := bk_ BK326 hb; replace HB := hs_ hb; clear hb hbox hg) | ((with_reducible refine a3_ (N := 11) rfl ?_); refine bx 11 #[.int .i64 a5_0, .int .i64 a5_1, .int .i64 a5_2, .bool a5_3, .slice A5_4 l5_4.length c5_4] 41 ?_; intro gb328 hg w63 hbox hb; have BK328 := m_ (hbox); have GW328 := ge_ hg; have GE328 := ge_ hg; have NB326_328 := nl_ BK326 hg; have NB328_326 := nr_ BK326 hg; have NB327_328 := nl_ BK327 hg; have NB328_327 := nr_ BK327 hg; replace HO5_4 := m_ (Kd.V_below (Kd.V_elderB Z4 gb328 (Nat.le_of_eq hg.symm)) hb); replace BK326 := bk_ BK326 hb; replace BK327 := bk_ BK327 hb; replace HB := hs_ hb; clear hb hbox hg; have hnb64 := NB328_326.out; have hnc64 := NB326_328.out; have hnb65 := NB328_327.out; have hnc65 := NB327_328.out; obtain ⟨hcz66_0, hcz66_1, hcz66_2, hcz66_3, hcz66_4, hfz66_0, hfz66_1, hfz66_2, hfz66_3, hfz66_4⟩ := bz5_ BK328) | ((with_reducible refine b2_ (f := 51) rfl ?_); refine goesL_ (some 20) rfl rfl Try.func51 (by kernel_rfl) rfl #[.slice A1 l1.length c1, .slice A5_4 l5_4.length c5_4] rfl Z0 ?_; (with_reducible refine (pack_Less.calls _ _ l1 _ _ l5_4 t329 t330 _ ?side1 ?side2 ?side3 ?side4 A7.out).mono ?_); (case side1 => exact cs_ HR1); (case side2 => exact HC1.out); (case side3 => repeat (first | exact (Kd.V_reads' HO5_4.out).2.2 | (with_reducible refine Kd.C_alloc ?_ _) | (with_reducible refine Kd.C_drewN ?_ _) | (with_reducible refine Kd.C_drew ?_))); (case side4 => exact (Kd.V_reads' HO5_4.out).2.1); rintro e w67 ⟨v331, rfl, ho0, hb⟩; refine ⟨_, rfl, ?_⟩; have HO332 := m_ (Kd.R_lower (Kd.R_newM (M := fun k_ => (w.heap.size ≤ k_)) ho0 (b6_ hb_) (fun k_ h_ => h_)) (b6_ hb_)); replace HO5_4 := m_ (Kd.V_elder' Z4 (Kd.R_base ho0) hb); replace BK326 := bk_ BK326 hb; replace BK327 := bk_ BK327 hb; replace BK328 := bk_ BK328 hb; replace HB := hs_ hb; (try clear hb); (try clear hb2); (try clear hk); (try clear hi); (try clear ho0)))
  go_ret2
  exact ⟨by first | rfl | (simp [b1_, b0_] <;> rfl) | (simp [*, b1_, b0_] <;> rfl), hb_⟩
theorem fill_After.calls (a0 : Int) (A1 : Option Addr) (c1 : Nat) (l1 : List (S51)) (a2_0 a2_1 : Int) (A3 : Option Addr) (c3 : Nat) (l3 : List (S41)) (a4_0 a4_1 a4_2 a4_3 a4_4 a4_5 a5_0 a5_1 a5_2 : Int) (a5_3 : Bool) (A5_4 : Option Addr) (c5_4 : Nat) (l5_4 : List (S52)) (r1 r2 : Int) (w : World) (hr1 : Kd.C k51 w A1 l1.length l1) (hc1 : l1.length ≤ c1) (hr3 : Kd.C k41 w A3 l3.length l3) (hc3 : l3.length ≤ c3) (hr5_4 : Kd.C k52 w A5_4 l5_4.length l5_4) (hc5_4 : l5_4.length ≤ c5_4) (h : fill_After.f a0 l1 a2_0 a2_1 l3 a4_0 a4_1 a4_2 a4_3 a4_4 a4_5 a5_0 a5_1 a5_2 a5_3 l5_4 = some (r1, r2)) :
  Calls Try.prog 39 #[.int .i64 a0, .slice A1 l1.length c1, .agg #[.int .i64 a2_0, .int .i64 a2_1], .slice A3 l3.length c3, .agg #[.int .i64 a4_0, .int .i64 a4_1, .int .i64 a4_2, .int .i64 a4_3, .int .i64 a4_4, .int .i64 a4_5], .agg #[.int .i64 a5_0, .int .i64 a5_1, .int .i64 a5_2, .bool a5_3, .slice A5_4 l5_4.length c5_4]] w fun e w' => e = .returned (.tuple #[.int .i64 r1, .int .i64 r2]) ∧ Below w.heap.size w w' := by
 exact fill_After.callsV a0 A1 c1 l1 a2_0 a2_1 A3 c3 l3 a4_0 a4_1 a4_2 a4_3 a4_4 a4_5 a5_0 a5_1 a5_2 a5_3 (fun k => k < w.heap.size) A5_4 c5_4 l5_4 r1 r2 w hr1 hc1 hr3 hc3 (Kd.V_mk hc5_4 (Kd.C_F k52_heap hr5_4)) h
end Go.Proofs.Ytckhjehibjdjdaa.P
