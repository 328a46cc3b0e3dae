/- PackWhole: part 3 of the walk and of the plain law that it comes to. No condition. -/
import Derived.Test.YtckhjehibjdjdaaZPackWhole2
import Derived.ArgAppend
import Derived.Below
import Derived.BigQuiet
import Derived.BigRegion
import Derived.Carry
import Derived.ChangeOld
import Derived.Deep.AppendLies
import Derived.Deep.CutBlock
import Derived.Deep.DeepCutAuto
import Derived.Deep.Draws
import Derived.Deep.LoopGhost
import Derived.Deep.OwnRows
import Derived.Deep.QuietTactic
import Derived.Deep.RegionHeld3
import Derived.Deep.Slices
import Derived.DeepKeys3
import Derived.KernelRfl
import Derived.Laws.Bits64
import Derived.Laws.Bits64b
import Derived.Laws.BitsLemmas
import Derived.Laws.BytesArg
import Derived.Laws.Externs
import Derived.Laws.IdiomCopy
import Derived.Laws.MakeOwn
import Derived.Laws.OwnMore
import Derived.Laws.Rows
import Derived.Laws.Slices
import Derived.Lib.AppendStr
import Derived.Lib.ConvBytes
import Derived.Lib.ReflectliteSlice
import Derived.Lib.ReflectliteSwap
import Derived.Lib.SliceRun
import Derived.LoopIn
import Derived.LoopN
import Derived.LoopNIn
import Derived.Maps.AppendAt
import Derived.Maps.Keyed
import Derived.Maps.Own
import Derived.Maps.OwnOps
import Derived.Maps.OwnSet
import Derived.Maps.Views
import Derived.OpenShut
import Derived.OrdersHeld
import Derived.Outline
import Derived.OwnWalk
import Derived.OwnWalkIn
import Derived.ProofKit
import Derived.RangeFuncBound
import Derived.RangeFuncBox
import Derived.RangeFuncCalls
import Derived.RangeFuncFrom
import Derived.RangeFuncLeaves
import Derived.RowKit
import Derived.RowKit3
import Derived.Shelf.Abstract
import Derived.Shelf.RegionOpen
import Derived.ShutString
import Derived.SizedLaws
import Derived.StillTailTactics
import Derived.Tactics
import Derived.TacticsInMore
import Derived.WalkKit
import Derived.WideLaws
namespace Go.Proofs.Ytckhjehibjdjdaa.P
open Go.RowKit Go.Proofs.YtckhjehibjdjdaaW.PrintWords Go.Proofs.YtckhjehibjdjdaaW.PrintLast Go.Proofs.YtckhjehibjdjdaaW.PrintMore
attribute [local go_sem] max2_int min2_int max_two min_two max_three min_three max_four min_four
set_option linter.unusedVariables false
set_option linter.unusedSimpArgs false
set_option maxRecDepth 100000 in
theorem field24_0 (a b : Int) (w : World) : Sem.run Try.prog (Instr.field 24 (.agg #[.int .i64 a, .int .i64 b]) 0) w = .ok (.int .i64 a) w := by
 have hu24 := Try.underlying24
 have hu3 := Try.underlying3
 simp [Instr.field, go_sem, hu24, hu3, part, isAgg, asAgg]
attribute [local go_sem] field24_0
mutual
def ensemblelaw05_PackWhole.j0 : Nat → List (S51) → Int → Bool → Int → Int → Int → Int → Option (Bool)
 | 0, _, _, _, _, _, _, _ => none
 | k + 1, x0, x2, x33, x616000, x616001, x616002, x616003 => if x33 = true then (some true) else ((pack_Room.f k x0 x616000 x616001 x616002 x616003).bind fun t619 => ((pack_Place.f x0 x616000 x616001 x616002 x616003 x2).bind fun bt620 => (if x2 > t619 then (if bt620.2 = 7 then (some ((bt620.1.length : Int) == 0)) else (some false)) else (if bt620.2 = 0 then (ensemblelaw05_PackWhole.j1 k x0 t619 bt620.1 ((bt620.1.length : Int) != x2) x616000 x616001 x616002 x616003) else (ensemblelaw05_PackWhole.j1 k x0 t619 bt620.1 true x616000 x616001 x616002 x616003)))))
def ensemblelaw05_PackWhole.j1 : Nat → List (S51) → Int → List (S52) → Bool → Int → Int → Int → Int → Option (Bool)
 | 0, _, _, _, _, _, _, _, _ => none
 | k + 1, x0, x7, x8, x61, x616000, x616001, x616002, x616003 => if x61 = true then (some false) else (ensemblelaw05_PackWhole.l0 k x0 x7 x8 0 x616000 x616001 x616002 x616003)
def ensemblelaw05_PackWhole.l0 : Nat → List (S51) → Int → List (S52) → Int → Int → Int → Int → Int → Option (Bool)
 | 0, _, _, _, _, _, _, _, _ => none
 | k + 1, x0, x7, x8, x10, x616000, x616001, x616002, x616003 => if x10 < (x8.length : Int) then (if 0 ≤ x10 then (if ((rd_T52 x8 x10).f2) = x616001 then ((ensembleref02_Count.f k (([(⟨(⟨0, 0⟩ : S48), (rd_T52 x8 x10).f1, 0⟩ : S51)] : List (S51)))).bind fun bt629 => (if bt629.1 = x616000 then (ensemblelaw05_PackWhole.l0 k x0 x7 x8 (wrap64 (x10 + 1)) x616000 x616001 x616002 x616003) else (some false))) else (some false)) else (none)) else ((pack_Less.f x0 x8).bind fun bt631 => ((pack_More.f bt631.1 x8).bind fun bt635 => (if bt631.2 = 0 then (if bt635.2 = 0 then ((ensembleref02_Same.f k bt635.1 x0).bind fun t639 => (if t639 = true then ((pack_Room.f k bt631.1 x616000 x616001 x616002 x616003).bind fun t640 => (if t640 ≥ 0 then (if t640 = 0 then (some true) else (some (decide (t640 ≤ x7)))) else (some false))) else (some false))) else (some false)) else (some false))))
end
def ensemblelaw05_PackWhole.f (k : Nat) (l0 : List (S51)) (a1_0 : Int) (a1_1 : Int) (a1_2 : Int) (a1_3 : Int) (a2 : Int) : Option (Bool) := (ensemblelaw05_awake.f).bind fun t616 => (if t616 = true then ((ensemblelaw05_few.f k l0).bind fun t617 => (if t617 = true then ((ensembleref04_Right.f a1_0 a1_1 a1_2 a1_3).bind fun t618 => (if t618 = true then (if a2 < 1 then (ensemblelaw05_PackWhole.j0 k l0 a2 true a1_0 a1_1 a1_2 a1_3) else (ensemblelaw05_PackWhole.j0 k l0 a2 (decide (a2 > 16)) a1_0 a1_1 a1_2 a1_3)) else (ensemblelaw05_PackWhole.j0 k l0 a2 true a1_0 a1_1 a1_2 a1_3))) else (ensemblelaw05_PackWhole.j0 k l0 a2 true a1_0 a1_1 a1_2 a1_3))) else (some false))
def ensemblelaw05_PackWhole.T14 : Bool × List (List Nat × List Nat) := (true, [([], []), ([], []), ([0, 1], [0, 1]), ([2], [2]), ([3], [3]), ([], []), ([5], [5]), ([4, 6], [4, 6]), ([7], [7]), ([8], [8]), ([8], [8]), ([9, 10, 8], [8, 9, 10]), ([11, 8], [8, 11]), ([12, 8], [8, 12]), ([13, 8], [8, 13]), ([14, 8], [8, 14]), ([15, 8, 8], [8, 15]), ([16, 8], [8, 16]), ([8], [8]), ([18, 8], [8, 18]), ([17, 19, 8], [8, 17, 19]), ([8, 20], [8, 20])])
def ensemblelaw05_PackWhole.B14 : List Nat := [0, 0, 3, 7, 15, 0, 32, 127, 255, 511, 511, 2047, 4095, 8191, 16383, 32767, 65535, 131071, 511, 262655, 1048575, 2097151]
theorem ensemblelaw05_PackWhole.tab14 : rtab .any (opsOf Try.f19 14) = ensemblelaw05_PackWhole.T14 := by kernel_rfl
theorem ensemblelaw05_PackWhole.bits14 : waitsOk ensemblelaw05_PackWhole.T14.2 ensemblelaw05_PackWhole.B14 = true := by kernel_rfl
set_option maxHeartbeats 8000000 in
set_option maxRecDepth 100000 in
theorem ensemblelaw05_PackWhole.calls (k : Nat) (A0 : Option Addr) (c0 : Nat) (l0 : List (S51)) (a1_0 : Int) (a1_1 : Int) (a1_2 : Int) (a1_3 : Int) (a2 : Int) (r : Bool) (w : World) (hr0 : Kd.C k51 w A0 l0.length l0) (hc0 : l0.length ≤ c0) (h : ensemblelaw05_PackWhole.f k l0 a1_0 a1_1 a1_2 a1_3 a2 = some r) (hr_ : r = true := by rfl) :
  Calls Try.prog 19 #[.slice A0 l0.length c0, .agg #[.int .i64 a1_0, .int .i64 a1_1, .int .i64 a1_2, .int .i64 a1_3], .int .i64 a2] w fun e w' => e = .returned (.bool r) ∧ Below w.heap.size w w' := by
 have hu27 := Try.underlying27
 have hu51 := Try.underlying51
 have HR0 := Aside0.mk hr0
 have HC0 := Aside0.mk hc0
 clear hr0 hc0
 have HB := Aside0.mk (Below.refl w.heap.size w)
 have H : ((ensemblelaw05_awake.f).bind fun t616 => (if t616 = true then ((ensemblelaw05_few.f k l0).bind fun t617 => (if t617 = true then ((ensembleref04_Right.f a1_0 a1_1 a1_2 a1_3).bind fun t618 => (if t618 = true then (if a2 < 1 then (ensemblelaw05_PackWhole.j0 k l0 a2 true a1_0 a1_1 a1_2 a1_3) else (ensemblelaw05_PackWhole.j0 k l0 a2 (decide (a2 > 16)) a1_0 a1_1 a1_2 a1_3)) else (ensemblelaw05_PackWhole.j0 k l0 a2 true a1_0 a1_1 a1_2 a1_3))) else (ensemblelaw05_PackWhole.j0 k l0 a2 true a1_0 a1_1 a1_2 a1_3))) else (some false))) = some r := h
 clear h
 replace H := Option.bind_eq_some_iff.mp H
 obtain ⟨t616, A40, H⟩ := H
 replace H : (if t616 = true then ((ensemblelaw05_few.f k l0).bind fun t617 => (if t617 = true then ((ensembleref04_Right.f a1_0 a1_1 a1_2 a1_3).bind fun t618 => (if t618 = true then (if a2 < 1 then (ensemblelaw05_PackWhole.j0 k l0 a2 true a1_0 a1_1 a1_2 a1_3) else (ensemblelaw05_PackWhole.j0 k l0 a2 (decide (a2 > 16)) a1_0 a1_1 a1_2 a1_3)) else (ensemblelaw05_PackWhole.j0 k l0 a2 true a1_0 a1_1 a1_2 a1_3))) else (ensemblelaw05_PackWhole.j0 k l0 a2 true a1_0 a1_1 a1_2 a1_3))) else (some false)) = some r := H
 have A4 := Aside0.mk A40
 clear A40
 by_cases c5 : t616 = true
 ·subst c5
  have H1 : ((ensemblelaw05_few.f k l0).bind fun t617 => (if t617 = true then ((ensembleref04_Right.f a1_0 a1_1 a1_2 a1_3).bind fun t618 => (if t618 = true then (if a2 < 1 then (ensemblelaw05_PackWhole.j0 k l0 a2 true a1_0 a1_1 a1_2 a1_3) else (ensemblelaw05_PackWhole.j0 k l0 a2 (decide (a2 > 16)) a1_0 a1_1 a1_2 a1_3)) else (ensemblelaw05_PackWhole.j0 k l0 a2 true a1_0 a1_1 a1_2 a1_3))) else (ensemblelaw05_PackWhole.j0 k l0 a2 true a1_0 a1_1 a1_2 a1_3))) = some r := by rw [if_pos rfl] at H; exact H
  clear H
  have H := H1
  clear H1
  have HC6 := Aside0.mk H
  clear H
  go_enter Try.func19, Try.ntmps19
  go_upto_region 3 with (first | ((with_reducible refine gate_dst (N := 4) rfl ?_); (try (refine gate_guard (by rfl) ?_; dsimp only)); refine bx 4 #[.int .i64 a1_0, .int .i64 a1_1, .int .i64 a1_2, .int .i64 a1_3] 27 ?_; intro gb615 hg w7 hbox hb; have BK615 := Aside0.mk (hbox); have GW615 := ge_ hg; have GE615 := ge_ hg; replace HB := hs_ hb; clear hb hbox hg) | ((with_reducible refine gate_callee (f := 43) rfl ?_); refine goesL_ (some 16) rfl rfl Try.func43 (by kernel_rfl) rfl #[] rfl Z0 ?_; (with_reducible refine (ensemblelaw05_awake.calls  true _ A4.out).mono ?_); rintro e w8 ⟨rfl, hb⟩; refine ⟨_, rfl, ?_⟩; replace BK615 := bk_ BK615 hb; replace HB := hs_ hb; (try clear hb); (try clear hb2); (try clear hk); (try clear hi)))
  (try simp only [Act.put, List.setIfInBounds_toArray, List.set_cons_zero, List.set_cons_succ])
  go_cut [33] (fun v33 wc => ∃ (kq : Nat) (x33_5 : Bool), v33 = .bool x33_5 ∧ Aside0 (ensemblelaw05_PackWhole.j0 kq l0 a2 x33_5 a1_0 a1_1 a1_2 a1_3 = some r) ∧ Aside0 (kq ≤ k) ∧ Aside0 (wc.heap[gb615]? = some (.cells #[.int .i64 a1_0, .int .i64 a1_1, .int .i64 a1_2, .int .i64 a1_3] 27 (0, 0))) ∧ Aside0 (Below w.heap.size w wc))
  case first =>
   have H := HC6.out
   clear HC6
   replace H := Option.bind_eq_some_iff.mp H
   obtain ⟨t617, A90, H⟩ := H
   replace H : (if t617 = true then ((ensembleref04_Right.f a1_0 a1_1 a1_2 a1_3).bind fun t618 => (if t618 = true then (if a2 < 1 then (ensemblelaw05_PackWhole.j0 k l0 a2 true a1_0 a1_1 a1_2 a1_3) else (ensemblelaw05_PackWhole.j0 k l0 a2 (decide (a2 > 16)) a1_0 a1_1 a1_2 a1_3)) else (ensemblelaw05_PackWhole.j0 k l0 a2 true a1_0 a1_1 a1_2 a1_3))) else (ensemblelaw05_PackWhole.j0 k l0 a2 true a1_0 a1_1 a1_2 a1_3)) = some r := H
   have A9 := Aside0.mk A90
   clear A90
   by_cases c10 : t617 = true
   ·subst c10
    have H1 : ((ensembleref04_Right.f a1_0 a1_1 a1_2 a1_3).bind fun t618 => (if t618 = true then (if a2 < 1 then (ensemblelaw05_PackWhole.j0 k l0 a2 true a1_0 a1_1 a1_2 a1_3) else (ensemblelaw05_PackWhole.j0 k l0 a2 (decide (a2 > 16)) a1_0 a1_1 a1_2 a1_3)) else (ensemblelaw05_PackWhole.j0 k l0 a2 true a1_0 a1_1 a1_2 a1_3))) = some r := by rw [if_pos rfl] at H; exact H
    clear H
    have H := H1
    clear H1
    replace H := Option.bind_eq_some_iff.mp H
    obtain ⟨t618, A110, H⟩ := H
    replace H : (if t618 = true then (if a2 < 1 then (ensemblelaw05_PackWhole.j0 k l0 a2 true a1_0 a1_1 a1_2 a1_3) else (ensemblelaw05_PackWhole.j0 k l0 a2 (decide (a2 > 16)) a1_0 a1_1 a1_2 a1_3)) else (ensemblelaw05_PackWhole.j0 k l0 a2 true a1_0 a1_1 a1_2 a1_3)) = some r := H
    have A11 := Aside0.mk A110
    clear A110
    by_cases c12 : t618 = true
    ·subst c12
     have H1 : (if a2 < 1 then (ensemblelaw05_PackWhole.j0 k l0 a2 true a1_0 a1_1 a1_2 a1_3) else (ensemblelaw05_PackWhole.j0 k l0 a2 (decide (a2 > 16)) a1_0 a1_1 a1_2 a1_3)) = some r := by rw [if_pos rfl] at H; exact H
     clear H
     have H := H1
     clear H1
     by_cases c13 : a2 < 1
     ·rw [if_pos c13] at H
      have c13b0 : decide (a2 < 1) = true := decide_eq_true c13
      clear c13
      (first | rw [c13b0] | (simp only [i64_w, i32_w]; rw [c13b0]) | skip)
      have H' := Aside0.mk H
      clear H
      go_wp2_with (first | ((with_reducible refine gate_callee (f := 44) rfl ?_); refine goesL_ (some 19) rfl rfl Try.func44 (by kernel_rfl) rfl #[.slice A0 l0.length c0] rfl Z0 ?_; (with_reducible refine (ensemblelaw05_few.calls k _ _ l0 true _ ?side1 ?side2 A9.out).mono ?_); (case side1 => exact cs_ HR0); (case side2 => exact HC0.out); rintro e w14 ⟨rfl, hb⟩; refine ⟨_, rfl, ?_⟩; replace BK615 := bk_ BK615 hb; replace HB := hs_ hb; (try clear hb); (try clear hb2); (try clear hk); (try clear hi); obtain ⟨hcz15_0, hcz15_1, hcz15_2, hcz15_3, hfz15_0, hfz15_1, hfz15_2, hfz15_3⟩ := bz4_ BK615) | (go_at_call 45; (with_reducible refine (ensembleref04_Right.calls a1_0 a1_1 a1_2 a1_3 true _ A11.out).mono ?_); rintro e w16 ⟨rfl, hb⟩; replace BK615 := bk_ BK615 hb; replace HB := hs_ hb; (try clear hb); (try clear hb2); (try clear hk); (try clear hi)))
      go_meet
      case rel => exact ⟨_, (true), Z2, H', ⟨by first | omega | exact Nat.le_refl _⟩, ⟨bo_ BK615⟩, ⟨hb_⟩⟩
     ·rw [if_neg c13] at H
      have c13b0 : decide (a2 < 1) = false := decide_eq_false c13
      clear c13
      (first | rw [c13b0] | (simp only [i64_w, i32_w]; rw [c13b0]) | skip)
      have H' := Aside0.mk H
      clear H
      go_wp2_with (first | ((with_reducible refine gate_callee (f := 44) rfl ?_); refine goesL_ (some 19) rfl rfl Try.func44 (by kernel_rfl) rfl #[.slice A0 l0.length c0] rfl Z0 ?_; (with_reducible refine (ensemblelaw05_few.calls k _ _ l0 true _ ?side1 ?side2 A9.out).mono ?_); (case side1 => exact cs_ HR0); (case side2 => exact HC0.out); rintro e w17 ⟨rfl, hb⟩; refine ⟨_, rfl, ?_⟩; replace BK615 := bk_ BK615 hb; replace HB := hs_ hb; (try clear hb); (try clear hb2); (try clear hk); (try clear hi); obtain ⟨hcz18_0, hcz18_1, hcz18_2, hcz18_3, hfz18_0, hfz18_1, hfz18_2, hfz18_3⟩ := bz4_ BK615) | (go_at_call 45; (with_reducible refine (ensembleref04_Right.calls a1_0 a1_1 a1_2 a1_3 true _ A11.out).mono ?_); rintro e w19 ⟨rfl, hb⟩; replace BK615 := bk_ BK615 hb; replace HB := hs_ hb; (try clear hb); (try clear hb2); (try clear hk); (try clear hi)))
      go_meet
      case rel => exact ⟨_, (decide (a2 > 16)), Z2, H', ⟨by first | omega | exact Nat.le_refl _⟩, ⟨bo_ BK615⟩, ⟨hb_⟩⟩
    ·replace c12 := Bool.eq_false_iff.mpr c12
     subst c12
     have H1 : (ensemblelaw05_PackWhole.j0 k l0 a2 true a1_0 a1_1 a1_2 a1_3) = some r := by rw [if_neg (show ¬ (false = true) by decide)] at H; exact H
     clear H
     have H := H1
     clear H1
     have H' := Aside0.mk H
     clear H
     go_wp2_with (first | ((with_reducible refine gate_callee (f := 44) rfl ?_); refine goesL_ (some 19) rfl rfl Try.func44 (by kernel_rfl) rfl #[.slice A0 l0.length c0] rfl Z0 ?_; (with_reducible refine (ensemblelaw05_few.calls k _ _ l0 true _ ?side1 ?side2 A9.out).mono ?_); (case side1 => exact cs_ HR0); (case side2 => exact HC0.out); rintro e w20 ⟨rfl, hb⟩; refine ⟨_, rfl, ?_⟩; replace BK615 := bk_ BK615 hb; replace HB := hs_ hb; (try clear hb); (try clear hb2); (try clear hk); (try clear hi); obtain ⟨hcz21_0, hcz21_1, hcz21_2, hcz21_3, hfz21_0, hfz21_1, hfz21_2, hfz21_3⟩ := bz4_ BK615) | (go_at_call 45; (with_reducible refine (ensembleref04_Right.calls a1_0 a1_1 a1_2 a1_3 false _ A11.out).mono ?_); rintro e w22 ⟨rfl, hb⟩; replace BK615 := bk_ BK615 hb; replace HB := hs_ hb; (try clear hb); (try clear hb2); (try clear hk); (try clear hi)))
     go_meet
     case rel => exact ⟨_, (true), Z2, H', ⟨by first | omega | exact Nat.le_refl _⟩, ⟨bo_ BK615⟩, ⟨hb_⟩⟩
   ·replace c10 := Bool.eq_false_iff.mpr c10
    subst c10
    have H1 : (ensemblelaw05_PackWhole.j0 k l0 a2 true a1_0 a1_1 a1_2 a1_3) = some r := by rw [if_neg (show ¬ (false = true) by decide)] at H; exact H
    clear H
    have H := H1
    clear H1
    have H' := Aside0.mk H
    clear H
    go_wp2_with (first | ((with_reducible refine gate_callee (f := 44) rfl ?_); refine goesL_ (some 19) rfl rfl Try.func44 (by kernel_rfl) rfl #[.slice A0 l0.length c0] rfl Z0 ?_; (with_reducible refine (ensemblelaw05_few.calls k _ _ l0 false _ ?side1 ?side2 A9.out).mono ?_); (case side1 => exact cs_ HR0); (case side2 => exact HC0.out); rintro e w23 ⟨rfl, hb⟩; refine ⟨_, rfl, ?_⟩; replace BK615 := bk_ BK615 hb; replace HB := hs_ hb; (try clear hb); (try clear hb2); (try clear hk); (try clear hi)))
    go_meet
    case rel => exact ⟨_, (true), Z2, H', ⟨by first | omega | exact Nat.le_refl _⟩, ⟨bo_ BK615⟩, ⟨hb_⟩⟩
  case rest =>
   clear HC6
   try clear c1
   try clear p2
   try clear c4
   try clear c5
   try clear c10
   try clear c12
   try clear c13
   try clear c13b0
   try clear c19
   try clear hcz15_0
   try clear hcz15_1
   try clear hcz15_2
   try clear hcz15_3
   try clear hcz18_0
   try clear hcz18_1
   try clear hcz18_2
   try clear hcz18_3
   try clear hcz21_0
   try clear hcz21_1
   try clear hcz21_2
   try clear hcz21_3
   try clear hfz15_0
   try clear hfz15_1
   try clear hfz15_2
   try clear hfz15_3
   try clear hfz18_0
   try clear hfz18_1
   try clear hfz18_2
   try clear hfz18_3
   try clear hfz21_0
   try clear hfz21_1
   try clear hfz21_2
   try clear hfz21_3
   obtain ⟨kq, x33_5, rfl, HA, HJ5, BK615, HB⟩ := hcut
   cases kq with
   | zero => exact absurd HA.out (by simp [ensemblelaw05_PackWhole.j0])
   | succ kj5 =>
    have H := HA.out
    clear HA
    simp only [ensemblelaw05_PackWhole.j0] at H
    by_cases c24 : x33_5 = true
    ·subst c24
     have H1 : (some true) = some r := by rw [if_pos rfl] at H; exact H
     clear H
     have H := H1
     clear H1
     clear hr_
     obtain rfl := Option.some.inj H
     go_wp2
     go_ret
     exact ⟨by first | rfl | (simp [errW_none, errW_some] <;> rfl) | (simp [*, errW_none, errW_some] <;> rfl), hb_⟩
    ·replace c24 := Bool.eq_false_iff.mpr c24
     subst c24
     have H1 : ((pack_Room.f kj5 l0 a1_0 a1_1 a1_2 a1_3).bind fun t619 => ((pack_Place.f l0 a1_0 a1_1 a1_2 a1_3 a2).bind fun bt620 => (if a2 > t619 then (if bt620.2 = 7 then (some ((bt620.1.length : Int) == 0)) else (some false)) else (if bt620.2 = 0 then (ensemblelaw05_PackWhole.j1 kj5 l0 t619 bt620.1 ((bt620.1.length : Int) != a2) a1_0 a1_1 a1_2 a1_3) else (ensemblelaw05_PackWhole.j1 kj5 l0 t619 bt620.1 true a1_0 a1_1 a1_2 a1_3))))) = some r := by rw [if_neg (show ¬ (false = true) by decide)] at H; exact H
     clear H
     have H := H1
     clear H1
     replace H := Option.bind_eq_some_iff.mp H
     obtain ⟨t619, A250, H⟩ := H
     replace H : ((pack_Place.f l0 a1_0 a1_1 a1_2 a1_3 a2).bind fun bt620 => (if a2 > t619 then (if bt620.2 = 7 then (some ((bt620.1.length : Int) == 0)) else (some false)) else (if bt620.2 = 0 then (ensemblelaw05_PackWhole.j1 kj5 l0 t619 bt620.1 ((bt620.1.length : Int) != a2) a1_0 a1_1 a1_2 a1_3) else (ensemblelaw05_PackWhole.j1 kj5 l0 t619 bt620.1 true a1_0 a1_1 a1_2 a1_3)))) = some r := H
     have A25 := Aside0.mk A250
     clear A250
     replace H := Option.bind_eq_some_iff.mp H
     obtain ⟨⟨t620, t623⟩, A260, H⟩ := H
     replace H : (if a2 > t619 then (if t623 = 7 then (some ((t620.length : Int) == 0)) else (some false)) else (if t623 = 0 then (ensemblelaw05_PackWhole.j1 kj5 l0 t619 t620 ((t620.length : Int) != a2) a1_0 a1_1 a1_2 a1_3) else (ensemblelaw05_PackWhole.j1 kj5 l0 t619 t620 true a1_0 a1_1 a1_2 a1_3))) = some r := H
     have A26 := Aside0.mk A260
     clear A260
     by_cases c27 : a2 > t619
     ·rw [if_pos c27] at H
      have c27b0 : decide (t619 < a2) = true := decide_eq_true c27
      clear c27
      by_cases c28 : t623 = 7
      ·rw [if_pos c28] at H
       have c28b0 : (t623 == 7) = true := beq_iff_eq.mpr c28
       have c28b1 : (t623 != 7) = false := bne_eq_false_iff_eq.mpr c28
       clear c28
       clear hr_
       obtain rfl := Option.some.inj H
       obtain ⟨hcz29_0, hcz29_1, hcz29_2, hcz29_3, hfz29_0, hfz29_1, hfz29_2, hfz29_3⟩ := bz4_ BK615
       go_wp2_with (first | ((with_reducible refine gate_callee (f := 50) rfl ?_); refine goesL_ (some 36) rfl rfl Try.func50 (by kernel_rfl) rfl #[.slice A0 l0.length c0, .agg #[.int .i64 a1_0, .int .i64 a1_1, .int .i64 a1_2, .int .i64 a1_3]] rfl Z0 ?_; (with_reducible refine (pack_Room.calls kj5 _ _ l0 a1_0 a1_1 a1_2 a1_3 t619 _ ?side1 ?side2 A25.out).mono ?_); (case side1 => exact cs_ HR0); (case side2 => exact HC0.out); rintro e w30 ⟨rfl, hb⟩; refine ⟨_, rfl, ?_⟩; replace BK615 := bk_ BK615 hb; replace HB := hs_ hb; (try clear hb); (try clear hb2); (try clear hk); (try clear hi); obtain ⟨hcz31_0, hcz31_1, hcz31_2, hcz31_3, hfz31_0, hfz31_1, hfz31_2, hfz31_3⟩ := bz4_ BK615) | ((with_reducible refine gate_callee (f := 46) rfl ?_); refine goesL_ (some 41) rfl rfl Try.func46 (by kernel_rfl) rfl #[.slice A0 l0.length c0, .agg #[.int .i64 a1_0, .int .i64 a1_1, .int .i64 a1_2, .int .i64 a1_3], .int .i64 a2] rfl Z0 ?_; (with_reducible refine (pack_Place.calls _ _ l0 a1_0 a1_1 a1_2 a1_3 a2 t620 t623 _ ?side1 ?side2 A26.out).mono ?_); (case side1 => exact cs_ HR0); (case side2 => exact HC0.out); rintro e w32 ⟨v621, rfl, ho0, hb⟩; refine ⟨_, rfl, ?_⟩; have HO622 := Aside0.mk (Kd.R_lower ho0 (below_size hb_)); replace BK615 := bk_ BK615 hb; replace HB := hs_ hb; (try clear hb); (try clear hb2); (try clear hk); (try clear hi); (try clear ho0); obtain ⟨Ao33, co33, eo33⟩ := Kd.R_slice HO622.out; subst eo33))
       go_ret
       exact ⟨by first | rfl | (simp [errW_none, errW_some] <;> rfl) | (simp [*, errW_none, errW_some] <;> rfl), hb_⟩
      ·rw [if_neg c28] at H
       have c28b0 : (t623 == 7) = false := beq_eq_false_iff_ne.mpr c28
       have c28b1 : (t623 != 7) = true := bne_iff_ne.mpr c28
       rw [hr_] at H
       cases H
     ·rw [if_neg c27] at H
      have c27b0 : decide (t619 < a2) = false := decide_eq_false c27
      clear c27
      have HC38 := Aside0.mk H
      clear H
      obtain ⟨hcz39_0, hcz39_1, hcz39_2, hcz39_3, hfz39_0, hfz39_1, hfz39_2, hfz39_3⟩ := bz4_ BK615
      go_upto_region 9 with (first | ((with_reducible refine gate_callee (f := 50) rfl ?_); refine goesL_ (some 36) rfl rfl Try.func50 (by kernel_rfl) rfl #[.slice A0 l0.length c0, .agg #[.int .i64 a1_0, .int .i64 a1_1, .int .i64 a1_2, .int .i64 a1_3]] rfl Z0 ?_; (with_reducible refine (pack_Room.calls kj5 _ _ l0 a1_0 a1_1 a1_2 a1_3 t619 _ ?side1 ?side2 A25.out).mono ?_); (case side1 => exact cs_ HR0); (case side2 => exact HC0.out); rintro e w40 ⟨rfl, hb⟩; refine ⟨_, rfl, ?_⟩; replace BK615 := bk_ BK615 hb; replace HB := hs_ hb; (try clear hb); (try clear hb2); (try clear hk); (try clear hi); obtain ⟨hcz41_0, hcz41_1, hcz41_2, hcz41_3, hfz41_0, hfz41_1, hfz41_2, hfz41_3⟩ := bz4_ BK615) | ((with_reducible refine gate_callee (f := 46) rfl ?_); refine goesL_ (some 41) rfl rfl Try.func46 (by kernel_rfl) rfl #[.slice A0 l0.length c0, .agg #[.int .i64 a1_0, .int .i64 a1_1, .int .i64 a1_2, .int .i64 a1_3], .int .i64 a2] rfl Z0 ?_; (with_reducible refine (pack_Place.calls _ _ l0 a1_0 a1_1 a1_2 a1_3 a2 t620 t623 _ ?side1 ?side2 A26.out).mono ?_); (case side1 => exact cs_ HR0); (case side2 => exact HC0.out); rintro e w42 ⟨v621, rfl, ho0, hb⟩; refine ⟨_, rfl, ?_⟩; have HO622 := Aside0.mk (Kd.R_lower ho0 (below_size hb_)); replace BK615 := bk_ BK615 hb; replace HB := hs_ hb; (try clear hb); (try clear hb2); (try clear hk); (try clear hi); (try clear ho0)))
      (try simp only [Act.put, List.setIfInBounds_toArray, List.set_cons_zero, List.set_cons_succ])
      go_cut [61] (fun v61 wc => ∃ (kq : Nat) (x61_37 : Bool), v61 = .bool x61_37 ∧ Aside0 (ensemblelaw05_PackWhole.j1 kq l0 t619 t620 x61_37 a1_0 a1_1 a1_2 a1_3 = some r) ∧ Aside0 (kq ≤ kj5) ∧ Aside0 (Kd.R k52 52 wc w.heap.size (fun _ => True) v621 t620) ∧ Aside0 (wc.heap[gb615]? = some (.cells #[.int .i64 a1_0, .int .i64 a1_1, .int .i64 a1_2, .int .i64 a1_3] 27 (0, 0))) ∧ Aside0 (Below w.heap.size w wc))
      case first =>
       have H := HC38.out
       clear HC38
       by_cases c43 : t623 = 0
       ·rw [if_pos c43] at H
        have c43b0 : (t623 == 0) = true := beq_iff_eq.mpr c43
        have c43b1 : (t623 != 0) = false := bne_eq_false_iff_eq.mpr c43
        clear c43
        (first | rw [c43b0] | (simp only [i64_w, i32_w]; rw [c43b0]) | skip)
        have H' := Aside0.mk H
        clear H
        obtain ⟨Ao44, co44, eo44⟩ := Kd.R_slice HO622.out
        subst eo44
        go_wp2
        go_meet
        case rel => exact ⟨_, (((t620.length : Int) != a2)), Z2, H', ⟨by have := HJ5.out; first | omega | exact Nat.le_refl _⟩, ⟨by (with_reducible repeat (first | apply Kd.R_alloc | apply Kd.R_drewN | apply Kd.R_drew)); exact HO622.out⟩, ⟨bo_ BK615⟩, ⟨hb_⟩⟩
       ·rw [if_neg c43] at H
        have c43b0 : (t623 == 0) = false := beq_eq_false_iff_ne.mpr c43
        have c43b1 : (t623 != 0) = true := bne_iff_ne.mpr c43
        (first | rw [c43b0] | (simp only [i64_w, i32_w]; rw [c43b0]) | skip)
        have H' := Aside0.mk H
        clear H
        go_wp2
        go_meet
        case rel => exact ⟨_, (true), Z2, H', ⟨by have := HJ5.out; first | omega | exact Nat.le_refl _⟩, ⟨by (with_reducible repeat (first | apply Kd.R_alloc | apply Kd.R_drewN | apply Kd.R_drew)); exact HO622.out⟩, ⟨bo_ BK615⟩, ⟨hb_⟩⟩
      case rest =>
       clear HC38
       try clear c1
       try clear c2
       try clear p2
       try clear c4
       try clear c5
       try clear c10
       try clear c12
       try clear c13
       try clear c13b0
       try clear c19
       try clear c24
       try clear c27
       try clear c27b0
       try clear c28
       try clear c28b0
       try clear c28b1
       try clear c43
       try clear c43b0
       try clear c43b1
       try clear c44
       try clear hcz15_0
       try clear hcz15_1
       try clear hcz15_2
       try clear hcz15_3
       try clear hcz18_0
       try clear hcz18_1
       try clear hcz18_2
       try clear hcz18_3
       try clear hcz21_0
       try clear hcz21_1
       try clear hcz21_2
       try clear hcz21_3
       try clear hcz29_0
       try clear hcz29_1
       try clear hcz29_2
       try clear hcz29_3
       try clear hcz31_0
       try clear hcz31_1
       try clear hcz31_2
       try clear hcz31_3
       try clear hcz34_0
       try clear hcz34_1
       try clear hcz34_2
       try clear hcz34_3
       try clear hcz36_0
       try clear hcz36_1
       try clear hcz36_2
       try clear hcz36_3
       try clear hcz39_0
       try clear hcz39_1
       try clear hcz39_2
       try clear hcz39_3
       try clear hcz41_0
       try clear hcz41_1
       try clear hcz41_2
       try clear hcz41_3
       try clear hfz15_0
       try clear hfz15_1
       try clear hfz15_2
       try clear hfz15_3
       try clear hfz18_0
       try clear hfz18_1
       try clear hfz18_2
       try clear hfz18_3
       try clear hfz21_0
       try clear hfz21_1
       try clear hfz21_2
       try clear hfz21_3
       try clear hfz29_0
       try clear hfz29_1
       try clear hfz29_2
       try clear hfz29_3
       try clear hfz31_0
       try clear hfz31_1
       try clear hfz31_2
       try clear hfz31_3
       try clear hfz34_0
       try clear hfz34_1
       try clear hfz34_2
       try clear hfz34_3
       try clear hfz36_0
       try clear hfz36_1
       try clear hfz36_2
       try clear hfz36_3
       try clear hfz39_0
       try clear hfz39_1
       try clear hfz39_2
       try clear hfz39_3
       try clear hfz41_0
       try clear hfz41_1
       try clear hfz41_2
       try clear hfz41_3
       try clear p2
       obtain ⟨kq, x61_37, rfl, HA, HJ37, HO_8, BK615, HB⟩ := hcut
       cases kq with
       | zero => exact absurd HA.out (by simp [ensemblelaw05_PackWhole.j1])
       | succ kj37 =>
        have H := HA.out
        clear HA
        simp only [ensemblelaw05_PackWhole.j1] at H
        by_cases c45 : x61_37 = true
        ·subst c45
         have H1 : (some false) = some r := by rw [if_pos rfl] at H; exact H
         clear H
         have H := H1
         clear H1
         rw [hr_] at H
         cases H
        ·replace c45 := Bool.eq_false_iff.mpr c45
         subst c45
         have H1 : (ensemblelaw05_PackWhole.l0 kj37 l0 t619 t620 0 a1_0 a1_1 a1_2 a1_3) = some r := by rw [if_neg (show ¬ (false = true) by decide)] at H; exact H
         clear H
         have H := H1
         clear H1
         have H' := Aside0.mk H
         clear H
         go_wp2
         go_loopg [10] kj37 (fun kq v10 w' => ∃ (x10_3 : Int), v10 = .int .i64 x10_3 ∧ Aside0 (ensemblelaw05_PackWhole.l0 kq l0 t619 t620 x10_3 a1_0 a1_1 a1_2 a1_3 = some r) ∧ Aside0 (kq ≤ kj37) ∧ Aside0 (Kd.R k52 52 w' w.heap.size (fun _ => True) v621 t620) ∧ Aside0 (w'.heap[gb615]? = some (.cells #[.int .i64 a1_0, .int .i64 a1_1, .int .i64 a1_2, .int .i64 a1_3] 27 (0, 0))) ∧ Aside0 (Below w.heap.size w w'))
         case atStart => exact ⟨(0), Z2, H', ⟨Nat.le_refl _⟩, ⟨by (with_reducible repeat (first | apply Kd.R_alloc | apply Kd.R_drewN | apply Kd.R_drew)); exact HO_8.out⟩, ⟨bo_ BK615⟩, ⟨hb_⟩⟩
         case round =>
          clear H'
          try clear c1
          try clear c2
          try clear p2
          try clear c4
          try clear c5
          try clear c10
          try clear c12
          try clear c13
          try clear c13b0
          try clear c19
          try clear c24
          try clear c27
          try clear c27b0
          try clear c28
          try clear c28b0
          try clear c28b1
          try clear c43
          try clear c43b0
          try clear c43b1
          try clear c44
          try clear c45
          try clear hcz15_0
          try clear hcz15_1
          try clear hcz15_2
          try clear hcz15_3
          try clear hcz18_0
          try clear hcz18_1
          try clear hcz18_2
          try clear hcz18_3
          try clear hcz21_0
          try clear hcz21_1
          try clear hcz21_2
          try clear hcz21_3
          try clear hcz29_0
          try clear hcz29_1
          try clear hcz29_2
          try clear hcz29_3
          try clear hcz31_0
          try clear hcz31_1
          try clear hcz31_2
          try clear hcz31_3
          try clear hcz34_0
          try clear hcz34_1
          try clear hcz34_2
          try clear hcz34_3
          try clear hcz36_0
          try clear hcz36_1
          try clear hcz36_2
          try clear hcz36_3
          try clear hcz39_0
          try clear hcz39_1
          try clear hcz39_2
          try clear hcz39_3
          try clear hcz41_0
          try clear hcz41_1
          try clear hcz41_2
          try clear hcz41_3
          try clear hfz15_0
          try clear hfz15_1
          try clear hfz15_2
          try clear hfz15_3
          try clear hfz18_0
          try clear hfz18_1
          try clear hfz18_2
          try clear hfz18_3
          try clear hfz21_0
          try clear hfz21_1
          try clear hfz21_2
          try clear hfz21_3
          try clear hfz29_0
          try clear hfz29_1
          try clear hfz29_2
          try clear hfz29_3
          try clear hfz31_0
          try clear hfz31_1
          try clear hfz31_2
          try clear hfz31_3
          try clear hfz34_0
          try clear hfz34_1
          try clear hfz34_2
          try clear hfz34_3
          try clear hfz36_0
          try clear hfz36_1
          try clear hfz36_2
          try clear hfz36_3
          try clear hfz39_0
          try clear hfz39_1
          try clear hfz39_2
          try clear hfz39_3
          try clear hfz41_0
          try clear hfz41_1
          try clear hfz41_2
          try clear hfz41_3
          try clear p2
          obtain ⟨x10_3, rfl, HA, HK3, HO_8, BK615, HB⟩ := hrel
          cases gk with
          | zero => exact absurd HA.out (by simp [ensemblelaw05_PackWhole.l0])
          | succ k3 =>
           have H := HA.out
           clear HA
           simp only [ensemblelaw05_PackWhole.l0] at H
           by_cases c46 : x10_3 < (t620.length : Int)
           ·rw [if_pos c46] at H
            have c46b0 : decide (x10_3 < (t620.length : Int)) = true := decide_eq_true c46
            clear c46
            by_cases c47 : 0 ≤ x10_3
            ·rw [if_pos c47] at H
             have c47b0 : decide (0 ≤ x10_3) = true := decide_eq_true c47
             clear c47
             by_cases c48 : ((rd_T52 t620 x10_3).f2) = a1_1
             ·rw [if_pos c48] at H
              have c48b0 : (((rd_T52 t620 x10_3).f2) == a1_1) = true := beq_iff_eq.mpr c48
              have c48b1 : (((rd_T52 t620 x10_3).f2) != a1_1) = false := bne_eq_false_iff_eq.mpr c48
              clear c48
              obtain ⟨y626, hy626⟩ : ∃ y_ : List (S51), y_ = (([(⟨(⟨0, 0⟩ : S48), (rd_T52 t620 x10_3).f1, 0⟩ : S51)] : List (S51))) := ⟨_, rfl⟩
              replace H : ((ensembleref02_Count.f k3 y626).bind fun bt629 => (if bt629.1 = a1_0 then (ensemblelaw05_PackWhole.l0 k3 l0 t619 t620 (wrap64 (x10_3 + 1)) a1_0 a1_1 a1_2 a1_3) else (some false))) = some r := by first | (rw [hy626]; with_reducible exact H) | (have H2_ := (Option.bind_some _ _).symm.trans H; rw [hy626]; with_reducible exact H2_) | (have H2_ := (Option.bind_some _ _).symm.trans H; with_reducible exact H2_) | with_reducible exact H | (rw [hy626]; exact H) | exact H
              have Ny626 := Aside0.mk hy626
              clear hy626
              replace H := Option.bind_eq_some_iff.mp H
              obtain ⟨⟨t629, t630⟩, A490, H⟩ := H
              replace H : (if t629 = a1_0 then (ensemblelaw05_PackWhole.l0 k3 l0 t619 t620 (wrap64 (x10_3 + 1)) a1_0 a1_1 a1_2 a1_3) else (some false)) = some r := H
              have A49 := Aside0.mk A490
              clear A490
              by_cases c50 : t629 = a1_0
              ·rw [if_pos c50] at H
               have c50b0 : (t629 == a1_0) = true := beq_iff_eq.mpr c50
               have c50b1 : (t629 != a1_0) = false := bne_eq_false_iff_eq.mpr c50
               clear c50
               have H' := Aside0.mk H
               clear H
               obtain ⟨Ao51, co51, eo51⟩ := Kd.R_slice HO_8.out
               subst eo51
               try go_wp2
               replace HO_8 := Aside0.mk (Kd.R_drew HO_8.out)
               replace BK615 := Aside0.mk (blk_drew BK615.out)
               replace HB := Aside0.mk (below_drew1 HB.out)
               have p624 : 0 ≤ (x10_3 : Int) := of_decide_eq_true Z1
               have q624 : x10_3 < (t620.length : Int) := of_decide_eq_true Z1
               obtain ⟨ad624, e624, hx624_0, hx624_1, hx624_2, hx624_3⟩ := at_T52 (Kd.R_reads' HO_8.out).2.2 x10_3 p624 q624
               cases e624
               replace p624 := eq_true p624
               replace q624 := eq_true q624
               have p625 : 0 ≤ (x10_3 : Int) := of_decide_eq_true Z1
               have q625 : x10_3 < (t620.length : Int) := of_decide_eq_true Z1
               obtain ⟨ad625, e625, hx625_0, hx625_1, hx625_2, hx625_3⟩ := at_T52 (Kd.R_reads' HO_8.out).2.2 x10_3 p625 q625
               obtain rfl : ad624 = ad625 := (by injection e625)
               replace p625 := eq_true p625
               replace q625 := eq_true q625
               refine start_ (n := 22) (S := fun w' => w'.cell? ⟨gb615, 0, none⟩ = some (.int .i64 a1_0) ∧ w'.cell? ⟨gb615, 1, none⟩ = some (.int .i64 a1_1) ∧ w'.cell? ⟨gb615, 2, none⟩ = some (.int .i64 a1_2) ∧ w'.cell? ⟨gb615, 3, none⟩ = some (.int .i64 a1_3) ∧ w'.cell? (ad624.add ((x10_3).toNat * 4)) = some (.int .i64 ((rd_T52 t620 x10_3).f0.f0)) ∧ w'.cell? ⟨(ad624.add ((x10_3).toNat * 4)).block, (ad624.add ((x10_3).toNat * 4)).off + 1, none⟩ = some (.int .i64 ((rd_T52 t620 x10_3).f0.f1)) ∧ w'.cell? ⟨(ad624.add ((x10_3).toNat * 4)).block, (ad624.add ((x10_3).toNat * 4)).off + 2, none⟩ = some (.int .u64 ((rd_T52 t620 x10_3).f1)) ∧ w'.cell? ⟨(ad624.add ((x10_3).toNat * 4)).block, (ad624.add ((x10_3).toNat * 4)).off + 3, none⟩ = some (.int .i64 ((rd_T52 t620 x10_3).f2)) ∧ w'.cell? (ad624.add ((x10_3).toNat * 4)) = some (.int .i64 ((rd_T52 t620 x10_3).f0.f0)) ∧ w'.cell? ⟨(ad624.add ((x10_3).toNat * 4)).block, (ad624.add ((x10_3).toNat * 4)).off + 1, none⟩ = some (.int .i64 ((rd_T52 t620 x10_3).f0.f1)) ∧ w'.cell? ⟨(ad624.add ((x10_3).toNat * 4)).block, (ad624.add ((x10_3).toNat * 4)).off + 2, none⟩ = some (.int .u64 ((rd_T52 t620 x10_3).f1)) ∧ w'.cell? ⟨(ad624.add ((x10_3).toNat * 4)).block, (ad624.add ((x10_3).toNat * 4)).off + 3, none⟩ = some (.int .i64 ((rd_T52 t620 x10_3).f2))) (ds := []) (bm 22 0) (by kernel_rfl) rfl rfl ⟨(blk_cell BK615.out 0).trans rfl, (blk_cell BK615.out 1).trans rfl, (blk_cell BK615.out 2).trans rfl, (blk_cell BK615.out 3).trans rfl, hx624_0, hx624_1, hx624_2, hx624_3, hx625_0, hx625_1, hx625_2, hx625_3⟩ (fun hHeld => ?_); refine with_tabW ensemblelaw05_PackWhole.tab14 ensemblelaw05_PackWhole.bits14 (fun HT_ HW_ => ?_)
               generalize wr.drew = w52 at HO_8 BK615 HB hx624_0 hx624_1 hx624_2 hx624_3 hx625_0 hx625_1 hx625_2 hx625_3 hHeld ⊢
               refine pu 0 (some 68) (bm 22 1) ?_
               refine pu 1 (some 69) (bm 22 3) ?_
               refine pu 2 (some 70) (bm 22 7) ?_
               refine pu 3 (some 71) (bm 22 15) ?_
               refine pu 5 (some 73) (bm 22 47) ?_
               refine tk12 4 (some 72) (bm 22 63) ?_
               refine tk12 6 (some 74) (bm 22 127) ?_
               refine pu 7 (some 75) (bm 22 255) ?_
               refine pu 8 (some 76) (bm 22 511) ?_
               refine pu 9 (some 77) (bm 22 1023) ?_
               refine pu 10 (some 78) (bm 22 2047) ?_
               refine pu 11 (some 79) (bm 22 4095) ?_
               refine pu 12 (some 80) (bm 22 8191) ?_
               refine pu 18 (some 86) (bm 22 270335) ?_
               refine tk12 13 (some 81) (bm 22 278527) ?_
               refine pu 14 (some 82) (bm 22 294911) ?_
               refine tk12 19 (some 87) (bm 22 819199) ?_
               refine one_ (i := 15) (N := some 83) (bm 22 851967) rfl rfl (one_of HT_.out (by kernel_rfl)) (by decide) (fun K hK => ?_)
               refine Kd.R_lit_step k51 _ 51 ?hg (N := 83) ?hd (xs := ([(⟨(⟨0, 0⟩ : S48), (rd_T52 t620 x10_3).f1, 0⟩ : S51)] : List (S51))) (inner := [.int .i64 0, .int .i64 0, .int .u64 ((rd_T52 t620 x10_3).f1), .int .i64 0]) (ok := fun _ => True) (okp := fun _ => True) ?hr ?hp (fun _ hk => hk) trivial (Below.refl _ _) (Nat.le_refl _) (by simp) ?_; (case hd => rfl); (case hg => rfl); (case hr => first | (go_simp; done) | (go_simp; rfl)); (case hp => exact (Reps.c4 (show Kd.M k51 _ _ _ (⟨(⟨0, 0⟩ : S48), (rd_T52 t620 x10_3).f1, 0⟩ : S51) [.int .i64 0, .int .i64 0, .int .u64 ((rd_T52 t620 x10_3).f1), .int .i64 0] from (k51_mkM _ _ _ (⟨(⟨0, 0⟩ : S48), (rd_T52 t620 x10_3).f1, 0⟩ : S51) )) (Reps.none _ _)))
               intro v627 w53 ho54 hb hg_ hnew_
               have HS4_ := (hb.cell (World.block_lt_of_cell? _ _ (hHeld.2.2.2.2.1))).trans (hHeld.2.2.2.2.1)
               have HS5_ := (hb.cell (World.block_lt_of_cell? _ _ (hHeld.2.2.2.2.2.1))).trans (hHeld.2.2.2.2.2.1)
               have HS6_ := (hb.cell (World.block_lt_of_cell? _ _ (hHeld.2.2.2.2.2.2.1))).trans (hHeld.2.2.2.2.2.2.1)
               have HS7_ := (hb.cell (World.block_lt_of_cell? _ _ (hHeld.2.2.2.2.2.2.2.1))).trans (hHeld.2.2.2.2.2.2.2.1)
               have HS8_ := (hb.cell (World.block_lt_of_cell? _ _ (hHeld.2.2.2.2.2.2.2.2.1))).trans (hHeld.2.2.2.2.2.2.2.2.1)
               have HS9_ := (hb.cell (World.block_lt_of_cell? _ _ (hHeld.2.2.2.2.2.2.2.2.2.1))).trans (hHeld.2.2.2.2.2.2.2.2.2.1)
               have HS10_ := (hb.cell (World.block_lt_of_cell? _ _ (hHeld.2.2.2.2.2.2.2.2.2.2.1))).trans (hHeld.2.2.2.2.2.2.2.2.2.2.1)
               have HS11_ := (hb.cell (World.block_lt_of_cell? _ _ (hHeld.2.2.2.2.2.2.2.2.2.2.2))).trans (hHeld.2.2.2.2.2.2.2.2.2.2.2)
               clear hg_ hnew_
               (first | rw [← Ny626.out] at ho54 | (simp only [Int.reduceToNat] at ho54; rw [← Ny626.out] at ho54))
               have HO628 := Aside0.mk (Kd.R_lower ho54 (below_size hb_))
               replace HO_8 := Aside0.mk (Kd.R_below Z5 hb)
               replace BK615 := bk_ BK615 hb
               replace HB := hs_ hb
               clear hb ho54
               obtain ⟨Ao55, co55, eo55⟩ := Kd.R_slice HO628.out
               (first | subst eo55 | (injection eo55 with f1_ f2_ f3_; have f4_ := f1_.symm; have f5_ := f3_.symm; clear f1_ f2_ f3_; subst f4_; subst f5_))
               refine hK.out _ _ ⟨(blk_cell BK615.out 0).trans rfl, (blk_cell BK615.out 1).trans rfl, (blk_cell BK615.out 2).trans rfl, (blk_cell BK615.out 3).trans rfl, HS4_, HS5_, HS6_, HS7_, HS8_, HS9_, HS10_, HS11_⟩ (fun hHeld => ?_)
               clear hK K
               refine norm_ (a' := ?_) ?_ ?_
               rotate_left
               ·show Act.put _ (some 83) _ = _
                simp only [Act.put, List.setIfInBounds_toArray, List.set_cons_zero, List.set_cons_succ, i64_w, i32_w]
                rfl
               refine one_ (i := 16) (N := some 84) (bm 22 917503) rfl rfl (one_of HT_.out (by kernel_rfl)) (by decide) (fun K hK => ?_)
               refine goes_ Try.func53 (by kernel_rfl) rfl #[.slice Ao55 y626.length co55] (by rfl) rfl rfl Z0 ?_
               with_reducible refine (ensembleref02_Count.calls k3 _ _ y626 t629 t630 _ ?side1 ?side2 A49.out).mono ?_
               (case side1 => repeat (first | exact (Kd.R_reads' HO628.out).2.2 | (with_reducible refine Kd.C_alloc ?_ _) | (with_reducible refine Kd.C_drewN ?_ _) | (with_reducible refine Kd.C_drew ?_)))
               (case side2 => exact (Kd.R_reads' HO628.out).2.1)
               rintro e w56 ⟨rfl, hb⟩
               have HS4_ := (hb.cell (World.block_lt_of_cell? _ _ (hHeld.2.2.2.2.1))).trans (hHeld.2.2.2.2.1)
               have HS5_ := (hb.cell (World.block_lt_of_cell? _ _ (hHeld.2.2.2.2.2.1))).trans (hHeld.2.2.2.2.2.1)
               have HS6_ := (hb.cell (World.block_lt_of_cell? _ _ (hHeld.2.2.2.2.2.2.1))).trans (hHeld.2.2.2.2.2.2.1)
               have HS7_ := (hb.cell (World.block_lt_of_cell? _ _ (hHeld.2.2.2.2.2.2.2.1))).trans (hHeld.2.2.2.2.2.2.2.1)
               have HS8_ := (hb.cell (World.block_lt_of_cell? _ _ (hHeld.2.2.2.2.2.2.2.2.1))).trans (hHeld.2.2.2.2.2.2.2.2.1)
               have HS9_ := (hb.cell (World.block_lt_of_cell? _ _ (hHeld.2.2.2.2.2.2.2.2.2.1))).trans (hHeld.2.2.2.2.2.2.2.2.2.1)
               have HS10_ := (hb.cell (World.block_lt_of_cell? _ _ (hHeld.2.2.2.2.2.2.2.2.2.2.1))).trans (hHeld.2.2.2.2.2.2.2.2.2.2.1)
               have HS11_ := (hb.cell (World.block_lt_of_cell? _ _ (hHeld.2.2.2.2.2.2.2.2.2.2.2))).trans (hHeld.2.2.2.2.2.2.2.2.2.2.2)
               refine ⟨_, rfl, ?_⟩
               replace HO_8 := Aside0.mk (Kd.R_below Z5 hb)
               replace HO628 := Aside0.mk (Kd.R_below (by (with_reducible repeat (first | apply Kd.R_alloc | apply Kd.R_drewN | apply Kd.R_drew)); exact HO628.out) hb)
               replace BK615 := bk_ BK615 hb
               replace HB := hs_ hb
               (try clear hb)
               (try clear hb2)
               (try clear hk)
               (try clear hi)
               refine hK.out _ _ ⟨(blk_cell BK615.out 0).trans rfl, (blk_cell BK615.out 1).trans rfl, (blk_cell BK615.out 2).trans rfl, (blk_cell BK615.out 3).trans rfl, HS4_, HS5_, HS6_, HS7_, HS8_, HS9_, HS10_, HS11_⟩ (fun hHeld => ?_)
               clear hK K
               refine norm_ (a' := ?_) ?_ ?_
               rotate_left
               ·show Act.put _ (some 84) _ = _
                simp only [Act.put, List.setIfInBounds_toArray, List.set_cons_zero, List.set_cons_succ, i64_w, i32_w]
                rfl
               refine pu 17 (some 85) (bm 22 1048575) ?_
               refine pu 20 (some 88) (bm 22 2097151) ?_
               refine pu 21 (some 89) (bm 22 4194303) ?_
               refine done_ (done_of HT_.out (by kernel_rfl)) ?_
               try go_wp2
               go_roundg k3
               case measure => have := HJ5.out; have := HJ37.out; have := HK3.out; omega
               case rel => exact ⟨(wrap64 (x10_3 + 1)), Z2, H', ⟨by have := HJ5.out; have := HJ37.out; have := HK3.out; omega⟩, ⟨by (with_reducible repeat (first | apply Kd.R_alloc | apply Kd.R_drewN | apply Kd.R_drew)); exact HO_8.out⟩, ⟨bo_ BK615⟩, ⟨hb_⟩⟩
              ·rw [if_neg c50] at H
               have c50b0 : (t629 == a1_0) = false := beq_eq_false_iff_ne.mpr c50
               have c50b1 : (t629 != a1_0) = true := bne_iff_ne.mpr c50
               rw [hr_] at H
               cases H
             ·rw [if_neg c48] at H
              have c48b0 : (((rd_T52 t620 x10_3).f2) == a1_1) = false := beq_eq_false_iff_ne.mpr c48
              have c48b1 : (((rd_T52 t620 x10_3).f2) != a1_1) = true := bne_iff_ne.mpr c48
              clear hr_
              obtain rfl := Option.some.inj H
              obtain ⟨Ao63, co63, eo63⟩ := Kd.R_slice HO_8.out
              subst eo63
              try go_wp2
              replace HO_8 := Aside0.mk (Kd.R_drew HO_8.out)
              replace BK615 := Aside0.mk (blk_drew BK615.out)
              replace HB := Aside0.mk (below_drew1 HB.out)
              have p624 : 0 ≤ (x10_3 : Int) := of_decide_eq_true Z1
              have q624 : x10_3 < (t620.length : Int) := of_decide_eq_true Z1
              obtain ⟨ad624, e624, hx624_0, hx624_1, hx624_2, hx624_3⟩ := at_T52 (Kd.R_reads' HO_8.out).2.2 x10_3 p624 q624
              cases e624
              replace p624 := eq_true p624
              replace q624 := eq_true q624
              refine start_ (n := 22) (S := fun w' => w'.cell? ⟨gb615, 0, none⟩ = some (.int .i64 a1_0) ∧ w'.cell? ⟨gb615, 1, none⟩ = some (.int .i64 a1_1) ∧ w'.cell? ⟨gb615, 2, none⟩ = some (.int .i64 a1_2) ∧ w'.cell? ⟨gb615, 3, none⟩ = some (.int .i64 a1_3) ∧ w'.cell? (ad624.add ((x10_3).toNat * 4)) = some (.int .i64 ((rd_T52 t620 x10_3).f0.f0)) ∧ w'.cell? ⟨(ad624.add ((x10_3).toNat * 4)).block, (ad624.add ((x10_3).toNat * 4)).off + 1, none⟩ = some (.int .i64 ((rd_T52 t620 x10_3).f0.f1)) ∧ w'.cell? ⟨(ad624.add ((x10_3).toNat * 4)).block, (ad624.add ((x10_3).toNat * 4)).off + 2, none⟩ = some (.int .u64 ((rd_T52 t620 x10_3).f1)) ∧ w'.cell? ⟨(ad624.add ((x10_3).toNat * 4)).block, (ad624.add ((x10_3).toNat * 4)).off + 3, none⟩ = some (.int .i64 ((rd_T52 t620 x10_3).f2))) (ds := []) (bm 22 0) (by kernel_rfl) rfl rfl ⟨(blk_cell BK615.out 0).trans rfl, (blk_cell BK615.out 1).trans rfl, (blk_cell BK615.out 2).trans rfl, (blk_cell BK615.out 3).trans rfl, hx624_0, hx624_1, hx624_2, hx624_3⟩ (fun hHeld => ?_); refine with_tabW ensemblelaw05_PackWhole.tab14 ensemblelaw05_PackWhole.bits14 (fun HT_ HW_ => ?_)
              generalize wr.drew = w64 at HO_8 BK615 HB hx624_0 hx624_1 hx624_2 hx624_3 hHeld ⊢
              refine pu 0 (some 68) (bm 22 1) ?_
              refine pu 1 (some 69) (bm 22 3) ?_
              refine pu 2 (some 70) (bm 22 7) ?_
              refine pu 3 (some 71) (bm 22 15) ?_
              refine pu 5 (some 73) (bm 22 47) ?_
              refine tk8 4 (some 72) (bm 22 63) ?_
              refine tk8 6 (some 74) (bm 22 127) ?_
              refine pu 7 (some 75) (bm 22 255) ?_
              refine pu 8 (some 76) (bm 22 511) ?_
              refine pv 9 (some 77) (bm 22 1023) ?_
              refine pv 10 (some 78) (bm 22 2047) ?_
              refine pv 11 (some 79) (bm 22 4095) ?_
              refine pv 12 (some 80) (bm 22 8191) ?_
              refine pv 13 (some 81) (bm 22 16383) ?_
              refine pv 14 (some 82) (bm 22 32767) ?_
              refine pv 15 (some 83) (bm 22 65535) ?_
              refine pv 16 (some 84) (bm 22 131071) ?_
              refine pv 17 (some 85) (bm 22 262143) ?_
              refine pv 18 (some 86) (bm 22 524287) ?_
              refine pv 19 (some 87) (bm 22 1048575) ?_
              refine pv 20 (some 88) (bm 22 2097151) ?_
              refine pu 21 (some 89) (bm 22 4194303) ?_
              refine done_ (done_of HT_.out (by kernel_rfl)) ?_
              try go_wp2
              go_ret
              exact ⟨by first | rfl | (simp [errW_none, errW_some] <;> rfl) | (simp [*, errW_none, errW_some] <;> rfl), hb_⟩
            ·rw [if_neg c47] at H
             exact absurd H (by simp)
           ·rw [if_neg c46] at H
            have c46b0 : decide (x10_3 < (t620.length : Int)) = false := decide_eq_false c46
            clear c46
            replace H := Option.bind_eq_some_iff.mp H
            obtain ⟨⟨t631, t632⟩, A650, H⟩ := H
            replace H : ((pack_More.f t631 t620).bind fun bt635 => (if t632 = 0 then (if bt635.2 = 0 then ((ensembleref02_Same.f k3 bt635.1 l0).bind fun t639 => (if t639 = true then ((pack_Room.f k3 t631 a1_0 a1_1 a1_2 a1_3).bind fun t640 => (if t640 ≥ 0 then (if t640 = 0 then (some true) else (some (decide (t640 ≤ t619)))) else (some false))) else (some false))) else (some false)) else (some false))) = some r := H
            have A65 := Aside0.mk A650
            clear A650
            replace H := Option.bind_eq_some_iff.mp H
            obtain ⟨⟨t635, t636⟩, A660, H⟩ := H
            replace H : (if t632 = 0 then (if t636 = 0 then ((ensembleref02_Same.f k3 t635 l0).bind fun t639 => (if t639 = true then ((pack_Room.f k3 t631 a1_0 a1_1 a1_2 a1_3).bind fun t640 => (if t640 ≥ 0 then (if t640 = 0 then (some true) else (some (decide (t640 ≤ t619)))) else (some false))) else (some false))) else (some false)) else (some false)) = some r := H
            have A66 := Aside0.mk A660
            clear A660
            by_cases c67 : t632 = 0
            ·rw [if_pos c67] at H
             have c67b0 : (t632 == 0) = true := beq_iff_eq.mpr c67
             have c67b1 : (t632 != 0) = false := bne_eq_false_iff_eq.mpr c67
             clear c67
             by_cases c68 : t636 = 0
             ·rw [if_pos c68] at H
              have c68b0 : (t636 == 0) = true := beq_iff_eq.mpr c68
              have c68b1 : (t636 != 0) = false := bne_eq_false_iff_eq.mpr c68
              clear c68
              replace H := Option.bind_eq_some_iff.mp H
              obtain ⟨t639, A690, H⟩ := H
              replace H : (if t639 = true then ((pack_Room.f k3 t631 a1_0 a1_1 a1_2 a1_3).bind fun t640 => (if t640 ≥ 0 then (if t640 = 0 then (some true) else (some (decide (t640 ≤ t619)))) else (some false))) else (some false)) = some r := H
              have A69 := Aside0.mk A690
              clear A690
              by_cases c70 : t639 = true
              ·subst c70
               have H1 : ((pack_Room.f k3 t631 a1_0 a1_1 a1_2 a1_3).bind fun t640 => (if t640 ≥ 0 then (if t640 = 0 then (some true) else (some (decide (t640 ≤ t619)))) else (some false))) = some r := by rw [if_pos rfl] at H; exact H
               clear H
               have H := H1
               clear H1
               replace H := Option.bind_eq_some_iff.mp H
               obtain ⟨t640, A710, H⟩ := H
               replace H : (if t640 ≥ 0 then (if t640 = 0 then (some true) else (some (decide (t640 ≤ t619)))) else (some false)) = some r := H
               have A71 := Aside0.mk A710
               clear A710
               by_cases c72 : t640 ≥ 0
               ·rw [if_pos c72] at H
                have c72b0 : decide (0 ≤ t640) = true := decide_eq_true c72
                clear c72
                by_cases c73 : t640 = 0
                ·rw [if_pos c73] at H
                 have c73b0 : (t640 == 0) = true := beq_iff_eq.mpr c73
                 have c73b1 : (t640 != 0) = false := bne_eq_false_iff_eq.mpr c73
                 clear c73
                 clear hr_
                 obtain rfl := Option.some.inj H
                 obtain ⟨Ao74, co74, eo74⟩ := Kd.R_slice HO_8.out
                 subst eo74
                 go_wp2_with (first | ((with_reducible refine gate_callee (f := 51) rfl ?_); refine goesL_ (some 93) rfl rfl Try.func51 (by kernel_rfl) rfl #[.slice A0 l0.length c0, .slice Ao74 t620.length co74] rfl Z0 ?_; (with_reducible refine (pack_Less.calls _ _ l0 _ _ t620 t631 t632 _ ?side1 ?side2 ?side3 ?side4 A65.out).mono ?_); (case side1 => exact cs_ HR0); (case side2 => exact HC0.out); (case side3 => repeat (first | exact (Kd.R_reads' HO_8.out).2.2 | (with_reducible refine Kd.C_alloc ?_ _) | (with_reducible refine Kd.C_drewN ?_ _) | (with_reducible refine Kd.C_drew ?_))); (case side4 => exact (Kd.R_reads' HO_8.out).2.1); rintro e w75 ⟨v633, rfl, ho0, hb⟩; refine ⟨_, rfl, ?_⟩; have HO634 := Aside0.mk (Kd.R_lower ho0 (below_size hb_)); replace HO_8 := Aside0.mk (Kd.R_below Z5 hb); replace BK615 := bk_ BK615 hb; replace HB := hs_ hb; (try clear hb); (try clear hb2); (try clear hk); (try clear hi); (try clear ho0); obtain ⟨Ao76, co76, eo76⟩ := Kd.R_slice HO634.out; subst eo76) | ((with_reducible refine gate_callee (f := 52) rfl ?_); refine goesL_ (some 99) rfl rfl Try.func52 (by kernel_rfl) rfl #[.slice Ao76 t631.length co76, .slice Ao74 t620.length co74] rfl Z0 ?_; (with_reducible refine (pack_More.calls _ _ t631 _ _ t620 t635 t636 _ ?side1 ?side2 ?side3 ?side4 A66.out).mono ?_); (case side1 => repeat (first | exact (Kd.R_reads' HO634.out).2.2 | (with_reducible refine Kd.C_alloc ?_ _) | (with_reducible refine Kd.C_drewN ?_ _) | (with_reducible refine Kd.C_drew ?_))); (case side2 => exact (Kd.R_reads' HO634.out).2.1); (case side3 => repeat (first | exact (Kd.R_reads' HO_8.out).2.2 | (with_reducible refine Kd.C_alloc ?_ _) | (with_reducible refine Kd.C_drewN ?_ _) | (with_reducible refine Kd.C_drew ?_))); (case side4 => exact (Kd.R_reads' HO_8.out).2.1); rintro e w77 ⟨v637, rfl, ho0, hb⟩; refine ⟨_, rfl, ?_⟩; have HO638 := Aside0.mk (Kd.R_lower (Kd.R_new' ho0 (Kd.R_lt Z6)) (below_size hb_)); replace HO_8 := Aside0.mk (Kd.R_below Z5 hb); replace HO634 := Aside0.mk (Kd.R_elder' Z6 (Kd.R_base ho0) hb); replace BK615 := bk_ BK615 hb; replace HB := hs_ hb; (try clear hb); (try clear hb2); (try clear hk); (try clear hi); (try clear ho0); obtain ⟨Ao78, co78, eo78⟩ := Kd.R_slice HO638.out; subst eo78) | (go_at_call 54; (with_reducible refine (ensembleref02_Same.calls k3 _ _ t635 _ _ l0 true _ ?side1 ?side2 ?side3 ?side4 A69.out).mono ?_); (case side1 => repeat (first | exact (Kd.R_reads' HO638.out).2.2 | (with_reducible refine Kd.C_alloc ?_ _) | (with_reducible refine Kd.C_drewN ?_ _) | (with_reducible refine Kd.C_drew ?_))); (case side2 => exact (Kd.R_reads' HO638.out).2.1); (case side3 => exact cs_ HR0); (case side4 => exact HC0.out); rintro e w' ⟨rfl, ⟨nd, rfl⟩⟩; obtain ⟨hcz79_0, hcz79_1, hcz79_2, hcz79_3, hfz79_0, hfz79_1, hfz79_2, hfz79_3⟩ := bz4_ BK615) | ((with_reducible refine gate_callee (f := 50) rfl ?_); refine goesL_ (some 116) rfl rfl Try.func50 (by kernel_rfl) rfl #[.slice Ao76 t631.length co76, .agg #[.int .i64 a1_0, .int .i64 a1_1, .int .i64 a1_2, .int .i64 a1_3]] rfl Z0 ?_; (with_reducible refine (pack_Room.calls k3 _ _ t631 a1_0 a1_1 a1_2 a1_3 t640 _ ?side1 ?side2 A71.out).mono ?_); (case side1 => repeat (first | exact (Kd.R_reads' HO634.out).2.2 | (with_reducible refine Kd.C_alloc ?_ _) | (with_reducible refine Kd.C_drewN ?_ _) | (with_reducible refine Kd.C_drew ?_))); (case side2 => exact (Kd.R_reads' HO634.out).2.1); rintro e w80 ⟨rfl, hb⟩; refine ⟨_, rfl, ?_⟩; replace HO_8 := Aside0.mk (Kd.R_below Z5 hb); replace HO634 := Aside0.mk (Kd.R_below Z6 hb); replace HO638 := Aside0.mk (Kd.R_below (by (with_reducible repeat (first | apply Kd.R_alloc | apply Kd.R_drewN | apply Kd.R_drew)); exact HO638.out) hb); replace BK615 := bk_ BK615 hb; replace HB := hs_ hb; (try clear hb); (try clear hb2); (try clear hk); (try clear hi)))
                 go_ret
                 exact ⟨by first | rfl | (simp [errW_none, errW_some] <;> rfl) | (simp [*, errW_none, errW_some] <;> rfl), hb_⟩
                ·rw [if_neg c73] at H
                 have c73b0 : (t640 == 0) = false := beq_eq_false_iff_ne.mpr c73
                 have c73b1 : (t640 != 0) = true := bne_iff_ne.mpr c73
                 clear hr_
                 obtain rfl := Option.some.inj H
                 obtain ⟨Ao81, co81, eo81⟩ := Kd.R_slice HO_8.out
                 subst eo81
                 go_wp2_with (first | ((with_reducible refine gate_callee (f := 51) rfl ?_); refine goesL_ (some 93) rfl rfl Try.func51 (by kernel_rfl) rfl #[.slice A0 l0.length c0, .slice Ao81 t620.length co81] rfl Z0 ?_; (with_reducible refine (pack_Less.calls _ _ l0 _ _ t620 t631 t632 _ ?side1 ?side2 ?side3 ?side4 A65.out).mono ?_); (case side1 => exact cs_ HR0); (case side2 => exact HC0.out); (case side3 => repeat (first | exact (Kd.R_reads' HO_8.out).2.2 | (with_reducible refine Kd.C_alloc ?_ _) | (with_reducible refine Kd.C_drewN ?_ _) | (with_reducible refine Kd.C_drew ?_))); (case side4 => exact (Kd.R_reads' HO_8.out).2.1); rintro e w82 ⟨v633, rfl, ho0, hb⟩; refine ⟨_, rfl, ?_⟩; have HO634 := Aside0.mk (Kd.R_lower ho0 (below_size hb_)); replace HO_8 := Aside0.mk (Kd.R_below Z5 hb); replace BK615 := bk_ BK615 hb; replace HB := hs_ hb; (try clear hb); (try clear hb2); (try clear hk); (try clear hi); (try clear ho0); obtain ⟨Ao83, co83, eo83⟩ := Kd.R_slice HO634.out; subst eo83) | ((with_reducible refine gate_callee (f := 52) rfl ?_); refine goesL_ (some 99) rfl rfl Try.func52 (by kernel_rfl) rfl #[.slice Ao83 t631.length co83, .slice Ao81 t620.length co81] rfl Z0 ?_; (with_reducible refine (pack_More.calls _ _ t631 _ _ t620 t635 t636 _ ?side1 ?side2 ?side3 ?side4 A66.out).mono ?_); (case side1 => repeat (first | exact (Kd.R_reads' HO634.out).2.2 | (with_reducible refine Kd.C_alloc ?_ _) | (with_reducible refine Kd.C_drewN ?_ _) | (with_reducible refine Kd.C_drew ?_))); (case side2 => exact (Kd.R_reads' HO634.out).2.1); (case side3 => repeat (first | exact (Kd.R_reads' HO_8.out).2.2 | (with_reducible refine Kd.C_alloc ?_ _) | (with_reducible refine Kd.C_drewN ?_ _) | (with_reducible refine Kd.C_drew ?_))); (case side4 => exact (Kd.R_reads' HO_8.out).2.1); rintro e w84 ⟨v637, rfl, ho0, hb⟩; refine ⟨_, rfl, ?_⟩; have HO638 := Aside0.mk (Kd.R_lower (Kd.R_new' ho0 (Kd.R_lt Z6)) (below_size hb_)); replace HO_8 := Aside0.mk (Kd.R_below Z5 hb); replace HO634 := Aside0.mk (Kd.R_elder' Z6 (Kd.R_base ho0) hb); replace BK615 := bk_ BK615 hb; replace HB := hs_ hb; (try clear hb); (try clear hb2); (try clear hk); (try clear hi); (try clear ho0); obtain ⟨Ao85, co85, eo85⟩ := Kd.R_slice HO638.out; subst eo85) | (go_at_call 54; (with_reducible refine (ensembleref02_Same.calls k3 _ _ t635 _ _ l0 true _ ?side1 ?side2 ?side3 ?side4 A69.out).mono ?_); (case side1 => repeat (first | exact (Kd.R_reads' HO638.out).2.2 | (with_reducible refine Kd.C_alloc ?_ _) | (with_reducible refine Kd.C_drewN ?_ _) | (with_reducible refine Kd.C_drew ?_))); (case side2 => exact (Kd.R_reads' HO638.out).2.1); (case side3 => exact cs_ HR0); (case side4 => exact HC0.out); rintro e w' ⟨rfl, ⟨nd, rfl⟩⟩; obtain ⟨hcz86_0, hcz86_1, hcz86_2, hcz86_3, hfz86_0, hfz86_1, hfz86_2, hfz86_3⟩ := bz4_ BK615) | ((with_reducible refine gate_callee (f := 50) rfl ?_); refine goesL_ (some 116) rfl rfl Try.func50 (by kernel_rfl) rfl #[.slice Ao83 t631.length co83, .agg #[.int .i64 a1_0, .int .i64 a1_1, .int .i64 a1_2, .int .i64 a1_3]] rfl Z0 ?_; (with_reducible refine (pack_Room.calls k3 _ _ t631 a1_0 a1_1 a1_2 a1_3 t640 _ ?side1 ?side2 A71.out).mono ?_); (case side1 => repeat (first | exact (Kd.R_reads' HO634.out).2.2 | (with_reducible refine Kd.C_alloc ?_ _) | (with_reducible refine Kd.C_drewN ?_ _) | (with_reducible refine Kd.C_drew ?_))); (case side2 => exact (Kd.R_reads' HO634.out).2.1); rintro e w87 ⟨rfl, hb⟩; refine ⟨_, rfl, ?_⟩; replace HO_8 := Aside0.mk (Kd.R_below Z5 hb); replace HO634 := Aside0.mk (Kd.R_below Z6 hb); replace HO638 := Aside0.mk (Kd.R_below (by (with_reducible repeat (first | apply Kd.R_alloc | apply Kd.R_drewN | apply Kd.R_drew)); exact HO638.out) hb); replace BK615 := bk_ BK615 hb; replace HB := hs_ hb; (try clear hb); (try clear hb2); (try clear hk); (try clear hi)))
                 go_ret
                 exact ⟨by first | rfl | (simp [errW_none, errW_some] <;> rfl) | (simp [*, errW_none, errW_some] <;> rfl), hb_⟩
               ·rw [if_neg c72] at H
                have c72b0 : decide (0 ≤ t640) = false := decide_eq_false c72
                clear c72
                rw [hr_] at H
                cases H
              ·replace c70 := Bool.eq_false_iff.mpr c70
               subst c70
               have H1 : (some false) = some r := by rw [if_neg (show ¬ (false = true) by decide)] at H; exact H
               clear H
               have H := H1
               clear H1
               rw [hr_] at H
               cases H
             ·rw [if_neg c68] at H
              have c68b0 : (t636 == 0) = false := beq_eq_false_iff_ne.mpr c68
              have c68b1 : (t636 != 0) = true := bne_iff_ne.mpr c68
              rw [hr_] at H
              cases H
            ·rw [if_neg c67] at H
             have c67b0 : (t632 == 0) = false := beq_eq_false_iff_ne.mpr c67
             have c67b1 : (t632 != 0) = true := bne_iff_ne.mpr c67
             rw [hr_] at H
             cases H
 ·replace c5 := Bool.eq_false_iff.mpr c5
  subst c5
  have H1 : (some false) = some r := by rw [if_neg (show ¬ (false = true) by decide)] at H; exact H
  clear H
  have H := H1
  clear H1
  rw [hr_] at H
  cases H
end Go.Proofs.Ytckhjehibjdjdaa.P
namespace Go.Proofs.Ytckhjehibjdjdaa.Ob
open Go.RowKit Go.Deep Go.Proofs.YtckhjehibjdjdaaW.PrintWords Go.WideShapes
def Opens {α : Type} (P : Program) (t : TypeId) (d : Kd α) (wf : α → Prop) : Prop :=
 ∀ (H : Type) (enc : TypeId × Value → H) (W : World) (base : Nat) (spare : Nat → Bool) (held : Bool) (fuel : Nat) (cs : List Value) (x : DataW H × List MemPlace),
  DataW.trod enc P W base spare held fuel t cs = some x → ∃ a, d.K W a cs ∧ wf a
variable {P : Program} {t e : TypeId}
theorem Opens.int {k : IntKind} (ht : P.underlying t = some (.int k)) : Opens P t (Kd.int k) (fun n => (Lit.int k n).wf = true) := by
 intro H enc W base spare held fuel cs x h
 obtain ⟨n, rfl, _, hw⟩ := DataW.trod_int ht h
 exact ⟨n, rfl, hw⟩
theorem Opens.bool (ht : P.underlying t = some .bool) : Opens P t Kd.bool (fun _ => True) := by
 intro H enc W base spare held fuel cs x h
 obtain ⟨b, rfl, _⟩ := DataW.trod_bool ht h
 exact ⟨b, rfl, trivial⟩
theorem Opens.slice {α : Type} {d : Kd α} {wf : α → Prop} (ht : P.underlying t = some (.slice e)) (hsz : P.cellsOf e = d.sz) (he : Opens P e d wf) :
  Opens P t (Kd.slice e d) (fun xs => xs.length ≤ maxLen ∧ ∀ x ∈ xs, wf x) := by
 intro H enc W base spare held fuel cs x h
 rcases open_slice ht h with ⟨rfl, _⟩ | ⟨a, len, cap, m, n, D, Pl, rfl, _, hl, hm, hmm, hxx, hx⟩
 ·exact ⟨[], ⟨none, 0, rfl, Nat.le_refl _, rfl, by simp, fun h => absurd h (by simp)⟩, by simp [maxLen], fun x hx => by simp at hx⟩
 ·have hlm : len ≤ m := by rw [hmm]; split <;> omega
  have hx' : ∀ i, i < len → ∃ (y : α) (c : List Value), d.K W y c ∧ wf y ∧ c.length = d.sz ∧ ∀ j u, c[j]? = some u → W.cell? (a.add (i * d.sz + j)) = some u := by
   intro i hi
   obtain ⟨c, h1, h2⟩ := hx i (by omega)
   obtain ⟨y, hK, hw⟩ := he H enc W base spare held n c _ h2
   obtain ⟨_, h3, h4⟩ := World.cells?_some h1
   refine ⟨y, c, hK, hw, d.K_len hK, fun j u hu => ?_⟩
   have hj : j < c.length := by
    rcases Nat.lt_or_ge j c.length with h | h
    ·exact h
    ·rw [List.getElem?_eq_none h] at hu; cases hu
   have h5 := h4 j (by omega)
   rw [Deep.add_add, hsz] at h5
   rw [h5]; exact hu
  have hall : ∃ xs : List α, xs.length = len ∧ ∀ (i : Nat) (p : α), xs[i]? = some p → ∃ c, c.length = d.sz ∧ d.K W p c ∧ wf p ∧ ∀ j u, c[j]? = some u → W.cell? (a.add (i * d.sz + j)) = some u := by
   clear hx hm hl hmm hlm h hxx
   induction len with
   | zero => exact ⟨[], rfl, fun i p hp => by simp at hp⟩
   | succ len ih =>
    obtain ⟨xs, hxl, hxs⟩ := ih (fun i hi => hx' i (by omega))
    obtain ⟨y, c, hK, hw, hcl, hc⟩ := hx' len (by omega)
    refine ⟨xs ++ [y], by simp [hxl], fun i p hp => ?_⟩
    rcases Nat.lt_or_ge i xs.length with h | h
    ·rw [List.getElem?_append_left h] at hp
     exact hxs i p hp
    ·have hi : i = xs.length := by
      have := (List.getElem?_eq_some_iff.1 hp).1
      rw [List.length_append, List.length_singleton] at this
      omega
     subst hi
     have hp' : y = p := by simpa using hp
     subst hp'
     exact ⟨c, hcl, hK, hw, by rw [hxl]; exact hc⟩
  obtain ⟨xs, hxl, hxs⟩ := hall
  refine ⟨xs, ⟨some a, cap, by rw [hxl], by omega, rfl, by rw [hxl]; simp only [maxLen] at hm; omega, fun _ => ⟨a, rfl, fun j p hp => ?_⟩⟩, by rw [hxl]; omega, fun x hx => ?_⟩
  ·obtain ⟨c, h1, h2, _, h3⟩ := hxs j p hp
   exact ⟨c, h1, h2, h3⟩
  ·obtain ⟨i, hi, rfl⟩ := List.getElem_of_mem hx
   obtain ⟨_, _, _, h, _⟩ := hxs i _ (List.getElem?_eq_getElem hi)
   exact h
def OpensAt {α : Type} (P : Program) (fs : List (Nat × TypeId)) (off : Nat) (d : Kd α) (wf : α → Prop) : Prop :=
 ∀ (H : Type) (enc : TypeId × Value → H) (W : World) (base : Nat) (spare : Nat → Bool) (held : Bool) (fuel : Nat) (cs : List Value), cs.length = off + d.sz →
  (∀ f, f ∈ fs → ∃ x, DataW.trod enc P W base spare held fuel f.2 ((cs.drop f.1).take (P.cellsOf f.2)) = some x) → ∃ a, d.K W a (cs.drop off) ∧ wf a
theorem OpensAt.last {α : Type} {d : Kd α} {wf : α → Prop} {off : Nat} (h : Opens P t d wf) (hsz : P.cellsOf t = d.sz) : OpensAt P [(off, t)] off d wf := by
 intro H enc W base spare held fuel cs hl hf
 obtain ⟨x, hx⟩ := hf (off, t) (by simp)
 rw [hsz, List.take_of_length_le (by rw [List.length_drop]; omega)] at hx
 exact h H enc W base spare held fuel _ x hx
theorem OpensAt.cons {α β : Type} {d : Kd α} {wf : α → Prop} {d' : Kd β} {wf' : β → Prop} {off off' : Nat} {fs : List (Nat × TypeId)} (h : Opens P t d wf) (hsz : P.cellsOf t = d.sz) (ho : off' = off + d.sz)
  (h' : OpensAt P fs off' d' wf') : OpensAt P ((off, t) :: fs) off (Kd.pair d d') (fun x => wf x.1 ∧ wf' x.2) := by
 intro H enc W base spare held fuel cs hl hf
 obtain ⟨x, hx⟩ := hf (off, t) (by simp)
 have hl' : cs.length = off' + d'.sz := by rw [hl, ho]; show off + (d.sz + d'.sz) = _; omega
 obtain ⟨a, hK, hw⟩ := h H enc W base spare held fuel _ x hx
 obtain ⟨b, hK', hw'⟩ := h' H enc W base spare held fuel cs hl' (fun f hf' => hf f (by simp [hf']))
 refine ⟨(a, b), ⟨_, _, ?_, hK, hK'⟩, hw, hw'⟩
 rw [hsz, ho, ← List.drop_drop, List.take_append_drop]
theorem Opens.struct {α β : Type} {d : Kd β} {wf : β → Prop} {fs : Array Field} {l : List (Nat × TypeId)} (ht : P.underlying t = some (.struct fs)) (hl : fs.toList.map (fun f => (f.offset, f.type)) = l) (hsz : P.cellsOf t = d.sz)
  (h : OpensAt P l 0 d wf) (f : α → β) (g : β → α) (hfg : ∀ b, f (g b) = b) : Opens P t (Kd.iso d f) (fun x => wf (f x)) := by
 intro H enc W base spare held fuel cs x hx
 obtain ⟨xs, n, _, _, hcl, hxl, hfs⟩ := DataW.trod_struct ht hx
 obtain ⟨b, hK, hw⟩ := h H enc W base spare held n cs (by rw [hcl, hsz]; omega) (fun p hp => by
  rw [← hl] at hp
  obtain ⟨fd, hfd, rfl⟩ := List.mem_map.1 hp
  obtain ⟨i, hi, rfl⟩ := List.getElem_of_mem hfd
  have := hfs i fs.toList[i] (by simp)
  rw [List.getElem?_eq_getElem (by rw [hxl]; simpa using hi)] at this
  exact ⟨_, this⟩)
 exact ⟨g b, by show d.K W (f (g b)) cs; rw [hfg]; simpa using hK, by show wf (f (g b)); rw [hfg]; exact hw⟩
theorem Opens.imp {α : Type} {d : Kd α} {wf wf' : α → Prop} (h : Opens P t d wf) (hi : ∀ a, wf a → wf' a) : Opens P t d wf' := fun H enc W base spare held fuel cs x hx =>
 let ⟨a, h1, h2⟩ := h H enc W base spare held fuel cs x hx; ⟨a, h1, hi a h2⟩
theorem Opens.open {α : Type} {d : Kd α} {wf : α → Prop} (h : Opens P t d wf) {H : Type} {enc : TypeId × Value → H} {W : World} {base : Nat} {spare : Nat → Bool} {held : Bool} {v : Value} {y : DataW H} {p : List MemPlace}
  (hv : DataW.Trod enc P W base spare held t v y p) : ∃ a, d.K W a v.cells.toList ∧ wf a := by
 obtain ⟨fuel, hf⟩ := hv
 exact h H enc W base spare held fuel _ _ hf
end Go.Proofs.Ytckhjehibjdjdaa.Ob
namespace Go.Proofs.Ytckhjehibjdjdaa.P
open Go.RowKit Go.Proofs.Ytckhjehibjdjdaa.Ob Go.Proofs.YtckhjehibjdjdaaW.PrintWords
set_option linter.unusedVariables false
def I64 (x : Int) : Prop := -9223372036854775808 ≤ x ∧ x ≤ 9223372036854775807
def U64 (x : Int) : Prop := 0 ≤ x ∧ x ≤ 18446744073709551615
theorem i64_of {x : Int} (h : (Lit.int .i64 x).wf = true) : I64 x := by unfold I64; simp [Lit.wf, IntKind.min, IntKind.max, IntKind.bits, IntKind.signed] at h; omega
theorem u64_of {x : Int} (h : (Lit.int .u64 x).wf = true) : U64 x := by unfold U64; simp [Lit.wf, IntKind.min, IntKind.max, IntKind.bits, IntKind.signed] at h; omega
theorem o_i64 {t : TypeId} (h : Try.prog.underlying t = some (.int .i64)) : Opens Try.prog t (Kd.int .i64) I64 := (Opens.int h).imp fun _ h => i64_of h
theorem o_u64 {t : TypeId} (h : Try.prog.underlying t = some (.int .u64)) : Opens Try.prog t (Kd.int .u64) U64 := (Opens.int h).imp fun _ h => u64_of h
def wfd48 (x : S48) : Prop := I64 x.f0 ∧ I64 x.f1
theorem o48 : Opens Try.prog 48 k48 wfd48 := (Opens.struct Try.underlying48 rfl (by kernel_rfl) (OpensAt.cons (o_i64 Try.underlying3) (by kernel_rfl) rfl (OpensAt.last (o_i64 Try.underlying3) (by kernel_rfl))) _ (fun p => (⟨p.1, p.2⟩ : S48)) (fun _ => rfl)).imp (fun _ h => h)
def wfd51 (x : S51) : Prop := wfd48 x.f0 ∧ U64 x.f1 ∧ I64 x.f2
theorem o51 : Opens Try.prog 51 k51 wfd51 := (Opens.struct Try.underlying51 rfl (by kernel_rfl) (OpensAt.cons (o48) (by kernel_rfl) rfl (OpensAt.cons (o_u64 Try.underlying49) (by kernel_rfl) rfl (OpensAt.last (o_i64 Try.underlying3) (by kernel_rfl)))) _ (fun p => (⟨p.1, p.2.1, p.2.2⟩ : S51)) (fun _ => rfl)).imp (fun _ h => h)
def wfd27 (x : S27) : Prop := I64 x.f0 ∧ I64 x.f1 ∧ I64 x.f2 ∧ I64 x.f3
theorem o27 : Opens Try.prog 27 k27 wfd27 := (Opens.struct Try.underlying27 rfl (by kernel_rfl) (OpensAt.cons (o_i64 Try.underlying3) (by kernel_rfl) rfl (OpensAt.cons (o_i64 Try.underlying3) (by kernel_rfl) rfl (OpensAt.cons (o_i64 Try.underlying3) (by kernel_rfl) rfl (OpensAt.last (o_i64 Try.underlying3) (by kernel_rfl))))) _ (fun p => (⟨p.1, p.2.1, p.2.2.1, p.2.2.2⟩ : S27)) (fun _ => rfl)).imp (fun _ h => h)
end Go.Proofs.Ytckhjehibjdjdaa.P
namespace Go.Proofs.Ytckhjehibjdjdaa.P
open Go.RowKit Go.Proofs.YtckhjehibjdjdaaW.PrintWords Go.Proofs.YtckhjehibjdjdaaW.PrintLast Go.Proofs.YtckhjehibjdjdaaW.PrintMore
attribute [local go_sem] max2_int min2_int max_two min_two max_three min_three max_four min_four
set_option linter.unusedVariables false
set_option linter.unusedSimpArgs false
end Go.Proofs.Ytckhjehibjdjdaa.P
namespace Go.Proofs.Ytckhjehibjdjdaa.P
open Go.RowKit Go.Proofs.YtckhjehibjdjdaaW.PrintWords Go.Proofs.YtckhjehibjdjdaaW.PrintLast Go.Proofs.YtckhjehibjdjdaaW.PrintMore
attribute [local go_sem] max2_int min2_int max_two min_two max_three min_three max_four min_four
set_option linter.unusedVariables false
set_option linter.unusedSimpArgs false
end Go.Proofs.Ytckhjehibjdjdaa.P
namespace Go.Proofs.Ytckhjehibjdjdaa.P
open Go.RowKit Go.Proofs.YtckhjehibjdjdaaW.PrintWords Go.Proofs.YtckhjehibjdjdaaW.PrintLast Go.Proofs.YtckhjehibjdjdaaW.PrintMore
attribute [local go_sem] max2_int min2_int max_two min_two max_three min_three max_four min_four
set_option linter.unusedVariables false
set_option linter.unusedSimpArgs false
end Go.Proofs.Ytckhjehibjdjdaa.P
namespace Go.Proofs.Ytckhjehibjdjdaa.P
open Go.RowKit Go.Proofs.YtckhjehibjdjdaaW.PrintWords Go.Proofs.YtckhjehibjdjdaaW.PrintLast Go.Proofs.YtckhjehibjdjdaaW.PrintMore
open Go.Proofs.Ytckhjehibjdjdaa.Bits Go.Proofs.Ytckhjehibjdjdaa.Mp
set_option linter.unusedVariables false
set_option linter.unusedSimpArgs false
theorem u64_id {x : Int} (h0 : 0 ≤ x) (h1 : x < 18446744073709551616) : IntKind.u64.wrap x = x := by
 obtain ⟨n, rfl⟩ := Int.eq_ofNat_of_zero_le h0
 rw [wrapN, Nat.mod_eq_of_lt (by omega)]
theorem half_nat (M j : Nat) (hM : M < 18446744073709551616) : IntKind.u64.wrap (Int.tdiv ((M / 2 ^ j : Nat) : Int) 2) = ((M / 2 ^ (j + 1) : Nat) : Int) := by
 have h1 : M / 2 ^ (j + 1) = M / 2 ^ j / 2 := by rw [Nat.pow_succ, Nat.div_div_eq_div_mul]
 have h2 : M / 2 ^ j ≤ M := Nat.div_le_self _ _
 generalize M / 2 ^ j = a at *
 rw [h1, Int.tdiv_eq_ediv_of_nonneg (by omega), u64_id (by omega) (by omega)]
 omega
theorem has_l (M : Nat) (hM : M < 18446744073709551616) (n : Nat) : ∀ j i : Nat, j ≤ i → i - j = n → i < 64 → Ev (fun k => ensembleref01_Has.l0 k ((M / 2 ^ j : Nat) : Int) (i : Int) (j : Int)) (M.testBit i) := by
 induction n with
 | zero =>
  intro j i hj hn hi
  obtain rfl : j = i := by omega
  refine Ev.step (f := fun _ => some (M.testBit j)) (fun k => ?_) (Ev.now _)
  rw [ensembleref01_Has.l0, if_neg (by omega), if_pos (by omega), if_pos (by omega), Nat.testBit_eq_decide_div_mod_eq]
  generalize M / 2 ^ j = a
  rw [Int.tmod_eq_emod_of_nonneg (by omega)]
  congr 1
  rw [Bool.eq_iff_iff]
  simp
  omega
 | succ n ih =>
  intro j i hj hn hi
  refine Ev.step (f := fun k => ensembleref01_Has.l0 k ((M / 2 ^ (j + 1) : Nat) : Int) (i : Int) ((j + 1 : Nat) : Int)) (fun k => ?_) (ih (j + 1) i (by omega) (by omega) hi)
  rw [ensembleref01_Has.l0, if_pos (by omega), half_nat M j hM, w_id (by omega)]
  congr 1
theorem has_ev (M i : Nat) (hM : M < 18446744073709551616) (hi : i < 64) : Ev (fun k => ensembleref01_Has.f k (M : Int) (i : Int)) (M.testBit i) := by
 have := has_l M hM i 0 i (by omega) (by omega) hi
 rw [Nat.pow_zero, Nat.div_one] at this
 exact this
def posI (M : Nat) : List Int := (pos M).map fun (i : Nat) => (i : Int)
def posTo (M i : Nat) : List Int := ((List.range i).filter fun j => M.testBit j).map fun (i : Nat) => (i : Int)
theorem posTo_len (M i : Nat) : (posTo M i).length ≤ i := by
 unfold posTo; rw [List.length_map]
 exact Nat.le_trans (List.length_filter_le _ _) (by simp)
theorem units_l (M : Nat) (hM : M < 18446744073709551616) (n : Nat) : ∀ i : Nat, i ≤ 64 → 64 - i = n → Ev (fun k => ensembleref01_Units.l0 k (M : Int) (posTo M i) (i : Int)) (posI M) := by
 induction n with
 | zero =>
  intro i hi hn
  obtain rfl : i = 64 := by omega
  refine Ev.step (f := fun _ => some (posI M)) (fun k => ?_) (Ev.now _)
  rw [ensembleref01_Units.l0, if_neg (by omega)]; rfl
 | succ n ih =>
  intro i hi hn
  refine Ev.step (fun k => by rw [ensembleref01_Units.l0, if_pos (by omega)]) (Ev.bind (has_ev M i hM (by omega)) ?_)
  have I := ih (i + 1) (by omega) (by omega)
  have hl := posTo_len M i
  refine Ev.congr (fun k => ?_) I
  have e1 : wrap64 ((i : Int) + 1) = ((i + 1 : Nat) : Int) := by rw [w_id (by omega)]; omega
  have e2 : posTo M (i + 1) = if M.testBit i = true then posTo M i ++ [(i : Int)] else posTo M i := by
   unfold posTo
   rw [List.range_succ, List.filter_append, List.map_append]
   split
   ·rename_i h; simp [h]
   ·rename_i h; simp [h]
  rw [e1, e2]
  split
  ·rw [if_pos (by omega)]
  ·rfl
theorem units_ev (M : Nat) (hM : M < 18446744073709551616) : Ev (fun k => ensembleref01_Units.f k (M : Int)) (posI M) := units_l M hM 64 0 (by omega) (by omega)
theorem posI_len (M : Nat) : ((posI M).length : Int) = popI (M : Int) := by
 unfold posI popI popN; simp
def sumP (l : List Nat) : Nat := (l.map fun i => 2 ^ i).sum
theorem sumP_append (a b : List Nat) : sumP (a ++ b) = sumP a + sumP b := by simp [sumP]
theorem orAll_lt_n {l : List Nat} {n : Nat} (h : ∀ i ∈ l, i < n) : orAll l < 2 ^ n := by
 refine Nat.lt_pow_two_of_testBit _ fun j hj => ?_
 rw [testBit_orAll, decide_eq_false]
 intro hm
 have := h j hm
 omega
theorem sumP_orAll (l : List Nat) (hp : l.Pairwise (· < ·)) : ∀ n : Nat, n ≤ l.length → sumP (l.take n) = orAll (l.take n) := by
 intro n
 induction n with
 | zero => intro _; simp [sumP, orAll]
 | succ n ih =>
  intro hn
  have hlt : n < l.length := by omega
  have hb : orAll (l.take n) < 2 ^ l[n] := orAll_lt_n fun i hi => by
   obtain ⟨j, hj, rfl⟩ := List.mem_iff_getElem.1 hi
   rw [List.getElem_take]
   rw [List.length_take] at hj
   exact List.pairwise_iff_getElem.1 hp j n (by omega) hlt (by omega)
  have h1 := Nat.two_pow_add_eq_or_of_lt hb 1
  rw [Nat.mul_one, Nat.or_comm] at h1
  rw [List.take_succ_eq_append_getElem hlt, sumP_append, orAll_snoc, ih (by omega), ← h1]
  simp [sumP]
  omega
end Go.Proofs.Ytckhjehibjdjdaa.P
namespace Go.Proofs.Ytckhjehibjdjdaa.P
open Go.RowKit Go.Proofs.YtckhjehibjdjdaaW.PrintWords Go.Proofs.YtckhjehibjdjdaaW.PrintLast Go.Proofs.YtckhjehibjdjdaaW.PrintMore
attribute [local go_sem] max2_int min2_int max_two min_two max_three min_three max_four min_four
set_option linter.unusedVariables false
set_option linter.unusedSimpArgs false
def ensembleref04_Piece.T4 : Bool × List (List Nat × List Nat) := (true, [([], []), ([0], [0]), ([], []), ([], []), ([3], [3]), ([1, 2, 4], [1, 2, 4]), ([], []), ([6], [6]), ([], []), ([8], [8]), ([], []), ([9, 10], [9, 10]), ([], []), ([12], [12]), ([], []), ([14], [14]), ([13, 15], [13, 15]), ([7, 11, 16], [7, 11, 16]), ([5, 0, 1, 2, 3, 4, 5], [5]), ([17, 18, 0, 1, 2, 3, 4, 5, 6, 7, 8, 9, 10, 11, 12, 13, 14, 15, 16, 17, 18], [17]), ([19, 0, 1, 2, 3, 4, 5, 6, 7, 8, 9, 10, 11, 12, 13, 14, 15, 16, 17, 18, 19], [])])
def ensembleref04_Piece.B4 : List Nat := [0, 1, 0, 0, 8, 31, 0, 64, 0, 256, 0, 1792, 0, 4096, 0, 16384, 61440, 131008, 63, 524287, 1048575]
theorem ensembleref04_Piece.bits4 : waitsOk ensembleref04_Piece.T4.2 ensembleref04_Piece.B4 = true := by kernel_rfl
end Go.Proofs.Ytckhjehibjdjdaa.P
namespace Go.Proofs.Ytckhjehibjdjdaa.P
open Go.RowKit Go.Proofs.YtckhjehibjdjdaaW.PrintWords Go.Proofs.YtckhjehibjdjdaaW.PrintLast Go.Proofs.YtckhjehibjdjdaaW.PrintMore
attribute [local go_sem] max2_int min2_int max_two min_two max_three min_three max_four min_four
set_option linter.unusedVariables false
set_option linter.unusedSimpArgs false
end Go.Proofs.Ytckhjehibjdjdaa.P
namespace Go.Proofs.Ytckhjehibjdjdaa.P
open Go.RowKit Go.Proofs.YtckhjehibjdjdaaW.PrintWords Go.Proofs.YtckhjehibjdjdaaW.PrintLast Go.Proofs.YtckhjehibjdjdaaW.PrintMore
attribute [local go_sem] max2_int min2_int max_two min_two max_three min_three max_four min_four
set_option linter.unusedVariables false
set_option linter.unusedSimpArgs false
def ensembleref05_Room.T5 : Bool × List (List Nat × List Nat) := (true, [([], []), ([], []), ([], []), ([], []), ([2, 3], [2, 3]), ([4], [4]), ([1, 5], [1, 5]), ([0, 6], [0, 6]), ([7, 6, 0, 1, 2, 3, 4, 5, 6, 7], [0, 7])])
def ensembleref05_Room.B5 : List Nat := [0, 0, 0, 0, 12, 28, 62, 127, 255]
theorem ensembleref05_Room.bits5 : waitsOk ensembleref05_Room.T5.2 ensembleref05_Room.B5 = true := by kernel_rfl
end Go.Proofs.Ytckhjehibjdjdaa.P
namespace Go.Proofs.Ytckhjehibjdjdaa.P
open Go.RowKit Go.Proofs.YtckhjehibjdjdaaW.PrintWords Go.Proofs.YtckhjehibjdjdaaW.PrintLast Go.Proofs.YtckhjehibjdjdaaW.PrintMore
attribute [local go_sem] max2_int min2_int max_two min_two max_three min_three max_four min_four
set_option linter.unusedVariables false
set_option linter.unusedSimpArgs false
end Go.Proofs.Ytckhjehibjdjdaa.P
namespace Go.Proofs.Ytckhjehibjdjdaa.P
open Go.RowKit Go.Proofs.YtckhjehibjdjdaaW.PrintWords Go.Proofs.YtckhjehibjdjdaaW.PrintLast Go.Proofs.YtckhjehibjdjdaaW.PrintMore
attribute [local go_sem] max2_int min2_int max_two min_two max_three min_three max_four min_four
set_option linter.unusedVariables false
set_option linter.unusedSimpArgs false
end Go.Proofs.Ytckhjehibjdjdaa.P
namespace Go.Proofs.Ytckhjehibjdjdaa.P
open Go.RowKit Go.Proofs.YtckhjehibjdjdaaW.PrintWords Go.Proofs.YtckhjehibjdjdaaW.PrintLast Go.Proofs.YtckhjehibjdjdaaW.PrintMore
attribute [local go_sem] max2_int min2_int max_two min_two max_three min_three max_four min_four
set_option linter.unusedVariables false
set_option linter.unusedSimpArgs false
def ensembleref12_Fits.T4 : Bool × List (List Nat × List Nat) := (true, [([], []), ([0], [0]), ([], []), ([2], [2]), ([1, 3], [1, 3]), ([4], [4]), ([5], [5]), ([6, 5], [5, 6]), ([5], [5]), ([8, 5], [5, 8]), ([7, 9, 5], [5, 7, 9]), ([5, 10], [5, 10]), ([11, 5], [11]), ([12], [12]), ([12], [12]), ([14, 12], [12, 14]), ([13, 15, 12, 12], [12, 13, 15]), ([12], [12]), ([17, 12], [12, 17]), ([16, 18, 12], [12, 16, 18]), ([12, 19], [12, 19]), ([20, 16, 0, 1, 2, 3, 4, 5, 6, 7, 8, 9, 10, 11, 12, 13, 14, 15, 16, 17, 18, 19, 20], [20])])
def ensembleref12_Fits.B4 : List Nat := [0, 1, 0, 4, 15, 31, 63, 127, 63, 319, 1023, 2047, 4095, 8191, 8191, 24575, 65535, 8191, 139263, 524287, 1048575, 2097151]
theorem ensembleref12_Fits.bits4 : waitsOk ensembleref12_Fits.T4.2 ensembleref12_Fits.B4 = true := by kernel_rfl
end Go.Proofs.Ytckhjehibjdjdaa.P
namespace Go.Proofs.Ytckhjehibjdjdaa.P
open Go.RowKit Go.Proofs.YtckhjehibjdjdaaW.PrintWords Go.Proofs.YtckhjehibjdjdaaW.PrintLast Go.Proofs.YtckhjehibjdjdaaW.PrintMore
open Go.Proofs.Ytckhjehibjdjdaa.Bits Go.Proofs.Ytckhjehibjdjdaa.Mp
set_option linter.unusedVariables false
set_option linter.unusedSimpArgs false
theorem pos_orAll (l : List Nat) (hp : l.Pairwise (· < ·)) (h : ∀ i ∈ l, i < 64) : pos (orAll l) = l := by
 refine List.Perm.eq_of_pairwise (le := (· < ·)) (fun a b _ _ h1 h2 => absurd h1 (by omega)) (pos_sorted _) hp ?_
 have n1 : (pos (orAll l)).Nodup := (pos_sorted _).imp (fun h => by omega)
 have n2 : l.Nodup := hp.imp (fun h => by omega)
 refine (List.perm_ext_iff_of_nodup n1 n2).2 fun j => ?_
 rw [mem_pos, testBit_orAll, decide_eq_true_eq]
 exact ⟨fun h => h.2, fun hj => ⟨h j hj, hj⟩⟩
theorem sub_low (M n : Nat) (hM : M < 18446744073709551616) : M = lowN M n + orAll ((pos M).drop n) := by
 have e0 := orAll_pos (m := M) (by simpa using hM)
 have e1 := sumP_orAll (pos M) (pos_sorted M) (pos M).length (Nat.le_refl _)
 rw [List.take_length] at e1
 have hd : ((pos M).drop n).Pairwise (· < ·) := (pos_sorted M).sublist (List.drop_sublist _ _)
 have e2 := sumP_orAll ((pos M).drop n) hd _ (Nat.le_refl _)
 rw [List.take_length] at e2
 have e3 := sumP_append ((pos M).take n) ((pos M).drop n)
 rw [List.take_append_drop] at e3
 have e4 : sumP ((pos M).take n) = lowN M n := by
  unfold lowN
  by_cases h : n ≤ (pos M).length
  ·exact sumP_orAll (pos M) (pos_sorted M) n h
  ·rw [List.take_of_length_le (by omega), e1]
 omega
theorem pop_sub_low (M n : Nat) (hM : M < 18446744073709551616) : popN (M - lowN M n) = popN M - n := by
 have h := sub_low M n hM
 have e : M - lowN M n = orAll ((pos M).drop n) := by omega
 have hd : ((pos M).drop n).Pairwise (· < ·) := (pos_sorted M).sublist (List.drop_sublist _ _)
 unfold popN
 rw [e, pos_orAll _ hd (fun i hi => (mem_pos.1 (List.mem_of_mem_drop hi)).1), List.length_drop]
theorem low_le (M n : Nat) (hM : M < 18446744073709551616) : lowN M n ≤ M := by have := sub_low M n hM; omega
theorem right04 (g c mn mx : Int) : ensembleref04_Right.f g c mn mx = some (goodShape g c mn mx) := by
 unfold ensembleref04_Right.f
 by_cases h1 : g ≥ 0
 ·by_cases h2 : g ≤ 16
  ·by_cases h3 : c ≥ 0
   ·by_cases h4 : c ≤ 1024
    ·rw [if_pos h1, if_pos h2, if_pos h3, if_pos h4, w_id (by omega)]
     unfold goodShape
     rw [decide_eq_true (p := 0 ≤ g) (by omega), decide_eq_true (p := g ≤ 16) h2, decide_eq_true (p := 0 ≤ c) (by omega), decide_eq_true (p := c ≤ 1024) h4]
     by_cases h5 : g + c > 0
     ·rw [if_pos h5]
      have e5 : (decide (g = 0) && decide (c = 0)) = false := by
       rw [Bool.and_eq_false_iff]
       by_cases hg : g = 0
       ·right; exact decide_eq_false (by omega)
       ·left; exact decide_eq_false hg
      rw [e5]
      by_cases h6 : mn ≥ 1
      ·rw [if_pos h6, decide_eq_true (p := 1 ≤ mn) h6]
       by_cases h7 : mn ≤ mx
       ·rw [if_pos h7, decide_eq_true h7, decide_eq_true (p := 1 ≤ mx) (by omega)]; simp
       ·rw [if_neg h7, decide_eq_false h7]; simp
      ·rw [if_neg h6, decide_eq_false (p := 1 ≤ mn) h6]; simp
     ·rw [if_neg h5, decide_eq_true (p := g = 0) (by omega), decide_eq_true (p := c = 0) (by omega)]; simp
    ·rw [if_pos h1, if_pos h2, if_pos h3, if_neg h4]; unfold goodShape; rw [decide_eq_false h4]; simp
   ·rw [if_pos h1, if_pos h2, if_neg h3]; unfold goodShape; rw [decide_eq_false (p := 0 ≤ c) h3]; simp
  ·rw [if_pos h1, if_neg h2]; unfold goodShape; rw [decide_eq_false h2]; simp
 ·rw [if_neg h1]; unfold goodShape; rw [decide_eq_false (p := 0 ≤ g) h1]; simp
theorem pop_sub (m g : Int) (hm : 0 ≤ m ∧ m < 18446744073709551616) (hg : 0 ≤ g) (hgp : g ≤ popI m) : popI (m - lowI m g) = popI m - g ∧ 0 ≤ m - lowI m g ∧ m - lowI m g < 18446744073709551616 := by
 obtain ⟨M, rfl⟩ := Int.eq_ofNat_of_zero_le hm.1
 obtain ⟨G, rfl⟩ := Int.eq_ofNat_of_zero_le hg
 have hM : M < 18446744073709551616 := by omega
 have h1 := low_le M G hM
 have h2 := pop_sub_low M G hM
 have e3 : lowI (M : Int) (G : Int) = ((lowN M G : Nat) : Int) := by unfold lowI; simp
 have e4 : popI (M : Int) = ((popN M : Nat) : Int) := by unfold popI; simp
 rw [e3]
 rw [e4] at hgp ⊢
 have e5 : ((M : Int) - ((lowN M G : Nat) : Int)) = ((M - lowN M G : Nat) : Int) := by omega
 rw [e5]
 have e6 : popI ((M - lowN M G : Nat) : Int) = ((popN (M - lowN M G) : Nat) : Int) := by unfold popI; simp
 rw [e6, h2]
 omega
theorem each_sub (a b : Int) (hb : 0 ≤ b) (h : b ≤ a) (n : Nat) (hn : n < 16) (X : Int) : 1 ≤ eachI a b ∧ (min (16 - (n : Int)) (min (eachI a b) X)) = 1 + min (16 - ((n : Int) + 1)) (min (eachI (a - b) b) (X - 1)) := by
 unfold eachI
 by_cases h0 : b = 0
 ·rw [if_pos h0, if_pos h0]; omega
 ·rw [if_neg h0, if_neg h0, show (a - b) / b = a / b - 1 from by
   rw [Int.sub_ediv_of_dvd _ (Int.dvd_refl b), Int.ediv_self h0]]
  have : 1 ≤ a / b := (Int.le_ediv_iff_mul_le (by omega)).2 (by omega)
  omega
end Go.Proofs.Ytckhjehibjdjdaa.P
namespace Go.Proofs.Ytckhjehibjdjdaa.P
open Go.RowKit Go.Proofs.YtckhjehibjdjdaaW.PrintWords Go.Proofs.YtckhjehibjdjdaaW.PrintLast Go.Proofs.YtckhjehibjdjdaaW.PrintMore
attribute [local go_sem] max2_int min2_int max_two min_two max_three min_three max_four min_four
set_option linter.unusedVariables false
set_option linter.unusedSimpArgs false
end Go.Proofs.Ytckhjehibjdjdaa.P
namespace Go.Proofs.Ytckhjehibjdjdaa.P
open Go.RowKit Go.Proofs.YtckhjehibjdjdaaW.PrintWords Go.Proofs.YtckhjehibjdjdaaW.PrintLast Go.Proofs.YtckhjehibjdjdaaW.PrintMore
attribute [local go_sem] max2_int min2_int max_two min_two max_three min_three max_four min_four
set_option linter.unusedVariables false
set_option linter.unusedSimpArgs false
def ensembleref05_Less.T14 : Bool × List (List Nat × List Nat) := (true, [([], []), ([], []), ([], []), ([], []), ([2, 3], [2, 3]), ([4], [4]), ([5], [5]), ([], []), ([7], [7]), ([6, 8], [6, 8]), ([0, 1, 0, 1, 2, 3, 4, 5, 6, 7, 8, 9], [0, 1]), ([10, 0, 1, 2, 3, 4, 5, 6, 7, 8, 9], [10]), ([11, 9, 0, 1, 2, 3, 4, 5, 6, 7, 8, 9], [9, 11])])
def ensembleref05_Less.B14 : List Nat := [0, 0, 0, 0, 12, 28, 60, 0, 128, 508, 1023, 2047, 4095]
theorem ensembleref05_Less.bits14 : waitsOk ensembleref05_Less.T14.2 ensembleref05_Less.B14 = true := by kernel_rfl
end Go.Proofs.Ytckhjehibjdjdaa.P
namespace Go.Proofs.Ytckhjehibjdjdaa.P
open Go.RowKit Go.Proofs.YtckhjehibjdjdaaW.PrintWords Go.Proofs.YtckhjehibjdjdaaW.PrintLast Go.Proofs.YtckhjehibjdjdaaW.PrintMore
attribute [local go_sem] max2_int min2_int max_two min_two max_three min_three max_four min_four
set_option linter.unusedVariables false
set_option linter.unusedSimpArgs false
end Go.Proofs.Ytckhjehibjdjdaa.P
namespace Go.Proofs.Ytckhjehibjdjdaa.P
open Go.RowKit Go.Proofs.YtckhjehibjdjdaaW.PrintWords Go.Proofs.YtckhjehibjdjdaaW.PrintLast Go.Proofs.YtckhjehibjdjdaaW.PrintMore
open Go.Proofs.Ytckhjehibjdjdaa.Bits Go.Proofs.Ytckhjehibjdjdaa.Mp
set_option linter.unusedVariables false
set_option linter.unusedSimpArgs false
theorem andNot_nat (a b : Nat) (ha : a < 18446744073709551616) (hb : b < 18446744073709551616) : Go.bits .andNot .u64 (a : Int) (b : Int) = ((a - (a &&& b) : Nat) : Int) := by
 have h1 : (BitVec.ofInt 64 (a : Int)).toNat = a := by
  rw [BitVec.ofInt_natCast, BitVec.toNat_ofNat]; exact Nat.mod_eq_of_lt (by omega)
 have h2 : (BitVec.ofInt 64 (b : Int)).toNat = b := by
  rw [BitVec.ofInt_natCast, BitVec.toNat_ofNat]; exact Nat.mod_eq_of_lt (by omega)
 show IntKind.u64.wrap ((BitVec.ofInt 64 (a : Int) &&& ~~~ BitVec.ofInt 64 (b : Int)).toNat : Int) = _
 generalize BitVec.ofInt 64 (a : Int) = A at *
 generalize BitVec.ofInt 64 (b : Int) = B at *
 have hz : (A &&& ~~~B) &&& (A &&& B) = 0#64 := by ext i; simp; intro _ h _; exact h
 have hs : (A &&& ~~~B) + (A &&& B) = A := by
  rw [BitVec.add_eq_or_of_and_eq_zero _ _ hz]
  ext i; simp; cases A[i] <;> cases B[i] <;> rfl
 have hn := BitVec.toNat_add_of_and_eq_zero hz
 rw [hs, BitVec.toNat_and A B, h1, h2] at hn
 have hl := (A &&& ~~~B).isLt
 rw [wrapN, Nat.mod_eq_of_lt (by omega)]
 omega
def isAt (a b : Int) (f : S51) : Bool := f.f0.f0 == a && (f.f0.f1 == b)
def findI (view : List S51) (a b : Int) : Int := match view.findIdx? (isAt a b) with
 | some j => (j : Int)
 | none => -1
theorem find_l (view : List S51) (a b : Int) (hl : view.length < 4398046511104) (d : Nat) : ∀ i : Nat, i ≤ view.length → view.length - i = d →
  Ev (fun k => ensembleref05_find.l0 k view (i : Int) a b) (match (view.drop i).findIdx? (isAt a b) with | some j => ((i + j : Nat) : Int) | none => -1) := by
 induction d with
 | zero =>
  intro i hi hd
  rw [List.drop_eq_nil_of_le (by omega)]
  exact Ev.step (f := fun _ => some (-1)) (fun k => by rw [ensembleref05_find.l0, if_neg (by omega)]) (Ev.now _)
 | succ d ih =>
  intro i hi hd
  have hil : i < view.length := by omega
  rw [List.drop_eq_getElem_cons hil, List.findIdx?_cons]
  by_cases h : isAt a b view[i] = true
  ·rw [if_pos h]
   refine Ev.step (f := fun _ => some ((i + 0 : Nat) : Int)) (fun k => ?_) (Ev.now _)
   rw [ensembleref05_find.l0, if_pos (by omega), if_pos (by omega), rd51' view i hil, if_pos (show (view[i].f0.f0 == a && (view[i].f0.f1 == b)) = true from h)]; rfl
  ·rw [if_neg h]
   have I := ih (i + 1) (by omega) (by omega)
   refine Ev.step (f := fun k => ensembleref05_find.l0 k view ((i + 1 : Nat) : Int) a b) (fun k => ?_) ?_
   ·rw [ensembleref05_find.l0, if_pos (by omega), if_pos (by omega), rd51' view i hil, if_neg (show ¬ (view[i].f0.f0 == a && (view[i].f0.f1 == b)) = true from h), w_id (by omega)]; rfl
   ·cases hf : (view.drop (i + 1)).findIdx? (isAt a b) with
    | none => rw [hf] at I; exact I
    | some j =>
     rw [hf] at I
     simp only [Option.map_some]
     rw [show i + (j + 1) = i + 1 + j by omega]; exact I
theorem find_ev (view : List S51) (a b : Int) (hl : view.length < 4398046511104) : Ev (fun k => ensembleref05_find.f k view a b) (findI view a b) := by
 have := find_l view a b hl view.length 0 (by omega) (by omega)
 rw [List.drop_zero] at this
 unfold findI
 cases hf : view.findIdx? (isAt a b) with
 | none => rw [hf] at this; exact this
 | some j => rw [hf] at this; simp only [Nat.zero_add] at this; exact this
def spot (f : S51) : Int × Int := (f.f0.f0, f.f0.f1)
def cpOk (f : S51) : Prop := 0 ≤ f.f2 ∧ f.f2 ≤ 1048576
def viewR (view : List S51) : Prop := (∀ f ∈ view, cpOk f) ∧ (view.map spot).Nodup
theorem isAt_iff {a b : Int} {f : S51} : isAt a b f = true ↔ spot f = (a, b) := by
 unfold isAt spot; simp
theorem findI_neg {view : List S51} {a b : Int} : findI view a b < 0 ↔ (a, b) ∉ view.map spot := by
 unfold findI
 cases h : view.findIdx? (isAt a b) with
 | none =>
  rw [List.findIdx?_eq_none_iff] at h
  simp only [List.mem_map, not_exists, not_and]
  exact ⟨fun _ f hf e => (by rw [← isAt_iff, h f hf] at e; cases e), fun _ => by omega⟩
 | some j =>
  rw [List.findIdx?_eq_some_iff_getElem] at h
  obtain ⟨hj, h1, _⟩ := h
  constructor
  ·intro h; simp only at h; omega
  ·intro hn
   exact absurd (List.mem_map.2 ⟨view[j], List.getElem_mem hj, isAt_iff.1 h1⟩) hn
theorem findI_bd (view : List S51) (a b : Int) : -1 ≤ findI view a b ∧ findI view a b < view.length := by
 unfold findI
 cases h : view.findIdx? (isAt a b) with
 | none => simp only; omega
 | some j =>
  rw [List.findIdx?_eq_some_iff_getElem] at h
  obtain ⟨hj, _⟩ := h
  simp only; omega
theorem right05_l (view : List S51) (hl : view.length < 4398046511104) (d : Nat) : ∀ i : Nat, i ≤ view.length → view.length - i = d → (∀ f ∈ view.take i, cpOk f) → ((view.take i).map spot).Nodup →
  (Ev (fun k => ensembleref05_Right.l0 k view (i : Int)) true ∧ viewR view) ∨ Ev (fun k => ensembleref05_Right.l0 k view (i : Int)) false := by
 induction d with
 | zero =>
  intro i hi hd hc hn
  left
  obtain rfl : i = view.length := by omega
  rw [List.take_length] at hc hn
  exact ⟨Ev.step (f := fun _ => some true) (fun k => by rw [ensembleref05_Right.l0, if_neg (by omega)]) (Ev.now _), hc, hn⟩
 | succ d ih =>
  intro i hi hd hc hn
  have hil : i < view.length := by omega
  by_cases h1 : (view[i]).f2 < 0
  ·right
   exact Ev.step (f := fun _ => some false) (fun k => by rw [ensembleref05_Right.l0, if_pos (by omega), if_pos (by omega), rd51' view i hil, if_pos h1]) (Ev.now _)
  by_cases h2 : (view[i]).f2 > 1048576
  ·right
   exact Ev.step (f := fun _ => some false) (fun k => by rw [ensembleref05_Right.l0, if_pos (by omega), if_pos (by omega), rd51' view i hil, if_neg h1, if_pos h2]) (Ev.now _)
  have hF := find_ev (view.take i) (view[i]).f0.f0 (view[i]).f0.f1 (by rw [List.length_take]; omega)
  have hstep : ∀ k, ensembleref05_Right.l0 (k + 1) view (i : Int) = (ensembleref05_find.f k (view.take i) (view[i]).f0.f0 (view[i]).f0.f1).bind fun t127 => (if t127 ≥ 0 then (some false) else (ensembleref05_Right.l0 k view (wrap64 ((i : Int) + 1)))) := fun k => by
   rw [ensembleref05_Right.l0, if_pos (by omega), if_pos (by omega), rd51' view i hil, if_neg h1, if_neg h2, if_pos (by omega), Int.toNat_natCast]
  by_cases h3 : findI (view.take i) (view[i]).f0.f0 (view[i]).f0.f1 ≥ 0
  ·right
   exact Ev.step hstep (Ev.bind hF (Ev.congr (fun k => by rw [if_pos h3]) (Ev.now _)))
  ·have hcon : ∀ r, Ev (fun k => ensembleref05_Right.l0 k view ((i + 1 : Nat) : Int)) r → Ev (fun k => ensembleref05_Right.l0 k view (i : Int)) r := fun r hr =>
    Ev.step hstep (Ev.bind hF (Ev.congr (fun k => by rw [if_neg h3, w_id (by omega)]; congr 1) hr))
   have hnm := findI_neg.1 (show findI (view.take i) (view[i]).f0.f0 (view[i]).f0.f1 < 0 by omega)
   rcases ih (i + 1) (by omega) (by omega) (by
    intro f hf
    rw [List.take_succ_eq_append_getElem hil] at hf
    rcases List.mem_append.1 hf with hf | hf
    ·exact hc f hf
    ·rw [List.mem_singleton.1 hf]; exact ⟨by omega, by omega⟩) (by
    rw [List.take_succ_eq_append_getElem hil, List.map_append, List.nodup_append]
    refine ⟨hn, by simp, fun x hx y hy => ?_⟩
    rw [List.map_singleton, List.mem_singleton] at hy
    rintro rfl
    apply hnm
    rw [hy] at hx
    exact hx) with ⟨h, hv⟩ | h
   ·exact .inl ⟨hcon _ h, hv⟩
   ·exact .inr (hcon _ h)
theorem right05_ev (view : List S51) (hl : view.length < 4398046511104) : (Ev (fun k => ensembleref05_Right.f k view) true ∧ viewR view) ∨ Ev (fun k => ensembleref05_Right.f k view) false := by
 have := right05_l view hl view.length 0 (by omega) (by omega) (by simp) (by simp)
 exact this
def turnF (E : S51 → S52 → Int) (F : S51 → S52 → S51) : List S51 → List S52 → List S51 × Int
 | out, [] => (out, 0)
 | out, s :: ss => if s.f2 < 0 then ([], 1) else if findI out s.f0.f0 s.f0.f1 < 0 then ([], 3)
  else if E (rd_T51 out (findI out s.f0.f0 s.f0.f1)) s = 0 then turnF E F (out.set (findI out s.f0.f0 s.f0.f1).toNat (F (rd_T51 out (findI out s.f0.f0 s.f0.f1)) s)) ss
  else ([], E (rd_T51 out (findI out s.f0.f0 s.f0.f1)) s)
theorem bits_and_z {a b : Int} (ha : 0 ≤ a ∧ a < 18446744073709551616) (hb : 0 ≤ b ∧ b < 18446744073709551616) : Go.bits .and .u64 a b = ((a.toNat &&& b.toNat : Nat) : Int) := by
 obtain ⟨x, rfl⟩ := Int.eq_ofNat_of_zero_le ha.1
 obtain ⟨y, rfl⟩ := Int.eq_ofNat_of_zero_le hb.1
 rw [Int.toNat_natCast, Int.toNat_natCast]
 exact bits_and_u64_nat x y (by omega) (by omega)
theorem freeOk_out {f : S51} (h : freeOk f = true) : (0 ≤ f.f1 ∧ f.f1 < 18446744073709551616) ∧ -9223372036854775808 ≤ f.f2 ∧ f.f2 ≤ 9223372036854775807 := by
 simp only [freeOk, w64B, Bool.and_eq_true, decide_eq_true_eq] at h
 exact ⟨⟨h.1.1, h.1.2⟩, h.2.1, h.2.2⟩
theorem maskOk_out {s : S52} (h : maskOk s = true) : 0 ≤ s.f1 ∧ s.f1 < 18446744073709551616 := by
 simp only [maskOk, Bool.and_eq_true, decide_eq_true_eq] at h
 exact h
theorem set_all {P : S51 → Prop} {out : List S51} {k : Nat} {x : S51} (h : ∀ f ∈ out, P f) (hx : P x) : ∀ f ∈ out.set k x, P f := fun f hf => by
 rcases List.mem_or_eq_of_mem_set hf with h' | rfl
 ·exact h f h'
 ·exact hx
theorem lessF_ok {f : S51} {s : S52} (hf : freeOk f = true) (hs : maskOk s = true) : freeOk (lessF f s) = true := by
 have h1 := freeOk_out hf
 have h2 := maskOk_out hs
 have e : Go.bits .andNot .u64 f.f1 s.f1 = ((f.f1.toNat - (f.f1.toNat &&& s.f1.toNat) : Nat) : Int) := by
  have := andNot_nat f.f1.toNat s.f1.toNat (by omega) (by omega)
  rw [Int.toNat_of_nonneg h1.1.1, Int.toNat_of_nonneg h2.1] at this
  exact this
 have e1 : 0 ≤ (lessF f s).f1 ∧ (lessF f s).f1 < 18446744073709551616 := by
  show 0 ≤ Go.bits .andNot .u64 f.f1 s.f1 ∧ Go.bits .andNot .u64 f.f1 s.f1 < 18446744073709551616
  rw [e]; omega
 unfold freeOk
 rw [decide_eq_true e1.1, decide_eq_true e1.2]
 exact w64_wrap _
theorem findI_spots {a b : List S51} (h : a.map spot = b.map spot) (x y : Int) : findI a x y = findI b x y := by
 have e : ∀ l : List S51, l.findIdx? (isAt x y) = (l.map spot).findIdx? (fun p => p.1 == x && p.2 == y) := fun l => by
  rw [List.findIdx?_map]; rfl
 unfold findI
 rw [e a, e b, h]
theorem ixS_find (view : List S51) (hn : (view.map spot).Nodup) : ∀ i : Nat, i ≤ view.length → ∀ a b : Int, ixS view i a b = if 0 ≤ findI view a b ∧ findI view a b < i then some (findI view a b) else none := by
 intro i
 induction i with
 | zero => intro _ a b; rw [if_neg (by omega)]; rfl
 | succ i ih =>
  intro hi a b
  have hil : i < view.length := by omega
  unfold ixS updS
  rw [rd51' view i hil]
  have hfi : findI view (view[i]).f0.f0 (view[i]).f0.f1 = (i : Int) := by
   unfold findI
   have : view.findIdx? (isAt (view[i]).f0.f0 (view[i]).f0.f1) = some i := by
    rw [List.findIdx?_eq_some_iff_getElem]
    refine ⟨hil, by unfold isAt; simp, fun j hj => ?_⟩
    intro hjt
    have h1 := isAt_iff.1 hjt
    have h2 := List.pairwise_iff_getElem.1 hn j i (by rw [List.length_map]; omega) (by rw [List.length_map]; exact hil) hj
    apply h2
    rw [List.getElem_map, List.getElem_map, h1]
    rfl
   rw [this]
  by_cases h : a = (view[i]).f0.f0 ∧ b = (view[i]).f0.f1
  ·rw [if_pos h, h.1, h.2, hfi, if_pos (by omega)]
  ·rw [if_neg h, ih (by omega) a b]
   have hne : findI view a b ≠ (i : Int) := by
    intro e
    unfold findI at e
    cases hf : view.findIdx? (isAt a b) with
    | none => rw [hf] at e; simp only at e; omega
    | some j =>
     rw [hf] at e
     simp only at e
     obtain rfl : j = i := by omega
     rw [List.findIdx?_eq_some_iff_getElem] at hf
     have := isAt_iff.1 hf.2.1
     unfold spot at this
     injection this with h1 h2
     exact h ⟨h1.symm, h2.symm⟩
   by_cases hc : 0 ≤ findI view a b ∧ findI view a b < i
   ·rw [if_pos hc, if_pos (by omega)]
   ·rw [if_neg hc, if_neg (by omega)]
theorem spots_set {out : List S51} {k : Nat} {x : S51} (hx : ∀ h : k < out.length, spot x = spot out[k]) : (out.set k x).map spot = out.map spot := by
 rw [List.map_set]
 by_cases h : k < out.length
 ·rw [hx h]
  apply List.ext_getElem
  ·simp
  ·intro i h1 h2
   rw [List.getElem_set]
   split
   ·rename_i e; subst e; rw [List.getElem_map]
   ·rfl
 ·rw [List.set_eq_of_length_le (by rw [List.length_map]; omega)]
theorem turned_find (E : S51 → S52 → Int) (F : S51 → S52 → S51) (hF : ∀ f s, (F f s).f0 = f.f0) (view : List S51) (hn : (view.map spot).Nodup) : ∀ (slots : List S52) (out : List S51), out.map spot = view.map spot →
  turnedL E F (ixS view view.length) out slots = turnF E F out slots
 | [], out, _ => rfl
 | s :: ss, out, ho => by
  have hb := findI_bd view s.f0.f0 s.f0.f1
  rw [turnedL, turnF, findI_spots ho, ixS_find view hn _ (Nat.le_refl _)]
  generalize findI view s.f0.f0 s.f0.f1 = p at *
  by_cases h1 : s.f2 < 0
  ·rw [if_pos h1, if_pos h1]
  rw [if_neg h1, if_neg h1]
  by_cases h2 : p < 0
  ·rw [if_neg (by omega), if_pos h2]
  rw [if_pos (by omega), if_neg h2]
  simp only
  by_cases h3 : E (rd_T51 out p) s = 0
  ·rw [if_pos h3, if_pos h3]
   refine turned_find E F hF view hn ss _ ?_
   rw [spots_set (fun hk => ?_), ho]
   have : rd_T51 out p = out[p.toNat] := by
    have := rd51' out p.toNat hk
    rw [Int.toNat_of_nonneg (by omega)] at this
    exact this
   unfold spot
   rw [hF, this]
  ·rw [if_neg h3, if_neg h3]
theorem turned51_find {E : S51 → S52 → Int} {F : S51 → S52 → S51} (hF : ∀ f s, (F f s).f0 = f.f0) {view : List S51} (hn : (view.map spot).Nodup) (slots : List S52) : turned51 E F view slots = turnF E F view slots :=
 turned_find E F hF view hn slots view rfl
end Go.Proofs.Ytckhjehibjdjdaa.P
namespace Go.Proofs.Ytckhjehibjdjdaa.P
open Go.RowKit Go.Proofs.YtckhjehibjdjdaaW.PrintWords Go.Proofs.YtckhjehibjdjdaaW.PrintLast Go.Proofs.YtckhjehibjdjdaaW.PrintMore
attribute [local go_sem] max2_int min2_int max_two min_two max_three min_three max_four min_four
set_option linter.unusedVariables false
set_option linter.unusedSimpArgs false
def ensembleref08_Units.T5 : Bool × List (List Nat × List Nat) := (true, [([], []), ([0], [0]), ([], []), ([], []), ([2, 3], [2, 3]), ([4], [4]), ([5], [5]), ([6], [6]), ([7], [7]), ([1, 8], [1, 8]), ([0, 1, 2, 3, 4, 5, 6, 7, 8, 9], []), ([10, 9, 7, 0, 1, 2, 3, 4, 5, 6, 7, 8, 9], [9, 10])])
def ensembleref08_Units.B5 : List Nat := [0, 1, 0, 0, 12, 28, 60, 124, 252, 511, 1023, 2047]
theorem ensembleref08_Units.bits5 : waitsOk ensembleref08_Units.T5.2 ensembleref08_Units.B5 = true := by kernel_rfl
def ensembleref08_Units.T6 : Bool × List (List Nat × List Nat) := (true, [([], []), ([0], [0]), ([], []), ([], []), ([2, 3], [2, 3]), ([4], [4]), ([5], [5]), ([1, 6], [1, 6]), ([0, 1, 2, 3, 4, 5, 6, 7], []), ([8, 7, 0, 1, 2, 3, 4, 5, 6, 7], [7, 8])])
def ensembleref08_Units.B6 : List Nat := [0, 1, 0, 0, 12, 28, 60, 127, 255, 511]
theorem ensembleref08_Units.bits6 : waitsOk ensembleref08_Units.T6.2 ensembleref08_Units.B6 = true := by kernel_rfl
end Go.Proofs.Ytckhjehibjdjdaa.P
namespace Go.Proofs.Ytckhjehibjdjdaa.P
open Go.RowKit Go.Proofs.YtckhjehibjdjdaaW.PrintWords Go.Proofs.YtckhjehibjdjdaaW.PrintLast Go.Proofs.YtckhjehibjdjdaaW.PrintMore
attribute [local go_sem] max2_int min2_int max_two min_two max_three min_three max_four min_four
set_option linter.unusedVariables false
set_option linter.unusedSimpArgs false
end Go.Proofs.Ytckhjehibjdjdaa.P
namespace Go.Proofs.Ytckhjehibjdjdaa.P
open Go.RowKit Go.Proofs.YtckhjehibjdjdaaW.PrintWords Go.Proofs.YtckhjehibjdjdaaW.PrintLast Go.Proofs.YtckhjehibjdjdaaW.PrintMore
attribute [local go_sem] max2_int min2_int max_two min_two max_three min_three max_four min_four
set_option linter.unusedVariables false
set_option linter.unusedSimpArgs false
end Go.Proofs.Ytckhjehibjdjdaa.P
namespace Go.Proofs.Ytckhjehibjdjdaa.P
open Go.RowKit Go.Proofs.YtckhjehibjdjdaaW.PrintWords Go.Proofs.YtckhjehibjdjdaaW.PrintLast Go.Proofs.YtckhjehibjdjdaaW.PrintMore
attribute [local go_sem] max2_int min2_int max_two min_two max_three min_three max_four min_four
set_option linter.unusedVariables false
set_option linter.unusedSimpArgs false
end Go.Proofs.Ytckhjehibjdjdaa.P
namespace Go.Proofs.Ytckhjehibjdjdaa.P
open Go.RowKit Go.Proofs.YtckhjehibjdjdaaW.PrintWords Go.Proofs.YtckhjehibjdjdaaW.PrintLast Go.Proofs.YtckhjehibjdjdaaW.PrintMore
open Go.Proofs.Ytckhjehibjdjdaa.Bits Go.Proofs.Ytckhjehibjdjdaa.Mp
set_option linter.unusedVariables false
set_option linter.unusedSimpArgs false
def ended (T : Int) (ends : List S41) : List S41 := ends.filter fun h => decide (h.f2 ≤ T)
def slotsOf (l : List S41) : List S52 := l.flatMap fun h => h.f4
theorem slotsOf_cons (h : S41) (l : List S41) : slotsOf (h :: l) = h.f4 ++ slotsOf l := List.flatMap_cons
theorem slotsOf_append (a b : List S41) : slotsOf (a ++ b) = slotsOf a ++ slotsOf b := List.flatMap_append
theorem sub_slots {a b : List S41} (h : a.Sublist b) : (slotsOf a).Sublist (slotsOf b) := by
 induction h with
 | slnil => exact List.Sublist.slnil
 | cons x _ ih => rw [slotsOf_cons]; exact ih.trans (List.sublist_append_right _ _)
 | cons_cons x _ ih => rw [slotsOf_cons, slotsOf_cons]; exact List.Sublist.append (List.Sublist.refl _) ih
def leftQ (q : Int) : Int × Int → List S41 → Int × Int
 | a, [] => a
 | a, h :: l => leftQ q (if h.f1 = q then (wrap64 (a.1 + (addL true (0, 0) h.f4).1), wrap64 (a.2 + (addL true (0, 0) h.f4).2)) else a) l
def atB (view : List S51) (lg lc : Int) (ends : List S41) (q m g c mn mx T : Int) : Bool :=
 fitsB (turnF moreE moreF view (slotsOf (ended T ends))).1 (leftQ q (lg, lc) (ended T ends)).1 (leftQ q (lg, lc) (ended T ends)).2 m g c mn mx
structure Inp (view : List S51) (ends : List S41) : Prop where
 vl : view.length < 4398046511104
 vf : ∀ f ∈ view, freeOk f = true
 el : ends.length < 1000000
 es : (slotsOf ends).length < 4000000000
 sm : ∀ s ∈ slotsOf ends, maskOk s = true
theorem Inp.sub {view : List S51} {ends l : List S41} (I : Inp view ends) (h : l.Sublist ends) : Inp view l :=
 have hs : (slotsOf l).Sublist (slotsOf ends) := sub_slots h
 ⟨I.vl, I.vf, Nat.lt_of_le_of_lt h.length_le I.el, Nat.lt_of_le_of_lt hs.length_le I.es, fun s hs' => I.sm s (hs.subset hs')⟩
theorem Inp.ended {view : List S51} {ends : List S41} (I : Inp view ends) (T : Int) : Inp view (ended T ends) := I.sub List.filter_sublist
def bestF (A : Int → Bool) (now : Int) : Int → List S41 → Int
 | b, [] => b
 | b, h :: l => bestF A now (if h.f2 > now ∧ h.f2 < b ∧ A h.f2 = true then h.f2 else b) l
def refEarly (now : Int) (view : List S51) (lg lc : Int) (ends : List S41) (q m g c mn mx : Int) : Int × Int :=
 if now < 0 ∨ now > 1073741824 ∨ rightB m g c mn mx = false then (0, 1)
 else if (turnF moreE moreF view (slotsOf ends)).2 ≠ 0 then (0, (turnF moreE moreF view (slotsOf ends)).2)
 else if atB view lg lc ends q m g c mn mx now = true then (now, 0)
 else (bestF (atB view lg lc ends q m g c mn mx) now 1073741825 ends, 0)
end Go.Proofs.Ytckhjehibjdjdaa.P
namespace Go.Proofs.Ytckhjehibjdjdaa.P
open Go.RowKit Go.Proofs.YtckhjehibjdjdaaW.PrintWords Go.Proofs.YtckhjehibjdjdaaW.PrintLast Go.Proofs.YtckhjehibjdjdaaW.PrintMore
open Go.Proofs.Ytckhjehibjdjdaa.Bits Go.Proofs.Ytckhjehibjdjdaa.Mp
set_option linter.unusedVariables false
set_option linter.unusedSimpArgs false
def sspot (s : S52) : Int × Int := (s.f0.f0, s.f0.f1)
def atS (f : S51) (l : List S52) : List S52 := l.filter fun s => decide (sspot s = spot f)
def stepV (view : List S51) (s : S52) : List S51 := view.map fun f => if spot f = sspot s then moreF f s else f
def disj (a b : Int) : Prop := a.toNat &&& b.toNat = 0
theorem disj_comm {a b : Int} (h : disj a b) : disj b a := by unfold disj at *; rw [Nat.and_comm]; exact h
structure okF (f : S51) (l : List S52) : Prop where
 own : ∀ s ∈ l, disj s.f1 f.f1
 two : l.Pairwise fun a b => disj a.f1 b.f1
 sum : f.f2 + (l.map fun s => s.f2).sum ≤ 1048576
structure okS (view : List S51) (slots : List S52) : Prop where
 pos : ∀ s ∈ slots, 0 ≤ s.f2 ∧ sspot s ∈ view.map spot
 fit : ∀ f ∈ view, okF f (atS f slots)
def viewS (view : List S51) (slots : List S52) : List S51 := view.map fun f => (atS f slots).foldl moreF f
theorem atS_moreF (f : S51) (s : S52) (l : List S52) : atS (moreF f s) l = atS f l := rfl
theorem stepV_spots (view : List S51) (s : S52) : (stepV view s).map spot = view.map spot := by
 unfold stepV
 rw [List.map_map]
 apply List.map_congr_left
 intro f _
 simp only [Function.comp_apply]
 split <;> rfl
theorem bits_or_bv (a b : Int) : Go.bits .or .u64 a b = ((BitVec.ofInt 64 a ||| BitVec.ofInt 64 b).toNat : Int) := by
 show IntKind.u64.wrap ((BitVec.ofInt 64 a ||| BitVec.ofInt 64 b).toNat : Int) = _
 rw [wrapN, Nat.mod_eq_of_lt (BitVec.isLt _)]
theorem ofInt_toNat (x : BitVec 64) : BitVec.ofInt 64 (x.toNat : Int) = x := by
 rw [BitVec.ofInt_natCast]; simp
theorem or_right_comm (a b c : Int) : Go.bits .or .u64 (Go.bits .or .u64 a b) c = Go.bits .or .u64 (Go.bits .or .u64 a c) b := by
 rw [bits_or_bv, bits_or_bv a b, ofInt_toNat, bits_or_bv, bits_or_bv a c, ofInt_toNat, BitVec.or_assoc, BitVec.or_comm (BitVec.ofInt 64 b), ← BitVec.or_assoc]
theorem wrap_right_comm (a b c : Int) : wrap64 (wrap64 (a + b) + c) = wrap64 (wrap64 (a + c) + b) := by unfold wrap64; omega
theorem moreF_comm (f : S51) (a b : S52) : moreF (moreF f a) b = moreF (moreF f b) a := by
 unfold moreF
 rw [or_right_comm, wrap_right_comm]
theorem and_iff_disj {a b : Int} (ha : 0 ≤ a ∧ a < 18446744073709551616) (hb : 0 ≤ b ∧ b < 18446744073709551616) : Go.bits .and .u64 a b = 0 ↔ disj a b := by
 rw [bits_and_z ha hb]; unfold disj; omega
theorem disj_or {a b c : Int} (ha : 0 ≤ a ∧ a < 18446744073709551616) (hb : 0 ≤ b ∧ b < 18446744073709551616) : disj c (Go.bits .or .u64 a b) ↔ disj c a ∧ disj c b := by
 obtain ⟨x, rfl⟩ := Int.eq_ofNat_of_zero_le ha.1
 obtain ⟨y, rfl⟩ := Int.eq_ofNat_of_zero_le hb.1
 rw [bits_or_u64_nat x y (by omega) (by omega)]
 unfold disj
 rw [Int.toNat_natCast, Int.toNat_natCast, Int.toNat_natCast, Nat.and_or_distrib_left, Nat.or_eq_zero_iff]
theorem moreE_iff {f : S51} {s : S52} (hf : freeOk f = true) (hc : cpOk f) (hs : maskOk s = true) (h0 : 0 ≤ s.f2) : moreE f s = 0 ↔ disj s.f1 f.f1 ∧ f.f2 + s.f2 ≤ 1048576 := by
 have h1 := freeOk_out hf
 have h2 := maskOk_out hs
 unfold cpOk at hc
 unfold moreE
 rw [show wrap64 (1048576 - f.f2) = 1048576 - f.f2 from w_id (by omega)]
 by_cases hd : disj s.f1 f.f1
 ·rw [if_neg (fun x => x ((and_iff_disj h2 h1.1).2 hd))]
  by_cases h : s.f2 > 1048576 - f.f2
  ·rw [if_pos h]; constructor
   ·intro x; cases x
   ·intro x; omega
  ·rw [if_neg h]; exact ⟨fun _ => ⟨hd, by omega⟩, fun _ => rfl⟩
 ·rw [if_pos (fun x => hd ((and_iff_disj h2 h1.1).1 x))]; constructor
  ·intro x; cases x
  ·intro x; exact absurd x.1 hd
theorem okF_cons {f : S51} {s : S52} {l : List S52} (hf : freeOk f = true) (hc : cpOk f) (hs : maskOk s = true) (h0 : 0 ≤ s.f2) (hl : ∀ x ∈ l, 0 ≤ x.f2) :
  okF f (s :: l) ↔ moreE f s = 0 ∧ okF (moreF f s) l := by
 have h1 := freeOk_out hf
 have h2 := maskOk_out hs
 rw [moreE_iff hf hc hs h0]
 have hsum : 0 ≤ (l.map fun s => s.f2).sum := by
  clear h1 h2 hc
  induction l with
  | nil => simp
  | cons x l ih =>
   have := hl x (by simp)
   have := ih (fun y hy => hl y (by simp [hy]))
   rw [List.map_cons, List.sum_cons]; omega
 unfold cpOk at hc
 have hw : f.f2 + s.f2 ≤ 1048576 → (moreF f s).f2 = f.f2 + s.f2 := fun h => by unfold moreF; exact w_id (by omega)
 constructor
 ·rintro ⟨a, b, c⟩
  rw [List.map_cons, List.sum_cons] at c
  have hb := List.pairwise_cons.1 b
  refine ⟨⟨a s (by simp), by omega⟩, fun x hx => ?_, hb.2, ?_⟩
  ·show disj x.f1 (Go.bits .or .u64 f.f1 s.f1)
   exact (disj_or h1.1 h2).2 ⟨a x (by simp [hx]), disj_comm (hb.1 x hx)⟩
  ·rw [hw (by omega)]; omega
 ·rintro ⟨⟨a, b⟩, c, d, e⟩
  rw [hw b] at e
  refine ⟨fun x hx => ?_, List.pairwise_cons.2 ⟨fun x hx => ?_, d⟩, ?_⟩
  ·rcases List.mem_cons.1 hx with rfl | hx
   ·exact a
   ·exact ((disj_or h1.1 h2).1 (c x hx)).1
  ·exact disj_comm ((disj_or h1.1 h2).1 (c x hx)).2
  ·rw [List.map_cons, List.sum_cons]; omega
theorem set_step {view : List S51} (hn : (view.map spot).Nodup) {s : S52} {p : Nat} (hp : findI view s.f0.f0 s.f0.f1 = (p : Int)) :
  ∃ h : p < view.length, spot view[p] = sspot s ∧ view.set p (moreF view[p] s) = stepV view s ∧ ∀ f ∈ view, spot f = sspot s → f = view[p] := by
 unfold findI at hp
 cases hf : view.findIdx? (isAt s.f0.f0 s.f0.f1) with
 | none => rw [hf] at hp; simp only at hp; omega
 | some j =>
  rw [hf] at hp
  simp only at hp
  obtain rfl : j = p := by omega
  rw [List.findIdx?_eq_some_iff_getElem] at hf
  obtain ⟨hj, h1, _⟩ := hf
  have hs := isAt_iff.1 h1
  have huniq : ∀ i (hi : i < view.length), spot view[i] = sspot s → i = j := fun i hi he => by
   have hn' := List.pairwise_iff_getElem.1 hn
   rcases Nat.lt_trichotomy i j with h | h | h
   ·exact absurd (by rw [List.getElem_map, List.getElem_map, he, hs]; rfl) (hn' i j (by simpa using hi) (by simpa using hj) h)
   ·exact h
   ·exact absurd (by rw [List.getElem_map, List.getElem_map, he, hs]; rfl) (hn' j i (by simpa using hj) (by simpa using hi) h)
  refine ⟨hj, hs, ?_, fun f hf he => ?_⟩
  ·unfold stepV
   apply List.ext_getElem
   ·simp
   ·intro i h1 h2
    rw [List.getElem_set, List.getElem_map]
    rw [List.length_set] at h1
    by_cases hij : j = i
    ·subst hij
     rw [if_pos rfl, if_pos (show spot view[j] = sspot s from hs)]
    ·rw [if_neg hij, if_neg (fun h => hij (huniq i h1 h).symm)]
  ·obtain ⟨i, hi, rfl⟩ := List.mem_iff_getElem.1 hf
   have := huniq i hi he
   subst this; rfl
structure View (view : List S51) : Prop where
 right : viewR view
 free : ∀ f ∈ view, freeOk f = true
theorem stepV_mem {view : List S51} {s : S52} {P : S51 → Prop} : (∀ f ∈ stepV view s, P f) ↔ ∀ f ∈ view, P (if spot f = sspot s then moreF f s else f) := by
 unfold stepV
 simp only [List.mem_map]
 constructor
 ·intro h f hf; exact h _ ⟨f, hf, rfl⟩
 ·rintro h f ⟨g, hg, rfl⟩; exact h g hg
theorem View.step {view : List S51} (V : View view) {s : S52} (hs : maskOk s = true) (h0 : 0 ≤ s.f2) (hE : ∀ f ∈ view, spot f = sspot s → moreE f s = 0) : View (stepV view s) := by
 refine ⟨⟨stepV_mem.2 fun f hf => ?_, by rw [stepV_spots]; exact V.right.2⟩, stepV_mem.2 fun f hf => ?_⟩
 ·split
  ·rename_i h
   have h1 := (moreE_iff (V.free f hf) (V.right.1 f hf) hs h0).1 (hE f hf h)
   have h2 := V.right.1 f hf
   unfold cpOk at h2 ⊢
   have : (moreF f s).f2 = f.f2 + s.f2 := by unfold moreF; exact w_id (by omega)
   omega
  ·exact V.right.1 f hf
 ·split
  ·exact moreF_ok (V.free f hf) hs
  ·exact V.free f hf
theorem atS_cons (f : S51) (s : S52) (l : List S52) : atS f (s :: l) = if sspot s = spot f then s :: atS f l else atS f l := by
 unfold atS
 by_cases h : sspot s = spot f
 ·rw [if_pos h, List.filter_cons_of_pos (by simpa using h)]
 ·rw [if_neg h, List.filter_cons_of_neg (by simpa using h)]
theorem viewS_step (view : List S51) (s : S52) (l : List S52) : viewS (stepV view s) l = viewS view (s :: l) := by
 unfold viewS stepV
 rw [List.map_map]
 apply List.map_congr_left
 intro f _
 simp only [Function.comp_apply]
 by_cases h : spot f = sspot s
 ·rw [if_pos h, atS_moreF, atS_cons, if_pos h.symm]; rfl
 ·rw [if_neg h, atS_cons, if_neg (fun x => h x.symm)]
theorem turnF_iff : ∀ (slots : List S52) (view : List S51), View view → (∀ s ∈ slots, maskOk s = true) →
  ((turnF moreE moreF view slots).2 = 0 ↔ okS view slots) ∧ ((turnF moreE moreF view slots).2 = 0 → (turnF moreE moreF view slots).1 = viewS view slots)
 | [], view, V, _ => by
  refine ⟨⟨fun _ => ⟨by simp, fun f hf => ⟨by simp [atS], by simp [atS], ?_⟩⟩, fun _ => rfl⟩, fun _ => ?_⟩
  ·have := V.right.1 f hf
   unfold cpOk at this
   simp [atS]; omega
  ·unfold viewS atS turnF; simp
 | s :: ss, view, V, hm => by
  have hms := hm s (by simp)
  rw [turnF]
  by_cases h1 : s.f2 < 0
  ·rw [if_pos h1]
   exact ⟨⟨fun h => (by cases h), fun h => (by have := (h.pos s (by simp)).1; omega)⟩, fun h => (by cases h)⟩
  rw [if_neg h1]
  by_cases h2 : findI view s.f0.f0 s.f0.f1 < 0
  ·rw [if_pos h2]
   have hn := findI_neg.1 h2
   exact ⟨⟨fun h => (by cases h), fun h => absurd (h.pos s (by simp)).2 hn⟩, fun h => (by cases h)⟩
  rw [if_neg h2]
  obtain ⟨p, hp⟩ := Int.eq_ofNat_of_zero_le (show 0 ≤ findI view s.f0.f0 s.f0.f1 by omega)
  obtain ⟨hpl, hps, hset, huni⟩ := set_step V.right.2 hp
  have hin : sspot s ∈ view.map spot := List.mem_map.2 ⟨view[p], List.getElem_mem hpl, hps⟩
  rw [hp, Int.toNat_natCast, rd51' view p hpl]
  have hfp := V.free _ (List.getElem_mem hpl)
  have hcp := V.right.1 _ (List.getElem_mem hpl)
  have hall : (∀ f ∈ view, spot f = sspot s → moreE f s = 0) ↔ moreE view[p] s = 0 :=
   ⟨fun h => h _ (List.getElem_mem hpl) hps, fun h f hf he => by rw [huni f hf he]; exact h⟩
  by_cases h3 : moreE view[p] s = 0
  ·rw [if_pos h3, hset]
   have V' := V.step hms (by omega) (hall.2 h3)
   have ih := turnF_iff ss (stepV view s) V' (fun x hx => hm x (by simp [hx]))
   have hiff : okS (stepV view s) ss ↔ okS view (s :: ss) := by
    constructor
    ·rintro ⟨a, b⟩
     have hpos : ∀ x ∈ s :: ss, 0 ≤ x.f2 ∧ sspot x ∈ view.map spot := fun x hx => by
      rcases List.mem_cons.1 hx with rfl | hx
      ·exact ⟨by omega, hin⟩
      ·have := a x hx; rw [stepV_spots] at this; exact this
     refine ⟨hpos, fun f hf => ?_⟩
     have hb := stepV_mem.1 b f hf
     rw [atS_cons]
     by_cases he : spot f = sspot s
     ·rw [if_pos he, atS_moreF] at hb
      rw [if_pos he.symm]
      exact (okF_cons (V.free f hf) (V.right.1 f hf) hms (by omega) (fun x hx => (hpos x (by simp [(List.mem_filter.1 hx).1])).1)).2 ⟨hall.2 h3 f hf he, hb⟩
     ·rw [if_neg he] at hb
      rw [if_neg (fun x => he x.symm)]
      exact hb
    ·rintro ⟨a, b⟩
     refine ⟨fun x hx => by rw [stepV_spots]; exact a x (by simp [hx]), stepV_mem.2 fun f hf => ?_⟩
     have hb := b f hf
     rw [atS_cons] at hb
     by_cases he : spot f = sspot s
     ·rw [if_pos he.symm] at hb
      rw [if_pos he, atS_moreF]
      exact ((okF_cons (V.free f hf) (V.right.1 f hf) hms (by omega) (fun x hx => (a x (by simp [(List.mem_filter.1 hx).1])).1)).1 hb).2
     ·rw [if_neg (fun x => he x.symm)] at hb
      rw [if_neg he]; exact hb
   exact ⟨ih.1.trans hiff, fun h => by rw [ih.2 h, viewS_step]⟩
  ·rw [if_neg h3]
   refine ⟨⟨fun h => absurd h h3, fun h => ?_⟩, fun h => absurd h h3⟩
   have hb := h.fit _ (List.getElem_mem hpl)
   rw [atS_cons, if_pos hps.symm] at hb
   exact absurd ((okF_cons hfp hcp hms (by omega) (fun x hx => (h.pos x (by simp [(List.mem_filter.1 hx).1])).1)).1 hb).1 h3
theorem perm_sum {l l' : List Int} (h : l.Perm l') : l.sum = l'.sum := by
 induction h with
 | nil => rfl
 | cons x _ ih => rw [List.sum_cons, List.sum_cons, ih]
 | swap x y l => rw [List.sum_cons, List.sum_cons, List.sum_cons, List.sum_cons]; omega
 | trans _ _ h1 h2 => exact h1.trans h2
theorem sub_sum {l l' : List S52} (h : l'.Sublist l) : (∀ s ∈ l, 0 ≤ s.f2) → (l'.map fun s => s.f2).sum ≤ (l.map fun s => s.f2).sum := by
 induction h with
 | slnil => intro _; simp
 | cons x _ ih =>
  intro h0
  have h1 := ih (fun s hs => h0 s (by simp [hs]))
  have h2 := h0 x (by simp)
  rw [List.map_cons, List.sum_cons]; omega
 | cons_cons x _ ih =>
  intro h0
  have h1 := ih (fun s hs => h0 s (by simp [hs]))
  rw [List.map_cons, List.sum_cons, List.map_cons, List.sum_cons]; omega
theorem okF_perm {f : S51} {l l' : List S52} (h : l.Perm l') : okF f l → okF f l' := fun ⟨a, b, c⟩ =>
 ⟨fun s hs => a s (h.mem_iff.2 hs), (h.pairwise_iff (fun {x y} hxy => disj_comm hxy)).1 b, by rw [← perm_sum (h.map fun s => s.f2)]; exact c⟩
theorem okF_sub {f : S51} {l l' : List S52} (h : l'.Sublist l) (h0 : ∀ s ∈ l, 0 ≤ s.f2) : okF f l → okF f l' := fun ⟨a, b, c⟩ => by
 refine ⟨fun s hs => a s (h.subset hs), b.sublist h, ?_⟩
 have := sub_sum h h0
 omega
theorem okS_perm {view : List S51} {l l' : List S52} (h : l.Perm l') : okS view l → okS view l' := fun ⟨a, b⟩ =>
 ⟨fun s hs => a s (h.mem_iff.2 hs), fun f hf => okF_perm (h.filter _) (b f hf)⟩
theorem okS_sub {view : List S51} {l l' : List S52} (h : l'.Sublist l) : okS view l → okS view l' := fun ⟨a, b⟩ =>
 ⟨fun s hs => a s (h.subset hs), fun f hf => okF_sub (h.filter _) (fun s hs => (a s (List.mem_filter.1 hs).1).1) (b f hf)⟩
theorem viewS_perm {view : List S51} {l l' : List S52} (h : l.Perm l') : viewS view l = viewS view l' := by
 unfold viewS
 apply List.map_congr_left
 intro f _
 exact (h.filter _).foldl_eq' (fun x _ y _ z => moreF_comm z x y) _
theorem turnF_append {E : S51 → S52 → Int} {F : S51 → S52 → S51} : ∀ (a b : List S52) (view : List S51), (turnF E F view a).2 = 0 → turnF E F view (a ++ b) = turnF E F (turnF E F view a).1 b
 | [], b, view, _ => rfl
 | s :: ss, b, view, h => by
  rw [turnF] at h
  rw [List.cons_append, turnF, turnF]
  by_cases h1 : s.f2 < 0
  ·rw [if_pos h1] at h; cases h
  rw [if_neg h1] at h
  rw [if_neg h1, if_neg h1]
  by_cases h2 : findI view s.f0.f0 s.f0.f1 < 0
  ·rw [if_pos h2] at h; cases h
  rw [if_neg h2] at h
  rw [if_neg h2, if_neg h2]
  by_cases h3 : E (rd_T51 view (findI view s.f0.f0 s.f0.f1)) s = 0
  ·rw [if_pos h3] at h
   rw [if_pos h3, if_pos h3]
   exact turnF_append ss b _ h
  ·rw [if_neg h3] at h; exact absurd h h3
end Go.Proofs.Ytckhjehibjdjdaa.P
namespace Go.Proofs.Ytckhjehibjdjdaa.P
open Go.RowKit Go.Proofs.YtckhjehibjdjdaaW.PrintWords Go.Proofs.YtckhjehibjdjdaaW.PrintLast Go.Proofs.YtckhjehibjdjdaaW.PrintMore
open Go.Proofs.Ytckhjehibjdjdaa.Bits Go.Proofs.Ytckhjehibjdjdaa.Mp
set_option linter.unusedVariables false
set_option linter.unusedSimpArgs false
def popS (l : List S52) : Int := (l.map fun s => popI s.f1).sum
def cpS (l : List S52) : Int := (l.map fun s => s.f2).sum
def I64P (a : Int × Int) : Prop := (-9223372036854775808 ≤ a.1 ∧ a.1 ≤ 9223372036854775807) ∧ -9223372036854775808 ≤ a.2 ∧ a.2 ≤ 9223372036854775807
theorem wrap_bd (x : Int) : -9223372036854775808 ≤ wrap64 x ∧ wrap64 x ≤ 9223372036854775807 := by unfold wrap64; omega
theorem wrap_add (a b : Int) : wrap64 (wrap64 a + b) = wrap64 (a + b) := by unfold wrap64; omega
theorem wrap_add' (a b : Int) : wrap64 (a + wrap64 b) = wrap64 (a + b) := by unfold wrap64; omega
theorem addL_true : ∀ (l : List S52) (a : Int × Int), I64P a → addL true a l = (wrap64 (a.1 + popS l), wrap64 (a.2 + cpS l))
 | [], a, h => by
  unfold I64P at h
  have e1 : wrap64 (a.1 + popS []) = a.1 := by rw [show popS [] = 0 from rfl, Int.add_zero]; exact w_id (by omega)
  have e2 : wrap64 (a.2 + cpS []) = a.2 := by rw [show cpS [] = 0 from rfl, Int.add_zero]; exact w_id (by omega)
  rw [e1, e2]; rfl
 | s :: l, a, h => by
  have e : addL true a (s :: l) = addL true (addU true a s) l := rfl
  have e2 : addU true a s = (wrap64 (a.1 + popI s.f1), wrap64 (a.2 + s.f2)) := if_pos rfl
  rw [e, e2, addL_true l _ ⟨wrap_bd _, wrap_bd _⟩]
  simp only
  rw [wrap_add, wrap_add]
  simp only [popS, cpS, List.map_cons, List.sum_cons]
  rw [Int.add_assoc, Int.add_assoc]
theorem addL_false (l : List S52) : ∀ a : Int × Int, addL false a l = a := by
 induction l with
 | nil => intro a; rfl
 | cons s l ih => intro a; exact ih a
theorem addL_left (l : List S52) (a : Int × Int) (h : I64P a) : addL true a l = (wrap64 (a.1 + (addL true (0, 0) l).1), wrap64 (a.2 + (addL true (0, 0) l).2)) := by
 rw [addL_true l a h, addL_true l (0, 0) ⟨by simp, by simp⟩]
 simp only
 rw [wrap_add', wrap_add', Int.zero_add, Int.zero_add]
def qPop (q : Int) (L : List S41) : Int := ((L.filter fun h => decide (h.f1 = q)).map fun h => popS h.f4).sum
def qCp (q : Int) (L : List S41) : Int := ((L.filter fun h => decide (h.f1 = q)).map fun h => cpS h.f4).sum
theorem leftQ_eq (q : Int) : ∀ (L : List S41) (a : Int × Int), I64P a → leftQ q a L = (wrap64 (a.1 + qPop q L), wrap64 (a.2 + qCp q L))
 | [], a, h => by
  unfold I64P at h
  have e1 : wrap64 (a.1 + qPop q []) = a.1 := by rw [show qPop q [] = 0 from rfl, Int.add_zero]; exact w_id (by omega)
  have e2 : wrap64 (a.2 + qCp q []) = a.2 := by rw [show qCp q [] = 0 from rfl, Int.add_zero]; exact w_id (by omega)
  rw [e1, e2]; rfl
 | x :: L, a, h => by
  rw [leftQ]
  by_cases hq : x.f1 = q
  ·rw [if_pos hq, ← addL_left x.f4 a h, addL_true x.f4 a h, leftQ_eq q L _ ⟨wrap_bd _, wrap_bd _⟩]
   simp only
   rw [wrap_add, wrap_add]
   unfold qPop qCp
   rw [List.filter_cons_of_pos (by simpa using hq), List.map_cons, List.map_cons, List.sum_cons, List.sum_cons, Int.add_assoc, Int.add_assoc]
  ·rw [if_neg hq, leftQ_eq q L a h]
   unfold qPop qCp
   rw [List.filter_cons_of_neg (by simpa using hq)]
theorem leftQ_perm {q : Int} {L L' : List S41} (h : L.Perm L') (a : Int × Int) (ha : I64P a) : leftQ q a L = leftQ q a L' := by
 rw [leftQ_eq q L a ha, leftQ_eq q L' a ha]
 unfold qPop qCp
 rw [perm_sum ((h.filter _).map _), perm_sum ((h.filter _).map fun h => cpS h.f4)]
theorem leftQ_snoc (q : Int) : ∀ (L : List S41) (x : S41) (a : Int × Int), I64P a → leftQ q a (L ++ [x]) = addL (decide (x.f1 = q)) (leftQ q a L) x.f4
 | [], x, a, h => by
  rw [List.nil_append, leftQ, leftQ, leftQ]
  by_cases hq : x.f1 = q
  ·rw [if_pos hq, decide_eq_true hq, addL_left x.f4 a h]
  ·rw [if_neg hq, decide_eq_false hq, addL_false]
 | y :: L, x, a, h => by
  rw [List.cons_append, leftQ, leftQ]
  refine leftQ_snoc q L x _ ?_
  split
  ·exact ⟨wrap_bd _, wrap_bd _⟩
  ·exact h
def IsBest (A : Int → Bool) (t : Int) (L : List S41) (b : Int) : Prop :=
 (b = 1073741825 ∨ ∃ h ∈ L, h.f2 = b ∧ t < b ∧ b < 1073741825 ∧ A b = true) ∧ b ≤ 1073741825 ∧ ∀ h ∈ L, t < h.f2 → h.f2 < 1073741825 → A h.f2 = true → b ≤ h.f2
def IsE (A : Int → Bool) (t : Int) (L : List S41) (b : Int) : Prop := (A t = true ∧ b = t) ∨ (A t = false ∧ IsBest A t L b)
theorem bestF_spec (A : Int → Bool) (now : Int) : ∀ (l : List S41) (b : Int), (bestF A now b l = b ∨ ∃ h ∈ l, h.f2 = bestF A now b l ∧ now < bestF A now b l ∧ bestF A now b l < b ∧ A (bestF A now b l) = true) ∧ bestF A now b l ≤ b ∧ ∀ h ∈ l, now < h.f2 → h.f2 < b → A h.f2 = true → bestF A now b l ≤ h.f2
 | [], b => ⟨.inl rfl, Int.le_refl _, by simp⟩
 | x :: l, b => by
  rw [bestF]
  by_cases h : x.f2 > now ∧ x.f2 < b ∧ A x.f2 = true
  ·rw [if_pos h]
   obtain ⟨i1, i2, i3⟩ := bestF_spec A now l x.f2
   refine ⟨.inr ?_, by omega, fun y hy h1 h2 h3 => ?_⟩
   ·rcases i1 with i1 | ⟨y, hy, i4, i5, i6, i7⟩
    ·exact ⟨x, by simp, i1.symm, by omega, by omega, by rw [i1]; exact h.2.2⟩
    ·exact ⟨y, by simp [hy], i4, i5, by omega, i7⟩
   ·rcases List.mem_cons.1 hy with rfl | hy
    ·exact i2
    ·by_cases hlt : y.f2 < x.f2
     ·exact i3 y hy h1 hlt h3
     ·omega
  ·rw [if_neg h]
   obtain ⟨i1, i2, i3⟩ := bestF_spec A now l b
   refine ⟨?_, i2, fun y hy h1 h2 h3 => ?_⟩
   ·rcases i1 with i1 | ⟨y, hy, i4⟩
    ·exact .inl i1
    ·exact .inr ⟨y, by simp [hy], i4⟩
   ·rcases List.mem_cons.1 hy with rfl | hy
    ·exact absurd ⟨h1, h2, h3⟩ h
    ·exact i3 y hy h1 h2 h3
theorem bestF_best (A : Int → Bool) (now : Int) (l : List S41) : IsBest A now l (bestF A now 1073741825 l) := bestF_spec A now l 1073741825
theorem IsBest.uniq {A : Int → Bool} {t : Int} {L L' : List S41} {b b' : Int} (h : IsBest A t L b) (h' : IsBest A t L' b') (hm : ∀ x, x ∈ L ↔ x ∈ L') : b = b' := by
 obtain ⟨h1, h2, h3⟩ := h
 obtain ⟨k1, k2, k3⟩ := h'
 have a : b ≤ b' := by
  rcases k1 with rfl | ⟨x, hx, rfl, k4, k5, k6⟩
  ·exact h2
  ·exact h3 x ((hm x).2 hx) k4 k5 k6
 have a' : b' ≤ b := by
  rcases h1 with rfl | ⟨x, hx, rfl, k4, k5, k6⟩
  ·exact k2
  ·exact k3 x ((hm x).1 hx) k4 k5 k6
 omega
theorem IsE.uniq {A : Int → Bool} {t : Int} {L L' : List S41} {b b' : Int} (h : IsE A t L b) (h' : IsE A t L' b') (hm : ∀ x, x ∈ L ↔ x ∈ L') : b = b' := by
 rcases h with ⟨h1, h2⟩ | ⟨h1, h2⟩ <;> rcases h' with ⟨k1, k2⟩ | ⟨k1, k2⟩
 ·omega
 ·rw [h1] at k1; cases k1
 ·rw [h1] at k1; cases k1
 ·exact h2.uniq k2 hm
theorem slotsOf_perm {a b : List S41} (h : a.Perm b) : (slotsOf a).Perm (slotsOf b) := by
 induction h with
 | nil => exact List.Perm.refl _
 | cons x _ ih => rw [slotsOf_cons, slotsOf_cons]; exact ih.append_left _
 | swap x y l =>
  rw [slotsOf_cons, slotsOf_cons, slotsOf_cons, slotsOf_cons, ← List.append_assoc, ← List.append_assoc]
  exact List.perm_append_comm.append_right _
 | trans _ _ h1 h2 => exact h1.trans h2
structure Fine (view : List S51) (lg lc : Int) (ends : List S41) : Prop where
 V : View view
 I : Inp view ends
 L : I64P (lg, lc)
 ok : okS view (slotsOf ends)
theorem Fine.turn {view : List S51} {lg lc : Int} {ends : List S41} (F : Fine view lg lc ends) {l l' : List S52} (hp : l'.Perm (slotsOf ends)) (hs : l.Sublist l') :
  (turnF moreE moreF view l).2 = 0 ∧ (turnF moreE moreF view l).1 = viewS view l := by
 have hm : ∀ s ∈ l, maskOk s = true := fun s h => F.I.sm s (hp.mem_iff.1 (hs.subset h))
 have h := turnF_iff l view F.V hm
 have h0 := h.1.2 (okS_sub hs (okS_perm hp.symm F.ok))
 exact ⟨h0, h.2 h0⟩
theorem ended_append (T : Int) (a b : List S41) : ended T (a ++ b) = ended T a ++ ended T b := List.filter_append ..
theorem ended_all {T : Int} {l : List S41} (h : ∀ x ∈ l, x.f2 ≤ T) : ended T l = l := List.filter_eq_self.2 fun x hx => by simpa using h x hx
theorem ended_none {T : Int} {l : List S41} (h : ∀ x ∈ l, T < x.f2) : ended T l = [] := List.filter_eq_nil_iff.2 fun x hx => by have := h x hx; simp; omega
theorem fits_pre {view : List S51} {lg lc : Int} {ends : List S41} (F : Fine view lg lc ends) (q m g c mn mx T : Int) {S pre l : List S41} (hS : S.Perm ends) (he : S = pre ++ l) (h1 : ∀ x ∈ pre, x.f2 ≤ T) (h2 : ∀ x ∈ l, T < x.f2) :
  fitsB (turnF moreE moreF view (slotsOf pre)).1 (leftQ q (lg, lc) pre).1 (leftQ q (lg, lc) pre).2 m g c mn mx = atB view lg lc ends q m g c mn mx T := by
 have hp : pre.Perm (ended T ends) := by
  have h := hS.filter (fun h => decide (h.f2 ≤ T))
  have e : S.filter (fun h => decide (h.f2 ≤ T)) = pre := by
   show ended T S = pre
   rw [he, ended_append, ended_all h1, ended_none h2, List.append_nil]
  rw [e] at h
  exact h
 have t1 := F.turn (l := slotsOf pre) (slotsOf_perm hS) (by rw [he, slotsOf_append]; exact List.sublist_append_left _ _)
 have t2 := F.turn (l := slotsOf (ended T ends)) (List.Perm.refl _) (sub_slots List.filter_sublist)
 unfold atB
 rw [t1.2, t2.2, viewS_perm (slotsOf_perm hp), leftQ_perm hp (lg, lc) F.L]
theorem goE_is {view : List S51} {lg lc : Int} {ends : List S41} (F : Fine view lg lc ends) (q m g c mn mx : Int) {S : List S41} (hS : S.Perm ends) (hsort : S.Pairwise fun a b => a.f2 ≤ b.f2) :
  ∀ (l pre : List S41) (t : Int), S = pre ++ l → (∀ x ∈ pre, x.f2 ≤ t) → IsE (atB view lg lc ends q m g c mn mx) t S (goE q m g c mn mx l t (turnF moreE moreF view (slotsOf pre)).1 (leftQ q (lg, lc) pre))
 | [], pre, t, he, h1 => by
  have hf := fits_pre F q m g c mn mx t hS he h1 (by simp)
  rw [goE, hf]
  cases hA : atB view lg lc ends q m g c mn mx t with
  | true => exact .inl ⟨hA, if_pos rfl⟩
  | false =>
   refine .inr ⟨hA, ?_⟩
   rw [if_neg (by decide)]
   refine ⟨.inl rfl, Int.le_refl _, fun h hh h2 => ?_⟩
   rw [he, List.append_nil] at hh
   have := h1 h hh
   omega
 | x :: l, pre, t, he, h1 => by
  have hx : ∀ y ∈ l, x.f2 ≤ y.f2 := by
   rw [he] at hsort
   exact (List.pairwise_cons.1 (List.pairwise_append.1 hsort).2.1).1
  have he' : S = (pre ++ [x]) ++ l := by rw [he]; simp
  have t1 := F.turn (l := slotsOf pre) (slotsOf_perm hS) (by rw [he, slotsOf_append]; exact List.sublist_append_left _ _)
  have hsp : ((turnF moreE moreF view (slotsOf pre)).1.map spot).Nodup := by
   rw [t1.2]
   have : (viewS view (slotsOf pre)).map spot = view.map spot := by
    unfold viewS
    rw [List.map_map]
    apply List.map_congr_left
    intro f _
    simp only [Function.comp_apply]
    generalize atS f (slotsOf pre) = sl
    have : ∀ (sl : List S52) (f : S51), spot (sl.foldl moreF f) = spot f := fun sl => by
     induction sl with
     | nil => intro f; rfl
     | cons s sl ih => intro f; rw [List.foldl_cons, ih]; rfl
    exact this sl f
   rw [this]; exact F.V.right.2
  have hv : (turned51 moreE moreF (turnF moreE moreF view (slotsOf pre)).1 x.f4).1 = (turnF moreE moreF view (slotsOf (pre ++ [x]))).1 := by
   rw [turned51_find (F := moreF) (fun _ _ => rfl) hsp, slotsOf_append, show slotsOf [x] = x.f4 by simp [slotsOf], turnF_append _ _ _ t1.1]
  have hl := leftQ_snoc q pre x (lg, lc) F.L
  have IH := goE_is F q m g c mn mx hS hsort l (pre ++ [x])
  rw [goE, hv, ← hl]
  by_cases h2 : x.f2 > t
  ·have hgt : ∀ y ∈ x :: l, t < y.f2 := fun y hy => by
    rcases List.mem_cons.1 hy with rfl | hy
    ·exact h2
    ·have := hx y hy; omega
   have hf := fits_pre F q m g c mn mx t hS he h1 hgt
   rw [if_pos h2, hf]
   cases hA : atB view lg lc ends q m g c mn mx t with
   | true => exact .inl ⟨hA, if_pos rfl⟩
   | false =>
    rw [if_neg (by decide)]
    refine .inr ⟨hA, ?_⟩
    by_cases h3 : x.f2 ≥ 1073741825
    ·rw [if_pos h3]
     refine ⟨.inl rfl, Int.le_refl _, fun y hy h4 h5 => ?_⟩
     rw [he] at hy
     rcases List.mem_append.1 hy with hy | hy
     ·have := h1 y hy; omega
     ·rcases List.mem_cons.1 hy with rfl | hy
      ·omega
      ·have := hx y hy; omega
    ·rw [if_neg h3]
     have i := IH x.f2 he' (fun y hy => by
      rcases List.mem_append.1 hy with hy | hy
      ·have := h1 y hy; omega
      ·rw [List.mem_singleton.1 hy]; exact Int.le_refl _)
     generalize goE q m g c mn mx l x.f2 (turnF moreE moreF view (slotsOf (pre ++ [x]))).1 (leftQ q (lg, lc) (pre ++ [x])) = r at *
     have hxS : x ∈ S := by rw [he]; simp
     have hmem : ∀ y ∈ S, t < y.f2 → x.f2 ≤ y.f2 := fun y hy h => by
      rw [he] at hy
      rcases List.mem_append.1 hy with hy | hy
      ·have := h1 y hy; omega
      ·rcases List.mem_cons.1 hy with rfl | hy
       ·exact Int.le_refl _
       ·exact hx y hy
     rcases i with ⟨i1, rfl⟩ | ⟨i1, i2, i3, i4⟩
     ·exact ⟨.inr ⟨x, hxS, rfl, h2, by omega, i1⟩, by omega, fun y hy h _ _ => hmem y hy h⟩
     ·refine ⟨?_, i3, fun y hy h4 h5 h6 => ?_⟩
      ·rcases i2 with i2 | ⟨y, hy, j1, j2, j3, j4⟩
       ·exact .inl i2
       ·exact .inr ⟨y, hy, j1, by omega, j3, j4⟩
      ·have h7 := hmem y hy h4
       by_cases h8 : x.f2 = y.f2
       ·rw [← h8, i1] at h6; cases h6
       ·exact i4 y hy (by omega) h5 h6
  ·rw [if_neg h2]
   exact IH t he' (fun y hy => by
    rcases List.mem_append.1 hy with hy | hy
    ·exact h1 y hy
    ·rw [List.mem_singleton.1 hy]; omega)
theorem goE_early {view : List S51} {lg lc : Int} {ends : List S41} (F : Fine view lg lc ends) (q m g c mn mx now : Int) :
  IsE (atB view lg lc ends q m g c mn mx) now ends (goE q m g c mn mx (isort skey41 ends) now view (lg, lc)) := by
 have hp := isort_perm skey41 ends
 have h := goE_is F q m g c mn mx hp (isort_sorted skey41 ends) (isort skey41 ends) [] now rfl (by simp)
 have e : (turnF moreE moreF view (slotsOf [])).1 = view := rfl
 have e2 : leftQ q (lg, lc) [] = (lg, lc) := rfl
 rw [e, e2] at h
 rcases h with h | ⟨h1, h2, h3, h4⟩
 ·exact .inl h
 ·refine .inr ⟨h1, ?_, h3, fun y hy => h4 y (hp.mem_iff.2 hy)⟩
  rcases h2 with h2 | ⟨y, hy, h5⟩
  ·exact .inl h2
  ·exact .inr ⟨y, hp.mem_iff.1 hy, h5⟩
theorem refEarly_is {view : List S51} {lg lc : Int} {ends : List S41} (q m g c mn mx now : Int) (h0 : ¬ (now < 0 ∨ now > 1073741824 ∨ rightB m g c mn mx = false)) (hok : (turnF moreE moreF view (slotsOf ends)).2 = 0) :
  ∃ b, refEarly now view lg lc ends q m g c mn mx = (b, 0) ∧ IsE (atB view lg lc ends q m g c mn mx) now ends b := by
 unfold refEarly
 rw [if_neg h0, if_neg (fun x => x hok)]
 cases hA : atB view lg lc ends q m g c mn mx now with
 | true => exact ⟨now, by simp, .inl ⟨hA, rfl⟩⟩
 | false => exact ⟨bestF (atB view lg lc ends q m g c mn mx) now 1073741825 ends, by simp, .inr ⟨hA, bestF_best _ _ _⟩⟩
theorem early_ref {view : List S51} {lg lc : Int} {ends : List S41} (V : View view) (I : Inp view ends) (L : I64P (lg, lc)) (now q m g c mn mx : Int) :
  earliestB now view lg lc ends q m g c mn mx = refEarly now view lg lc ends q m g c mn mx := by
 have ht : turned51 moreE moreF view (slotsOf ends) = turnF moreE moreF view (slotsOf ends) := turned51_find (F := moreF) (fun _ _ => rfl) V.right.2 _
 by_cases h0 : now < 0 ∨ now > 1073741824 ∨ rightB m g c mn mx = false
 ·unfold earliestB refEarly
  rw [if_pos h0, if_pos h0]
 by_cases h1 : (turnF moreE moreF view (slotsOf ends)).2 = 0
 ·have F : Fine view lg lc ends := ⟨V, I, L, ((turnF_iff _ view V I.sm).1).1 h1⟩
  obtain ⟨b, hb, hE⟩ := refEarly_is (lg := lg) (lc := lc) q m g c mn mx now h0 h1
  rw [hb]
  unfold earliestB
  rw [if_neg h0, show (ends.flatMap fun h => h.f4) = slotsOf ends from rfl, ht, if_neg (fun x => x h1)]
  rw [(goE_early F q m g c mn mx now).uniq hE (fun _ => Iff.rfl)]
 ·unfold earliestB refEarly
  rw [if_neg h0, if_neg h0, show (ends.flatMap fun h => h.f4) = slotsOf ends from rfl, ht, if_pos h1, if_pos h1]
end Go.Proofs.Ytckhjehibjdjdaa.P
namespace Go.Proofs.Ytckhjehibjdjdaa.P
open Go.RowKit Go.Shelf Go.Proofs.YtckhjehibjdjdaaW.PrintWords Go.Proofs.YtckhjehibjdjdaaW.PrintLast Go.Proofs.YtckhjehibjdjdaaW.PrintMore
attribute [local go_sem] Oper.semAt_some
set_option linter.unusedVariables false
set_option linter.unusedSimpArgs false
end Go.Proofs.Ytckhjehibjdjdaa.P
namespace Go.Proofs.Ytckhjehibjdjdaa.P
open Go.RowKit Go.Shelf Go.Proofs.YtckhjehibjdjdaaW.PrintWords Go.Proofs.YtckhjehibjdjdaaW.PrintLast Go.Proofs.YtckhjehibjdjdaaW.PrintMore
attribute [local go_sem] Oper.semAt_some
set_option linter.unusedVariables false
set_option linter.unusedSimpArgs false
end Go.Proofs.Ytckhjehibjdjdaa.P
namespace Go.Proofs.Ytckhjehibjdjdaa.P
open Go.RowKit Go.Shelf Go.Proofs.YtckhjehibjdjdaaW.PrintWords Go.Proofs.YtckhjehibjdjdaaW.PrintLast Go.Proofs.YtckhjehibjdjdaaW.PrintMore
attribute [local go_sem] Oper.semAt_some
set_option linter.unusedVariables false
set_option linter.unusedSimpArgs false
end Go.Proofs.Ytckhjehibjdjdaa.P
namespace Go.Proofs.Ytckhjehibjdjdaa.P
open Go.RowKit Go.Shelf Go.Proofs.YtckhjehibjdjdaaW.PrintWords Go.Proofs.YtckhjehibjdjdaaW.PrintLast Go.Proofs.YtckhjehibjdjdaaW.PrintMore
attribute [local go_sem] Oper.semAt_some
set_option linter.unusedVariables false
set_option linter.unusedSimpArgs false
end Go.Proofs.Ytckhjehibjdjdaa.P
namespace Go.Proofs.Ytckhjehibjdjdaa.P
open Go.RowKit Go.Shelf Go.Proofs.YtckhjehibjdjdaaW.PrintWords Go.Proofs.YtckhjehibjdjdaaW.PrintLast Go.Proofs.YtckhjehibjdjdaaW.PrintMore
attribute [local go_sem] Oper.semAt_some
set_option linter.unusedVariables false
set_option linter.unusedSimpArgs false
theorem KP.trans {w W W' : World} {S : Nat → Prop} (h : KP w W S) (h' : KP W W' S) : KP w W' S :=
 ⟨⟨Nat.le_trans h.kept.1 h'.kept.1, fun i hi hs => (h'.kept.2 i (Nat.lt_of_lt_of_le hi h.kept.1) hs).trans (h.kept.2 i hi hs)⟩, h'.os.trans h.os, h'.tape.trans h.tape, h'.output.trans h.output⟩
end Go.Proofs.Ytckhjehibjdjdaa.P
namespace Go.Proofs.Ytckhjehibjdjdaa.P
open Go.RowKit Go.Proofs.YtckhjehibjdjdaaW.PrintWords Go.Proofs.YtckhjehibjdjdaaW.PrintLast Go.Proofs.YtckhjehibjdjdaaW.PrintMore
attribute [local go_sem] max2_int min2_int max_two min_two max_three min_three max_four min_four
set_option linter.unusedVariables false
set_option linter.unusedSimpArgs false
end Go.Proofs.Ytckhjehibjdjdaa.P
namespace Go.Proofs.Ytckhjehibjdjdaa.P
open Go.RowKit Go.Proofs.YtckhjehibjdjdaaW.PrintWords Go.Proofs.YtckhjehibjdjdaaW.PrintLast Go.Proofs.YtckhjehibjdjdaaW.PrintMore
open Go.Proofs.Ytckhjehibjdjdaa.Bits Go.Proofs.Ytckhjehibjdjdaa.Mp
set_option linter.unusedVariables false
set_option linter.unusedSimpArgs false
theorem free_of_wf {f : S51} (h : wfd51 f) : freeOk f = true ∧ (w64B f.f0.f0 && w64B f.f0.f1) = true := by
 unfold wfd51 wfd48 I64 U64 at h
 constructor
 ·unfold freeOk w64B
  rw [decide_eq_true (by omega), decide_eq_true (by omega), decide_eq_true (by omega), decide_eq_true (by omega)]; rfl
 ·unfold w64B
  rw [decide_eq_true (by omega), decide_eq_true (by omega), decide_eq_true (by omega), decide_eq_true (by omega)]; rfl
theorem slots_len {n : Nat} : ∀ {ends : List S41}, (∀ h ∈ ends, h.f4.length ≤ n) → (slotsOf ends).length ≤ n * ends.length
 | [], _ => by simp [slotsOf]
 | x :: l, h => by
  have h1 := h x (by simp)
  have h2 := slots_len (ends := l) (fun y hy => h y (by simp [hy]))
  rw [slotsOf_cons, List.length_append, List.length_cons, Nat.mul_succ]
  omega
structure Setup (view : List S51) (lg lc : Int) (ends : List S41) : Prop where
 V : View view
 I : Inp view ends
 L : I64P (lg, lc)
 vo : viewOk view
 so : ∀ s ∈ slotsOf ends, (w64B s.f0.f0 && w64B s.f0.f1) = true
 el : ends.length ≤ 20
 vl : view.length ≤ 70
 hl : ∀ h ∈ ends, h.f4.length ≤ 20
 lb : (-1048576 ≤ lg ∧ lg ≤ 1048576) ∧ -1048576 ≤ lc ∧ lc ≤ 1048576
theorem okE_mk {view : List S51} {ends : List S41} (hv : viewOk view) (hn : ends.length ≤ 1000) (hm : ∀ s ∈ slotsOf ends, maskOk s = true) (hs : ∀ s ∈ slotsOf ends, (w64B s.f0.f0 && w64B s.f0.f1) = true) (hl : (slotsOf ends).length < 4000000000) : okE view ends = true := by
 unfold okE spotsOk
 rw [show (ends.flatMap fun h => h.f4) = slotsOf ends from rfl, decide_eq_true hn, decide_eq_true hv.1, decide_eq_true hl, List.all_eq_true.2 hv.2.1, List.all_eq_true.2 hv.2.2, List.all_eq_true.2 hm, List.all_eq_true.2 hs]
 rfl
theorem Setup.early {view : List S51} {lg lc : Int} {ends : List S41} (S : Setup view lg lc ends) (now q m g c mn mx : Int) :
  promise_Earliest.f now view lg lc ends q m g c mn mx = some (refEarly now view lg lc ends q m g c mn mx) := by
 unfold promise_Earliest.f
 rw [if_pos (okE_mk S.vo (Nat.le_trans S.el (by decide)) S.I.sm S.so S.I.es), early_ref S.V S.I S.L]
end Go.Proofs.Ytckhjehibjdjdaa.P
namespace Go.Proofs.Ytckhjehibjdjdaa.P
open Go.RowKit Go.Proofs.YtckhjehibjdjdaaW.PrintWords Go.Proofs.YtckhjehibjdjdaaW.PrintLast Go.Proofs.YtckhjehibjdjdaaW.PrintMore
open Go.Proofs.Ytckhjehibjdjdaa.Bits Go.Proofs.Ytckhjehibjdjdaa.Mp
set_option linter.unusedVariables false
set_option linter.unusedSimpArgs false
theorem popS_cons (s : S52) (l : List S52) : popS (s :: l) = popI s.f1 + popS l := by simp [popS]
theorem cpS_cons (s : S52) (l : List S52) : cpS (s :: l) = s.f2 + cpS l := by simp [cpS]
theorem eachI_mono {a b n : Int} (h0 : 0 ≤ n) (h : a ≤ b) : eachI a n ≤ eachI b n := by
 unfold eachI
 split
 ·exact Int.le_refl _
 ·exact Int.ediv_le_ediv (by omega) h
def cpMax (l : List S52) : Prop := ∀ s ∈ l, 0 ≤ s.f2 ∧ s.f2 ≤ 1048576
theorem max_until : ∀ (l : List S41), l ≠ [] → ∃ x ∈ l, ∀ y ∈ l, y.f2 ≤ x.f2
 | [], h => absurd rfl h
 | [x], _ => ⟨x, by simp, by simp⟩
 | x :: y :: l, _ => by
  obtain ⟨z, hz, h⟩ := max_until (y :: l) (by simp)
  by_cases hxz : x.f2 ≤ z.f2
  ·exact ⟨z, by simp [List.mem_cons.1 hz], fun u hu => by
    rcases List.mem_cons.1 hu with rfl | hu
    ·exact hxz
    ·exact h u hu⟩
  ·exact ⟨x, by simp, fun u hu => by
    rcases List.mem_cons.1 hu with rfl | hu
    ·exact Int.le_refl _
    ·have := h u hu; omega⟩
theorem IsE.le {view : List S51} {lg lc : Int} {ends : List S41} {q m g c mn mx now T b : Int} (h : IsE (atB view lg lc ends q m g c mn mx) now ends b) (hT : now ≤ T) (hN : T < 1073741825) (hA : atB view lg lc ends q m g c mn mx T = true) : b ≤ T := by
 rcases h with ⟨_, rfl⟩ | ⟨h0, h1, h2, h3⟩
 ·exact hT
 by_cases hne : ended T ends = []
 ·have : ended now ends = [] := List.filter_eq_nil_iff.2 fun x hx => by
   have := List.filter_eq_nil_iff.1 hne x hx
   simp at this ⊢; omega
  unfold atB at hA h0
  rw [hne] at hA
  rw [this, hA] at h0
  cases h0
 ·obtain ⟨x, hx, hmax⟩ := max_until _ hne
  have hxm := List.mem_filter.1 hx
  have hxT : x.f2 ≤ T := by simpa using hxm.2
  have heq : ∀ U, x.f2 ≤ U → U ≤ T → ended U ends = ended T ends := fun U h4 h5 => by
   unfold ended
   apply List.filter_congr
   intro y hy
   rw [Bool.eq_iff_iff]
   simp only [decide_eq_true_eq]
   constructor
   ·omega
   ·intro h6
    have := hmax y (List.mem_filter.2 ⟨hy, by simpa using h6⟩)
    omega
  by_cases hxn : x.f2 ≤ now
  ·have := heq now hxn hT
   unfold atB at hA h0
   rw [this, hA] at h0
   cases h0
  ·have hAx : atB view lg lc ends q m g c mn mx x.f2 = true := by
    unfold atB at hA ⊢
    rw [heq x.f2 (Int.le_refl _) hxT]; exact hA
   have := h3 x hxm.1 (by omega) (by omega) hAx
   omega
theorem IsE.at {A : Int → Bool} {now b : Int} {L : List S41} (h : IsE A now L b) (hb : b < 1073741825) : A b = true := by
 rcases h with ⟨h1, rfl⟩ | ⟨_, h1, _⟩
 ·exact h1
 ·rcases h1 with rfl | ⟨_, _, _, _, _, h2⟩
  ·omega
  ·exact h2
end Go.Proofs.Ytckhjehibjdjdaa.P
namespace Go.Proofs.Ytckhjehibjdjdaa.P
open Go.RowKit Go.Shelf Go.Proofs.YtckhjehibjdjdaaW.PrintWords Go.Proofs.YtckhjehibjdjdaaW.PrintLast Go.Proofs.YtckhjehibjdjdaaW.PrintMore
attribute [local go_sem] Oper.semAt_some
set_option linter.unusedVariables false
set_option linter.unusedSimpArgs false
def api_Hold.f (l0 : List (S41)) : Option ((List (S41))) := if l0.length < 1000000 then some l0 else none
end Go.Proofs.Ytckhjehibjdjdaa.P
namespace Go.Proofs.Ytckhjehibjdjdaa.P
open Go.RowKit Go.Shelf Go.Proofs.YtckhjehibjdjdaaW.PrintWords Go.Proofs.YtckhjehibjdjdaaW.PrintLast Go.Proofs.YtckhjehibjdjdaaW.PrintMore
open Go.Proofs.Ytckhjehibjdjdaa.Bits
attribute [local go_sem] Oper.semAt_some
set_option linter.unusedVariables false
set_option linter.unusedSimpArgs false
def subU (a : Int × Int) (s : S52) : Int × Int := (wrap64 (a.1 - popI s.f1), wrap64 (a.2 - s.f2))
def subL (a : Int × Int) (l : List S52) : Int × Int := l.foldl subU a
def maskAll (l : List S52) : Bool := l.all maskOk && decide (l.length < 1000000000)
def fill_take.f (a0_0 : Int) (a0_1 : Int) (l1 : List (S52)) : Option (Int × Int) := if maskAll l1 = true then some (subL (a0_0, a0_1) l1) else none
end Go.Proofs.Ytckhjehibjdjdaa.P
namespace Go.Proofs.Ytckhjehibjdjdaa.P
open Go.RowKit Go.Proofs.YtckhjehibjdjdaaW.PrintWords Go.Proofs.YtckhjehibjdjdaaW.PrintLast Go.Proofs.YtckhjehibjdjdaaW.PrintMore
attribute [local go_sem] max2_int min2_int max_two min_two max_three min_three max_four min_four
set_option linter.unusedVariables false
set_option linter.unusedSimpArgs false
def fill_After.f (a0 : Int) (l1 : List (S51)) (a2_0 : Int) (a2_1 : Int) (l3 : List (S41)) (a4_0 : Int) (a4_1 : Int) (a4_2 : Int) (a4_3 : Int) (a4_4 : Int) (a4_5 : Int) (a5_0 : Int) (a5_1 : Int) (a5_2 : Int) (a5_3 : Bool) (l5_4 : List (S52)) : Option (Int × Int) := (pack_Less.f l1 l5_4).bind fun bt329 => (if bt329.2 = 0 then (if a5_1 = a4_0 then ((fill_take.f a2_0 a2_1 l5_4).bind fun bt333 => ((api_Hold.f l3).bind fun t335 => ((some (([(⟨a5_0, a5_1, a5_2, a5_3, l5_4⟩ : S41)] : List (S41)) : List (S41))).bind fun y338 => (if t335.length + y338.length < 2513169434916 then ((promise_Earliest.f a0 bt329.1 bt333.1 bt333.2 (t335 ++ y338) a4_0 a4_1 a4_2 a4_3 a4_4 a4_5).bind fun bt344 => (some (bt344.1, bt344.2))) else (none))))) else ((api_Hold.f l3).bind fun t346 => ((some (([(⟨a5_0, a5_1, a5_2, a5_3, l5_4⟩ : S41)] : List (S41)) : List (S41))).bind fun y349 => (if t346.length + y349.length < 2513169434916 then ((promise_Earliest.f a0 bt329.1 a2_0 a2_1 (t346 ++ y349) a4_0 a4_1 a4_2 a4_3 a4_4 a4_5).bind fun bt355 => (some (bt355.1, bt355.2))) else (none))))) else (some (0, bt329.2)))
def fill_After.T6 : Bool × List (List Nat × List Nat) := (true, [([], []), ([], []), ([], []), ([], []), ([3], [3]), ([], []), ([5], [5]), ([4, 6, 4], [4, 6]), ([], []), ([0, 1, 2, 7, 8, 7], [0, 1, 2, 7, 8]), ([9], [9]), ([9], [9]), ([10, 9, 0, 1, 2, 3, 4, 5, 6, 7, 8, 9, 10, 11], [10]), ([11, 12, 0, 1, 2, 3, 4, 5, 6, 7, 8, 9, 10, 11, 12], [11])])
def fill_After.B6 : List Nat := [0, 0, 0, 0, 8, 0, 32, 120, 0, 511, 1023, 1023, 4095, 8191]
theorem fill_After.bits6 : waitsOk fill_After.T6.2 fill_After.B6 = true := by kernel_rfl
end Go.Proofs.Ytckhjehibjdjdaa.P
namespace Go.Proofs.Ytckhjehibjdjdaa.P
open Go.RowKit Go.Proofs.YtckhjehibjdjdaaW.PrintWords Go.Proofs.YtckhjehibjdjdaaW.PrintLast Go.Proofs.YtckhjehibjdjdaaW.PrintMore
attribute [local go_sem] max2_int min2_int max_two min_two max_three min_three max_four min_four
set_option linter.unusedVariables false
set_option linter.unusedSimpArgs false
end Go.Proofs.Ytckhjehibjdjdaa.P
namespace Go.Proofs.Ytckhjehibjdjdaa.P
open Go.RowKit Go.Proofs.YtckhjehibjdjdaaW.PrintWords Go.Proofs.YtckhjehibjdjdaaW.PrintLast Go.Proofs.YtckhjehibjdjdaaW.PrintMore
attribute [local go_sem] max2_int min2_int max_two min_two max_three min_three max_four min_four
set_option linter.unusedVariables false
set_option linter.unusedSimpArgs false
def ensembleref13_After.T7 : Bool × List (List Nat × List Nat) := (true, [([], []), ([], []), ([], []), ([], []), ([], []), ([3, 4], [3, 4]), ([], []), ([6], [6]), ([5, 7, 5], [5, 7]), ([], []), ([0, 1, 2, 8, 9, 8], [0, 1, 2, 8, 9]), ([10], [10]), ([10], [10]), ([11, 10, 0, 1, 2, 3, 4, 5, 6, 7, 8, 9, 10, 11, 12], [11]), ([12, 13, 0, 1, 2, 3, 4, 5, 6, 7, 8, 9, 10, 11, 12, 13], [12])])
def ensembleref13_After.B7 : List Nat := [0, 0, 0, 0, 0, 24, 0, 64, 248, 0, 1023, 2047, 2047, 8191, 16383]
theorem ensembleref13_After.bits7 : waitsOk ensembleref13_After.T7.2 ensembleref13_After.B7 = true := by kernel_rfl
end Go.Proofs.Ytckhjehibjdjdaa.P
namespace Go.Proofs.Ytckhjehibjdjdaa.P
open Go.RowKit Go.Proofs.YtckhjehibjdjdaaW.PrintWords Go.Proofs.YtckhjehibjdjdaaW.PrintLast Go.Proofs.YtckhjehibjdjdaaW.PrintMore
attribute [local go_sem] max2_int min2_int max_two min_two max_three min_three max_four min_four
set_option linter.unusedVariables false
set_option linter.unusedSimpArgs false
end Go.Proofs.Ytckhjehibjdjdaa.P
namespace Go.Proofs.Ytckhjehibjdjdaa.P
open Go.RowKit Go.Proofs.YtckhjehibjdjdaaW.PrintWords Go.Proofs.YtckhjehibjdjdaaW.PrintLast Go.Proofs.YtckhjehibjdjdaaW.PrintMore
attribute [local go_sem] max2_int min2_int max_two min_two max_three min_three max_four min_four
set_option linter.unusedVariables false
set_option linter.unusedSimpArgs false
end Go.Proofs.Ytckhjehibjdjdaa.P
namespace Go.Proofs.Ytckhjehibjdjdaa.P
open Go.RowKit Go.Proofs.YtckhjehibjdjdaaW.PrintWords Go.Proofs.YtckhjehibjdjdaaW.PrintLast Go.Proofs.YtckhjehibjdjdaaW.PrintMore
attribute [local go_sem] max2_int min2_int max_two min_two max_three min_three max_four min_four
set_option linter.unusedVariables false
set_option linter.unusedSimpArgs false
end Go.Proofs.Ytckhjehibjdjdaa.P
namespace Go.Proofs.Ytckhjehibjdjdaa.P
open Go.RowKit Go.Proofs.YtckhjehibjdjdaaW.PrintWords Go.Proofs.YtckhjehibjdjdaaW.PrintLast Go.Proofs.YtckhjehibjdjdaaW.PrintMore
open Go.Proofs.Ytckhjehibjdjdaa.Bits Go.Proofs.Ytckhjehibjdjdaa.Mp
set_option linter.unusedVariables false
set_option linter.unusedSimpArgs false
theorem lessE_iff {f : S51} {s : S52} (hf : freeOk f = true) (hs : maskOk s = true) : lessE f s = 0 ↔ s.f1.toNat &&& f.f1.toNat = s.f1.toNat ∧ s.f2 ≤ f.f2 := by
 have h1 := freeOk_out hf
 have h2 := maskOk_out hs
 have hand : Go.bits .andNot .u64 s.f1 f.f1 = ((s.f1.toNat - (s.f1.toNat &&& f.f1.toNat) : Nat) : Int) := by
  have := andNot_nat s.f1.toNat f.f1.toNat (by omega) (by omega)
  rw [Int.toNat_of_nonneg h2.1, Int.toNat_of_nonneg h1.1.1] at this
  exact this
 have hle : s.f1.toNat &&& f.f1.toNat ≤ s.f1.toNat := Nat.and_le_left
 unfold lessE
 rw [hand]
 by_cases h3 : s.f1.toNat &&& f.f1.toNat = s.f1.toNat
 ·rw [if_neg (by omega)]
  by_cases h4 : s.f2 > f.f2
  ·rw [if_pos h4]; constructor
   ·intro x; cases x
   ·intro x; omega
  ·rw [if_neg h4]; exact ⟨fun _ => ⟨h3, by omega⟩, fun _ => rfl⟩
 ·rw [if_pos (by omega)]; constructor
  ·intro x; cases x
  ·intro x; exact absurd x.1 h3
theorem andNot_bv (a b : Int) : Go.bits .andNot .u64 a b = ((BitVec.ofInt 64 a &&& ~~~ BitVec.ofInt 64 b).toNat : Int) := by
 show IntKind.u64.wrap ((BitVec.ofInt 64 a &&& ~~~ BitVec.ofInt 64 b).toNat : Int) = _
 rw [wrapN, Nat.mod_eq_of_lt (BitVec.isLt _)]
theorem bv_of {a : Int} (h : 0 ≤ a ∧ a < 18446744073709551616) : ((BitVec.ofInt 64 a).toNat : Int) = a := by
 obtain ⟨x, rfl⟩ := Int.eq_ofNat_of_zero_le h.1
 rw [BitVec.ofInt_natCast, BitVec.toNat_ofNat, Nat.mod_eq_of_lt (by omega)]
theorem and_bv {a b : Int} (ha : 0 ≤ a ∧ a < 18446744073709551616) (hb : 0 ≤ b ∧ b < 18446744073709551616) : (BitVec.ofInt 64 a &&& BitVec.ofInt 64 b).toNat = a.toNat &&& b.toNat := by
 rw [BitVec.toNat_and]
 have h1 := bv_of ha
 have h2 := bv_of hb
 rw [show (BitVec.ofInt 64 a).toNat = a.toNat by omega, show (BitVec.ofInt 64 b).toNat = b.toNat by omega]
theorem back_one {f : S51} {s : S52} (hf : freeOk f = true) (hc : cpOk f) (hs : maskOk s = true) (h0 : 0 ≤ s.f2) (h : lessE f s = 0) :
  moreE (lessF f s) s = 0 ∧ moreF (lessF f s) s = f ∧ freeOk (lessF f s) = true ∧ cpOk (lessF f s) := by
 have h1 := freeOk_out hf
 have h2 := maskOk_out hs
 obtain ⟨h3, h4⟩ := (lessE_iff hf hs).1 h
 have hb := hc
 unfold cpOk at hb
 have e2 : (lessF f s).f2 = f.f2 - s.f2 := by unfold lessF; exact w_id (by omega)
 have hok := lessF_ok hf hs
 have hco : cpOk (lessF f s) := by unfold cpOk; omega
 have hsub : BitVec.ofInt 64 s.f1 &&& BitVec.ofInt 64 f.f1 = BitVec.ofInt 64 s.f1 := by
  apply BitVec.eq_of_toNat_eq
  rw [and_bv h2 h1.1, h3]
  have := bv_of h2
  omega
 have e1 : (lessF f s).f1 = Go.bits .andNot .u64 f.f1 s.f1 := rfl
 have hA := andNot_bv f.f1 s.f1
 generalize hF : BitVec.ofInt 64 f.f1 = F at *
 generalize hS : BitVec.ofInt 64 s.f1 = S at *
 have hL : BitVec.ofInt 64 (lessF f s).f1 = F &&& ~~~ S := by rw [e1, hA, ofInt_toNat]
 have hd : disj s.f1 (lessF f s).f1 := by
  unfold disj
  rw [← and_bv h2 (freeOk_out hok).1, hS, hL]
  have : S &&& (F &&& ~~~S) = 0#64 := by ext i; simp; intro h _; exact h
  rw [this]; rfl
 refine ⟨(moreE_iff hok hco hs h0).2 ⟨hd, by omega⟩, ?_, hok, hco⟩
 have hor : Go.bits .or .u64 (lessF f s).f1 s.f1 = f.f1 := by
  rw [bits_or_bv, hL, hS]
  have : F &&& ~~~S ||| S = F := by
   ext i hi
   have := congrArg (fun x => x[i]) hsub
   simp only [BitVec.getElem_and] at this
   simp only [BitVec.getElem_or, BitVec.getElem_and, BitVec.getElem_not]
   cases h5 : S[i] <;> cases h6 : F[i] <;> simp_all
  rw [this, ← hF]
  exact bv_of h1.1
 have h6 : wrap64 ((lessF f s).f2 + s.f2) = f.f2 := by rw [e2, w_id (by omega)]; omega
 show (⟨f.f0, Go.bits .or .u64 (lessF f s).f1 s.f1, wrap64 ((lessF f s).f2 + s.f2)⟩ : S51) = f
 rw [hor, h6]
theorem find_at {view : List S51} (hn : (view.map spot).Nodup) {s : S52} {p : Nat} (hp : p < view.length) (hs : spot view[p] = sspot s) : findI view s.f0.f0 s.f0.f1 = (p : Int) := by
 have hin : ¬ findI view s.f0.f0 s.f0.f1 < 0 := fun h => findI_neg.1 h (List.mem_map.2 ⟨view[p], List.getElem_mem hp, hs⟩)
 obtain ⟨q, hq⟩ := Int.eq_ofNat_of_zero_le (show 0 ≤ findI view s.f0.f0 s.f0.f1 by omega)
 obtain ⟨hql, hqs, _, _⟩ := set_step hn hq
 have hn' := List.pairwise_iff_getElem.1 hn
 rw [hq]
 rcases Nat.lt_trichotomy p q with h | h | h
 ·exact absurd (by rw [List.getElem_map, List.getElem_map, hs, hqs]) (hn' p q (by simpa using hp) (by simpa using hql) h)
 ·rw [h]
 ·exact absurd (by rw [List.getElem_map, List.getElem_map, hs, hqs]) (hn' q p (by simpa using hql) (by simpa using hp) h)
theorem turnF_one {E : S51 → S52 → Int} {F : S51 → S52 → S51} {view : List S51} (hn : (view.map spot).Nodup) {s : S52} {p : Nat} (hp : p < view.length) (hs : spot view[p] = sspot s) (h0 : 0 ≤ s.f2) (hE : E view[p] s = 0) :
  turnF E F view [s] = (view.set p (F view[p] s), 0) := by
 rw [turnF, if_neg (by omega), find_at hn hp hs, if_neg (by omega), rd51' view p hp, if_pos hE, Int.toNat_natCast, turnF]
theorem less_back : ∀ (slots : List S52) (view : List S51), View view → (∀ s ∈ slots, maskOk s = true) → (turnF lessE lessF view slots).2 = 0 →
  View (turnF lessE lessF view slots).1 ∧ (turnF lessE lessF view slots).1.map spot = view.map spot ∧ cpMax slots ∧ turnF moreE moreF (turnF lessE lessF view slots).1 slots.reverse = (view, 0)
 | [], view, V, _, _ => ⟨V, rfl, by simp [cpMax], rfl⟩
 | s :: ss, view, V, hm, h => by
  have hms := hm s (by simp)
  rw [turnF] at h ⊢
  by_cases h1 : s.f2 < 0
  ·rw [if_pos h1] at h; cases h
  rw [if_neg h1] at h ⊢
  by_cases h2 : findI view s.f0.f0 s.f0.f1 < 0
  ·rw [if_pos h2] at h; cases h
  rw [if_neg h2] at h ⊢
  obtain ⟨p, hp⟩ := Int.eq_ofNat_of_zero_le (show 0 ≤ findI view s.f0.f0 s.f0.f1 by omega)
  obtain ⟨hpl, hps, _, _⟩ := set_step V.right.2 hp
  rw [hp, Int.toNat_natCast, rd51' view p hpl] at h ⊢
  have hfp := V.free _ (List.getElem_mem hpl)
  have hcp := V.right.1 _ (List.getElem_mem hpl)
  by_cases h3 : lessE view[p] s = 0
  ·rw [if_pos h3] at h ⊢
   obtain ⟨b1, b2, b3, b4⟩ := back_one hfp hcp hms (by omega) h3
   have sp : (view.set p (lessF view[p] s)).map spot = view.map spot := spots_set (fun hk => rfl)
   have V' : View (view.set p (lessF view[p] s)) := ⟨⟨set_all V.right.1 b4, by rw [sp]; exact V.right.2⟩, set_all V.free b3⟩
   obtain ⟨i1, i2, i3, i4⟩ := less_back ss _ V' (fun x hx => hm x (by simp [hx])) h
   refine ⟨i1, i2.trans sp, fun x hx => ?_, ?_⟩
   ·rcases List.mem_cons.1 hx with rfl | hx
    ·have := ((lessE_iff hfp hms).1 h3).2
     unfold cpOk at hcp
     exact ⟨by omega, by omega⟩
    ·exact i3 x hx
   ·have hl : p < (view.set p (lessF view[p] s)).length := by rw [List.length_set]; exact hpl
    have eg : (view.set p (lessF view[p] s))[p] = lessF view[p] s := List.getElem_set_self _
    rw [List.reverse_cons, turnF_append _ _ _ (by rw [i4]), i4]
    simp only
    rw [turnF_one V'.right.2 hl (by rw [eg]; exact hps) (by omega) (by rw [eg]; exact b1), eg, b2, List.set_set, List.set_getElem_self]
  ·rw [if_neg h3] at h; exact absurd h h3
structure Base (view : List S51) (ends : List S41) : Prop where
 V : View view
 I : Inp view ends
 vo : viewOk view
 so : ∀ s ∈ slotsOf ends, (w64B s.f0.f0 && w64B s.f0.f1) = true
 el : ends.length ≤ 1000
 sl : (slotsOf ends).length ≤ 1000000
theorem Setup.base {view : List S51} {lg lc : Int} {ends : List S41} (S : Setup view lg lc ends) : Base view ends :=
 ⟨S.V, S.I, S.vo, S.so, Nat.le_trans S.el (by decide), by
  have h1 := slots_len S.hl
  have h2 : 20 * ends.length ≤ 20 * 20 := Nat.mul_le_mul_left 20 S.el
  omega⟩
theorem Base.early {view : List S51} {ends : List S41} (B : Base view ends) {lg lc : Int} (L : I64P (lg, lc)) (now q m g c mn mx : Int) :
  promise_Earliest.f now view lg lc ends q m g c mn mx = some (refEarly now view lg lc ends q m g c mn mx) := by
 unfold promise_Earliest.f
 rw [if_pos (okE_mk B.vo B.el B.I.sm B.so B.I.es), early_ref B.V B.I L]
structure HoldOk (h : S41) : Prop where
 mo : ∀ s ∈ h.f4, maskOk s = true
 sp : ∀ s ∈ h.f4, (w64B s.f0.f0 && w64B s.f0.f1) = true
 ln : h.f4.length ≤ 20
theorem slotsOf_snoc (ends : List S41) (h : S41) : slotsOf (ends ++ [h]) = slotsOf ends ++ h.f4 := by rw [slotsOf_append]; simp [slotsOf]
theorem Base.less {view : List S51} {ends : List S41} (B : Base view ends) {h : S41} (H : HoldOk h) (hok : (turnF lessE lessF view h.f4).2 = 0) (el : ends.length < 500) (sl : (slotsOf ends).length ≤ 100000) :
  Base (turnF lessE lessF view h.f4).1 (ends ++ [h]) := by
 obtain ⟨VL, hsp, _, _⟩ := less_back h.f4 view B.V H.mo hok
 have hlen : (turnF lessE lessF view h.f4).1.length = view.length := by
  have := congrArg List.length hsp
  simpa using this
 have hs : ∀ s ∈ slotsOf (ends ++ [h]), s ∈ slotsOf ends ∨ s ∈ h.f4 := fun s hs => by rw [slotsOf_snoc] at hs; exact List.mem_append.1 hs
 have hl : (slotsOf (ends ++ [h])).length ≤ 100020 := by rw [slotsOf_snoc, List.length_append]; have := H.ln; omega
 refine ⟨VL, ⟨by rw [hlen]; exact B.I.vl, VL.free, by simp; omega, by omega, fun s h1 => (hs s h1).elim (B.I.sm s) (H.mo s)⟩, ⟨by rw [hlen]; exact B.vo.1, VL.free, fun f hf => ?_⟩,
  fun s h1 => (hs s h1).elim (B.so s) (H.sp s), by simp; omega, by omega⟩
 have : spot f ∈ view.map spot := by rw [← hsp]; exact List.mem_map_of_mem hf
 obtain ⟨f', hf', e⟩ := List.mem_map.1 this
 have h1 := B.vo.2.2 f' hf'
 unfold spot at e
 injection e with e1 e2
 rw [← e1, ← e2]; exact h1
theorem subL_eq : ∀ (l : List S52) (a : Int × Int), I64P a → subL a l = (wrap64 (a.1 - popS l), wrap64 (a.2 - cpS l))
 | [], a, h => by
  unfold I64P at h
  have e1 : wrap64 (a.1 - popS []) = a.1 := by rw [show popS [] = 0 from rfl, Int.sub_zero]; exact w_id (by omega)
  have e2 : wrap64 (a.2 - cpS []) = a.2 := by rw [show cpS [] = 0 from rfl, Int.sub_zero]; exact w_id (by omega)
  rw [e1, e2]; rfl
 | s :: l, a, h => by
  have e : subL a (s :: l) = subL (subU a s) l := rfl
  rw [e, subL_eq l _ ⟨wrap_bd _, wrap_bd _⟩, popS_cons, cpS_cons]
  unfold subU
  simp only
  have e3 : ∀ x y z : Int, wrap64 (wrap64 (x - y) - z) = wrap64 (x - (y + z)) := fun x y z => by unfold wrap64; omega
  rw [e3, e3]
def aftL (q lg : Int) (hq : Int) (n : Int) : Int := if hq = q then wrap64 (lg - n) else lg
def afterB (now : Int) (view : List S51) (lg lc : Int) (ends : List S41) (q m g c mn mx : Int) (h : S41) : Int × Int :=
 if (turnF lessE lessF view h.f4).2 = 0 then refEarly now (turnF lessE lessF view h.f4).1 (aftL q lg h.f1 (popS h.f4)) (aftL q lc h.f1 (cpS h.f4)) (ends ++ [h]) q m g c mn mx else (0, (turnF lessE lessF view h.f4).2)
theorem aftL_I64 {q lg lc : Int} (L : I64P (lg, lc)) (a b d : Int) : I64P (aftL q lg a b, aftL q lc a d) := by
 unfold I64P at L
 unfold I64P aftL
 split
 ·exact ⟨wrap_bd _, wrap_bd _⟩
 ·exact L
theorem Base.after {view : List S51} {ends : List S41} (B : Base view ends) {lg lc : Int} (L : I64P (lg, lc)) {h0 h1 h2 : Int} {h3 : Bool} {h4 : List S52} (H : HoldOk ⟨h0, h1, h2, h3, h4⟩) (el : ends.length < 500) (sl : (slotsOf ends).length ≤ 100000) (now q m g c mn mx : Int) :
  fill_After.f now view lg lc ends q m g c mn mx h0 h1 h2 h3 h4 = some (afterB now view lg lc ends q m g c mn mx ⟨h0, h1, h2, h3, h4⟩) := by
 have e1 : pack_Less.f view h4 = some (turnF lessE lessF view h4) := by
  unfold pack_Less.f spotsOk
  have a1 : view.all (fun f => w64B f.f0.f0 && w64B f.f0.f1) = true := List.all_eq_true.2 B.vo.2.2
  have a2 : h4.all (fun f => w64B f.f0.f0 && w64B f.f0.f1) = true := List.all_eq_true.2 H.sp
  rw [decide_eq_true B.vo.1, a1, a2, if_pos (by rfl), turned51_find (F := lessF) (fun _ _ => rfl) B.V.right.2]
 have hln : h4.length ≤ 20 := H.ln
 have e2 : fill_take.f lg lc h4 = some (wrap64 (lg - popS h4), wrap64 (lc - cpS h4)) := by
  unfold fill_take.f maskAll
  have a1 : h4.all maskOk = true := List.all_eq_true.2 H.mo
  rw [a1, decide_eq_true (by omega), if_pos (by rfl), subL_eq h4 _ L]
 have e3 : api_Hold.f ends = some ends := by unfold api_Hold.f; rw [if_pos (by omega)]
 unfold fill_After.f afterB
 rw [e1, Option.bind_some]
 by_cases hz : (turnF lessE lessF view h4).2 = 0
 ·have B' := B.less H hz el sl
  have L' := aftL_I64 (q := q) L h1 (popS h4) (cpS h4)
  have E := B'.early L' now q m g c mn mx
  rw [if_pos hz, if_pos hz]
  by_cases hq : h1 = q
  ·rw [if_pos hq, e2, Option.bind_some, e3, Option.bind_some, Option.bind_some, if_pos (by simp; omega)]
   unfold aftL at E ⊢
   simp only at E ⊢
   rw [if_pos hq, if_pos hq] at E ⊢
   rw [E]; rfl
  ·rw [if_neg hq, e3, Option.bind_some, Option.bind_some, if_pos (by simp; omega)]
   unfold aftL at E ⊢
   simp only at E ⊢
   rw [if_neg hq, if_neg hq] at E ⊢
   rw [E]; rfl
 ·rw [if_neg hz, if_neg hz]
end Go.Proofs.Ytckhjehibjdjdaa.P
namespace Go.Proofs.Ytckhjehibjdjdaa.P
open Go.RowKit Go.Proofs.YtckhjehibjdjdaaW.PrintWords Go.Proofs.YtckhjehibjdjdaaW.PrintLast Go.Proofs.YtckhjehibjdjdaaW.PrintMore
attribute [local go_sem] max2_int min2_int max_two min_two max_three min_three max_four min_four
set_option linter.unusedVariables false
set_option linter.unusedSimpArgs false
attribute [local go_sem high] eqA52
end Go.Proofs.Ytckhjehibjdjdaa.P
namespace Go.Proofs.Ytckhjehibjdjdaa.P
open Go.RowKit Go.Proofs.YtckhjehibjdjdaaW.PrintWords Go.Proofs.YtckhjehibjdjdaaW.PrintLast Go.Proofs.YtckhjehibjdjdaaW.PrintMore
open Go.Proofs.Ytckhjehibjdjdaa.Bits Go.Proofs.Ytckhjehibjdjdaa.Mp
set_option linter.unusedVariables false
set_option linter.unusedSimpArgs false
theorem awake05 : ensemblelaw05_awake.f = some true := by decide +kernel
theorem few05_ev (view : List S51) : (Ev (fun k => ensemblelaw05_few.f k view) true ∧ viewR view ∧ view.length ≤ 70) ∨ Ev (fun k => ensemblelaw05_few.f k view) false := by
 unfold ensemblelaw05_few.f
 by_cases h : (view.length : Int) ≤ 70
 ·rcases right05_ev view (by omega) with ⟨h1, h2⟩ | h1
  ·exact .inl ⟨Ev.congr (fun k => by rw [if_pos h]) (Ev.bind h1 (Ev.now _)), h2, by omega⟩
  ·exact .inr (Ev.congr (fun k => by rw [if_pos h]) (Ev.bind h1 (Ev.now _)))
 ·exact .inr (Ev.congr (fun k => by rw [if_neg h]) (Ev.now _))
theorem room_ev (view : List S51) (g c mn mx : Int) (hl : view.length ≤ 4398046511104) (hv : ∀ f ∈ view, freeOk f = true) : Ev (fun k => pack_Room.f k view g c mn mx) (roomS g c mn mx view) := by
 refine ⟨view.length + 1, fun k hk => ?_⟩
 exact room_eq k view g c mn mx hk hl hv
theorem low_and (M n : Nat) : lowN M n &&& M = lowN M n := by
 apply Nat.eq_of_testBit_eq
 intro j
 rw [Nat.testBit_and]
 by_cases h : j ∈ (pos M).take n
 ·rw [(mem_pos.1 (List.mem_of_mem_take h)).2, Bool.and_true]
 ·have : (lowN M n).testBit j = false := by unfold lowN; rw [testBit_orAll]; simpa using h
  rw [this]; rfl
theorem lowI_bd (m n : Int) : 0 ≤ lowI m n ∧ lowI m n < 18446744073709551616 := by
 have := lowN_lt m.toNat n.toNat
 unfold lowI; omega
theorem low_sub {m g : Int} (hm : 0 ≤ m ∧ m < 18446744073709551616) : Go.bits .andNot .u64 m (lowI m g) = m - lowI m g := by
 obtain ⟨M, rfl⟩ := Int.eq_ofNat_of_zero_le hm.1
 have h1 := low_le M g.toNat (by omega)
 have e : lowI (M : Int) g = ((lowN M g.toNat : Nat) : Int) := rfl
 rw [e, andNot_nat M (lowN M g.toNat) (by omega) (by omega), Nat.and_comm, low_and]
 omega
def kap (s0 s1 : Int) (f : S51) : Int := min (eachI (popI f.f1) s0) (eachI f.f2 s1)
def spotOk (f : S51) : Prop := freeOk f = true ∧ cpOk f
section
variable {s0 s1 s2 s3 : Int} (hg : goodShape s0 s1 s2 s3 = true)
include hg
theorem fit_kap {f : S51} (hf : spotOk f) : fitV s0 s1 s2 s3 f.f1 f.f2 = min 16 (kap s0 s1 f) := by
 unfold fitV fitN kap
 rw [if_pos ⟨hg, hf.2.1⟩]
theorem kap_ge {f : S51} (hf : spotOk f) (h : 1 ≤ kap s0 s1 f) : s0 ≤ popI f.f1 ∧ s1 ≤ f.f2 := by
 have hb := good_out0 hg
 have h1 : 1 ≤ eachI (popI f.f1) s0 := by unfold kap at h; omega
 have h2 : 1 ≤ eachI f.f2 s1 := by unfold kap at h; omega
 have e : ∀ a b : Int, 0 ≤ a → 0 ≤ b → 1 ≤ eachI a b → b ≤ a := fun a b ha hb hx => by
  unfold eachI at hx
  by_cases hz : b = 0
  ·omega
  ·rw [if_neg hz] at hx
   have := (Int.le_ediv_iff_mul_le (c := b) (by omega)).1 hx
   omega
 exact ⟨e _ _ (popI_bd _).1 hb.1 h1, e _ _ hf.2.1 hb.2.2.1 h2⟩
theorem left_eq {f : S51} (hf : spotOk f) (h : 1 ≤ kap s0 s1 f) : leftF s0 s1 f = ⟨f.f0, f.f1 - lowI f.f1 s0, f.f2 - s1⟩ := by
 have hb := good_out0 hg
 have h1 := kap_ge hg hf h
 have h2 := hf.2
 unfold cpOk at h2
 unfold leftF
 rw [low_sub (freeOk_out hf.1).1, w_id (by omega)]
theorem left_ok {f : S51} (hf : spotOk f) (h : 1 ≤ kap s0 s1 f) : spotOk (leftF s0 s1 f) := by
 have hb := good_out0 hg
 have h1 := kap_ge hg hf h
 have h2 := hf.2
 refine ⟨leftF_ok s0 s1 hf.1, ?_⟩
 rw [left_eq hg hf h]
 unfold cpOk at h2 ⊢
 simp only
 omega
theorem kap_left {f : S51} (hf : spotOk f) (h : 1 ≤ kap s0 s1 f) (n : Nat) (h0 : 1 ≤ n) (hn : n ≤ 16) : min (n : Int) (kap s0 s1 f) = 1 + min ((n : Int) - 1) (kap s0 s1 (leftF s0 s1 f)) := by
 have hb := good_out0 hg
 have h1 := kap_ge hg hf h
 have h2 := hf.2
 unfold cpOk at h2
 have hs := pop_sub f.f1 s0 (freeOk_out hf.1).1 hb.1 h1.1
 have A := each_sub (popI f.f1) s0 hb.1 h1.1 (16 - n) (by omega) (eachI f.f2 s1)
 have B := each_sub f.f2 s1 hb.2.2.1 h1.2 (16 - n) (by omega) (eachI (popI f.f1 - s0) s0 + 1)
 rw [left_eq hg hf h]
 unfold kap
 simp only
 rw [hs.1]
 omega
theorem kap_left_le {f : S51} (hf : spotOk f) (h : 1 ≤ kap s0 s1 f) : fitV s0 s1 s2 s3 (leftF s0 s1 f).f1 (leftF s0 s1 f).f2 ≤ fitV s0 s1 s2 s3 f.f1 f.f2 ∧ fitV s0 s1 s2 s3 f.f1 f.f2 ≤ fitV s0 s1 s2 s3 (leftF s0 s1 f).f1 (leftF s0 s1 f).f2 + 1 := by
 have hb := good_out0 hg
 have h1 := kap_ge hg hf h
 have h2 := hf.2
 unfold cpOk at h2
 have hs := pop_sub f.f1 s0 (freeOk_out hf.1).1 hb.1 h1.1
 have h3 := kap_left hg hf h 16 (by omega) (by omega)
 have e1 : kap s0 s1 (leftF s0 s1 f) ≤ kap s0 s1 f := by
  rw [left_eq hg hf h]
  unfold kap
  simp only
  rw [hs.1]
  have a1 := eachI_mono hb.1 (show popI f.f1 - s0 ≤ popI f.f1 by omega)
  have a2 := eachI_mono hb.2.2.1 (show f.f2 - s1 ≤ f.f2 by omega)
  omega
 rw [fit_kap hg hf, fit_kap hg (left_ok hg hf h)]
 omega
end
def pcs (s0 s1 : Int) : Nat → S51 → List S52
 | 0, _ => []
 | n + 1, f => pieceL s0 s1 f :: pcs s0 s1 n (leftF s0 s1 f)
theorem pcs_len (s0 s1 : Int) : ∀ (n : Nat) (f : S51), (pcs s0 s1 n f).length = n
 | 0, _ => rfl
 | n + 1, f => by rw [pcs, List.length_cons, pcs_len]
theorem pcs_take (s0 s1 : Int) : ∀ (n r : Nat) (f : S51), (pcs s0 s1 n f).take r = pcs s0 s1 (min r n) f
 | 0, r, f => by rw [Nat.min_zero]; simp [pcs]
 | n + 1, 0, f => by rw [Nat.zero_min]; rfl
 | n + 1, r + 1, f => by
  rw [show min (r + 1) (n + 1) = min r n + 1 by omega, pcs, pcs, List.take_succ_cons, pcs_take s0 s1 n r]
theorem pcs_spot (s0 s1 : Int) : ∀ (n : Nat) (f : S51), ∀ s ∈ pcs s0 s1 n f, s.f0 = f.f0 ∧ maskOk s = true
 | 0, _, s, h => by cases h
 | n + 1, f, s, h => by
  rw [pcs, List.mem_cons] at h
  rcases h with rfl | h
  ·refine ⟨rfl, ?_⟩
   have := lowI_bd f.f1 s0
   unfold maskOk pieceL
   rw [decide_eq_true this.1, decide_eq_true this.2]; rfl
  ·have := pcs_spot s0 s1 n (leftF s0 s1 f) s h
   exact this
def fitT (s0 s1 s2 s3 : Int) (f : S51) : Nat := (fitV s0 s1 s2 s3 f.f1 f.f2).toNat
theorem fitT_eq (s0 s1 s2 s3 : Int) (f : S51) : ((fitT s0 s1 s2 s3 f : Nat) : Int) = fitV s0 s1 s2 s3 f.f1 f.f2 := by
 have := fitV_bd s0 s1 s2 s3 f.f1 f.f2
 unfold fitT; omega
def flat (s0 s1 s2 s3 : Int) (L : List S51) : List S52 := L.flatMap fun f => pcs s0 s1 (fitT s0 s1 s2 s3 f) f
theorem flat_cons (s0 s1 s2 s3 : Int) (f : S51) (L : List S51) : flat s0 s1 s2 s3 (f :: L) = pcs s0 s1 (fitT s0 s1 s2 s3 f) f ++ flat s0 s1 s2 s3 L := List.flatMap_cons
theorem flat_len (s0 s1 s2 s3 : Int) : ∀ L : List S51, ((flat s0 s1 s2 s3 L).length : Int) = roomS s0 s1 s2 s3 L
 | [] => rfl
 | f :: L => by
  have := flat_len s0 s1 s2 s3 L
  have h2 := fitT_eq s0 s1 s2 s3 f
  rw [flat_cons, List.length_append, pcs_len]
  unfold roomS at *
  rw [List.map_cons, List.sum_cons]
  omega
theorem cut_eq {s0 s1 s2 s3 : Int} (hg : goodShape s0 s1 s2 s3 = true) (m : Nat) (hm : m ≤ 16) : ∀ (k : Nat) (f : S51) (out : List S52), spotOk f → out.length ≤ m → m + 1 ≤ k + out.length →
  cutL s0 s1 s2 s3 m k f out = out ++ pcs s0 s1 (min (m - out.length) (fitT s0 s1 s2 s3 f)) f
 | 0, f, out, _, h1, h2 => by omega
 | k + 1, f, out, hf, h1, h2 => by
  have e1 := fitT_eq s0 s1 s2 s3 f
  have e2 := fit_kap hg hf
  rw [cutL]
  by_cases hc : out.length < m ∧ fitV s0 s1 s2 s3 f.f1 f.f2 ≠ 0
  ·have hb := fitV_bd s0 s1 s2 s3 f.f1 f.f2
   have hk : 1 ≤ kap s0 s1 f := by omega
   rw [if_pos hc, cut_eq hg m hm k _ _ (left_ok hg hf hk) (by simp; omega) (by simp; omega)]
   have e3 := fitT_eq s0 s1 s2 s3 (leftF s0 s1 f)
   have e4 := fit_kap hg (left_ok hg hf hk)
   have e5 := kap_left hg hf hk (m - out.length) (by omega) (by omega)
   have e6 : min (m - out.length) (fitT s0 s1 s2 s3 f) = min (m - (out ++ [pieceL s0 s1 f]).length) (fitT s0 s1 s2 s3 (leftF s0 s1 f)) + 1 := by
    rw [List.length_append]
    simp only [List.length_cons, List.length_nil]
    omega
   rw [e6, pcs, List.append_assoc]; rfl
  ·rw [if_neg hc, show min (m - out.length) (fitT s0 s1 s2 s3 f) = 0 by omega, pcs, List.append_nil]
theorem place_fold {s0 s1 s2 s3 : Int} (hg : goodShape s0 s1 s2 s3 = true) (m : Nat) (hm : m ≤ 16) : ∀ (L : List S51) (out : List S52), (∀ f ∈ L, spotOk f) → out.length ≤ m →
  L.foldl (fun out f => cutL s0 s1 s2 s3 m 17 f out) out = out ++ (flat s0 s1 s2 s3 L).take (m - out.length)
 | [], out, _, _ => by simp [flat]
 | f :: L, out, hL, ho => by
  rw [List.foldl_cons, cut_eq hg m hm 17 f out (hL f (by simp)) ho (by omega), ← pcs_take,
   place_fold hg m hm L _ (fun x hx => hL x (by simp [hx])) (by rw [List.length_append, List.length_take, pcs_len]; omega), flat_cons, List.take_append, List.append_assoc,
   List.length_append, List.length_take, pcs_len]
  congr 3
  omega
theorem placeL_eq {s0 s1 s2 s3 : Int} (hg : goodShape s0 s1 s2 s3 = true) (m : Nat) (hm : m ≤ 16) (L : List S51) (hL : ∀ f ∈ L, spotOk f) : placeL s0 s1 s2 s3 m L = (flat s0 s1 s2 s3 L).take m := by
 have := place_fold hg m hm L [] hL (by simp)
 rw [List.nil_append, List.length_nil, Nat.sub_zero] at this
 exact this
theorem roomS_perm {s0 s1 s2 s3 : Int} {a b : List S51} (h : a.Perm b) : roomS s0 s1 s2 s3 a = roomS s0 s1 s2 s3 b := perm_sum (h.map _)
def placeP (view : List S51) (s0 s1 s2 s3 m : Int) : List S52 × Int :=
 if goodShape s0 s1 s2 s3 = true ∧ 1 ≤ m ∧ m ≤ 16 then
  (if roomS s0 s1 s2 s3 view < m then ([], 7) else ((flat s0 s1 s2 s3 (isort (fkey s0 s1 s2 s3) view)).take m.toNat, 0))
 else ([], 1)
theorem place_P {view : List S51} (hv : ∀ f ∈ view, spotOk f) (s0 s1 s2 s3 m : Int) : placeB view s0 s1 s2 s3 m = placeP view s0 s1 s2 s3 m := by
 unfold placeB placeP
 by_cases h : goodShape s0 s1 s2 s3 = true ∧ 1 ≤ m ∧ m ≤ 16
 ·rw [if_pos h, if_pos h, placeL_eq h.1 m.toNat (by omega) _ (fun f hf => hv f ((isort_perm (fkey s0 s1 s2 s3) view).mem_iff.1 hf))]
  have h1 := flat_len s0 s1 s2 s3 (isort (fkey s0 s1 s2 s3) view)
  rw [roomS_perm (isort_perm (fkey s0 s1 s2 s3) view)] at h1
  by_cases h2 : roomS s0 s1 s2 s3 view < m
  ·rw [if_pos h2, if_pos (by rw [List.length_take]; omega)]
  ·rw [if_neg h2, if_neg (by rw [List.length_take]; omega)]
 ·rw [if_neg h, if_neg h]
theorem place_f {view : List S51} (hv : ∀ f ∈ view, spotOk f) (hl : view.length ≤ 1000000) (s0 s1 s2 s3 m : Int) : pack_Place.f view s0 s1 s2 s3 m = some (placeP view s0 s1 s2 s3 m) := by
 unfold pack_Place.f placeOk
 rw [List.all_eq_true.2 (fun f hf => (hv f hf).1), decide_eq_true hl, if_pos (by rfl), place_P hv]
theorem placeP_ok {view : List S51} {s0 s1 s2 s3 m : Int} (h : (placeP view s0 s1 s2 s3 m).2 = 0) : goodShape s0 s1 s2 s3 = true ∧ (1 ≤ m ∧ m ≤ 16) ∧ m ≤ roomS s0 s1 s2 s3 view ∧ placeP view s0 s1 s2 s3 m = ((flat s0 s1 s2 s3 (isort (fkey s0 s1 s2 s3) view)).take m.toNat, 0) := by
 unfold placeP at h ⊢
 by_cases h1 : goodShape s0 s1 s2 s3 = true ∧ 1 ≤ m ∧ m ≤ 16
 ·rw [if_pos h1] at h ⊢
  by_cases h2 : roomS s0 s1 s2 s3 view < m
  ·rw [if_pos h2] at h; cases h
  ·rw [if_neg h2]; exact ⟨h1.1, h1.2, by omega, rfl⟩
 ·rw [if_neg h1] at h; cases h
theorem placeP_len {view : List S51} {s0 s1 s2 s3 m : Int} (h : (placeP view s0 s1 s2 s3 m).2 = 0) : ((placeP view s0 s1 s2 s3 m).1.length : Int) = m := by
 obtain ⟨a, b, c, d⟩ := placeP_ok h
 have h1 := flat_len s0 s1 s2 s3 (isort (fkey s0 s1 s2 s3) view)
 rw [roomS_perm (isort_perm (fkey s0 s1 s2 s3) view)] at h1
 rw [d, List.length_take]
 omega
theorem placeP_max (view : List S51) (s0 s1 s2 s3 m : Int) : (placeP view s0 s1 s2 s3 m).1.length ≤ 16 := by
 by_cases h : (placeP view s0 s1 s2 s3 m).2 = 0
 ·have h1 := placeP_len h
  obtain ⟨a, b, c, d⟩ := placeP_ok h
  omega
 ·unfold placeP at h ⊢
  split
  ·split
   ·simp
   ·rename_i h1 h2; rw [if_pos h1, if_neg h2] at h; exact absurd rfl h
  ·simp
structure Few5 (view : List S51) : Prop where
 V : View view
 ok : ∀ f ∈ view, spotOk f
 len : view.length ≤ 70
 sp : ∀ f ∈ view, (w64B f.f0.f0 && w64B f.f0.f1) = true
theorem few5 {view : List S51} (hw : ∀ y ∈ view, wfd51 y) (hr : viewR view) (hl : view.length ≤ 70) : Few5 view :=
 ⟨⟨hr, fun f hf => (free_of_wf (hw f hf)).1⟩, fun f hf => ⟨(free_of_wf (hw f hf)).1, hr.1 f hf⟩, hl, fun f hf => (free_of_wf (hw f hf)).2⟩
theorem Few5.place {view : List S51} (F : Few5 view) (s0 s1 s2 s3 m : Int) : pack_Place.f view s0 s1 s2 s3 m = some (placeP view s0 s1 s2 s3 m) := place_f F.ok (by have := F.len; omega) s0 s1 s2 s3 m
theorem Few5.room {view : List S51} (F : Few5 view) (s0 s1 s2 s3 : Int) : Ev (fun k => pack_Room.f k view s0 s1 s2 s3) (roomS s0 s1 s2 s3 view) := room_ev view s0 s1 s2 s3 (by have := F.len; omega) F.V.free
theorem roomS_append (s0 s1 s2 s3 : Int) (a b : List S51) : roomS s0 s1 s2 s3 (a ++ b) = roomS s0 s1 s2 s3 a + roomS s0 s1 s2 s3 b := by
 unfold roomS; rw [List.map_append, List.sum_append]
end Go.Proofs.Ytckhjehibjdjdaa.P
namespace Go.Proofs.Ytckhjehibjdjdaa.P
open Go.RowKit Go.Proofs.YtckhjehibjdjdaaW.PrintWords Go.Proofs.YtckhjehibjdjdaaW.PrintLast Go.Proofs.YtckhjehibjdjdaaW.PrintMore
attribute [local go_sem] max2_int min2_int max_two min_two max_three min_three max_four min_four
set_option linter.unusedVariables false
set_option linter.unusedSimpArgs false
end Go.Proofs.Ytckhjehibjdjdaa.P
namespace Go.Proofs.Ytckhjehibjdjdaa.P
open Go.RowKit Go.Proofs.YtckhjehibjdjdaaW.PrintWords Go.Proofs.YtckhjehibjdjdaaW.PrintLast Go.Proofs.YtckhjehibjdjdaaW.PrintMore
open Go.Proofs.Ytckhjehibjdjdaa.Bits Go.Proofs.Ytckhjehibjdjdaa.Mp
set_option linter.unusedVariables false
set_option linter.unusedSimpArgs false
theorem room_set (s0 s1 s2 s3 : Int) (view : List S51) (p : Nat) (hp : p < view.length) (x : S51) : roomS s0 s1 s2 s3 (view.set p x) = roomS s0 s1 s2 s3 view - fitV s0 s1 s2 s3 view[p].f1 view[p].f2 + fitV s0 s1 s2 s3 x.f1 x.f2 := by
 have e : roomS s0 s1 s2 s3 view = roomS s0 s1 s2 s3 (view.take p ++ view[p] :: view.drop (p + 1)) := by rw [← List.drop_eq_getElem_cons hp, List.take_append_drop]
 have c : ∀ (y : S51) (l : List S51), roomS s0 s1 s2 s3 (y :: l) = fitV s0 s1 s2 s3 y.f1 y.f2 + roomS s0 s1 s2 s3 l := fun y l => by unfold roomS; rw [List.map_cons, List.sum_cons]
 rw [e, List.set_eq_take_append_cons_drop, if_pos hp, roomS_append, roomS_append, c, c]
 omega
theorem less_pcs {s0 s1 s2 s3 : Int} (hg : goodShape s0 s1 s2 s3 = true) : ∀ (n : Nat) (f : S51) (view : List S51), View view → f ∈ view → n ≤ fitT s0 s1 s2 s3 f →
  (turnF lessE lessF view (pcs s0 s1 n f)).2 = 0 ∧ View (turnF lessE lessF view (pcs s0 s1 n f)).1 ∧ (turnF lessE lessF view (pcs s0 s1 n f)).1.length = view.length ∧
  roomS s0 s1 s2 s3 (turnF lessE lessF view (pcs s0 s1 n f)).1 ≤ roomS s0 s1 s2 s3 view ∧ roomS s0 s1 s2 s3 view ≤ roomS s0 s1 s2 s3 (turnF lessE lessF view (pcs s0 s1 n f)).1 + n ∧
  (∀ g ∈ view, spot g ≠ spot f → g ∈ (turnF lessE lessF view (pcs s0 s1 n f)).1)
 | 0, f, view, V, hf, hn => ⟨rfl, V, rfl, Int.le_refl _, by show _ ≤ roomS s0 s1 s2 s3 view + _; omega, fun g hg _ => hg⟩
 | n + 1, f, view, V, hf, hn => by
  have hb := good_out0 hg
  have hok : spotOk f := ⟨V.free f hf, V.right.1 f hf⟩
  have e1 := fitT_eq s0 s1 s2 s3 f
  have e2 := fit_kap hg hok
  have hk : 1 ≤ kap s0 s1 f := by omega
  have hge := kap_ge hg hok hk
  obtain ⟨p, hp, rfl⟩ := List.mem_iff_getElem.1 hf
  have hlow := lowI_bd view[p].f1 s0
  have hms : maskOk (pieceL s0 s1 view[p]) = true := by
   unfold maskOk pieceL
   rw [decide_eq_true hlow.1, decide_eq_true hlow.2]; rfl
  have hE : lessE view[p] (pieceL s0 s1 view[p]) = 0 := by
   refine (lessE_iff hok.1 hms).2 ⟨?_, hge.2⟩
   show (lowI view[p].f1 s0).toNat &&& _ = (lowI view[p].f1 s0).toNat
   unfold lowI
   rw [Int.toNat_natCast, low_and]
  have hfi : findI view (pieceL s0 s1 view[p]).f0.f0 (pieceL s0 s1 view[p]).f0.f1 = (p : Int) := find_at V.right.2 hp rfl
  have hstep : turnF lessE lessF view (pcs s0 s1 (n + 1) view[p]) = turnF lessE lessF (view.set p (leftF s0 s1 view[p])) (pcs s0 s1 n (leftF s0 s1 view[p])) := by
   rw [pcs, turnF, if_neg (show ¬ (pieceL s0 s1 view[p]).f2 < 0 from fun h => by have h : s1 < 0 := h; omega), hfi, if_neg (by omega), rd51' view p hp, if_pos hE, Int.toNat_natCast]; rfl
  have hlo := left_ok hg hok hk
  have hle := kap_left_le hg hok hk
  have sp : (view.set p (leftF s0 s1 view[p])).map spot = view.map spot := spots_set (fun hk => rfl)
  have V' : View (view.set p (leftF s0 s1 view[p])) := ⟨⟨set_all V.right.1 hlo.2, by rw [sp]; exact V.right.2⟩, set_all V.free hlo.1⟩
  have hin : leftF s0 s1 view[p] ∈ view.set p (leftF s0 s1 view[p]) := List.mem_iff_getElem.2 ⟨p, by rw [List.length_set]; exact hp, List.getElem_set_self _⟩
  have e3 := fitT_eq s0 s1 s2 s3 (leftF s0 s1 view[p])
  have hrs := room_set s0 s1 s2 s3 view p hp (leftF s0 s1 view[p])
  obtain ⟨i1, i2, i3, i4, i5, i6⟩ := less_pcs hg n (leftF s0 s1 view[p]) _ V' hin (by omega)
  rw [hstep]
  refine ⟨i1, i2, by rw [i3, List.length_set], by omega, by omega, fun g hgm hne => i6 g ?_ hne⟩
  obtain ⟨q, hq, rfl⟩ := List.mem_iff_getElem.1 hgm
  have hpq : p ≠ q := fun h => hne (by subst h; rfl)
  exact List.mem_iff_getElem.2 ⟨q, by rw [List.length_set]; exact hq, List.getElem_set_ne hpq _⟩
theorem less_flat {s0 s1 s2 s3 : Int} (hg : goodShape s0 s1 s2 s3 = true) : ∀ (L : List S51) (view : List S51) (r : Nat), View view → (L.map spot).Nodup → (∀ f ∈ L, f ∈ view) →
  (turnF lessE lessF view ((flat s0 s1 s2 s3 L).take r)).2 = 0 ∧ View (turnF lessE lessF view ((flat s0 s1 s2 s3 L).take r)).1 ∧ (turnF lessE lessF view ((flat s0 s1 s2 s3 L).take r)).1.length = view.length ∧
  roomS s0 s1 s2 s3 (turnF lessE lessF view ((flat s0 s1 s2 s3 L).take r)).1 ≤ roomS s0 s1 s2 s3 view ∧ roomS s0 s1 s2 s3 view ≤ roomS s0 s1 s2 s3 (turnF lessE lessF view ((flat s0 s1 s2 s3 L).take r)).1 + ((flat s0 s1 s2 s3 L).take r).length
 | [], view, r, V, _, _ => by
  rw [show flat s0 s1 s2 s3 [] = [] from rfl, List.take_nil]
  exact ⟨rfl, V, rfl, Int.le_refl _, by show _ ≤ roomS s0 s1 s2 s3 view + _; simp⟩
 | f :: L, view, r, V, hn, hL => by
  rw [List.map_cons, List.nodup_cons] at hn
  rw [flat_cons, List.take_append, pcs_take, pcs_len]
  obtain ⟨a1, a2, a3, a4, a5, a6⟩ := less_pcs hg (min r (fitT s0 s1 s2 s3 f)) f view V (hL f (by simp)) (by omega)
  rw [turnF_append _ _ _ a1]
  obtain ⟨b1, b2, b3, b4, b5⟩ := less_flat hg L _ (r - fitT s0 s1 s2 s3 f) a2 hn.2 (fun g hgm => a6 g (hL g (by simp [hgm])) (fun h => hn.1 (List.mem_map.2 ⟨g, hgm, h⟩)))
  refine ⟨b1, b2, b3.trans a3, by omega, ?_⟩
  rw [List.length_append, pcs_len]
  omega
theorem flat_spot (s0 s1 s2 s3 : Int) (L : List S51) : ∀ s ∈ flat s0 s1 s2 s3 L, ∃ f ∈ L, s.f0 = f.f0 ∧ maskOk s = true := fun s hs => by
 obtain ⟨f, hf, h⟩ := List.mem_flatMap.1 hs
 exact ⟨f, hf, pcs_spot _ _ _ f s h⟩
end Go.Proofs.Ytckhjehibjdjdaa.P
namespace Go.Proofs.Ytckhjehibjdjdaa.P
open Go.RowKit Go.Proofs.YtckhjehibjdjdaaW.PrintWords Go.Proofs.YtckhjehibjdjdaaW.PrintLast Go.Proofs.YtckhjehibjdjdaaW.PrintMore
open Go.Proofs.Ytckhjehibjdjdaa.Bits Go.Proofs.Ytckhjehibjdjdaa.Mp
set_option linter.unusedVariables false
set_option linter.unusedSimpArgs false
def PackWhole.Pure : Prop := ∀ (x0 : List S51) (x1 : S27) (x2 : Int), (x0.length ≤ maxLen ∧ ∀ y ∈ x0, wfd51 y) → wfd27 x1 → I64 x2 → ∃ k, ensemblelaw05_PackWhole.f k x0 x1.f0 x1.f1 x1.f2 x1.f3 x2 = some true
theorem low_pop (M n : Nat) (hn : n ≤ popN M) : popN (lowN M n) = n := by
 have hp : ((pos M).take n).Pairwise (· < ·) := (pos_sorted M).sublist (List.take_sublist _ _)
 unfold popN at hn ⊢
 unfold lowN
 rw [pos_orAll _ hp (fun i hi => (mem_pos.1 (List.mem_of_mem_take hi)).1), List.length_take]
 omega
theorem pcs_units {s0 s1 s2 s3 : Int} (hg : goodShape s0 s1 s2 s3 = true) : ∀ (n : Nat) (f : S51), spotOk f → n ≤ fitT s0 s1 s2 s3 f → ∀ s ∈ pcs s0 s1 n f, s.f2 = s1 ∧ popI s.f1 = s0
 | 0, _, _, _, s, h => by cases h
 | n + 1, f, hok, hn, s, h => by
  have hb := good_out0 hg
  have e1 := fitT_eq s0 s1 s2 s3 f
  have e2 := fit_kap hg hok
  have hk : 1 ≤ kap s0 s1 f := by omega
  have hge := kap_ge hg hok hk
  have hle := kap_left_le hg hok hk
  have e3 := fitT_eq s0 s1 s2 s3 (leftF s0 s1 f)
  rw [pcs, List.mem_cons] at h
  rcases h with rfl | h
  ·refine ⟨rfl, ?_⟩
   show popI (lowI f.f1 s0) = s0
   unfold popI at hge ⊢
   unfold lowI
   rw [Int.toNat_natCast, low_pop _ _ (by omega)]
   omega
  ·exact pcs_units hg n _ (left_ok hg hok hk) (by omega) s h
theorem flat_units {s0 s1 s2 s3 : Int} (hg : goodShape s0 s1 s2 s3 = true) {L : List S51} (hL : ∀ f ∈ L, spotOk f) : ∀ s ∈ flat s0 s1 s2 s3 L, s.f2 = s1 ∧ popI s.f1 = s0 := fun s hs => by
 obtain ⟨f, hf, h⟩ := List.mem_flatMap.1 hs
 exact pcs_units hg _ f (hL f hf) (Nat.le_refl _) s h
theorem count_one {mk : Int} (hm : 0 ≤ mk ∧ mk < 18446744073709551616) : Ev (fun k => ensembleref02_Count.f k [(⟨(⟨0, 0⟩ : S48), mk, 0⟩ : S51)]) (popI mk, (0 : Int)) := by
 obtain ⟨M, rfl⟩ := Int.eq_ofNat_of_zero_le hm.1
 have hu := units_ev M (by omega)
 have hl := posI_len M
 have hp := popI_bd (M : Int)
 have hrd : rd_T51 [(⟨(⟨0, 0⟩ : S48), (M : Int), 0⟩ : S51)] 0 = (⟨(⟨0, 0⟩ : S48), (M : Int), 0⟩ : S51) := rd51' [_] 0 (by simp)
 unfold ensembleref02_Count.f
 refine Ev.step (fun k => by rw [ensembleref02_Count.l0, if_pos (by simp), if_pos (by omega), hrd]) (Ev.bind hu ?_)
 refine Ev.step (f := fun _ => some (popI (M : Int), (0 : Int))) (fun k => ?_) (Ev.now _)
 rw [ensembleref02_Count.l0, if_neg (by rw [w_id (by omega)]; simp)]
 refine congrArg some (Prod.ext ?_ ?_)
 ·show wrap64 (0 + ((posI M).length : Int)) = popI (M : Int)
  rw [hl, w_id (by omega)]; omega
 ·show wrap64 ((0 : Int) + 0) = 0
  rw [w_id (by omega)]; rfl
theorem same02_l (l : List S51) (hl : l.length ≤ 4398046511104) (d : Nat) : ∀ i : Nat, i ≤ l.length → l.length - i = d → Ev (fun k => ensembleref02_Same.l0 k l l (i : Int)) true := by
 induction d with
 | zero =>
  intro i hi hd
  refine Ev.step (f := fun _ => some true) (fun k => ?_) (Ev.now _)
  rw [ensembleref02_Same.l0, if_neg (by omega)]
 | succ d ih =>
  intro i hi hd
  refine Ev.step (fun k => by rw [ensembleref02_Same.l0, if_pos (by omega), if_pos (by omega), if_pos (by omega), if_neg (by simp)]) ?_
  refine Ev.congr (fun k => ?_) (ih (i + 1) (by omega) (by omega))
  rw [w_id (by omega)]
  congr 1
theorem same02_ev (l : List S51) (hl : l.length ≤ 4398046511104) : Ev (fun k => ensembleref02_Same.f k l l) true := by
 unfold ensembleref02_Same.f
 exact Ev.congr (fun k => by rw [if_pos rfl]; rfl) (same02_l l hl l.length 0 (by omega) (by omega))
theorem back_same {view : List S51} (V : View view) {H : List S52} (hH : ∀ s ∈ H, maskOk s = true) (h : (turnF lessE lessF view H).2 = 0) : turnF moreE moreF (turnF lessE lessF view H).1 H = (view, 0) := by
 obtain ⟨VL, _, _, hb⟩ := less_back H view V hH h
 have h1 := turnF_iff H.reverse _ VL (fun s hs => hH s (List.mem_reverse.1 hs))
 have h2 := turnF_iff H _ VL hH
 have ok := h1.1.1 (by rw [hb])
 have e1 := h1.2 (by rw [hb])
 rw [hb] at e1
 have ok' : okS (turnF lessE lessF view H).1 H := okS_perm (List.reverse_perm H) ok
 have e2 := h2.1.2 ok'
 refine Prod.ext ?_ e2
 rw [h2.2 e2, ← viewS_perm (List.reverse_perm H)]
 exact e1.symm
theorem whole_l {view : List S51} {l : List S52} {R : List S51 × Int} {s0 s1 s2 s3 t : Int} (hl : l.length ≤ 100) (hv : view.length ≤ 70) (hu : ∀ s ∈ l, s.f2 = s1 ∧ popI s.f1 = s0) (hm : ∀ s ∈ l, maskOk s = true) (hless : pack_Less.f view l = some R) (hmore : pack_More.f R.1 l = some (view, 0)) (hR : R.2 = 0) (hR1 : R.1.length ≤ 70) (hRf : ∀ f ∈ R.1, freeOk f = true) (ht : roomS s0 s1 s2 s3 R.1 ≤ t) (d : Nat) :
  ∀ i : Nat, i ≤ l.length → l.length - i = d → Ev (fun k => ensemblelaw05_PackWhole.l0 k view t l (i : Int) s0 s1 s2 s3) true := by
 induction d with
 | zero =>
  intro i hi hd
  have bd := roomS_bd s0 s1 s2 s3 R.1
  refine Ev.step (fun k => by rw [ensemblelaw05_PackWhole.l0, if_neg (by omega), hless, Option.bind_some, hmore, Option.bind_some, if_pos hR, if_pos rfl]) (Ev.bind (same02_ev view (by omega)) ?_)
  refine Ev.congr (fun k => by rw [if_pos rfl]) (Ev.bind (room_ev R.1 s0 s1 s2 s3 (by omega) hRf) ?_)
  refine Ev.congr (fun k => by rw [if_pos (by omega)]) ?_
  by_cases h0 : roomS s0 s1 s2 s3 R.1 = 0
  ·exact Ev.congr (fun k => by rw [if_pos h0]) (Ev.now _)
  ·exact Ev.congr (fun k => by rw [if_neg h0, decide_eq_true ht]) (Ev.now _)
 | succ d ih =>
  intro i hi hd
  have hil : i < l.length := by omega
  have h1 := hu _ (List.getElem_mem hil)
  have h2 := maskOk_out (hm _ (List.getElem_mem hil))
  refine Ev.step (fun k => by rw [ensemblelaw05_PackWhole.l0, if_pos (by omega), if_pos (by omega), rd52' l i hil, if_pos h1.1]) (Ev.bind (count_one h2) ?_)
  refine Ev.congr (fun k => by rw [if_pos h1.2]) ?_
  refine Ev.congr (fun k => ?_) (ih (i + 1) (by omega) (by omega))
  rw [w_id (by omega)]
  congr 1
theorem Pure.PackWhole : PackWhole.Pure := by
 intro view s m w0 w1 w2
 refine Ev.rounds (g := fun k => ensemblelaw05_PackWhole.f k view s.f0 s.f1 s.f2 s.f3 m) ?_
 refine Ev.congr (fun k => by unfold ensemblelaw05_PackWhole.f; rw [awake05, Option.bind_some, if_pos rfl]) ?_
 have hj : ∀ (b : Bool), b = true → Ev (fun k => ensemblelaw05_PackWhole.j0 k view m b s.f0 s.f1 s.f2 s.f3) true := fun b hb =>
  Ev.step (f := fun _ => some true) (fun k => by rw [ensemblelaw05_PackWhole.j0, if_pos hb]) (Ev.now _)
 rcases few05_ev view with ⟨hk, hr, hl⟩ | hk
 case inr => exact Ev.bind hk (Ev.congr (fun k => by rw [if_neg (by decide)]) (hj _ rfl))
 have F := few5 w0.2 hr hl
 refine Ev.bind hk (Ev.congr (fun k => by rw [if_pos rfl, right04, Option.bind_some]) ?_)
 by_cases hg : goodShape s.f0 s.f1 s.f2 s.f3 = true
 case neg => exact Ev.congr (fun k => by rw [if_neg hg]) (hj _ rfl)
 refine Ev.congr (fun k => by rw [if_pos hg]) ?_
 by_cases h1 : m < 1
 ·exact Ev.congr (fun k => by rw [if_pos h1]) (hj _ rfl)
 refine Ev.congr (fun k => by rw [if_neg h1]) ?_
 by_cases h2 : m > 16
 ·exact hj _ (decide_eq_true h2)
 refine Ev.step (fun k => by rw [ensemblelaw05_PackWhole.j0, if_neg (by rw [decide_eq_false h2]; decide)]) (Ev.bind (F.room _ _ _ _) ?_)
 refine Ev.congr (fun k => by rw [F.place, Option.bind_some]) ?_
 by_cases h3 : m > roomS s.f0 s.f1 s.f2 s.f3 view
 ·have e : placeP view s.f0 s.f1 s.f2 s.f3 m = ([], 7) := by
   unfold placeP
   rw [if_pos ⟨hg, by omega, by omega⟩, if_pos (by omega)]
  exact Ev.congr (fun k => by rw [if_pos h3, e, if_pos rfl]; rfl) (Ev.now _)
 have h : (placeP view s.f0 s.f1 s.f2 s.f3 m).2 = 0 := by
  unfold placeP
  rw [if_pos ⟨hg, by omega, by omega⟩, if_neg (by omega)]
 obtain ⟨a, b, c, d⟩ := placeP_ok h
 have hlen := placeP_len h
 have hmax := placeP_max view s.f0 s.f1 s.f2 s.f3 m
 have hp := isort_perm (fkey s.f0 s.f1 s.f2 s.f3) view
 have hmem : ∀ x ∈ (placeP view s.f0 s.f1 s.f2 s.f3 m).1, x ∈ flat s.f0 s.f1 s.f2 s.f3 (isort (fkey s.f0 s.f1 s.f2 s.f3) view) := fun x hx => by
  rw [d] at hx; exact List.mem_of_mem_take hx
 have hmk : ∀ x ∈ (placeP view s.f0 s.f1 s.f2 s.f3 m).1, maskOk x = true := fun x hx => by
  obtain ⟨f, _, _, h5⟩ := flat_spot _ _ _ _ _ x (hmem x hx); exact h5
 have hsp : ∀ x ∈ (placeP view s.f0 s.f1 s.f2 s.f3 m).1, (w64B x.f0.f0 && w64B x.f0.f1) = true := fun x hx => by
  obtain ⟨f, hf, h5, _⟩ := flat_spot _ _ _ _ _ x (hmem x hx)
  rw [h5]
  exact F.sp f (hp.mem_iff.1 hf)
 obtain ⟨l1, l2, l3, l4, l5⟩ := less_flat a (isort (fkey s.f0 s.f1 s.f2 s.f3) view) view m.toNat F.V ((hp.map spot).nodup_iff.2 F.V.right.2) (fun f hf => hp.mem_iff.1 hf)
 have eP : (placeP view s.f0 s.f1 s.f2 s.f3 m).1 = (flat s.f0 s.f1 s.f2 s.f3 (isort (fkey s.f0 s.f1 s.f2 s.f3) view)).take m.toNat := by rw [d]
 rw [← eP] at l1 l2 l3 l4 l5
 have hless : pack_Less.f view (placeP view s.f0 s.f1 s.f2 s.f3 m).1 = some (turnF lessE lessF view (placeP view s.f0 s.f1 s.f2 s.f3 m).1) := by
  unfold pack_Less.f spotsOk
  rw [decide_eq_true (show view.length < 4398046511104 by omega), List.all_eq_true.2 F.sp, List.all_eq_true.2 hsp, if_pos (by rfl), turned51_find (F := lessF) (fun _ _ => rfl) F.V.right.2]
 have hback := back_same F.V hmk l1
 obtain ⟨_, hspots, _, _⟩ := less_back _ view F.V hmk l1
 have hsp2 : ∀ f ∈ (turnF lessE lessF view (placeP view s.f0 s.f1 s.f2 s.f3 m).1).1, (w64B f.f0.f0 && w64B f.f0.f1) = true := fun f hf => by
  have h5 : spot f ∈ view.map spot := by rw [← hspots]; exact List.mem_map.2 ⟨f, hf, rfl⟩
  obtain ⟨g, hgm, h6⟩ := List.mem_map.1 h5
  have h7 := F.sp g hgm
  unfold spot at h6
  injection h6 with h8 h9
  rw [← h8, ← h9]; exact h7
 have hmore : pack_More.f (turnF lessE lessF view (placeP view s.f0 s.f1 s.f2 s.f3 m).1).1 (placeP view s.f0 s.f1 s.f2 s.f3 m).1 = some (view, 0) := by
  unfold pack_More.f spotsOk
  rw [decide_eq_true (show (turnF lessE lessF view (placeP view s.f0 s.f1 s.f2 s.f3 m).1).1.length < 4398046511104 by omega), List.all_eq_true.2 hsp2, List.all_eq_true.2 hsp, if_pos (by rfl), turned51_find (F := moreF) (fun _ _ => rfl) l2.right.2, hback]
 refine Ev.congr (fun k => by rw [if_neg (show ¬ m > roomS s.f0 s.f1 s.f2 s.f3 view from h3), if_pos h]) ?_
 refine Ev.step (fun k => by rw [ensemblelaw05_PackWhole.j1, if_neg (by simp [hlen])]) ?_
 exact whole_l (by omega) hl (fun x hx => flat_units a (fun f hf => F.ok f (hp.mem_iff.1 hf)) x (hmem x hx)) hmk hless hmore l1 (by omega) l2.free l4 _ 0 (by omega) rfl
end Go.Proofs.Ytckhjehibjdjdaa.P
namespace Go.Proofs.Ytckhjehibjdjdaa.row0
set_option maxRecDepth 100000
set_option linter.unusedSimpArgs false
theorem and_mk {a b : Bool} (h : a = true) (k : b = true) : (a && b) = true := by rw [h, k]; rfl
def letters : List Char := List.map Char.ofNat [104, 97, 114, 110, 101, 115, 115, 32, 57, 100, 50, 54, 101, 98, 50, 54, 53, 56, 98, 49, 102, 51, 56, 49, 51, 55, 98, 54, 100, 49, 53, 55, 102, 53, 100, 49, 102, 101, 97, 49, 102, 56, 57, 57, 55, 98, 52, 55, 53, 51, 99, 98, 101, 48, 98, 98, 48, 97, 53, 54, 48, 102, 102, 54, 52, 98, 99, 52, 98, 52, 102, 52, 32, 99, 117, 116, 32, 97, 116, 32, 101, 110, 115, 101, 109, 98, 108, 101, 47, 101, 110, 115, 101, 109, 98, 108, 101, 108, 97, 119, 49, 50, 46, 80, 114, 111, 109, 105, 115, 101, 84, 101, 108, 108, 115, 32, 101, 110, 115, 101, 109, 98, 108, 101, 47, 101, 110, 115, 101, 109, 98, 108, 101, 108, 97, 119, 49, 50, 46, 80, 114, 111, 109, 105, 115, 101, 75, 101, 101, 112, 115, 32, 101, 110, 115, 101, 109, 98, 108, 101, 47, 101, 110, 115, 101, 109, 98, 108, 101, 108, 97, 119, 49, 50, 46, 80, 114, 111, 109, 105, 115, 101, 76, 101, 115, 115, 32, 101, 110, 115, 101, 109, 98, 108, 101, 47, 101, 110, 115, 101, 109, 98, 108, 101, 108, 97, 119, 49, 50, 46, 80, 114, 111, 109, 105, 115, 101, 79, 110, 108, 121, 32, 101, 110, 115, 101, 109, 98, 108, 101, 47, 101, 110, 115, 101, 109, 98, 108, 101, 108, 97, 119, 49, 50, 46, 80, 114, 111, 109, 105, 115, 101, 82, 111, 111, 109, 32, 101, 110, 115, 101, 109, 98, 108, 101, 47, 101, 110, 115, 101, 109, 98, 108, 101, 108, 97, 119, 49, 51, 46, 70, 105, 108, 108, 84, 101, 108, 108, 115, 32, 101, 110, 115, 101, 109, 98, 108, 101, 47, 101, 110, 115, 101, 109, 98, 108, 101, 108, 97, 119, 49, 51, 46, 70, 105, 108, 108, 76, 97, 116, 101, 32, 101, 110, 115, 101, 109, 98, 108, 101, 47, 101, 110, 115, 101, 109, 98, 108, 101, 108, 97, 119, 49, 51, 46, 70, 105, 108, 108, 78, 111, 110, 101, 32, 101, 110, 115, 101, 109, 98, 108, 101, 47, 101, 110, 115, 101, 109, 98, 108, 101, 108, 97, 119, 49, 51, 46, 70, 105, 108, 108, 77, 97, 110, 121, 32, 101, 110, 115, 101, 109, 98, 108, 101, 47, 101, 110, 115, 101, 109, 98, 108, 101, 108, 97, 119, 49, 51, 46, 70, 105, 108, 108, 80, 97, 115, 116, 32, 101, 110, 115, 101, 109, 98, 108, 101, 47, 101, 110, 115, 101, 109, 98, 108, 101, 108, 97, 119, 48, 53, 46, 80, 97, 99, 107, 70, 101, 119, 32, 101, 110, 115, 101, 109, 98, 108, 101, 47, 101, 110, 115, 101, 109, 98, 108, 101, 108, 97, 119, 48, 53, 46, 80, 97, 99, 107, 70, 114, 111, 110, 116, 32, 101, 110, 115, 101, 109, 98, 108, 101, 47, 101, 110, 115, 101, 109, 98, 108, 101, 108, 97, 119, 48, 53, 46, 80, 97, 99, 107, 84, 101, 108, 108, 115, 32, 101, 110, 115, 101, 109, 98, 108, 101, 47, 101, 110, 115, 101, 109, 98, 108, 101, 108, 97, 119, 48, 53, 46, 80, 97, 99, 107, 82, 111, 111, 109, 115, 32, 101, 110, 115, 101, 109, 98, 108, 101, 47, 101, 110, 115, 101, 109, 98, 108, 101, 108, 97, 119, 48, 53, 46, 80, 97, 99, 107, 76, 101, 102, 116, 32, 101, 110, 115, 101, 109, 98, 108, 101, 47, 101, 110, 115, 101, 109, 98, 108, 101, 108, 97, 119, 48, 53, 46, 80, 97, 99, 107, 77, 111, 114, 101, 32, 101, 110, 115, 101, 109, 98, 108, 101, 47, 101, 110, 115, 101, 109, 98, 108, 101, 108, 97, 119, 48, 53, 46, 80, 97, 99, 107, 87, 104, 111, 108, 101, 32, 101, 110, 115, 101, 109, 98, 108, 101, 47, 101, 110, 115, 101, 109, 98, 108, 101, 108, 97, 119, 49, 52, 46, 69, 108, 97, 115, 116, 105, 99, 77, 111, 115, 116, 32, 101, 110, 115, 101, 109, 98, 108, 101, 47, 101, 110, 115, 101, 109, 98, 108, 101, 108, 97, 119, 49, 52, 46, 69, 108, 97, 115, 116, 105, 99, 77, 111, 114, 101, 32, 101, 110, 115, 101, 109, 98, 108, 101, 47, 101, 110, 115, 101, 109, 98, 108, 101, 108, 97, 119, 49, 52, 46, 69, 108, 97, 115, 116, 105, 99, 83, 97, 102, 101, 32, 101, 110, 115, 101, 109, 98, 108, 101, 47, 101, 110, 115, 101, 109, 98, 108, 101, 108, 97, 119, 49, 53, 46, 87, 111, 114, 107, 101, 114, 77, 97, 121, 32, 101, 110, 115, 101, 109, 98, 108, 101, 47, 101, 110, 115, 101, 109, 98, 108, 101, 108, 97, 119, 49, 53, 46, 87, 111, 114, 107, 101, 114, 82, 101, 115, 116, 115]
theorem lit : Try.checked.prog.initOrder = String.ofList letters := by kernel_rfl
theorem lits : Try.checked.prog.initOrder.toList = letters := by rw [lit]; exact String.toList_ofList
def words : List (List Char) := List.map (List.map Char.ofNat) [[99, 117, 116], [97, 116], [101, 110, 115, 101, 109, 98, 108, 101, 47, 101, 110, 115, 101, 109, 98, 108, 101, 108, 97, 119, 49, 50, 46, 80, 114, 111, 109, 105, 115, 101, 84, 101, 108, 108, 115], [101, 110, 115, 101, 109, 98, 108, 101, 47, 101, 110, 115, 101, 109, 98, 108, 101, 108, 97, 119, 49, 50, 46, 80, 114, 111, 109, 105, 115, 101, 75, 101, 101, 112, 115], [101, 110, 115, 101, 109, 98, 108, 101, 47, 101, 110, 115, 101, 109, 98, 108, 101, 108, 97, 119, 49, 50, 46, 80, 114, 111, 109, 105, 115, 101, 76, 101, 115, 115], [101, 110, 115, 101, 109, 98, 108, 101, 47, 101, 110, 115, 101, 109, 98, 108, 101, 108, 97, 119, 49, 50, 46, 80, 114, 111, 109, 105, 115, 101, 79, 110, 108, 121], [101, 110, 115, 101, 109, 98, 108, 101, 47, 101, 110, 115, 101, 109, 98, 108, 101, 108, 97, 119, 49, 50, 46, 80, 114, 111, 109, 105, 115, 101, 82, 111, 111, 109], [101, 110, 115, 101, 109, 98, 108, 101, 47, 101, 110, 115, 101, 109, 98, 108, 101, 108, 97, 119, 49, 51, 46, 70, 105, 108, 108, 84, 101, 108, 108, 115], [101, 110, 115, 101, 109, 98, 108, 101, 47, 101, 110, 115, 101, 109, 98, 108, 101, 108, 97, 119, 49, 51, 46, 70, 105, 108, 108, 76, 97, 116, 101], [101, 110, 115, 101, 109, 98, 108, 101, 47, 101, 110, 115, 101, 109, 98, 108, 101, 108, 97, 119, 49, 51, 46, 70, 105, 108, 108, 78, 111, 110, 101], [101, 110, 115, 101, 109, 98, 108, 101, 47, 101, 110, 115, 101, 109, 98, 108, 101, 108, 97, 119, 49, 51, 46, 70, 105, 108, 108, 77, 97, 110, 121], [101, 110, 115, 101, 109, 98, 108, 101, 47, 101, 110, 115, 101, 109, 98, 108, 101, 108, 97, 119, 49, 51, 46, 70, 105, 108, 108, 80, 97, 115, 116], [101, 110, 115, 101, 109, 98, 108, 101, 47, 101, 110, 115, 101, 109, 98, 108, 101, 108, 97, 119, 48, 53, 46, 80, 97, 99, 107, 70, 101, 119], [101, 110, 115, 101, 109, 98, 108, 101, 47, 101, 110, 115, 101, 109, 98, 108, 101, 108, 97, 119, 48, 53, 46, 80, 97, 99, 107, 70, 114, 111, 110, 116], [101, 110, 115, 101, 109, 98, 108, 101, 47, 101, 110, 115, 101, 109, 98, 108, 101, 108, 97, 119, 48, 53, 46, 80, 97, 99, 107, 84, 101, 108, 108, 115], [101, 110, 115, 101, 109, 98, 108, 101, 47, 101, 110, 115, 101, 109, 98, 108, 101, 108, 97, 119, 48, 53, 46, 80, 97, 99, 107, 82, 111, 111, 109, 115], [101, 110, 115, 101, 109, 98, 108, 101, 47, 101, 110, 115, 101, 109, 98, 108, 101, 108, 97, 119, 48, 53, 46, 80, 97, 99, 107, 76, 101, 102, 116], [101, 110, 115, 101, 109, 98, 108, 101, 47, 101, 110, 115, 101, 109, 98, 108, 101, 108, 97, 119, 48, 53, 46, 80, 97, 99, 107, 77, 111, 114, 101], [101, 110, 115, 101, 109, 98, 108, 101, 47, 101, 110, 115, 101, 109, 98, 108, 101, 108, 97, 119, 48, 53, 46, 80, 97, 99, 107, 87, 104, 111, 108, 101], [101, 110, 115, 101, 109, 98, 108, 101, 47, 101, 110, 115, 101, 109, 98, 108, 101, 108, 97, 119, 49, 52, 46, 69, 108, 97, 115, 116, 105, 99, 77, 111, 115, 116], [101, 110, 115, 101, 109, 98, 108, 101, 47, 101, 110, 115, 101, 109, 98, 108, 101, 108, 97, 119, 49, 52, 46, 69, 108, 97, 115, 116, 105, 99, 77, 111, 114, 101], [101, 110, 115, 101, 109, 98, 108, 101, 47, 101, 110, 115, 101, 109, 98, 108, 101, 108, 97, 119, 49, 52, 46, 69, 108, 97, 115, 116, 105, 99, 83, 97, 102, 101], [101, 110, 115, 101, 109, 98, 108, 101, 47, 101, 110, 115, 101, 109, 98, 108, 101, 108, 97, 119, 49, 53, 46, 87, 111, 114, 107, 101, 114, 77, 97, 121], [101, 110, 115, 101, 109, 98, 108, 101, 47, 101, 110, 115, 101, 109, 98, 108, 101, 108, 97, 119, 49, 53, 46, 87, 111, 114, 107, 101, 114, 82, 101, 115, 116, 115]]
theorem wordsEq : behindMainWord (wordsSigns letters) = words := by kernel_rfl
theorem behind : behindMainWord (wordsSigns Try.checked.prog.initOrder.toList) = words := by rw [lits]; exact wordsEq
theorem headLifts_of {P : Program} {ws : List (List Char)} (h : behindMainWord (wordsSigns P.initOrder.toList) = ws) (h2 : ((stripLifts liftWords ws).2.head? == some "cut".toList) = true) (h3 : (stripLifts liftWords ws).1 = []) : P.headLifts = [] := by
 unfold Program.headLifts
 rw [h]
 simp only [h2, h3, if_true]
theorem headLifts : Try.checked.prog.headLifts = [] := headLifts_of behind (by kernel_rfl) (by kernel_rfl)
theorem liftsFinal_of {P : Program} {ws : List (List Char)} (h : behindMainWord (wordsSigns P.initOrder.toList) = ws) (hl : P.headLifts = []) (h1 : (ws.head? == some "carried".toList) = false) : P.liftsFinal = false := by
 unfold Program.liftsFinal
 rw [h, hl]
 simp only [h1, Bool.false_and, List.contains_nil, Bool.or_false]
theorem liftsFinal : Try.checked.prog.liftsFinal = false := liftsFinal_of behind headLifts (by kernel_rfl)
theorem make_of {P : Program} {c : List Char} {rest : List (List Char)} (h : behindMainWord (wordsSigns P.initOrder.toList) = c :: rest) (h1 : (c == "gc".toList || c == "spec".toList) = false) (h2 : (c == "cut".toList) = true) : P.make = some .cut := by
 unfold Program.make
 rw [h]
 simp only [h1, h2, Bool.true_or, if_true, Bool.false_eq_true, if_false]
theorem make : Try.checked.prog.make = some .cut := make_of (behind.trans (show words = _ :: _ from rfl)) (by kernel_rfl) (by kernel_rfl)
theorem mayEnter_of {P : Program} {c : List Char} {rest : List (List Char)} (h : behindMainWord (wordsSigns P.initOrder.toList) = c :: rest) (h2 : ((stripLifts liftWords (c :: rest)).2.head? == some "cut".toList) = true) (h3 : (stripLifts liftWords (c :: rest)).1 = []) (h4 : P.laysLater = false) (h5 : P.bearsReflect = false) (h6 : P.doorFits [] = true) : P.mayEnter = true := by
 unfold Program.mayEnter
 rw [h]
 simp only [h2, h3, h4, h5, h6, List.contains_nil, Bool.not_false, Bool.false_or, Bool.or_true, Bool.true_or, Bool.and_true, Bool.true_and]
theorem h4 : Try.checked.prog.laysLater = false := by kernel_rfl
theorem h5 : Try.checked.prog.bearsReflect = false := by kernel_rfl
theorem h6 : Try.checked.prog.doorFits [] = true := by kernel_rfl
theorem mayEnter : Try.checked.prog.mayEnter = true := mayEnter_of (behind.trans (show words = _ :: _ from rfl)) (by kernel_rfl) (by kernel_rfl) h4 h5 h6
end Go.Proofs.Ytckhjehibjdjdaa.row0
namespace Go.Proofs.Ytckhjehibjdjdaa.packWhole
open Go.ChangeShapes Go.WideShapes Go.ChangeAt Go.RowKit Go.Proofs.Ytckhjehibjdjdaa.P Go.Proofs.Ytckhjehibjdjdaa.Ob Go.Proofs.YtckhjehibjdjdaaW.PrintWords
open Go.ChangeMaps (open_string shut_string)
set_option linter.unusedVariables false
theorem own : ownKnob Try.prog.godebug = none := by kernel_rfl
theorem laidOut : laidOutB Try.prog = true := by kernel_rfl
set_option maxRecDepth 100000 in
theorem lifted (os : Os) (started : os.Started) (H : Type) (enc : TypeId × Value → H) :
  ReturnsInHanded {} Try.checked os 19 .any (Rows.packWholeSpec.pre6 enc Try.prog Try.f19 Rows.packWholeRow.domain false) (Rows.packWholeSpec.post enc Try.prog Try.f19 false true false false) := by
 refine returnsInHanded_of_change_sized (C := Try.checked) own started (by kernel_rfl) Try.func19
  (ChangeSpec.witness6 (enc := enc) (C := Try.checked) false ⟨#[], #[.slice none 0 0, .agg #[.int .i64 0, .int .i64 0, .int .i64 0, .int .i64 0], .int .i64 0], []⟩ 8 (by kernel_rfl) (by kernel_rfl) (by kernel_rfl) (by kernel_rfl)) ?_
 intro W base args ds gs before hval0 hW hcnd hsz0 _
 have hval : ∀ (j : Nat) t v, Try.f19.params[j]? = some t → args[j]? = some v → Value.okWide Try.prog W .any base t v := hval0
 have hW' := hW
 obtain ⟨p, q, hA0, hV, rfl, hfz, hnd⟩ := hW
 have hA : DataW.TrodAll enc Try.prog W 0 (fun _ => true) true Try.f19.params.toList args.toList ds p := hA0
 rw [Try.params19] at hA hval
 obtain ⟨v0, vs0, d0, ds0, p0, q0, hargs, rfl, rfl, h0, r0⟩ := trodAll_cons hA
 obtain ⟨v1, vs1, d1, ds1, p1, q1, rfl, rfl, rfl, h1, r1⟩ := trodAll_cons r0
 obtain ⟨v2, vs2, d2, ds2, p2, q2, rfl, rfl, rfl, h2, r2⟩ := trodAll_cons r1
 obtain ⟨rfl, rfl, rfl⟩ := trodAll_nil r2
 obtain rfl : args = #[v0, v1, v2] := by cases args; simp_all
 obtain ⟨rfl, rfl⟩ := trodVars_none hV
 have k0 := h0
 have lt0 : ∀ x ∈ p0, x.block < W.heap.size := by obtain ⟨m, hm⟩ := k0; exact DataW.trod_lt m _ _ _ hm
 obtain ⟨a0, len0, cap0, rfl⟩ := okWide_slice Try.underlying22 (hval 0 22 v0 rfl rfl)
 obtain ⟨x0, ⟨A0, c0, e0, l0, g0⟩, w0⟩ := Opens.open (Opens.slice Try.underlying22 (by kernel_rfl) (o51)) h0
 simp [Value.cells] at e0
 obtain ⟨rfl, rfl, rfl⟩ := e0
 have k1 := h1
 have lt1 : ∀ x ∈ p1, x.block < W.heap.size := by obtain ⟨m, hm⟩ := k1; exact DataW.trod_lt m _ _ _ hm
 obtain ⟨cs1, rfl, _⟩ := okWide_struct Try.underlying27 (hval 1 27 v1 rfl rfl)
 obtain ⟨x1, K1, w1⟩ := Opens.open o27 h1
 have e1 := k27_open K1
 obtain rfl : cs1 = #[.int .i64 x1.f0, .int .i64 x1.f1, .int .i64 x1.f2, .int .i64 x1.f3] := by apply Array.toList_inj.1; exact e1
 have k2 := h2
 have lt2 : ∀ x ∈ p2, x.block < W.heap.size := by obtain ⟨m, hm⟩ := k2; exact DataW.trod_lt m _ _ _ hm
 obtain ⟨x2, rfl⟩ := okWide_int Try.underlying3 (hval 2 3 v2 rfl rfl)
 obtain ⟨y2, e2, w2⟩ := Opens.open (o_i64 Try.underlying3) h2
 have e2' : x2 = y2 := by have := e2; simp [Value.cells, Kd.int, Kd.scalar] at this; exact this
 rw [← e2'] at w2
 clear hA0 hval0 hsz0
 obtain ⟨k, hk⟩ := Pure.PackWhole x0 x1 x2 w0 w1 w2
 refine (ensemblelaw05_PackWhole.calls k _ _ x0 (x1.f0) (x1.f1) (x1.f2) (x1.f3) x2 true W g0 l0 hk).mono fun e W' ⟨he, bel⟩ => ?_
 subst he
 exact ⟨_, rfl, _, _, _, [], _, [], hW', trodAll_mk1 (shut_bool Try.underlying4 _), (trodAll_cons_mk (Below.trod laidOut (by kernel_rfl) (of_decide_eq_true (by kernel_rfl)) k0 bel lt0) (trodAll_cons_mk (Below.trod laidOut (by kernel_rfl) (of_decide_eq_true (by kernel_rfl)) k1 bel lt1) (trodAll_cons_mk (Below.trod laidOut (by kernel_rfl) (of_decide_eq_true (by kernel_rfl)) k2 bel lt2) trodAll_mk0))), rfl, bel.frame _, fun h => by cases h⟩
set_option maxHeartbeats 8000000 in
theorem closedFacts : joinedFacts Try.checked.prog 19 Try.f19 Rows.packWholeSpec Rows.packWholeRow = true := by
 unfold joinedFacts
 repeat' (with_reducible (apply row0.and_mk))
 all_goals first | (with_reducible exact row0.mayEnter) | (rw [row0.liftsFinal]; kernel_rfl) | (rw [row0.make]; kernel_rfl) | (as_aux_lemma => kernel_rfl)
theorem over : Rows.packWholeRow.holds Try.pinned (OpenSpec.ofChange Rows.packWholeSpec) :=
 OpenClaim.holds_of_wide 19 Try.f19 rfl rfl rfl rfl rfl rfl rfl ⟨rfl, rfl, rfl, rfl, rfl⟩ rfl rfl rfl rfl rfl (by kernel_rfl) Try.func19 closedFacts
  (of_decide_eq_true (by kernel_rfl)) (by unfold Func.isWrapper; first | (rw [if_pos (by decide +kernel)]; kernel_rfl) | (rw [if_neg (by decide +kernel)]; exact ⟨rfl, rfl⟩))
  (fun os started H enc _ => lifted os started H enc)
theorem proved : Rows.PackWholeSaid := over
#print axioms proved
end Go.Proofs.Ytckhjehibjdjdaa.packWhole
namespace Go.Proofs.Ytckhjehibjdjdaa
theorem packWhole_holds : Rows.PackWholeSaid := packWhole.proved
end Go.Proofs.Ytckhjehibjdjdaa
