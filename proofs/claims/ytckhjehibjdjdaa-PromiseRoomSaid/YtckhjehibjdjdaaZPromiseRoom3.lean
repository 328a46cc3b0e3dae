/- PromiseRoom: part 3 of the walk and of the plain law that it comes to. No condition. -/
import Derived.Test.YtckhjehibjdjdaaZPromiseRoom2
import Derived.ArgAppend
import Derived.Below
import Derived.BigQuiet
import Derived.BigRegion
import Derived.Carry
import Derived.ChangeOld
import Derived.Deep.AppendLies
import Derived.Deep.CutBlock
import Derived.Deep.DeepCutAuto
import Derived.Deep.Draws
import Derived.Deep.LoopGhost
import Derived.Deep.OwnRows
import Derived.Deep.QuietTactic
import Derived.Deep.RegionHeld3
import Derived.Deep.Slices
import Derived.DeepKeys3
import Derived.KernelRfl
import Derived.Laws.Bits64
import Derived.Laws.Bits64b
import Derived.Laws.BitsLemmas
import Derived.Laws.BytesArg
import Derived.Laws.Externs
import Derived.Laws.IdiomCopy
import Derived.Laws.MakeOwn
import Derived.Laws.OwnMore
import Derived.Laws.Rows
import Derived.Laws.Slices
import Derived.Lib.AppendStr
import Derived.Lib.ConvBytes
import Derived.Lib.ReflectliteSlice
import Derived.Lib.ReflectliteSwap
import Derived.Lib.SliceRun
import Derived.LoopIn
import Derived.LoopN
import Derived.LoopNIn
import Derived.Maps.AppendAt
import Derived.Maps.Keyed
import Derived.Maps.Own
import Derived.Maps.OwnOps
import Derived.Maps.OwnSet
import Derived.Maps.Views
import Derived.OpenShut
import Derived.OrdersHeld
import Derived.Outline
import Derived.OwnWalk
import Derived.OwnWalkIn
import Derived.ProofKit
import Derived.RangeFuncBound
import Derived.RangeFuncBox
import Derived.RangeFuncCalls
import Derived.RangeFuncFrom
import Derived.RangeFuncLeaves
import Derived.RowKit
import Derived.RowKit3
import Derived.Shelf.Abstract
import Derived.Shelf.RegionOpen
import Derived.ShutString
import Derived.SizedLaws
import Derived.StillTailTactics
import Derived.Tactics
import Derived.TacticsInMore
import Derived.WalkKit
import Derived.WideLaws
namespace Go.Proofs.Ytckhjehibjdjdaa
section
open Go.RowKit Go.Proofs.YtckhjehibjdjdaaW.PrintWords Go.Proofs.YtckhjehibjdjdaaW.PrintLast Go.Proofs.YtckhjehibjdjdaaW.PrintMore
theorem tk17 {P : Program} {md : Region.Mode} {ops : Array Oper} {Q : Exit → Act → World → Prop} {S : World → Prop} {ds : List Nat} (i : Nat) (N : Option Tmp) (l' : Array Bool) {oi : Oper} {v : Value} {fuel : Nat} {l : Array Bool} {a a' : Act} {w : World} (h : wpAnyLast P md ops Q S ds fuel l' a' w)
 (hi : ops[i]? = some oi := by exact rfl) (hN : oi.dst = N := by exact rfl) (hc : takeB md ops ds l l' i = true := by exact take_ofW HT_.out HW_.out (by kernel_rfl)) (hQ : ∀ c a w, Q (.panic c) (a.put oi.dst v) w → Q (.panic c) a w := by exact fun _ _ _ h => h)
 (hy : YieldsIf P ops S oi v a := by exact Or.inl ⟨by rfl, by rintro w' ⟨s0, s1, s2, s3, s4, s5, s6, s7, s8, s9, s10, s11, s12, s13, s14, s15, s16⟩; go_simp; with_reducible rfl⟩) (hS : S w := by exact hHeld) (ha : a.put N v = a' := by simp only [Act.put, List.setIfInBounds_toArray, List.set_cons_zero, List.set_cons_succ, i64_w, i32_w]; rfl) : wpAnyLast P md ops Q S ds (fuel + 1) l a w := take_ l' hi hN hc hQ hy hS ha h
end
end Go.Proofs.Ytckhjehibjdjdaa
namespace Go.Proofs.Ytckhjehibjdjdaa.P
open Go.RowKit Go.Proofs.YtckhjehibjdjdaaW.PrintWords Go.Proofs.YtckhjehibjdjdaaW.PrintLast Go.Proofs.YtckhjehibjdjdaaW.PrintMore
attribute [local go_sem] max2_int min2_int max_two min_two max_three min_three max_four min_four
set_option linter.unusedVariables false
set_option linter.unusedSimpArgs false
def ensembleref12_Right.f (a0_0 : Int) (a0_1 : Int) (a0_2 : Int) (a0_3 : Int) (a0_4 : Int) (a0_5 : Int) : Option (Bool) := (ensembleref04_Right.f a0_2 a0_3 a0_4 a0_5).bind fun t133 => (if t133 = true then (if a0_1 ≥ 1 then (some (decide (a0_1 ≤ 16))) else (some false)) else (some false))
set_option maxHeartbeats 8000000 in
set_option maxRecDepth 100000 in
theorem ensembleref12_Right.calls (a0_0 : Int) (a0_1 : Int) (a0_2 : Int) (a0_3 : Int) (a0_4 : Int) (a0_5 : Int) (r : Bool) (w : World) (h : ensembleref12_Right.f a0_0 a0_1 a0_2 a0_3 a0_4 a0_5 = some r) :
  Calls Try.prog 33 #[.agg #[.int .i64 a0_0, .int .i64 a0_1, .int .i64 a0_2, .int .i64 a0_3, .int .i64 a0_4, .int .i64 a0_5]] w fun e w' => e = .returned (.bool r) ∧ Below w.heap.size w w' := by
 have hu29 := Try.underlying29
 have hu27 := Try.underlying27
 have HB := Aside0.mk (Below.refl w.heap.size w)
 have H : ((ensembleref04_Right.f a0_2 a0_3 a0_4 a0_5).bind fun t133 => (if t133 = true then (if a0_1 ≥ 1 then (some (decide (a0_1 ≤ 16))) else (some false)) else (some false))) = some r := h
 clear h
 replace H := Option.bind_eq_some_iff.mp H
 obtain ⟨t133, A20, H⟩ := H
 replace H : (if t133 = true then (if a0_1 ≥ 1 then (some (decide (a0_1 ≤ 16))) else (some false)) else (some false)) = some r := H
 have A2 := Aside0.mk A20
 clear A20
 by_cases c3 : t133 = true
 ·subst c3
  have H1 : (if a0_1 ≥ 1 then (some (decide (a0_1 ≤ 16))) else (some false)) = some r := by rw [if_pos rfl] at H; exact H
  clear H
  have H := H1
  clear H1
  by_cases c4 : a0_1 ≥ 1
  ·rw [if_pos c4] at H
   have c4b0 : decide (1 ≤ a0_1) = true := decide_eq_true c4
   clear c4
   obtain rfl := Option.some.inj H
   go_enter Try.func33, Try.ntmps33
   go_wp2_with (first | ((with_reducible refine gate_dst (N := 1) rfl ?_); refine bx 1 #[.int .i64 a0_0, .int .i64 a0_1, .int .i64 a0_2, .int .i64 a0_3, .int .i64 a0_4, .int .i64 a0_5] 29 ?_; intro gb132 hg w5 hbox hb; have BK132 := Aside0.mk (hbox); have GW132 := ge_ hg; have GE132 := ge_ hg; replace HB := hs_ hb; clear hb hbox hg; obtain ⟨hcz6_0, hcz6_1, hcz6_2, hcz6_3, hcz6_4, hcz6_5, hfz6_0, hfz6_1, hfz6_2, hfz6_3, hfz6_4, hfz6_5⟩ := bz6_ BK132) | ((with_reducible refine gate_callee (f := 45) rfl ?_); refine goesL_ (some 5) rfl rfl Try.func45 (by kernel_rfl) rfl #[.agg #[.int .i64 a0_2, .int .i64 a0_3, .int .i64 a0_4, .int .i64 a0_5]] rfl Z0 ?_; (with_reducible refine (ensembleref04_Right.calls a0_2 a0_3 a0_4 a0_5 true _ A2.out).mono ?_); rintro e w7 ⟨rfl, hb⟩; refine ⟨_, rfl, ?_⟩; replace BK132 := bk_ BK132 hb; replace HB := hs_ hb; (try clear hb); (try clear hb2); (try clear hk); (try clear hi); obtain ⟨hcz8_0, hcz8_1, hcz8_2, hcz8_3, hcz8_4, hcz8_5, hfz8_0, hfz8_1, hfz8_2, hfz8_3, hfz8_4, hfz8_5⟩ := bz6_ BK132))
   go_ret
   exact ⟨by first | rfl | (simp [errW_none, errW_some] <;> rfl) | (simp [*, errW_none, errW_some] <;> rfl), hb_⟩
  ·rw [if_neg c4] at H
   have c4b0 : decide (1 ≤ a0_1) = false := decide_eq_false c4
   clear c4
   obtain rfl := Option.some.inj H
   go_enter Try.func33, Try.ntmps33
   go_wp2_with (first | ((with_reducible refine gate_dst (N := 1) rfl ?_); refine bx 1 #[.int .i64 a0_0, .int .i64 a0_1, .int .i64 a0_2, .int .i64 a0_3, .int .i64 a0_4, .int .i64 a0_5] 29 ?_; intro gb132 hg w9 hbox hb; have BK132 := Aside0.mk (hbox); have GW132 := ge_ hg; have GE132 := ge_ hg; replace HB := hs_ hb; clear hb hbox hg; obtain ⟨hcz10_0, hcz10_1, hcz10_2, hcz10_3, hcz10_4, hcz10_5, hfz10_0, hfz10_1, hfz10_2, hfz10_3, hfz10_4, hfz10_5⟩ := bz6_ BK132) | ((with_reducible refine gate_callee (f := 45) rfl ?_); refine goesL_ (some 5) rfl rfl Try.func45 (by kernel_rfl) rfl #[.agg #[.int .i64 a0_2, .int .i64 a0_3, .int .i64 a0_4, .int .i64 a0_5]] rfl Z0 ?_; (with_reducible refine (ensembleref04_Right.calls a0_2 a0_3 a0_4 a0_5 true _ A2.out).mono ?_); rintro e w11 ⟨rfl, hb⟩; refine ⟨_, rfl, ?_⟩; replace BK132 := bk_ BK132 hb; replace HB := hs_ hb; (try clear hb); (try clear hb2); (try clear hk); (try clear hi); obtain ⟨hcz12_0, hcz12_1, hcz12_2, hcz12_3, hcz12_4, hcz12_5, hfz12_0, hfz12_1, hfz12_2, hfz12_3, hfz12_4, hfz12_5⟩ := bz6_ BK132))
   go_ret
   exact ⟨by first | rfl | (simp [errW_none, errW_some] <;> rfl) | (simp [*, errW_none, errW_some] <;> rfl), hb_⟩
 ·replace c3 := Bool.eq_false_iff.mpr c3
  subst c3
  have H1 : (some false) = some r := by rw [if_neg (show ¬ (false = true) by decide)] at H; exact H
  clear H
  have H := H1
  clear H1
  obtain rfl := Option.some.inj H
  go_enter Try.func33, Try.ntmps33
  go_wp2_with (first | ((with_reducible refine gate_dst (N := 1) rfl ?_); refine bx 1 #[.int .i64 a0_0, .int .i64 a0_1, .int .i64 a0_2, .int .i64 a0_3, .int .i64 a0_4, .int .i64 a0_5] 29 ?_; intro gb132 hg w13 hbox hb; have BK132 := Aside0.mk (hbox); have GW132 := ge_ hg; have GE132 := ge_ hg; replace HB := hs_ hb; clear hb hbox hg; obtain ⟨hcz14_0, hcz14_1, hcz14_2, hcz14_3, hcz14_4, hcz14_5, hfz14_0, hfz14_1, hfz14_2, hfz14_3, hfz14_4, hfz14_5⟩ := bz6_ BK132) | ((with_reducible refine gate_callee (f := 45) rfl ?_); refine goesL_ (some 5) rfl rfl Try.func45 (by kernel_rfl) rfl #[.agg #[.int .i64 a0_2, .int .i64 a0_3, .int .i64 a0_4, .int .i64 a0_5]] rfl Z0 ?_; (with_reducible refine (ensembleref04_Right.calls a0_2 a0_3 a0_4 a0_5 false _ A2.out).mono ?_); rintro e w15 ⟨rfl, hb⟩; refine ⟨_, rfl, ?_⟩; replace BK132 := bk_ BK132 hb; replace HB := hs_ hb; (try clear hb); (try clear hb2); (try clear hk); (try clear hi)))
  go_ret
  exact ⟨by first | rfl | (simp [errW_none, errW_some] <;> rfl) | (simp [*, errW_none, errW_some] <;> rfl), hb_⟩
end Go.Proofs.Ytckhjehibjdjdaa.P
namespace Go.Proofs.Ytckhjehibjdjdaa.P
open Go.RowKit Go.Proofs.YtckhjehibjdjdaaW.PrintWords Go.Proofs.YtckhjehibjdjdaaW.PrintLast Go.Proofs.YtckhjehibjdjdaaW.PrintMore
attribute [local go_sem] max2_int min2_int max_two min_two max_three min_three max_four min_four
set_option linter.unusedVariables false
set_option linter.unusedSimpArgs false
mutual
def ensemblelaw12_PromiseRoom.j0 : Nat → Int → List (S51) → Int → Bool → Int → Int → Int → Int → Int → Int → Int → Int → Option (Bool)
 | 0, _, _, _, _, _, _, _, _, _, _, _, _ => none
 | k + 1, x0, x1, x3, x42, x303000, x303001, x303002, x303003, x303004, x303005, x305000, x305001 => if x42 = true then (some true) else ((promise_Earliest.f x0 x1 x305000 x305001 ([] : List (S41)) x303000 x303001 x303002 x303003 x303004 x303005).bind fun bt306 => ((ensembleref12_Right.f x303000 x303001 x303002 x303003 x303004 x303005).bind fun t308 => (if t308 = true then ((ensembleref05_Room.f k x1 x303002 x303003 x303004 x303005).bind fun t309 => (if bt306.2 = 0 then (if ((bt306.1 == x0) != (decide (t309 ≥ x303001))) = true then (ensemblelaw12_PromiseRoom.j1 k x0 x1 x3 (decide (t309 ≥ x303001)) true x303000 x303001 x303002 x303003 x303004 x303005 x305000 x305001) else (if bt306.1 = x0 then (ensemblelaw12_PromiseRoom.j1 k x0 x1 x3 (decide (t309 ≥ x303001)) false x303000 x303001 x303002 x303003 x303004 x303005 x305000 x305001) else (ensemblelaw12_PromiseRoom.j1 k x0 x1 x3 (decide (t309 ≥ x303001)) (bt306.1 != 1073741825) x303000 x303001 x303002 x303003 x303004 x303005 x305000 x305001))) else (ensemblelaw12_PromiseRoom.j1 k x0 x1 x3 (decide (t309 ≥ x303001)) true x303000 x303001 x303002 x303003 x303004 x303005 x305000 x305001))) else (some (bt306.2 == 1)))))
def ensemblelaw12_PromiseRoom.j1 : Nat → Int → List (S51) → Int → Bool → Bool → Int → Int → Int → Int → Int → Int → Int → Int → Option (Bool)
 | 0, _, _, _, _, _, _, _, _, _, _, _, _, _ => none
 | k + 1, x0, x1, x3, x12, x80, x303000, x303001, x303002, x303003, x303004, x303005, x305000, x305001 => if x80 = true then (some false) else (ensemblelaw12_PromiseRoom.l0 k x0 x1 x3 x12 ([] : List (S51)) 0 x303000 x303001 x303002 x303003 x303004 x303005 x305000 x305001 0 (wrap64 (x303000 + 1)) x3 false ([] : List (S52)))
def ensemblelaw12_PromiseRoom.l0 : Nat → Int → List (S51) → Int → Bool → List (S51) → Int → Int → Int → Int → Int → Int → Int → Int → Int → Int → Int → Int → Bool → List (S52) → Option (Bool)
 | 0, _, _, _, _, _, _, _, _, _, _, _, _, _, _, _, _, _, _, _ => none
 | k + 1, x0, x1, x3, x12, x13, x15, x303000, x303001, x303002, x303003, x303004, x303005, x305000, x305001, x311000, x311001, x311002, x311003, x311004 => if x15 < (x1.length : Int) then (if 0 ≤ x15 then (if x13.length < 4398046511104 then (if x311004.length < 4398046511104 then (ensemblelaw12_PromiseRoom.l0 k x0 x1 x3 x12 (x13 ++ [(⟨(⟨(rd_T51 x1 x15).f0.f0, (rd_T51 x1 x15).f0.f1⟩ : S48), 0, 0⟩ : S51)]) (wrap64 (x15 + 1)) x303000 x303001 x303002 x303003 x303004 x303005 x305000 x305001 x311000 x311001 x311002 x311003 (x311004 ++ [(⟨(⟨(rd_T51 x1 x15).f0.f0, (rd_T51 x1 x15).f0.f1⟩ : S48), (rd_T51 x1 x15).f1, (rd_T51 x1 x15).f2⟩ : S52)])) else (none)) else (none)) else (none)) else ((promise_Earliest.f x0 x13 x305000 x305001 (([(⟨x311000, x311001, x311002, x311003, x311004⟩ : S41)] : List (S41))) x303000 x303001 x303002 x303003 x303004 x303005).bind fun bt324 => (if x12 = true then (if bt324.2 = 0 then (some (bt324.1 == x3)) else (some false)) else (if bt324.2 = 0 then (some (bt324.1 == 1073741825)) else (some false))))
end
def ensemblelaw12_PromiseRoom.f (k : Nat) (a0 : Int) (l1 : List (S51)) (a2_0 : Int) (a2_1 : Int) (a2_2 : Int) (a2_3 : Int) (a2_4 : Int) (a2_5 : Int) (a3 : Int) : Option (Bool) := (ensemblelaw12_awake.f).bind fun t303 => (if t303 = true then ((ensembleref12_Few.f k l1 1048576 1048576 ([] : List (S41))).bind fun t305 => (if t305 = true then (if a0 < 0 then (ensemblelaw12_PromiseRoom.j0 k a0 l1 a3 true a2_0 a2_1 a2_2 a2_3 a2_4 a2_5 1048576 1048576) else (if a0 > 1000000 then (ensemblelaw12_PromiseRoom.j0 k a0 l1 a3 true a2_0 a2_1 a2_2 a2_3 a2_4 a2_5 1048576 1048576) else (if a3 ≤ a0 then (ensemblelaw12_PromiseRoom.j0 k a0 l1 a3 true a2_0 a2_1 a2_2 a2_3 a2_4 a2_5 1048576 1048576) else (ensemblelaw12_PromiseRoom.j0 k a0 l1 a3 (decide (a3 > 1073741824)) a2_0 a2_1 a2_2 a2_3 a2_4 a2_5 1048576 1048576)))) else (ensemblelaw12_PromiseRoom.j0 k a0 l1 a3 true a2_0 a2_1 a2_2 a2_3 a2_4 a2_5 1048576 1048576))) else (some false))
def ensemblelaw12_PromiseRoom.T9 : Bool × List (List Nat × List Nat) := (true, [([], []), ([], []), ([1], [1]), ([0, 2], [0, 2]), ([], []), ([4], [4]), ([3, 5], [3, 5]), ([6, 3, 0, 1, 2, 3, 4, 5, 6], [6])])
def ensemblelaw12_PromiseRoom.B9 : List Nat := [0, 0, 2, 7, 0, 16, 63, 127]
theorem ensemblelaw12_PromiseRoom.tab9 : rtab .any (opsOf Try.f7 9) = ensemblelaw12_PromiseRoom.T9 := by kernel_rfl
theorem ensemblelaw12_PromiseRoom.bits9 : waitsOk ensemblelaw12_PromiseRoom.T9.2 ensemblelaw12_PromiseRoom.B9 = true := by kernel_rfl
def ensemblelaw12_PromiseRoom.T18 : Bool × List (List Nat × List Nat) := (true, [([], []), ([0], [0]), ([], []), ([], []), ([2, 3], [2, 3]), ([4], [4]), ([5], [5]), ([], []), ([], []), ([7, 8], [7, 8]), ([9], [9]), ([10], [10]), ([], []), ([], []), ([12, 13], [12, 13]), ([14], [14]), ([15], [15]), ([6, 11, 16], [6, 11, 16]), ([17], [17]), ([1, 18], [1, 18]), ([0, 1, 2, 3, 4, 5, 6, 7, 8, 9, 10, 11, 12, 13, 14, 15, 16, 17, 18, 19], []), ([20, 19, 19, 0, 1, 2, 3, 4, 5, 6, 7, 8, 9, 10, 11, 12, 13, 14, 15, 16, 17, 18, 19], [19, 20])])
def ensemblelaw12_PromiseRoom.B18 : List Nat := [0, 1, 0, 0, 12, 28, 60, 0, 0, 384, 896, 1920, 0, 0, 12288, 28672, 61440, 131068, 262140, 524287, 1048575, 2097151]
theorem ensemblelaw12_PromiseRoom.tab18 : rtab .any (opsOf Try.f7 18) = ensemblelaw12_PromiseRoom.T18 := by kernel_rfl
theorem ensemblelaw12_PromiseRoom.bits18 : waitsOk ensemblelaw12_PromiseRoom.T18.2 ensemblelaw12_PromiseRoom.B18 = true := by kernel_rfl
set_option maxHeartbeats 8000000 in
set_option maxRecDepth 100000 in
theorem ensemblelaw12_PromiseRoom.calls (k : Nat) (a0 : Int) (A1 : Option Addr) (c1 : Nat) (l1 : List (S51)) (a2_0 : Int) (a2_1 : Int) (a2_2 : Int) (a2_3 : Int) (a2_4 : Int) (a2_5 : Int) (a3 : Int) (r : Bool) (w : World) (hr1 : Kd.C k51 w A1 l1.length l1) (hc1 : l1.length ≤ c1) (h : ensemblelaw12_PromiseRoom.f k a0 l1 a2_0 a2_1 a2_2 a2_3 a2_4 a2_5 a3 = some r) (hr_ : r = true := by rfl) :
  Calls Try.prog 7 #[.int .i64 a0, .slice A1 l1.length c1, .agg #[.int .i64 a2_0, .int .i64 a2_1, .int .i64 a2_2, .int .i64 a2_3, .int .i64 a2_4, .int .i64 a2_5], .int .i64 a3] w fun e w' => e = .returned (.bool r) ∧ Below w.heap.size w w' := by
 have hu29 := Try.underlying29
 have hu24 := Try.underlying24
 have hu27 := Try.underlying27
 have hu41 := Try.underlying41
 have hu48 := Try.underlying48
 have hu51 := Try.underlying51
 have hu52 := Try.underlying52
 have HR1 := Aside0.mk hr1
 have HC1 := Aside0.mk hc1
 clear hr1 hc1
 have HB := Aside0.mk (Below.refl w.heap.size w)
 have H : ((ensemblelaw12_awake.f).bind fun t303 => (if t303 = true then ((ensembleref12_Few.f k l1 1048576 1048576 ([] : List (S41))).bind fun t305 => (if t305 = true then (if a0 < 0 then (ensemblelaw12_PromiseRoom.j0 k a0 l1 a3 true a2_0 a2_1 a2_2 a2_3 a2_4 a2_5 1048576 1048576) else (if a0 > 1000000 then (ensemblelaw12_PromiseRoom.j0 k a0 l1 a3 true a2_0 a2_1 a2_2 a2_3 a2_4 a2_5 1048576 1048576) else (if a3 ≤ a0 then (ensemblelaw12_PromiseRoom.j0 k a0 l1 a3 true a2_0 a2_1 a2_2 a2_3 a2_4 a2_5 1048576 1048576) else (ensemblelaw12_PromiseRoom.j0 k a0 l1 a3 (decide (a3 > 1073741824)) a2_0 a2_1 a2_2 a2_3 a2_4 a2_5 1048576 1048576)))) else (ensemblelaw12_PromiseRoom.j0 k a0 l1 a3 true a2_0 a2_1 a2_2 a2_3 a2_4 a2_5 1048576 1048576))) else (some false))) = some r := h
 clear h
 replace H := Option.bind_eq_some_iff.mp H
 obtain ⟨t303, A50, H⟩ := H
 replace H : (if t303 = true then ((ensembleref12_Few.f k l1 1048576 1048576 ([] : List (S41))).bind fun t305 => (if t305 = true then (if a0 < 0 then (ensemblelaw12_PromiseRoom.j0 k a0 l1 a3 true a2_0 a2_1 a2_2 a2_3 a2_4 a2_5 1048576 1048576) else (if a0 > 1000000 then (ensemblelaw12_PromiseRoom.j0 k a0 l1 a3 true a2_0 a2_1 a2_2 a2_3 a2_4 a2_5 1048576 1048576) else (if a3 ≤ a0 then (ensemblelaw12_PromiseRoom.j0 k a0 l1 a3 true a2_0 a2_1 a2_2 a2_3 a2_4 a2_5 1048576 1048576) else (ensemblelaw12_PromiseRoom.j0 k a0 l1 a3 (decide (a3 > 1073741824)) a2_0 a2_1 a2_2 a2_3 a2_4 a2_5 1048576 1048576)))) else (ensemblelaw12_PromiseRoom.j0 k a0 l1 a3 true a2_0 a2_1 a2_2 a2_3 a2_4 a2_5 1048576 1048576))) else (some false)) = some r := H
 have A5 := Aside0.mk A50
 clear A50
 by_cases c6 : t303 = true
 ·subst c6
  have H1 : ((ensembleref12_Few.f k l1 1048576 1048576 ([] : List (S41))).bind fun t305 => (if t305 = true then (if a0 < 0 then (ensemblelaw12_PromiseRoom.j0 k a0 l1 a3 true a2_0 a2_1 a2_2 a2_3 a2_4 a2_5 1048576 1048576) else (if a0 > 1000000 then (ensemblelaw12_PromiseRoom.j0 k a0 l1 a3 true a2_0 a2_1 a2_2 a2_3 a2_4 a2_5 1048576 1048576) else (if a3 ≤ a0 then (ensemblelaw12_PromiseRoom.j0 k a0 l1 a3 true a2_0 a2_1 a2_2 a2_3 a2_4 a2_5 1048576 1048576) else (ensemblelaw12_PromiseRoom.j0 k a0 l1 a3 (decide (a3 > 1073741824)) a2_0 a2_1 a2_2 a2_3 a2_4 a2_5 1048576 1048576)))) else (ensemblelaw12_PromiseRoom.j0 k a0 l1 a3 true a2_0 a2_1 a2_2 a2_3 a2_4 a2_5 1048576 1048576))) = some r := by rw [if_pos rfl] at H; exact H
  clear H
  have H := H1
  clear H1
  have HC7 := Aside0.mk H
  clear H
  go_enter Try.func7, Try.ntmps7
  go_upto_region 4 with (first | ((with_reducible refine gate_dst (N := 6) rfl ?_); refine bx 6 #[.int .i64 a2_0, .int .i64 a2_1, .int .i64 a2_2, .int .i64 a2_3, .int .i64 a2_4, .int .i64 a2_5] 29 ?_; intro gb302 hg w8 hbox hb; have BK302 := Aside0.mk (hbox); have GW302 := ge_ hg; have GE302 := ge_ hg; replace HB := hs_ hb; clear hb hbox hg) | ((with_reducible refine gate_callee (f := 25) rfl ?_); refine goesL_ (some 19) rfl rfl Try.func25 (by kernel_rfl) rfl #[] rfl Z0 ?_; (with_reducible refine (ensemblelaw12_awake.calls  true _ A5.out).mono ?_); rintro e w9 ⟨rfl, hb⟩; refine ⟨_, rfl, ?_⟩; replace BK302 := bk_ BK302 hb; replace HB := hs_ hb; (try clear hb); (try clear hb2); (try clear hk); (try clear hi)) | ((with_reducible refine gate_dst (N := 9) rfl ?_); refine bx 9 #[.int .i64 0, .int .i64 0] 24 ?_; intro gb304 hg w10 hbox hb; have BK304 := Aside0.mk (hbox); have GW304 := ge_ hg; have GE304 := ge_ hg; have NB302_304 := nl_ BK302 hg; have NB304_302 := nr_ BK302 hg; replace BK302 := bk_ BK302 hb; replace HB := hs_ hb; clear hb hbox hg; have hnb11 := NB304_302.out; have hnc11 := NB302_304.out; obtain ⟨hcz12_0, hcz12_1, hfz12_0, hfz12_1⟩ := bz2_ BK304))
  (try simp only [Act.put, List.setIfInBounds_toArray, List.set_cons_zero, List.set_cons_succ])
  go_cut [42] (fun v42 wc => ∃ (kq : Nat) (x42_6 : Bool), v42 = .bool x42_6 ∧ Aside0 (ensemblelaw12_PromiseRoom.j0 kq a0 l1 a3 x42_6 a2_0 a2_1 a2_2 a2_3 a2_4 a2_5 1048576 1048576 = some r) ∧ Aside0 (kq ≤ k) ∧ Aside0 (wc.heap[gb302]? = some (.cells #[.int .i64 a2_0, .int .i64 a2_1, .int .i64 a2_2, .int .i64 a2_3, .int .i64 a2_4, .int .i64 a2_5] 29 (0, 0))) ∧ Aside0 (wc.heap[gb304]? = some (.cells #[.int .i64 1048576, .int .i64 1048576] 24 (0, 0))) ∧ Aside0 (Below w.heap.size w wc))
  case first =>
   have H := HC7.out
   clear HC7
   replace H := Option.bind_eq_some_iff.mp H
   obtain ⟨t305, A130, H⟩ := H
   replace H : (if t305 = true then (if a0 < 0 then (ensemblelaw12_PromiseRoom.j0 k a0 l1 a3 true a2_0 a2_1 a2_2 a2_3 a2_4 a2_5 1048576 1048576) else (if a0 > 1000000 then (ensemblelaw12_PromiseRoom.j0 k a0 l1 a3 true a2_0 a2_1 a2_2 a2_3 a2_4 a2_5 1048576 1048576) else (if a3 ≤ a0 then (ensemblelaw12_PromiseRoom.j0 k a0 l1 a3 true a2_0 a2_1 a2_2 a2_3 a2_4 a2_5 1048576 1048576) else (ensemblelaw12_PromiseRoom.j0 k a0 l1 a3 (decide (a3 > 1073741824)) a2_0 a2_1 a2_2 a2_3 a2_4 a2_5 1048576 1048576)))) else (ensemblelaw12_PromiseRoom.j0 k a0 l1 a3 true a2_0 a2_1 a2_2 a2_3 a2_4 a2_5 1048576 1048576)) = some r := H
   have A13 := Aside0.mk A130
   clear A130
   by_cases c14 : t305 = true
   ·subst c14
    have H1 : (if a0 < 0 then (ensemblelaw12_PromiseRoom.j0 k a0 l1 a3 true a2_0 a2_1 a2_2 a2_3 a2_4 a2_5 1048576 1048576) else (if a0 > 1000000 then (ensemblelaw12_PromiseRoom.j0 k a0 l1 a3 true a2_0 a2_1 a2_2 a2_3 a2_4 a2_5 1048576 1048576) else (if a3 ≤ a0 then (ensemblelaw12_PromiseRoom.j0 k a0 l1 a3 true a2_0 a2_1 a2_2 a2_3 a2_4 a2_5 1048576 1048576) else (ensemblelaw12_PromiseRoom.j0 k a0 l1 a3 (decide (a3 > 1073741824)) a2_0 a2_1 a2_2 a2_3 a2_4 a2_5 1048576 1048576)))) = some r := by rw [if_pos rfl] at H; exact H
    clear H
    have H := H1
    clear H1
    by_cases c15 : a0 < 0
    ·rw [if_pos c15] at H
     have c15b0 : decide (a0 < 0) = true := decide_eq_true c15
     clear c15
     (first | rw [c15b0] | (simp only [i64_w, i32_w]; rw [c15b0]) | skip)
     have H' := Aside0.mk H
     clear H
     have hnb16 := NB304_302.out
     have hnc16 := NB302_304.out
     obtain ⟨hcz17_0, hcz17_1, hfz17_0, hfz17_1⟩ := bz2_ BK304
     go_wp2_with (first | ((with_reducible refine gate_callee (f := 26) rfl ?_); refine goesL_ (some 24) rfl rfl Try.func26 (by kernel_rfl) rfl #[.slice A1 l1.length c1, .agg #[.int .i64 1048576, .int .i64 1048576], .slice none 0 0] rfl Z0 ?_; (refine (ensembleref12_Few.calls k _ _ l1 1048576 1048576 _ _ ([] : List (S41)) true _ ?side1 ?side2 ?side3 ?side4 A13.out).mono ?_); (case side1 => exact Kd.C_below HR1.out hb_); (case side2 => exact HC1.out); (case side3 => exact Kd.C_nil _ _); (case side4 => exact Nat.le_refl _); rintro e w18 ⟨rfl, hb⟩; refine ⟨_, rfl, ?_⟩; replace BK302 := Aside0.mk (blk_below (g := gb302) (o := .cells #[.int .i64 a2_0, .int .i64 a2_1, .int .i64 a2_2, .int .i64 a2_3, .int .i64 a2_4, .int .i64 a2_5] 29 (0, 0)) (by (with_reducible repeat (first | refine blk_drewN ?_ _ | refine blk_drew ?_ | refine blk_alloc ?_ _)); refine blk_far ?_ NB302_304.out _; (with_reducible repeat (first | refine blk_drewN ?_ _ | refine blk_drew ?_ | refine blk_alloc ?_ _)); refine blk_far ?_ NB302_304.out _; (with_reducible repeat (first | refine blk_drewN ?_ _ | refine blk_drew ?_ | refine blk_alloc ?_ _)); exact BK302.out) hb); replace BK304 := Aside0.mk (blk_below (g := gb304) (o := .cells #[.int .i64 1048576, .int .i64 1048576] 24 (0, 0)) (by (with_reducible repeat (first | refine blk_drewN ?_ _ | refine blk_drew ?_ | refine blk_alloc ?_ _)); refine blk_put (cs := #[.int .i64 1048576, .int .i64 0]) ?_ 1 _ rfl; (with_reducible repeat (first | refine blk_drewN ?_ _ | refine blk_drew ?_ | refine blk_alloc ?_ _)); refine blk_put (cs := #[.int .i64 0, .int .i64 0]) ?_ 0 _ rfl; (with_reducible repeat (first | refine blk_drewN ?_ _ | refine blk_drew ?_ | refine blk_alloc ?_ _)); exact BK304.out) hb); replace HB := hs_ hb; (try clear hb); (try clear hb2); (try clear hk); (try clear hi)))
     go_meet
     case rel => exact ⟨_, (true), Z1, H', ⟨by first | omega | exact Nat.le_refl _⟩, ⟨bo_ BK302⟩, ⟨bo_ BK304⟩, ⟨hb_⟩⟩
    ·rw [if_neg c15] at H
     have c15b0 : decide (a0 < 0) = false := decide_eq_false c15
     clear c15
     (first | rw [c15b0] | (simp only [i64_w, i32_w]; rw [c15b0]) | skip)
     by_cases c19 : a0 > 1000000
     ·rw [if_pos c19] at H
      have c19b0 : decide (1000000 < a0) = true := decide_eq_true c19
      clear c19
      have H' := Aside0.mk H
      clear H
      have hnb20 := NB304_302.out
      have hnc20 := NB302_304.out
      obtain ⟨hcz21_0, hcz21_1, hfz21_0, hfz21_1⟩ := bz2_ BK304
      go_wp2_with (first | ((with_reducible refine gate_callee (f := 26) rfl ?_); refine goesL_ (some 24) rfl rfl Try.func26 (by kernel_rfl) rfl #[.slice A1 l1.length c1, .agg #[.int .i64 1048576, .int .i64 1048576], .slice none 0 0] rfl Z0 ?_; (refine (ensembleref12_Few.calls k _ _ l1 1048576 1048576 _ _ ([] : List (S41)) true _ ?side1 ?side2 ?side3 ?side4 A13.out).mono ?_); (case side1 => exact Kd.C_below HR1.out hb_); (case side2 => exact HC1.out); (case side3 => exact Kd.C_nil _ _); (case side4 => exact Nat.le_refl _); rintro e w22 ⟨rfl, hb⟩; refine ⟨_, rfl, ?_⟩; replace BK302 := Aside0.mk (blk_below (g := gb302) (o := .cells #[.int .i64 a2_0, .int .i64 a2_1, .int .i64 a2_2, .int .i64 a2_3, .int .i64 a2_4, .int .i64 a2_5] 29 (0, 0)) (by (with_reducible repeat (first | refine blk_drewN ?_ _ | refine blk_drew ?_ | refine blk_alloc ?_ _)); refine blk_far ?_ NB302_304.out _; (with_reducible repeat (first | refine blk_drewN ?_ _ | refine blk_drew ?_ | refine blk_alloc ?_ _)); refine blk_far ?_ NB302_304.out _; (with_reducible repeat (first | refine blk_drewN ?_ _ | refine blk_drew ?_ | refine blk_alloc ?_ _)); exact BK302.out) hb); replace BK304 := Aside0.mk (blk_below (g := gb304) (o := .cells #[.int .i64 1048576, .int .i64 1048576] 24 (0, 0)) (by (with_reducible repeat (first | refine blk_drewN ?_ _ | refine blk_drew ?_ | refine blk_alloc ?_ _)); refine blk_put (cs := #[.int .i64 1048576, .int .i64 0]) ?_ 1 _ rfl; (with_reducible repeat (first | refine blk_drewN ?_ _ | refine blk_drew ?_ | refine blk_alloc ?_ _)); refine blk_put (cs := #[.int .i64 0, .int .i64 0]) ?_ 0 _ rfl; (with_reducible repeat (first | refine blk_drewN ?_ _ | refine blk_drew ?_ | refine blk_alloc ?_ _)); exact BK304.out) hb); replace HB := hs_ hb; (try clear hb); (try clear hb2); (try clear hk); (try clear hi)))
      go_meet
      case rel => exact ⟨_, (true), Z1, H', ⟨by first | omega | exact Nat.le_refl _⟩, ⟨bo_ BK302⟩, ⟨bo_ BK304⟩, ⟨hb_⟩⟩
     ·rw [if_neg c19] at H
      have c19b0 : decide (1000000 < a0) = false := decide_eq_false c19
      clear c19
      by_cases c23 : a3 ≤ a0
      ·rw [if_pos c23] at H
       have c23b0 : decide (a3 ≤ a0) = true := decide_eq_true c23
       clear c23
       have H' := Aside0.mk H
       clear H
       have hnb24 := NB304_302.out
       have hnc24 := NB302_304.out
       obtain ⟨hcz25_0, hcz25_1, hfz25_0, hfz25_1⟩ := bz2_ BK304
       go_wp2_with (first | ((with_reducible refine gate_callee (f := 26) rfl ?_); refine goesL_ (some 24) rfl rfl Try.func26 (by kernel_rfl) rfl #[.slice A1 l1.length c1, .agg #[.int .i64 1048576, .int .i64 1048576], .slice none 0 0] rfl Z0 ?_; (refine (ensembleref12_Few.calls k _ _ l1 1048576 1048576 _ _ ([] : List (S41)) true _ ?side1 ?side2 ?side3 ?side4 A13.out).mono ?_); (case side1 => exact Kd.C_below HR1.out hb_); (case side2 => exact HC1.out); (case side3 => exact Kd.C_nil _ _); (case side4 => exact Nat.le_refl _); rintro e w26 ⟨rfl, hb⟩; refine ⟨_, rfl, ?_⟩; replace BK302 := Aside0.mk (blk_below (g := gb302) (o := .cells #[.int .i64 a2_0, .int .i64 a2_1, .int .i64 a2_2, .int .i64 a2_3, .int .i64 a2_4, .int .i64 a2_5] 29 (0, 0)) (by (with_reducible repeat (first | refine blk_drewN ?_ _ | refine blk_drew ?_ | refine blk_alloc ?_ _)); refine blk_far ?_ NB302_304.out _; (with_reducible repeat (first | refine blk_drewN ?_ _ | refine blk_drew ?_ | refine blk_alloc ?_ _)); refine blk_far ?_ NB302_304.out _; (with_reducible repeat (first | refine blk_drewN ?_ _ | refine blk_drew ?_ | refine blk_alloc ?_ _)); exact BK302.out) hb); replace BK304 := Aside0.mk (blk_below (g := gb304) (o := .cells #[.int .i64 1048576, .int .i64 1048576] 24 (0, 0)) (by (with_reducible repeat (first | refine blk_drewN ?_ _ | refine blk_drew ?_ | refine blk_alloc ?_ _)); refine blk_put (cs := #[.int .i64 1048576, .int .i64 0]) ?_ 1 _ rfl; (with_reducible repeat (first | refine blk_drewN ?_ _ | refine blk_drew ?_ | refine blk_alloc ?_ _)); refine blk_put (cs := #[.int .i64 0, .int .i64 0]) ?_ 0 _ rfl; (with_reducible repeat (first | refine blk_drewN ?_ _ | refine blk_drew ?_ | refine blk_alloc ?_ _)); exact BK304.out) hb); replace HB := hs_ hb; (try clear hb); (try clear hb2); (try clear hk); (try clear hi)))
       go_meet
       case rel => exact ⟨_, (true), Z1, H', ⟨by first | omega | exact Nat.le_refl _⟩, ⟨bo_ BK302⟩, ⟨bo_ BK304⟩, ⟨hb_⟩⟩
      ·rw [if_neg c23] at H
       have c23b0 : decide (a3 ≤ a0) = false := decide_eq_false c23
       clear c23
       have H' := Aside0.mk H
       clear H
       have hnb27 := NB304_302.out
       have hnc27 := NB302_304.out
       obtain ⟨hcz28_0, hcz28_1, hfz28_0, hfz28_1⟩ := bz2_ BK304
       go_wp2_with (first | ((with_reducible refine gate_callee (f := 26) rfl ?_); refine goesL_ (some 24) rfl rfl Try.func26 (by kernel_rfl) rfl #[.slice A1 l1.length c1, .agg #[.int .i64 1048576, .int .i64 1048576], .slice none 0 0] rfl Z0 ?_; (refine (ensembleref12_Few.calls k _ _ l1 1048576 1048576 _ _ ([] : List (S41)) true _ ?side1 ?side2 ?side3 ?side4 A13.out).mono ?_); (case side1 => exact Kd.C_below HR1.out hb_); (case side2 => exact HC1.out); (case side3 => exact Kd.C_nil _ _); (case side4 => exact Nat.le_refl _); rintro e w29 ⟨rfl, hb⟩; refine ⟨_, rfl, ?_⟩; replace BK302 := Aside0.mk (blk_below (g := gb302) (o := .cells #[.int .i64 a2_0, .int .i64 a2_1, .int .i64 a2_2, .int .i64 a2_3, .int .i64 a2_4, .int .i64 a2_5] 29 (0, 0)) (by (with_reducible repeat (first | refine blk_drewN ?_ _ | refine blk_drew ?_ | refine blk_alloc ?_ _)); refine blk_far ?_ NB302_304.out _; (with_reducible repeat (first | refine blk_drewN ?_ _ | refine blk_drew ?_ | refine blk_alloc ?_ _)); refine blk_far ?_ NB302_304.out _; (with_reducible repeat (first | refine blk_drewN ?_ _ | refine blk_drew ?_ | refine blk_alloc ?_ _)); exact BK302.out) hb); replace BK304 := Aside0.mk (blk_below (g := gb304) (o := .cells #[.int .i64 1048576, .int .i64 1048576] 24 (0, 0)) (by (with_reducible repeat (first | refine blk_drewN ?_ _ | refine blk_drew ?_ | refine blk_alloc ?_ _)); refine blk_put (cs := #[.int .i64 1048576, .int .i64 0]) ?_ 1 _ rfl; (with_reducible repeat (first | refine blk_drewN ?_ _ | refine blk_drew ?_ | refine blk_alloc ?_ _)); refine blk_put (cs := #[.int .i64 0, .int .i64 0]) ?_ 0 _ rfl; (with_reducible repeat (first | refine blk_drewN ?_ _ | refine blk_drew ?_ | refine blk_alloc ?_ _)); exact BK304.out) hb); replace HB := hs_ hb; (try clear hb); (try clear hb2); (try clear hk); (try clear hi)))
       go_meet
       case rel => exact ⟨_, (decide (a3 > 1073741824)), Z1, H', ⟨by first | omega | exact Nat.le_refl _⟩, ⟨bo_ BK302⟩, ⟨bo_ BK304⟩, ⟨hb_⟩⟩
   ·replace c14 := Bool.eq_false_iff.mpr c14
    subst c14
    have H1 : (ensemblelaw12_PromiseRoom.j0 k a0 l1 a3 true a2_0 a2_1 a2_2 a2_3 a2_4 a2_5 1048576 1048576) = some r := by rw [if_neg (show ¬ (false = true) by decide)] at H; exact H
    clear H
    have H := H1
    clear H1
    have H' := Aside0.mk H
    clear H
    have hnb30 := NB304_302.out
    have hnc30 := NB302_304.out
    obtain ⟨hcz31_0, hcz31_1, hfz31_0, hfz31_1⟩ := bz2_ BK304
    go_wp2_with (first | ((with_reducible refine gate_callee (f := 26) rfl ?_); refine goesL_ (some 24) rfl rfl Try.func26 (by kernel_rfl) rfl #[.slice A1 l1.length c1, .agg #[.int .i64 1048576, .int .i64 1048576], .slice none 0 0] rfl Z0 ?_; (refine (ensembleref12_Few.calls k _ _ l1 1048576 1048576 _ _ ([] : List (S41)) false _ ?side1 ?side2 ?side3 ?side4 A13.out).mono ?_); (case side1 => exact Kd.C_below HR1.out hb_); (case side2 => exact HC1.out); (case side3 => exact Kd.C_nil _ _); (case side4 => exact Nat.le_refl _); rintro e w32 ⟨rfl, hb⟩; refine ⟨_, rfl, ?_⟩; replace BK302 := Aside0.mk (blk_below (g := gb302) (o := .cells #[.int .i64 a2_0, .int .i64 a2_1, .int .i64 a2_2, .int .i64 a2_3, .int .i64 a2_4, .int .i64 a2_5] 29 (0, 0)) (by (with_reducible repeat (first | refine blk_drewN ?_ _ | refine blk_drew ?_ | refine blk_alloc ?_ _)); refine blk_far ?_ NB302_304.out _; (with_reducible repeat (first | refine blk_drewN ?_ _ | refine blk_drew ?_ | refine blk_alloc ?_ _)); refine blk_far ?_ NB302_304.out _; (with_reducible repeat (first | refine blk_drewN ?_ _ | refine blk_drew ?_ | refine blk_alloc ?_ _)); exact BK302.out) hb); replace BK304 := Aside0.mk (blk_below (g := gb304) (o := .cells #[.int .i64 1048576, .int .i64 1048576] 24 (0, 0)) (by (with_reducible repeat (first | refine blk_drewN ?_ _ | refine blk_drew ?_ | refine blk_alloc ?_ _)); refine blk_put (cs := #[.int .i64 1048576, .int .i64 0]) ?_ 1 _ rfl; (with_reducible repeat (first | refine blk_drewN ?_ _ | refine blk_drew ?_ | refine blk_alloc ?_ _)); refine blk_put (cs := #[.int .i64 0, .int .i64 0]) ?_ 0 _ rfl; (with_reducible repeat (first | refine blk_drewN ?_ _ | refine blk_drew ?_ | refine blk_alloc ?_ _)); exact BK304.out) hb); replace HB := hs_ hb; (try clear hb); (try clear hb2); (try clear hk); (try clear hi)))
    go_meet
    case rel => exact ⟨_, (true), Z1, H', ⟨by first | omega | exact Nat.le_refl _⟩, ⟨bo_ BK302⟩, ⟨bo_ BK304⟩, ⟨hb_⟩⟩
  case rest =>
   clear HC7
   try clear c1
   try clear c2
   try clear p2
   try clear c3
   try clear c6
   try clear c7
   try clear c11
   try clear c14
   try clear c15
   try clear c15b0
   try clear c16
   try clear c19
   try clear c19b0
   try clear c20
   try clear c23
   try clear c23b0
   try clear c24
   try clear c25
   try clear c26
   try clear c27
   try clear c30
   try clear hcz12_0
   try clear hcz12_1
   try clear hcz17_0
   try clear hcz17_1
   try clear hcz21_0
   try clear hcz21_1
   try clear hcz25_0
   try clear hcz25_1
   try clear hcz28_0
   try clear hcz28_1
   try clear hcz31_0
   try clear hcz31_1
   try clear hfz12_0
   try clear hfz12_1
   try clear hfz17_0
   try clear hfz17_1
   try clear hfz21_0
   try clear hfz21_1
   try clear hfz25_0
   try clear hfz25_1
   try clear hfz28_0
   try clear hfz28_1
   try clear hfz31_0
   try clear hfz31_1
   obtain ⟨kq, x42_6, rfl, HA, HJ6, BK302, BK304, HB⟩ := hcut
   cases kq with
   | zero => exact absurd HA.out (by simp [ensemblelaw12_PromiseRoom.j0])
   | succ kj6 =>
    have H := HA.out
    clear HA
    simp only [ensemblelaw12_PromiseRoom.j0] at H
    by_cases c33 : x42_6 = true
    ·subst c33
     have H1 : (some true) = some r := by rw [if_pos rfl] at H; exact H
     clear H
     have H := H1
     clear H1
     clear hr_
     obtain rfl := Option.some.inj H
     go_wp2
     go_ret
     exact ⟨by first | rfl | (simp [errW_none, errW_some] <;> rfl) | (simp [*, errW_none, errW_some] <;> rfl), hb_⟩
    ·replace c33 := Bool.eq_false_iff.mpr c33
     subst c33
     have H1 : ((promise_Earliest.f a0 l1 1048576 1048576 ([] : List (S41)) a2_0 a2_1 a2_2 a2_3 a2_4 a2_5).bind fun bt306 => ((ensembleref12_Right.f a2_0 a2_1 a2_2 a2_3 a2_4 a2_5).bind fun t308 => (if t308 = true then ((ensembleref05_Room.f kj6 l1 a2_2 a2_3 a2_4 a2_5).bind fun t309 => (if bt306.2 = 0 then (if ((bt306.1 == a0) != (decide (t309 ≥ a2_1))) = true then (ensemblelaw12_PromiseRoom.j1 kj6 a0 l1 a3 (decide (t309 ≥ a2_1)) true a2_0 a2_1 a2_2 a2_3 a2_4 a2_5 1048576 1048576) else (if bt306.1 = a0 then (ensemblelaw12_PromiseRoom.j1 kj6 a0 l1 a3 (decide (t309 ≥ a2_1)) false a2_0 a2_1 a2_2 a2_3 a2_4 a2_5 1048576 1048576) else (ensemblelaw12_PromiseRoom.j1 kj6 a0 l1 a3 (decide (t309 ≥ a2_1)) (bt306.1 != 1073741825) a2_0 a2_1 a2_2 a2_3 a2_4 a2_5 1048576 1048576))) else (ensemblelaw12_PromiseRoom.j1 kj6 a0 l1 a3 (decide (t309 ≥ a2_1)) true a2_0 a2_1 a2_2 a2_3 a2_4 a2_5 1048576 1048576))) else (some (bt306.2 == 1))))) = some r := by rw [if_neg (show ¬ (false = true) by decide)] at H; exact H
     clear H
     have H := H1
     clear H1
     replace H := Option.bind_eq_some_iff.mp H
     obtain ⟨⟨t306, t307⟩, A340, H⟩ := H
     replace H : ((ensembleref12_Right.f a2_0 a2_1 a2_2 a2_3 a2_4 a2_5).bind fun t308 => (if t308 = true then ((ensembleref05_Room.f kj6 l1 a2_2 a2_3 a2_4 a2_5).bind fun t309 => (if t307 = 0 then (if ((t306 == a0) != (decide (t309 ≥ a2_1))) = true then (ensemblelaw12_PromiseRoom.j1 kj6 a0 l1 a3 (decide (t309 ≥ a2_1)) true a2_0 a2_1 a2_2 a2_3 a2_4 a2_5 1048576 1048576) else (if t306 = a0 then (ensemblelaw12_PromiseRoom.j1 kj6 a0 l1 a3 (decide (t309 ≥ a2_1)) false a2_0 a2_1 a2_2 a2_3 a2_4 a2_5 1048576 1048576) else (ensemblelaw12_PromiseRoom.j1 kj6 a0 l1 a3 (decide (t309 ≥ a2_1)) (t306 != 1073741825) a2_0 a2_1 a2_2 a2_3 a2_4 a2_5 1048576 1048576))) else (ensemblelaw12_PromiseRoom.j1 kj6 a0 l1 a3 (decide (t309 ≥ a2_1)) true a2_0 a2_1 a2_2 a2_3 a2_4 a2_5 1048576 1048576))) else (some (t307 == 1)))) = some r := H
     have A34 := Aside0.mk A340
     clear A340
     replace H := Option.bind_eq_some_iff.mp H
     obtain ⟨t308, A350, H⟩ := H
     replace H : (if t308 = true then ((ensembleref05_Room.f kj6 l1 a2_2 a2_3 a2_4 a2_5).bind fun t309 => (if t307 = 0 then (if ((t306 == a0) != (decide (t309 ≥ a2_1))) = true then (ensemblelaw12_PromiseRoom.j1 kj6 a0 l1 a3 (decide (t309 ≥ a2_1)) true a2_0 a2_1 a2_2 a2_3 a2_4 a2_5 1048576 1048576) else (if t306 = a0 then (ensemblelaw12_PromiseRoom.j1 kj6 a0 l1 a3 (decide (t309 ≥ a2_1)) false a2_0 a2_1 a2_2 a2_3 a2_4 a2_5 1048576 1048576) else (ensemblelaw12_PromiseRoom.j1 kj6 a0 l1 a3 (decide (t309 ≥ a2_1)) (t306 != 1073741825) a2_0 a2_1 a2_2 a2_3 a2_4 a2_5 1048576 1048576))) else (ensemblelaw12_PromiseRoom.j1 kj6 a0 l1 a3 (decide (t309 ≥ a2_1)) true a2_0 a2_1 a2_2 a2_3 a2_4 a2_5 1048576 1048576))) else (some (t307 == 1))) = some r := H
     have A35 := Aside0.mk A350
     clear A350
     by_cases c36 : t308 = true
     ·subst c36
      have H1 : ((ensembleref05_Room.f kj6 l1 a2_2 a2_3 a2_4 a2_5).bind fun t309 => (if t307 = 0 then (if ((t306 == a0) != (decide (t309 ≥ a2_1))) = true then (ensemblelaw12_PromiseRoom.j1 kj6 a0 l1 a3 (decide (t309 ≥ a2_1)) true a2_0 a2_1 a2_2 a2_3 a2_4 a2_5 1048576 1048576) else (if t306 = a0 then (ensemblelaw12_PromiseRoom.j1 kj6 a0 l1 a3 (decide (t309 ≥ a2_1)) false a2_0 a2_1 a2_2 a2_3 a2_4 a2_5 1048576 1048576) else (ensemblelaw12_PromiseRoom.j1 kj6 a0 l1 a3 (decide (t309 ≥ a2_1)) (t306 != 1073741825) a2_0 a2_1 a2_2 a2_3 a2_4 a2_5 1048576 1048576))) else (ensemblelaw12_PromiseRoom.j1 kj6 a0 l1 a3 (decide (t309 ≥ a2_1)) true a2_0 a2_1 a2_2 a2_3 a2_4 a2_5 1048576 1048576))) = some r := by rw [if_pos rfl] at H; exact H
      clear H
      have H := H1
      clear H1
      replace H := Option.bind_eq_some_iff.mp H
      obtain ⟨t309, A370, H⟩ := H
      replace H : (if t307 = 0 then (if ((t306 == a0) != (decide (t309 ≥ a2_1))) = true then (ensemblelaw12_PromiseRoom.j1 kj6 a0 l1 a3 (decide (t309 ≥ a2_1)) true a2_0 a2_1 a2_2 a2_3 a2_4 a2_5 1048576 1048576) else (if t306 = a0 then (ensemblelaw12_PromiseRoom.j1 kj6 a0 l1 a3 (decide (t309 ≥ a2_1)) false a2_0 a2_1 a2_2 a2_3 a2_4 a2_5 1048576 1048576) else (ensemblelaw12_PromiseRoom.j1 kj6 a0 l1 a3 (decide (t309 ≥ a2_1)) (t306 != 1073741825) a2_0 a2_1 a2_2 a2_3 a2_4 a2_5 1048576 1048576))) else (ensemblelaw12_PromiseRoom.j1 kj6 a0 l1 a3 (decide (t309 ≥ a2_1)) true a2_0 a2_1 a2_2 a2_3 a2_4 a2_5 1048576 1048576)) = some r := H
      have A37 := Aside0.mk A370
      clear A370
      have HC38 := Aside0.mk H
      clear H
      have hnb39 := NB304_302.out
      have hnc39 := NB302_304.out
      obtain ⟨hcz40_0, hcz40_1, hfz40_0, hfz40_1⟩ := bz2_ BK304
      obtain ⟨hcz41_0, hcz41_1, hcz41_2, hcz41_3, hcz41_4, hcz41_5, hfz41_0, hfz41_1, hfz41_2, hfz41_3, hfz41_4, hfz41_5⟩ := bz6_ BK302
      try go_wp2_with (first | ((with_reducible refine gate_callee (f := 27) rfl ?_); refine goesL_ (some 48) rfl rfl Try.func27 (by kernel_rfl) rfl #[.int .i64 a0, .slice A1 l1.length c1, .agg #[.int .i64 1048576, .int .i64 1048576], .slice none 0 0, .agg #[.int .i64 a2_0, .int .i64 a2_1, .int .i64 a2_2, .int .i64 a2_3, .int .i64 a2_4, .int .i64 a2_5]] rfl Z0 ?_; (refine (promise_Earliest.calls a0 _ _ l1 1048576 1048576 _ _ ([] : List (S41)) a2_0 a2_1 a2_2 a2_3 a2_4 a2_5 t306 t307 _ ?side1 ?side2 ?side3 ?side4 A34.out).mono ?_); (case side1 => exact cs_ HR1); (case side2 => exact HC1.out); (case side3 => exact Kd.C_nil _ _); (case side4 => exact Nat.le_refl _); rintro e w42 ⟨rfl, hb⟩; refine ⟨_, rfl, ?_⟩; replace BK302 := bk_ BK302 hb; replace BK304 := bk_ BK304 hb; replace HB := hs_ hb; (try clear hb); (try clear hb2); (try clear hk); (try clear hi); obtain ⟨hcz43_0, hcz43_1, hcz43_2, hcz43_3, hcz43_4, hcz43_5, hfz43_0, hfz43_1, hfz43_2, hfz43_3, hfz43_4, hfz43_5⟩ := bz6_ BK302) | ((with_reducible refine gate_callee (f := 33) rfl ?_); refine goesL_ (some 52) rfl rfl Try.func33 (by kernel_rfl) rfl #[.agg #[.int .i64 a2_0, .int .i64 a2_1, .int .i64 a2_2, .int .i64 a2_3, .int .i64 a2_4, .int .i64 a2_5]] rfl Z0 ?_; (with_reducible refine (ensembleref12_Right.calls a2_0 a2_1 a2_2 a2_3 a2_4 a2_5 true _ A35.out).mono ?_); rintro e w44 ⟨rfl, hb⟩; refine ⟨_, rfl, ?_⟩; replace BK302 := bk_ BK302 hb; replace BK304 := bk_ BK304 hb; replace HB := hs_ hb; (try clear hb); (try clear hb2); (try clear hk); (try clear hi)))
      replace BK302 := Aside0.mk (blk_drew BK302.out)
      replace BK304 := Aside0.mk (blk_drew BK304.out)
      replace HB := Aside0.mk (below_drew1 HB.out)
      refine start_ (n := 8) (S := fun w' => w'.cell? ⟨gb302, 0, none⟩ = some (.int .i64 a2_0) ∧ w'.cell? ⟨gb302, 1, none⟩ = some (.int .i64 a2_1) ∧ w'.cell? ⟨gb302, 2, none⟩ = some (.int .i64 a2_2) ∧ w'.cell? ⟨gb302, 3, none⟩ = some (.int .i64 a2_3) ∧ w'.cell? ⟨gb302, 4, none⟩ = some (.int .i64 a2_4) ∧ w'.cell? ⟨gb302, 5, none⟩ = some (.int .i64 a2_5)) (ds := []) (bm 8 0) (by kernel_rfl) rfl rfl ⟨(blk_cell BK302.out 0).trans rfl, (blk_cell BK302.out 1).trans rfl, (blk_cell BK302.out 2).trans rfl, (blk_cell BK302.out 3).trans rfl, (blk_cell BK302.out 4).trans rfl, (blk_cell BK302.out 5).trans rfl⟩ (fun hHeld => ?_); refine with_tabW ensemblelaw12_PromiseRoom.tab9 ensemblelaw12_PromiseRoom.bits9 (fun HT_ HW_ => ?_)
      generalize w44.drew = w45 at BK302 BK304 HB hHeld ⊢
      refine pu 0 (some 56) (bm 8 1) ?_
      refine pu 1 (some 57) (bm 8 3) ?_
      refine pu 4 (some 60) (bm 8 19) ?_
      refine tk6 2 (some 58) (bm 8 23) ?_
      refine tk6 5 (some 61) (bm 8 55) ?_
      refine one_ (i := 3) (N := some 59) (bm 8 63) rfl rfl (one_of HT_.out (by kernel_rfl)) (by decide) (fun K hK => ?_)
      refine goes_ Try.func34 (by kernel_rfl) rfl #[.slice A1 l1.length c1, .agg #[.int .i64 a2_2, .int .i64 a2_3, .int .i64 a2_4, .int .i64 a2_5]] (by rfl) rfl rfl Z0 ?_
      with_reducible refine (ensembleref05_Room.calls kj6 _ _ l1 a2_2 a2_3 a2_4 a2_5 t309 _ ?side1 ?side2 A37.out).mono ?_
      (case side1 => exact cs_ HR1)
      (case side2 => exact HC1.out)
      rintro e w46 ⟨rfl, hb⟩
      refine ⟨_, rfl, ?_⟩
      replace BK302 := bk_ BK302 hb
      replace BK304 := bk_ BK304 hb
      replace HB := hs_ hb
      (try clear hb)
      (try clear hb2)
      (try clear hk)
      (try clear hi)
      refine hK.out _ _ kc_ (fun hHeld => ?_)
      clear hK K
      refine norm_ (a' := ?_) ?_ ?_
      rotate_left
      ·show Act.put _ (some 59) _ = _
       simp only [Act.put, List.setIfInBounds_toArray, List.set_cons_zero, List.set_cons_succ, i64_w, i32_w]
       rfl
      refine pu 6 (some 62) (bm 8 127) ?_
      refine pu 7 (some 12) (bm 8 255) ?_
      refine done_ (done_of HT_.out (by kernel_rfl)) ?_
      go_upto_region 10 with (fail)
      go_cut [80] (fun v80 wc => ∃ (kq : Nat) (x80_37 : Bool), v80 = .bool x80_37 ∧ Aside0 (ensemblelaw12_PromiseRoom.j1 kq a0 l1 a3 (decide (t309 ≥ a2_1)) x80_37 a2_0 a2_1 a2_2 a2_3 a2_4 a2_5 1048576 1048576 = some r) ∧ Aside0 (kq ≤ kj6) ∧ Aside0 (wc.heap[gb302]? = some (.cells #[.int .i64 a2_0, .int .i64 a2_1, .int .i64 a2_2, .int .i64 a2_3, .int .i64 a2_4, .int .i64 a2_5] 29 (0, 0))) ∧ Aside0 (wc.heap[gb304]? = some (.cells #[.int .i64 1048576, .int .i64 1048576] 24 (0, 0))) ∧ Aside0 (Below w.heap.size w wc))
      case first =>
       have H := HC38.out
       clear HC38
       by_cases c47 : t307 = 0
       ·rw [if_pos c47] at H
        have c47b0 : (t307 == 0) = true := beq_iff_eq.mpr c47
        have c47b1 : (t307 != 0) = false := bne_eq_false_iff_eq.mpr c47
        clear c47
        (first | rw [c47b0] | (simp only [i64_w, i32_w]; rw [c47b0]) | skip)
        by_cases c48 : ((t306 == a0) != (decide (t309 ≥ a2_1))) = true
        ·rw [if_pos c48] at H
         have c48b0 : ((t306 == a0) != (decide (t309 ≥ a2_1))) = true := c48
         (try (have c48b1 : decide ((t306 == a0) = (decide (t309 ≥ a2_1))) = false := by simpa using c48))
         (try (have c48b2 : ((t306 == a0) == (decide (t309 ≥ a2_1))) = false := by simpa using c48))
         (try (have c48b3 : ¬ ((t306 == a0) = (decide (t309 ≥ a2_1))) := by simpa using c48))
         clear c48
         have H' := Aside0.mk H
         clear H
         go_wp2
         go_meet
         case rel => exact ⟨_, (true), Z1, H', ⟨by have := HJ6.out; first | omega | exact Nat.le_refl _⟩, ⟨bo_ BK302⟩, ⟨bo_ BK304⟩, ⟨hb_⟩⟩
        ·rw [if_neg c48] at H
         have c48b0 : ((t306 == a0) != (decide (t309 ≥ a2_1))) = false := by simpa using c48
         (try (have c48b1 : decide ((t306 == a0) = (decide (t309 ≥ a2_1))) = true := by simpa using c48))
         (try (have c48b2 : ((t306 == a0) == (decide (t309 ≥ a2_1))) = true := by simpa using c48))
         clear c48
         by_cases c49 : t306 = a0
         ·rw [if_pos c49] at H
          have c49b0 : (t306 == a0) = true := beq_iff_eq.mpr c49
          have c49b1 : (t306 != a0) = false := bne_eq_false_iff_eq.mpr c49
          have hd0 : decide (a2_1 ≤ t309) = true := (by have h_ : ((t306 == a0) != (decide (a2_1 ≤ t309))) = false := c48b0; rw [c49b0] at h_; revert h_; cases decide (a2_1 ≤ t309) <;> simp)
          have hdF := Aside0.mk hd0
          (try clear c48b0); (try clear c48b1); (try clear c48b2)
          clear c49
          have H' := Aside0.mk H
          clear H
          go_wp2
          refine Met.intro ?_
          go_step
          (repeat apply Exists.intro)
          refine ⟨?rel, by first | rfl | (rw [hdF.out])⟩
          case rel => exact ⟨_, (false), Z1, H', ⟨by have := HJ6.out; first | omega | exact Nat.le_refl _⟩, ⟨bo_ BK302⟩, ⟨bo_ BK304⟩, ⟨hb_⟩⟩
         ·rw [if_neg c49] at H
          have c49b0 : (t306 == a0) = false := beq_eq_false_iff_ne.mpr c49
          have c49b1 : (t306 != a0) = true := bne_iff_ne.mpr c49
          have hd0 : decide (a2_1 ≤ t309) = false := (by have h_ : ((t306 == a0) != (decide (a2_1 ≤ t309))) = false := c48b0; rw [c49b0] at h_; revert h_; cases decide (a2_1 ≤ t309) <;> simp)
          have hdF := Aside0.mk hd0
          (try clear c48b0); (try clear c48b1); (try clear c48b2)
          have H' := Aside0.mk H
          clear H
          go_wp2
          refine Met.intro ?_
          go_step
          (repeat apply Exists.intro)
          refine ⟨?rel, by first | rfl | (rw [hdF.out])⟩
          case rel => exact ⟨_, ((t306 != 1073741825)), Z1, H', ⟨by have := HJ6.out; first | omega | exact Nat.le_refl _⟩, ⟨bo_ BK302⟩, ⟨bo_ BK304⟩, ⟨hb_⟩⟩
       ·rw [if_neg c47] at H
        have c47b0 : (t307 == 0) = false := beq_eq_false_iff_ne.mpr c47
        have c47b1 : (t307 != 0) = true := bne_iff_ne.mpr c47
        (first | rw [c47b0] | (simp only [i64_w, i32_w]; rw [c47b0]) | skip)
        have H' := Aside0.mk H
        clear H
        go_wp2
        refine Met.intro ?_
        go_step
        (repeat apply Exists.intro)
        refine ⟨?rel, by first | rfl | (rw [hdF.out])⟩
        case rel => exact ⟨_, (true), Z1, H', ⟨by have := HJ6.out; first | omega | exact Nat.le_refl _⟩, ⟨bo_ BK302⟩, ⟨bo_ BK304⟩, ⟨hb_⟩⟩
      case rest =>
       clear HC38
       try clear c1
       try clear c2
       try clear p2
       try clear c3
       try clear c4
       try clear c6
       try clear c7
       try clear c11
       try clear c14
       try clear c15
       try clear c15b0
       try clear c16
       try clear c19
       try clear c19b0
       try clear c20
       try clear c23
       try clear c23b0
       try clear c24
       try clear c25
       try clear c26
       try clear c27
       try clear c30
       try clear c33
       try clear c34
       try clear c36
       try clear c39
       try clear c47
       try clear c47b0
       try clear c47b1
       try clear c48
       try clear c48b0
       try clear c48b1
       try clear c48b2
       try clear c49
       try clear c49b0
       try clear c49b1
       try clear hcz12_0
       try clear hcz12_1
       try clear hcz17_0
       try clear hcz17_1
       try clear hcz21_0
       try clear hcz21_1
       try clear hcz25_0
       try clear hcz25_1
       try clear hcz28_0
       try clear hcz28_1
       try clear hcz31_0
       try clear hcz31_1
       try clear hcz40_0
       try clear hcz40_1
       try clear hcz41_0
       try clear hcz41_1
       try clear hcz41_2
       try clear hcz41_3
       try clear hcz41_4
       try clear hcz41_5
       try clear hcz43_0
       try clear hcz43_1
       try clear hcz43_2
       try clear hcz43_3
       try clear hcz43_4
       try clear hcz43_5
       try clear hfz12_0
       try clear hfz12_1
       try clear hfz17_0
       try clear hfz17_1
       try clear hfz21_0
       try clear hfz21_1
       try clear hfz25_0
       try clear hfz25_1
       try clear hfz28_0
       try clear hfz28_1
       try clear hfz31_0
       try clear hfz31_1
       try clear hfz40_0
       try clear hfz40_1
       try clear hfz41_0
       try clear hfz41_1
       try clear hfz41_2
       try clear hfz41_3
       try clear hfz41_4
       try clear hfz41_5
       try clear hfz43_0
       try clear hfz43_1
       try clear hfz43_2
       try clear hfz43_3
       try clear hfz43_4
       try clear hfz43_5
       try clear p2
       obtain ⟨kq, x80_37, rfl, HA, HJ37, BK302, BK304, HB⟩ := hcut
       cases kq with
       | zero => exact absurd HA.out (by simp [ensemblelaw12_PromiseRoom.j1])
       | succ kj37 =>
        have H := HA.out
        clear HA
        simp only [ensemblelaw12_PromiseRoom.j1] at H
        by_cases c50 : x80_37 = true
        ·subst c50
         have H1 : (some false) = some r := by rw [if_pos rfl] at H; exact H
         clear H
         have H := H1
         clear H1
         rw [hr_] at H
         cases H
        ·replace c50 := Bool.eq_false_iff.mpr c50
         subst c50
         have H1 : (ensemblelaw12_PromiseRoom.l0 kj37 a0 l1 a3 (decide (t309 ≥ a2_1)) ([] : List (S51)) 0 a2_0 a2_1 a2_2 a2_3 a2_4 a2_5 1048576 1048576 0 (wrap64 (a2_0 + 1)) a3 false ([] : List (S52))) = some r := by rw [if_neg (show ¬ (false = true) by decide)] at H; exact H
         clear H
         have H := H1
         clear H1
         have H' := Aside0.mk H
         clear H
         have hnb51 := NB302_304.out
         have hnc51 := NB304_302.out
         obtain ⟨hcz52_0, hcz52_1, hcz52_2, hcz52_3, hcz52_4, hcz52_5, hfz52_0, hfz52_1, hfz52_2, hfz52_3, hfz52_4, hfz52_5⟩ := bz6_ BK302
         go_wp2_with (first | ((with_reducible refine gate_dst (N := 14) rfl ?_); refine bx 14 #[.int .i64 0, .int .i64 0, .int .i64 0, .bool false, .slice none 0 0] 41 ?_; intro gb310 hg w53 hbox hb; have BK310 := Aside0.mk (hbox); have GW310 := ge_ hg; have GE310 := ge_ hg; have NB302_310 := nl_ BK302 hg; have NB310_302 := nr_ BK302 hg; have NB304_310 := nl_ BK304 hg; have NB310_304 := nr_ BK304 hg; replace BK302 := bk_ BK302 hb; replace BK304 := bk_ BK304 hb; replace HB := hs_ hb; clear hb hbox hg; have hnb54 := NB310_302.out; have hnc54 := NB302_310.out; have hnb55 := NB310_304.out; have hnc55 := NB304_310.out; obtain ⟨hcz56_0, hcz56_1, hcz56_2, hcz56_3, hcz56_4, hfz56_0, hfz56_1, hfz56_2, hfz56_3, hfz56_4⟩ := bz5_ BK310))
         go_loopg [13, 15] kj37 (fun kq v13 v15 w' => ∃ (x13_3 : List (S51)) (x15_3 : Int) (x311004_3 : List (S52)) (u311004 : Value), v15 = .int .i64 x15_3 ∧ Aside0 (ensemblelaw12_PromiseRoom.l0 kq a0 l1 a3 (decide (t309 ≥ a2_1)) x13_3 x15_3 a2_0 a2_1 a2_2 a2_3 a2_4 a2_5 1048576 1048576 0 (wrap64 (a2_0 + 1)) a3 false x311004_3 = some r) ∧ Aside0 (kq ≤ kj37) ∧ Aside0 (Kd.R k51 51 w' w.heap.size (fun _ => True) v13 x13_3) ∧ Aside0 (Kd.R k52 52 w' w.heap.size (fun _ => True) u311004 x311004_3) ∧ Aside0 (w'.heap[gb302]? = some (.cells #[.int .i64 a2_0, .int .i64 a2_1, .int .i64 a2_2, .int .i64 a2_3, .int .i64 a2_4, .int .i64 a2_5] 29 (0, 0))) ∧ Aside0 (w'.heap[gb304]? = some (.cells #[.int .i64 1048576, .int .i64 1048576] 24 (0, 0))) ∧ Aside0 (w'.heap[gb310]? = some (.cells #[.int .i64 0, .int .i64 (wrap64 (a2_0 + 1)), .int .i64 a3, .bool false, u311004] 41 (0, 0))) ∧ Aside0 (Below w.heap.size w w'))
         case atStart => exact ⟨(([] : List (S51))), (0), (([] : List (S52))), (.slice none 0 0), Z1, H', ⟨Nat.le_refl _⟩, ⟨by first | exact Kd.R_nil _ _ _ _ _ | exact Kd.N_nil _ _ _ _ _ | exact Kd.V_nil _ _ _ _ _ | exact Kd.Q_nil _ _ _ _ _ | exact Kd.S_nil _ _ _ _ _⟩, ⟨by first | exact Kd.R_nil _ _ _ _ _ | exact Kd.N_nil _ _ _ _ _ | exact Kd.V_nil _ _ _ _ _ | exact Kd.Q_nil _ _ _ _ _ | exact Kd.S_nil _ _ _ _ _⟩, ⟨bs_⟩, ⟨bs_⟩, ⟨bs_⟩, ⟨hb_⟩⟩
         case round =>
          clear H'
          try clear c1
          try clear c2
          try clear p2
          try clear c3
          try clear c4
          try clear c5
          try clear c6
          try clear p6
          try clear c7
          try clear c11
          try clear c14
          try clear c15
          try clear c15b0
          try clear c16
          try clear c19
          try clear c19b0
          try clear c20
          try clear c23
          try clear c23b0
          try clear c24
          try clear c25
          try clear c26
          try clear c27
          try clear c30
          try clear c33
          try clear c34
          try clear c36
          try clear c39
          try clear c47
          try clear c47b0
          try clear c47b1
          try clear c48
          try clear c48b0
          try clear c48b1
          try clear c48b2
          try clear c49
          try clear c49b0
          try clear c49b1
          try clear c50
          try clear c51
          try clear c54
          try clear c55
          try clear hcz12_0
          try clear hcz12_1
          try clear hcz17_0
          try clear hcz17_1
          try clear hcz21_0
          try clear hcz21_1
          try clear hcz25_0
          try clear hcz25_1
          try clear hcz28_0
          try clear hcz28_1
          try clear hcz31_0
          try clear hcz31_1
          try clear hcz40_0
          try clear hcz40_1
          try clear hcz41_0
          try clear hcz41_1
          try clear hcz41_2
          try clear hcz41_3
          try clear hcz41_4
          try clear hcz41_5
          try clear hcz43_0
          try clear hcz43_1
          try clear hcz43_2
          try clear hcz43_3
          try clear hcz43_4
          try clear hcz43_5
          try clear hcz52_0
          try clear hcz52_1
          try clear hcz52_2
          try clear hcz52_3
          try clear hcz52_4
          try clear hcz52_5
          try clear hcz56_0
          try clear hcz56_1
          try clear hcz56_2
          try clear hcz56_3
          try clear hcz56_4
          try clear hfz12_0
          try clear hfz12_1
          try clear hfz17_0
          try clear hfz17_1
          try clear hfz21_0
          try clear hfz21_1
          try clear hfz25_0
          try clear hfz25_1
          try clear hfz28_0
          try clear hfz28_1
          try clear hfz31_0
          try clear hfz31_1
          try clear hfz40_0
          try clear hfz40_1
          try clear hfz41_0
          try clear hfz41_1
          try clear hfz41_2
          try clear hfz41_3
          try clear hfz41_4
          try clear hfz41_5
          try clear hfz43_0
          try clear hfz43_1
          try clear hfz43_2
          try clear hfz43_3
          try clear hfz43_4
          try clear hfz43_5
          try clear hfz52_0
          try clear hfz52_1
          try clear hfz52_2
          try clear hfz52_3
          try clear hfz52_4
          try clear hfz52_5
          try clear hfz56_0
          try clear hfz56_1
          try clear hfz56_2
          try clear hfz56_3
          try clear hfz56_4
          try clear p2
          obtain ⟨x13_3, x15_3, x311004_3, u311004, rfl, HA, HK3, HO_13, HO_311004, BK302, BK304, BK310, HB⟩ := hrel
          cases gk with
          | zero => exact absurd HA.out (by simp [ensemblelaw12_PromiseRoom.l0])
          | succ k3 =>
           have H := HA.out
           clear HA
           simp only [ensemblelaw12_PromiseRoom.l0] at H
           by_cases c57 : x15_3 < (l1.length : Int)
           ·rw [if_pos c57] at H
            have c57b0 : decide (x15_3 < (l1.length : Int)) = true := decide_eq_true c57
            clear c57
            by_cases c58 : 0 ≤ x15_3
            ·rw [if_pos c58] at H
             have c58b0 : decide (0 ≤ x15_3) = true := decide_eq_true c58
             clear c58
             by_cases c59 : x13_3.length < 4398046511104
             ·rw [if_pos c59] at H
              have LMc59 := Aside0.mk c59
              clear c59
              obtain ⟨y312, hy312⟩ : ∃ y_ : List (S51), y_ = (x13_3 ++ [(⟨(⟨(rd_T51 l1 x15_3).f0.f0, (rd_T51 l1 x15_3).f0.f1⟩ : S48), 0, 0⟩ : S51)]) := ⟨_, rfl⟩
              replace H : (if x311004_3.length < 4398046511104 then (ensemblelaw12_PromiseRoom.l0 k3 a0 l1 a3 (decide (t309 ≥ a2_1)) y312 (wrap64 (x15_3 + 1)) a2_0 a2_1 a2_2 a2_3 a2_4 a2_5 1048576 1048576 0 (wrap64 (a2_0 + 1)) a3 false (x311004_3 ++ [(⟨(⟨(rd_T51 l1 x15_3).f0.f0, (rd_T51 l1 x15_3).f0.f1⟩ : S48), (rd_T51 l1 x15_3).f1, (rd_T51 l1 x15_3).f2⟩ : S52)])) else (none)) = some r := by first | (rw [hy312]; with_reducible exact H) | (have H2_ := (Option.bind_some _ _).symm.trans H; rw [hy312]; with_reducible exact H2_) | (have H2_ := (Option.bind_some _ _).symm.trans H; with_reducible exact H2_) | with_reducible exact H | (rw [hy312]; exact H) | exact H
              have Ny312 := Aside0.mk hy312
              clear hy312
              by_cases c60 : x311004_3.length < 4398046511104
              ·rw [if_pos c60] at H
               have LMc60 := Aside0.mk c60
               clear c60
               obtain ⟨y318, hy318⟩ : ∃ y_ : List (S52), y_ = (x311004_3 ++ [(⟨(⟨(rd_T51 l1 x15_3).f0.f0, (rd_T51 l1 x15_3).f0.f1⟩ : S48), (rd_T51 l1 x15_3).f1, (rd_T51 l1 x15_3).f2⟩ : S52)]) := ⟨_, rfl⟩
               replace H : (ensemblelaw12_PromiseRoom.l0 k3 a0 l1 a3 (decide (t309 ≥ a2_1)) y312 (wrap64 (x15_3 + 1)) a2_0 a2_1 a2_2 a2_3 a2_4 a2_5 1048576 1048576 0 (wrap64 (a2_0 + 1)) a3 false y318) = some r := by first | (rw [hy318]; with_reducible exact H) | (have H2_ := (Option.bind_some _ _).symm.trans H; rw [hy318]; with_reducible exact H2_) | (have H2_ := (Option.bind_some _ _).symm.trans H; with_reducible exact H2_) | with_reducible exact H | (rw [hy318]; exact H) | exact H
               have Ny318 := Aside0.mk hy318
               clear hy318
               have H' := Aside0.mk H
               clear H
               have p311 : 0 ≤ (x15_3 : Int) := of_decide_eq_true Z2
               have q311 : x15_3 < (l1.length : Int) := of_decide_eq_true Z2
               obtain ⟨ad311, e311, hx311_0, hx311_1, hx311_2, hx311_3⟩ := at_T51 HR1.out x15_3 p311 q311
               cases e311
               replace hx311_0 := cx_ hx311_0
               replace hx311_1 := cx_ hx311_1
               replace hx311_2 := cx_ hx311_2
               replace hx311_3 := cx_ hx311_3
               replace p311 := eq_true p311
               replace q311 := eq_true q311
               try go_wp2_with (first | ((with_reducible refine gate_builtin (b := .append) (xs := #[.tmp 92, .tmp 99]) rfl ?_); at_builtin; refine Kd.R_append k51 (w0 := w) w.heap.size rfl (.tmp 92) (.tmp 99) 22 51 (.agg #[(.int .i64 0), (.int .i64 0), (.int .u64 0), (.int .i64 0)]) 32 rfl Try.underlying22 info51 rfl (by decide) (by omega) u13 x13_3 (⟨(⟨(rd_T51 l1 x15_3).f0.f0, (rd_T51 l1 x15_3).f0.f1⟩ : S48), 0, 0⟩ : S51) [.int .i64 ((rd_T51 l1 x15_3).f0.f0), .int .i64 ((rd_T51 l1 x15_3).f0.f1), .int .u64 0, .int .i64 0] (fun _ => True) (fun _ => False) rfl rfl ?aP (fun _ hk => hk.elim) ?aF ?aO ?aB ?aS ?aL ?_; (case aP => exact k51_mkM _ _ _ (⟨(⟨(rd_T51 l1 x15_3).f0.f0, (rd_T51 l1 x15_3).f0.f1⟩ : S48), 0, 0⟩ : S51)); (case aB => exact hb_); (case aF => exact (fun _ _ => trivial)); (case aO => exact Z5); (case aS => exact (below_size hb_)); (case aL => have := LMc59.out; omega); intro v313 w61 ho hb hg hat; rw [← Ny312.out] at ho; have HO314 := Aside0.mk (ho); replace HO_311004 := Aside0.mk (Kd.R_over' (by (with_reducible repeat (first | apply Kd.R_alloc | apply Kd.R_drewN | apply Kd.R_drew)); exact HO_311004.out) (Kd.R_typed Z5) (by decide) hg); replace BK302 := Aside0.mk (blk_grown (g := gb302) (o := .cells #[.int .i64 a2_0, .int .i64 a2_1, .int .i64 a2_2, .int .i64 a2_3, .int .i64 a2_4, .int .i64 a2_5] 29 (0, 0)) (bo_ BK302) hg (Kd.R_ne HO_13.out BK302.out (by decide))); replace BK304 := Aside0.mk (blk_grown (g := gb304) (o := .cells #[.int .i64 1048576, .int .i64 1048576] 24 (0, 0)) (bo_ BK304) hg (Kd.R_ne HO_13.out BK304.out (by decide))); replace BK310 := Aside0.mk (blk_grown (g := gb310) (o := .cells #[.int .i64 0, .int .i64 (wrap64 (a2_0 + 1)), .int .i64 a3, .bool false, u311004] 41 (0, 0)) (bo_ BK310) hg (Kd.R_ne HO_13.out BK310.out (by decide))); replace HB := Aside0.mk (hb); clear HO_13; clear ho hb hg hat))
               replace HO_311004 := Aside0.mk (Kd.R_drew HO_311004.out)
               replace HO314 := Aside0.mk (Kd.R_drew HO314.out)
               replace BK302 := Aside0.mk (blk_drew BK302.out)
               replace BK304 := Aside0.mk (blk_drew BK304.out)
               replace BK310 := Aside0.mk (blk_drew BK310.out)
               replace HB := Aside0.mk (below_drew1 HB.out)
               have p315 : 0 ≤ (x15_3 : Int) := of_decide_eq_true Z2
               have q315 : x15_3 < (l1.length : Int) := of_decide_eq_true Z2
               obtain ⟨ad315, e315, hx315_0, hx315_1, hx315_2, hx315_3⟩ := at_T51 HR1.out x15_3 p315 q315
               have hw315_3 := hx315_3
               have hw315_2 := hx315_2
               have hw315_1 := hx315_1
               have hw315_0 := hx315_0
               obtain rfl : ad311 = ad315 := (by injection e315)
               replace hx315_0 := cx_ hx315_0
               replace hx315_1 := cx_ hx315_1
               replace hx315_2 := cx_ hx315_2
               replace hx315_3 := cx_ hx315_3
               replace p315 := eq_true p315
               replace q315 := eq_true q315
               have p316 : 0 ≤ (x15_3 : Int) := of_decide_eq_true Z2
               have q316 : x15_3 < (l1.length : Int) := of_decide_eq_true Z2
               obtain ⟨ad316, e316, hx316_0, hx316_1, hx316_2, hx316_3⟩ := at_T51 HR1.out x15_3 p316 q316
               have hw316_3 := hx316_3
               have hw316_2 := hx316_2
               have hw316_1 := hx316_1
               have hw316_0 := hx316_0
               obtain rfl : ad311 = ad316 := (by injection e316)
               replace hx316_0 := cx_ hx316_0
               replace hx316_1 := cx_ hx316_1
               replace hx316_2 := cx_ hx316_2
               replace hx316_3 := cx_ hx316_3
               replace p316 := eq_true p316
               replace q316 := eq_true q316
               have p317 : 0 ≤ (x15_3 : Int) := of_decide_eq_true Z2
               have q317 : x15_3 < (l1.length : Int) := of_decide_eq_true Z2
               obtain ⟨ad317, e317, hx317_0, hx317_1, hx317_2, hx317_3⟩ := at_T51 HR1.out x15_3 p317 q317
               have hw317_3 := hx317_3
               have hw317_2 := hx317_2
               have hw317_1 := hx317_1
               have hw317_0 := hx317_0
               obtain rfl : ad311 = ad317 := (by injection e317)
               replace hx317_0 := cx_ hx317_0
               replace hx317_1 := cx_ hx317_1
               replace hx317_2 := cx_ hx317_2
               replace hx317_3 := cx_ hx317_3
               replace p317 := eq_true p317
               replace q317 := eq_true q317
               refine start_ (n := 22) (S := fun w' => w'.cell? ⟨gb310, 0, none⟩ = some (.int .i64 0) ∧ w'.cell? ⟨gb310, 1, none⟩ = some (.int .i64 (wrap64 (a2_0 + 1))) ∧ w'.cell? ⟨gb310, 2, none⟩ = some (.int .i64 a3) ∧ w'.cell? ⟨gb310, 3, none⟩ = some (.bool false) ∧ w'.cell? ⟨gb310, 4, none⟩ = some (u311004) ∧ w'.cell? (ad311.add ((x15_3).toNat * 4)) = some (.int .i64 ((rd_T51 l1 x15_3).f0.f0)) ∧ w'.cell? ⟨(ad311.add ((x15_3).toNat * 4)).block, (ad311.add ((x15_3).toNat * 4)).off + 1, none⟩ = some (.int .i64 ((rd_T51 l1 x15_3).f0.f1)) ∧ w'.cell? ⟨(ad311.add ((x15_3).toNat * 4)).block, (ad311.add ((x15_3).toNat * 4)).off + 2, none⟩ = some (.int .u64 ((rd_T51 l1 x15_3).f1)) ∧ w'.cell? ⟨(ad311.add ((x15_3).toNat * 4)).block, (ad311.add ((x15_3).toNat * 4)).off + 3, none⟩ = some (.int .i64 ((rd_T51 l1 x15_3).f2)) ∧ w'.cell? (ad311.add ((x15_3).toNat * 4)) = some (.int .i64 ((rd_T51 l1 x15_3).f0.f0)) ∧ w'.cell? ⟨(ad311.add ((x15_3).toNat * 4)).block, (ad311.add ((x15_3).toNat * 4)).off + 1, none⟩ = some (.int .i64 ((rd_T51 l1 x15_3).f0.f1)) ∧ w'.cell? ⟨(ad311.add ((x15_3).toNat * 4)).block, (ad311.add ((x15_3).toNat * 4)).off + 2, none⟩ = some (.int .u64 ((rd_T51 l1 x15_3).f1)) ∧ w'.cell? ⟨(ad311.add ((x15_3).toNat * 4)).block, (ad311.add ((x15_3).toNat * 4)).off + 3, none⟩ = some (.int .i64 ((rd_T51 l1 x15_3).f2)) ∧ w'.cell? (ad311.add ((x15_3).toNat * 4)) = some (.int .i64 ((rd_T51 l1 x15_3).f0.f0)) ∧ w'.cell? ⟨(ad311.add ((x15_3).toNat * 4)).block, (ad311.add ((x15_3).toNat * 4)).off + 1, none⟩ = some (.int .i64 ((rd_T51 l1 x15_3).f0.f1)) ∧ w'.cell? ⟨(ad311.add ((x15_3).toNat * 4)).block, (ad311.add ((x15_3).toNat * 4)).off + 2, none⟩ = some (.int .u64 ((rd_T51 l1 x15_3).f1)) ∧ w'.cell? ⟨(ad311.add ((x15_3).toNat * 4)).block, (ad311.add ((x15_3).toNat * 4)).off + 3, none⟩ = some (.int .i64 ((rd_T51 l1 x15_3).f2))) (ds := [21]) (bm 22 0) (by kernel_rfl) rfl rfl ⟨(blk_cell BK310.out 0).trans rfl, (blk_cell BK310.out 1).trans rfl, (blk_cell BK310.out 2).trans rfl, (blk_cell BK310.out 3).trans rfl, (blk_cell BK310.out 4).trans rfl, ((HB.out.cell (World.block_lt_of_cell? w _ hw315_0)).trans hw315_0), ((HB.out.cell (World.block_lt_of_cell? w _ hw315_1)).trans hw315_1), ((HB.out.cell (World.block_lt_of_cell? w _ hw315_2)).trans hw315_2), ((HB.out.cell (World.block_lt_of_cell? w _ hw315_3)).trans hw315_3), ((HB.out.cell (World.block_lt_of_cell? w _ hw316_0)).trans hw316_0), ((HB.out.cell (World.block_lt_of_cell? w _ hw316_1)).trans hw316_1), ((HB.out.cell (World.block_lt_of_cell? w _ hw316_2)).trans hw316_2), ((HB.out.cell (World.block_lt_of_cell? w _ hw316_3)).trans hw316_3), ((HB.out.cell (World.block_lt_of_cell? w _ hw317_0)).trans hw317_0), ((HB.out.cell (World.block_lt_of_cell? w _ hw317_1)).trans hw317_1), ((HB.out.cell (World.block_lt_of_cell? w _ hw317_2)).trans hw317_2), ((HB.out.cell (World.block_lt_of_cell? w _ hw317_3)).trans hw317_3)⟩ (fun hHeld => ?_); refine with_tabW ensemblelaw12_PromiseRoom.tab18 ensemblelaw12_PromiseRoom.bits18 (fun HT_ HW_ => ?_)
               generalize w61.drew = w62 at HO_311004 HO314 BK302 BK304 BK310 HB hx315_0 hx315_1 hx315_2 hx315_3 hx316_0 hx316_1 hx316_2 hx316_3 hx317_0 hx317_1 hx317_2 hx317_3 hHeld ⊢
               refine pu 0 (some 101) (bm 22 1) ?_
               refine pu 2 (some 103) (bm 22 5) ?_
               refine pu 3 (some 104) (bm 22 13) ?_
               refine pu 4 (some 105) (bm 22 29) ?_
               refine pu 5 (some 106) (bm 22 61) ?_
               refine pu 7 (some 108) (bm 22 189) ?_
               refine pu 8 (some 109) (bm 22 445) ?_
               refine pu 9 (some 110) (bm 22 957) ?_
               refine pu 10 (some 111) (bm 22 1981) ?_
               refine pu 12 (some 113) (bm 22 6077) ?_
               refine pu 13 (some 114) (bm 22 14269) ?_
               refine pu 14 (some 115) (bm 22 30653) ?_
               refine pu 15 (some 116) (bm 22 63421) ?_
               refine tk17 1 (some 102) (bm 22 63423) ?_
               refine tk17 6 (some 107) (bm 22 63487) ?_
               refine tk17 11 (some 112) (bm 22 65535) ?_
               refine tk17 16 (some 117) (bm 22 131071) ?_
               refine pu 17 (some 118) (bm 22 262143) ?_
               refine one_ (i := 18) (N := some 119) (bm 22 524287) rfl rfl (one_of HT_.out (by kernel_rfl)) (by decide) (fun K hK => ?_)
               refine value_ (w1 := ?_) (v := ?_) (by rfl) rfl ?_ ?_
               rotate_left 2
               ·go_simp
                constructor
                ·rfl
                ·rfl
               refine hK.out _ _ ⟨(blk_cell (blk_alloc BK310.out _) 0).trans rfl, (blk_cell (blk_alloc BK310.out _) 1).trans rfl, (blk_cell (blk_alloc BK310.out _) 2).trans rfl, (blk_cell (blk_alloc BK310.out _) 3).trans rfl, (blk_cell (blk_alloc BK310.out _) 4).trans rfl, (World.cell?_alloc_lt _ _ _ (World.block_lt_of_cell? _ _ (((HB.out.cell (World.block_lt_of_cell? w _ hw315_0)).trans hw315_0)))).trans (((HB.out.cell (World.block_lt_of_cell? w _ hw315_0)).trans hw315_0)), (World.cell?_alloc_lt _ _ _ (World.block_lt_of_cell? _ _ (((HB.out.cell (World.block_lt_of_cell? w _ hw315_1)).trans hw315_1)))).trans (((HB.out.cell (World.block_lt_of_cell? w _ hw315_1)).trans hw315_1)), (World.cell?_alloc_lt _ _ _ (World.block_lt_of_cell? _ _ (((HB.out.cell (World.block_lt_of_cell? w _ hw315_2)).trans hw315_2)))).trans (((HB.out.cell (World.block_lt_of_cell? w _ hw315_2)).trans hw315_2)), (World.cell?_alloc_lt _ _ _ (World.block_lt_of_cell? _ _ (((HB.out.cell (World.block_lt_of_cell? w _ hw315_3)).trans hw315_3)))).trans (((HB.out.cell (World.block_lt_of_cell? w _ hw315_3)).trans hw315_3)), (World.cell?_alloc_lt _ _ _ (World.block_lt_of_cell? _ _ (((HB.out.cell (World.block_lt_of_cell? w _ hw316_0)).trans hw316_0)))).trans (((HB.out.cell (World.block_lt_of_cell? w _ hw316_0)).trans hw316_0)), (World.cell?_alloc_lt _ _ _ (World.block_lt_of_cell? _ _ (((HB.out.cell (World.block_lt_of_cell? w _ hw316_1)).trans hw316_1)))).trans (((HB.out.cell (World.block_lt_of_cell? w _ hw316_1)).trans hw316_1)), (World.cell?_alloc_lt _ _ _ (World.block_lt_of_cell? _ _ (((HB.out.cell (World.block_lt_of_cell? w _ hw316_2)).trans hw316_2)))).trans (((HB.out.cell (World.block_lt_of_cell? w _ hw316_2)).trans hw316_2)), (World.cell?_alloc_lt _ _ _ (World.block_lt_of_cell? _ _ (((HB.out.cell (World.block_lt_of_cell? w _ hw316_3)).trans hw316_3)))).trans (((HB.out.cell (World.block_lt_of_cell? w _ hw316_3)).trans hw316_3)), (World.cell?_alloc_lt _ _ _ (World.block_lt_of_cell? _ _ (((HB.out.cell (World.block_lt_of_cell? w _ hw317_0)).trans hw317_0)))).trans (((HB.out.cell (World.block_lt_of_cell? w _ hw317_0)).trans hw317_0)), (World.cell?_alloc_lt _ _ _ (World.block_lt_of_cell? _ _ (((HB.out.cell (World.block_lt_of_cell? w _ hw317_1)).trans hw317_1)))).trans (((HB.out.cell (World.block_lt_of_cell? w _ hw317_1)).trans hw317_1)), (World.cell?_alloc_lt _ _ _ (World.block_lt_of_cell? _ _ (((HB.out.cell (World.block_lt_of_cell? w _ hw317_2)).trans hw317_2)))).trans (((HB.out.cell (World.block_lt_of_cell? w _ hw317_2)).trans hw317_2)), (World.cell?_alloc_lt _ _ _ (World.block_lt_of_cell? _ _ (((HB.out.cell (World.block_lt_of_cell? w _ hw317_3)).trans hw317_3)))).trans (((HB.out.cell (World.block_lt_of_cell? w _ hw317_3)).trans hw317_3))⟩ (fun hHeld => ?_)
               clear hK K
               refine norm_ (a' := ?_) ?_ ?_
               rotate_left
               ·show Act.put _ (some 119) _ = _
                simp only [Act.put, List.setIfInBounds_toArray, List.set_cons_zero, List.set_cons_succ, i64_w, i32_w]
                rfl
               refine one_ (i := 19) (N := some 120) (bm 22 1048575) rfl rfl (one_of HT_.out (by kernel_rfl)) (by decide) (fun K hK => ?_)
               refine Kd.R_append_step k52 (w0 := w) w.heap.size (by rfl) (.tmp 102) (.tmp 119) 39 52 (.agg #[(.int .i64 0), (.int .i64 0), (.int .u64 0), (.int .i64 0)]) 32 rfl Try.underlying39 info52 rfl (by decide) (by omega) u311004 x311004_3 (⟨(⟨(rd_T51 l1 x15_3).f0.f0, (rd_T51 l1 x15_3).f0.f1⟩ : S48), (rd_T51 l1 x15_3).f1, (rd_T51 l1 x15_3).f2⟩ : S52) [.int .i64 ((rd_T51 l1 x15_3).f0.f0), .int .i64 ((rd_T51 l1 x15_3).f0.f1), .int .u64 ((rd_T51 l1 x15_3).f1), .int .i64 ((rd_T51 l1 x15_3).f2)] (fun _ => True) (fun _ => False) rfl rfl ?aP (fun _ hk => hk.elim) ?aF ?aO ?aB ?aS ?aL ?_
               (case aP => exact k52_mkM _ _ _ (⟨(⟨(rd_T51 l1 x15_3).f0.f0, (rd_T51 l1 x15_3).f0.f1⟩ : S48), (rd_T51 l1 x15_3).f1, (rd_T51 l1 x15_3).f2⟩ : S52))
               (case aB => exact hb_)
               (case aF => exact (fun _ _ => trivial))
               (case aO => exact (by (with_reducible repeat (first | apply Kd.R_alloc | apply Kd.R_drewN | apply Kd.R_drew)); exact HO_311004.out))
               (case aS => exact (below_size hb_))
               (case aL => have := LMc60.out; omega)
               intro v319 w63 ho hb hg hat
               rw [← Ny318.out] at ho
               have HO320 := Aside0.mk (ho)
               replace BK302 := Aside0.mk (blk_grown (g := gb302) (o := .cells #[.int .i64 a2_0, .int .i64 a2_1, .int .i64 a2_2, .int .i64 a2_3, .int .i64 a2_4, .int .i64 a2_5] 29 (0, 0)) (bo_ BK302) hg (Kd.R_ne HO_311004.out BK302.out (by decide)))
               replace BK304 := Aside0.mk (blk_grown (g := gb304) (o := .cells #[.int .i64 1048576, .int .i64 1048576] 24 (0, 0)) (bo_ BK304) hg (Kd.R_ne HO_311004.out BK304.out (by decide)))
               replace BK310 := Aside0.mk (blk_grown (g := gb310) (o := .cells #[.int .i64 0, .int .i64 (wrap64 (a2_0 + 1)), .int .i64 a3, .bool false, u311004] 41 (0, 0)) (bo_ BK310) hg (Kd.R_ne HO_311004.out BK310.out (by decide)))
               replace HO314 := Aside0.mk (Kd.R_over' (by (with_reducible repeat (first | apply Kd.R_alloc | apply Kd.R_drewN | apply Kd.R_drew)); exact HO314.out) (Kd.R_typed (by (with_reducible repeat (first | apply Kd.R_alloc | apply Kd.R_drewN | apply Kd.R_drew)); exact HO_311004.out)) (by decide) hg)
               replace HB := Aside0.mk (hb)
               clear HO_311004
               clear ho hb hg hat
               obtain ⟨Ao64, co64, eo64⟩ := Kd.R_slice HO320.out
               (first | subst eo64 | (injection eo64 with f1_ f2_ f3_; have f4_ := f1_.symm; have f5_ := f3_.symm; clear f1_ f2_ f3_; subst f4_; subst f5_))
               refine hK.out _ _ ⟨(blk_cell BK310.out 0).trans rfl, (blk_cell BK310.out 1).trans rfl, (blk_cell BK310.out 2).trans rfl, (blk_cell BK310.out 3).trans rfl, (blk_cell BK310.out 4).trans rfl, ((HB.out.cell (World.block_lt_of_cell? w _ hw315_0)).trans hw315_0), ((HB.out.cell (World.block_lt_of_cell? w _ hw315_1)).trans hw315_1), ((HB.out.cell (World.block_lt_of_cell? w _ hw315_2)).trans hw315_2), ((HB.out.cell (World.block_lt_of_cell? w _ hw315_3)).trans hw315_3), ((HB.out.cell (World.block_lt_of_cell? w _ hw316_0)).trans hw316_0), ((HB.out.cell (World.block_lt_of_cell? w _ hw316_1)).trans hw316_1), ((HB.out.cell (World.block_lt_of_cell? w _ hw316_2)).trans hw316_2), ((HB.out.cell (World.block_lt_of_cell? w _ hw316_3)).trans hw316_3), ((HB.out.cell (World.block_lt_of_cell? w _ hw317_0)).trans hw317_0), ((HB.out.cell (World.block_lt_of_cell? w _ hw317_1)).trans hw317_1), ((HB.out.cell (World.block_lt_of_cell? w _ hw317_2)).trans hw317_2), ((HB.out.cell (World.block_lt_of_cell? w _ hw317_3)).trans hw317_3)⟩ (fun hHeld => ?_)
               clear hK K
               refine norm_ (a' := ?_) ?_ ?_
               rotate_left
               ·show Act.put _ (some 120) _ = _
                simp only [Act.put, List.setIfInBounds_toArray, List.set_cons_zero, List.set_cons_succ, i64_w, i32_w]
                rfl
               refine pu 20 (some 121) (bm 22 2097151) ?_
               refine last_ (i := 21) (N := none) (bm 22 4194303) rfl rfl (one_of HT_.out (by kernel_rfl)) (by decide) (fun K hK => ?_)
               have hs65 : w63.cell? ⟨gb310, 4, none⟩ = some (u311004) := (blk_cell BK310.out 4).trans rfl
               have hfs65 := blk_frozen BK310.out 4
               have hns65_0 := NB302_310.out
               have hns65_1 := NB304_310.out
               have hms65_0 := NB310_302.out
               have hms65_1 := NB310_304.out
               refine skip_ (w1 := ?_) (by rfl) rfl ?_ ?_
               rotate_left
               ·go_simp
                rfl
               refine hK.out _ _ ?_
               clear hK K
               refine done_ (done_of HT_.out (by kernel_rfl)) ?_
               try go_wp2
               go_roundg k3
               case measure => have := HJ6.out; have := HJ37.out; have := HK3.out; omega
               case rel => exact ⟨(y312), (wrap64 (x15_3 + 1)), (y318), (.slice Ao64 y318.length co64), Z1, H', ⟨by have := HJ6.out; have := HJ37.out; have := HK3.out; omega⟩, ⟨by (with_reducible repeat (first | apply Kd.R_alloc | apply Kd.R_drewN | apply Kd.R_drew)); exact Kd.R_mono (Kd.R_far (p := ⟨gb310, 4, none⟩) (Kd.R_types HO314.out BK310.out (by decide)) (fun _ hk => hk.2) (.slice Ao64 y318.length co64)) (fun _ hk => trivial)⟩, ⟨by (with_reducible repeat (first | apply Kd.R_alloc | apply Kd.R_drewN | apply Kd.R_drew)); exact Kd.R_mono (Kd.R_far (p := ⟨gb310, 4, none⟩) (Kd.R_types HO320.out BK310.out (by decide)) (fun _ hk => hk.2) (.slice Ao64 y318.length co64)) (fun _ hk => trivial)⟩, ⟨bs_⟩, ⟨bs_⟩, ⟨bs_⟩, ⟨hb_⟩⟩
              ·rw [if_neg c60] at H
               exact absurd H (by simp)
             ·rw [if_neg c59] at H
              exact absurd H (by simp)
            ·rw [if_neg c58] at H
             exact absurd H (by simp)
           ·rw [if_neg c57] at H
            have c57b0 : decide (x15_3 < (l1.length : Int)) = false := decide_eq_false c57
            clear c57
            obtain ⟨y321, hy321⟩ : ∃ y_ : List (S41), y_ = (([(⟨0, (wrap64 (a2_0 + 1)), a3, false, x311004_3⟩ : S41)] : List (S41))) := ⟨_, rfl⟩
            replace H : ((promise_Earliest.f a0 x13_3 1048576 1048576 y321 a2_0 a2_1 a2_2 a2_3 a2_4 a2_5).bind fun bt324 => (if (decide (t309 ≥ a2_1)) = true then (if bt324.2 = 0 then (some (bt324.1 == a3)) else (some false)) else (if bt324.2 = 0 then (some (bt324.1 == 1073741825)) else (some false)))) = some r := by first | (rw [hy321]; with_reducible exact H) | (have H2_ := (Option.bind_some _ _).symm.trans H; rw [hy321]; with_reducible exact H2_) | (have H2_ := (Option.bind_some _ _).symm.trans H; with_reducible exact H2_) | with_reducible exact H | (rw [hy321]; exact H) | exact H
            have Ny321 := Aside0.mk hy321
            clear hy321
            replace H := Option.bind_eq_some_iff.mp H
            obtain ⟨⟨t324, t325⟩, A660, H⟩ := H
            replace H : (if (decide (t309 ≥ a2_1)) = true then (if t325 = 0 then (some (t324 == a3)) else (some false)) else (if t325 = 0 then (some (t324 == 1073741825)) else (some false))) = some r := H
            have A66 := Aside0.mk A660
            clear A660
            by_cases c67 : (decide (t309 ≥ a2_1)) = true
            ·rw [if_pos c67] at H
             have c67b0 : (decide (t309 ≥ a2_1)) = true := c67
             clear c67
             by_cases c68 : t325 = 0
             ·rw [if_pos c68] at H
              have c68b0 : (t325 == 0) = true := beq_iff_eq.mpr c68
              have c68b1 : (t325 != 0) = false := bne_eq_false_iff_eq.mpr c68
              clear c68
              clear hr_
              obtain rfl := Option.some.inj H
              have hnb69 := NB304_302.out
              have hnc69 := NB302_304.out
              have hnb70 := NB304_310.out
              have hnc70 := NB310_304.out
              obtain ⟨hcz71_0, hcz71_1, hfz71_0, hfz71_1⟩ := bz2_ BK304
              have hnb72 := NB310_302.out
              have hnc72 := NB302_310.out
              obtain ⟨hcz73_0, hcz73_1, hcz73_2, hcz73_3, hcz73_4, hfz73_0, hfz73_1, hfz73_2, hfz73_3, hfz73_4⟩ := bz5_ BK310
              obtain ⟨Ao74, co74, eo74⟩ := Kd.R_slice HO_311004.out
              subst eo74
              go_wp2_with (first | ((with_reducible refine gate_dst (N := 127) rfl ?_); refine Kd.N_lit k41 _ 41 ?hg (N' := 127) ?hd (xs := ([(⟨0, (wrap64 (a2_0 + 1)), a3, false, x311004_3⟩ : S41)] : List (S41))) (inner := [.int .i64 0, .int .i64 (wrap64 (a2_0 + 1)), .int .i64 a3, .bool false, .slice Ao74 x311004_3.length co74]) (ok := (fun k_ => some k_ ≠ (u13 : Value).ownBlock ∧ k_ ≠ gb302 ∧ k_ ≠ gb304 ∧ k_ ≠ gb310)) (okp := (fun k_ => some k_ ≠ (u13 : Value).ownBlock ∧ k_ ≠ gb302 ∧ k_ ≠ gb304 ∧ k_ ≠ gb310)) ?hr ?hpl1 (fun _ hk => hk) ((show ∀ k_, wr.heap.size ≤ k_ → (fun k_ => some k_ ≠ (u13 : Value).ownBlock ∧ k_ ≠ gb302 ∧ k_ ≠ gb304 ∧ k_ ≠ gb310) k_ from fun k_ hk => ⟨Kd.fresh' (Kd.R_lt Z5) k_ hk, Kd.freshB (g := gb302) (o := .cells #[.int .i64 a2_0, .int .i64 a2_1, .int .i64 a2_2, .int .i64 a2_3, .int .i64 a2_4, .int .i64 a2_5] 29 (0, 0)) (bo_ BK302) k_ hk, Kd.freshB (g := gb304) (o := .cells #[.int .i64 1048576, .int .i64 1048576] 24 (0, 0)) (bo_ BK304) k_ hk, Kd.freshB (g := gb310) (o := .cells #[.int .i64 0, .int .i64 (wrap64 (a2_0 + 1)), .int .i64 a3, .bool false, .slice Ao74 x311004_3.length co74] 41 (0, 0)) (bo_ BK310) k_ hk⟩) _ (Nat.le_refl _)) (Below.refl _ _) (Nat.le_refl _) (by simp) ?_; (case hd => rfl); (case hg => rfl); (case hr => first | (go_simp; done) | (go_simp; rfl)); (case hpl1 => exact (Reps.c5 (show Kd.FK k41 _ _ (⟨0, (wrap64 (a2_0 + 1)), a3, false, x311004_3⟩ : S41) [.int .i64 0, .int .i64 (wrap64 (a2_0 + 1)), .int .i64 a3, .bool false, .slice Ao74 x311004_3.length co74] from (k41_mkF _ _ (⟨0, (wrap64 (a2_0 + 1)), a3, false, x311004_3⟩ : S41) (Kd.R_reads' (Kd.R_mono (ok' := (fun k_ => some k_ ≠ (u13 : Value).ownBlock ∧ k_ ≠ gb302 ∧ k_ ≠ gb304 ∧ k_ ≠ gb310)) (Kd.R_types (Kd.R_types (Kd.R_types (Kd.R_apart' (HO_311004.out) (Kd.R_typed HO_13.out) (by decide)) BK302.out (by decide)) BK304.out (by decide)) BK310.out (by decide)) (fun k_ hk => ⟨hk.1.1.1.2, ⟨hk.1.1.2, ⟨hk.1.2, hk.2⟩⟩⟩))).2.1 (Kd.R_F (Kd.R_mono (ok' := (fun k_ => some k_ ≠ (u13 : Value).ownBlock ∧ k_ ≠ gb302 ∧ k_ ≠ gb304 ∧ k_ ≠ gb310)) (Kd.R_types (Kd.R_types (Kd.R_types (Kd.R_apart' (HO_311004.out) (Kd.R_typed HO_13.out) (by decide)) BK302.out (by decide)) BK304.out (by decide)) BK310.out (by decide)) (fun k_ hk => ⟨hk.1.1.1.2, ⟨hk.1.1.2, ⟨hk.1.2, hk.2⟩⟩⟩))))) (Reps.none _ _))); intro v322 w75 ho76 hb hg_ hnew_; clear hg_ hnew_; (first | rw [← Ny321.out] at ho76 | (simp only [Int.reduceToNat] at ho76; rw [← Ny321.out] at ho76)); have HO323 := Aside0.mk (Kd.N_lower ho76 (below_size hb_)); replace HO_13 := Aside0.mk (Kd.R_below Z5 hb); replace BK302 := bk_ BK302 hb; replace BK304 := bk_ BK304 hb; replace BK310 := Aside0.mk (blk_below (g := gb310) (o := .cells #[.int .i64 0, .int .i64 (wrap64 (a2_0 + 1)), .int .i64 a3, .bool false, .slice Ao74 x311004_3.length co74] 41 (0, 0)) (bo_ BK310) hb); replace HB := hs_ hb; clear HO_311004; clear hb ho76; obtain ⟨hcz77_0, hcz77_1, hcz77_2, hcz77_3, hcz77_4, hcz77_5, hfz77_0, hfz77_1, hfz77_2, hfz77_3, hfz77_4, hfz77_5⟩ := bz6_ BK302; obtain ⟨Ao78, co78, eo78⟩ := Kd.R_slice HO_13.out; subst eo78; obtain ⟨Ao79, co79, eo79⟩ := Kd.N_slice HO323.out; subst eo79) | ((with_reducible refine gate_callee (f := 27) rfl ?_); refine goesL_ (some 129) rfl rfl Try.func27 (by kernel_rfl) rfl #[.int .i64 a0, .slice Ao78 x13_3.length co78, .agg #[.int .i64 1048576, .int .i64 1048576], .slice Ao79 y321.length co79, .agg #[.int .i64 a2_0, .int .i64 a2_1, .int .i64 a2_2, .int .i64 a2_3, .int .i64 a2_4, .int .i64 a2_5]] rfl Z0 ?_; (with_reducible refine (promise_Earliest.calls a0 _ _ x13_3 1048576 1048576 _ _ y321 a2_0 a2_1 a2_2 a2_3 a2_4 a2_5 t324 t325 _ ?side1 ?side2 ?side3 ?side4 A66.out).mono ?_); (case side1 => repeat (first | exact (Kd.R_reads' HO_13.out).2.2 | (with_reducible refine Kd.C_alloc ?_ _) | (with_reducible refine Kd.C_drewN ?_ _) | (with_reducible refine Kd.C_drew ?_))); (case side2 => exact (Kd.R_reads' HO_13.out).2.1); (case side3 => repeat (first | exact (Kd.N_reads' HO323.out).2.2 | (with_reducible refine Kd.C_alloc ?_ _) | (with_reducible refine Kd.C_drewN ?_ _) | (with_reducible refine Kd.C_drew ?_))); (case side4 => exact (Kd.N_reads' HO323.out).2.1); rintro e w80 ⟨rfl, hb⟩; refine ⟨_, rfl, ?_⟩; replace HO_13 := Aside0.mk (Kd.R_below Z5 hb); replace HO323 := Aside0.mk (Kd.N_below (by (with_reducible repeat (first | apply Kd.N_alloc | apply Kd.N_drewN | apply Kd.N_drew)); exact HO323.out) hb); replace BK302 := bk_ BK302 hb; replace BK304 := bk_ BK304 hb; replace BK310 := Aside0.mk (blk_below (g := gb310) (o := .cells #[.int .i64 0, .int .i64 (wrap64 (a2_0 + 1)), .int .i64 a3, .bool false, .slice Ao74 x311004_3.length co74] 41 (0, 0)) (bo_ BK310) hb); replace HB := hs_ hb; (try clear hb); (try clear hb2); (try clear hk); (try clear hi)))
              go_ret
              exact ⟨by first | rfl | (simp [errW_none, errW_some] <;> rfl) | (simp [*, errW_none, errW_some] <;> rfl), hb_⟩
             ·rw [if_neg c68] at H
              have c68b0 : (t325 == 0) = false := beq_eq_false_iff_ne.mpr c68
              have c68b1 : (t325 != 0) = true := bne_iff_ne.mpr c68
              rw [hr_] at H
              cases H
            ·rw [if_neg c67] at H
             have c67b0 : (decide (t309 ≥ a2_1)) = false := by simpa using c67
             clear c67
             by_cases c93 : t325 = 0
             ·rw [if_pos c93] at H
              have c93b0 : (t325 == 0) = true := beq_iff_eq.mpr c93
              have c93b1 : (t325 != 0) = false := bne_eq_false_iff_eq.mpr c93
              clear c93
              clear hr_
              obtain rfl := Option.some.inj H
              have hnb94 := NB304_302.out
              have hnc94 := NB302_304.out
              have hnb95 := NB304_310.out
              have hnc95 := NB310_304.out
              obtain ⟨hcz96_0, hcz96_1, hfz96_0, hfz96_1⟩ := bz2_ BK304
              have hnb97 := NB310_302.out
              have hnc97 := NB302_310.out
              obtain ⟨hcz98_0, hcz98_1, hcz98_2, hcz98_3, hcz98_4, hfz98_0, hfz98_1, hfz98_2, hfz98_3, hfz98_4⟩ := bz5_ BK310
              obtain ⟨Ao99, co99, eo99⟩ := Kd.R_slice HO_311004.out
              subst eo99
              go_wp2_with (first | ((with_reducible refine gate_dst (N := 127) rfl ?_); refine Kd.N_lit k41 _ 41 ?hg (N' := 127) ?hd (xs := ([(⟨0, (wrap64 (a2_0 + 1)), a3, false, x311004_3⟩ : S41)] : List (S41))) (inner := [.int .i64 0, .int .i64 (wrap64 (a2_0 + 1)), .int .i64 a3, .bool false, .slice Ao99 x311004_3.length co99]) (ok := (fun k_ => some k_ ≠ (u13 : Value).ownBlock ∧ k_ ≠ gb302 ∧ k_ ≠ gb304 ∧ k_ ≠ gb310)) (okp := (fun k_ => some k_ ≠ (u13 : Value).ownBlock ∧ k_ ≠ gb302 ∧ k_ ≠ gb304 ∧ k_ ≠ gb310)) ?hr ?hpl2 (fun _ hk => hk) ((show ∀ k_, wr.heap.size ≤ k_ → (fun k_ => some k_ ≠ (u13 : Value).ownBlock ∧ k_ ≠ gb302 ∧ k_ ≠ gb304 ∧ k_ ≠ gb310) k_ from fun k_ hk => ⟨Kd.fresh' (Kd.R_lt Z5) k_ hk, Kd.freshB (g := gb302) (o := .cells #[.int .i64 a2_0, .int .i64 a2_1, .int .i64 a2_2, .int .i64 a2_3, .int .i64 a2_4, .int .i64 a2_5] 29 (0, 0)) (bo_ BK302) k_ hk, Kd.freshB (g := gb304) (o := .cells #[.int .i64 1048576, .int .i64 1048576] 24 (0, 0)) (bo_ BK304) k_ hk, Kd.freshB (g := gb310) (o := .cells #[.int .i64 0, .int .i64 (wrap64 (a2_0 + 1)), .int .i64 a3, .bool false, .slice Ao99 x311004_3.length co99] 41 (0, 0)) (bo_ BK310) k_ hk⟩) _ (Nat.le_refl _)) (Below.refl _ _) (Nat.le_refl _) (by simp) ?_; (case hd => rfl); (case hg => rfl); (case hr => first | (go_simp; done) | (go_simp; rfl)); (case hpl2 => exact (Reps.c5 (show Kd.FK k41 _ _ (⟨0, (wrap64 (a2_0 + 1)), a3, false, x311004_3⟩ : S41) [.int .i64 0, .int .i64 (wrap64 (a2_0 + 1)), .int .i64 a3, .bool false, .slice Ao99 x311004_3.length co99] from (k41_mkF _ _ (⟨0, (wrap64 (a2_0 + 1)), a3, false, x311004_3⟩ : S41) (Kd.R_reads' (Kd.R_mono (ok' := (fun k_ => some k_ ≠ (u13 : Value).ownBlock ∧ k_ ≠ gb302 ∧ k_ ≠ gb304 ∧ k_ ≠ gb310)) (Kd.R_types (Kd.R_types (Kd.R_types (Kd.R_apart' (HO_311004.out) (Kd.R_typed HO_13.out) (by decide)) BK302.out (by decide)) BK304.out (by decide)) BK310.out (by decide)) (fun k_ hk => ⟨hk.1.1.1.2, ⟨hk.1.1.2, ⟨hk.1.2, hk.2⟩⟩⟩))).2.1 (Kd.R_F (Kd.R_mono (ok' := (fun k_ => some k_ ≠ (u13 : Value).ownBlock ∧ k_ ≠ gb302 ∧ k_ ≠ gb304 ∧ k_ ≠ gb310)) (Kd.R_types (Kd.R_types (Kd.R_types (Kd.R_apart' (HO_311004.out) (Kd.R_typed HO_13.out) (by decide)) BK302.out (by decide)) BK304.out (by decide)) BK310.out (by decide)) (fun k_ hk => ⟨hk.1.1.1.2, ⟨hk.1.1.2, ⟨hk.1.2, hk.2⟩⟩⟩))))) (Reps.none _ _))); intro v322 w100 ho101 hb hg_ hnew_; clear hg_ hnew_; (first | rw [← Ny321.out] at ho101 | (simp only [Int.reduceToNat] at ho101; rw [← Ny321.out] at ho101)); have HO323 := Aside0.mk (Kd.N_lower ho101 (below_size hb_)); replace HO_13 := Aside0.mk (Kd.R_below Z5 hb); replace BK302 := bk_ BK302 hb; replace BK304 := bk_ BK304 hb; replace BK310 := Aside0.mk (blk_below (g := gb310) (o := .cells #[.int .i64 0, .int .i64 (wrap64 (a2_0 + 1)), .int .i64 a3, .bool false, .slice Ao99 x311004_3.length co99] 41 (0, 0)) (bo_ BK310) hb); replace HB := hs_ hb; clear HO_311004; clear hb ho101; obtain ⟨hcz102_0, hcz102_1, hcz102_2, hcz102_3, hcz102_4, hcz102_5, hfz102_0, hfz102_1, hfz102_2, hfz102_3, hfz102_4, hfz102_5⟩ := bz6_ BK302; obtain ⟨Ao103, co103, eo103⟩ := Kd.R_slice HO_13.out; subst eo103; obtain ⟨Ao104, co104, eo104⟩ := Kd.N_slice HO323.out; subst eo104) | ((with_reducible refine gate_callee (f := 27) rfl ?_); refine goesL_ (some 129) rfl rfl Try.func27 (by kernel_rfl) rfl #[.int .i64 a0, .slice Ao103 x13_3.length co103, .agg #[.int .i64 1048576, .int .i64 1048576], .slice Ao104 y321.length co104, .agg #[.int .i64 a2_0, .int .i64 a2_1, .int .i64 a2_2, .int .i64 a2_3, .int .i64 a2_4, .int .i64 a2_5]] rfl Z0 ?_; (with_reducible refine (promise_Earliest.calls a0 _ _ x13_3 1048576 1048576 _ _ y321 a2_0 a2_1 a2_2 a2_3 a2_4 a2_5 t324 t325 _ ?side1 ?side2 ?side3 ?side4 A66.out).mono ?_); (case side1 => repeat (first | exact (Kd.R_reads' HO_13.out).2.2 | (with_reducible refine Kd.C_alloc ?_ _) | (with_reducible refine Kd.C_drewN ?_ _) | (with_reducible refine Kd.C_drew ?_))); (case side2 => exact (Kd.R_reads' HO_13.out).2.1); (case side3 => repeat (first | exact (Kd.N_reads' HO323.out).2.2 | (with_reducible refine Kd.C_alloc ?_ _) | (with_reducible refine Kd.C_drewN ?_ _) | (with_reducible refine Kd.C_drew ?_))); (case side4 => exact (Kd.N_reads' HO323.out).2.1); rintro e w105 ⟨rfl, hb⟩; refine ⟨_, rfl, ?_⟩; replace HO_13 := Aside0.mk (Kd.R_below Z5 hb); replace HO323 := Aside0.mk (Kd.N_below (by (with_reducible repeat (first | apply Kd.N_alloc | apply Kd.N_drewN | apply Kd.N_drew)); exact HO323.out) hb); replace BK302 := bk_ BK302 hb; replace BK304 := bk_ BK304 hb; replace BK310 := Aside0.mk (blk_below (g := gb310) (o := .cells #[.int .i64 0, .int .i64 (wrap64 (a2_0 + 1)), .int .i64 a3, .bool false, .slice Ao99 x311004_3.length co99] 41 (0, 0)) (bo_ BK310) hb); replace HB := hs_ hb; (try clear hb); (try clear hb2); (try clear hk); (try clear hi)))
              go_ret
              exact ⟨by first | rfl | (simp [errW_none, errW_some] <;> rfl) | (simp [*, errW_none, errW_some] <;> rfl), hb_⟩
             ·rw [if_neg c93] at H
              have c93b0 : (t325 == 0) = false := beq_eq_false_iff_ne.mpr c93
              have c93b1 : (t325 != 0) = true := bne_iff_ne.mpr c93
              rw [hr_] at H
              cases H
     ·replace c36 := Bool.eq_false_iff.mpr c36
      subst c36
      have H1 : (some (t307 == 1)) = some r := by rw [if_neg (show ¬ (false = true) by decide)] at H; exact H
      clear H
      have H := H1
      clear H1
      clear hr_
      obtain rfl := Option.some.inj H
      have hnb118 := NB304_302.out
      have hnc118 := NB302_304.out
      obtain ⟨hcz119_0, hcz119_1, hfz119_0, hfz119_1⟩ := bz2_ BK304
      obtain ⟨hcz120_0, hcz120_1, hcz120_2, hcz120_3, hcz120_4, hcz120_5, hfz120_0, hfz120_1, hfz120_2, hfz120_3, hfz120_4, hfz120_5⟩ := bz6_ BK302
      go_wp2_with (first | ((with_reducible refine gate_callee (f := 27) rfl ?_); refine goesL_ (some 48) rfl rfl Try.func27 (by kernel_rfl) rfl #[.int .i64 a0, .slice A1 l1.length c1, .agg #[.int .i64 1048576, .int .i64 1048576], .slice none 0 0, .agg #[.int .i64 a2_0, .int .i64 a2_1, .int .i64 a2_2, .int .i64 a2_3, .int .i64 a2_4, .int .i64 a2_5]] rfl Z0 ?_; (refine (promise_Earliest.calls a0 _ _ l1 1048576 1048576 _ _ ([] : List (S41)) a2_0 a2_1 a2_2 a2_3 a2_4 a2_5 t306 t307 _ ?side1 ?side2 ?side3 ?side4 A34.out).mono ?_); (case side1 => exact cs_ HR1); (case side2 => exact HC1.out); (case side3 => exact Kd.C_nil _ _); (case side4 => exact Nat.le_refl _); rintro e w121 ⟨rfl, hb⟩; refine ⟨_, rfl, ?_⟩; replace BK302 := bk_ BK302 hb; replace BK304 := bk_ BK304 hb; replace HB := hs_ hb; (try clear hb); (try clear hb2); (try clear hk); (try clear hi); obtain ⟨hcz122_0, hcz122_1, hcz122_2, hcz122_3, hcz122_4, hcz122_5, hfz122_0, hfz122_1, hfz122_2, hfz122_3, hfz122_4, hfz122_5⟩ := bz6_ BK302) | ((with_reducible refine gate_callee (f := 33) rfl ?_); refine goesL_ (some 52) rfl rfl Try.func33 (by kernel_rfl) rfl #[.agg #[.int .i64 a2_0, .int .i64 a2_1, .int .i64 a2_2, .int .i64 a2_3, .int .i64 a2_4, .int .i64 a2_5]] rfl Z0 ?_; (with_reducible refine (ensembleref12_Right.calls a2_0 a2_1 a2_2 a2_3 a2_4 a2_5 false _ A35.out).mono ?_); rintro e w123 ⟨rfl, hb⟩; refine ⟨_, rfl, ?_⟩; replace BK302 := bk_ BK302 hb; replace BK304 := bk_ BK304 hb; replace HB := hs_ hb; (try clear hb); (try clear hb2); (try clear hk); (try clear hi)))
      go_ret
      exact ⟨by first | rfl | (simp [errW_none, errW_some] <;> rfl) | (simp [*, errW_none, errW_some] <;> rfl), hb_⟩
 ·replace c6 := Bool.eq_false_iff.mpr c6
  subst c6
  have H1 : (some false) = some r := by rw [if_neg (show ¬ (false = true) by decide)] at H; exact H
  clear H
  have H := H1
  clear H1
  rw [hr_] at H
  cases H
end Go.Proofs.Ytckhjehibjdjdaa.P
namespace Go.Proofs.Ytckhjehibjdjdaa.Ob
open Go.RowKit Go.Deep Go.Proofs.YtckhjehibjdjdaaW.PrintWords Go.WideShapes
def Opens {α : Type} (P : Program) (t : TypeId) (d : Kd α) (wf : α → Prop) : Prop :=
 ∀ (H : Type) (enc : TypeId × Value → H) (W : World) (base : Nat) (spare : Nat → Bool) (held : Bool) (fuel : Nat) (cs : List Value) (x : DataW H × List MemPlace),
  DataW.trod enc P W base spare held fuel t cs = some x → ∃ a, d.K W a cs ∧ wf a
variable {P : Program} {t e : TypeId}
theorem Opens.int {k : IntKind} (ht : P.underlying t = some (.int k)) : Opens P t (Kd.int k) (fun n => (Lit.int k n).wf = true) := by
 intro H enc W base spare held fuel cs x h
 obtain ⟨n, rfl, _, hw⟩ := DataW.trod_int ht h
 exact ⟨n, rfl, hw⟩
theorem Opens.bool (ht : P.underlying t = some .bool) : Opens P t Kd.bool (fun _ => True) := by
 intro H enc W base spare held fuel cs x h
 obtain ⟨b, rfl, _⟩ := DataW.trod_bool ht h
 exact ⟨b, rfl, trivial⟩
theorem Opens.slice {α : Type} {d : Kd α} {wf : α → Prop} (ht : P.underlying t = some (.slice e)) (hsz : P.cellsOf e = d.sz) (he : Opens P e d wf) :
  Opens P t (Kd.slice e d) (fun xs => xs.length ≤ maxLen ∧ ∀ x ∈ xs, wf x) := by
 intro H enc W base spare held fuel cs x h
 rcases open_slice ht h with ⟨rfl, _⟩ | ⟨a, len, cap, m, n, D, Pl, rfl, _, hl, hm, hmm, hxx, hx⟩
 ·exact ⟨[], ⟨none, 0, rfl, Nat.le_refl _, rfl, by simp, fun h => absurd h (by simp)⟩, by simp [maxLen], fun x hx => by simp at hx⟩
 ·have hlm : len ≤ m := by rw [hmm]; split <;> omega
  have hx' : ∀ i, i < len → ∃ (y : α) (c : List Value), d.K W y c ∧ wf y ∧ c.length = d.sz ∧ ∀ j u, c[j]? = some u → W.cell? (a.add (i * d.sz + j)) = some u := by
   intro i hi
   obtain ⟨c, h1, h2⟩ := hx i (by omega)
   obtain ⟨y, hK, hw⟩ := he H enc W base spare held n c _ h2
   obtain ⟨_, h3, h4⟩ := World.cells?_some h1
   refine ⟨y, c, hK, hw, d.K_len hK, fun j u hu => ?_⟩
   have hj : j < c.length := by
    rcases Nat.lt_or_ge j c.length with h | h
    ·exact h
    ·rw [List.getElem?_eq_none h] at hu; cases hu
   have h5 := h4 j (by omega)
   rw [Deep.add_add, hsz] at h5
   rw [h5]; exact hu
  have hall : ∃ xs : List α, xs.length = len ∧ ∀ (i : Nat) (p : α), xs[i]? = some p → ∃ c, c.length = d.sz ∧ d.K W p c ∧ wf p ∧ ∀ j u, c[j]? = some u → W.cell? (a.add (i * d.sz + j)) = some u := by
   clear hx hm hl hmm hlm h hxx
   induction len with
   | zero => exact ⟨[], rfl, fun i p hp => by simp at hp⟩
   | succ len ih =>
    obtain ⟨xs, hxl, hxs⟩ := ih (fun i hi => hx' i (by omega))
    obtain ⟨y, c, hK, hw, hcl, hc⟩ := hx' len (by omega)
    refine ⟨xs ++ [y], by simp [hxl], fun i p hp => ?_⟩
    rcases Nat.lt_or_ge i xs.length with h | h
    ·rw [List.getElem?_append_left h] at hp
     exact hxs i p hp
    ·have hi : i = xs.length := by
      have := (List.getElem?_eq_some_iff.1 hp).1
      rw [List.length_append, List.length_singleton] at this
      omega
     subst hi
     have hp' : y = p := by simpa using hp
     subst hp'
     exact ⟨c, hcl, hK, hw, by rw [hxl]; exact hc⟩
  obtain ⟨xs, hxl, hxs⟩ := hall
  refine ⟨xs, ⟨some a, cap, by rw [hxl], by omega, rfl, by rw [hxl]; simp only [maxLen] at hm; omega, fun _ => ⟨a, rfl, fun j p hp => ?_⟩⟩, by rw [hxl]; omega, fun x hx => ?_⟩
  ·obtain ⟨c, h1, h2, _, h3⟩ := hxs j p hp
   exact ⟨c, h1, h2, h3⟩
  ·obtain ⟨i, hi, rfl⟩ := List.getElem_of_mem hx
   obtain ⟨_, _, _, h, _⟩ := hxs i _ (List.getElem?_eq_getElem hi)
   exact h
def OpensAt {α : Type} (P : Program) (fs : List (Nat × TypeId)) (off : Nat) (d : Kd α) (wf : α → Prop) : Prop :=
 ∀ (H : Type) (enc : TypeId × Value → H) (W : World) (base : Nat) (spare : Nat → Bool) (held : Bool) (fuel : Nat) (cs : List Value), cs.length = off + d.sz →
  (∀ f, f ∈ fs → ∃ x, DataW.trod enc P W base spare held fuel f.2 ((cs.drop f.1).take (P.cellsOf f.2)) = some x) → ∃ a, d.K W a (cs.drop off) ∧ wf a
theorem OpensAt.last {α : Type} {d : Kd α} {wf : α → Prop} {off : Nat} (h : Opens P t d wf) (hsz : P.cellsOf t = d.sz) : OpensAt P [(off, t)] off d wf := by
 intro H enc W base spare held fuel cs hl hf
 obtain ⟨x, hx⟩ := hf (off, t) (by simp)
 rw [hsz, List.take_of_length_le (by rw [List.length_drop]; omega)] at hx
 exact h H enc W base spare held fuel _ x hx
theorem OpensAt.cons {α β : Type} {d : Kd α} {wf : α → Prop} {d' : Kd β} {wf' : β → Prop} {off off' : Nat} {fs : List (Nat × TypeId)} (h : Opens P t d wf) (hsz : P.cellsOf t = d.sz) (ho : off' = off + d.sz)
  (h' : OpensAt P fs off' d' wf') : OpensAt P ((off, t) :: fs) off (Kd.pair d d') (fun x => wf x.1 ∧ wf' x.2) := by
 intro H enc W base spare held fuel cs hl hf
 obtain ⟨x, hx⟩ := hf (off, t) (by simp)
 have hl' : cs.length = off' + d'.sz := by rw [hl, ho]; show off + (d.sz + d'.sz) = _; omega
 obtain ⟨a, hK, hw⟩ := h H enc W base spare held fuel _ x hx
 obtain ⟨b, hK', hw'⟩ := h' H enc W base spare held fuel cs hl' (fun f hf' => hf f (by simp [hf']))
 refine ⟨(a, b), ⟨_, _, ?_, hK, hK'⟩, hw, hw'⟩
 rw [hsz, ho, ← List.drop_drop, List.take_append_drop]
theorem Opens.struct {α β : Type} {d : Kd β} {wf : β → Prop} {fs : Array Field} {l : List (Nat × TypeId)} (ht : P.underlying t = some (.struct fs)) (hl : fs.toList.map (fun f => (f.offset, f.type)) = l) (hsz : P.cellsOf t = d.sz)
  (h : OpensAt P l 0 d wf) (f : α → β) (g : β → α) (hfg : ∀ b, f (g b) = b) : Opens P t (Kd.iso d f) (fun x => wf (f x)) := by
 intro H enc W base spare held fuel cs x hx
 obtain ⟨xs, n, _, _, hcl, hxl, hfs⟩ := DataW.trod_struct ht hx
 obtain ⟨b, hK, hw⟩ := h H enc W base spare held n cs (by rw [hcl, hsz]; omega) (fun p hp => by
  rw [← hl] at hp
  obtain ⟨fd, hfd, rfl⟩ := List.mem_map.1 hp
  obtain ⟨i, hi, rfl⟩ := List.getElem_of_mem hfd
  have := hfs i fs.toList[i] (by simp)
  rw [List.getElem?_eq_getElem (by rw [hxl]; simpa using hi)] at this
  exact ⟨_, this⟩)
 exact ⟨g b, by show d.K W (f (g b)) cs; rw [hfg]; simpa using hK, by show wf (f (g b)); rw [hfg]; exact hw⟩
theorem Opens.imp {α : Type} {d : Kd α} {wf wf' : α → Prop} (h : Opens P t d wf) (hi : ∀ a, wf a → wf' a) : Opens P t d wf' := fun H enc W base spare held fuel cs x hx =>
 let ⟨a, h1, h2⟩ := h H enc W base spare held fuel cs x hx; ⟨a, h1, hi a h2⟩
theorem Opens.open {α : Type} {d : Kd α} {wf : α → Prop} (h : Opens P t d wf) {H : Type} {enc : TypeId × Value → H} {W : World} {base : Nat} {spare : Nat → Bool} {held : Bool} {v : Value} {y : DataW H} {p : List MemPlace}
  (hv : DataW.Trod enc P W base spare held t v y p) : ∃ a, d.K W a v.cells.toList ∧ wf a := by
 obtain ⟨fuel, hf⟩ := hv
 exact h H enc W base spare held fuel _ _ hf
end Go.Proofs.Ytckhjehibjdjdaa.Ob
namespace Go.Proofs.Ytckhjehibjdjdaa.P
open Go.RowKit Go.Proofs.Ytckhjehibjdjdaa.Ob Go.Proofs.YtckhjehibjdjdaaW.PrintWords
set_option linter.unusedVariables false
def I64 (x : Int) : Prop := -9223372036854775808 ≤ x ∧ x ≤ 9223372036854775807
def U64 (x : Int) : Prop := 0 ≤ x ∧ x ≤ 18446744073709551615
theorem i64_of {x : Int} (h : (Lit.int .i64 x).wf = true) : I64 x := by unfold I64; simp [Lit.wf, IntKind.min, IntKind.max, IntKind.bits, IntKind.signed] at h; omega
theorem u64_of {x : Int} (h : (Lit.int .u64 x).wf = true) : U64 x := by unfold U64; simp [Lit.wf, IntKind.min, IntKind.max, IntKind.bits, IntKind.signed] at h; omega
theorem o_i64 {t : TypeId} (h : Try.prog.underlying t = some (.int .i64)) : Opens Try.prog t (Kd.int .i64) I64 := (Opens.int h).imp fun _ h => i64_of h
theorem o_u64 {t : TypeId} (h : Try.prog.underlying t = some (.int .u64)) : Opens Try.prog t (Kd.int .u64) U64 := (Opens.int h).imp fun _ h => u64_of h
def wfd48 (x : S48) : Prop := I64 x.f0 ∧ I64 x.f1
theorem o48 : Opens Try.prog 48 k48 wfd48 := (Opens.struct Try.underlying48 rfl (by kernel_rfl) (OpensAt.cons (o_i64 Try.underlying3) (by kernel_rfl) rfl (OpensAt.last (o_i64 Try.underlying3) (by kernel_rfl))) _ (fun p => (⟨p.1, p.2⟩ : S48)) (fun _ => rfl)).imp (fun _ h => h)
def wfd51 (x : S51) : Prop := wfd48 x.f0 ∧ U64 x.f1 ∧ I64 x.f2
theorem o51 : Opens Try.prog 51 k51 wfd51 := (Opens.struct Try.underlying51 rfl (by kernel_rfl) (OpensAt.cons (o48) (by kernel_rfl) rfl (OpensAt.cons (o_u64 Try.underlying49) (by kernel_rfl) rfl (OpensAt.last (o_i64 Try.underlying3) (by kernel_rfl)))) _ (fun p => (⟨p.1, p.2.1, p.2.2⟩ : S51)) (fun _ => rfl)).imp (fun _ h => h)
def wfd52 (x : S52) : Prop := wfd48 x.f0 ∧ U64 x.f1 ∧ I64 x.f2
def wfd41 (x : S41) : Prop := I64 x.f0 ∧ I64 x.f1 ∧ I64 x.f2 ∧ True ∧ (x.f4.length ≤ maxLen ∧ ∀ y ∈ x.f4, wfd52 y)
def wfd27 (x : S27) : Prop := I64 x.f0 ∧ I64 x.f1 ∧ I64 x.f2 ∧ I64 x.f3
theorem o27 : Opens Try.prog 27 k27 wfd27 := (Opens.struct Try.underlying27 rfl (by kernel_rfl) (OpensAt.cons (o_i64 Try.underlying3) (by kernel_rfl) rfl (OpensAt.cons (o_i64 Try.underlying3) (by kernel_rfl) rfl (OpensAt.cons (o_i64 Try.underlying3) (by kernel_rfl) rfl (OpensAt.last (o_i64 Try.underlying3) (by kernel_rfl))))) _ (fun p => (⟨p.1, p.2.1, p.2.2.1, p.2.2.2⟩ : S27)) (fun _ => rfl)).imp (fun _ h => h)
def wfd29 (x : S29) : Prop := I64 x.f0 ∧ I64 x.f1 ∧ wfd27 x.f2
theorem o29 : Opens Try.prog 29 k29 wfd29 := (Opens.struct Try.underlying29 rfl (by kernel_rfl) (OpensAt.cons (o_i64 Try.underlying3) (by kernel_rfl) rfl (OpensAt.cons (o_i64 Try.underlying3) (by kernel_rfl) rfl (OpensAt.last (o27) (by kernel_rfl)))) _ (fun p => (⟨p.1, p.2.1, p.2.2⟩ : S29)) (fun _ => rfl)).imp (fun _ h => h)
end Go.Proofs.Ytckhjehibjdjdaa.P
namespace Go.Proofs.Ytckhjehibjdjdaa.P
open Go.RowKit Go.Proofs.YtckhjehibjdjdaaW.PrintWords Go.Proofs.YtckhjehibjdjdaaW.PrintLast Go.Proofs.YtckhjehibjdjdaaW.PrintMore
attribute [local go_sem] max2_int min2_int max_two min_two max_three min_three max_four min_four
set_option linter.unusedVariables false
set_option linter.unusedSimpArgs false
end Go.Proofs.Ytckhjehibjdjdaa.P
namespace Go.Proofs.Ytckhjehibjdjdaa.P
open Go.RowKit Go.Proofs.YtckhjehibjdjdaaW.PrintWords Go.Proofs.YtckhjehibjdjdaaW.PrintLast Go.Proofs.YtckhjehibjdjdaaW.PrintMore
open Go.Proofs.Ytckhjehibjdjdaa.Bits Go.Proofs.Ytckhjehibjdjdaa.Mp
set_option linter.unusedVariables false
set_option linter.unusedSimpArgs false
theorem u64_id {x : Int} (h0 : 0 ≤ x) (h1 : x < 18446744073709551616) : IntKind.u64.wrap x = x := by
 obtain ⟨n, rfl⟩ := Int.eq_ofNat_of_zero_le h0
 rw [wrapN, Nat.mod_eq_of_lt (by omega)]
theorem half_nat (M j : Nat) (hM : M < 18446744073709551616) : IntKind.u64.wrap (Int.tdiv ((M / 2 ^ j : Nat) : Int) 2) = ((M / 2 ^ (j + 1) : Nat) : Int) := by
 have h1 : M / 2 ^ (j + 1) = M / 2 ^ j / 2 := by rw [Nat.pow_succ, Nat.div_div_eq_div_mul]
 have h2 : M / 2 ^ j ≤ M := Nat.div_le_self _ _
 generalize M / 2 ^ j = a at *
 rw [h1, Int.tdiv_eq_ediv_of_nonneg (by omega), u64_id (by omega) (by omega)]
 omega
theorem has_l (M : Nat) (hM : M < 18446744073709551616) (n : Nat) : ∀ j i : Nat, j ≤ i → i - j = n → i < 64 → Ev (fun k => ensembleref01_Has.l0 k ((M / 2 ^ j : Nat) : Int) (i : Int) (j : Int)) (M.testBit i) := by
 induction n with
 | zero =>
  intro j i hj hn hi
  obtain rfl : j = i := by omega
  refine Ev.step (f := fun _ => some (M.testBit j)) (fun k => ?_) (Ev.now _)
  rw [ensembleref01_Has.l0, if_neg (by omega), if_pos (by omega), if_pos (by omega), Nat.testBit_eq_decide_div_mod_eq]
  generalize M / 2 ^ j = a
  rw [Int.tmod_eq_emod_of_nonneg (by omega)]
  congr 1
  rw [Bool.eq_iff_iff]
  simp
  omega
 | succ n ih =>
  intro j i hj hn hi
  refine Ev.step (f := fun k => ensembleref01_Has.l0 k ((M / 2 ^ (j + 1) : Nat) : Int) (i : Int) ((j + 1 : Nat) : Int)) (fun k => ?_) (ih (j + 1) i (by omega) (by omega) hi)
  rw [ensembleref01_Has.l0, if_pos (by omega), half_nat M j hM, w_id (by omega)]
  congr 1
theorem has_ev (M i : Nat) (hM : M < 18446744073709551616) (hi : i < 64) : Ev (fun k => ensembleref01_Has.f k (M : Int) (i : Int)) (M.testBit i) := by
 have := has_l M hM i 0 i (by omega) (by omega) hi
 rw [Nat.pow_zero, Nat.div_one] at this
 exact this
def posI (M : Nat) : List Int := (pos M).map fun (i : Nat) => (i : Int)
def posTo (M i : Nat) : List Int := ((List.range i).filter fun j => M.testBit j).map fun (i : Nat) => (i : Int)
theorem posTo_len (M i : Nat) : (posTo M i).length ≤ i := by
 unfold posTo; rw [List.length_map]
 exact Nat.le_trans (List.length_filter_le _ _) (by simp)
theorem units_l (M : Nat) (hM : M < 18446744073709551616) (n : Nat) : ∀ i : Nat, i ≤ 64 → 64 - i = n → Ev (fun k => ensembleref01_Units.l0 k (M : Int) (posTo M i) (i : Int)) (posI M) := by
 induction n with
 | zero =>
  intro i hi hn
  obtain rfl : i = 64 := by omega
  refine Ev.step (f := fun _ => some (posI M)) (fun k => ?_) (Ev.now _)
  rw [ensembleref01_Units.l0, if_neg (by omega)]; rfl
 | succ n ih =>
  intro i hi hn
  refine Ev.step (fun k => by rw [ensembleref01_Units.l0, if_pos (by omega)]) (Ev.bind (has_ev M i hM (by omega)) ?_)
  have I := ih (i + 1) (by omega) (by omega)
  have hl := posTo_len M i
  refine Ev.congr (fun k => ?_) I
  have e1 : wrap64 ((i : Int) + 1) = ((i + 1 : Nat) : Int) := by rw [w_id (by omega)]; omega
  have e2 : posTo M (i + 1) = if M.testBit i = true then posTo M i ++ [(i : Int)] else posTo M i := by
   unfold posTo
   rw [List.range_succ, List.filter_append, List.map_append]
   split
   ·rename_i h; simp [h]
   ·rename_i h; simp [h]
  rw [e1, e2]
  split
  ·rw [if_pos (by omega)]
  ·rfl
theorem units_ev (M : Nat) (hM : M < 18446744073709551616) : Ev (fun k => ensembleref01_Units.f k (M : Int)) (posI M) := units_l M hM 64 0 (by omega) (by omega)
theorem posI_len (M : Nat) : ((posI M).length : Int) = popI (M : Int) := by
 unfold posI popI popN; simp
theorem posI_get (M i : Nat) (h : i < (posI M).length) : rd (posI M) (i : Int) = (((pos M)[i]'(by unfold posI at h; simpa using h) : Nat) : Int) := by
 simp [rd, posI, List.getD_eq_getElem?_getD] at h ⊢
 rw [List.getElem?_eq_getElem h]; rfl
theorem bit_l (u : Nat) (hu : u < 64) (n : Nat) : ∀ j : Nat, j ≤ u → u - j = n → Ev (fun k => ensembleref01_bit.l0 k (u : Int) ((2 ^ j : Nat) : Int) (j : Int)) ((2 ^ u : Nat) : Int) := by
 induction n with
 | zero =>
  intro j hj hn
  obtain rfl : j = u := by omega
  refine Ev.step (f := fun _ => some ((2 ^ j : Nat) : Int)) (fun k => ?_) (Ev.now _)
  rw [ensembleref01_bit.l0, if_neg (by omega)]
 | succ n ih =>
  intro j hj hn
  refine Ev.step (f := fun k => ensembleref01_bit.l0 k (u : Int) ((2 ^ (j + 1) : Nat) : Int) ((j + 1 : Nat) : Int)) (fun k => ?_) (ih (j + 1) (by omega) (by omega))
  have h2 : 2 ^ (j + 1) ≤ 2 ^ 63 := Nat.pow_le_pow_right (by omega) (by omega)
  rw [Nat.pow_succ] at h2 ⊢
  rw [ensembleref01_bit.l0, if_pos (by omega), u64_id (by omega) (by omega), w_id (by omega)]
  congr 1
theorem bit_ev (u : Nat) (hu : u < 64) : Ev (fun k => ensembleref01_bit.f k (u : Int)) ((2 ^ u : Nat) : Int) := bit_l u hu u 0 (by omega) (by omega)
def sumP (l : List Nat) : Nat := (l.map fun i => 2 ^ i).sum
theorem sumP_append (a b : List Nat) : sumP (a ++ b) = sumP a + sumP b := by simp [sumP]
theorem orAll_lt_n {l : List Nat} {n : Nat} (h : ∀ i ∈ l, i < n) : orAll l < 2 ^ n := by
 refine Nat.lt_pow_two_of_testBit _ fun j hj => ?_
 rw [testBit_orAll, decide_eq_false]
 intro hm
 have := h j hm
 omega
theorem sumP_orAll (l : List Nat) (hp : l.Pairwise (· < ·)) : ∀ n : Nat, n ≤ l.length → sumP (l.take n) = orAll (l.take n) := by
 intro n
 induction n with
 | zero => intro _; simp [sumP, orAll]
 | succ n ih =>
  intro hn
  have hlt : n < l.length := by omega
  have hb : orAll (l.take n) < 2 ^ l[n] := orAll_lt_n fun i hi => by
   obtain ⟨j, hj, rfl⟩ := List.mem_iff_getElem.1 hi
   rw [List.getElem_take]
   rw [List.length_take] at hj
   exact List.pairwise_iff_getElem.1 hp j n (by omega) hlt (by omega)
  have h1 := Nat.two_pow_add_eq_or_of_lt hb 1
  rw [Nat.mul_one, Nat.or_comm] at h1
  rw [List.take_succ_eq_append_getElem hlt, sumP_append, orAll_snoc, ih (by omega), ← h1]
  simp [sumP]
  omega
theorem sumP_lt (l : List Nat) (hp : l.Pairwise (· < ·)) (h : ∀ i ∈ l, i < 64) (n : Nat) (hn : n ≤ l.length) : sumP (l.take n) < 18446744073709551616 := by
 rw [sumP_orAll l hp n hn]
 exact orAll_lt_n (n := 64) fun i hi => h i (List.mem_of_mem_take hi)
theorem lowest_l (M n : Nat) (hM : M < 18446744073709551616) (hn : n ≤ popN M) (d : Nat) : ∀ j : Nat, j ≤ n → n - j = d → Ev (fun k => ensembleref01_Lowest.l0 k (n : Int) (posI M) ((sumP ((pos M).take j) : Nat) : Int) (j : Int)) ((lowN M n : Nat), 0) := by
 have h64 : popN M ≤ 64 := popN_le M
 have hb64 : ∀ i ∈ pos M, i < 64 := fun i hi => (mem_pos.1 hi).1
 induction d with
 | zero =>
  intro j hj hd
  obtain rfl : j = n := by omega
  refine Ev.step (f := fun _ => some (((lowN M j : Nat) : Int), (0 : Int))) (fun k => ?_) (Ev.now _)
  rw [ensembleref01_Lowest.l0, if_neg (by omega), sumP_orAll (pos M) (pos_sorted M) j (by unfold popN at hn; omega)]; rfl
 | succ d ih =>
  intro j hj hd
  have hjl : j < (pos M).length := by unfold popN at hn; omega
  have hji : j < (posI M).length := by unfold posI; simpa using hjl
  refine Ev.step (fun k => by rw [ensembleref01_Lowest.l0, if_pos (by omega), if_pos (by omega), if_pos (by omega), posI_get M j hji]) (Ev.bind (bit_ev _ (hb64 _ (List.getElem_mem hjl))) ?_)
  refine Ev.congr (fun k => ?_) (ih (j + 1) (by omega) (by omega))
  have hs := sumP_lt (pos M) (pos_sorted M) hb64 (j + 1) (by omega)
  rw [List.take_succ_eq_append_getElem hjl, sumP_append] at hs ⊢
  have e : sumP [(pos M)[j]] = 2 ^ (pos M)[j] := by simp [sumP]
  rw [e] at hs ⊢
  rw [u64_id (by omega) (by omega), w_id (by omega)]
  congr 1
theorem lowest_ev (M : Nat) (n : Int) (hM : M < 18446744073709551616) : Ev (fun k => ensembleref01_Lowest.f k (M : Int) n) (if n < 0 then (0, 1) else if n > popI (M : Int) then (0, 2) else (lowI (M : Int) n, 0)) := by
 by_cases h0 : n < 0
 ·rw [if_pos h0]
  exact Ev.congr (fun k => by rw [ensembleref01_Lowest.f, if_pos h0]) (Ev.now _)
 ·rw [if_neg h0]
  obtain ⟨n, rfl⟩ := Int.eq_ofNat_of_zero_le (show 0 ≤ n by omega)
  refine Ev.congr (fun k => by rw [ensembleref01_Lowest.f, if_neg h0]) (Ev.bind (units_ev M hM) ?_)
  have hl := posI_len M
  by_cases h1 : (n : Int) > popI (M : Int)
  ·rw [if_pos h1]
   exact Ev.congr (fun k => by rw [if_pos (by omega)]) (Ev.now _)
  ·rw [if_neg h1]
   have h2 : n ≤ popN M := by unfold popI at h1; rw [Int.toNat_natCast] at h1; omega
   refine Ev.congr (fun k => by rw [if_neg (by omega)]) ?_
   have := lowest_l M n hM h2 n 0 (by omega) (by omega)
   simp only [List.take_zero] at this
   exact this
end Go.Proofs.Ytckhjehibjdjdaa.P
namespace Go.Proofs.Ytckhjehibjdjdaa.P
open Go.RowKit Go.Proofs.YtckhjehibjdjdaaW.PrintWords Go.Proofs.YtckhjehibjdjdaaW.PrintLast Go.Proofs.YtckhjehibjdjdaaW.PrintMore
attribute [local go_sem] max2_int min2_int max_two min_two max_three min_three max_four min_four
set_option linter.unusedVariables false
set_option linter.unusedSimpArgs false
end Go.Proofs.Ytckhjehibjdjdaa.P
namespace Go.Proofs.Ytckhjehibjdjdaa.P
open Go.RowKit Go.Proofs.YtckhjehibjdjdaaW.PrintWords Go.Proofs.YtckhjehibjdjdaaW.PrintLast Go.Proofs.YtckhjehibjdjdaaW.PrintMore
attribute [local go_sem] max2_int min2_int max_two min_two max_three min_three max_four min_four
set_option linter.unusedVariables false
set_option linter.unusedSimpArgs false
def ensembleref12_Fits.T4 : Bool × List (List Nat × List Nat) := (true, [([], []), ([0], [0]), ([], []), ([2], [2]), ([1, 3], [1, 3]), ([4], [4]), ([5], [5]), ([6, 5], [5, 6]), ([5], [5]), ([8, 5], [5, 8]), ([7, 9, 5], [5, 7, 9]), ([5, 10], [5, 10]), ([11, 5], [11]), ([12], [12]), ([12], [12]), ([14, 12], [12, 14]), ([13, 15, 12, 12], [12, 13, 15]), ([12], [12]), ([17, 12], [12, 17]), ([16, 18, 12], [12, 16, 18]), ([12, 19], [12, 19]), ([20, 16, 0, 1, 2, 3, 4, 5, 6, 7, 8, 9, 10, 11, 12, 13, 14, 15, 16, 17, 18, 19, 20], [20])])
def ensembleref12_Fits.B4 : List Nat := [0, 1, 0, 4, 15, 31, 63, 127, 63, 319, 1023, 2047, 4095, 8191, 8191, 24575, 65535, 8191, 139263, 524287, 1048575, 2097151]
theorem ensembleref12_Fits.bits4 : waitsOk ensembleref12_Fits.T4.2 ensembleref12_Fits.B4 = true := by kernel_rfl
end Go.Proofs.Ytckhjehibjdjdaa.P
namespace Go.Proofs.Ytckhjehibjdjdaa.P
open Go.RowKit Go.Proofs.YtckhjehibjdjdaaW.PrintWords Go.Proofs.YtckhjehibjdjdaaW.PrintLast Go.Proofs.YtckhjehibjdjdaaW.PrintMore
open Go.Proofs.Ytckhjehibjdjdaa.Bits Go.Proofs.Ytckhjehibjdjdaa.Mp
set_option linter.unusedVariables false
set_option linter.unusedSimpArgs false
theorem pos_orAll (l : List Nat) (hp : l.Pairwise (· < ·)) (h : ∀ i ∈ l, i < 64) : pos (orAll l) = l := by
 refine List.Perm.eq_of_pairwise (le := (· < ·)) (fun a b _ _ h1 h2 => absurd h1 (by omega)) (pos_sorted _) hp ?_
 have n1 : (pos (orAll l)).Nodup := (pos_sorted _).imp (fun h => by omega)
 have n2 : l.Nodup := hp.imp (fun h => by omega)
 refine (List.perm_ext_iff_of_nodup n1 n2).2 fun j => ?_
 rw [mem_pos, testBit_orAll, decide_eq_true_eq]
 exact ⟨fun h => h.2, fun hj => ⟨h j hj, hj⟩⟩
theorem sub_low (M n : Nat) (hM : M < 18446744073709551616) : M = lowN M n + orAll ((pos M).drop n) := by
 have e0 := orAll_pos (m := M) (by simpa using hM)
 have e1 := sumP_orAll (pos M) (pos_sorted M) (pos M).length (Nat.le_refl _)
 rw [List.take_length] at e1
 have hd : ((pos M).drop n).Pairwise (· < ·) := (pos_sorted M).sublist (List.drop_sublist _ _)
 have e2 := sumP_orAll ((pos M).drop n) hd _ (Nat.le_refl _)
 rw [List.take_length] at e2
 have e3 := sumP_append ((pos M).take n) ((pos M).drop n)
 rw [List.take_append_drop] at e3
 have e4 : sumP ((pos M).take n) = lowN M n := by
  unfold lowN
  by_cases h : n ≤ (pos M).length
  ·exact sumP_orAll (pos M) (pos_sorted M) n h
  ·rw [List.take_of_length_le (by omega), e1]
 omega
theorem pop_sub_low (M n : Nat) (hM : M < 18446744073709551616) : popN (M - lowN M n) = popN M - n := by
 have h := sub_low M n hM
 have e : M - lowN M n = orAll ((pos M).drop n) := by omega
 have hd : ((pos M).drop n).Pairwise (· < ·) := (pos_sorted M).sublist (List.drop_sublist _ _)
 unfold popN
 rw [e, pos_orAll _ hd (fun i hi => (mem_pos.1 (List.mem_of_mem_drop hi)).1), List.length_drop]
theorem low_le (M n : Nat) (hM : M < 18446744073709551616) : lowN M n ≤ M := by have := sub_low M n hM; omega
theorem right04 (g c mn mx : Int) : ensembleref04_Right.f g c mn mx = some (goodShape g c mn mx) := by
 unfold ensembleref04_Right.f
 by_cases h1 : g ≥ 0
 ·by_cases h2 : g ≤ 16
  ·by_cases h3 : c ≥ 0
   ·by_cases h4 : c ≤ 1024
    ·rw [if_pos h1, if_pos h2, if_pos h3, if_pos h4, w_id (by omega)]
     unfold goodShape
     rw [decide_eq_true (p := 0 ≤ g) (by omega), decide_eq_true (p := g ≤ 16) h2, decide_eq_true (p := 0 ≤ c) (by omega), decide_eq_true (p := c ≤ 1024) h4]
     by_cases h5 : g + c > 0
     ·rw [if_pos h5]
      have e5 : (decide (g = 0) && decide (c = 0)) = false := by
       rw [Bool.and_eq_false_iff]
       by_cases hg : g = 0
       ·right; exact decide_eq_false (by omega)
       ·left; exact decide_eq_false hg
      rw [e5]
      by_cases h6 : mn ≥ 1
      ·rw [if_pos h6, decide_eq_true (p := 1 ≤ mn) h6]
       by_cases h7 : mn ≤ mx
       ·rw [if_pos h7, decide_eq_true h7, decide_eq_true (p := 1 ≤ mx) (by omega)]; simp
       ·rw [if_neg h7, decide_eq_false h7]; simp
      ·rw [if_neg h6, decide_eq_false (p := 1 ≤ mn) h6]; simp
     ·rw [if_neg h5, decide_eq_true (p := g = 0) (by omega), decide_eq_true (p := c = 0) (by omega)]; simp
    ·rw [if_pos h1, if_pos h2, if_pos h3, if_neg h4]; unfold goodShape; rw [decide_eq_false h4]; simp
   ·rw [if_pos h1, if_pos h2, if_neg h3]; unfold goodShape; rw [decide_eq_false (p := 0 ≤ c) h3]; simp
  ·rw [if_pos h1, if_neg h2]; unfold goodShape; rw [decide_eq_false h2]; simp
 ·rw [if_neg h1]; unfold goodShape; rw [decide_eq_false (p := 0 ≤ g) h1]; simp
theorem right12 (q m g c mn mx : Int) : ensembleref12_Right.f q m g c mn mx = some (rightB m g c mn mx) := by
 unfold ensembleref12_Right.f rightB
 rw [right04, Option.bind_some]
 by_cases h : goodShape g c mn mx = true
 ·rw [if_pos h, h]
  by_cases h1 : m ≥ 1
  ·rw [if_pos h1, decide_eq_true (p := 1 ≤ m) h1]; simp
  ·rw [if_neg h1, decide_eq_false (p := 1 ≤ m) h1]; simp
 ·rw [if_neg h, Bool.eq_false_iff.2 h]; simp
theorem good_out {g c mn mx : Int} (h : goodShape g c mn mx = true) : 0 ≤ g ∧ g ≤ 16 ∧ 0 ≤ c ∧ c ≤ 1024 ∧ 1 ≤ mn ∧ mn ≤ mx ∧ 1 ≤ mx ∧ mx ≤ 16 ∧ ¬ (g = 0 ∧ c = 0) := by
 simp only [goodShape, Bool.and_eq_true, decide_eq_true_eq, Bool.not_eq_true'] at h
 obtain ⟨⟨⟨⟨⟨⟨⟨⟨h1, h2⟩, h3⟩, h4⟩, h5⟩, h6⟩, h7⟩, h8⟩, h9⟩ := h
 refine ⟨h1, h2, h3, h4, h5, h6, h7, h8, fun ⟨a, b⟩ => ?_⟩
 rw [decide_eq_true a, decide_eq_true b] at h9
 cases h9
def pieceB (g c s0 s1 m cp : Int) : Int × Int × Int × Int × Int × Int × Int × Int × Int :=
 if g ≤ popI m ∧ 0 ≤ cp ∧ c ≤ cp then (s0, s1, lowI m g, c, s0, s1, m - lowI m g, cp - c, 0) else (0, 0, 0, 0, 0, 0, 0, 0, 7)
theorem piece_ev (g c mn mx s0 s1 m cp : Int) (hg : goodShape g c mn mx = true) (hm : 0 ≤ m ∧ m < 18446744073709551616) (hc : cp ≤ 9223372036854775807) :
  Ev (fun k => ensembleref04_Piece.f k g c mn mx s0 s1 m cp) (pieceB g c s0 s1 m cp) := by
 obtain ⟨M, rfl⟩ := Int.eq_ofNat_of_zero_le hm.1
 have hM : M < 18446744073709551616 := by omega
 have hb := good_out hg
 have hlow := lowest_ev M g hM
 rw [if_neg (by omega)] at hlow
 refine Ev.congr (fun k => by rw [ensembleref04_Piece.f]) (Ev.bind hlow ?_)
 by_cases h1 : g > popI (M : Int)
 ·rw [if_pos h1, show pieceB g c s0 s1 (M : Int) cp = (0, 0, 0, 0, 0, 0, 0, 0, 7) from if_neg (by omega)]
  exact Ev.congr (fun k => by rw [if_neg (by decide)]) (Ev.now _)
 ·rw [if_neg h1]
  have h2 : lowN M g.toNat ≤ M := low_le M _ hM
  have e3 : lowI (M : Int) g = ((lowN M g.toNat : Nat) : Int) := rfl
  by_cases h4 : cp < 0
  ·rw [show pieceB g c s0 s1 (M : Int) cp = (0, 0, 0, 0, 0, 0, 0, 0, 7) from if_neg (by omega)]
   exact Ev.congr (fun k => by rw [if_pos (by rfl), if_pos h4]) (Ev.now _)
  ·by_cases h5 : cp < c
   ·rw [show pieceB g c s0 s1 (M : Int) cp = (0, 0, 0, 0, 0, 0, 0, 0, 7) from if_neg (by omega)]
    exact Ev.congr (fun k => by rw [if_pos (by rfl), if_neg h4, if_pos h5]) (Ev.now _)
   ·rw [show pieceB g c s0 s1 (M : Int) cp = (s0, s1, lowI (M : Int) g, c, s0, s1, (M : Int) - lowI (M : Int) g, cp - c, 0) from if_pos (by omega)]
    refine Ev.congr (fun k => ?_) (Ev.now _)
    rw [if_pos (by rfl), if_neg h4, if_neg h5]
    simp only
    rw [e3, u64_id (by omega) (by omega), w_id (by omega)]
def fitC (g c : Int) (n : Nat) (m cp : Int) : Int := if 0 ≤ cp then (n : Int) + min (16 - (n : Int)) (min (eachI (popI m) g) (eachI cp c)) else (n : Int)
theorem pop_sub (m g : Int) (hm : 0 ≤ m ∧ m < 18446744073709551616) (hg : 0 ≤ g) (hgp : g ≤ popI m) : popI (m - lowI m g) = popI m - g ∧ 0 ≤ m - lowI m g ∧ m - lowI m g < 18446744073709551616 := by
 obtain ⟨M, rfl⟩ := Int.eq_ofNat_of_zero_le hm.1
 obtain ⟨G, rfl⟩ := Int.eq_ofNat_of_zero_le hg
 have hM : M < 18446744073709551616 := by omega
 have h1 := low_le M G hM
 have h2 := pop_sub_low M G hM
 have e3 : lowI (M : Int) (G : Int) = ((lowN M G : Nat) : Int) := by unfold lowI; simp
 have e4 : popI (M : Int) = ((popN M : Nat) : Int) := by unfold popI; simp
 rw [e3]
 rw [e4] at hgp ⊢
 have e5 : ((M : Int) - ((lowN M G : Nat) : Int)) = ((M - lowN M G : Nat) : Int) := by omega
 rw [e5]
 have e6 : popI ((M - lowN M G : Nat) : Int) = ((popN (M - lowN M G) : Nat) : Int) := by unfold popI; simp
 rw [e6, h2]
 omega
theorem each_sub (a b : Int) (hb : 0 ≤ b) (h : b ≤ a) (n : Nat) (hn : n < 16) (X : Int) : 1 ≤ eachI a b ∧ (min (16 - (n : Int)) (min (eachI a b) X)) = 1 + min (16 - ((n : Int) + 1)) (min (eachI (a - b) b) (X - 1)) := by
 unfold eachI
 by_cases h0 : b = 0
 ·rw [if_pos h0, if_pos h0]; omega
 ·rw [if_neg h0, if_neg h0, show (a - b) / b = a / b - 1 from by
   rw [Int.sub_ediv_of_dvd _ (Int.dvd_refl b), Int.ediv_self h0]]
  have : 1 ≤ a / b := (Int.le_ediv_iff_mul_le (by omega)).2 (by omega)
  omega
theorem fits04_l (g c mn mx s0 s1 : Int) (hg : goodShape g c mn mx = true) (d : Nat) : ∀ (n : Nat) (m cp : Int), n ≤ 16 → 16 - n = d → 0 ≤ m ∧ m < 18446744073709551616 → cp ≤ 9223372036854775807 →
  Ev (fun k => ensembleref04_Fits.l0 k (n : Int) g c mn mx s0 s1 m cp) (fitC g c n m cp) := by
 have hb := good_out hg
 induction d with
 | zero =>
  intro n m cp hn hd hm hc
  obtain rfl : n = 16 := by omega
  refine Ev.step (f := fun _ => some (fitC g c 16 m cp)) (fun k => ?_) (Ev.now _)
  rw [ensembleref04_Fits.l0, if_neg (by omega)]
  unfold fitC
  split
  ·rename_i h0
   have h1 := eachI_nn (popI_bd m).1 (show 0 ≤ g by omega)
   have h2 := eachI_nn h0 (show 0 ≤ c by omega)
   congr 1; omega
  ·rfl
 | succ d ih =>
  intro n m cp hn hd hm hc
  have hpb := popI_bd m
  refine Ev.step (fun k => by rw [ensembleref04_Fits.l0, if_pos (by omega)]) (Ev.bind (piece_ev g c mn mx s0 s1 m cp hg hm hc) ?_)
  by_cases h : g ≤ popI m ∧ 0 ≤ cp ∧ c ≤ cp
  ·rw [show pieceB g c s0 s1 m cp = (s0, s1, lowI m g, c, s0, s1, m - lowI m g, cp - c, 0) from if_pos h]
   have hs := pop_sub m g hm (by omega) h.1
   have I := ih (n + 1) (m - lowI m g) (cp - c) (by omega) (by omega) hs.2 (by omega)
   have e : fitC g c (n + 1) (m - lowI m g) (cp - c) = fitC g c n m cp := by
    unfold fitC
    rw [if_pos (by omega), if_pos (by omega), hs.1]
    have A := each_sub (popI m) g (by omega) h.1 n (by omega) (eachI cp c)
    have B := each_sub cp c (by omega) h.2.2 n (by omega) (eachI (popI m - g) g + 1)
    omega
   rw [e] at I
   refine Ev.congr (fun k => ?_) I
   rw [if_pos (by rfl), w_id (by omega)]
   congr 1
  ·rw [show pieceB g c s0 s1 m cp = (0, 0, 0, 0, 0, 0, 0, 0, 7) from if_neg h]
   refine Ev.congr (fun k => ?_) (Ev.now _)
   rw [if_neg (by decide)]
   congr 1
   unfold fitC
   split
   ·rename_i h0
    have h1 := eachI_nn (popI_bd m).1 (show 0 ≤ g by omega)
    have h2 := eachI_nn h0 (show 0 ≤ c by omega)
    by_cases hp : g ≤ popI m
    ·have : eachI cp c = 0 := by
      unfold eachI
      rw [if_neg (by omega)]
      exact Int.ediv_eq_zero_of_lt h0 (by omega)
     omega
    ·have : eachI (popI m) g = 0 := by
      unfold eachI
      rw [if_neg (by omega)]
      exact Int.ediv_eq_zero_of_lt hpb.1 (by omega)
     omega
   ·rfl
theorem fits04_ev (g c mn mx s0 s1 m cp : Int) (hm : 0 ≤ m ∧ m < 18446744073709551616) (hc : cp ≤ 9223372036854775807) : Ev (fun k => ensembleref04_Fits.f k g c mn mx s0 s1 m cp) (fitV g c mn mx m cp) := by
 unfold ensembleref04_Fits.f fitV
 refine Ev.congr (fun k => by rw [right04, Option.bind_some]) ?_
 by_cases h : goodShape g c mn mx = true
 ·have hb := good_out h
  refine Ev.congr (fun k => by rw [if_pos h]) ?_
  have := fits04_l g c mn mx s0 s1 h 16 0 m cp (by omega) (by omega) hm hc
  unfold fitC at this
  by_cases h0 : 0 ≤ cp
  ·rw [if_pos h0] at this
   rw [if_pos ⟨h, h0⟩]
   unfold fitN
   have e : (((0 : Nat) : Int) + min (16 - ((0 : Nat) : Int)) (min (eachI (popI m) g) (eachI cp c))) = min 16 (min (eachI (popI m) g) (eachI cp c)) := by omega
   rw [e] at this
   exact this
  ·rw [if_neg h0] at this
   rw [if_neg (fun x => h0 x.2)]
   exact this
 ·rw [if_neg (fun x => h x.1)]
  exact Ev.congr (fun k => by rw [if_neg h]) (Ev.now _)
theorem room05_l (g c mn mx : Int) (view : List S51) (hl : view.length ≤ 4398046511104) (hv : ∀ f ∈ view, freeOk f = true) (d : Nat) : ∀ (i : Nat) (s : Int), i ≤ view.length → view.length - i = d → 0 ≤ s → s ≤ 16 * i →
  Ev (fun k => ensembleref05_Room.l0 k view s (i : Int) g c mn mx) (s + roomS g c mn mx (view.drop i)) := by
 induction d with
 | zero =>
  intro i s hi hd h0 hs
  refine Ev.step (f := fun _ => some (s + roomS g c mn mx (view.drop i))) (fun k => ?_) (Ev.now _)
  rw [ensembleref05_Room.l0, if_neg (by omega), List.drop_eq_nil_of_le (by omega)]
  simp [roomS]
 | succ d ih =>
  intro i s hi hd h0 hs
  have hil : i < view.length := by omega
  have hf := hv _ (List.getElem_mem hil)
  simp only [freeOk, w64B, Bool.and_eq_true, decide_eq_true_eq] at hf
  have hb := fitV_bd g c mn mx (view[i]).f1 (view[i]).f2
  refine Ev.step (fun k => by rw [ensembleref05_Room.l0, if_pos (by omega), if_pos (by omega), rd51' view i hil]) (Ev.bind (fits04_ev g c mn mx _ _ _ _ hf.1 hf.2.2) ?_)
  have I := ih (i + 1) (s + fitV g c mn mx (view[i]).f1 (view[i]).f2) (by omega) (by omega) (by omega) (by omega)
  have e : s + fitV g c mn mx (view[i]).f1 (view[i]).f2 + roomS g c mn mx (view.drop (i + 1)) = s + roomS g c mn mx (view.drop i) := by
   rw [List.drop_eq_getElem_cons hil]
   simp only [roomS, List.map_cons, List.sum_cons]
   omega
  rw [e] at I
  refine Ev.congr (fun k => ?_) I
  rw [w_id (by omega), w_id (by omega)]
  congr 1
theorem room05_ev (g c mn mx : Int) (view : List S51) (hl : view.length ≤ 4398046511104) (hv : ∀ f ∈ view, freeOk f = true) : Ev (fun k => ensembleref05_Room.f k view g c mn mx) (roomS g c mn mx view) := by
 have := room05_l g c mn mx view hl hv view.length 0 0 (by omega) (by omega) (by omega) (by omega)
 rw [List.drop_zero, Int.zero_add] at this
 exact this
end Go.Proofs.Ytckhjehibjdjdaa.P
namespace Go.Proofs.Ytckhjehibjdjdaa.P
open Go.RowKit Go.Proofs.YtckhjehibjdjdaaW.PrintWords Go.Proofs.YtckhjehibjdjdaaW.PrintLast Go.Proofs.YtckhjehibjdjdaaW.PrintMore
attribute [local go_sem] max2_int min2_int max_two min_two max_three min_three max_four min_four
set_option linter.unusedVariables false
set_option linter.unusedSimpArgs false
end Go.Proofs.Ytckhjehibjdjdaa.P
namespace Go.Proofs.Ytckhjehibjdjdaa.P
open Go.RowKit Go.Proofs.YtckhjehibjdjdaaW.PrintWords Go.Proofs.YtckhjehibjdjdaaW.PrintLast Go.Proofs.YtckhjehibjdjdaaW.PrintMore
attribute [local go_sem] max2_int min2_int max_two min_two max_three min_three max_four min_four
set_option linter.unusedVariables false
set_option linter.unusedSimpArgs false
end Go.Proofs.Ytckhjehibjdjdaa.P
namespace Go.Proofs.Ytckhjehibjdjdaa.P
open Go.RowKit Go.Proofs.YtckhjehibjdjdaaW.PrintWords Go.Proofs.YtckhjehibjdjdaaW.PrintLast Go.Proofs.YtckhjehibjdjdaaW.PrintMore
open Go.Proofs.Ytckhjehibjdjdaa.Bits Go.Proofs.Ytckhjehibjdjdaa.Mp
set_option linter.unusedVariables false
set_option linter.unusedSimpArgs false
theorem andNot_nat (a b : Nat) (ha : a < 18446744073709551616) (hb : b < 18446744073709551616) : Go.bits .andNot .u64 (a : Int) (b : Int) = ((a - (a &&& b) : Nat) : Int) := by
 have h1 : (BitVec.ofInt 64 (a : Int)).toNat = a := by
  rw [BitVec.ofInt_natCast, BitVec.toNat_ofNat]; exact Nat.mod_eq_of_lt (by omega)
 have h2 : (BitVec.ofInt 64 (b : Int)).toNat = b := by
  rw [BitVec.ofInt_natCast, BitVec.toNat_ofNat]; exact Nat.mod_eq_of_lt (by omega)
 show IntKind.u64.wrap ((BitVec.ofInt 64 (a : Int) &&& ~~~ BitVec.ofInt 64 (b : Int)).toNat : Int) = _
 generalize BitVec.ofInt 64 (a : Int) = A at *
 generalize BitVec.ofInt 64 (b : Int) = B at *
 have hz : (A &&& ~~~B) &&& (A &&& B) = 0#64 := by ext i; simp; intro _ h _; exact h
 have hs : (A &&& ~~~B) + (A &&& B) = A := by
  rw [BitVec.add_eq_or_of_and_eq_zero _ _ hz]
  ext i; simp; cases A[i] <;> cases B[i] <;> rfl
 have hn := BitVec.toNat_add_of_and_eq_zero hz
 rw [hs, BitVec.toNat_and A B, h1, h2] at hn
 have hl := (A &&& ~~~B).isLt
 rw [wrapN, Nat.mod_eq_of_lt (by omega)]
 omega
def isAt (a b : Int) (f : S51) : Bool := f.f0.f0 == a && (f.f0.f1 == b)
def findI (view : List S51) (a b : Int) : Int := match view.findIdx? (isAt a b) with
 | some j => (j : Int)
 | none => -1
theorem find_l (view : List S51) (a b : Int) (hl : view.length < 4398046511104) (d : Nat) : ∀ i : Nat, i ≤ view.length → view.length - i = d →
  Ev (fun k => ensembleref05_find.l0 k view (i : Int) a b) (match (view.drop i).findIdx? (isAt a b) with | some j => ((i + j : Nat) : Int) | none => -1) := by
 induction d with
 | zero =>
  intro i hi hd
  rw [List.drop_eq_nil_of_le (by omega)]
  exact Ev.step (f := fun _ => some (-1)) (fun k => by rw [ensembleref05_find.l0, if_neg (by omega)]) (Ev.now _)
 | succ d ih =>
  intro i hi hd
  have hil : i < view.length := by omega
  rw [List.drop_eq_getElem_cons hil, List.findIdx?_cons]
  by_cases h : isAt a b view[i] = true
  ·rw [if_pos h]
   refine Ev.step (f := fun _ => some ((i + 0 : Nat) : Int)) (fun k => ?_) (Ev.now _)
   rw [ensembleref05_find.l0, if_pos (by omega), if_pos (by omega), rd51' view i hil, if_pos (show (view[i].f0.f0 == a && (view[i].f0.f1 == b)) = true from h)]; rfl
  ·rw [if_neg h]
   have I := ih (i + 1) (by omega) (by omega)
   refine Ev.step (f := fun k => ensembleref05_find.l0 k view ((i + 1 : Nat) : Int) a b) (fun k => ?_) ?_
   ·rw [ensembleref05_find.l0, if_pos (by omega), if_pos (by omega), rd51' view i hil, if_neg (show ¬ (view[i].f0.f0 == a && (view[i].f0.f1 == b)) = true from h), w_id (by omega)]; rfl
   ·cases hf : (view.drop (i + 1)).findIdx? (isAt a b) with
    | none => rw [hf] at I; exact I
    | some j =>
     rw [hf] at I
     simp only [Option.map_some]
     rw [show i + (j + 1) = i + 1 + j by omega]; exact I
theorem find_ev (view : List S51) (a b : Int) (hl : view.length < 4398046511104) : Ev (fun k => ensembleref05_find.f k view a b) (findI view a b) := by
 have := find_l view a b hl view.length 0 (by omega) (by omega)
 rw [List.drop_zero] at this
 unfold findI
 cases hf : view.findIdx? (isAt a b) with
 | none => rw [hf] at this; exact this
 | some j => rw [hf] at this; simp only [Nat.zero_add] at this; exact this
def spot (f : S51) : Int × Int := (f.f0.f0, f.f0.f1)
def cpOk (f : S51) : Prop := 0 ≤ f.f2 ∧ f.f2 ≤ 1048576
def viewR (view : List S51) : Prop := (∀ f ∈ view, cpOk f) ∧ (view.map spot).Nodup
theorem isAt_iff {a b : Int} {f : S51} : isAt a b f = true ↔ spot f = (a, b) := by
 unfold isAt spot; simp
theorem findI_neg {view : List S51} {a b : Int} : findI view a b < 0 ↔ (a, b) ∉ view.map spot := by
 unfold findI
 cases h : view.findIdx? (isAt a b) with
 | none =>
  rw [List.findIdx?_eq_none_iff] at h
  simp only [List.mem_map, not_exists, not_and]
  exact ⟨fun _ f hf e => (by rw [← isAt_iff, h f hf] at e; cases e), fun _ => by omega⟩
 | some j =>
  rw [List.findIdx?_eq_some_iff_getElem] at h
  obtain ⟨hj, h1, _⟩ := h
  constructor
  ·intro h; simp only at h; omega
  ·intro hn
   exact absurd (List.mem_map.2 ⟨view[j], List.getElem_mem hj, isAt_iff.1 h1⟩) hn
theorem findI_bd (view : List S51) (a b : Int) : -1 ≤ findI view a b ∧ findI view a b < view.length := by
 unfold findI
 cases h : view.findIdx? (isAt a b) with
 | none => simp only; omega
 | some j =>
  rw [List.findIdx?_eq_some_iff_getElem] at h
  obtain ⟨hj, _⟩ := h
  simp only; omega
theorem right05_l (view : List S51) (hl : view.length < 4398046511104) (d : Nat) : ∀ i : Nat, i ≤ view.length → view.length - i = d → (∀ f ∈ view.take i, cpOk f) → ((view.take i).map spot).Nodup →
  (Ev (fun k => ensembleref05_Right.l0 k view (i : Int)) true ∧ viewR view) ∨ Ev (fun k => ensembleref05_Right.l0 k view (i : Int)) false := by
 induction d with
 | zero =>
  intro i hi hd hc hn
  left
  obtain rfl : i = view.length := by omega
  rw [List.take_length] at hc hn
  exact ⟨Ev.step (f := fun _ => some true) (fun k => by rw [ensembleref05_Right.l0, if_neg (by omega)]) (Ev.now _), hc, hn⟩
 | succ d ih =>
  intro i hi hd hc hn
  have hil : i < view.length := by omega
  by_cases h1 : (view[i]).f2 < 0
  ·right
   exact Ev.step (f := fun _ => some false) (fun k => by rw [ensembleref05_Right.l0, if_pos (by omega), if_pos (by omega), rd51' view i hil, if_pos h1]) (Ev.now _)
  by_cases h2 : (view[i]).f2 > 1048576
  ·right
   exact Ev.step (f := fun _ => some false) (fun k => by rw [ensembleref05_Right.l0, if_pos (by omega), if_pos (by omega), rd51' view i hil, if_neg h1, if_pos h2]) (Ev.now _)
  have hF := find_ev (view.take i) (view[i]).f0.f0 (view[i]).f0.f1 (by rw [List.length_take]; omega)
  have hstep : ∀ k, ensembleref05_Right.l0 (k + 1) view (i : Int) = (ensembleref05_find.f k (view.take i) (view[i]).f0.f0 (view[i]).f0.f1).bind fun t127 => (if t127 ≥ 0 then (some false) else (ensembleref05_Right.l0 k view (wrap64 ((i : Int) + 1)))) := fun k => by
   rw [ensembleref05_Right.l0, if_pos (by omega), if_pos (by omega), rd51' view i hil, if_neg h1, if_neg h2, if_pos (by omega), Int.toNat_natCast]
  by_cases h3 : findI (view.take i) (view[i]).f0.f0 (view[i]).f0.f1 ≥ 0
  ·right
   exact Ev.step hstep (Ev.bind hF (Ev.congr (fun k => by rw [if_pos h3]) (Ev.now _)))
  ·have hcon : ∀ r, Ev (fun k => ensembleref05_Right.l0 k view ((i + 1 : Nat) : Int)) r → Ev (fun k => ensembleref05_Right.l0 k view (i : Int)) r := fun r hr =>
    Ev.step hstep (Ev.bind hF (Ev.congr (fun k => by rw [if_neg h3, w_id (by omega)]; congr 1) hr))
   have hnm := findI_neg.1 (show findI (view.take i) (view[i]).f0.f0 (view[i]).f0.f1 < 0 by omega)
   rcases ih (i + 1) (by omega) (by omega) (by
    intro f hf
    rw [List.take_succ_eq_append_getElem hil] at hf
    rcases List.mem_append.1 hf with hf | hf
    ·exact hc f hf
    ·rw [List.mem_singleton.1 hf]; exact ⟨by omega, by omega⟩) (by
    rw [List.take_succ_eq_append_getElem hil, List.map_append, List.nodup_append]
    refine ⟨hn, by simp, fun x hx y hy => ?_⟩
    rw [List.map_singleton, List.mem_singleton] at hy
    rintro rfl
    apply hnm
    rw [hy] at hx
    exact hx) with ⟨h, hv⟩ | h
   ·exact .inl ⟨hcon _ h, hv⟩
   ·exact .inr (hcon _ h)
theorem right05_ev (view : List S51) (hl : view.length < 4398046511104) : (Ev (fun k => ensembleref05_Right.f k view) true ∧ viewR view) ∨ Ev (fun k => ensembleref05_Right.f k view) false := by
 have := right05_l view hl view.length 0 (by omega) (by omega) (by simp) (by simp)
 exact this
def turnF (E : S51 → S52 → Int) (F : S51 → S52 → S51) : List S51 → List S52 → List S51 × Int
 | out, [] => (out, 0)
 | out, s :: ss => if s.f2 < 0 then ([], 1) else if findI out s.f0.f0 s.f0.f1 < 0 then ([], 3)
  else if E (rd_T51 out (findI out s.f0.f0 s.f0.f1)) s = 0 then turnF E F (out.set (findI out s.f0.f0 s.f0.f1).toNat (F (rd_T51 out (findI out s.f0.f0 s.f0.f1)) s)) ss
  else ([], E (rd_T51 out (findI out s.f0.f0 s.f0.f1)) s)
theorem bits_and_z {a b : Int} (ha : 0 ≤ a ∧ a < 18446744073709551616) (hb : 0 ≤ b ∧ b < 18446744073709551616) : Go.bits .and .u64 a b = ((a.toNat &&& b.toNat : Nat) : Int) := by
 obtain ⟨x, rfl⟩ := Int.eq_ofNat_of_zero_le ha.1
 obtain ⟨y, rfl⟩ := Int.eq_ofNat_of_zero_le hb.1
 rw [Int.toNat_natCast, Int.toNat_natCast]
 exact bits_and_u64_nat x y (by omega) (by omega)
theorem freeOk_out {f : S51} (h : freeOk f = true) : (0 ≤ f.f1 ∧ f.f1 < 18446744073709551616) ∧ -9223372036854775808 ≤ f.f2 ∧ f.f2 ≤ 9223372036854775807 := by
 simp only [freeOk, w64B, Bool.and_eq_true, decide_eq_true_eq] at h
 exact ⟨⟨h.1.1, h.1.2⟩, h.2.1, h.2.2⟩
theorem maskOk_out {s : S52} (h : maskOk s = true) : 0 ≤ s.f1 ∧ s.f1 < 18446744073709551616 := by
 simp only [maskOk, Bool.and_eq_true, decide_eq_true_eq] at h
 exact h
theorem set_all {P : S51 → Prop} {out : List S51} {k : Nat} {x : S51} (h : ∀ f ∈ out, P f) (hx : P x) : ∀ f ∈ out.set k x, P f := fun f hf => by
 rcases List.mem_or_eq_of_mem_set hf with h' | rfl
 ·exact h f h'
 ·exact hx
theorem lessF_ok {f : S51} {s : S52} (hf : freeOk f = true) (hs : maskOk s = true) : freeOk (lessF f s) = true := by
 have h1 := freeOk_out hf
 have h2 := maskOk_out hs
 have e : Go.bits .andNot .u64 f.f1 s.f1 = ((f.f1.toNat - (f.f1.toNat &&& s.f1.toNat) : Nat) : Int) := by
  have := andNot_nat f.f1.toNat s.f1.toNat (by omega) (by omega)
  rw [Int.toNat_of_nonneg h1.1.1, Int.toNat_of_nonneg h2.1] at this
  exact this
 have e1 : 0 ≤ (lessF f s).f1 ∧ (lessF f s).f1 < 18446744073709551616 := by
  show 0 ≤ Go.bits .andNot .u64 f.f1 s.f1 ∧ Go.bits .andNot .u64 f.f1 s.f1 < 18446744073709551616
  rw [e]; omega
 unfold freeOk
 rw [decide_eq_true e1.1, decide_eq_true e1.2]
 exact w64_wrap _
theorem findI_spots {a b : List S51} (h : a.map spot = b.map spot) (x y : Int) : findI a x y = findI b x y := by
 have e : ∀ l : List S51, l.findIdx? (isAt x y) = (l.map spot).findIdx? (fun p => p.1 == x && p.2 == y) := fun l => by
  rw [List.findIdx?_map]; rfl
 unfold findI
 rw [e a, e b, h]
theorem ixS_find (view : List S51) (hn : (view.map spot).Nodup) : ∀ i : Nat, i ≤ view.length → ∀ a b : Int, ixS view i a b = if 0 ≤ findI view a b ∧ findI view a b < i then some (findI view a b) else none := by
 intro i
 induction i with
 | zero => intro _ a b; rw [if_neg (by omega)]; rfl
 | succ i ih =>
  intro hi a b
  have hil : i < view.length := by omega
  unfold ixS updS
  rw [rd51' view i hil]
  have hfi : findI view (view[i]).f0.f0 (view[i]).f0.f1 = (i : Int) := by
   unfold findI
   have : view.findIdx? (isAt (view[i]).f0.f0 (view[i]).f0.f1) = some i := by
    rw [List.findIdx?_eq_some_iff_getElem]
    refine ⟨hil, by unfold isAt; simp, fun j hj => ?_⟩
    intro hjt
    have h1 := isAt_iff.1 hjt
    have h2 := List.pairwise_iff_getElem.1 hn j i (by rw [List.length_map]; omega) (by rw [List.length_map]; exact hil) hj
    apply h2
    rw [List.getElem_map, List.getElem_map, h1]
    rfl
   rw [this]
  by_cases h : a = (view[i]).f0.f0 ∧ b = (view[i]).f0.f1
  ·rw [if_pos h, h.1, h.2, hfi, if_pos (by omega)]
  ·rw [if_neg h, ih (by omega) a b]
   have hne : findI view a b ≠ (i : Int) := by
    intro e
    unfold findI at e
    cases hf : view.findIdx? (isAt a b) with
    | none => rw [hf] at e; simp only at e; omega
    | some j =>
     rw [hf] at e
     simp only at e
     obtain rfl : j = i := by omega
     rw [List.findIdx?_eq_some_iff_getElem] at hf
     have := isAt_iff.1 hf.2.1
     unfold spot at this
     injection this with h1 h2
     exact h ⟨h1.symm, h2.symm⟩
   by_cases hc : 0 ≤ findI view a b ∧ findI view a b < i
   ·rw [if_pos hc, if_pos (by omega)]
   ·rw [if_neg hc, if_neg (by omega)]
theorem spots_set {out : List S51} {k : Nat} {x : S51} (hx : ∀ h : k < out.length, spot x = spot out[k]) : (out.set k x).map spot = out.map spot := by
 rw [List.map_set]
 by_cases h : k < out.length
 ·rw [hx h]
  apply List.ext_getElem
  ·simp
  ·intro i h1 h2
   rw [List.getElem_set]
   split
   ·rename_i e; subst e; rw [List.getElem_map]
   ·rfl
 ·rw [List.set_eq_of_length_le (by rw [List.length_map]; omega)]
theorem turned_find (E : S51 → S52 → Int) (F : S51 → S52 → S51) (hF : ∀ f s, (F f s).f0 = f.f0) (view : List S51) (hn : (view.map spot).Nodup) : ∀ (slots : List S52) (out : List S51), out.map spot = view.map spot →
  turnedL E F (ixS view view.length) out slots = turnF E F out slots
 | [], out, _ => rfl
 | s :: ss, out, ho => by
  have hb := findI_bd view s.f0.f0 s.f0.f1
  rw [turnedL, turnF, findI_spots ho, ixS_find view hn _ (Nat.le_refl _)]
  generalize findI view s.f0.f0 s.f0.f1 = p at *
  by_cases h1 : s.f2 < 0
  ·rw [if_pos h1, if_pos h1]
  rw [if_neg h1, if_neg h1]
  by_cases h2 : p < 0
  ·rw [if_neg (by omega), if_pos h2]
  rw [if_pos (by omega), if_neg h2]
  simp only
  by_cases h3 : E (rd_T51 out p) s = 0
  ·rw [if_pos h3, if_pos h3]
   refine turned_find E F hF view hn ss _ ?_
   rw [spots_set (fun hk => ?_), ho]
   have : rd_T51 out p = out[p.toNat] := by
    have := rd51' out p.toNat hk
    rw [Int.toNat_of_nonneg (by omega)] at this
    exact this
   unfold spot
   rw [hF, this]
  ·rw [if_neg h3, if_neg h3]
theorem turned51_find {E : S51 → S52 → Int} {F : S51 → S52 → S51} (hF : ∀ f s, (F f s).f0 = f.f0) {view : List S51} (hn : (view.map spot).Nodup) (slots : List S52) : turned51 E F view slots = turnF E F view slots :=
 turned_find E F hF view hn slots view rfl
end Go.Proofs.Ytckhjehibjdjdaa.P
namespace Go.Proofs.Ytckhjehibjdjdaa.P
open Go.RowKit Go.Proofs.YtckhjehibjdjdaaW.PrintWords Go.Proofs.YtckhjehibjdjdaaW.PrintLast Go.Proofs.YtckhjehibjdjdaaW.PrintMore
attribute [local go_sem] max2_int min2_int max_two min_two max_three min_three max_four min_four
set_option linter.unusedVariables false
set_option linter.unusedSimpArgs false
def ensembleref08_Units.T5 : Bool × List (List Nat × List Nat) := (true, [([], []), ([0], [0]), ([], []), ([], []), ([2, 3], [2, 3]), ([4], [4]), ([5], [5]), ([6], [6]), ([7], [7]), ([1, 8], [1, 8]), ([0, 1, 2, 3, 4, 5, 6, 7, 8, 9], []), ([10, 9, 7, 0, 1, 2, 3, 4, 5, 6, 7, 8, 9], [9, 10])])
def ensembleref08_Units.B5 : List Nat := [0, 1, 0, 0, 12, 28, 60, 124, 252, 511, 1023, 2047]
theorem ensembleref08_Units.bits5 : waitsOk ensembleref08_Units.T5.2 ensembleref08_Units.B5 = true := by kernel_rfl
end Go.Proofs.Ytckhjehibjdjdaa.P
namespace Go.Proofs.Ytckhjehibjdjdaa.P
open Go.RowKit Go.Proofs.YtckhjehibjdjdaaW.PrintWords Go.Proofs.YtckhjehibjdjdaaW.PrintLast Go.Proofs.YtckhjehibjdjdaaW.PrintMore
attribute [local go_sem] max2_int min2_int max_two min_two max_three min_three max_four min_four
set_option linter.unusedVariables false
set_option linter.unusedSimpArgs false
end Go.Proofs.Ytckhjehibjdjdaa.P
namespace Go.Proofs.Ytckhjehibjdjdaa.P
open Go.RowKit Go.Proofs.YtckhjehibjdjdaaW.PrintWords Go.Proofs.YtckhjehibjdjdaaW.PrintLast Go.Proofs.YtckhjehibjdjdaaW.PrintMore
attribute [local go_sem] max2_int min2_int max_two min_two max_three min_three max_four min_four
set_option linter.unusedVariables false
set_option linter.unusedSimpArgs false
end Go.Proofs.Ytckhjehibjdjdaa.P
namespace Go.Proofs.Ytckhjehibjdjdaa.P
open Go.RowKit Go.Proofs.YtckhjehibjdjdaaW.PrintWords Go.Proofs.YtckhjehibjdjdaaW.PrintLast Go.Proofs.YtckhjehibjdjdaaW.PrintMore
attribute [local go_sem] max2_int min2_int max_two min_two max_three min_three max_four min_four
set_option linter.unusedVariables false
set_option linter.unusedSimpArgs false
end Go.Proofs.Ytckhjehibjdjdaa.P
namespace Go.Proofs.Ytckhjehibjdjdaa.P
open Go.RowKit Go.Proofs.YtckhjehibjdjdaaW.PrintWords Go.Proofs.YtckhjehibjdjdaaW.PrintLast Go.Proofs.YtckhjehibjdjdaaW.PrintMore
open Go.Proofs.Ytckhjehibjdjdaa.Bits Go.Proofs.Ytckhjehibjdjdaa.Mp
set_option linter.unusedVariables false
set_option linter.unusedSimpArgs false
def ended (T : Int) (ends : List S41) : List S41 := ends.filter fun h => decide (h.f2 ≤ T)
def slotsOf (l : List S41) : List S52 := l.flatMap fun h => h.f4
theorem slotsOf_cons (h : S41) (l : List S41) : slotsOf (h :: l) = h.f4 ++ slotsOf l := List.flatMap_cons
theorem slotsOf_append (a b : List S41) : slotsOf (a ++ b) = slotsOf a ++ slotsOf b := List.flatMap_append
theorem sub_slots {a b : List S41} (h : a.Sublist b) : (slotsOf a).Sublist (slotsOf b) := by
 induction h with
 | slnil => exact List.Sublist.slnil
 | cons x _ ih => rw [slotsOf_cons]; exact ih.trans (List.sublist_append_right _ _)
 | cons_cons x _ ih => rw [slotsOf_cons, slotsOf_cons]; exact List.Sublist.append (List.Sublist.refl _) ih
def leftQ (q : Int) : Int × Int → List S41 → Int × Int
 | a, [] => a
 | a, h :: l => leftQ q (if h.f1 = q then (wrap64 (a.1 + (addL true (0, 0) h.f4).1), wrap64 (a.2 + (addL true (0, 0) h.f4).2)) else a) l
def atB (view : List S51) (lg lc : Int) (ends : List S41) (q m g c mn mx T : Int) : Bool :=
 fitsB (turnF moreE moreF view (slotsOf (ended T ends))).1 (leftQ q (lg, lc) (ended T ends)).1 (leftQ q (lg, lc) (ended T ends)).2 m g c mn mx
structure Inp (view : List S51) (ends : List S41) : Prop where
 vl : view.length < 4398046511104
 vf : ∀ f ∈ view, freeOk f = true
 el : ends.length < 1000000
 es : (slotsOf ends).length < 4000000000
 sm : ∀ s ∈ slotsOf ends, maskOk s = true
theorem Inp.sub {view : List S51} {ends l : List S41} (I : Inp view ends) (h : l.Sublist ends) : Inp view l :=
 have hs : (slotsOf l).Sublist (slotsOf ends) := sub_slots h
 ⟨I.vl, I.vf, Nat.lt_of_le_of_lt h.length_le I.el, Nat.lt_of_le_of_lt hs.length_le I.es, fun s hs' => I.sm s (hs.subset hs')⟩
theorem Inp.ended {view : List S51} {ends : List S41} (I : Inp view ends) (T : Int) : Inp view (ended T ends) := I.sub List.filter_sublist
def bestF (A : Int → Bool) (now : Int) : Int → List S41 → Int
 | b, [] => b
 | b, h :: l => bestF A now (if h.f2 > now ∧ h.f2 < b ∧ A h.f2 = true then h.f2 else b) l
def refEarly (now : Int) (view : List S51) (lg lc : Int) (ends : List S41) (q m g c mn mx : Int) : Int × Int :=
 if now < 0 ∨ now > 1073741824 ∨ rightB m g c mn mx = false then (0, 1)
 else if (turnF moreE moreF view (slotsOf ends)).2 ≠ 0 then (0, (turnF moreE moreF view (slotsOf ends)).2)
 else if atB view lg lc ends q m g c mn mx now = true then (now, 0)
 else (bestF (atB view lg lc ends q m g c mn mx) now 1073741825 ends, 0)
def fewP (view : List S51) (lg lc : Int) (ends : List S41) : Prop := view.length ≤ 70 ∧ viewR view ∧ ends.length ≤ 20 ∧ (-1048576 ≤ lg ∧ lg ≤ 1048576) ∧ (-1048576 ≤ lc ∧ lc ≤ 1048576) ∧ ∀ h ∈ ends, h.f4.length ≤ 20
theorem few12_l (ends : List S41) (hl : ends.length ≤ 20) (d : Nat) : ∀ i : Nat, i ≤ ends.length → ends.length - i = d → (∀ h ∈ ends.take i, h.f4.length ≤ 20) →
  (Ev (fun k => ensembleref12_Few.l0 k ends (i : Int)) true ∧ ∀ h ∈ ends, h.f4.length ≤ 20) ∨ Ev (fun k => ensembleref12_Few.l0 k ends (i : Int)) false := by
 induction d with
 | zero =>
  intro i hi hd hc
  obtain rfl : i = ends.length := by omega
  rw [List.take_length] at hc
  exact .inl ⟨Ev.step (f := fun _ => some true) (fun k => by rw [ensembleref12_Few.l0, if_neg (by omega)]) (Ev.now _), hc⟩
 | succ d ih =>
  intro i hi hd hc
  have hil : i < ends.length := by omega
  have e1 : wrap64 ((i : Int) + 1) = ((i + 1 : Nat) : Int) := by rw [w_id (by omega)]; omega
  by_cases h : ((ends[i]).f4.length : Int) > 20
  ·exact .inr (Ev.step (f := fun _ => some false) (fun k => by rw [ensembleref12_Few.l0, if_pos (by omega), if_pos (by omega), rd41' ends i hil, if_pos h]) (Ev.now _))
  ·have hs : ∀ r, Ev (fun k => ensembleref12_Few.l0 k ends ((i + 1 : Nat) : Int)) r → Ev (fun k => ensembleref12_Few.l0 k ends (i : Int)) r := fun r hr =>
    Ev.step (fun k => by rw [ensembleref12_Few.l0, if_pos (by omega), if_pos (by omega), rd41' ends i hil, if_neg h, e1]) hr
   rcases ih (i + 1) (by omega) (by omega) (by
    intro x hx
    rw [List.take_succ_eq_append_getElem hil] at hx
    rcases List.mem_append.1 hx with hx | hx
    ·exact hc x hx
    ·rw [List.mem_singleton.1 hx]; omega) with ⟨h1, h2⟩ | h1
   ·exact .inl ⟨hs _ h1, h2⟩
   ·exact .inr (hs _ h1)
theorem few12_ev (view : List S51) (lg lc : Int) (ends : List S41) : (Ev (fun k => ensembleref12_Few.f k view lg lc ends) true ∧ fewP view lg lc ends) ∨ Ev (fun k => ensembleref12_Few.f k view lg lc ends) false := by
 have JF : Ev (fun k => ensembleref12_Few.j0 k ends true) false := Ev.step (f := fun _ => some false) (fun k => by rw [ensembleref12_Few.j0, if_pos rfl]) (Ev.now _)
 by_cases h1 : (view.length : Int) > 70
 ·exact .inr (Ev.congr (fun k => by unfold ensembleref12_Few.f; rw [if_pos h1]) JF)
 rcases right05_ev view (by omega) with ⟨hR, hv⟩ | hR
 case inr => exact .inr (Ev.congr (fun k => by unfold ensembleref12_Few.f; rw [if_neg h1]) (Ev.bind hR (Ev.congr (fun k => by rw [if_neg (by decide)]) JF)))
 by_cases h2 : (ends.length : Int) > 20
 ·exact .inr (Ev.congr (fun k => by unfold ensembleref12_Few.f; rw [if_neg h1]) (Ev.bind hR (Ev.congr (fun k => by rw [if_pos rfl, if_pos h2]) JF)))
 by_cases h3 : lg < -1048576
 ·exact .inr (Ev.congr (fun k => by unfold ensembleref12_Few.f; rw [if_neg h1]) (Ev.bind hR (Ev.congr (fun k => by rw [if_pos rfl, if_neg h2, if_pos h3]) JF)))
 by_cases h4 : lg > 1048576
 ·exact .inr (Ev.congr (fun k => by unfold ensembleref12_Few.f; rw [if_neg h1]) (Ev.bind hR (Ev.congr (fun k => by rw [if_pos rfl, if_neg h2, if_neg h3, if_pos h4]) JF)))
 by_cases h5 : lc < -1048576
 ·exact .inr (Ev.congr (fun k => by unfold ensembleref12_Few.f; rw [if_neg h1]) (Ev.bind hR (Ev.congr (fun k => by rw [if_pos rfl, if_neg h2, if_neg h3, if_neg h4, if_pos h5]) JF)))
 have hs : ∀ r, Ev (fun k => ensembleref12_Few.j0 k ends (decide (lc > 1048576))) r → Ev (fun k => ensembleref12_Few.f k view lg lc ends) r := fun r hr =>
  Ev.congr (fun k => by unfold ensembleref12_Few.f; rw [if_neg h1]) (Ev.bind hR (Ev.congr (fun k => by rw [if_pos rfl, if_neg h2, if_neg h3, if_neg h4, if_neg h5]) hr))
 by_cases h6 : lc > 1048576
 ·rw [decide_eq_true h6] at hs
  exact .inr (hs _ JF)
 ·rw [decide_eq_false h6] at hs
  rcases few12_l ends (by omega) ends.length 0 (by omega) (by omega) (by simp) with ⟨h7, h8⟩ | h7
  ·exact .inl ⟨hs _ (Ev.step (fun k => by rw [ensembleref12_Few.j0]; exact if_neg (by decide)) h7), by omega, hv, by omega, ⟨by omega, by omega⟩, ⟨by omega, by omega⟩, h8⟩
  ·exact .inr (hs _ (Ev.step (fun k => by rw [ensembleref12_Few.j0]; exact if_neg (by decide)) h7))
end Go.Proofs.Ytckhjehibjdjdaa.P
namespace Go.Proofs.Ytckhjehibjdjdaa.P
open Go.RowKit Go.Proofs.YtckhjehibjdjdaaW.PrintWords Go.Proofs.YtckhjehibjdjdaaW.PrintLast Go.Proofs.YtckhjehibjdjdaaW.PrintMore
open Go.Proofs.Ytckhjehibjdjdaa.Bits Go.Proofs.Ytckhjehibjdjdaa.Mp
set_option linter.unusedVariables false
set_option linter.unusedSimpArgs false
def sspot (s : S52) : Int × Int := (s.f0.f0, s.f0.f1)
def atS (f : S51) (l : List S52) : List S52 := l.filter fun s => decide (sspot s = spot f)
def stepV (view : List S51) (s : S52) : List S51 := view.map fun f => if spot f = sspot s then moreF f s else f
def disj (a b : Int) : Prop := a.toNat &&& b.toNat = 0
theorem disj_comm {a b : Int} (h : disj a b) : disj b a := by unfold disj at *; rw [Nat.and_comm]; exact h
structure okF (f : S51) (l : List S52) : Prop where
 own : ∀ s ∈ l, disj s.f1 f.f1
 two : l.Pairwise fun a b => disj a.f1 b.f1
 sum : f.f2 + (l.map fun s => s.f2).sum ≤ 1048576
structure okS (view : List S51) (slots : List S52) : Prop where
 pos : ∀ s ∈ slots, 0 ≤ s.f2 ∧ sspot s ∈ view.map spot
 fit : ∀ f ∈ view, okF f (atS f slots)
def viewS (view : List S51) (slots : List S52) : List S51 := view.map fun f => (atS f slots).foldl moreF f
theorem atS_moreF (f : S51) (s : S52) (l : List S52) : atS (moreF f s) l = atS f l := rfl
theorem stepV_spots (view : List S51) (s : S52) : (stepV view s).map spot = view.map spot := by
 unfold stepV
 rw [List.map_map]
 apply List.map_congr_left
 intro f _
 simp only [Function.comp_apply]
 split <;> rfl
theorem bits_or_bv (a b : Int) : Go.bits .or .u64 a b = ((BitVec.ofInt 64 a ||| BitVec.ofInt 64 b).toNat : Int) := by
 show IntKind.u64.wrap ((BitVec.ofInt 64 a ||| BitVec.ofInt 64 b).toNat : Int) = _
 rw [wrapN, Nat.mod_eq_of_lt (BitVec.isLt _)]
theorem ofInt_toNat (x : BitVec 64) : BitVec.ofInt 64 (x.toNat : Int) = x := by
 rw [BitVec.ofInt_natCast]; simp
theorem or_right_comm (a b c : Int) : Go.bits .or .u64 (Go.bits .or .u64 a b) c = Go.bits .or .u64 (Go.bits .or .u64 a c) b := by
 rw [bits_or_bv, bits_or_bv a b, ofInt_toNat, bits_or_bv, bits_or_bv a c, ofInt_toNat, BitVec.or_assoc, BitVec.or_comm (BitVec.ofInt 64 b), ← BitVec.or_assoc]
theorem wrap_right_comm (a b c : Int) : wrap64 (wrap64 (a + b) + c) = wrap64 (wrap64 (a + c) + b) := by unfold wrap64; omega
theorem moreF_comm (f : S51) (a b : S52) : moreF (moreF f a) b = moreF (moreF f b) a := by
 unfold moreF
 rw [or_right_comm, wrap_right_comm]
theorem and_iff_disj {a b : Int} (ha : 0 ≤ a ∧ a < 18446744073709551616) (hb : 0 ≤ b ∧ b < 18446744073709551616) : Go.bits .and .u64 a b = 0 ↔ disj a b := by
 rw [bits_and_z ha hb]; unfold disj; omega
theorem disj_or {a b c : Int} (ha : 0 ≤ a ∧ a < 18446744073709551616) (hb : 0 ≤ b ∧ b < 18446744073709551616) : disj c (Go.bits .or .u64 a b) ↔ disj c a ∧ disj c b := by
 obtain ⟨x, rfl⟩ := Int.eq_ofNat_of_zero_le ha.1
 obtain ⟨y, rfl⟩ := Int.eq_ofNat_of_zero_le hb.1
 rw [bits_or_u64_nat x y (by omega) (by omega)]
 unfold disj
 rw [Int.toNat_natCast, Int.toNat_natCast, Int.toNat_natCast, Nat.and_or_distrib_left, Nat.or_eq_zero_iff]
theorem moreE_iff {f : S51} {s : S52} (hf : freeOk f = true) (hc : cpOk f) (hs : maskOk s = true) (h0 : 0 ≤ s.f2) : moreE f s = 0 ↔ disj s.f1 f.f1 ∧ f.f2 + s.f2 ≤ 1048576 := by
 have h1 := freeOk_out hf
 have h2 := maskOk_out hs
 unfold cpOk at hc
 unfold moreE
 rw [show wrap64 (1048576 - f.f2) = 1048576 - f.f2 from w_id (by omega)]
 by_cases hd : disj s.f1 f.f1
 ·rw [if_neg (fun x => x ((and_iff_disj h2 h1.1).2 hd))]
  by_cases h : s.f2 > 1048576 - f.f2
  ·rw [if_pos h]; constructor
   ·intro x; cases x
   ·intro x; omega
  ·rw [if_neg h]; exact ⟨fun _ => ⟨hd, by omega⟩, fun _ => rfl⟩
 ·rw [if_pos (fun x => hd ((and_iff_disj h2 h1.1).1 x))]; constructor
  ·intro x; cases x
  ·intro x; exact absurd x.1 hd
theorem okF_cons {f : S51} {s : S52} {l : List S52} (hf : freeOk f = true) (hc : cpOk f) (hs : maskOk s = true) (h0 : 0 ≤ s.f2) (hl : ∀ x ∈ l, 0 ≤ x.f2) :
  okF f (s :: l) ↔ moreE f s = 0 ∧ okF (moreF f s) l := by
 have h1 := freeOk_out hf
 have h2 := maskOk_out hs
 rw [moreE_iff hf hc hs h0]
 have hsum : 0 ≤ (l.map fun s => s.f2).sum := by
  clear h1 h2 hc
  induction l with
  | nil => simp
  | cons x l ih =>
   have := hl x (by simp)
   have := ih (fun y hy => hl y (by simp [hy]))
   rw [List.map_cons, List.sum_cons]; omega
 unfold cpOk at hc
 have hw : f.f2 + s.f2 ≤ 1048576 → (moreF f s).f2 = f.f2 + s.f2 := fun h => by unfold moreF; exact w_id (by omega)
 constructor
 ·rintro ⟨a, b, c⟩
  rw [List.map_cons, List.sum_cons] at c
  have hb := List.pairwise_cons.1 b
  refine ⟨⟨a s (by simp), by omega⟩, fun x hx => ?_, hb.2, ?_⟩
  ·show disj x.f1 (Go.bits .or .u64 f.f1 s.f1)
   exact (disj_or h1.1 h2).2 ⟨a x (by simp [hx]), disj_comm (hb.1 x hx)⟩
  ·rw [hw (by omega)]; omega
 ·rintro ⟨⟨a, b⟩, c, d, e⟩
  rw [hw b] at e
  refine ⟨fun x hx => ?_, List.pairwise_cons.2 ⟨fun x hx => ?_, d⟩, ?_⟩
  ·rcases List.mem_cons.1 hx with rfl | hx
   ·exact a
   ·exact ((disj_or h1.1 h2).1 (c x hx)).1
  ·exact disj_comm ((disj_or h1.1 h2).1 (c x hx)).2
  ·rw [List.map_cons, List.sum_cons]; omega
theorem set_step {view : List S51} (hn : (view.map spot).Nodup) {s : S52} {p : Nat} (hp : findI view s.f0.f0 s.f0.f1 = (p : Int)) :
  ∃ h : p < view.length, spot view[p] = sspot s ∧ view.set p (moreF view[p] s) = stepV view s ∧ ∀ f ∈ view, spot f = sspot s → f = view[p] := by
 unfold findI at hp
 cases hf : view.findIdx? (isAt s.f0.f0 s.f0.f1) with
 | none => rw [hf] at hp; simp only at hp; omega
 | some j =>
  rw [hf] at hp
  simp only at hp
  obtain rfl : j = p := by omega
  rw [List.findIdx?_eq_some_iff_getElem] at hf
  obtain ⟨hj, h1, _⟩ := hf
  have hs := isAt_iff.1 h1
  have huniq : ∀ i (hi : i < view.length), spot view[i] = sspot s → i = j := fun i hi he => by
   have hn' := List.pairwise_iff_getElem.1 hn
   rcases Nat.lt_trichotomy i j with h | h | h
   ·exact absurd (by rw [List.getElem_map, List.getElem_map, he, hs]; rfl) (hn' i j (by simpa using hi) (by simpa using hj) h)
   ·exact h
   ·exact absurd (by rw [List.getElem_map, List.getElem_map, he, hs]; rfl) (hn' j i (by simpa using hj) (by simpa using hi) h)
  refine ⟨hj, hs, ?_, fun f hf he => ?_⟩
  ·unfold stepV
   apply List.ext_getElem
   ·simp
   ·intro i h1 h2
    rw [List.getElem_set, List.getElem_map]
    rw [List.length_set] at h1
    by_cases hij : j = i
    ·subst hij
     rw [if_pos rfl, if_pos (show spot view[j] = sspot s from hs)]
    ·rw [if_neg hij, if_neg (fun h => hij (huniq i h1 h).symm)]
  ·obtain ⟨i, hi, rfl⟩ := List.mem_iff_getElem.1 hf
   have := huniq i hi he
   subst this; rfl
structure View (view : List S51) : Prop where
 right : viewR view
 free : ∀ f ∈ view, freeOk f = true
theorem stepV_mem {view : List S51} {s : S52} {P : S51 → Prop} : (∀ f ∈ stepV view s, P f) ↔ ∀ f ∈ view, P (if spot f = sspot s then moreF f s else f) := by
 unfold stepV
 simp only [List.mem_map]
 constructor
 ·intro h f hf; exact h _ ⟨f, hf, rfl⟩
 ·rintro h f ⟨g, hg, rfl⟩; exact h g hg
theorem View.step {view : List S51} (V : View view) {s : S52} (hs : maskOk s = true) (h0 : 0 ≤ s.f2) (hE : ∀ f ∈ view, spot f = sspot s → moreE f s = 0) : View (stepV view s) := by
 refine ⟨⟨stepV_mem.2 fun f hf => ?_, by rw [stepV_spots]; exact V.right.2⟩, stepV_mem.2 fun f hf => ?_⟩
 ·split
  ·rename_i h
   have h1 := (moreE_iff (V.free f hf) (V.right.1 f hf) hs h0).1 (hE f hf h)
   have h2 := V.right.1 f hf
   unfold cpOk at h2 ⊢
   have : (moreF f s).f2 = f.f2 + s.f2 := by unfold moreF; exact w_id (by omega)
   omega
  ·exact V.right.1 f hf
 ·split
  ·exact moreF_ok (V.free f hf) hs
  ·exact V.free f hf
theorem atS_cons (f : S51) (s : S52) (l : List S52) : atS f (s :: l) = if sspot s = spot f then s :: atS f l else atS f l := by
 unfold atS
 by_cases h : sspot s = spot f
 ·rw [if_pos h, List.filter_cons_of_pos (by simpa using h)]
 ·rw [if_neg h, List.filter_cons_of_neg (by simpa using h)]
theorem viewS_step (view : List S51) (s : S52) (l : List S52) : viewS (stepV view s) l = viewS view (s :: l) := by
 unfold viewS stepV
 rw [List.map_map]
 apply List.map_congr_left
 intro f _
 simp only [Function.comp_apply]
 by_cases h : spot f = sspot s
 ·rw [if_pos h, atS_moreF, atS_cons, if_pos h.symm]; rfl
 ·rw [if_neg h, atS_cons, if_neg (fun x => h x.symm)]
theorem turnF_iff : ∀ (slots : List S52) (view : List S51), View view → (∀ s ∈ slots, maskOk s = true) →
  ((turnF moreE moreF view slots).2 = 0 ↔ okS view slots) ∧ ((turnF moreE moreF view slots).2 = 0 → (turnF moreE moreF view slots).1 = viewS view slots)
 | [], view, V, _ => by
  refine ⟨⟨fun _ => ⟨by simp, fun f hf => ⟨by simp [atS], by simp [atS], ?_⟩⟩, fun _ => rfl⟩, fun _ => ?_⟩
  ·have := V.right.1 f hf
   unfold cpOk at this
   simp [atS]; omega
  ·unfold viewS atS turnF; simp
 | s :: ss, view, V, hm => by
  have hms := hm s (by simp)
  rw [turnF]
  by_cases h1 : s.f2 < 0
  ·rw [if_pos h1]
   exact ⟨⟨fun h => (by cases h), fun h => (by have := (h.pos s (by simp)).1; omega)⟩, fun h => (by cases h)⟩
  rw [if_neg h1]
  by_cases h2 : findI view s.f0.f0 s.f0.f1 < 0
  ·rw [if_pos h2]
   have hn := findI_neg.1 h2
   exact ⟨⟨fun h => (by cases h), fun h => absurd (h.pos s (by simp)).2 hn⟩, fun h => (by cases h)⟩
  rw [if_neg h2]
  obtain ⟨p, hp⟩ := Int.eq_ofNat_of_zero_le (show 0 ≤ findI view s.f0.f0 s.f0.f1 by omega)
  obtain ⟨hpl, hps, hset, huni⟩ := set_step V.right.2 hp
  have hin : sspot s ∈ view.map spot := List.mem_map.2 ⟨view[p], List.getElem_mem hpl, hps⟩
  rw [hp, Int.toNat_natCast, rd51' view p hpl]
  have hfp := V.free _ (List.getElem_mem hpl)
  have hcp := V.right.1 _ (List.getElem_mem hpl)
  have hall : (∀ f ∈ view, spot f = sspot s → moreE f s = 0) ↔ moreE view[p] s = 0 :=
   ⟨fun h => h _ (List.getElem_mem hpl) hps, fun h f hf he => by rw [huni f hf he]; exact h⟩
  by_cases h3 : moreE view[p] s = 0
  ·rw [if_pos h3, hset]
   have V' := V.step hms (by omega) (hall.2 h3)
   have ih := turnF_iff ss (stepV view s) V' (fun x hx => hm x (by simp [hx]))
   have hiff : okS (stepV view s) ss ↔ okS view (s :: ss) := by
    constructor
    ·rintro ⟨a, b⟩
     have hpos : ∀ x ∈ s :: ss, 0 ≤ x.f2 ∧ sspot x ∈ view.map spot := fun x hx => by
      rcases List.mem_cons.1 hx with rfl | hx
      ·exact ⟨by omega, hin⟩
      ·have := a x hx; rw [stepV_spots] at this; exact this
     refine ⟨hpos, fun f hf => ?_⟩
     have hb := stepV_mem.1 b f hf
     rw [atS_cons]
     by_cases he : spot f = sspot s
     ·rw [if_pos he, atS_moreF] at hb
      rw [if_pos he.symm]
      exact (okF_cons (V.free f hf) (V.right.1 f hf) hms (by omega) (fun x hx => (hpos x (by simp [(List.mem_filter.1 hx).1])).1)).2 ⟨hall.2 h3 f hf he, hb⟩
     ·rw [if_neg he] at hb
      rw [if_neg (fun x => he x.symm)]
      exact hb
    ·rintro ⟨a, b⟩
     refine ⟨fun x hx => by rw [stepV_spots]; exact a x (by simp [hx]), stepV_mem.2 fun f hf => ?_⟩
     have hb := b f hf
     rw [atS_cons] at hb
     by_cases he : spot f = sspot s
     ·rw [if_pos he.symm] at hb
      rw [if_pos he, atS_moreF]
      exact ((okF_cons (V.free f hf) (V.right.1 f hf) hms (by omega) (fun x hx => (a x (by simp [(List.mem_filter.1 hx).1])).1)).1 hb).2
     ·rw [if_neg (fun x => he x.symm)] at hb
      rw [if_neg he]; exact hb
   exact ⟨ih.1.trans hiff, fun h => by rw [ih.2 h, viewS_step]⟩
  ·rw [if_neg h3]
   refine ⟨⟨fun h => absurd h h3, fun h => ?_⟩, fun h => absurd h h3⟩
   have hb := h.fit _ (List.getElem_mem hpl)
   rw [atS_cons, if_pos hps.symm] at hb
   exact absurd ((okF_cons hfp hcp hms (by omega) (fun x hx => (h.pos x (by simp [(List.mem_filter.1 hx).1])).1)).1 hb).1 h3
theorem perm_sum {l l' : List Int} (h : l.Perm l') : l.sum = l'.sum := by
 induction h with
 | nil => rfl
 | cons x _ ih => rw [List.sum_cons, List.sum_cons, ih]
 | swap x y l => rw [List.sum_cons, List.sum_cons, List.sum_cons, List.sum_cons]; omega
 | trans _ _ h1 h2 => exact h1.trans h2
theorem sub_sum {l l' : List S52} (h : l'.Sublist l) : (∀ s ∈ l, 0 ≤ s.f2) → (l'.map fun s => s.f2).sum ≤ (l.map fun s => s.f2).sum := by
 induction h with
 | slnil => intro _; simp
 | cons x _ ih =>
  intro h0
  have h1 := ih (fun s hs => h0 s (by simp [hs]))
  have h2 := h0 x (by simp)
  rw [List.map_cons, List.sum_cons]; omega
 | cons_cons x _ ih =>
  intro h0
  have h1 := ih (fun s hs => h0 s (by simp [hs]))
  rw [List.map_cons, List.sum_cons, List.map_cons, List.sum_cons]; omega
theorem okF_perm {f : S51} {l l' : List S52} (h : l.Perm l') : okF f l → okF f l' := fun ⟨a, b, c⟩ =>
 ⟨fun s hs => a s (h.mem_iff.2 hs), (h.pairwise_iff (fun {x y} hxy => disj_comm hxy)).1 b, by rw [← perm_sum (h.map fun s => s.f2)]; exact c⟩
theorem okF_sub {f : S51} {l l' : List S52} (h : l'.Sublist l) (h0 : ∀ s ∈ l, 0 ≤ s.f2) : okF f l → okF f l' := fun ⟨a, b, c⟩ => by
 refine ⟨fun s hs => a s (h.subset hs), b.sublist h, ?_⟩
 have := sub_sum h h0
 omega
theorem okS_perm {view : List S51} {l l' : List S52} (h : l.Perm l') : okS view l → okS view l' := fun ⟨a, b⟩ =>
 ⟨fun s hs => a s (h.mem_iff.2 hs), fun f hf => okF_perm (h.filter _) (b f hf)⟩
theorem okS_sub {view : List S51} {l l' : List S52} (h : l'.Sublist l) : okS view l → okS view l' := fun ⟨a, b⟩ =>
 ⟨fun s hs => a s (h.subset hs), fun f hf => okF_sub (h.filter _) (fun s hs => (a s (List.mem_filter.1 hs).1).1) (b f hf)⟩
theorem viewS_perm {view : List S51} {l l' : List S52} (h : l.Perm l') : viewS view l = viewS view l' := by
 unfold viewS
 apply List.map_congr_left
 intro f _
 exact (h.filter _).foldl_eq' (fun x _ y _ z => moreF_comm z x y) _
theorem turnF_append {E : S51 → S52 → Int} {F : S51 → S52 → S51} : ∀ (a b : List S52) (view : List S51), (turnF E F view a).2 = 0 → turnF E F view (a ++ b) = turnF E F (turnF E F view a).1 b
 | [], b, view, _ => rfl
 | s :: ss, b, view, h => by
  rw [turnF] at h
  rw [List.cons_append, turnF, turnF]
  by_cases h1 : s.f2 < 0
  ·rw [if_pos h1] at h; cases h
  rw [if_neg h1] at h
  rw [if_neg h1, if_neg h1]
  by_cases h2 : findI view s.f0.f0 s.f0.f1 < 0
  ·rw [if_pos h2] at h; cases h
  rw [if_neg h2] at h
  rw [if_neg h2, if_neg h2]
  by_cases h3 : E (rd_T51 view (findI view s.f0.f0 s.f0.f1)) s = 0
  ·rw [if_pos h3] at h
   rw [if_pos h3, if_pos h3]
   exact turnF_append ss b _ h
  ·rw [if_neg h3] at h; exact absurd h h3
end Go.Proofs.Ytckhjehibjdjdaa.P
namespace Go.Proofs.Ytckhjehibjdjdaa.P
open Go.RowKit Go.Proofs.YtckhjehibjdjdaaW.PrintWords Go.Proofs.YtckhjehibjdjdaaW.PrintLast Go.Proofs.YtckhjehibjdjdaaW.PrintMore
open Go.Proofs.Ytckhjehibjdjdaa.Bits Go.Proofs.Ytckhjehibjdjdaa.Mp
set_option linter.unusedVariables false
set_option linter.unusedSimpArgs false
def popS (l : List S52) : Int := (l.map fun s => popI s.f1).sum
def cpS (l : List S52) : Int := (l.map fun s => s.f2).sum
def I64P (a : Int × Int) : Prop := (-9223372036854775808 ≤ a.1 ∧ a.1 ≤ 9223372036854775807) ∧ -9223372036854775808 ≤ a.2 ∧ a.2 ≤ 9223372036854775807
theorem wrap_bd (x : Int) : -9223372036854775808 ≤ wrap64 x ∧ wrap64 x ≤ 9223372036854775807 := by unfold wrap64; omega
theorem wrap_add (a b : Int) : wrap64 (wrap64 a + b) = wrap64 (a + b) := by unfold wrap64; omega
theorem wrap_add' (a b : Int) : wrap64 (a + wrap64 b) = wrap64 (a + b) := by unfold wrap64; omega
theorem addL_true : ∀ (l : List S52) (a : Int × Int), I64P a → addL true a l = (wrap64 (a.1 + popS l), wrap64 (a.2 + cpS l))
 | [], a, h => by
  unfold I64P at h
  have e1 : wrap64 (a.1 + popS []) = a.1 := by rw [show popS [] = 0 from rfl, Int.add_zero]; exact w_id (by omega)
  have e2 : wrap64 (a.2 + cpS []) = a.2 := by rw [show cpS [] = 0 from rfl, Int.add_zero]; exact w_id (by omega)
  rw [e1, e2]; rfl
 | s :: l, a, h => by
  have e : addL true a (s :: l) = addL true (addU true a s) l := rfl
  have e2 : addU true a s = (wrap64 (a.1 + popI s.f1), wrap64 (a.2 + s.f2)) := if_pos rfl
  rw [e, e2, addL_true l _ ⟨wrap_bd _, wrap_bd _⟩]
  simp only
  rw [wrap_add, wrap_add]
  simp only [popS, cpS, List.map_cons, List.sum_cons]
  rw [Int.add_assoc, Int.add_assoc]
theorem addL_false (l : List S52) : ∀ a : Int × Int, addL false a l = a := by
 induction l with
 | nil => intro a; rfl
 | cons s l ih => intro a; exact ih a
theorem addL_left (l : List S52) (a : Int × Int) (h : I64P a) : addL true a l = (wrap64 (a.1 + (addL true (0, 0) l).1), wrap64 (a.2 + (addL true (0, 0) l).2)) := by
 rw [addL_true l a h, addL_true l (0, 0) ⟨by simp, by simp⟩]
 simp only
 rw [wrap_add', wrap_add', Int.zero_add, Int.zero_add]
def qPop (q : Int) (L : List S41) : Int := ((L.filter fun h => decide (h.f1 = q)).map fun h => popS h.f4).sum
def qCp (q : Int) (L : List S41) : Int := ((L.filter fun h => decide (h.f1 = q)).map fun h => cpS h.f4).sum
theorem leftQ_eq (q : Int) : ∀ (L : List S41) (a : Int × Int), I64P a → leftQ q a L = (wrap64 (a.1 + qPop q L), wrap64 (a.2 + qCp q L))
 | [], a, h => by
  unfold I64P at h
  have e1 : wrap64 (a.1 + qPop q []) = a.1 := by rw [show qPop q [] = 0 from rfl, Int.add_zero]; exact w_id (by omega)
  have e2 : wrap64 (a.2 + qCp q []) = a.2 := by rw [show qCp q [] = 0 from rfl, Int.add_zero]; exact w_id (by omega)
  rw [e1, e2]; rfl
 | x :: L, a, h => by
  rw [leftQ]
  by_cases hq : x.f1 = q
  ·rw [if_pos hq, ← addL_left x.f4 a h, addL_true x.f4 a h, leftQ_eq q L _ ⟨wrap_bd _, wrap_bd _⟩]
   simp only
   rw [wrap_add, wrap_add]
   unfold qPop qCp
   rw [List.filter_cons_of_pos (by simpa using hq), List.map_cons, List.map_cons, List.sum_cons, List.sum_cons, Int.add_assoc, Int.add_assoc]
  ·rw [if_neg hq, leftQ_eq q L a h]
   unfold qPop qCp
   rw [List.filter_cons_of_neg (by simpa using hq)]
theorem leftQ_perm {q : Int} {L L' : List S41} (h : L.Perm L') (a : Int × Int) (ha : I64P a) : leftQ q a L = leftQ q a L' := by
 rw [leftQ_eq q L a ha, leftQ_eq q L' a ha]
 unfold qPop qCp
 rw [perm_sum ((h.filter _).map _), perm_sum ((h.filter _).map fun h => cpS h.f4)]
theorem leftQ_snoc (q : Int) : ∀ (L : List S41) (x : S41) (a : Int × Int), I64P a → leftQ q a (L ++ [x]) = addL (decide (x.f1 = q)) (leftQ q a L) x.f4
 | [], x, a, h => by
  rw [List.nil_append, leftQ, leftQ, leftQ]
  by_cases hq : x.f1 = q
  ·rw [if_pos hq, decide_eq_true hq, addL_left x.f4 a h]
  ·rw [if_neg hq, decide_eq_false hq, addL_false]
 | y :: L, x, a, h => by
  rw [List.cons_append, leftQ, leftQ]
  refine leftQ_snoc q L x _ ?_
  split
  ·exact ⟨wrap_bd _, wrap_bd _⟩
  ·exact h
def IsBest (A : Int → Bool) (t : Int) (L : List S41) (b : Int) : Prop :=
 (b = 1073741825 ∨ ∃ h ∈ L, h.f2 = b ∧ t < b ∧ b < 1073741825 ∧ A b = true) ∧ b ≤ 1073741825 ∧ ∀ h ∈ L, t < h.f2 → h.f2 < 1073741825 → A h.f2 = true → b ≤ h.f2
def IsE (A : Int → Bool) (t : Int) (L : List S41) (b : Int) : Prop := (A t = true ∧ b = t) ∨ (A t = false ∧ IsBest A t L b)
theorem bestF_spec (A : Int → Bool) (now : Int) : ∀ (l : List S41) (b : Int), (bestF A now b l = b ∨ ∃ h ∈ l, h.f2 = bestF A now b l ∧ now < bestF A now b l ∧ bestF A now b l < b ∧ A (bestF A now b l) = true) ∧ bestF A now b l ≤ b ∧ ∀ h ∈ l, now < h.f2 → h.f2 < b → A h.f2 = true → bestF A now b l ≤ h.f2
 | [], b => ⟨.inl rfl, Int.le_refl _, by simp⟩
 | x :: l, b => by
  rw [bestF]
  by_cases h : x.f2 > now ∧ x.f2 < b ∧ A x.f2 = true
  ·rw [if_pos h]
   obtain ⟨i1, i2, i3⟩ := bestF_spec A now l x.f2
   refine ⟨.inr ?_, by omega, fun y hy h1 h2 h3 => ?_⟩
   ·rcases i1 with i1 | ⟨y, hy, i4, i5, i6, i7⟩
    ·exact ⟨x, by simp, i1.symm, by omega, by omega, by rw [i1]; exact h.2.2⟩
    ·exact ⟨y, by simp [hy], i4, i5, by omega, i7⟩
   ·rcases List.mem_cons.1 hy with rfl | hy
    ·exact i2
    ·by_cases hlt : y.f2 < x.f2
     ·exact i3 y hy h1 hlt h3
     ·omega
  ·rw [if_neg h]
   obtain ⟨i1, i2, i3⟩ := bestF_spec A now l b
   refine ⟨?_, i2, fun y hy h1 h2 h3 => ?_⟩
   ·rcases i1 with i1 | ⟨y, hy, i4⟩
    ·exact .inl i1
    ·exact .inr ⟨y, by simp [hy], i4⟩
   ·rcases List.mem_cons.1 hy with rfl | hy
    ·exact absurd ⟨h1, h2, h3⟩ h
    ·exact i3 y hy h1 h2 h3
theorem bestF_best (A : Int → Bool) (now : Int) (l : List S41) : IsBest A now l (bestF A now 1073741825 l) := bestF_spec A now l 1073741825
theorem IsBest.uniq {A : Int → Bool} {t : Int} {L L' : List S41} {b b' : Int} (h : IsBest A t L b) (h' : IsBest A t L' b') (hm : ∀ x, x ∈ L ↔ x ∈ L') : b = b' := by
 obtain ⟨h1, h2, h3⟩ := h
 obtain ⟨k1, k2, k3⟩ := h'
 have a : b ≤ b' := by
  rcases k1 with rfl | ⟨x, hx, rfl, k4, k5, k6⟩
  ·exact h2
  ·exact h3 x ((hm x).2 hx) k4 k5 k6
 have a' : b' ≤ b := by
  rcases h1 with rfl | ⟨x, hx, rfl, k4, k5, k6⟩
  ·exact k2
  ·exact k3 x ((hm x).1 hx) k4 k5 k6
 omega
theorem IsE.uniq {A : Int → Bool} {t : Int} {L L' : List S41} {b b' : Int} (h : IsE A t L b) (h' : IsE A t L' b') (hm : ∀ x, x ∈ L ↔ x ∈ L') : b = b' := by
 rcases h with ⟨h1, h2⟩ | ⟨h1, h2⟩ <;> rcases h' with ⟨k1, k2⟩ | ⟨k1, k2⟩
 ·omega
 ·rw [h1] at k1; cases k1
 ·rw [h1] at k1; cases k1
 ·exact h2.uniq k2 hm
theorem slotsOf_perm {a b : List S41} (h : a.Perm b) : (slotsOf a).Perm (slotsOf b) := by
 induction h with
 | nil => exact List.Perm.refl _
 | cons x _ ih => rw [slotsOf_cons, slotsOf_cons]; exact ih.append_left _
 | swap x y l =>
  rw [slotsOf_cons, slotsOf_cons, slotsOf_cons, slotsOf_cons, ← List.append_assoc, ← List.append_assoc]
  exact List.perm_append_comm.append_right _
 | trans _ _ h1 h2 => exact h1.trans h2
structure Fine (view : List S51) (lg lc : Int) (ends : List S41) : Prop where
 V : View view
 I : Inp view ends
 L : I64P (lg, lc)
 ok : okS view (slotsOf ends)
theorem Fine.turn {view : List S51} {lg lc : Int} {ends : List S41} (F : Fine view lg lc ends) {l l' : List S52} (hp : l'.Perm (slotsOf ends)) (hs : l.Sublist l') :
  (turnF moreE moreF view l).2 = 0 ∧ (turnF moreE moreF view l).1 = viewS view l := by
 have hm : ∀ s ∈ l, maskOk s = true := fun s h => F.I.sm s (hp.mem_iff.1 (hs.subset h))
 have h := turnF_iff l view F.V hm
 have h0 := h.1.2 (okS_sub hs (okS_perm hp.symm F.ok))
 exact ⟨h0, h.2 h0⟩
theorem ended_append (T : Int) (a b : List S41) : ended T (a ++ b) = ended T a ++ ended T b := List.filter_append ..
theorem ended_all {T : Int} {l : List S41} (h : ∀ x ∈ l, x.f2 ≤ T) : ended T l = l := List.filter_eq_self.2 fun x hx => by simpa using h x hx
theorem ended_none {T : Int} {l : List S41} (h : ∀ x ∈ l, T < x.f2) : ended T l = [] := List.filter_eq_nil_iff.2 fun x hx => by have := h x hx; simp; omega
theorem fits_pre {view : List S51} {lg lc : Int} {ends : List S41} (F : Fine view lg lc ends) (q m g c mn mx T : Int) {S pre l : List S41} (hS : S.Perm ends) (he : S = pre ++ l) (h1 : ∀ x ∈ pre, x.f2 ≤ T) (h2 : ∀ x ∈ l, T < x.f2) :
  fitsB (turnF moreE moreF view (slotsOf pre)).1 (leftQ q (lg, lc) pre).1 (leftQ q (lg, lc) pre).2 m g c mn mx = atB view lg lc ends q m g c mn mx T := by
 have hp : pre.Perm (ended T ends) := by
  have h := hS.filter (fun h => decide (h.f2 ≤ T))
  have e : S.filter (fun h => decide (h.f2 ≤ T)) = pre := by
   show ended T S = pre
   rw [he, ended_append, ended_all h1, ended_none h2, List.append_nil]
  rw [e] at h
  exact h
 have t1 := F.turn (l := slotsOf pre) (slotsOf_perm hS) (by rw [he, slotsOf_append]; exact List.sublist_append_left _ _)
 have t2 := F.turn (l := slotsOf (ended T ends)) (List.Perm.refl _) (sub_slots List.filter_sublist)
 unfold atB
 rw [t1.2, t2.2, viewS_perm (slotsOf_perm hp), leftQ_perm hp (lg, lc) F.L]
theorem goE_is {view : List S51} {lg lc : Int} {ends : List S41} (F : Fine view lg lc ends) (q m g c mn mx : Int) {S : List S41} (hS : S.Perm ends) (hsort : S.Pairwise fun a b => a.f2 ≤ b.f2) :
  ∀ (l pre : List S41) (t : Int), S = pre ++ l → (∀ x ∈ pre, x.f2 ≤ t) → IsE (atB view lg lc ends q m g c mn mx) t S (goE q m g c mn mx l t (turnF moreE moreF view (slotsOf pre)).1 (leftQ q (lg, lc) pre))
 | [], pre, t, he, h1 => by
  have hf := fits_pre F q m g c mn mx t hS he h1 (by simp)
  rw [goE, hf]
  cases hA : atB view lg lc ends q m g c mn mx t with
  | true => exact .inl ⟨hA, if_pos rfl⟩
  | false =>
   refine .inr ⟨hA, ?_⟩
   rw [if_neg (by decide)]
   refine ⟨.inl rfl, Int.le_refl _, fun h hh h2 => ?_⟩
   rw [he, List.append_nil] at hh
   have := h1 h hh
   omega
 | x :: l, pre, t, he, h1 => by
  have hx : ∀ y ∈ l, x.f2 ≤ y.f2 := by
   rw [he] at hsort
   exact (List.pairwise_cons.1 (List.pairwise_append.1 hsort).2.1).1
  have he' : S = (pre ++ [x]) ++ l := by rw [he]; simp
  have t1 := F.turn (l := slotsOf pre) (slotsOf_perm hS) (by rw [he, slotsOf_append]; exact List.sublist_append_left _ _)
  have hsp : ((turnF moreE moreF view (slotsOf pre)).1.map spot).Nodup := by
   rw [t1.2]
   have : (viewS view (slotsOf pre)).map spot = view.map spot := by
    unfold viewS
    rw [List.map_map]
    apply List.map_congr_left
    intro f _
    simp only [Function.comp_apply]
    generalize atS f (slotsOf pre) = sl
    have : ∀ (sl : List S52) (f : S51), spot (sl.foldl moreF f) = spot f := fun sl => by
     induction sl with
     | nil => intro f; rfl
     | cons s sl ih => intro f; rw [List.foldl_cons, ih]; rfl
    exact this sl f
   rw [this]; exact F.V.right.2
  have hv : (turned51 moreE moreF (turnF moreE moreF view (slotsOf pre)).1 x.f4).1 = (turnF moreE moreF view (slotsOf (pre ++ [x]))).1 := by
   rw [turned51_find (F := moreF) (fun _ _ => rfl) hsp, slotsOf_append, show slotsOf [x] = x.f4 by simp [slotsOf], turnF_append _ _ _ t1.1]
  have hl := leftQ_snoc q pre x (lg, lc) F.L
  have IH := goE_is F q m g c mn mx hS hsort l (pre ++ [x])
  rw [goE, hv, ← hl]
  by_cases h2 : x.f2 > t
  ·have hgt : ∀ y ∈ x :: l, t < y.f2 := fun y hy => by
    rcases List.mem_cons.1 hy with rfl | hy
    ·exact h2
    ·have := hx y hy; omega
   have hf := fits_pre F q m g c mn mx t hS he h1 hgt
   rw [if_pos h2, hf]
   cases hA : atB view lg lc ends q m g c mn mx t with
   | true => exact .inl ⟨hA, if_pos rfl⟩
   | false =>
    rw [if_neg (by decide)]
    refine .inr ⟨hA, ?_⟩
    by_cases h3 : x.f2 ≥ 1073741825
    ·rw [if_pos h3]
     refine ⟨.inl rfl, Int.le_refl _, fun y hy h4 h5 => ?_⟩
     rw [he] at hy
     rcases List.mem_append.1 hy with hy | hy
     ·have := h1 y hy; omega
     ·rcases List.mem_cons.1 hy with rfl | hy
      ·omega
      ·have := hx y hy; omega
    ·rw [if_neg h3]
     have i := IH x.f2 he' (fun y hy => by
      rcases List.mem_append.1 hy with hy | hy
      ·have := h1 y hy; omega
      ·rw [List.mem_singleton.1 hy]; exact Int.le_refl _)
     generalize goE q m g c mn mx l x.f2 (turnF moreE moreF view (slotsOf (pre ++ [x]))).1 (leftQ q (lg, lc) (pre ++ [x])) = r at *
     have hxS : x ∈ S := by rw [he]; simp
     have hmem : ∀ y ∈ S, t < y.f2 → x.f2 ≤ y.f2 := fun y hy h => by
      rw [he] at hy
      rcases List.mem_append.1 hy with hy | hy
      ·have := h1 y hy; omega
      ·rcases List.mem_cons.1 hy with rfl | hy
       ·exact Int.le_refl _
       ·exact hx y hy
     rcases i with ⟨i1, rfl⟩ | ⟨i1, i2, i3, i4⟩
     ·exact ⟨.inr ⟨x, hxS, rfl, h2, by omega, i1⟩, by omega, fun y hy h _ _ => hmem y hy h⟩
     ·refine ⟨?_, i3, fun y hy h4 h5 h6 => ?_⟩
      ·rcases i2 with i2 | ⟨y, hy, j1, j2, j3, j4⟩
       ·exact .inl i2
       ·exact .inr ⟨y, hy, j1, by omega, j3, j4⟩
      ·have h7 := hmem y hy h4
       by_cases h8 : x.f2 = y.f2
       ·rw [← h8, i1] at h6; cases h6
       ·exact i4 y hy (by omega) h5 h6
  ·rw [if_neg h2]
   exact IH t he' (fun y hy => by
    rcases List.mem_append.1 hy with hy | hy
    ·exact h1 y hy
    ·rw [List.mem_singleton.1 hy]; omega)
theorem goE_early {view : List S51} {lg lc : Int} {ends : List S41} (F : Fine view lg lc ends) (q m g c mn mx now : Int) :
  IsE (atB view lg lc ends q m g c mn mx) now ends (goE q m g c mn mx (isort skey41 ends) now view (lg, lc)) := by
 have hp := isort_perm skey41 ends
 have h := goE_is F q m g c mn mx hp (isort_sorted skey41 ends) (isort skey41 ends) [] now rfl (by simp)
 have e : (turnF moreE moreF view (slotsOf [])).1 = view := rfl
 have e2 : leftQ q (lg, lc) [] = (lg, lc) := rfl
 rw [e, e2] at h
 rcases h with h | ⟨h1, h2, h3, h4⟩
 ·exact .inl h
 ·refine .inr ⟨h1, ?_, h3, fun y hy => h4 y (hp.mem_iff.2 hy)⟩
  rcases h2 with h2 | ⟨y, hy, h5⟩
  ·exact .inl h2
  ·exact .inr ⟨y, hp.mem_iff.1 hy, h5⟩
theorem refEarly_is {view : List S51} {lg lc : Int} {ends : List S41} (q m g c mn mx now : Int) (h0 : ¬ (now < 0 ∨ now > 1073741824 ∨ rightB m g c mn mx = false)) (hok : (turnF moreE moreF view (slotsOf ends)).2 = 0) :
  ∃ b, refEarly now view lg lc ends q m g c mn mx = (b, 0) ∧ IsE (atB view lg lc ends q m g c mn mx) now ends b := by
 unfold refEarly
 rw [if_neg h0, if_neg (fun x => x hok)]
 cases hA : atB view lg lc ends q m g c mn mx now with
 | true => exact ⟨now, by simp, .inl ⟨hA, rfl⟩⟩
 | false => exact ⟨bestF (atB view lg lc ends q m g c mn mx) now 1073741825 ends, by simp, .inr ⟨hA, bestF_best _ _ _⟩⟩
theorem early_ref {view : List S51} {lg lc : Int} {ends : List S41} (V : View view) (I : Inp view ends) (L : I64P (lg, lc)) (now q m g c mn mx : Int) :
  earliestB now view lg lc ends q m g c mn mx = refEarly now view lg lc ends q m g c mn mx := by
 have ht : turned51 moreE moreF view (slotsOf ends) = turnF moreE moreF view (slotsOf ends) := turned51_find (F := moreF) (fun _ _ => rfl) V.right.2 _
 by_cases h0 : now < 0 ∨ now > 1073741824 ∨ rightB m g c mn mx = false
 ·unfold earliestB refEarly
  rw [if_pos h0, if_pos h0]
 by_cases h1 : (turnF moreE moreF view (slotsOf ends)).2 = 0
 ·have F : Fine view lg lc ends := ⟨V, I, L, ((turnF_iff _ view V I.sm).1).1 h1⟩
  obtain ⟨b, hb, hE⟩ := refEarly_is (lg := lg) (lc := lc) q m g c mn mx now h0 h1
  rw [hb]
  unfold earliestB
  rw [if_neg h0, show (ends.flatMap fun h => h.f4) = slotsOf ends from rfl, ht, if_neg (fun x => x h1)]
  rw [(goE_early F q m g c mn mx now).uniq hE (fun _ => Iff.rfl)]
 ·unfold earliestB refEarly
  rw [if_neg h0, if_neg h0, show (ends.flatMap fun h => h.f4) = slotsOf ends from rfl, ht, if_pos h1, if_pos h1]
end Go.Proofs.Ytckhjehibjdjdaa.P
namespace Go.Proofs.Ytckhjehibjdjdaa.P
open Go.RowKit Go.Proofs.YtckhjehibjdjdaaW.PrintWords Go.Proofs.YtckhjehibjdjdaaW.PrintLast Go.Proofs.YtckhjehibjdjdaaW.PrintMore
open Go.Proofs.Ytckhjehibjdjdaa.Bits Go.Proofs.Ytckhjehibjdjdaa.Mp
set_option linter.unusedVariables false
set_option linter.unusedSimpArgs false
theorem awake12 : ensemblelaw12_awake.f = some true := by decide +kernel
theorem free_of_wf {f : S51} (h : wfd51 f) : freeOk f = true ∧ (w64B f.f0.f0 && w64B f.f0.f1) = true := by
 unfold wfd51 wfd48 I64 U64 at h
 constructor
 ·unfold freeOk w64B
  rw [decide_eq_true (by omega), decide_eq_true (by omega), decide_eq_true (by omega), decide_eq_true (by omega)]; rfl
 ·unfold w64B
  rw [decide_eq_true (by omega), decide_eq_true (by omega), decide_eq_true (by omega), decide_eq_true (by omega)]; rfl
theorem mask_of_wf {s : S52} (h : wfd52 s) : maskOk s = true ∧ (w64B s.f0.f0 && w64B s.f0.f1) = true := by
 unfold wfd52 wfd48 I64 U64 at h
 constructor
 ·unfold maskOk
  rw [decide_eq_true (by omega), decide_eq_true (by omega)]; rfl
 ·unfold w64B
  rw [decide_eq_true (by omega), decide_eq_true (by omega), decide_eq_true (by omega), decide_eq_true (by omega)]; rfl
theorem slots_of_wf {ends : List S41} (h : ∀ y ∈ ends, wfd41 y) : ∀ s ∈ slotsOf ends, wfd52 s := fun s hs => by
 obtain ⟨x, hx, hs⟩ := List.mem_flatMap.1 hs
 exact (h x hx).2.2.2.2.2 s hs
theorem slots_len {n : Nat} : ∀ {ends : List S41}, (∀ h ∈ ends, h.f4.length ≤ n) → (slotsOf ends).length ≤ n * ends.length
 | [], _ => by simp [slotsOf]
 | x :: l, h => by
  have h1 := h x (by simp)
  have h2 := slots_len (ends := l) (fun y hy => h y (by simp [hy]))
  rw [slotsOf_cons, List.length_append, List.length_cons, Nat.mul_succ]
  omega
structure Setup (view : List S51) (lg lc : Int) (ends : List S41) : Prop where
 V : View view
 I : Inp view ends
 L : I64P (lg, lc)
 vo : viewOk view
 so : ∀ s ∈ slotsOf ends, (w64B s.f0.f0 && w64B s.f0.f1) = true
 el : ends.length ≤ 20
 vl : view.length ≤ 70
 hl : ∀ h ∈ ends, h.f4.length ≤ 20
 lb : (-1048576 ≤ lg ∧ lg ≤ 1048576) ∧ -1048576 ≤ lc ∧ lc ≤ 1048576
theorem setup {view : List S51} {lg lc : Int} {ends : List S41} (h1 : ∀ y ∈ view, wfd51 y) (h3 : ∀ y ∈ ends, wfd41 y) (hf : fewP view lg lc ends) : Setup view lg lc ends := by
 obtain ⟨f1, f2, f3, f4, f5, f6⟩ := hf
 have hs := slots_of_wf h3
 have hl := slots_len f6
 have hl2 : (slotsOf ends).length ≤ 400 := by
  have : 20 * ends.length ≤ 20 * 20 := Nat.mul_le_mul_left 20 f3
  omega
 exact ⟨⟨f2, fun f hf => (free_of_wf (h1 f hf)).1⟩, ⟨by omega, fun f hf => (free_of_wf (h1 f hf)).1, by omega, by omega, fun s h => (mask_of_wf (hs s h)).1⟩, by unfold I64P; omega,
  ⟨by omega, fun f hf => (free_of_wf (h1 f hf)).1, fun f hf => (free_of_wf (h1 f hf)).2⟩, fun s h => (mask_of_wf (hs s h)).2, f3, f1, f6, f4, f5⟩
theorem okE_mk {view : List S51} {ends : List S41} (hv : viewOk view) (hn : ends.length ≤ 1000) (hm : ∀ s ∈ slotsOf ends, maskOk s = true) (hs : ∀ s ∈ slotsOf ends, (w64B s.f0.f0 && w64B s.f0.f1) = true) (hl : (slotsOf ends).length < 4000000000) : okE view ends = true := by
 unfold okE spotsOk
 rw [show (ends.flatMap fun h => h.f4) = slotsOf ends from rfl, decide_eq_true hn, decide_eq_true hv.1, decide_eq_true hl, List.all_eq_true.2 hv.2.1, List.all_eq_true.2 hv.2.2, List.all_eq_true.2 hm, List.all_eq_true.2 hs]
 rfl
theorem Setup.early {view : List S51} {lg lc : Int} {ends : List S41} (S : Setup view lg lc ends) (now q m g c mn mx : Int) :
  promise_Earliest.f now view lg lc ends q m g c mn mx = some (refEarly now view lg lc ends q m g c mn mx) := by
 unfold promise_Earliest.f
 rw [if_pos (okE_mk S.vo (Nat.le_trans S.el (by decide)) S.I.sm S.so S.I.es), early_ref S.V S.I S.L]
end Go.Proofs.Ytckhjehibjdjdaa.P
namespace Go.Proofs.Ytckhjehibjdjdaa.P
open Go.RowKit Go.Proofs.YtckhjehibjdjdaaW.PrintWords Go.Proofs.YtckhjehibjdjdaaW.PrintLast Go.Proofs.YtckhjehibjdjdaaW.PrintMore
open Go.Proofs.Ytckhjehibjdjdaa.Bits Go.Proofs.Ytckhjehibjdjdaa.Mp
set_option linter.unusedVariables false
set_option linter.unusedSimpArgs false
theorem popS_cons (s : S52) (l : List S52) : popS (s :: l) = popI s.f1 + popS l := by simp [popS]
theorem cpS_cons (s : S52) (l : List S52) : cpS (s :: l) = s.f2 + cpS l := by simp [cpS]
def cpMax (l : List S52) : Prop := ∀ s ∈ l, 0 ≤ s.f2 ∧ s.f2 ≤ 1048576
theorem max_until : ∀ (l : List S41), l ≠ [] → ∃ x ∈ l, ∀ y ∈ l, y.f2 ≤ x.f2
 | [], h => absurd rfl h
 | [x], _ => ⟨x, by simp, by simp⟩
 | x :: y :: l, _ => by
  obtain ⟨z, hz, h⟩ := max_until (y :: l) (by simp)
  by_cases hxz : x.f2 ≤ z.f2
  ·exact ⟨z, by simp [List.mem_cons.1 hz], fun u hu => by
    rcases List.mem_cons.1 hu with rfl | hu
    ·exact hxz
    ·exact h u hu⟩
  ·exact ⟨x, by simp, fun u hu => by
    rcases List.mem_cons.1 hu with rfl | hu
    ·exact Int.le_refl _
    ·have := h u hu; omega⟩
theorem IsE.le {view : List S51} {lg lc : Int} {ends : List S41} {q m g c mn mx now T b : Int} (h : IsE (atB view lg lc ends q m g c mn mx) now ends b) (hT : now ≤ T) (hN : T < 1073741825) (hA : atB view lg lc ends q m g c mn mx T = true) : b ≤ T := by
 rcases h with ⟨_, rfl⟩ | ⟨h0, h1, h2, h3⟩
 ·exact hT
 by_cases hne : ended T ends = []
 ·have : ended now ends = [] := List.filter_eq_nil_iff.2 fun x hx => by
   have := List.filter_eq_nil_iff.1 hne x hx
   simp at this ⊢; omega
  unfold atB at hA h0
  rw [hne] at hA
  rw [this, hA] at h0
  cases h0
 ·obtain ⟨x, hx, hmax⟩ := max_until _ hne
  have hxm := List.mem_filter.1 hx
  have hxT : x.f2 ≤ T := by simpa using hxm.2
  have heq : ∀ U, x.f2 ≤ U → U ≤ T → ended U ends = ended T ends := fun U h4 h5 => by
   unfold ended
   apply List.filter_congr
   intro y hy
   rw [Bool.eq_iff_iff]
   simp only [decide_eq_true_eq]
   constructor
   ·omega
   ·intro h6
    have := hmax y (List.mem_filter.2 ⟨hy, by simpa using h6⟩)
    omega
  by_cases hxn : x.f2 ≤ now
  ·have := heq now hxn hT
   unfold atB at hA h0
   rw [this, hA] at h0
   cases h0
  ·have hAx : atB view lg lc ends q m g c mn mx x.f2 = true := by
    unfold atB at hA ⊢
    rw [heq x.f2 (Int.le_refl _) hxT]; exact hA
   have := h3 x hxm.1 (by omega) (by omega) hAx
   omega
theorem IsE.at {A : Int → Bool} {now b : Int} {L : List S41} (h : IsE A now L b) (hb : b < 1073741825) : A b = true := by
 rcases h with ⟨h1, rfl⟩ | ⟨_, h1, _⟩
 ·exact h1
 ·rcases h1 with rfl | ⟨_, _, _, _, _, h2⟩
  ·omega
  ·exact h2
end Go.Proofs.Ytckhjehibjdjdaa.P
namespace Go.Proofs.Ytckhjehibjdjdaa.P
open Go.RowKit Go.Shelf Go.Proofs.YtckhjehibjdjdaaW.PrintWords Go.Proofs.YtckhjehibjdjdaaW.PrintLast Go.Proofs.YtckhjehibjdjdaaW.PrintMore
attribute [local go_sem] Oper.semAt_some
set_option linter.unusedVariables false
set_option linter.unusedSimpArgs false
def api_Hold.f (l0 : List (S41)) : Option ((List (S41))) := if l0.length < 1000000 then some l0 else none
end Go.Proofs.Ytckhjehibjdjdaa.P
namespace Go.Proofs.Ytckhjehibjdjdaa.P
open Go.RowKit Go.Shelf Go.Proofs.YtckhjehibjdjdaaW.PrintWords Go.Proofs.YtckhjehibjdjdaaW.PrintLast Go.Proofs.YtckhjehibjdjdaaW.PrintMore
open Go.Proofs.Ytckhjehibjdjdaa.Bits
attribute [local go_sem] Oper.semAt_some
set_option linter.unusedVariables false
set_option linter.unusedSimpArgs false
def subU (a : Int × Int) (s : S52) : Int × Int := (wrap64 (a.1 - popI s.f1), wrap64 (a.2 - s.f2))
def subL (a : Int × Int) (l : List S52) : Int × Int := l.foldl subU a
def maskAll (l : List S52) : Bool := l.all maskOk && decide (l.length < 1000000000)
def fill_take.f (a0_0 : Int) (a0_1 : Int) (l1 : List (S52)) : Option (Int × Int) := if maskAll l1 = true then some (subL (a0_0, a0_1) l1) else none
end Go.Proofs.Ytckhjehibjdjdaa.P
namespace Go.Proofs.Ytckhjehibjdjdaa.P
open Go.RowKit Go.Proofs.YtckhjehibjdjdaaW.PrintWords Go.Proofs.YtckhjehibjdjdaaW.PrintLast Go.Proofs.YtckhjehibjdjdaaW.PrintMore
attribute [local go_sem] max2_int min2_int max_two min_two max_three min_three max_four min_four
set_option linter.unusedVariables false
set_option linter.unusedSimpArgs false
def fill_After.f (a0 : Int) (l1 : List (S51)) (a2_0 : Int) (a2_1 : Int) (l3 : List (S41)) (a4_0 : Int) (a4_1 : Int) (a4_2 : Int) (a4_3 : Int) (a4_4 : Int) (a4_5 : Int) (a5_0 : Int) (a5_1 : Int) (a5_2 : Int) (a5_3 : Bool) (l5_4 : List (S52)) : Option (Int × Int) := (pack_Less.f l1 l5_4).bind fun bt329 => (if bt329.2 = 0 then (if a5_1 = a4_0 then ((fill_take.f a2_0 a2_1 l5_4).bind fun bt333 => ((api_Hold.f l3).bind fun t335 => ((some (([(⟨a5_0, a5_1, a5_2, a5_3, l5_4⟩ : S41)] : List (S41)) : List (S41))).bind fun y338 => (if t335.length + y338.length < 2513169434916 then ((promise_Earliest.f a0 bt329.1 bt333.1 bt333.2 (t335 ++ y338) a4_0 a4_1 a4_2 a4_3 a4_4 a4_5).bind fun bt344 => (some (bt344.1, bt344.2))) else (none))))) else ((api_Hold.f l3).bind fun t346 => ((some (([(⟨a5_0, a5_1, a5_2, a5_3, l5_4⟩ : S41)] : List (S41)) : List (S41))).bind fun y349 => (if t346.length + y349.length < 2513169434916 then ((promise_Earliest.f a0 bt329.1 a2_0 a2_1 (t346 ++ y349) a4_0 a4_1 a4_2 a4_3 a4_4 a4_5).bind fun bt355 => (some (bt355.1, bt355.2))) else (none))))) else (some (0, bt329.2)))
end Go.Proofs.Ytckhjehibjdjdaa.P
namespace Go.Proofs.Ytckhjehibjdjdaa.P
open Go.RowKit Go.Proofs.YtckhjehibjdjdaaW.PrintWords Go.Proofs.YtckhjehibjdjdaaW.PrintLast Go.Proofs.YtckhjehibjdjdaaW.PrintMore
attribute [local go_sem] max2_int min2_int max_two min_two max_three min_three max_four min_four
set_option linter.unusedVariables false
set_option linter.unusedSimpArgs false
end Go.Proofs.Ytckhjehibjdjdaa.P
namespace Go.Proofs.Ytckhjehibjdjdaa.P
open Go.RowKit Go.Proofs.YtckhjehibjdjdaaW.PrintWords Go.Proofs.YtckhjehibjdjdaaW.PrintLast Go.Proofs.YtckhjehibjdjdaaW.PrintMore
attribute [local go_sem] max2_int min2_int max_two min_two max_three min_three max_four min_four
set_option linter.unusedVariables false
set_option linter.unusedSimpArgs false
end Go.Proofs.Ytckhjehibjdjdaa.P
namespace Go.Proofs.Ytckhjehibjdjdaa.P
open Go.RowKit Go.Proofs.YtckhjehibjdjdaaW.PrintWords Go.Proofs.YtckhjehibjdjdaaW.PrintLast Go.Proofs.YtckhjehibjdjdaaW.PrintMore
attribute [local go_sem] max2_int min2_int max_two min_two max_three min_three max_four min_four
set_option linter.unusedVariables false
set_option linter.unusedSimpArgs false
end Go.Proofs.Ytckhjehibjdjdaa.P
namespace Go.Proofs.Ytckhjehibjdjdaa.P
open Go.RowKit Go.Proofs.YtckhjehibjdjdaaW.PrintWords Go.Proofs.YtckhjehibjdjdaaW.PrintLast Go.Proofs.YtckhjehibjdjdaaW.PrintMore
attribute [local go_sem] max2_int min2_int max_two min_two max_three min_three max_four min_four
set_option linter.unusedVariables false
set_option linter.unusedSimpArgs false
end Go.Proofs.Ytckhjehibjdjdaa.P
namespace Go.Proofs.Ytckhjehibjdjdaa.P
open Go.RowKit Go.Proofs.YtckhjehibjdjdaaW.PrintWords Go.Proofs.YtckhjehibjdjdaaW.PrintLast Go.Proofs.YtckhjehibjdjdaaW.PrintMore
attribute [local go_sem] max2_int min2_int max_two min_two max_three min_three max_four min_four
set_option linter.unusedVariables false
set_option linter.unusedSimpArgs false
end Go.Proofs.Ytckhjehibjdjdaa.P
namespace Go.Proofs.Ytckhjehibjdjdaa.P
open Go.RowKit Go.Proofs.YtckhjehibjdjdaaW.PrintWords Go.Proofs.YtckhjehibjdjdaaW.PrintLast Go.Proofs.YtckhjehibjdjdaaW.PrintMore
open Go.Proofs.Ytckhjehibjdjdaa.Bits Go.Proofs.Ytckhjehibjdjdaa.Mp
set_option linter.unusedVariables false
set_option linter.unusedSimpArgs false
theorem lessE_iff {f : S51} {s : S52} (hf : freeOk f = true) (hs : maskOk s = true) : lessE f s = 0 ↔ s.f1.toNat &&& f.f1.toNat = s.f1.toNat ∧ s.f2 ≤ f.f2 := by
 have h1 := freeOk_out hf
 have h2 := maskOk_out hs
 have hand : Go.bits .andNot .u64 s.f1 f.f1 = ((s.f1.toNat - (s.f1.toNat &&& f.f1.toNat) : Nat) : Int) := by
  have := andNot_nat s.f1.toNat f.f1.toNat (by omega) (by omega)
  rw [Int.toNat_of_nonneg h2.1, Int.toNat_of_nonneg h1.1.1] at this
  exact this
 have hle : s.f1.toNat &&& f.f1.toNat ≤ s.f1.toNat := Nat.and_le_left
 unfold lessE
 rw [hand]
 by_cases h3 : s.f1.toNat &&& f.f1.toNat = s.f1.toNat
 ·rw [if_neg (by omega)]
  by_cases h4 : s.f2 > f.f2
  ·rw [if_pos h4]; constructor
   ·intro x; cases x
   ·intro x; omega
  ·rw [if_neg h4]; exact ⟨fun _ => ⟨h3, by omega⟩, fun _ => rfl⟩
 ·rw [if_pos (by omega)]; constructor
  ·intro x; cases x
  ·intro x; exact absurd x.1 h3
theorem andNot_bv (a b : Int) : Go.bits .andNot .u64 a b = ((BitVec.ofInt 64 a &&& ~~~ BitVec.ofInt 64 b).toNat : Int) := by
 show IntKind.u64.wrap ((BitVec.ofInt 64 a &&& ~~~ BitVec.ofInt 64 b).toNat : Int) = _
 rw [wrapN, Nat.mod_eq_of_lt (BitVec.isLt _)]
theorem bv_of {a : Int} (h : 0 ≤ a ∧ a < 18446744073709551616) : ((BitVec.ofInt 64 a).toNat : Int) = a := by
 obtain ⟨x, rfl⟩ := Int.eq_ofNat_of_zero_le h.1
 rw [BitVec.ofInt_natCast, BitVec.toNat_ofNat, Nat.mod_eq_of_lt (by omega)]
theorem and_bv {a b : Int} (ha : 0 ≤ a ∧ a < 18446744073709551616) (hb : 0 ≤ b ∧ b < 18446744073709551616) : (BitVec.ofInt 64 a &&& BitVec.ofInt 64 b).toNat = a.toNat &&& b.toNat := by
 rw [BitVec.toNat_and]
 have h1 := bv_of ha
 have h2 := bv_of hb
 rw [show (BitVec.ofInt 64 a).toNat = a.toNat by omega, show (BitVec.ofInt 64 b).toNat = b.toNat by omega]
theorem back_one {f : S51} {s : S52} (hf : freeOk f = true) (hc : cpOk f) (hs : maskOk s = true) (h0 : 0 ≤ s.f2) (h : lessE f s = 0) :
  moreE (lessF f s) s = 0 ∧ moreF (lessF f s) s = f ∧ freeOk (lessF f s) = true ∧ cpOk (lessF f s) := by
 have h1 := freeOk_out hf
 have h2 := maskOk_out hs
 obtain ⟨h3, h4⟩ := (lessE_iff hf hs).1 h
 have hb := hc
 unfold cpOk at hb
 have e2 : (lessF f s).f2 = f.f2 - s.f2 := by unfold lessF; exact w_id (by omega)
 have hok := lessF_ok hf hs
 have hco : cpOk (lessF f s) := by unfold cpOk; omega
 have hsub : BitVec.ofInt 64 s.f1 &&& BitVec.ofInt 64 f.f1 = BitVec.ofInt 64 s.f1 := by
  apply BitVec.eq_of_toNat_eq
  rw [and_bv h2 h1.1, h3]
  have := bv_of h2
  omega
 have e1 : (lessF f s).f1 = Go.bits .andNot .u64 f.f1 s.f1 := rfl
 have hA := andNot_bv f.f1 s.f1
 generalize hF : BitVec.ofInt 64 f.f1 = F at *
 generalize hS : BitVec.ofInt 64 s.f1 = S at *
 have hL : BitVec.ofInt 64 (lessF f s).f1 = F &&& ~~~ S := by rw [e1, hA, ofInt_toNat]
 have hd : disj s.f1 (lessF f s).f1 := by
  unfold disj
  rw [← and_bv h2 (freeOk_out hok).1, hS, hL]
  have : S &&& (F &&& ~~~S) = 0#64 := by ext i; simp; intro h _; exact h
  rw [this]; rfl
 refine ⟨(moreE_iff hok hco hs h0).2 ⟨hd, by omega⟩, ?_, hok, hco⟩
 have hor : Go.bits .or .u64 (lessF f s).f1 s.f1 = f.f1 := by
  rw [bits_or_bv, hL, hS]
  have : F &&& ~~~S ||| S = F := by
   ext i hi
   have := congrArg (fun x => x[i]) hsub
   simp only [BitVec.getElem_and] at this
   simp only [BitVec.getElem_or, BitVec.getElem_and, BitVec.getElem_not]
   cases h5 : S[i] <;> cases h6 : F[i] <;> simp_all
  rw [this, ← hF]
  exact bv_of h1.1
 have h6 : wrap64 ((lessF f s).f2 + s.f2) = f.f2 := by rw [e2, w_id (by omega)]; omega
 show (⟨f.f0, Go.bits .or .u64 (lessF f s).f1 s.f1, wrap64 ((lessF f s).f2 + s.f2)⟩ : S51) = f
 rw [hor, h6]
theorem find_at {view : List S51} (hn : (view.map spot).Nodup) {s : S52} {p : Nat} (hp : p < view.length) (hs : spot view[p] = sspot s) : findI view s.f0.f0 s.f0.f1 = (p : Int) := by
 have hin : ¬ findI view s.f0.f0 s.f0.f1 < 0 := fun h => findI_neg.1 h (List.mem_map.2 ⟨view[p], List.getElem_mem hp, hs⟩)
 obtain ⟨q, hq⟩ := Int.eq_ofNat_of_zero_le (show 0 ≤ findI view s.f0.f0 s.f0.f1 by omega)
 obtain ⟨hql, hqs, _, _⟩ := set_step hn hq
 have hn' := List.pairwise_iff_getElem.1 hn
 rw [hq]
 rcases Nat.lt_trichotomy p q with h | h | h
 ·exact absurd (by rw [List.getElem_map, List.getElem_map, hs, hqs]) (hn' p q (by simpa using hp) (by simpa using hql) h)
 ·rw [h]
 ·exact absurd (by rw [List.getElem_map, List.getElem_map, hs, hqs]) (hn' q p (by simpa using hql) (by simpa using hp) h)
theorem turnF_one {E : S51 → S52 → Int} {F : S51 → S52 → S51} {view : List S51} (hn : (view.map spot).Nodup) {s : S52} {p : Nat} (hp : p < view.length) (hs : spot view[p] = sspot s) (h0 : 0 ≤ s.f2) (hE : E view[p] s = 0) :
  turnF E F view [s] = (view.set p (F view[p] s), 0) := by
 rw [turnF, if_neg (by omega), find_at hn hp hs, if_neg (by omega), rd51' view p hp, if_pos hE, Int.toNat_natCast, turnF]
theorem less_back : ∀ (slots : List S52) (view : List S51), View view → (∀ s ∈ slots, maskOk s = true) → (turnF lessE lessF view slots).2 = 0 →
  View (turnF lessE lessF view slots).1 ∧ (turnF lessE lessF view slots).1.map spot = view.map spot ∧ cpMax slots ∧ turnF moreE moreF (turnF lessE lessF view slots).1 slots.reverse = (view, 0)
 | [], view, V, _, _ => ⟨V, rfl, by simp [cpMax], rfl⟩
 | s :: ss, view, V, hm, h => by
  have hms := hm s (by simp)
  rw [turnF] at h ⊢
  by_cases h1 : s.f2 < 0
  ·rw [if_pos h1] at h; cases h
  rw [if_neg h1] at h ⊢
  by_cases h2 : findI view s.f0.f0 s.f0.f1 < 0
  ·rw [if_pos h2] at h; cases h
  rw [if_neg h2] at h ⊢
  obtain ⟨p, hp⟩ := Int.eq_ofNat_of_zero_le (show 0 ≤ findI view s.f0.f0 s.f0.f1 by omega)
  obtain ⟨hpl, hps, _, _⟩ := set_step V.right.2 hp
  rw [hp, Int.toNat_natCast, rd51' view p hpl] at h ⊢
  have hfp := V.free _ (List.getElem_mem hpl)
  have hcp := V.right.1 _ (List.getElem_mem hpl)
  by_cases h3 : lessE view[p] s = 0
  ·rw [if_pos h3] at h ⊢
   obtain ⟨b1, b2, b3, b4⟩ := back_one hfp hcp hms (by omega) h3
   have sp : (view.set p (lessF view[p] s)).map spot = view.map spot := spots_set (fun hk => rfl)
   have V' : View (view.set p (lessF view[p] s)) := ⟨⟨set_all V.right.1 b4, by rw [sp]; exact V.right.2⟩, set_all V.free b3⟩
   obtain ⟨i1, i2, i3, i4⟩ := less_back ss _ V' (fun x hx => hm x (by simp [hx])) h
   refine ⟨i1, i2.trans sp, fun x hx => ?_, ?_⟩
   ·rcases List.mem_cons.1 hx with rfl | hx
    ·have := ((lessE_iff hfp hms).1 h3).2
     unfold cpOk at hcp
     exact ⟨by omega, by omega⟩
    ·exact i3 x hx
   ·have hl : p < (view.set p (lessF view[p] s)).length := by rw [List.length_set]; exact hpl
    have eg : (view.set p (lessF view[p] s))[p] = lessF view[p] s := List.getElem_set_self _
    rw [List.reverse_cons, turnF_append _ _ _ (by rw [i4]), i4]
    simp only
    rw [turnF_one V'.right.2 hl (by rw [eg]; exact hps) (by omega) (by rw [eg]; exact b1), eg, b2, List.set_set, List.set_getElem_self]
  ·rw [if_neg h3] at h; exact absurd h h3
structure Base (view : List S51) (ends : List S41) : Prop where
 V : View view
 I : Inp view ends
 vo : viewOk view
 so : ∀ s ∈ slotsOf ends, (w64B s.f0.f0 && w64B s.f0.f1) = true
 el : ends.length ≤ 1000
 sl : (slotsOf ends).length ≤ 1000000
theorem Setup.base {view : List S51} {lg lc : Int} {ends : List S41} (S : Setup view lg lc ends) : Base view ends :=
 ⟨S.V, S.I, S.vo, S.so, Nat.le_trans S.el (by decide), by
  have h1 := slots_len S.hl
  have h2 : 20 * ends.length ≤ 20 * 20 := Nat.mul_le_mul_left 20 S.el
  omega⟩
theorem Base.early {view : List S51} {ends : List S41} (B : Base view ends) {lg lc : Int} (L : I64P (lg, lc)) (now q m g c mn mx : Int) :
  promise_Earliest.f now view lg lc ends q m g c mn mx = some (refEarly now view lg lc ends q m g c mn mx) := by
 unfold promise_Earliest.f
 rw [if_pos (okE_mk B.vo B.el B.I.sm B.so B.I.es), early_ref B.V B.I L]
structure HoldOk (h : S41) : Prop where
 mo : ∀ s ∈ h.f4, maskOk s = true
 sp : ∀ s ∈ h.f4, (w64B s.f0.f0 && w64B s.f0.f1) = true
 ln : h.f4.length ≤ 20
theorem slotsOf_snoc (ends : List S41) (h : S41) : slotsOf (ends ++ [h]) = slotsOf ends ++ h.f4 := by rw [slotsOf_append]; simp [slotsOf]
theorem Base.less {view : List S51} {ends : List S41} (B : Base view ends) {h : S41} (H : HoldOk h) (hok : (turnF lessE lessF view h.f4).2 = 0) (el : ends.length < 500) (sl : (slotsOf ends).length ≤ 100000) :
  Base (turnF lessE lessF view h.f4).1 (ends ++ [h]) := by
 obtain ⟨VL, hsp, _, _⟩ := less_back h.f4 view B.V H.mo hok
 have hlen : (turnF lessE lessF view h.f4).1.length = view.length := by
  have := congrArg List.length hsp
  simpa using this
 have hs : ∀ s ∈ slotsOf (ends ++ [h]), s ∈ slotsOf ends ∨ s ∈ h.f4 := fun s hs => by rw [slotsOf_snoc] at hs; exact List.mem_append.1 hs
 have hl : (slotsOf (ends ++ [h])).length ≤ 100020 := by rw [slotsOf_snoc, List.length_append]; have := H.ln; omega
 refine ⟨VL, ⟨by rw [hlen]; exact B.I.vl, VL.free, by simp; omega, by omega, fun s h1 => (hs s h1).elim (B.I.sm s) (H.mo s)⟩, ⟨by rw [hlen]; exact B.vo.1, VL.free, fun f hf => ?_⟩,
  fun s h1 => (hs s h1).elim (B.so s) (H.sp s), by simp; omega, by omega⟩
 have : spot f ∈ view.map spot := by rw [← hsp]; exact List.mem_map_of_mem hf
 obtain ⟨f', hf', e⟩ := List.mem_map.1 this
 have h1 := B.vo.2.2 f' hf'
 unfold spot at e
 injection e with e1 e2
 rw [← e1, ← e2]; exact h1
theorem subL_eq : ∀ (l : List S52) (a : Int × Int), I64P a → subL a l = (wrap64 (a.1 - popS l), wrap64 (a.2 - cpS l))
 | [], a, h => by
  unfold I64P at h
  have e1 : wrap64 (a.1 - popS []) = a.1 := by rw [show popS [] = 0 from rfl, Int.sub_zero]; exact w_id (by omega)
  have e2 : wrap64 (a.2 - cpS []) = a.2 := by rw [show cpS [] = 0 from rfl, Int.sub_zero]; exact w_id (by omega)
  rw [e1, e2]; rfl
 | s :: l, a, h => by
  have e : subL a (s :: l) = subL (subU a s) l := rfl
  rw [e, subL_eq l _ ⟨wrap_bd _, wrap_bd _⟩, popS_cons, cpS_cons]
  unfold subU
  simp only
  have e3 : ∀ x y z : Int, wrap64 (wrap64 (x - y) - z) = wrap64 (x - (y + z)) := fun x y z => by unfold wrap64; omega
  rw [e3, e3]
def aftL (q lg : Int) (hq : Int) (n : Int) : Int := if hq = q then wrap64 (lg - n) else lg
def afterB (now : Int) (view : List S51) (lg lc : Int) (ends : List S41) (q m g c mn mx : Int) (h : S41) : Int × Int :=
 if (turnF lessE lessF view h.f4).2 = 0 then refEarly now (turnF lessE lessF view h.f4).1 (aftL q lg h.f1 (popS h.f4)) (aftL q lc h.f1 (cpS h.f4)) (ends ++ [h]) q m g c mn mx else (0, (turnF lessE lessF view h.f4).2)
theorem aftL_I64 {q lg lc : Int} (L : I64P (lg, lc)) (a b d : Int) : I64P (aftL q lg a b, aftL q lc a d) := by
 unfold I64P at L
 unfold I64P aftL
 split
 ·exact ⟨wrap_bd _, wrap_bd _⟩
 ·exact L
theorem Base.after {view : List S51} {ends : List S41} (B : Base view ends) {lg lc : Int} (L : I64P (lg, lc)) {h0 h1 h2 : Int} {h3 : Bool} {h4 : List S52} (H : HoldOk ⟨h0, h1, h2, h3, h4⟩) (el : ends.length < 500) (sl : (slotsOf ends).length ≤ 100000) (now q m g c mn mx : Int) :
  fill_After.f now view lg lc ends q m g c mn mx h0 h1 h2 h3 h4 = some (afterB now view lg lc ends q m g c mn mx ⟨h0, h1, h2, h3, h4⟩) := by
 have e1 : pack_Less.f view h4 = some (turnF lessE lessF view h4) := by
  unfold pack_Less.f spotsOk
  have a1 : view.all (fun f => w64B f.f0.f0 && w64B f.f0.f1) = true := List.all_eq_true.2 B.vo.2.2
  have a2 : h4.all (fun f => w64B f.f0.f0 && w64B f.f0.f1) = true := List.all_eq_true.2 H.sp
  rw [decide_eq_true B.vo.1, a1, a2, if_pos (by rfl), turned51_find (F := lessF) (fun _ _ => rfl) B.V.right.2]
 have hln : h4.length ≤ 20 := H.ln
 have e2 : fill_take.f lg lc h4 = some (wrap64 (lg - popS h4), wrap64 (lc - cpS h4)) := by
  unfold fill_take.f maskAll
  have a1 : h4.all maskOk = true := List.all_eq_true.2 H.mo
  rw [a1, decide_eq_true (by omega), if_pos (by rfl), subL_eq h4 _ L]
 have e3 : api_Hold.f ends = some ends := by unfold api_Hold.f; rw [if_pos (by omega)]
 unfold fill_After.f afterB
 rw [e1, Option.bind_some]
 by_cases hz : (turnF lessE lessF view h4).2 = 0
 ·have B' := B.less H hz el sl
  have L' := aftL_I64 (q := q) L h1 (popS h4) (cpS h4)
  have E := B'.early L' now q m g c mn mx
  rw [if_pos hz, if_pos hz]
  by_cases hq : h1 = q
  ·rw [if_pos hq, e2, Option.bind_some, e3, Option.bind_some, Option.bind_some, if_pos (by simp; omega)]
   unfold aftL at E ⊢
   simp only at E ⊢
   rw [if_pos hq, if_pos hq] at E ⊢
   rw [E]; rfl
  ·rw [if_neg hq, e3, Option.bind_some, Option.bind_some, if_pos (by simp; omega)]
   unfold aftL at E ⊢
   simp only at E ⊢
   rw [if_neg hq, if_neg hq] at E ⊢
   rw [E]; rfl
 ·rw [if_neg hz, if_neg hz]
end Go.Proofs.Ytckhjehibjdjdaa.P
namespace Go.Proofs.Ytckhjehibjdjdaa.P
open Go.RowKit Go.Shelf Go.Proofs.YtckhjehibjdjdaaW.PrintWords Go.Proofs.YtckhjehibjdjdaaW.PrintLast Go.Proofs.YtckhjehibjdjdaaW.PrintMore
attribute [local go_sem] Oper.semAt_some
set_option linter.unusedVariables false
set_option linter.unusedSimpArgs false
structure SE where
 w0 : World
 base : Nat
 ok : Nat → Prop
 g : Nat
 n : Nat
 cap : Nat
 key : S51 → Int
 okf : S51 → Prop
 lb : Array Value
 sf : Nat
 sb : Array Value
structure SE.RW (E : SE) (W : World) (xs : List S51) : Prop where
 grown : E.w0.grownBy W (some E.g)
 row : Kd.R k51 51 W E.base E.ok (.slice (some ⟨E.g, 0, none⟩) E.n E.cap) xs
 mem : ∀ f ∈ xs, E.okf f
theorem SE.RW.len {E : SE} {W : World} {xs : List S51} (h : E.RW W xs) : xs.length = E.n := (Kd.R_reads' h.row).1.symm
theorem SE.RW.below {E : SE} {W W' : World} {xs : List S51} (h : E.RW W xs) (hb : Below W.heap.size W W') : E.RW W' xs :=
 ⟨grown_grown h.grown ⟨hb.os, hb.tape, hb.output, hb.size, fun k hk _ => hb.block k hk⟩, Kd.R_below h.row hb, h.mem⟩
theorem SE.RW.drew {E : SE} {W : World} {xs : List S51} (h : E.RW W xs) : E.RW W.drew xs := ⟨grown_drew h.grown, Kd.R_drew h.row, h.mem⟩
theorem SE.RW.drewN {E : SE} {W : World} {xs : List S51} (h : E.RW W xs) (n : Nat) : E.RW (W.drewN n) xs := ⟨⟨h.grown.os, h.grown.tape, h.grown.output, h.grown.size, h.grown.block⟩, Kd.R_drewN h.row n, h.mem⟩
end Go.Proofs.Ytckhjehibjdjdaa.P
namespace Go.Proofs.Ytckhjehibjdjdaa.P
open Go.RowKit Go.Shelf Go.Proofs.YtckhjehibjdjdaaW.PrintWords Go.Proofs.YtckhjehibjdjdaaW.PrintLast Go.Proofs.YtckhjehibjdjdaaW.PrintMore
attribute [local go_sem] Oper.semAt_some
set_option linter.unusedVariables false
set_option linter.unusedSimpArgs false
end Go.Proofs.Ytckhjehibjdjdaa.P
namespace Go.Proofs.Ytckhjehibjdjdaa.P
open Go.RowKit Go.Shelf Go.Proofs.YtckhjehibjdjdaaW.PrintWords Go.Proofs.YtckhjehibjdjdaaW.PrintLast Go.Proofs.YtckhjehibjdjdaaW.PrintMore
attribute [local go_sem] Oper.semAt_some
set_option linter.unusedVariables false
set_option linter.unusedSimpArgs false
end Go.Proofs.Ytckhjehibjdjdaa.P
namespace Go.Proofs.Ytckhjehibjdjdaa.P
open Go.RowKit Go.Shelf Go.Proofs.YtckhjehibjdjdaaW.PrintWords Go.Proofs.YtckhjehibjdjdaaW.PrintLast Go.Proofs.YtckhjehibjdjdaaW.PrintMore
attribute [local go_sem] Oper.semAt_some
set_option linter.unusedVariables false
set_option linter.unusedSimpArgs false
end Go.Proofs.Ytckhjehibjdjdaa.P
namespace Go.Proofs.Ytckhjehibjdjdaa.P
open Go.RowKit Go.Shelf Go.Proofs.YtckhjehibjdjdaaW.PrintWords Go.Proofs.YtckhjehibjdjdaaW.PrintLast Go.Proofs.YtckhjehibjdjdaaW.PrintMore
attribute [local go_sem] Oper.semAt_some
set_option linter.unusedVariables false
set_option linter.unusedSimpArgs false
end Go.Proofs.Ytckhjehibjdjdaa.P
namespace Go.Proofs.Ytckhjehibjdjdaa.P
open Go.RowKit Go.Shelf Go.Proofs.YtckhjehibjdjdaaW.PrintWords Go.Proofs.YtckhjehibjdjdaaW.PrintLast Go.Proofs.YtckhjehibjdjdaaW.PrintMore
attribute [local go_sem] Oper.semAt_some
set_option linter.unusedVariables false
set_option linter.unusedSimpArgs false
end Go.Proofs.Ytckhjehibjdjdaa.P
namespace Go.Proofs.Ytckhjehibjdjdaa.P
open Go.RowKit Go.Shelf Go.Proofs.YtckhjehibjdjdaaW.PrintWords Go.Proofs.YtckhjehibjdjdaaW.PrintLast Go.Proofs.YtckhjehibjdjdaaW.PrintMore
attribute [local go_sem] Oper.semAt_some
set_option linter.unusedVariables false
set_option linter.unusedSimpArgs false
end Go.Proofs.Ytckhjehibjdjdaa.P
namespace Go.Proofs.Ytckhjehibjdjdaa.P
open Go.RowKit Go.Shelf Go.Lib Go.Proofs.YtckhjehibjdjdaaW.PrintWords Go.Proofs.YtckhjehibjdjdaaW.PrintLast Go.Proofs.YtckhjehibjdjdaaW.PrintMore
attribute [local go_sem] Oper.semAt_some
set_option linter.unusedVariables false
set_option linter.unusedSimpArgs false
noncomputable def freeT : TypeInfo := (Try.prog.info? 22).get (by kernel_rfl)
end Go.Proofs.Ytckhjehibjdjdaa.P
namespace Go.Proofs.Ytckhjehibjdjdaa.P
open Go.RowKit Go.Proofs.YtckhjehibjdjdaaW.PrintWords Go.Proofs.YtckhjehibjdjdaaW.PrintLast Go.Proofs.YtckhjehibjdjdaaW.PrintMore
attribute [local go_sem] max2_int min2_int max_two min_two max_three min_three max_four min_four
set_option linter.unusedVariables false
set_option linter.unusedSimpArgs false
end Go.Proofs.Ytckhjehibjdjdaa.P
namespace Go.Proofs.Ytckhjehibjdjdaa.P
open Go.RowKit Go.Shelf Go.Lib Go.Proofs.YtckhjehibjdjdaaW.PrintWords Go.Proofs.YtckhjehibjdjdaaW.PrintLast Go.Proofs.YtckhjehibjdjdaaW.PrintMore
open Go.Proofs.Ytckhjehibjdjdaa.Bits
attribute [local go_sem] Oper.semAt_some
set_option linter.unusedVariables false
set_option linter.unusedSimpArgs false
end Go.Proofs.Ytckhjehibjdjdaa.P
namespace Go.Proofs.Ytckhjehibjdjdaa.P
open Go.RowKit Go.Proofs.YtckhjehibjdjdaaW.PrintWords Go.Proofs.YtckhjehibjdjdaaW.PrintLast Go.Proofs.YtckhjehibjdjdaaW.PrintMore
open Go.Proofs.Ytckhjehibjdjdaa.Bits Go.Proofs.Ytckhjehibjdjdaa.Mp
set_option linter.unusedVariables false
set_option linter.unusedSimpArgs false
def PromiseRoom.Pure : Prop := ∀ (x0 : Int) (x1 : List S51) (x2 : S29) (x3 : Int), I64 x0 → (x1.length ≤ maxLen ∧ ∀ y ∈ x1, wfd51 y) → wfd29 x2 → I64 x3 → ∃ k, ensemblelaw12_PromiseRoom.f k x0 x1 x2.f0 x2.f1 x2.f2.f0 x2.f2.f1 x2.f2.f2 x2.f2.f3 x3 = some true
def emp (view : List S51) : List S51 := view.map fun f => (⟨f.f0, 0, 0⟩ : S51)
def slo (view : List S51) : List S52 := view.map fun f => (⟨f.f0, f.f1, f.f2⟩ : S52)
theorem emp_ok (a : S48) : freeOk (⟨a, 0, 0⟩ : S51) = true ∧ cpOk (⟨a, 0, 0⟩ : S51) := ⟨by unfold freeOk w64B; simp, by unfold cpOk; simp⟩
theorem emp_spots (A B : List S51) : (A ++ emp B).map spot = (A ++ B).map spot := by
 unfold emp
 rw [List.map_append, List.map_append, List.map_map]
 rfl
theorem fill_turn : ∀ (B A : List S51), View (A ++ B) → turnF moreE moreF (A ++ emp B) (slo B) = (A ++ B, 0)
 | [], A, V => rfl
 | f :: B, A, V => by
  have hin : f ∈ A ++ f :: B := by simp
  have hf := V.free f hin
  have hc := V.right.1 f hin
  have hb := hc
  unfold cpOk at hb
  have hfo := freeOk_out hf
  have hms : maskOk (⟨f.f0, f.f1, f.f2⟩ : S52) = true := by
   unfold maskOk
   rw [decide_eq_true hfo.1.1, decide_eq_true hfo.1.2]; rfl
  have e0 : emp (f :: B) = (⟨f.f0, 0, 0⟩ : S51) :: emp B := rfl
  have e1 : slo (f :: B) = (⟨f.f0, f.f1, f.f2⟩ : S52) :: slo B := rfl
  have hn : ((A ++ emp (f :: B)).map spot).Nodup := by rw [emp_spots]; exact V.right.2
  have hl : A.length < (A ++ emp (f :: B)).length := by rw [e0, List.length_append, List.length_cons]; omega
  have hg : (A ++ emp (f :: B))[A.length] = (⟨f.f0, 0, 0⟩ : S51) := by
   rw [List.getElem_append_right (Nat.le_refl _)]
   simp [e0]
  have hfi : findI (A ++ emp (f :: B)) (⟨f.f0, f.f1, f.f2⟩ : S52).f0.f0 (⟨f.f0, f.f1, f.f2⟩ : S52).f0.f1 = (A.length : Int) := find_at hn hl (by rw [hg]; rfl)
  have hE : moreE (⟨f.f0, 0, 0⟩ : S51) (⟨f.f0, f.f1, f.f2⟩ : S52) = 0 := by
   refine (moreE_iff (emp_ok _).1 (emp_ok _).2 hms hb.1).2 ⟨?_, ?_⟩
   ·unfold disj; simp
   ·show (0 : Int) + f.f2 ≤ 1048576
    omega
  have hF : moreF (⟨f.f0, 0, 0⟩ : S51) (⟨f.f0, f.f1, f.f2⟩ : S52) = f := by
   show (⟨f.f0, Go.bits .or .u64 0 f.f1, wrap64 (0 + f.f2)⟩ : S51) = f
   have h1 : Go.bits .or .u64 0 f.f1 = f.f1 := by
    rw [bits_or_bv]
    have : BitVec.ofInt 64 0 ||| BitVec.ofInt 64 f.f1 = BitVec.ofInt 64 f.f1 := by simp
    rw [this]
    exact bv_of hfo.1
   rw [h1, w_id (by omega), Int.zero_add]
  have hset : (A ++ emp (f :: B)).set A.length f = (A ++ [f]) ++ emp B := by
   rw [e0, List.set_append_right _ _ (Nat.le_refl _), Nat.sub_self, List.set_cons_zero, List.append_assoc]; rfl
  rw [e1, turnF, if_neg (show ¬ f.f2 < 0 by omega), hfi, if_neg (by omega), rd51' _ A.length hl, hg, if_pos hE, Int.toNat_natCast, hF, hset,
   fill_turn B (A ++ [f]) (by rw [List.append_assoc]; exact V), List.append_assoc]
  rfl
theorem emp_room {s0 s1 s2 s3 : Int} (hg : goodShape s0 s1 s2 s3 = true) : ∀ view : List S51, roomS s0 s1 s2 s3 (emp view) = 0
 | [] => rfl
 | f :: l => by
  have I := emp_room hg l
  have hb := good_out hg
  have e : fitV s0 s1 s2 s3 0 0 = 0 := by
   unfold fitV
   rw [if_pos ⟨hg, Int.le_refl _⟩]
   unfold fitN
   have hp : popI 0 = 0 := by decide +kernel
   rw [hp]
   unfold eachI
   by_cases h0 : s0 = 0
   ·rw [if_pos h0, if_neg (fun h => hb.2.2.2.2.2.2.2.2 ⟨h0, h⟩)]; simp; rfl
   ·rw [if_neg h0]
    by_cases h1 : s1 = 0
    ·rw [if_pos h1]; simp; rfl
    ·rw [if_neg h1]; simp; rfl
  have e2 : emp (f :: l) = (⟨f.f0, 0, 0⟩ : S51) :: emp l := rfl
  unfold roomS at I ⊢
  rw [e2, List.map_cons, List.sum_cons, I]
  show fitV s0 s1 s2 s3 0 0 + 0 = 0
  rw [e]; rfl
theorem emp_view {view : List S51} (V : View view) : View (emp view) := by
 have h := emp_spots [] view
 rw [List.nil_append, List.nil_append] at h
 refine ⟨⟨fun f hf => ?_, by rw [h]; exact V.right.2⟩, fun f hf => ?_⟩
 ·obtain ⟨g, _, rfl⟩ := List.mem_map.1 hf; exact (emp_ok _).2
 ·obtain ⟨g, _, rfl⟩ := List.mem_map.1 hf; exact (emp_ok _).1
theorem emp_base {view : List S51} (V : View view) (hl : view.length ≤ 70) (hsp : ∀ f ∈ view, (w64B f.f0.f0 && w64B f.f0.f1) = true) (a b c : Int) (d : Bool) : Base (emp view) [(⟨a, b, c, d, slo view⟩ : S41)] := by
 have hlen : (emp view).length = view.length := by unfold emp; simp
 have hsl : slotsOf [(⟨a, b, c, d, slo view⟩ : S41)] = slo view := by unfold slotsOf; simp
 have hs : ∀ s ∈ slotsOf [(⟨a, b, c, d, slo view⟩ : S41)], maskOk s = true ∧ (w64B s.f0.f0 && w64B s.f0.f1) = true := fun s hs => by
  rw [hsl] at hs
  obtain ⟨f, hf, rfl⟩ := List.mem_map.1 hs
  have hfo := freeOk_out (V.free f hf)
  refine ⟨?_, hsp f hf⟩
  unfold maskOk
  rw [decide_eq_true hfo.1.1, decide_eq_true hfo.1.2]; rfl
 have hsll : (slotsOf [(⟨a, b, c, d, slo view⟩ : S41)]).length ≤ 70 := by rw [hsl]; unfold slo; simpa using hl
 exact ⟨emp_view V, ⟨by rw [hlen]; omega, (emp_view V).free, by simp, by omega, fun s h => (hs s h).1⟩, ⟨by rw [hlen]; omega, (emp_view V).free, fun f hf => by
  obtain ⟨g, hg, rfl⟩ := List.mem_map.1 hf; exact hsp g hg⟩, fun s h => (hs s h).2, by simp, by omega⟩
theorem room_late {view : List S51} (V : View view) {now q m g c mn mx u : Int} (h0 : 0 ≤ now) (h1 : now ≤ 1000000) (hu : now < u) (hu2 : u ≤ 1073741824) (hq : -9223372036854775808 ≤ q ∧ q ≤ 9223372036854775807) (hr : rightB m g c mn mx = true) :
  refEarly now (emp view) 1048576 1048576 [(⟨0, wrap64 (q + 1), u, false, slo view⟩ : S41)] q m g c mn mx = (if fitsB view 1048576 1048576 m g c mn mx = true then u else 1073741825, 0) := by
 have hr' := hr
 simp only [rightB, Bool.and_eq_true, decide_eq_true_eq] at hr'
 have hsl : slotsOf [(⟨0, wrap64 (q + 1), u, false, slo view⟩ : S41)] = slo view := by unfold slotsOf; simp
 have ht : turnF moreE moreF (emp view) (slo view) = (view, 0) := fill_turn view [] V
 have hnq : ¬ wrap64 (q + 1) = q := by unfold wrap64; omega
 have a0 : atB (emp view) 1048576 1048576 [(⟨0, wrap64 (q + 1), u, false, slo view⟩ : S41)] q m g c mn mx now = false := by
  unfold atB
  have e : ended now [(⟨0, wrap64 (q + 1), u, false, slo view⟩ : S41)] = [] := by unfold ended; simp; omega
  rw [e]
  show fitsB (emp view) 1048576 1048576 m g c mn mx = false
  unfold fitsB
  rw [emp_room hr'.1.1, decide_eq_false (p := m ≤ 0) (by omega)]
  simp
 have a1 : atB (emp view) 1048576 1048576 [(⟨0, wrap64 (q + 1), u, false, slo view⟩ : S41)] q m g c mn mx u = fitsB view 1048576 1048576 m g c mn mx := by
  unfold atB
  have e : ended u [(⟨0, wrap64 (q + 1), u, false, slo view⟩ : S41)] = [(⟨0, wrap64 (q + 1), u, false, slo view⟩ : S41)] := by unfold ended; simp
  have e2 : leftQ q (1048576, 1048576) [(⟨0, wrap64 (q + 1), u, false, slo view⟩ : S41)] = (1048576, 1048576) := by
   rw [leftQ, leftQ]
   exact if_neg hnq
  rw [e, e2, hsl, ht]
 unfold refEarly
 rw [if_neg (by rw [hr]; simp; omega), hsl, ht, if_neg (by simp), a0, if_neg (by decide)]
 rw [bestF, bestF]
 show (if u > now ∧ u < 1073741825 ∧ _ then u else 1073741825, (0 : Int)) = _
 rw [a1]
 by_cases hf : fitsB view 1048576 1048576 m g c mn mx = true
 ·rw [if_pos ⟨hu, by omega, hf⟩, if_pos hf]
 ·rw [if_neg (fun x => hf x.2.2), if_neg hf]
theorem room_l12 {view : List S51} (V : View view) (hl : view.length ≤ 70) (hsp : ∀ f ∈ view, (w64B f.f0.f0 && w64B f.f0.f1) = true) {now q m g c mn mx u : Int} (h0 : 0 ≤ now) (h1 : now ≤ 1000000) (hu : now < u) (hu2 : u ≤ 1073741824) (hq : -9223372036854775808 ≤ q ∧ q ≤ 9223372036854775807) (hr : rightB m g c mn mx = true)
  (F0 : Bool) (hF : fitsB view 1048576 1048576 m g c mn mx = F0) (d : Nat) : ∀ i : Nat, i ≤ view.length → view.length - i = d →
  Ev (fun k => ensemblelaw12_PromiseRoom.l0 k now view u F0 (emp (view.take i)) (i : Int) q m g c mn mx 1048576 1048576 0 (wrap64 (q + 1)) u false (slo (view.take i))) true := by
 induction d with
 | zero =>
  intro i hi hd
  obtain rfl : i = view.length := by omega
  have L : I64P (1048576, 1048576) := by unfold I64P; omega
  have he := (emp_base V hl hsp 0 (wrap64 (q + 1)) u false).early L now q m g c mn mx
  rw [room_late V h0 h1 hu hu2 hq hr, hF] at he
  rw [List.take_length]
  refine Ev.step (f := fun _ => some true) (fun k => ?_) (Ev.now _)
  rw [ensemblelaw12_PromiseRoom.l0, if_neg (by omega), he, Option.bind_some]
  cases F0 <;> simp
 | succ d ih =>
  intro i hi hd
  have hil : i < view.length := by omega
  have le : (emp (view.take i)).length = i := by unfold emp; rw [List.length_map, List.length_take]; omega
  have ls : (slo (view.take i)).length = i := by unfold slo; rw [List.length_map, List.length_take]; omega
  have ee : emp (view.take (i + 1)) = emp (view.take i) ++ [(⟨view[i].f0, 0, 0⟩ : S51)] := by unfold emp; rw [List.take_succ_eq_append_getElem hil, List.map_append]; rfl
  have es : slo (view.take (i + 1)) = slo (view.take i) ++ [(⟨view[i].f0, view[i].f1, view[i].f2⟩ : S52)] := by unfold slo; rw [List.take_succ_eq_append_getElem hil, List.map_append]; rfl
  have I := ih (i + 1) (by omega) (by omega)
  rw [ee, es] at I
  refine Ev.step (fun k => by rw [ensemblelaw12_PromiseRoom.l0, if_pos (by omega), if_pos (by omega), if_pos (by omega), if_pos (by omega), rd51' view i hil]) ?_
  refine Ev.congr (fun k => ?_) I
  rw [w_id (by omega)]
  congr 1
theorem Pure.PromiseRoom : PromiseRoom.Pure := by
 intro now view wt u w0 w1 w2 w3
 refine Ev.rounds (g := fun k => ensemblelaw12_PromiseRoom.f k now view wt.f0 wt.f1 wt.f2.f0 wt.f2.f1 wt.f2.f2 wt.f2.f3 u) ?_
 refine Ev.congr (fun k => by unfold ensemblelaw12_PromiseRoom.f; rw [awake12, Option.bind_some, if_pos rfl]) ?_
 have hj : ∀ (b : Bool), b = true → Ev (fun k => ensemblelaw12_PromiseRoom.j0 k now view u b wt.f0 wt.f1 wt.f2.f0 wt.f2.f1 wt.f2.f2 wt.f2.f3 1048576 1048576) true := fun b hb =>
  Ev.step (f := fun _ => some true) (fun k => by rw [ensemblelaw12_PromiseRoom.j0, if_pos hb]) (Ev.now _)
 rcases few12_ev view 1048576 1048576 [] with ⟨hk, hf⟩ | hk
 case inr => exact Ev.bind hk (Ev.congr (fun k => by rw [if_neg (by decide)]) (hj _ rfl))
 have S := setup w1.2 (by simp) hf
 refine Ev.bind hk (Ev.congr (fun k => by rw [if_pos rfl]) ?_)
 by_cases h0 : now < 0
 ·exact Ev.congr (fun k => by rw [if_pos h0]) (hj _ rfl)
 refine Ev.congr (fun k => by rw [if_neg h0]) ?_
 by_cases h1 : now > 1000000
 ·exact Ev.congr (fun k => by rw [if_pos h1]) (hj _ rfl)
 refine Ev.congr (fun k => by rw [if_neg h1]) ?_
 by_cases h2 : u ≤ now
 ·exact Ev.congr (fun k => by rw [if_pos h2]) (hj _ rfl)
 refine Ev.congr (fun k => by rw [if_neg h2]) ?_
 by_cases h3 : u > 1073741824
 ·exact hj _ (decide_eq_true h3)
 refine Ev.step (fun k => by rw [ensemblelaw12_PromiseRoom.j0, if_neg (by rw [decide_eq_false h3]; decide), S.early, Option.bind_some, right12, Option.bind_some]) ?_
 by_cases hr : rightB wt.f1 wt.f2.f0 wt.f2.f1 wt.f2.f2 wt.f2.f3 = true
 case neg =>
  have hr' : rightB wt.f1 wt.f2.f0 wt.f2.f1 wt.f2.f2 wt.f2.f3 = false := Bool.eq_false_iff.2 hr
  have e : refEarly now view 1048576 1048576 [] wt.f0 wt.f1 wt.f2.f0 wt.f2.f1 wt.f2.f2 wt.f2.f3 = (0, 1) := if_pos (.inr (.inr hr'))
  exact Ev.congr (fun k => by rw [if_neg hr, e]; rfl) (Ev.now _)
 have hvl := S.vl
 have hsp : ∀ f ∈ view, (w64B f.f0.f0 && w64B f.f0.f1) = true := fun f hf => (free_of_wf (w1.2 f hf)).2
 have hq : -9223372036854775808 ≤ wt.f0 ∧ wt.f0 ≤ 9223372036854775807 := by have := w2.1; unfold I64 at this; omega
 have hr' := hr
 simp only [rightB, Bool.and_eq_true, decide_eq_true_eq] at hr'
 have hgo := good_out hr'.1.1
 have b1 := mul_bd (a := wt.f2.f0) (b := wt.f1) (A := 16) (B := 16) (by omega) (by omega) (by omega) (by omega)
 have b2 := mul_bd (a := wt.f2.f1) (b := wt.f1) (A := 1024) (B := 16) (by omega) (by omega) (by omega) (by omega)
 have hfit : fitsB view 1048576 1048576 wt.f1 wt.f2.f0 wt.f2.f1 wt.f2.f2 wt.f2.f3 = decide (wt.f1 ≤ roomS wt.f2.f0 wt.f2.f1 wt.f2.f2 wt.f2.f3 view) := by
  unfold fitsB
  rw [hr, decide_eq_true (p := wt.f2.f0 * wt.f1 ≤ 1048576) (by omega), decide_eq_true (p := wt.f2.f1 * wt.f1 ≤ 1048576) (by omega)]
  simp
 have e : refEarly now view 1048576 1048576 [] wt.f0 wt.f1 wt.f2.f0 wt.f2.f1 wt.f2.f2 wt.f2.f3 = (if fitsB view 1048576 1048576 wt.f1 wt.f2.f0 wt.f2.f1 wt.f2.f2 wt.f2.f3 = true then now else 1073741825, 0) := by
  unfold refEarly
  rw [if_neg (by rw [hr]; simp; omega)]
  show (if (0 : Int) ≠ 0 then _ else if fitsB view 1048576 1048576 wt.f1 wt.f2.f0 wt.f2.f1 wt.f2.f2 wt.f2.f3 = true then _ else _) = _
  rw [if_neg (by decide)]
  split <;> rfl
 have J1 : ∀ F0 : Bool, fitsB view 1048576 1048576 wt.f1 wt.f2.f0 wt.f2.f1 wt.f2.f2 wt.f2.f3 = F0 → Ev (fun k => ensemblelaw12_PromiseRoom.j1 k now view u F0 false wt.f0 wt.f1 wt.f2.f0 wt.f2.f1 wt.f2.f2 wt.f2.f3 1048576 1048576) true := fun F0 hF => by
  have I := room_l12 S.V hvl hsp (by omega) (by omega) (show now < u by omega) (by omega) hq hr F0 hF view.length 0 (by omega) (by omega)
  rw [List.take_zero] at I
  exact Ev.step (fun k => by rw [ensemblelaw12_PromiseRoom.j1, if_neg (by decide)]; rfl) I
 refine Ev.congr (fun k => by rw [if_pos hr]) (Ev.bind (room05_ev _ _ _ _ view (by omega) S.V.free) ?_)
 by_cases hm : wt.f1 ≤ roomS wt.f2.f0 wt.f2.f1 wt.f2.f2 wt.f2.f3 view
 ·have hF : fitsB view 1048576 1048576 wt.f1 wt.f2.f0 wt.f2.f1 wt.f2.f2 wt.f2.f3 = true := by rw [hfit]; exact decide_eq_true hm
  have hd : decide (roomS wt.f2.f0 wt.f2.f1 wt.f2.f2 wt.f2.f3 view ≥ wt.f1) = true := decide_eq_true hm
  rw [if_pos hF] at e
  refine Ev.congr (fun k => ?_) (J1 true hF)
  rw [e, hd, if_pos rfl, if_neg (by simp), if_pos rfl]
 ·have hF : fitsB view 1048576 1048576 wt.f1 wt.f2.f0 wt.f2.f1 wt.f2.f2 wt.f2.f3 = false := by rw [hfit]; exact decide_eq_false hm
  have hd : decide (roomS wt.f2.f0 wt.f2.f1 wt.f2.f2 wt.f2.f3 view ≥ wt.f1) = false := decide_eq_false hm
  rw [hF, if_neg (by decide)] at e
  refine Ev.congr (fun k => ?_) (J1 false hF)
  have hne : ¬ (1073741825 : Int) = now := by omega
  rw [e, hd, if_pos rfl, if_neg (by simp; omega), if_neg hne]
  rfl
end Go.Proofs.Ytckhjehibjdjdaa.P
namespace Go.Proofs.Ytckhjehibjdjdaa.row0
set_option maxRecDepth 100000
set_option linter.unusedSimpArgs false
theorem and_mk {a b : Bool} (h : a = true) (k : b = true) : (a && b) = true := by rw [h, k]; rfl
def letters : List Char := List.map Char.ofNat [104, 97, 114, 110, 101, 115, 115, 32, 57, 100, 50, 54, 101, 98, 50, 54, 53, 56, 98, 49, 102, 51, 56, 49, 51, 55, 98, 54, 100, 49, 53, 55, 102, 53, 100, 49, 102, 101, 97, 49, 102, 56, 57, 57, 55, 98, 52, 55, 53, 51, 99, 98, 101, 48, 98, 98, 48, 97, 53, 54, 48, 102, 102, 54, 52, 98, 99, 52, 98, 52, 102, 52, 32, 99, 117, 116, 32, 97, 116, 32, 101, 110, 115, 101, 109, 98, 108, 101, 47, 101, 110, 115, 101, 109, 98, 108, 101, 108, 97, 119, 49, 50, 46, 80, 114, 111, 109, 105, 115, 101, 84, 101, 108, 108, 115, 32, 101, 110, 115, 101, 109, 98, 108, 101, 47, 101, 110, 115, 101, 109, 98, 108, 101, 108, 97, 119, 49, 50, 46, 80, 114, 111, 109, 105, 115, 101, 75, 101, 101, 112, 115, 32, 101, 110, 115, 101, 109, 98, 108, 101, 47, 101, 110, 115, 101, 109, 98, 108, 101, 108, 97, 119, 49, 50, 46, 80, 114, 111, 109, 105, 115, 101, 76, 101, 115, 115, 32, 101, 110, 115, 101, 109, 98, 108, 101, 47, 101, 110, 115, 101, 109, 98, 108, 101, 108, 97, 119, 49, 50, 46, 80, 114, 111, 109, 105, 115, 101, 79, 110, 108, 121, 32, 101, 110, 115, 101, 109, 98, 108, 101, 47, 101, 110, 115, 101, 109, 98, 108, 101, 108, 97, 119, 49, 50, 46, 80, 114, 111, 109, 105, 115, 101, 82, 111, 111, 109, 32, 101, 110, 115, 101, 109, 98, 108, 101, 47, 101, 110, 115, 101, 109, 98, 108, 101, 108, 97, 119, 49, 51, 46, 70, 105, 108, 108, 84, 101, 108, 108, 115, 32, 101, 110, 115, 101, 109, 98, 108, 101, 47, 101, 110, 115, 101, 109, 98, 108, 101, 108, 97, 119, 49, 51, 46, 70, 105, 108, 108, 76, 97, 116, 101, 32, 101, 110, 115, 101, 109, 98, 108, 101, 47, 101, 110, 115, 101, 109, 98, 108, 101, 108, 97, 119, 49, 51, 46, 70, 105, 108, 108, 78, 111, 110, 101, 32, 101, 110, 115, 101, 109, 98, 108, 101, 47, 101, 110, 115, 101, 109, 98, 108, 101, 108, 97, 119, 49, 51, 46, 70, 105, 108, 108, 77, 97, 110, 121, 32, 101, 110, 115, 101, 109, 98, 108, 101, 47, 101, 110, 115, 101, 109, 98, 108, 101, 108, 97, 119, 49, 51, 46, 70, 105, 108, 108, 80, 97, 115, 116, 32, 101, 110, 115, 101, 109, 98, 108, 101, 47, 101, 110, 115, 101, 109, 98, 108, 101, 108, 97, 119, 48, 53, 46, 80, 97, 99, 107, 70, 101, 119, 32, 101, 110, 115, 101, 109, 98, 108, 101, 47, 101, 110, 115, 101, 109, 98, 108, 101, 108, 97, 119, 48, 53, 46, 80, 97, 99, 107, 70, 114, 111, 110, 116, 32, 101, 110, 115, 101, 109, 98, 108, 101, 47, 101, 110, 115, 101, 109, 98, 108, 101, 108, 97, 119, 48, 53, 46, 80, 97, 99, 107, 84, 101, 108, 108, 115, 32, 101, 110, 115, 101, 109, 98, 108, 101, 47, 101, 110, 115, 101, 109, 98, 108, 101, 108, 97, 119, 48, 53, 46, 80, 97, 99, 107, 82, 111, 111, 109, 115, 32, 101, 110, 115, 101, 109, 98, 108, 101, 47, 101, 110, 115, 101, 109, 98, 108, 101, 108, 97, 119, 48, 53, 46, 80, 97, 99, 107, 76, 101, 102, 116, 32, 101, 110, 115, 101, 109, 98, 108, 101, 47, 101, 110, 115, 101, 109, 98, 108, 101, 108, 97, 119, 48, 53, 46, 80, 97, 99, 107, 77, 111, 114, 101, 32, 101, 110, 115, 101, 109, 98, 108, 101, 47, 101, 110, 115, 101, 109, 98, 108, 101, 108, 97, 119, 48, 53, 46, 80, 97, 99, 107, 87, 104, 111, 108, 101, 32, 101, 110, 115, 101, 109, 98, 108, 101, 47, 101, 110, 115, 101, 109, 98, 108, 101, 108, 97, 119, 49, 52, 46, 69, 108, 97, 115, 116, 105, 99, 77, 111, 115, 116, 32, 101, 110, 115, 101, 109, 98, 108, 101, 47, 101, 110, 115, 101, 109, 98, 108, 101, 108, 97, 119, 49, 52, 46, 69, 108, 97, 115, 116, 105, 99, 77, 111, 114, 101, 32, 101, 110, 115, 101, 109, 98, 108, 101, 47, 101, 110, 115, 101, 109, 98, 108, 101, 108, 97, 119, 49, 52, 46, 69, 108, 97, 115, 116, 105, 99, 83, 97, 102, 101, 32, 101, 110, 115, 101, 109, 98, 108, 101, 47, 101, 110, 115, 101, 109, 98, 108, 101, 108, 97, 119, 49, 53, 46, 87, 111, 114, 107, 101, 114, 77, 97, 121, 32, 101, 110, 115, 101, 109, 98, 108, 101, 47, 101, 110, 115, 101, 109, 98, 108, 101, 108, 97, 119, 49, 53, 46, 87, 111, 114, 107, 101, 114, 82, 101, 115, 116, 115]
theorem lit : Try.checked.prog.initOrder = String.ofList letters := by kernel_rfl
theorem lits : Try.checked.prog.initOrder.toList = letters := by rw [lit]; exact String.toList_ofList
def words : List (List Char) := List.map (List.map Char.ofNat) [[99, 117, 116], [97, 116], [101, 110, 115, 101, 109, 98, 108, 101, 47, 101, 110, 115, 101, 109, 98, 108, 101, 108, 97, 119, 49, 50, 46, 80, 114, 111, 109, 105, 115, 101, 84, 101, 108, 108, 115], [101, 110, 115, 101, 109, 98, 108, 101, 47, 101, 110, 115, 101, 109, 98, 108, 101, 108, 97, 119, 49, 50, 46, 80, 114, 111, 109, 105, 115, 101, 75, 101, 101, 112, 115], [101, 110, 115, 101, 109, 98, 108, 101, 47, 101, 110, 115, 101, 109, 98, 108, 101, 108, 97, 119, 49, 50, 46, 80, 114, 111, 109, 105, 115, 101, 76, 101, 115, 115], [101, 110, 115, 101, 109, 98, 108, 101, 47, 101, 110, 115, 101, 109, 98, 108, 101, 108, 97, 119, 49, 50, 46, 80, 114, 111, 109, 105, 115, 101, 79, 110, 108, 121], [101, 110, 115, 101, 109, 98, 108, 101, 47, 101, 110, 115, 101, 109, 98, 108, 101, 108, 97, 119, 49, 50, 46, 80, 114, 111, 109, 105, 115, 101, 82, 111, 111, 109], [101, 110, 115, 101, 109, 98, 108, 101, 47, 101, 110, 115, 101, 109, 98, 108, 101, 108, 97, 119, 49, 51, 46, 70, 105, 108, 108, 84, 101, 108, 108, 115], [101, 110, 115, 101, 109, 98, 108, 101, 47, 101, 110, 115, 101, 109, 98, 108, 101, 108, 97, 119, 49, 51, 46, 70, 105, 108, 108, 76, 97, 116, 101], [101, 110, 115, 101, 109, 98, 108, 101, 47, 101, 110, 115, 101, 109, 98, 108, 101, 108, 97, 119, 49, 51, 46, 70, 105, 108, 108, 78, 111, 110, 101], [101, 110, 115, 101, 109, 98, 108, 101, 47, 101, 110, 115, 101, 109, 98, 108, 101, 108, 97, 119, 49, 51, 46, 70, 105, 108, 108, 77, 97, 110, 121], [101, 110, 115, 101, 109, 98, 108, 101, 47, 101, 110, 115, 101, 109, 98, 108, 101, 108, 97, 119, 49, 51, 46, 70, 105, 108, 108, 80, 97, 115, 116], [101, 110, 115, 101, 109, 98, 108, 101, 47, 101, 110, 115, 101, 109, 98, 108, 101, 108, 97, 119, 48, 53, 46, 80, 97, 99, 107, 70, 101, 119], [101, 110, 115, 101, 109, 98, 108, 101, 47, 101, 110, 115, 101, 109, 98, 108, 101, 108, 97, 119, 48, 53, 46, 80, 97, 99, 107, 70, 114, 111, 110, 116], [101, 110, 115, 101, 109, 98, 108, 101, 47, 101, 110, 115, 101, 109, 98, 108, 101, 108, 97, 119, 48, 53, 46, 80, 97, 99, 107, 84, 101, 108, 108, 115], [101, 110, 115, 101, 109, 98, 108, 101, 47, 101, 110, 115, 101, 109, 98, 108, 101, 108, 97, 119, 48, 53, 46, 80, 97, 99, 107, 82, 111, 111, 109, 115], [101, 110, 115, 101, 109, 98, 108, 101, 47, 101, 110, 115, 101, 109, 98, 108, 101, 108, 97, 119, 48, 53, 46, 80, 97, 99, 107, 76, 101, 102, 116], [101, 110, 115, 101, 109, 98, 108, 101, 47, 101, 110, 115, 101, 109, 98, 108, 101, 108, 97, 119, 48, 53, 46, 80, 97, 99, 107, 77, 111, 114, 101], [101, 110, 115, 101, 109, 98, 108, 101, 47, 101, 110, 115, 101, 109, 98, 108, 101, 108, 97, 119, 48, 53, 46, 80, 97, 99, 107, 87, 104, 111, 108, 101], [101, 110, 115, 101, 109, 98, 108, 101, 47, 101, 110, 115, 101, 109, 98, 108, 101, 108, 97, 119, 49, 52, 46, 69, 108, 97, 115, 116, 105, 99, 77, 111, 115, 116], [101, 110, 115, 101, 109, 98, 108, 101, 47, 101, 110, 115, 101, 109, 98, 108, 101, 108, 97, 119, 49, 52, 46, 69, 108, 97, 115, 116, 105, 99, 77, 111, 114, 101], [101, 110, 115, 101, 109, 98, 108, 101, 47, 101, 110, 115, 101, 109, 98, 108, 101, 108, 97, 119, 49, 52, 46, 69, 108, 97, 115, 116, 105, 99, 83, 97, 102, 101], [101, 110, 115, 101, 109, 98, 108, 101, 47, 101, 110, 115, 101, 109, 98, 108, 101, 108, 97, 119, 49, 53, 46, 87, 111, 114, 107, 101, 114, 77, 97, 121], [101, 110, 115, 101, 109, 98, 108, 101, 47, 101, 110, 115, 101, 109, 98, 108, 101, 108, 97, 119, 49, 53, 46, 87, 111, 114, 107, 101, 114, 82, 101, 115, 116, 115]]
theorem wordsEq : behindMainWord (wordsSigns letters) = words := by kernel_rfl
theorem behind : behindMainWord (wordsSigns Try.checked.prog.initOrder.toList) = words := by rw [lits]; exact wordsEq
theorem headLifts_of {P : Program} {ws : List (List Char)} (h : behindMainWord (wordsSigns P.initOrder.toList) = ws) (h2 : ((stripLifts liftWords ws).2.head? == some "cut".toList) = true) (h3 : (stripLifts liftWords ws).1 = []) : P.headLifts = [] := by
 unfold Program.headLifts
 rw [h]
 simp only [h2, h3, if_true]
theorem headLifts : Try.checked.prog.headLifts = [] := headLifts_of behind (by kernel_rfl) (by kernel_rfl)
theorem liftsFinal_of {P : Program} {ws : List (List Char)} (h : behindMainWord (wordsSigns P.initOrder.toList) = ws) (hl : P.headLifts = []) (h1 : (ws.head? == some "carried".toList) = false) : P.liftsFinal = false := by
 unfold Program.liftsFinal
 rw [h, hl]
 simp only [h1, Bool.false_and, List.contains_nil, Bool.or_false]
theorem liftsFinal : Try.checked.prog.liftsFinal = false := liftsFinal_of behind headLifts (by kernel_rfl)
theorem make_of {P : Program} {c : List Char} {rest : List (List Char)} (h : behindMainWord (wordsSigns P.initOrder.toList) = c :: rest) (h1 : (c == "gc".toList || c == "spec".toList) = false) (h2 : (c == "cut".toList) = true) : P.make = some .cut := by
 unfold Program.make
 rw [h]
 simp only [h1, h2, Bool.true_or, if_true, Bool.false_eq_true, if_false]
theorem make : Try.checked.prog.make = some .cut := make_of (behind.trans (show words = _ :: _ from rfl)) (by kernel_rfl) (by kernel_rfl)
theorem mayEnter_of {P : Program} {c : List Char} {rest : List (List Char)} (h : behindMainWord (wordsSigns P.initOrder.toList) = c :: rest) (h2 : ((stripLifts liftWords (c :: rest)).2.head? == some "cut".toList) = true) (h3 : (stripLifts liftWords (c :: rest)).1 = []) (h4 : P.laysLater = false) (h5 : P.bearsReflect = false) (h6 : P.doorFits [] = true) : P.mayEnter = true := by
 unfold Program.mayEnter
 rw [h]
 simp only [h2, h3, h4, h5, h6, List.contains_nil, Bool.not_false, Bool.false_or, Bool.or_true, Bool.true_or, Bool.and_true, Bool.true_and]
theorem h4 : Try.checked.prog.laysLater = false := by kernel_rfl
theorem h5 : Try.checked.prog.bearsReflect = false := by kernel_rfl
theorem h6 : Try.checked.prog.doorFits [] = true := by kernel_rfl
theorem mayEnter : Try.checked.prog.mayEnter = true := mayEnter_of (behind.trans (show words = _ :: _ from rfl)) (by kernel_rfl) (by kernel_rfl) h4 h5 h6
end Go.Proofs.Ytckhjehibjdjdaa.row0
namespace Go.Proofs.Ytckhjehibjdjdaa.promiseRoom
open Go.ChangeShapes Go.WideShapes Go.ChangeAt Go.RowKit Go.Proofs.Ytckhjehibjdjdaa.P Go.Proofs.Ytckhjehibjdjdaa.Ob Go.Proofs.YtckhjehibjdjdaaW.PrintWords
open Go.ChangeMaps (open_string shut_string)
set_option linter.unusedVariables false
theorem own : ownKnob Try.prog.godebug = none := by kernel_rfl
theorem laidOut : laidOutB Try.prog = true := by kernel_rfl
set_option maxRecDepth 100000 in
theorem lifted (os : Os) (started : os.Started) (H : Type) (enc : TypeId × Value → H) :
  ReturnsInHanded {} Try.checked os 7 .any (Rows.promiseRoomSpec.pre6 enc Try.prog Try.f7 Rows.promiseRoomRow.domain false) (Rows.promiseRoomSpec.post enc Try.prog Try.f7 false true false false) := by
 refine returnsInHanded_of_change_sized (C := Try.checked) own started (by kernel_rfl) Try.func7
  (ChangeSpec.witness6 (enc := enc) (C := Try.checked) false ⟨#[], #[.int .i64 0, .slice none 0 0, .agg #[.int .i64 0, .int .i64 0, .int .i64 0, .int .i64 0, .int .i64 0, .int .i64 0], .int .i64 0], []⟩ 8 (by kernel_rfl) (by kernel_rfl) (by kernel_rfl) (by kernel_rfl)) ?_
 intro W base args ds gs before hval0 hW hcnd hsz0 _
 have hval : ∀ (j : Nat) t v, Try.f7.params[j]? = some t → args[j]? = some v → Value.okWide Try.prog W .any base t v := hval0
 have hW' := hW
 obtain ⟨p, q, hA0, hV, rfl, hfz, hnd⟩ := hW
 have hA : DataW.TrodAll enc Try.prog W 0 (fun _ => true) true Try.f7.params.toList args.toList ds p := hA0
 rw [Try.params7] at hA hval
 obtain ⟨v0, vs0, d0, ds0, p0, q0, hargs, rfl, rfl, h0, r0⟩ := trodAll_cons hA
 obtain ⟨v1, vs1, d1, ds1, p1, q1, rfl, rfl, rfl, h1, r1⟩ := trodAll_cons r0
 obtain ⟨v2, vs2, d2, ds2, p2, q2, rfl, rfl, rfl, h2, r2⟩ := trodAll_cons r1
 obtain ⟨v3, vs3, d3, ds3, p3, q3, rfl, rfl, rfl, h3, r3⟩ := trodAll_cons r2
 obtain ⟨rfl, rfl, rfl⟩ := trodAll_nil r3
 obtain rfl : args = #[v0, v1, v2, v3] := by cases args; simp_all
 obtain ⟨rfl, rfl⟩ := trodVars_none hV
 have k0 := h0
 have lt0 : ∀ x ∈ p0, x.block < W.heap.size := by obtain ⟨m, hm⟩ := k0; exact DataW.trod_lt m _ _ _ hm
 obtain ⟨x0, rfl⟩ := okWide_int Try.underlying3 (hval 0 3 v0 rfl rfl)
 obtain ⟨y0, e0, w0⟩ := Opens.open (o_i64 Try.underlying3) h0
 have e0' : x0 = y0 := by have := e0; simp [Value.cells, Kd.int, Kd.scalar] at this; exact this
 rw [← e0'] at w0
 have k1 := h1
 have lt1 : ∀ x ∈ p1, x.block < W.heap.size := by obtain ⟨m, hm⟩ := k1; exact DataW.trod_lt m _ _ _ hm
 obtain ⟨a1, len1, cap1, rfl⟩ := okWide_slice Try.underlying22 (hval 1 22 v1 rfl rfl)
 obtain ⟨x1, ⟨A1, c1, e1, l1, g1⟩, w1⟩ := Opens.open (Opens.slice Try.underlying22 (by kernel_rfl) (o51)) h1
 simp [Value.cells] at e1
 obtain ⟨rfl, rfl, rfl⟩ := e1
 have k2 := h2
 have lt2 : ∀ x ∈ p2, x.block < W.heap.size := by obtain ⟨m, hm⟩ := k2; exact DataW.trod_lt m _ _ _ hm
 obtain ⟨cs2, rfl, _⟩ := okWide_struct Try.underlying29 (hval 2 29 v2 rfl rfl)
 obtain ⟨x2, K2, w2⟩ := Opens.open o29 h2
 have e2 := k29_open K2
 obtain rfl : cs2 = #[.int .i64 x2.f0, .int .i64 x2.f1, .int .i64 x2.f2.f0, .int .i64 x2.f2.f1, .int .i64 x2.f2.f2, .int .i64 x2.f2.f3] := by apply Array.toList_inj.1; exact e2
 have k3 := h3
 have lt3 : ∀ x ∈ p3, x.block < W.heap.size := by obtain ⟨m, hm⟩ := k3; exact DataW.trod_lt m _ _ _ hm
 obtain ⟨x3, rfl⟩ := okWide_int Try.underlying3 (hval 3 3 v3 rfl rfl)
 obtain ⟨y3, e3, w3⟩ := Opens.open (o_i64 Try.underlying3) h3
 have e3' : x3 = y3 := by have := e3; simp [Value.cells, Kd.int, Kd.scalar] at this; exact this
 rw [← e3'] at w3
 clear hA0 hval0 hsz0
 obtain ⟨k, hk⟩ := Pure.PromiseRoom x0 x1 x2 x3 w0 w1 w2 w3
 refine (ensemblelaw12_PromiseRoom.calls k x0 _ _ x1 (x2.f0) (x2.f1) (x2.f2.f0) (x2.f2.f1) (x2.f2.f2) (x2.f2.f3) x3 true W g1 l1 hk).mono fun e W' ⟨he, bel⟩ => ?_
 subst he
 exact ⟨_, rfl, _, _, _, [], _, [], hW', trodAll_mk1 (shut_bool Try.underlying4 _), (trodAll_cons_mk (Below.trod laidOut (by kernel_rfl) (of_decide_eq_true (by kernel_rfl)) k0 bel lt0) (trodAll_cons_mk (Below.trod laidOut (by kernel_rfl) (of_decide_eq_true (by kernel_rfl)) k1 bel lt1) (trodAll_cons_mk (Below.trod laidOut (by kernel_rfl) (of_decide_eq_true (by kernel_rfl)) k2 bel lt2) (trodAll_cons_mk (Below.trod laidOut (by kernel_rfl) (of_decide_eq_true (by kernel_rfl)) k3 bel lt3) trodAll_mk0)))), rfl, bel.frame _, fun h => by cases h⟩
set_option maxHeartbeats 8000000 in
theorem closedFacts : joinedFacts Try.checked.prog 7 Try.f7 Rows.promiseRoomSpec Rows.promiseRoomRow = true := by
 unfold joinedFacts
 repeat' (with_reducible (apply row0.and_mk))
 all_goals first | (with_reducible exact row0.mayEnter) | (rw [row0.liftsFinal]; kernel_rfl) | (rw [row0.make]; kernel_rfl) | (as_aux_lemma => kernel_rfl)
theorem over : Rows.promiseRoomRow.holds Try.pinned (OpenSpec.ofChange Rows.promiseRoomSpec) :=
 OpenClaim.holds_of_wide 7 Try.f7 rfl rfl rfl rfl rfl rfl rfl ⟨rfl, rfl, rfl, rfl, rfl⟩ rfl rfl rfl rfl rfl (by kernel_rfl) Try.func7 closedFacts
  (of_decide_eq_true (by kernel_rfl)) (by unfold Func.isWrapper; first | (rw [if_pos (by decide +kernel)]; kernel_rfl) | (rw [if_neg (by decide +kernel)]; exact ⟨rfl, rfl⟩))
  (fun os started H enc _ => lifted os started H enc)
theorem proved : Rows.PromiseRoomSaid := over
#print axioms proved
end Go.Proofs.Ytckhjehibjdjdaa.promiseRoom
namespace Go.Proofs.Ytckhjehibjdjdaa
theorem promiseRoom_holds : Rows.PromiseRoomSaid := promiseRoom.proved
end Go.Proofs.Ytckhjehibjdjdaa
