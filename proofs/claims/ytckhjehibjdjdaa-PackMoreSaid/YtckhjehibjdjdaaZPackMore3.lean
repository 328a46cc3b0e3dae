/- PackMore: part 3 of the walk and of the plain law that it comes to. No condition. -/
import Derived.Test.YtckhjehibjdjdaaZPackMore2
import Derived.ArgAppend
import Derived.Below
import Derived.BigQuiet
import Derived.BigRegion
import Derived.Carry
import Derived.ChangeOld
import Derived.Deep.AppendLies
import Derived.Deep.CutBlock
import Derived.Deep.DeepCutAuto
import Derived.Deep.Draws
import Derived.Deep.LoopGhost
import Derived.Deep.OwnRows
import Derived.Deep.QuietTactic
import Derived.Deep.RegionHeld3
import Derived.Deep.Slices
import Derived.DeepKeys3
import Derived.KernelRfl
import Derived.Laws.Bits64
import Derived.Laws.Bits64b
import Derived.Laws.BitsLemmas
import Derived.Laws.BytesArg
import Derived.Laws.Externs
import Derived.Laws.IdiomCopy
import Derived.Laws.MakeOwn
import Derived.Laws.OwnMore
import Derived.Laws.Rows
import Derived.Laws.Slices
import Derived.Lib.AppendStr
import Derived.Lib.ConvBytes
import Derived.Lib.ReflectliteSlice
import Derived.Lib.ReflectliteSwap
import Derived.Lib.SliceRun
import Derived.LoopIn
import Derived.LoopN
import Derived.LoopNIn
import Derived.Maps.AppendAt
import Derived.Maps.Keyed
import Derived.Maps.Own
import Derived.Maps.OwnOps
import Derived.Maps.OwnSet
import Derived.Maps.Views
import Derived.OpenShut
import Derived.OrdersHeld
import Derived.Outline
import Derived.OwnWalk
import Derived.OwnWalkIn
import Derived.ProofKit
import Derived.RangeFuncBound
import Derived.RangeFuncBox
import Derived.RangeFuncCalls
import Derived.RangeFuncFrom
import Derived.RangeFuncLeaves
import Derived.RowKit
import Derived.RowKit3
import Derived.Shelf.Abstract
import Derived.Shelf.RegionOpen
import Derived.ShutString
import Derived.SizedLaws
import Derived.StillTailTactics
import Derived.Tactics
import Derived.TacticsInMore
import Derived.WalkKit
import Derived.WideLaws
namespace Go.Proofs.Ytckhjehibjdjdaa.P
open Go.RowKit Go.Proofs.YtckhjehibjdjdaaW.PrintWords Go.Proofs.YtckhjehibjdjdaaW.PrintLast Go.Proofs.YtckhjehibjdjdaaW.PrintMore
attribute [local go_sem] max2_int min2_int max_two min_two max_three min_three max_four min_four
set_option linter.unusedVariables false
set_option linter.unusedSimpArgs false
def ensembleref13_After.T7 : Bool × List (List Nat × List Nat) := (true, [([], []), ([], []), ([], []), ([], []), ([], []), ([3, 4], [3, 4]), ([], []), ([6], [6]), ([5, 7, 5], [5, 7]), ([], []), ([0, 1, 2, 8, 9, 8], [0, 1, 2, 8, 9]), ([10], [10]), ([10], [10]), ([11, 10, 0, 1, 2, 3, 4, 5, 6, 7, 8, 9, 10, 11, 12], [11]), ([12, 13, 0, 1, 2, 3, 4, 5, 6, 7, 8, 9, 10, 11, 12, 13], [12])])
def ensembleref13_After.B7 : List Nat := [0, 0, 0, 0, 0, 24, 0, 64, 248, 0, 1023, 2047, 2047, 8191, 16383]
theorem ensembleref13_After.bits7 : waitsOk ensembleref13_After.T7.2 ensembleref13_After.B7 = true := by kernel_rfl
end Go.Proofs.Ytckhjehibjdjdaa.P
namespace Go.Proofs.Ytckhjehibjdjdaa.P
open Go.RowKit Go.Proofs.YtckhjehibjdjdaaW.PrintWords Go.Proofs.YtckhjehibjdjdaaW.PrintLast Go.Proofs.YtckhjehibjdjdaaW.PrintMore
attribute [local go_sem] max2_int min2_int max_two min_two max_three min_three max_four min_four
set_option linter.unusedVariables false
set_option linter.unusedSimpArgs false
end Go.Proofs.Ytckhjehibjdjdaa.P
namespace Go.Proofs.Ytckhjehibjdjdaa.P
open Go.RowKit Go.Proofs.YtckhjehibjdjdaaW.PrintWords Go.Proofs.YtckhjehibjdjdaaW.PrintLast Go.Proofs.YtckhjehibjdjdaaW.PrintMore
attribute [local go_sem] max2_int min2_int max_two min_two max_three min_three max_four min_four
set_option linter.unusedVariables false
set_option linter.unusedSimpArgs false
end Go.Proofs.Ytckhjehibjdjdaa.P
namespace Go.Proofs.Ytckhjehibjdjdaa.P
open Go.RowKit Go.Proofs.YtckhjehibjdjdaaW.PrintWords Go.Proofs.YtckhjehibjdjdaaW.PrintLast Go.Proofs.YtckhjehibjdjdaaW.PrintMore
attribute [local go_sem] max2_int min2_int max_two min_two max_three min_three max_four min_four
set_option linter.unusedVariables false
set_option linter.unusedSimpArgs false
end Go.Proofs.Ytckhjehibjdjdaa.P
namespace Go.Proofs.Ytckhjehibjdjdaa.P
open Go.RowKit Go.Proofs.YtckhjehibjdjdaaW.PrintWords Go.Proofs.YtckhjehibjdjdaaW.PrintLast Go.Proofs.YtckhjehibjdjdaaW.PrintMore
open Go.Proofs.Ytckhjehibjdjdaa.Bits Go.Proofs.Ytckhjehibjdjdaa.Mp
set_option linter.unusedVariables false
set_option linter.unusedSimpArgs false
theorem lessE_iff {f : S51} {s : S52} (hf : freeOk f = true) (hs : maskOk s = true) : lessE f s = 0 ↔ s.f1.toNat &&& f.f1.toNat = s.f1.toNat ∧ s.f2 ≤ f.f2 := by
 have h1 := freeOk_out hf
 have h2 := maskOk_out hs
 have hand : Go.bits .andNot .u64 s.f1 f.f1 = ((s.f1.toNat - (s.f1.toNat &&& f.f1.toNat) : Nat) : Int) := by
  have := andNot_nat s.f1.toNat f.f1.toNat (by omega) (by omega)
  rw [Int.toNat_of_nonneg h2.1, Int.toNat_of_nonneg h1.1.1] at this
  exact this
 have hle : s.f1.toNat &&& f.f1.toNat ≤ s.f1.toNat := Nat.and_le_left
 unfold lessE
 rw [hand]
 by_cases h3 : s.f1.toNat &&& f.f1.toNat = s.f1.toNat
 ·rw [if_neg (by omega)]
  by_cases h4 : s.f2 > f.f2
  ·rw [if_pos h4]; constructor
   ·intro x; cases x
   ·intro x; omega
  ·rw [if_neg h4]; exact ⟨fun _ => ⟨h3, by omega⟩, fun _ => rfl⟩
 ·rw [if_pos (by omega)]; constructor
  ·intro x; cases x
  ·intro x; exact absurd x.1 h3
theorem andNot_bv (a b : Int) : Go.bits .andNot .u64 a b = ((BitVec.ofInt 64 a &&& ~~~ BitVec.ofInt 64 b).toNat : Int) := by
 show IntKind.u64.wrap ((BitVec.ofInt 64 a &&& ~~~ BitVec.ofInt 64 b).toNat : Int) = _
 rw [wrapN, Nat.mod_eq_of_lt (BitVec.isLt _)]
theorem bv_of {a : Int} (h : 0 ≤ a ∧ a < 18446744073709551616) : ((BitVec.ofInt 64 a).toNat : Int) = a := by
 obtain ⟨x, rfl⟩ := Int.eq_ofNat_of_zero_le h.1
 rw [BitVec.ofInt_natCast, BitVec.toNat_ofNat, Nat.mod_eq_of_lt (by omega)]
theorem and_bv {a b : Int} (ha : 0 ≤ a ∧ a < 18446744073709551616) (hb : 0 ≤ b ∧ b < 18446744073709551616) : (BitVec.ofInt 64 a &&& BitVec.ofInt 64 b).toNat = a.toNat &&& b.toNat := by
 rw [BitVec.toNat_and]
 have h1 := bv_of ha
 have h2 := bv_of hb
 rw [show (BitVec.ofInt 64 a).toNat = a.toNat by omega, show (BitVec.ofInt 64 b).toNat = b.toNat by omega]
theorem back_one {f : S51} {s : S52} (hf : freeOk f = true) (hc : cpOk f) (hs : maskOk s = true) (h0 : 0 ≤ s.f2) (h : lessE f s = 0) :
  moreE (lessF f s) s = 0 ∧ moreF (lessF f s) s = f ∧ freeOk (lessF f s) = true ∧ cpOk (lessF f s) := by
 have h1 := freeOk_out hf
 have h2 := maskOk_out hs
 obtain ⟨h3, h4⟩ := (lessE_iff hf hs).1 h
 have hb := hc
 unfold cpOk at hb
 have e2 : (lessF f s).f2 = f.f2 - s.f2 := by unfold lessF; exact w_id (by omega)
 have hok := lessF_ok hf hs
 have hco : cpOk (lessF f s) := by unfold cpOk; omega
 have hsub : BitVec.ofInt 64 s.f1 &&& BitVec.ofInt 64 f.f1 = BitVec.ofInt 64 s.f1 := by
  apply BitVec.eq_of_toNat_eq
  rw [and_bv h2 h1.1, h3]
  have := bv_of h2
  omega
 have e1 : (lessF f s).f1 = Go.bits .andNot .u64 f.f1 s.f1 := rfl
 have hA := andNot_bv f.f1 s.f1
 generalize hF : BitVec.ofInt 64 f.f1 = F at *
 generalize hS : BitVec.ofInt 64 s.f1 = S at *
 have hL : BitVec.ofInt 64 (lessF f s).f1 = F &&& ~~~ S := by rw [e1, hA, ofInt_toNat]
 have hd : disj s.f1 (lessF f s).f1 := by
  unfold disj
  rw [← and_bv h2 (freeOk_out hok).1, hS, hL]
  have : S &&& (F &&& ~~~S) = 0#64 := by ext i; simp; intro h _; exact h
  rw [this]; rfl
 refine ⟨(moreE_iff hok hco hs h0).2 ⟨hd, by omega⟩, ?_, hok, hco⟩
 have hor : Go.bits .or .u64 (lessF f s).f1 s.f1 = f.f1 := by
  rw [bits_or_bv, hL, hS]
  have : F &&& ~~~S ||| S = F := by
   ext i hi
   have := congrArg (fun x => x[i]) hsub
   simp only [BitVec.getElem_and] at this
   simp only [BitVec.getElem_or, BitVec.getElem_and, BitVec.getElem_not]
   cases h5 : S[i] <;> cases h6 : F[i] <;> simp_all
  rw [this, ← hF]
  exact bv_of h1.1
 have h6 : wrap64 ((lessF f s).f2 + s.f2) = f.f2 := by rw [e2, w_id (by omega)]; omega
 show (⟨f.f0, Go.bits .or .u64 (lessF f s).f1 s.f1, wrap64 ((lessF f s).f2 + s.f2)⟩ : S51) = f
 rw [hor, h6]
theorem find_at {view : List S51} (hn : (view.map spot).Nodup) {s : S52} {p : Nat} (hp : p < view.length) (hs : spot view[p] = sspot s) : findI view s.f0.f0 s.f0.f1 = (p : Int) := by
 have hin : ¬ findI view s.f0.f0 s.f0.f1 < 0 := fun h => findI_neg.1 h (List.mem_map.2 ⟨view[p], List.getElem_mem hp, hs⟩)
 obtain ⟨q, hq⟩ := Int.eq_ofNat_of_zero_le (show 0 ≤ findI view s.f0.f0 s.f0.f1 by omega)
 obtain ⟨hql, hqs, _, _⟩ := set_step hn hq
 have hn' := List.pairwise_iff_getElem.1 hn
 rw [hq]
 rcases Nat.lt_trichotomy p q with h | h | h
 ·exact absurd (by rw [List.getElem_map, List.getElem_map, hs, hqs]) (hn' p q (by simpa using hp) (by simpa using hql) h)
 ·rw [h]
 ·exact absurd (by rw [List.getElem_map, List.getElem_map, hs, hqs]) (hn' q p (by simpa using hql) (by simpa using hp) h)
theorem turnF_one {E : S51 → S52 → Int} {F : S51 → S52 → S51} {view : List S51} (hn : (view.map spot).Nodup) {s : S52} {p : Nat} (hp : p < view.length) (hs : spot view[p] = sspot s) (h0 : 0 ≤ s.f2) (hE : E view[p] s = 0) :
  turnF E F view [s] = (view.set p (F view[p] s), 0) := by
 rw [turnF, if_neg (by omega), find_at hn hp hs, if_neg (by omega), rd51' view p hp, if_pos hE, Int.toNat_natCast, turnF]
theorem less_back : ∀ (slots : List S52) (view : List S51), View view → (∀ s ∈ slots, maskOk s = true) → (turnF lessE lessF view slots).2 = 0 →
  View (turnF lessE lessF view slots).1 ∧ (turnF lessE lessF view slots).1.map spot = view.map spot ∧ cpMax slots ∧ turnF moreE moreF (turnF lessE lessF view slots).1 slots.reverse = (view, 0)
 | [], view, V, _, _ => ⟨V, rfl, by simp [cpMax], rfl⟩
 | s :: ss, view, V, hm, h => by
  have hms := hm s (by simp)
  rw [turnF] at h ⊢
  by_cases h1 : s.f2 < 0
  ·rw [if_pos h1] at h; cases h
  rw [if_neg h1] at h ⊢
  by_cases h2 : findI view s.f0.f0 s.f0.f1 < 0
  ·rw [if_pos h2] at h; cases h
  rw [if_neg h2] at h ⊢
  obtain ⟨p, hp⟩ := Int.eq_ofNat_of_zero_le (show 0 ≤ findI view s.f0.f0 s.f0.f1 by omega)
  obtain ⟨hpl, hps, _, _⟩ := set_step V.right.2 hp
  rw [hp, Int.toNat_natCast, rd51' view p hpl] at h ⊢
  have hfp := V.free _ (List.getElem_mem hpl)
  have hcp := V.right.1 _ (List.getElem_mem hpl)
  by_cases h3 : lessE view[p] s = 0
  ·rw [if_pos h3] at h ⊢
   obtain ⟨b1, b2, b3, b4⟩ := back_one hfp hcp hms (by omega) h3
   have sp : (view.set p (lessF view[p] s)).map spot = view.map spot := spots_set (fun hk => rfl)
   have V' : View (view.set p (lessF view[p] s)) := ⟨⟨set_all V.right.1 b4, by rw [sp]; exact V.right.2⟩, set_all V.free b3⟩
   obtain ⟨i1, i2, i3, i4⟩ := less_back ss _ V' (fun x hx => hm x (by simp [hx])) h
   refine ⟨i1, i2.trans sp, fun x hx => ?_, ?_⟩
   ·rcases List.mem_cons.1 hx with rfl | hx
    ·have := ((lessE_iff hfp hms).1 h3).2
     unfold cpOk at hcp
     exact ⟨by omega, by omega⟩
    ·exact i3 x hx
   ·have hl : p < (view.set p (lessF view[p] s)).length := by rw [List.length_set]; exact hpl
    have eg : (view.set p (lessF view[p] s))[p] = lessF view[p] s := List.getElem_set_self _
    rw [List.reverse_cons, turnF_append _ _ _ (by rw [i4]), i4]
    simp only
    rw [turnF_one V'.right.2 hl (by rw [eg]; exact hps) (by omega) (by rw [eg]; exact b1), eg, b2, List.set_set, List.set_getElem_self]
  ·rw [if_neg h3] at h; exact absurd h h3
structure Base (view : List S51) (ends : List S41) : Prop where
 V : View view
 I : Inp view ends
 vo : viewOk view
 so : ∀ s ∈ slotsOf ends, (w64B s.f0.f0 && w64B s.f0.f1) = true
 el : ends.length ≤ 1000
 sl : (slotsOf ends).length ≤ 1000000
theorem Setup.base {view : List S51} {lg lc : Int} {ends : List S41} (S : Setup view lg lc ends) : Base view ends :=
 ⟨S.V, S.I, S.vo, S.so, Nat.le_trans S.el (by decide), by
  have h1 := slots_len S.hl
  have h2 : 20 * ends.length ≤ 20 * 20 := Nat.mul_le_mul_left 20 S.el
  omega⟩
theorem Base.early {view : List S51} {ends : List S41} (B : Base view ends) {lg lc : Int} (L : I64P (lg, lc)) (now q m g c mn mx : Int) :
  promise_Earliest.f now view lg lc ends q m g c mn mx = some (refEarly now view lg lc ends q m g c mn mx) := by
 unfold promise_Earliest.f
 rw [if_pos (okE_mk B.vo B.el B.I.sm B.so B.I.es), early_ref B.V B.I L]
structure HoldOk (h : S41) : Prop where
 mo : ∀ s ∈ h.f4, maskOk s = true
 sp : ∀ s ∈ h.f4, (w64B s.f0.f0 && w64B s.f0.f1) = true
 ln : h.f4.length ≤ 20
theorem slotsOf_snoc (ends : List S41) (h : S41) : slotsOf (ends ++ [h]) = slotsOf ends ++ h.f4 := by rw [slotsOf_append]; simp [slotsOf]
theorem Base.less {view : List S51} {ends : List S41} (B : Base view ends) {h : S41} (H : HoldOk h) (hok : (turnF lessE lessF view h.f4).2 = 0) (el : ends.length < 500) (sl : (slotsOf ends).length ≤ 100000) :
  Base (turnF lessE lessF view h.f4).1 (ends ++ [h]) := by
 obtain ⟨VL, hsp, _, _⟩ := less_back h.f4 view B.V H.mo hok
 have hlen : (turnF lessE lessF view h.f4).1.length = view.length := by
  have := congrArg List.length hsp
  simpa using this
 have hs : ∀ s ∈ slotsOf (ends ++ [h]), s ∈ slotsOf ends ∨ s ∈ h.f4 := fun s hs => by rw [slotsOf_snoc] at hs; exact List.mem_append.1 hs
 have hl : (slotsOf (ends ++ [h])).length ≤ 100020 := by rw [slotsOf_snoc, List.length_append]; have := H.ln; omega
 refine ⟨VL, ⟨by rw [hlen]; exact B.I.vl, VL.free, by simp; omega, by omega, fun s h1 => (hs s h1).elim (B.I.sm s) (H.mo s)⟩, ⟨by rw [hlen]; exact B.vo.1, VL.free, fun f hf => ?_⟩,
  fun s h1 => (hs s h1).elim (B.so s) (H.sp s), by simp; omega, by omega⟩
 have : spot f ∈ view.map spot := by rw [← hsp]; exact List.mem_map_of_mem hf
 obtain ⟨f', hf', e⟩ := List.mem_map.1 this
 have h1 := B.vo.2.2 f' hf'
 unfold spot at e
 injection e with e1 e2
 rw [← e1, ← e2]; exact h1
theorem subL_eq : ∀ (l : List S52) (a : Int × Int), I64P a → subL a l = (wrap64 (a.1 - popS l), wrap64 (a.2 - cpS l))
 | [], a, h => by
  unfold I64P at h
  have e1 : wrap64 (a.1 - popS []) = a.1 := by rw [show popS [] = 0 from rfl, Int.sub_zero]; exact w_id (by omega)
  have e2 : wrap64 (a.2 - cpS []) = a.2 := by rw [show cpS [] = 0 from rfl, Int.sub_zero]; exact w_id (by omega)
  rw [e1, e2]; rfl
 | s :: l, a, h => by
  have e : subL a (s :: l) = subL (subU a s) l := rfl
  rw [e, subL_eq l _ ⟨wrap_bd _, wrap_bd _⟩, popS_cons, cpS_cons]
  unfold subU
  simp only
  have e3 : ∀ x y z : Int, wrap64 (wrap64 (x - y) - z) = wrap64 (x - (y + z)) := fun x y z => by unfold wrap64; omega
  rw [e3, e3]
def aftL (q lg : Int) (hq : Int) (n : Int) : Int := if hq = q then wrap64 (lg - n) else lg
def afterB (now : Int) (view : List S51) (lg lc : Int) (ends : List S41) (q m g c mn mx : Int) (h : S41) : Int × Int :=
 if (turnF lessE lessF view h.f4).2 = 0 then refEarly now (turnF lessE lessF view h.f4).1 (aftL q lg h.f1 (popS h.f4)) (aftL q lc h.f1 (cpS h.f4)) (ends ++ [h]) q m g c mn mx else (0, (turnF lessE lessF view h.f4).2)
theorem aftL_I64 {q lg lc : Int} (L : I64P (lg, lc)) (a b d : Int) : I64P (aftL q lg a b, aftL q lc a d) := by
 unfold I64P at L
 unfold I64P aftL
 split
 ·exact ⟨wrap_bd _, wrap_bd _⟩
 ·exact L
theorem Base.after {view : List S51} {ends : List S41} (B : Base view ends) {lg lc : Int} (L : I64P (lg, lc)) {h0 h1 h2 : Int} {h3 : Bool} {h4 : List S52} (H : HoldOk ⟨h0, h1, h2, h3, h4⟩) (el : ends.length < 500) (sl : (slotsOf ends).length ≤ 100000) (now q m g c mn mx : Int) :
  fill_After.f now view lg lc ends q m g c mn mx h0 h1 h2 h3 h4 = some (afterB now view lg lc ends q m g c mn mx ⟨h0, h1, h2, h3, h4⟩) := by
 have e1 : pack_Less.f view h4 = some (turnF lessE lessF view h4) := by
  unfold pack_Less.f spotsOk
  have a1 : view.all (fun f => w64B f.f0.f0 && w64B f.f0.f1) = true := List.all_eq_true.2 B.vo.2.2
  have a2 : h4.all (fun f => w64B f.f0.f0 && w64B f.f0.f1) = true := List.all_eq_true.2 H.sp
  rw [decide_eq_true B.vo.1, a1, a2, if_pos (by rfl), turned51_find (F := lessF) (fun _ _ => rfl) B.V.right.2]
 have hln : h4.length ≤ 20 := H.ln
 have e2 : fill_take.f lg lc h4 = some (wrap64 (lg - popS h4), wrap64 (lc - cpS h4)) := by
  unfold fill_take.f maskAll
  have a1 : h4.all maskOk = true := List.all_eq_true.2 H.mo
  rw [a1, decide_eq_true (by omega), if_pos (by rfl), subL_eq h4 _ L]
 have e3 : api_Hold.f ends = some ends := by unfold api_Hold.f; rw [if_pos (by omega)]
 unfold fill_After.f afterB
 rw [e1, Option.bind_some]
 by_cases hz : (turnF lessE lessF view h4).2 = 0
 ·have B' := B.less H hz el sl
  have L' := aftL_I64 (q := q) L h1 (popS h4) (cpS h4)
  have E := B'.early L' now q m g c mn mx
  rw [if_pos hz, if_pos hz]
  by_cases hq : h1 = q
  ·rw [if_pos hq, e2, Option.bind_some, e3, Option.bind_some, Option.bind_some, if_pos (by simp; omega)]
   unfold aftL at E ⊢
   simp only at E ⊢
   rw [if_pos hq, if_pos hq] at E ⊢
   rw [E]; rfl
  ·rw [if_neg hq, e3, Option.bind_some, Option.bind_some, if_pos (by simp; omega)]
   unfold aftL at E ⊢
   simp only at E ⊢
   rw [if_neg hq, if_neg hq] at E ⊢
   rw [E]; rfl
 ·rw [if_neg hz, if_neg hz]
end Go.Proofs.Ytckhjehibjdjdaa.P
namespace Go.Proofs.Ytckhjehibjdjdaa.P
open Go.RowKit Go.Proofs.YtckhjehibjdjdaaW.PrintWords Go.Proofs.YtckhjehibjdjdaaW.PrintLast Go.Proofs.YtckhjehibjdjdaaW.PrintMore
attribute [local go_sem] max2_int min2_int max_two min_two max_three min_three max_four min_four
set_option linter.unusedVariables false
set_option linter.unusedSimpArgs false
attribute [local go_sem high] eqA52
end Go.Proofs.Ytckhjehibjdjdaa.P
namespace Go.Proofs.Ytckhjehibjdjdaa.P
open Go.RowKit Go.Proofs.YtckhjehibjdjdaaW.PrintWords Go.Proofs.YtckhjehibjdjdaaW.PrintLast Go.Proofs.YtckhjehibjdjdaaW.PrintMore
open Go.Proofs.Ytckhjehibjdjdaa.Bits Go.Proofs.Ytckhjehibjdjdaa.Mp
set_option linter.unusedVariables false
set_option linter.unusedSimpArgs false
theorem awake05 : ensemblelaw05_awake.f = some true := by decide +kernel
theorem few05_ev (view : List S51) : (Ev (fun k => ensemblelaw05_few.f k view) true ∧ viewR view ∧ view.length ≤ 70) ∨ Ev (fun k => ensemblelaw05_few.f k view) false := by
 unfold ensemblelaw05_few.f
 by_cases h : (view.length : Int) ≤ 70
 ·rcases right05_ev view (by omega) with ⟨h1, h2⟩ | h1
  ·exact .inl ⟨Ev.congr (fun k => by rw [if_pos h]) (Ev.bind h1 (Ev.now _)), h2, by omega⟩
  ·exact .inr (Ev.congr (fun k => by rw [if_pos h]) (Ev.bind h1 (Ev.now _)))
 ·exact .inr (Ev.congr (fun k => by rw [if_neg h]) (Ev.now _))
theorem room_ev (view : List S51) (g c mn mx : Int) (hl : view.length ≤ 4398046511104) (hv : ∀ f ∈ view, freeOk f = true) : Ev (fun k => pack_Room.f k view g c mn mx) (roomS g c mn mx view) := by
 refine ⟨view.length + 1, fun k hk => ?_⟩
 exact room_eq k view g c mn mx hk hl hv
theorem low_and (M n : Nat) : lowN M n &&& M = lowN M n := by
 apply Nat.eq_of_testBit_eq
 intro j
 rw [Nat.testBit_and]
 by_cases h : j ∈ (pos M).take n
 ·rw [(mem_pos.1 (List.mem_of_mem_take h)).2, Bool.and_true]
 ·have : (lowN M n).testBit j = false := by unfold lowN; rw [testBit_orAll]; simpa using h
  rw [this]; rfl
theorem low_sub {m g : Int} (hm : 0 ≤ m ∧ m < 18446744073709551616) : Go.bits .andNot .u64 m (lowI m g) = m - lowI m g := by
 obtain ⟨M, rfl⟩ := Int.eq_ofNat_of_zero_le hm.1
 have h1 := low_le M g.toNat (by omega)
 have e : lowI (M : Int) g = ((lowN M g.toNat : Nat) : Int) := rfl
 rw [e, andNot_nat M (lowN M g.toNat) (by omega) (by omega), Nat.and_comm, low_and]
 omega
def kap (s0 s1 : Int) (f : S51) : Int := min (eachI (popI f.f1) s0) (eachI f.f2 s1)
def spotOk (f : S51) : Prop := freeOk f = true ∧ cpOk f
section
variable {s0 s1 s2 s3 : Int} (hg : goodShape s0 s1 s2 s3 = true)
include hg
theorem fit_kap {f : S51} (hf : spotOk f) : fitV s0 s1 s2 s3 f.f1 f.f2 = min 16 (kap s0 s1 f) := by
 unfold fitV fitN kap
 rw [if_pos ⟨hg, hf.2.1⟩]
theorem kap_ge {f : S51} (hf : spotOk f) (h : 1 ≤ kap s0 s1 f) : s0 ≤ popI f.f1 ∧ s1 ≤ f.f2 := by
 have hb := good_out0 hg
 have h1 : 1 ≤ eachI (popI f.f1) s0 := by unfold kap at h; omega
 have h2 : 1 ≤ eachI f.f2 s1 := by unfold kap at h; omega
 have e : ∀ a b : Int, 0 ≤ a → 0 ≤ b → 1 ≤ eachI a b → b ≤ a := fun a b ha hb hx => by
  unfold eachI at hx
  by_cases hz : b = 0
  ·omega
  ·rw [if_neg hz] at hx
   have := (Int.le_ediv_iff_mul_le (c := b) (by omega)).1 hx
   omega
 exact ⟨e _ _ (popI_bd _).1 hb.1 h1, e _ _ hf.2.1 hb.2.2.1 h2⟩
theorem left_eq {f : S51} (hf : spotOk f) (h : 1 ≤ kap s0 s1 f) : leftF s0 s1 f = ⟨f.f0, f.f1 - lowI f.f1 s0, f.f2 - s1⟩ := by
 have hb := good_out0 hg
 have h1 := kap_ge hg hf h
 have h2 := hf.2
 unfold cpOk at h2
 unfold leftF
 rw [low_sub (freeOk_out hf.1).1, w_id (by omega)]
theorem left_ok {f : S51} (hf : spotOk f) (h : 1 ≤ kap s0 s1 f) : spotOk (leftF s0 s1 f) := by
 have hb := good_out0 hg
 have h1 := kap_ge hg hf h
 have h2 := hf.2
 refine ⟨leftF_ok s0 s1 hf.1, ?_⟩
 rw [left_eq hg hf h]
 unfold cpOk at h2 ⊢
 simp only
 omega
theorem kap_left {f : S51} (hf : spotOk f) (h : 1 ≤ kap s0 s1 f) (n : Nat) (h0 : 1 ≤ n) (hn : n ≤ 16) : min (n : Int) (kap s0 s1 f) = 1 + min ((n : Int) - 1) (kap s0 s1 (leftF s0 s1 f)) := by
 have hb := good_out0 hg
 have h1 := kap_ge hg hf h
 have h2 := hf.2
 unfold cpOk at h2
 have hs := pop_sub f.f1 s0 (freeOk_out hf.1).1 hb.1 h1.1
 have A := each_sub (popI f.f1) s0 hb.1 h1.1 (16 - n) (by omega) (eachI f.f2 s1)
 have B := each_sub f.f2 s1 hb.2.2.1 h1.2 (16 - n) (by omega) (eachI (popI f.f1 - s0) s0 + 1)
 rw [left_eq hg hf h]
 unfold kap
 simp only
 rw [hs.1]
 omega
end
def pcs (s0 s1 : Int) : Nat → S51 → List S52
 | 0, _ => []
 | n + 1, f => pieceL s0 s1 f :: pcs s0 s1 n (leftF s0 s1 f)
theorem pcs_len (s0 s1 : Int) : ∀ (n : Nat) (f : S51), (pcs s0 s1 n f).length = n
 | 0, _ => rfl
 | n + 1, f => by rw [pcs, List.length_cons, pcs_len]
theorem pcs_take (s0 s1 : Int) : ∀ (n r : Nat) (f : S51), (pcs s0 s1 n f).take r = pcs s0 s1 (min r n) f
 | 0, r, f => by rw [Nat.min_zero]; simp [pcs]
 | n + 1, 0, f => by rw [Nat.zero_min]; rfl
 | n + 1, r + 1, f => by
  rw [show min (r + 1) (n + 1) = min r n + 1 by omega, pcs, pcs, List.take_succ_cons, pcs_take s0 s1 n r]
def fitT (s0 s1 s2 s3 : Int) (f : S51) : Nat := (fitV s0 s1 s2 s3 f.f1 f.f2).toNat
theorem fitT_eq (s0 s1 s2 s3 : Int) (f : S51) : ((fitT s0 s1 s2 s3 f : Nat) : Int) = fitV s0 s1 s2 s3 f.f1 f.f2 := by
 have := fitV_bd s0 s1 s2 s3 f.f1 f.f2
 unfold fitT; omega
def flat (s0 s1 s2 s3 : Int) (L : List S51) : List S52 := L.flatMap fun f => pcs s0 s1 (fitT s0 s1 s2 s3 f) f
theorem flat_cons (s0 s1 s2 s3 : Int) (f : S51) (L : List S51) : flat s0 s1 s2 s3 (f :: L) = pcs s0 s1 (fitT s0 s1 s2 s3 f) f ++ flat s0 s1 s2 s3 L := List.flatMap_cons
theorem flat_len (s0 s1 s2 s3 : Int) : ∀ L : List S51, ((flat s0 s1 s2 s3 L).length : Int) = roomS s0 s1 s2 s3 L
 | [] => rfl
 | f :: L => by
  have := flat_len s0 s1 s2 s3 L
  have h2 := fitT_eq s0 s1 s2 s3 f
  rw [flat_cons, List.length_append, pcs_len]
  unfold roomS at *
  rw [List.map_cons, List.sum_cons]
  omega
theorem cut_eq {s0 s1 s2 s3 : Int} (hg : goodShape s0 s1 s2 s3 = true) (m : Nat) (hm : m ≤ 16) : ∀ (k : Nat) (f : S51) (out : List S52), spotOk f → out.length ≤ m → m + 1 ≤ k + out.length →
  cutL s0 s1 s2 s3 m k f out = out ++ pcs s0 s1 (min (m - out.length) (fitT s0 s1 s2 s3 f)) f
 | 0, f, out, _, h1, h2 => by omega
 | k + 1, f, out, hf, h1, h2 => by
  have e1 := fitT_eq s0 s1 s2 s3 f
  have e2 := fit_kap hg hf
  rw [cutL]
  by_cases hc : out.length < m ∧ fitV s0 s1 s2 s3 f.f1 f.f2 ≠ 0
  ·have hb := fitV_bd s0 s1 s2 s3 f.f1 f.f2
   have hk : 1 ≤ kap s0 s1 f := by omega
   rw [if_pos hc, cut_eq hg m hm k _ _ (left_ok hg hf hk) (by simp; omega) (by simp; omega)]
   have e3 := fitT_eq s0 s1 s2 s3 (leftF s0 s1 f)
   have e4 := fit_kap hg (left_ok hg hf hk)
   have e5 := kap_left hg hf hk (m - out.length) (by omega) (by omega)
   have e6 : min (m - out.length) (fitT s0 s1 s2 s3 f) = min (m - (out ++ [pieceL s0 s1 f]).length) (fitT s0 s1 s2 s3 (leftF s0 s1 f)) + 1 := by
    rw [List.length_append]
    simp only [List.length_cons, List.length_nil]
    omega
   rw [e6, pcs, List.append_assoc]; rfl
  ·rw [if_neg hc, show min (m - out.length) (fitT s0 s1 s2 s3 f) = 0 by omega, pcs, List.append_nil]
theorem place_fold {s0 s1 s2 s3 : Int} (hg : goodShape s0 s1 s2 s3 = true) (m : Nat) (hm : m ≤ 16) : ∀ (L : List S51) (out : List S52), (∀ f ∈ L, spotOk f) → out.length ≤ m →
  L.foldl (fun out f => cutL s0 s1 s2 s3 m 17 f out) out = out ++ (flat s0 s1 s2 s3 L).take (m - out.length)
 | [], out, _, _ => by simp [flat]
 | f :: L, out, hL, ho => by
  rw [List.foldl_cons, cut_eq hg m hm 17 f out (hL f (by simp)) ho (by omega), ← pcs_take,
   place_fold hg m hm L _ (fun x hx => hL x (by simp [hx])) (by rw [List.length_append, List.length_take, pcs_len]; omega), flat_cons, List.take_append, List.append_assoc,
   List.length_append, List.length_take, pcs_len]
  congr 3
  omega
theorem placeL_eq {s0 s1 s2 s3 : Int} (hg : goodShape s0 s1 s2 s3 = true) (m : Nat) (hm : m ≤ 16) (L : List S51) (hL : ∀ f ∈ L, spotOk f) : placeL s0 s1 s2 s3 m L = (flat s0 s1 s2 s3 L).take m := by
 have := place_fold hg m hm L [] hL (by simp)
 rw [List.nil_append, List.length_nil, Nat.sub_zero] at this
 exact this
theorem roomS_perm {s0 s1 s2 s3 : Int} {a b : List S51} (h : a.Perm b) : roomS s0 s1 s2 s3 a = roomS s0 s1 s2 s3 b := perm_sum (h.map _)
def placeP (view : List S51) (s0 s1 s2 s3 m : Int) : List S52 × Int :=
 if goodShape s0 s1 s2 s3 = true ∧ 1 ≤ m ∧ m ≤ 16 then
  (if roomS s0 s1 s2 s3 view < m then ([], 7) else ((flat s0 s1 s2 s3 (isort (fkey s0 s1 s2 s3) view)).take m.toNat, 0))
 else ([], 1)
theorem place_P {view : List S51} (hv : ∀ f ∈ view, spotOk f) (s0 s1 s2 s3 m : Int) : placeB view s0 s1 s2 s3 m = placeP view s0 s1 s2 s3 m := by
 unfold placeB placeP
 by_cases h : goodShape s0 s1 s2 s3 = true ∧ 1 ≤ m ∧ m ≤ 16
 ·rw [if_pos h, if_pos h, placeL_eq h.1 m.toNat (by omega) _ (fun f hf => hv f ((isort_perm (fkey s0 s1 s2 s3) view).mem_iff.1 hf))]
  have h1 := flat_len s0 s1 s2 s3 (isort (fkey s0 s1 s2 s3) view)
  rw [roomS_perm (isort_perm (fkey s0 s1 s2 s3) view)] at h1
  by_cases h2 : roomS s0 s1 s2 s3 view < m
  ·rw [if_pos h2, if_pos (by rw [List.length_take]; omega)]
  ·rw [if_neg h2, if_neg (by rw [List.length_take]; omega)]
 ·rw [if_neg h, if_neg h]
theorem place_f {view : List S51} (hv : ∀ f ∈ view, spotOk f) (hl : view.length ≤ 1000000) (s0 s1 s2 s3 m : Int) : pack_Place.f view s0 s1 s2 s3 m = some (placeP view s0 s1 s2 s3 m) := by
 unfold pack_Place.f placeOk
 rw [List.all_eq_true.2 (fun f hf => (hv f hf).1), decide_eq_true hl, if_pos (by rfl), place_P hv]
theorem placeP_ok {view : List S51} {s0 s1 s2 s3 m : Int} (h : (placeP view s0 s1 s2 s3 m).2 = 0) : goodShape s0 s1 s2 s3 = true ∧ (1 ≤ m ∧ m ≤ 16) ∧ m ≤ roomS s0 s1 s2 s3 view ∧ placeP view s0 s1 s2 s3 m = ((flat s0 s1 s2 s3 (isort (fkey s0 s1 s2 s3) view)).take m.toNat, 0) := by
 unfold placeP at h ⊢
 by_cases h1 : goodShape s0 s1 s2 s3 = true ∧ 1 ≤ m ∧ m ≤ 16
 ·rw [if_pos h1] at h ⊢
  by_cases h2 : roomS s0 s1 s2 s3 view < m
  ·rw [if_pos h2] at h; cases h
  ·rw [if_neg h2]; exact ⟨h1.1, h1.2, by omega, rfl⟩
 ·rw [if_neg h1] at h; cases h
theorem placeP_le {view : List S51} {s0 s1 s2 s3 m n : Int} (h : (placeP view s0 s1 s2 s3 m).2 = 0) (h1 : 1 ≤ n) (h2 : n ≤ m) : placeP view s0 s1 s2 s3 n = ((flat s0 s1 s2 s3 (isort (fkey s0 s1 s2 s3) view)).take n.toNat, 0) := by
 obtain ⟨a, b, c, _⟩ := placeP_ok h
 unfold placeP
 rw [if_pos ⟨a, by omega, by omega⟩, if_neg (by omega)]
structure Few5 (view : List S51) : Prop where
 V : View view
 ok : ∀ f ∈ view, spotOk f
 len : view.length ≤ 70
 sp : ∀ f ∈ view, (w64B f.f0.f0 && w64B f.f0.f1) = true
theorem few5 {view : List S51} (hw : ∀ y ∈ view, wfd51 y) (hr : viewR view) (hl : view.length ≤ 70) : Few5 view :=
 ⟨⟨hr, fun f hf => (free_of_wf (hw f hf)).1⟩, fun f hf => ⟨(free_of_wf (hw f hf)).1, hr.1 f hf⟩, hl, fun f hf => (free_of_wf (hw f hf)).2⟩
theorem Few5.place {view : List S51} (F : Few5 view) (s0 s1 s2 s3 m : Int) : pack_Place.f view s0 s1 s2 s3 m = some (placeP view s0 s1 s2 s3 m) := place_f F.ok (by have := F.len; omega) s0 s1 s2 s3 m
theorem Few5.room {view : List S51} (F : Few5 view) (s0 s1 s2 s3 : Int) : Ev (fun k => pack_Room.f k view s0 s1 s2 s3) (roomS s0 s1 s2 s3 view) := room_ev view s0 s1 s2 s3 (by have := F.len; omega) F.V.free
end Go.Proofs.Ytckhjehibjdjdaa.P
namespace Go.Proofs.Ytckhjehibjdjdaa.P
open Go.RowKit Go.Proofs.YtckhjehibjdjdaaW.PrintWords Go.Proofs.YtckhjehibjdjdaaW.PrintLast Go.Proofs.YtckhjehibjdjdaaW.PrintMore
set_option linter.unusedVariables false
set_option linter.unusedSimpArgs false
def PackMore.Pure : Prop := ∀ (x0 : List S51) (x1 : S27) (x2 : List S52) (x3 : Int), (x0.length ≤ maxLen ∧ ∀ y ∈ x0, wfd51 y) → wfd27 x1 → (x2.length ≤ maxLen ∧ ∀ y ∈ x2, wfd52 y) → I64 x3 → ∃ k, ensemblelaw05_PackMore.f k x0 x1.f0 x1.f1 x1.f2 x1.f3 x2 x3 = some true
theorem roomS_bad {s0 s1 s2 s3 : Int} (h : ¬ goodShape s0 s1 s2 s3 = true) : ∀ view : List S51, roomS s0 s1 s2 s3 view = 0
 | [] => rfl
 | f :: l => by
  have := roomS_bad h l
  unfold roomS at *
  rw [List.map_cons, List.sum_cons, this]
  unfold fitV
  rw [if_neg (fun x => h x.1)]; rfl
theorem viewS_none (view : List S51) : viewS view [] = view := by unfold viewS atS; simp
theorem room_more {view : List S51} (V : View view) {l : List S52} (hm : ∀ s ∈ l, maskOk s = true) (ok : okS view l) (s0 s1 s2 s3 : Int) : roomS s0 s1 s2 s3 view ≤ roomS s0 s1 s2 s3 (viewS view l) := by
 by_cases hg : goodShape s0 s1 s2 s3 = true
 ·have hb := good_out0 hg
  have ok0 : okS view [] := ((turnF_iff [] view V (by simp)).1).1 rfl
  have h1 := room_num V (l := []) (by simp) ok0 hg
  rw [viewS_none] at h1
  have h2 := room_num V hm ok hg
  have h3 := roomN_append (g := s0) (c := s1) (view := view) (a := []) (b := l) hb.1 hb.2.2.1 (fun s hs => (ok.pos s hs).1)
  rw [List.nil_append] at h3
  omega
 ·rw [roomS_bad hg, roomS_bad hg]
  omega
theorem Pure.PackMore : PackMore.Pure := by
 intro view s sl m w0 w1 w2 w3
 refine Ev.rounds (g := fun k => ensemblelaw05_PackMore.f k view s.f0 s.f1 s.f2 s.f3 sl m) ?_
 refine Ev.congr (fun k => by unfold ensemblelaw05_PackMore.f; rw [awake05, Option.bind_some, if_pos rfl]) ?_
 have hj : ∀ (b : Bool), b = true → Ev (fun k => ensemblelaw05_PackMore.j0 k view sl m b s.f0 s.f1 s.f2 s.f3) true := fun b hb =>
  Ev.step (f := fun _ => some true) (fun k => by rw [ensemblelaw05_PackMore.j0, if_pos hb]) (Ev.now _)
 rcases few05_ev view with ⟨hk, hr, hl⟩ | hk
 case inr => exact Ev.bind hk (Ev.congr (fun k => by rw [if_neg (by decide)]) (hj _ rfl))
 have F := few5 w0.2 hr hl
 refine Ev.bind hk (Ev.congr (fun k => by rw [if_pos rfl]) ?_)
 by_cases h2 : (sl.length : Int) > 70
 ·exact hj _ (decide_eq_true h2)
 have hi : -9223372036854775808 ≤ m ∧ m ≤ 9223372036854775807 := w3
 have hm : ∀ x ∈ sl, maskOk x = true := fun x hx => (mask_of_wf (w2.2 x hx)).1
 have hmore : pack_More.f view sl = some (turnF moreE moreF view sl) := by
  unfold pack_More.f spotsOk
  rw [decide_eq_true (show view.length < 4398046511104 by omega), List.all_eq_true.2 F.sp, List.all_eq_true.2 (fun x hx => (mask_of_wf (w2.2 x hx)).2), if_pos (by rfl), turned51_find (F := moreF) (fun _ _ => rfl) F.V.right.2]
 have j1 : Ev (fun k => ensemblelaw05_PackMore.j1 k view m false s.f0 s.f1 s.f2 s.f3) true := by
  refine Ev.step (fun k => by rw [ensemblelaw05_PackMore.j1, if_neg (by decide), F.place, Option.bind_some]) ?_
  by_cases h : (placeP view s.f0 s.f1 s.f2 s.f3 m).2 = 0
  ·by_cases h3 : m < 2
   ·exact Ev.congr (fun k => by rw [if_pos h, if_pos h3]) (Ev.now _)
   ·have e := placeP_le (n := m - 1) h (by omega) (by omega)
    exact Ev.congr (fun k => by rw [if_pos h, if_neg h3, w_id (x := m - 1) (by omega), F.place, Option.bind_some, e]; rfl) (Ev.now _)
  ·exact Ev.congr (fun k => by rw [if_neg h]) (Ev.now _)
 refine Ev.step (fun k => by rw [ensemblelaw05_PackMore.j0, if_neg (by rw [decide_eq_false h2]; decide), hmore, Option.bind_some]) ?_
 obtain ⟨t1, t2⟩ := turnF_iff sl view F.V hm
 by_cases h : (turnF moreE moreF view sl).2 = 0
 ·have ok := t1.1 h
  have hle := room_more F.V hm ok s.f0 s.f1 s.f2 s.f3
  have tk := turnF_ok sl view F.V.free hm
  have hlen := F.len
  refine Ev.congr (fun k => by rw [if_pos h]) (Ev.bind (room_ev _ _ _ _ _ (by omega) tk.1) (Ev.bind (F.room _ _ _ _) ?_))
  rw [t2 h, decide_eq_false (by omega)]
  exact j1
 ·exact Ev.congr (fun k => by rw [if_neg h]) j1
end Go.Proofs.Ytckhjehibjdjdaa.P
namespace Go.Proofs.Ytckhjehibjdjdaa.row0
set_option maxRecDepth 100000
set_option linter.unusedSimpArgs false
theorem and_mk {a b : Bool} (h : a = true) (k : b = true) : (a && b) = true := by rw [h, k]; rfl
def letters : List Char := List.map Char.ofNat [104, 97, 114, 110, 101, 115, 115, 32, 57, 100, 50, 54, 101, 98, 50, 54, 53, 56, 98, 49, 102, 51, 56, 49, 51, 55, 98, 54, 100, 49, 53, 55, 102, 53, 100, 49, 102, 101, 97, 49, 102, 56, 57, 57, 55, 98, 52, 55, 53, 51, 99, 98, 101, 48, 98, 98, 48, 97, 53, 54, 48, 102, 102, 54, 52, 98, 99, 52, 98, 52, 102, 52, 32, 99, 117, 116, 32, 97, 116, 32, 101, 110, 115, 101, 109, 98, 108, 101, 47, 101, 110, 115, 101, 109, 98, 108, 101, 108, 97, 119, 49, 50, 46, 80, 114, 111, 109, 105, 115, 101, 84, 101, 108, 108, 115, 32, 101, 110, 115, 101, 109, 98, 108, 101, 47, 101, 110, 115, 101, 109, 98, 108, 101, 108, 97, 119, 49, 50, 46, 80, 114, 111, 109, 105, 115, 101, 75, 101, 101, 112, 115, 32, 101, 110, 115, 101, 109, 98, 108, 101, 47, 101, 110, 115, 101, 109, 98, 108, 101, 108, 97, 119, 49, 50, 46, 80, 114, 111, 109, 105, 115, 101, 76, 101, 115, 115, 32, 101, 110, 115, 101, 109, 98, 108, 101, 47, 101, 110, 115, 101, 109, 98, 108, 101, 108, 97, 119, 49, 50, 46, 80, 114, 111, 109, 105, 115, 101, 79, 110, 108, 121, 32, 101, 110, 115, 101, 109, 98, 108, 101, 47, 101, 110, 115, 101, 109, 98, 108, 101, 108, 97, 119, 49, 50, 46, 80, 114, 111, 109, 105, 115, 101, 82, 111, 111, 109, 32, 101, 110, 115, 101, 109, 98, 108, 101, 47, 101, 110, 115, 101, 109, 98, 108, 101, 108, 97, 119, 49, 51, 46, 70, 105, 108, 108, 84, 101, 108, 108, 115, 32, 101, 110, 115, 101, 109, 98, 108, 101, 47, 101, 110, 115, 101, 109, 98, 108, 101, 108, 97, 119, 49, 51, 46, 70, 105, 108, 108, 76, 97, 116, 101, 32, 101, 110, 115, 101, 109, 98, 108, 101, 47, 101, 110, 115, 101, 109, 98, 108, 101, 108, 97, 119, 49, 51, 46, 70, 105, 108, 108, 78, 111, 110, 101, 32, 101, 110, 115, 101, 109, 98, 108, 101, 47, 101, 110, 115, 101, 109, 98, 108, 101, 108, 97, 119, 49, 51, 46, 70, 105, 108, 108, 77, 97, 110, 121, 32, 101, 110, 115, 101, 109, 98, 108, 101, 47, 101, 110, 115, 101, 109, 98, 108, 101, 108, 97, 119, 49, 51, 46, 70, 105, 108, 108, 80, 97, 115, 116, 32, 101, 110, 115, 101, 109, 98, 108, 101, 47, 101, 110, 115, 101, 109, 98, 108, 101, 108, 97, 119, 48, 53, 46, 80, 97, 99, 107, 70, 101, 119, 32, 101, 110, 115, 101, 109, 98, 108, 101, 47, 101, 110, 115, 101, 109, 98, 108, 101, 108, 97, 119, 48, 53, 46, 80, 97, 99, 107, 70, 114, 111, 110, 116, 32, 101, 110, 115, 101, 109, 98, 108, 101, 47, 101, 110, 115, 101, 109, 98, 108, 101, 108, 97, 119, 48, 53, 46, 80, 97, 99, 107, 84, 101, 108, 108, 115, 32, 101, 110, 115, 101, 109, 98, 108, 101, 47, 101, 110, 115, 101, 109, 98, 108, 101, 108, 97, 119, 48, 53, 46, 80, 97, 99, 107, 82, 111, 111, 109, 115, 32, 101, 110, 115, 101, 109, 98, 108, 101, 47, 101, 110, 115, 101, 109, 98, 108, 101, 108, 97, 119, 48, 53, 46, 80, 97, 99, 107, 76, 101, 102, 116, 32, 101, 110, 115, 101, 109, 98, 108, 101, 47, 101, 110, 115, 101, 109, 98, 108, 101, 108, 97, 119, 48, 53, 46, 80, 97, 99, 107, 77, 111, 114, 101, 32, 101, 110, 115, 101, 109, 98, 108, 101, 47, 101, 110, 115, 101, 109, 98, 108, 101, 108, 97, 119, 48, 53, 46, 80, 97, 99, 107, 87, 104, 111, 108, 101, 32, 101, 110, 115, 101, 109, 98, 108, 101, 47, 101, 110, 115, 101, 109, 98, 108, 101, 108, 97, 119, 49, 52, 46, 69, 108, 97, 115, 116, 105, 99, 77, 111, 115, 116, 32, 101, 110, 115, 101, 109, 98, 108, 101, 47, 101, 110, 115, 101, 109, 98, 108, 101, 108, 97, 119, 49, 52, 46, 69, 108, 97, 115, 116, 105, 99, 77, 111, 114, 101, 32, 101, 110, 115, 101, 109, 98, 108, 101, 47, 101, 110, 115, 101, 109, 98, 108, 101, 108, 97, 119, 49, 52, 46, 69, 108, 97, 115, 116, 105, 99, 83, 97, 102, 101, 32, 101, 110, 115, 101, 109, 98, 108, 101, 47, 101, 110, 115, 101, 109, 98, 108, 101, 108, 97, 119, 49, 53, 46, 87, 111, 114, 107, 101, 114, 77, 97, 121, 32, 101, 110, 115, 101, 109, 98, 108, 101, 47, 101, 110, 115, 101, 109, 98, 108, 101, 108, 97, 119, 49, 53, 46, 87, 111, 114, 107, 101, 114, 82, 101, 115, 116, 115]
theorem lit : Try.checked.prog.initOrder = String.ofList letters := by kernel_rfl
theorem lits : Try.checked.prog.initOrder.toList = letters := by rw [lit]; exact String.toList_ofList
def words : List (List Char) := List.map (List.map Char.ofNat) [[99, 117, 116], [97, 116], [101, 110, 115, 101, 109, 98, 108, 101, 47, 101, 110, 115, 101, 109, 98, 108, 101, 108, 97, 119, 49, 50, 46, 80, 114, 111, 109, 105, 115, 101, 84, 101, 108, 108, 115], [101, 110, 115, 101, 109, 98, 108, 101, 47, 101, 110, 115, 101, 109, 98, 108, 101, 108, 97, 119, 49, 50, 46, 80, 114, 111, 109, 105, 115, 101, 75, 101, 101, 112, 115], [101, 110, 115, 101, 109, 98, 108, 101, 47, 101, 110, 115, 101, 109, 98, 108, 101, 108, 97, 119, 49, 50, 46, 80, 114, 111, 109, 105, 115, 101, 76, 101, 115, 115], [101, 110, 115, 101, 109, 98, 108, 101, 47, 101, 110, 115, 101, 109, 98, 108, 101, 108, 97, 119, 49, 50, 46, 80, 114, 111, 109, 105, 115, 101, 79, 110, 108, 121], [101, 110, 115, 101, 109, 98, 108, 101, 47, 101, 110, 115, 101, 109, 98, 108, 101, 108, 97, 119, 49, 50, 46, 80, 114, 111, 109, 105, 115, 101, 82, 111, 111, 109], [101, 110, 115, 101, 109, 98, 108, 101, 47, 101, 110, 115, 101, 109, 98, 108, 101, 108, 97, 119, 49, 51, 46, 70, 105, 108, 108, 84, 101, 108, 108, 115], [101, 110, 115, 101, 109, 98, 108, 101, 47, 101, 110, 115, 101, 109, 98, 108, 101, 108, 97, 119, 49, 51, 46, 70, 105, 108, 108, 76, 97, 116, 101], [101, 110, 115, 101, 109, 98, 108, 101, 47, 101, 110, 115, 101, 109, 98, 108, 101, 108, 97, 119, 49, 51, 46, 70, 105, 108, 108, 78, 111, 110, 101], [101, 110, 115, 101, 109, 98, 108, 101, 47, 101, 110, 115, 101, 109, 98, 108, 101, 108, 97, 119, 49, 51, 46, 70, 105, 108, 108, 77, 97, 110, 121], [101, 110, 115, 101, 109, 98, 108, 101, 47, 101, 110, 115, 101, 109, 98, 108, 101, 108, 97, 119, 49, 51, 46, 70, 105, 108, 108, 80, 97, 115, 116], [101, 110, 115, 101, 109, 98, 108, 101, 47, 101, 110, 115, 101, 109, 98, 108, 101, 108, 97, 119, 48, 53, 46, 80, 97, 99, 107, 70, 101, 119], [101, 110, 115, 101, 109, 98, 108, 101, 47, 101, 110, 115, 101, 109, 98, 108, 101, 108, 97, 119, 48, 53, 46, 80, 97, 99, 107, 70, 114, 111, 110, 116], [101, 110, 115, 101, 109, 98, 108, 101, 47, 101, 110, 115, 101, 109, 98, 108, 101, 108, 97, 119, 48, 53, 46, 80, 97, 99, 107, 84, 101, 108, 108, 115], [101, 110, 115, 101, 109, 98, 108, 101, 47, 101, 110, 115, 101, 109, 98, 108, 101, 108, 97, 119, 48, 53, 46, 80, 97, 99, 107, 82, 111, 111, 109, 115], [101, 110, 115, 101, 109, 98, 108, 101, 47, 101, 110, 115, 101, 109, 98, 108, 101, 108, 97, 119, 48, 53, 46, 80, 97, 99, 107, 76, 101, 102, 116], [101, 110, 115, 101, 109, 98, 108, 101, 47, 101, 110, 115, 101, 109, 98, 108, 101, 108, 97, 119, 48, 53, 46, 80, 97, 99, 107, 77, 111, 114, 101], [101, 110, 115, 101, 109, 98, 108, 101, 47, 101, 110, 115, 101, 109, 98, 108, 101, 108, 97, 119, 48, 53, 46, 80, 97, 99, 107, 87, 104, 111, 108, 101], [101, 110, 115, 101, 109, 98, 108, 101, 47, 101, 110, 115, 101, 109, 98, 108, 101, 108, 97, 119, 49, 52, 46, 69, 108, 97, 115, 116, 105, 99, 77, 111, 115, 116], [101, 110, 115, 101, 109, 98, 108, 101, 47, 101, 110, 115, 101, 109, 98, 108, 101, 108, 97, 119, 49, 52, 46, 69, 108, 97, 115, 116, 105, 99, 77, 111, 114, 101], [101, 110, 115, 101, 109, 98, 108, 101, 47, 101, 110, 115, 101, 109, 98, 108, 101, 108, 97, 119, 49, 52, 46, 69, 108, 97, 115, 116, 105, 99, 83, 97, 102, 101], [101, 110, 115, 101, 109, 98, 108, 101, 47, 101, 110, 115, 101, 109, 98, 108, 101, 108, 97, 119, 49, 53, 46, 87, 111, 114, 107, 101, 114, 77, 97, 121], [101, 110, 115, 101, 109, 98, 108, 101, 47, 101, 110, 115, 101, 109, 98, 108, 101, 108, 97, 119, 49, 53, 46, 87, 111, 114, 107, 101, 114, 82, 101, 115, 116, 115]]
theorem wordsEq : behindMainWord (wordsSigns letters) = words := by kernel_rfl
theorem behind : behindMainWord (wordsSigns Try.checked.prog.initOrder.toList) = words := by rw [lits]; exact wordsEq
theorem headLifts_of {P : Program} {ws : List (List Char)} (h : behindMainWord (wordsSigns P.initOrder.toList) = ws) (h2 : ((stripLifts liftWords ws).2.head? == some "cut".toList) = true) (h3 : (stripLifts liftWords ws).1 = []) : P.headLifts = [] := by
 unfold Program.headLifts
 rw [h]
 simp only [h2, h3, if_true]
theorem headLifts : Try.checked.prog.headLifts = [] := headLifts_of behind (by kernel_rfl) (by kernel_rfl)
theorem liftsFinal_of {P : Program} {ws : List (List Char)} (h : behindMainWord (wordsSigns P.initOrder.toList) = ws) (hl : P.headLifts = []) (h1 : (ws.head? == some "carried".toList) = false) : P.liftsFinal = false := by
 unfold Program.liftsFinal
 rw [h, hl]
 simp only [h1, Bool.false_and, List.contains_nil, Bool.or_false]
theorem liftsFinal : Try.checked.prog.liftsFinal = false := liftsFinal_of behind headLifts (by kernel_rfl)
theorem make_of {P : Program} {c : List Char} {rest : List (List Char)} (h : behindMainWord (wordsSigns P.initOrder.toList) = c :: rest) (h1 : (c == "gc".toList || c == "spec".toList) = false) (h2 : (c == "cut".toList) = true) : P.make = some .cut := by
 unfold Program.make
 rw [h]
 simp only [h1, h2, Bool.true_or, if_true, Bool.false_eq_true, if_false]
theorem make : Try.checked.prog.make = some .cut := make_of (behind.trans (show words = _ :: _ from rfl)) (by kernel_rfl) (by kernel_rfl)
theorem mayEnter_of {P : Program} {c : List Char} {rest : List (List Char)} (h : behindMainWord (wordsSigns P.initOrder.toList) = c :: rest) (h2 : ((stripLifts liftWords (c :: rest)).2.head? == some "cut".toList) = true) (h3 : (stripLifts liftWords (c :: rest)).1 = []) (h4 : P.laysLater = false) (h5 : P.bearsReflect = false) (h6 : P.doorFits [] = true) : P.mayEnter = true := by
 unfold Program.mayEnter
 rw [h]
 simp only [h2, h3, h4, h5, h6, List.contains_nil, Bool.not_false, Bool.false_or, Bool.or_true, Bool.true_or, Bool.and_true, Bool.true_and]
theorem h4 : Try.checked.prog.laysLater = false := by kernel_rfl
theorem h5 : Try.checked.prog.bearsReflect = false := by kernel_rfl
theorem h6 : Try.checked.prog.doorFits [] = true := by kernel_rfl
theorem mayEnter : Try.checked.prog.mayEnter = true := mayEnter_of (behind.trans (show words = _ :: _ from rfl)) (by kernel_rfl) (by kernel_rfl) h4 h5 h6
end Go.Proofs.Ytckhjehibjdjdaa.row0
namespace Go.Proofs.Ytckhjehibjdjdaa.packMore
open Go.ChangeShapes Go.WideShapes Go.ChangeAt Go.RowKit Go.Proofs.Ytckhjehibjdjdaa.P Go.Proofs.Ytckhjehibjdjdaa.Ob Go.Proofs.YtckhjehibjdjdaaW.PrintWords
open Go.ChangeMaps (open_string shut_string)
set_option linter.unusedVariables false
theorem own : ownKnob Try.prog.godebug = none := by kernel_rfl
theorem laidOut : laidOutB Try.prog = true := by kernel_rfl
set_option maxRecDepth 100000 in
theorem lifted (os : Os) (started : os.Started) (H : Type) (enc : TypeId × Value → H) :
  ReturnsInHanded {} Try.checked os 18 .any (Rows.packMoreSpec.pre6 enc Try.prog Try.f18 Rows.packMoreRow.domain false) (Rows.packMoreSpec.post enc Try.prog Try.f18 false true false false) := by
 refine returnsInHanded_of_change_sized (C := Try.checked) own started (by kernel_rfl) Try.func18
  (ChangeSpec.witness6 (enc := enc) (C := Try.checked) false ⟨#[], #[.slice none 0 0, .agg #[.int .i64 0, .int .i64 0, .int .i64 0, .int .i64 0], .slice none 0 0, .int .i64 0], []⟩ 8 (by kernel_rfl) (by kernel_rfl) (by kernel_rfl) (by kernel_rfl)) ?_
 intro W base args ds gs before hval0 hW hcnd hsz0 _
 have hval : ∀ (j : Nat) t v, Try.f18.params[j]? = some t → args[j]? = some v → Value.okWide Try.prog W .any base t v := hval0
 have hW' := hW
 obtain ⟨p, q, hA0, hV, rfl, hfz, hnd⟩ := hW
 have hA : DataW.TrodAll enc Try.prog W 0 (fun _ => true) true Try.f18.params.toList args.toList ds p := hA0
 rw [Try.params18] at hA hval
 obtain ⟨v0, vs0, d0, ds0, p0, q0, hargs, rfl, rfl, h0, r0⟩ := trodAll_cons hA
 obtain ⟨v1, vs1, d1, ds1, p1, q1, rfl, rfl, rfl, h1, r1⟩ := trodAll_cons r0
 obtain ⟨v2, vs2, d2, ds2, p2, q2, rfl, rfl, rfl, h2, r2⟩ := trodAll_cons r1
 obtain ⟨v3, vs3, d3, ds3, p3, q3, rfl, rfl, rfl, h3, r3⟩ := trodAll_cons r2
 obtain ⟨rfl, rfl, rfl⟩ := trodAll_nil r3
 obtain rfl : args = #[v0, v1, v2, v3] := by cases args; simp_all
 obtain ⟨rfl, rfl⟩ := trodVars_none hV
 have k0 := h0
 have lt0 : ∀ x ∈ p0, x.block < W.heap.size := by obtain ⟨m, hm⟩ := k0; exact DataW.trod_lt m _ _ _ hm
 obtain ⟨a0, len0, cap0, rfl⟩ := okWide_slice Try.underlying22 (hval 0 22 v0 rfl rfl)
 obtain ⟨x0, ⟨A0, c0, e0, l0, g0⟩, w0⟩ := Opens.open (Opens.slice Try.underlying22 (by kernel_rfl) (o51)) h0
 simp [Value.cells] at e0
 obtain ⟨rfl, rfl, rfl⟩ := e0
 have k1 := h1
 have lt1 : ∀ x ∈ p1, x.block < W.heap.size := by obtain ⟨m, hm⟩ := k1; exact DataW.trod_lt m _ _ _ hm
 obtain ⟨cs1, rfl, _⟩ := okWide_struct Try.underlying27 (hval 1 27 v1 rfl rfl)
 obtain ⟨x1, K1, w1⟩ := Opens.open o27 h1
 have e1 := k27_open K1
 obtain rfl : cs1 = #[.int .i64 x1.f0, .int .i64 x1.f1, .int .i64 x1.f2, .int .i64 x1.f3] := by apply Array.toList_inj.1; exact e1
 have k2 := h2
 have lt2 : ∀ x ∈ p2, x.block < W.heap.size := by obtain ⟨m, hm⟩ := k2; exact DataW.trod_lt m _ _ _ hm
 obtain ⟨a2, len2, cap2, rfl⟩ := okWide_slice Try.underlying39 (hval 2 39 v2 rfl rfl)
 obtain ⟨x2, ⟨A2, c2, e2, l2, g2⟩, w2⟩ := Opens.open (Opens.slice Try.underlying39 (by kernel_rfl) (o52)) h2
 simp [Value.cells] at e2
 obtain ⟨rfl, rfl, rfl⟩ := e2
 have k3 := h3
 have lt3 : ∀ x ∈ p3, x.block < W.heap.size := by obtain ⟨m, hm⟩ := k3; exact DataW.trod_lt m _ _ _ hm
 obtain ⟨x3, rfl⟩ := okWide_int Try.underlying3 (hval 3 3 v3 rfl rfl)
 obtain ⟨y3, e3, w3⟩ := Opens.open (o_i64 Try.underlying3) h3
 have e3' : x3 = y3 := by have := e3; simp [Value.cells, Kd.int, Kd.scalar] at this; exact this
 rw [← e3'] at w3
 clear hA0 hval0 hsz0
 obtain ⟨k, hk⟩ := Pure.PackMore x0 x1 x2 x3 w0 w1 w2 w3
 refine (ensemblelaw05_PackMore.calls k _ _ x0 (x1.f0) (x1.f1) (x1.f2) (x1.f3) _ _ x2 x3 true W g0 l0 g2 l2 hk).mono fun e W' ⟨he, bel⟩ => ?_
 subst he
 exact ⟨_, rfl, _, _, _, [], _, [], hW', trodAll_mk1 (shut_bool Try.underlying4 _), (trodAll_cons_mk (Below.trod laidOut (by kernel_rfl) (of_decide_eq_true (by kernel_rfl)) k0 bel lt0) (trodAll_cons_mk (Below.trod laidOut (by kernel_rfl) (of_decide_eq_true (by kernel_rfl)) k1 bel lt1) (trodAll_cons_mk (Below.trod laidOut (by kernel_rfl) (of_decide_eq_true (by kernel_rfl)) k2 bel lt2) (trodAll_cons_mk (Below.trod laidOut (by kernel_rfl) (of_decide_eq_true (by kernel_rfl)) k3 bel lt3) trodAll_mk0)))), rfl, bel.frame _, fun h => by cases h⟩
set_option maxHeartbeats 8000000 in
theorem closedFacts : joinedFacts Try.checked.prog 18 Try.f18 Rows.packMoreSpec Rows.packMoreRow = true := by
 unfold joinedFacts
 repeat' (with_reducible (apply row0.and_mk))
 all_goals first | (with_reducible exact row0.mayEnter) | (rw [row0.liftsFinal]; kernel_rfl) | (rw [row0.make]; kernel_rfl) | (as_aux_lemma => kernel_rfl)
theorem over : Rows.packMoreRow.holds Try.pinned (OpenSpec.ofChange Rows.packMoreSpec) :=
 OpenClaim.holds_of_wide 18 Try.f18 rfl rfl rfl rfl rfl rfl rfl ⟨rfl, rfl, rfl, rfl, rfl⟩ rfl rfl rfl rfl rfl (by kernel_rfl) Try.func18 closedFacts
  (of_decide_eq_true (by kernel_rfl)) (by unfold Func.isWrapper; first | (rw [if_pos (by decide +kernel)]; kernel_rfl) | (rw [if_neg (by decide +kernel)]; exact ⟨rfl, rfl⟩))
  (fun os started H enc _ => lifted os started H enc)
theorem proved : Rows.PackMoreSaid := over
#print axioms proved
end Go.Proofs.Ytckhjehibjdjdaa.packMore
namespace Go.Proofs.Ytckhjehibjdjdaa
theorem packMore_holds : Rows.PackMoreSaid := packMore.proved
end Go.Proofs.Ytckhjehibjdjdaa
