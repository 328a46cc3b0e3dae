/- ElasticMost: part 5 of the walk and of the plain law that it comes to. No condition. -/
import Derived.Test.YtckhjehibjdjdaaZElasticMost4
import Derived.ArgAppend
import Derived.Below
import Derived.BigQuiet
import Derived.BigRegion
import Derived.Carry
import Derived.ChangeOld
import Derived.Deep.AppendLies
import Derived.Deep.CutBlock
import Derived.Deep.DeepCutAuto
import Derived.Deep.Draws
import Derived.Deep.LoopGhost
import Derived.Deep.OwnRows
import Derived.Deep.QuietTactic
import Derived.Deep.RegionHeld3
import Derived.Deep.Slices
import Derived.DeepKeys3
import Derived.KernelRfl
import Derived.Laws.Bits64
import Derived.Laws.Bits64b
import Derived.Laws.BitsLemmas
import Derived.Laws.BytesArg
import Derived.Laws.Externs
import Derived.Laws.IdiomCopy
import Derived.Laws.MakeOwn
import Derived.Laws.OwnMore
import Derived.Laws.Rows
import Derived.Laws.Slices
import Derived.Lib.AppendStr
import Derived.Lib.ConvBytes
import Derived.Lib.ReflectliteSlice
import Derived.Lib.ReflectliteSwap
import Derived.Lib.SliceRun
import Derived.LoopIn
import Derived.LoopN
import Derived.LoopNIn
import Derived.Maps.AppendAt
import Derived.Maps.Keyed
import Derived.Maps.Own
import Derived.Maps.OwnOps
import Derived.Maps.OwnSet
import Derived.Maps.Views
import Derived.OpenShut
import Derived.OrdersHeld
import Derived.Outline
import Derived.OwnWalk
import Derived.OwnWalkIn
import Derived.ProofKit
import Derived.RangeFuncBound
import Derived.RangeFuncBox
import Derived.RangeFuncCalls
import Derived.RangeFuncFrom
import Derived.RangeFuncLeaves
import Derived.RangeFuncNested
import Derived.RowKit
import Derived.RowKit3
import Derived.Shelf.Abstract
import Derived.Shelf.RegionOpen
import Derived.ShutString
import Derived.SizedLaws
import Derived.StillTailTactics
import Derived.Tactics
import Derived.TacticsInMore
import Derived.WalkKit
import Derived.WideLaws
namespace Go.Proofs.Ytckhjehibjdjdaa.P
open Go.RowKit Go.Proofs.YtckhjehibjdjdaaW.PrintWords Go.Proofs.YtckhjehibjdjdaaW.PrintLast Go.Proofs.YtckhjehibjdjdaaW.PrintMore
attribute [local go_sem] max2_int min2_int max_two min_two max_three min_three max_four min_four
set_option linter.unusedVariables false
set_option linter.unusedSimpArgs false
def ensembleref13_After.T7 : Bool × List (List Nat × List Nat) := (true, [([], []), ([], []), ([], []), ([], []), ([], []), ([3, 4], [3, 4]), ([], []), ([6], [6]), ([5, 7, 5], [5, 7]), ([], []), ([0, 1, 2, 8, 9, 8], [0, 1, 2, 8, 9]), ([10], [10]), ([10], [10]), ([11, 10, 0, 1, 2, 3, 4, 5, 6, 7, 8, 9, 10, 11, 12], [11]), ([12, 13, 0, 1, 2, 3, 4, 5, 6, 7, 8, 9, 10, 11, 12, 13], [12])])
def ensembleref13_After.B7 : List Nat := [0, 0, 0, 0, 0, 24, 0, 64, 248, 0, 1023, 2047, 2047, 8191, 16383]
theorem ensembleref13_After.bits7 : waitsOk ensembleref13_After.T7.2 ensembleref13_After.B7 = true := by kernel_rfl
end Go.Proofs.Ytckhjehibjdjdaa.P
namespace Go.Proofs.Ytckhjehibjdjdaa.P
open Go.RowKit Go.Proofs.YtckhjehibjdjdaaW.PrintWords Go.Proofs.YtckhjehibjdjdaaW.PrintLast Go.Proofs.YtckhjehibjdjdaaW.PrintMore
attribute [local go_sem] max2_int min2_int max_two min_two max_three min_three max_four min_four
set_option linter.unusedVariables false
set_option linter.unusedSimpArgs false
end Go.Proofs.Ytckhjehibjdjdaa.P
namespace Go.Proofs.Ytckhjehibjdjdaa.P
open Go.RowKit Go.Proofs.YtckhjehibjdjdaaW.PrintWords Go.Proofs.YtckhjehibjdjdaaW.PrintLast Go.Proofs.YtckhjehibjdjdaaW.PrintMore
attribute [local go_sem] max2_int min2_int max_two min_two max_three min_three max_four min_four
set_option linter.unusedVariables false
set_option linter.unusedSimpArgs false
end Go.Proofs.Ytckhjehibjdjdaa.P
namespace Go.Proofs.Ytckhjehibjdjdaa.P
open Go.RowKit Go.Proofs.YtckhjehibjdjdaaW.PrintWords Go.Proofs.YtckhjehibjdjdaaW.PrintLast Go.Proofs.YtckhjehibjdjdaaW.PrintMore
attribute [local go_sem] max2_int min2_int max_two min_two max_three min_three max_four min_four
set_option linter.unusedVariables false
set_option linter.unusedSimpArgs false
end Go.Proofs.Ytckhjehibjdjdaa.P
namespace Go.Proofs.Ytckhjehibjdjdaa.P
open Go.RowKit Go.Proofs.YtckhjehibjdjdaaW.PrintWords Go.Proofs.YtckhjehibjdjdaaW.PrintLast Go.Proofs.YtckhjehibjdjdaaW.PrintMore
open Go.Proofs.Ytckhjehibjdjdaa.Bits Go.Proofs.Ytckhjehibjdjdaa.Mp
set_option linter.unusedVariables false
set_option linter.unusedSimpArgs false
theorem lessE_iff {f : S51} {s : S52} (hf : freeOk f = true) (hs : maskOk s = true) : lessE f s = 0 ↔ s.f1.toNat &&& f.f1.toNat = s.f1.toNat ∧ s.f2 ≤ f.f2 := by
 have h1 := freeOk_out hf
 have h2 := maskOk_out hs
 have hand : Go.bits .andNot .u64 s.f1 f.f1 = ((s.f1.toNat - (s.f1.toNat &&& f.f1.toNat) : Nat) : Int) := by
  have := andNot_nat s.f1.toNat f.f1.toNat (by omega) (by omega)
  rw [Int.toNat_of_nonneg h2.1, Int.toNat_of_nonneg h1.1.1] at this
  exact this
 have hle : s.f1.toNat &&& f.f1.toNat ≤ s.f1.toNat := Nat.and_le_left
 unfold lessE
 rw [hand]
 by_cases h3 : s.f1.toNat &&& f.f1.toNat = s.f1.toNat
 ·rw [if_neg (by omega)]
  by_cases h4 : s.f2 > f.f2
  ·rw [if_pos h4]; constructor
   ·intro x; cases x
   ·intro x; omega
  ·rw [if_neg h4]; exact ⟨fun _ => ⟨h3, by omega⟩, fun _ => rfl⟩
 ·rw [if_pos (by omega)]; constructor
  ·intro x; cases x
  ·intro x; exact absurd x.1 h3
theorem andNot_bv (a b : Int) : Go.bits .andNot .u64 a b = ((BitVec.ofInt 64 a &&& ~~~ BitVec.ofInt 64 b).toNat : Int) := by
 show IntKind.u64.wrap ((BitVec.ofInt 64 a &&& ~~~ BitVec.ofInt 64 b).toNat : Int) = _
 rw [wrapN, Nat.mod_eq_of_lt (BitVec.isLt _)]
theorem bv_of {a : Int} (h : 0 ≤ a ∧ a < 18446744073709551616) : ((BitVec.ofInt 64 a).toNat : Int) = a := by
 obtain ⟨x, rfl⟩ := Int.eq_ofNat_of_zero_le h.1
 rw [BitVec.ofInt_natCast, BitVec.toNat_ofNat, Nat.mod_eq_of_lt (by omega)]
theorem and_bv {a b : Int} (ha : 0 ≤ a ∧ a < 18446744073709551616) (hb : 0 ≤ b ∧ b < 18446744073709551616) : (BitVec.ofInt 64 a &&& BitVec.ofInt 64 b).toNat = a.toNat &&& b.toNat := by
 rw [BitVec.toNat_and]
 have h1 := bv_of ha
 have h2 := bv_of hb
 rw [show (BitVec.ofInt 64 a).toNat = a.toNat by omega, show (BitVec.ofInt 64 b).toNat = b.toNat by omega]
theorem back_one {f : S51} {s : S52} (hf : freeOk f = true) (hc : cpOk f) (hs : maskOk s = true) (h0 : 0 ≤ s.f2) (h : lessE f s = 0) :
  moreE (lessF f s) s = 0 ∧ moreF (lessF f s) s = f ∧ freeOk (lessF f s) = true ∧ cpOk (lessF f s) := by
 have h1 := freeOk_out hf
 have h2 := maskOk_out hs
 obtain ⟨h3, h4⟩ := (lessE_iff hf hs).1 h
 have hb := hc
 unfold cpOk at hb
 have e2 : (lessF f s).f2 = f.f2 - s.f2 := by unfold lessF; exact w_id (by omega)
 have hok := lessF_ok hf hs
 have hco : cpOk (lessF f s) := by unfold cpOk; omega
 have hsub : BitVec.ofInt 64 s.f1 &&& BitVec.ofInt 64 f.f1 = BitVec.ofInt 64 s.f1 := by
  apply BitVec.eq_of_toNat_eq
  rw [and_bv h2 h1.1, h3]
  have := bv_of h2
  omega
 have e1 : (lessF f s).f1 = Go.bits .andNot .u64 f.f1 s.f1 := rfl
 have hA := andNot_bv f.f1 s.f1
 generalize hF : BitVec.ofInt 64 f.f1 = F at *
 generalize hS : BitVec.ofInt 64 s.f1 = S at *
 have hL : BitVec.ofInt 64 (lessF f s).f1 = F &&& ~~~ S := by rw [e1, hA, ofInt_toNat]
 have hd : disj s.f1 (lessF f s).f1 := by
  unfold disj
  rw [← and_bv h2 (freeOk_out hok).1, hS, hL]
  have : S &&& (F &&& ~~~S) = 0#64 := by ext i; simp; intro h _; exact h
  rw [this]; rfl
 refine ⟨(moreE_iff hok hco hs h0).2 ⟨hd, by omega⟩, ?_, hok, hco⟩
 have hor : Go.bits .or .u64 (lessF f s).f1 s.f1 = f.f1 := by
  rw [bits_or_bv, hL, hS]
  have : F &&& ~~~S ||| S = F := by
   ext i hi
   have := congrArg (fun x => x[i]) hsub
   simp only [BitVec.getElem_and] at this
   simp only [BitVec.getElem_or, BitVec.getElem_and, BitVec.getElem_not]
   cases h5 : S[i] <;> cases h6 : F[i] <;> simp_all
  rw [this, ← hF]
  exact bv_of h1.1
 have h6 : wrap64 ((lessF f s).f2 + s.f2) = f.f2 := by rw [e2, w_id (by omega)]; omega
 show (⟨f.f0, Go.bits .or .u64 (lessF f s).f1 s.f1, wrap64 ((lessF f s).f2 + s.f2)⟩ : S51) = f
 rw [hor, h6]
theorem find_at {view : List S51} (hn : (view.map spot).Nodup) {s : S52} {p : Nat} (hp : p < view.length) (hs : spot view[p] = sspot s) : findI view s.f0.f0 s.f0.f1 = (p : Int) := by
 have hin : ¬ findI view s.f0.f0 s.f0.f1 < 0 := fun h => findI_neg.1 h (List.mem_map.2 ⟨view[p], List.getElem_mem hp, hs⟩)
 obtain ⟨q, hq⟩ := Int.eq_ofNat_of_zero_le (show 0 ≤ findI view s.f0.f0 s.f0.f1 by omega)
 obtain ⟨hql, hqs, _, _⟩ := set_step hn hq
 have hn' := List.pairwise_iff_getElem.1 hn
 rw [hq]
 rcases Nat.lt_trichotomy p q with h | h | h
 ·exact absurd (by rw [List.getElem_map, List.getElem_map, hs, hqs]) (hn' p q (by simpa using hp) (by simpa using hql) h)
 ·rw [h]
 ·exact absurd (by rw [List.getElem_map, List.getElem_map, hs, hqs]) (hn' q p (by simpa using hql) (by simpa using hp) h)
theorem turnF_one {E : S51 → S52 → Int} {F : S51 → S52 → S51} {view : List S51} (hn : (view.map spot).Nodup) {s : S52} {p : Nat} (hp : p < view.length) (hs : spot view[p] = sspot s) (h0 : 0 ≤ s.f2) (hE : E view[p] s = 0) :
  turnF E F view [s] = (view.set p (F view[p] s), 0) := by
 rw [turnF, if_neg (by omega), find_at hn hp hs, if_neg (by omega), rd51' view p hp, if_pos hE, Int.toNat_natCast, turnF]
theorem less_back : ∀ (slots : List S52) (view : List S51), View view → (∀ s ∈ slots, maskOk s = true) → (turnF lessE lessF view slots).2 = 0 →
  View (turnF lessE lessF view slots).1 ∧ (turnF lessE lessF view slots).1.map spot = view.map spot ∧ cpMax slots ∧ turnF moreE moreF (turnF lessE lessF view slots).1 slots.reverse = (view, 0)
 | [], view, V, _, _ => ⟨V, rfl, by simp [cpMax], rfl⟩
 | s :: ss, view, V, hm, h => by
  have hms := hm s (by simp)
  rw [turnF] at h ⊢
  by_cases h1 : s.f2 < 0
  ·rw [if_pos h1] at h; cases h
  rw [if_neg h1] at h ⊢
  by_cases h2 : findI view s.f0.f0 s.f0.f1 < 0
  ·rw [if_pos h2] at h; cases h
  rw [if_neg h2] at h ⊢
  obtain ⟨p, hp⟩ := Int.eq_ofNat_of_zero_le (show 0 ≤ findI view s.f0.f0 s.f0.f1 by omega)
  obtain ⟨hpl, hps, _, _⟩ := set_step V.right.2 hp
  rw [hp, Int.toNat_natCast, rd51' view p hpl] at h ⊢
  have hfp := V.free _ (List.getElem_mem hpl)
  have hcp := V.right.1 _ (List.getElem_mem hpl)
  by_cases h3 : lessE view[p] s = 0
  ·rw [if_pos h3] at h ⊢
   obtain ⟨b1, b2, b3, b4⟩ := back_one hfp hcp hms (by omega) h3
   have sp : (view.set p (lessF view[p] s)).map spot = view.map spot := spots_set (fun hk => rfl)
   have V' : View (view.set p (lessF view[p] s)) := ⟨⟨set_all V.right.1 b4, by rw [sp]; exact V.right.2⟩, set_all V.free b3⟩
   obtain ⟨i1, i2, i3, i4⟩ := less_back ss _ V' (fun x hx => hm x (by simp [hx])) h
   refine ⟨i1, i2.trans sp, fun x hx => ?_, ?_⟩
   ·rcases List.mem_cons.1 hx with rfl | hx
    ·have := ((lessE_iff hfp hms).1 h3).2
     unfold cpOk at hcp
     exact ⟨by omega, by omega⟩
    ·exact i3 x hx
   ·have hl : p < (view.set p (lessF view[p] s)).length := by rw [List.length_set]; exact hpl
    have eg : (view.set p (lessF view[p] s))[p] = lessF view[p] s := List.getElem_set_self _
    rw [List.reverse_cons, turnF_append _ _ _ (by rw [i4]), i4]
    simp only
    rw [turnF_one V'.right.2 hl (by rw [eg]; exact hps) (by omega) (by rw [eg]; exact b1), eg, b2, List.set_set, List.set_getElem_self]
  ·rw [if_neg h3] at h; exact absurd h h3
structure Base (view : List S51) (ends : List S41) : Prop where
 V : View view
 I : Inp view ends
 vo : viewOk view
 so : ∀ s ∈ slotsOf ends, (w64B s.f0.f0 && w64B s.f0.f1) = true
 el : ends.length ≤ 1000
 sl : (slotsOf ends).length ≤ 1000000
theorem Setup.base {view : List S51} {lg lc : Int} {ends : List S41} (S : Setup view lg lc ends) : Base view ends :=
 ⟨S.V, S.I, S.vo, S.so, Nat.le_trans S.el (by decide), by
  have h1 := slots_len S.hl
  have h2 : 20 * ends.length ≤ 20 * 20 := Nat.mul_le_mul_left 20 S.el
  omega⟩
theorem Base.early {view : List S51} {ends : List S41} (B : Base view ends) {lg lc : Int} (L : I64P (lg, lc)) (now q m g c mn mx : Int) :
  promise_Earliest.f now view lg lc ends q m g c mn mx = some (refEarly now view lg lc ends q m g c mn mx) := by
 unfold promise_Earliest.f
 rw [if_pos (okE_mk B.vo B.el B.I.sm B.so B.I.es), early_ref B.V B.I L]
structure HoldOk (h : S41) : Prop where
 mo : ∀ s ∈ h.f4, maskOk s = true
 sp : ∀ s ∈ h.f4, (w64B s.f0.f0 && w64B s.f0.f1) = true
 ln : h.f4.length ≤ 20
theorem slotsOf_snoc (ends : List S41) (h : S41) : slotsOf (ends ++ [h]) = slotsOf ends ++ h.f4 := by rw [slotsOf_append]; simp [slotsOf]
theorem Base.less {view : List S51} {ends : List S41} (B : Base view ends) {h : S41} (H : HoldOk h) (hok : (turnF lessE lessF view h.f4).2 = 0) (el : ends.length < 500) (sl : (slotsOf ends).length ≤ 100000) :
  Base (turnF lessE lessF view h.f4).1 (ends ++ [h]) := by
 obtain ⟨VL, hsp, _, _⟩ := less_back h.f4 view B.V H.mo hok
 have hlen : (turnF lessE lessF view h.f4).1.length = view.length := by
  have := congrArg List.length hsp
  simpa using this
 have hs : ∀ s ∈ slotsOf (ends ++ [h]), s ∈ slotsOf ends ∨ s ∈ h.f4 := fun s hs => by rw [slotsOf_snoc] at hs; exact List.mem_append.1 hs
 have hl : (slotsOf (ends ++ [h])).length ≤ 100020 := by rw [slotsOf_snoc, List.length_append]; have := H.ln; omega
 refine ⟨VL, ⟨by rw [hlen]; exact B.I.vl, VL.free, by simp; omega, by omega, fun s h1 => (hs s h1).elim (B.I.sm s) (H.mo s)⟩, ⟨by rw [hlen]; exact B.vo.1, VL.free, fun f hf => ?_⟩,
  fun s h1 => (hs s h1).elim (B.so s) (H.sp s), by simp; omega, by omega⟩
 have : spot f ∈ view.map spot := by rw [← hsp]; exact List.mem_map_of_mem hf
 obtain ⟨f', hf', e⟩ := List.mem_map.1 this
 have h1 := B.vo.2.2 f' hf'
 unfold spot at e
 injection e with e1 e2
 rw [← e1, ← e2]; exact h1
theorem subL_eq : ∀ (l : List S52) (a : Int × Int), I64P a → subL a l = (wrap64 (a.1 - popS l), wrap64 (a.2 - cpS l))
 | [], a, h => by
  unfold I64P at h
  have e1 : wrap64 (a.1 - popS []) = a.1 := by rw [show popS [] = 0 from rfl, Int.sub_zero]; exact w_id (by omega)
  have e2 : wrap64 (a.2 - cpS []) = a.2 := by rw [show cpS [] = 0 from rfl, Int.sub_zero]; exact w_id (by omega)
  rw [e1, e2]; rfl
 | s :: l, a, h => by
  have e : subL a (s :: l) = subL (subU a s) l := rfl
  rw [e, subL_eq l _ ⟨wrap_bd _, wrap_bd _⟩, popS_cons, cpS_cons]
  unfold subU
  simp only
  have e3 : ∀ x y z : Int, wrap64 (wrap64 (x - y) - z) = wrap64 (x - (y + z)) := fun x y z => by unfold wrap64; omega
  rw [e3, e3]
def aftL (q lg : Int) (hq : Int) (n : Int) : Int := if hq = q then wrap64 (lg - n) else lg
def afterB (now : Int) (view : List S51) (lg lc : Int) (ends : List S41) (q m g c mn mx : Int) (h : S41) : Int × Int :=
 if (turnF lessE lessF view h.f4).2 = 0 then refEarly now (turnF lessE lessF view h.f4).1 (aftL q lg h.f1 (popS h.f4)) (aftL q lc h.f1 (cpS h.f4)) (ends ++ [h]) q m g c mn mx else (0, (turnF lessE lessF view h.f4).2)
theorem aftL_I64 {q lg lc : Int} (L : I64P (lg, lc)) (a b d : Int) : I64P (aftL q lg a b, aftL q lc a d) := by
 unfold I64P at L
 unfold I64P aftL
 split
 ·exact ⟨wrap_bd _, wrap_bd _⟩
 ·exact L
theorem Base.after {view : List S51} {ends : List S41} (B : Base view ends) {lg lc : Int} (L : I64P (lg, lc)) {h0 h1 h2 : Int} {h3 : Bool} {h4 : List S52} (H : HoldOk ⟨h0, h1, h2, h3, h4⟩) (el : ends.length < 500) (sl : (slotsOf ends).length ≤ 100000) (now q m g c mn mx : Int) :
  fill_After.f now view lg lc ends q m g c mn mx h0 h1 h2 h3 h4 = some (afterB now view lg lc ends q m g c mn mx ⟨h0, h1, h2, h3, h4⟩) := by
 have e1 : pack_Less.f view h4 = some (turnF lessE lessF view h4) := by
  unfold pack_Less.f spotsOk
  have a1 : view.all (fun f => w64B f.f0.f0 && w64B f.f0.f1) = true := List.all_eq_true.2 B.vo.2.2
  have a2 : h4.all (fun f => w64B f.f0.f0 && w64B f.f0.f1) = true := List.all_eq_true.2 H.sp
  rw [decide_eq_true B.vo.1, a1, a2, if_pos (by rfl), turned51_find (F := lessF) (fun _ _ => rfl) B.V.right.2]
 have hln : h4.length ≤ 20 := H.ln
 have e2 : fill_take.f lg lc h4 = some (wrap64 (lg - popS h4), wrap64 (lc - cpS h4)) := by
  unfold fill_take.f maskAll
  have a1 : h4.all maskOk = true := List.all_eq_true.2 H.mo
  rw [a1, decide_eq_true (by omega), if_pos (by rfl), subL_eq h4 _ L]
 have e3 : api_Hold.f ends = some ends := by unfold api_Hold.f; rw [if_pos (by omega)]
 unfold fill_After.f afterB
 rw [e1, Option.bind_some]
 by_cases hz : (turnF lessE lessF view h4).2 = 0
 ·have B' := B.less H hz el sl
  have L' := aftL_I64 (q := q) L h1 (popS h4) (cpS h4)
  have E := B'.early L' now q m g c mn mx
  rw [if_pos hz, if_pos hz]
  by_cases hq : h1 = q
  ·rw [if_pos hq, e2, Option.bind_some, e3, Option.bind_some, Option.bind_some, if_pos (by simp; omega)]
   unfold aftL at E ⊢
   simp only at E ⊢
   rw [if_pos hq, if_pos hq] at E ⊢
   rw [E]; rfl
  ·rw [if_neg hq, e3, Option.bind_some, Option.bind_some, if_pos (by simp; omega)]
   unfold aftL at E ⊢
   simp only at E ⊢
   rw [if_neg hq, if_neg hq] at E ⊢
   rw [E]; rfl
 ·rw [if_neg hz, if_neg hz]
end Go.Proofs.Ytckhjehibjdjdaa.P
namespace Go.Proofs.Ytckhjehibjdjdaa.P
open Go.RowKit Go.Proofs.YtckhjehibjdjdaaW.PrintWords Go.Proofs.YtckhjehibjdjdaaW.PrintLast Go.Proofs.YtckhjehibjdjdaaW.PrintMore
attribute [local go_sem] max2_int min2_int max_two min_two max_three min_three max_four min_four
set_option linter.unusedVariables false
set_option linter.unusedSimpArgs false
theorem eqA52 (d : Nat) (w : World) (x0 y0 : Int) (x1 y1 : Int) (x2 y2 : Int) (x3 y3 : Int) :
  (Op.equalIn (d + 3) 52 (.agg #[.int .i64 x0, .int .i64 x1, .int .u64 x2, .int .i64 x3]) (.agg #[.int .i64 y0, .int .i64 y1, .int .u64 y2, .int .i64 y3])).run Try.prog w = .ok ((x0 == y0 && (x1 == y1)) && (x2 == y2 && (x3 == y3))) w := by
 refine eqA_of Try.underlying52 (by kernel_rfl) ?_
 refine eqf_cons (by rfl) (by go_simp) (by go_simp) (eqA48 (d + 0) w _ _ _ _) ?_
 refine eqf_cons (by rfl) (by go_simp; rfl) (by go_simp; rfl) (by go_simp) ?_
 exact eqf_last (by rfl) (by go_simp; rfl) (by go_simp; rfl) (by go_simp)
end Go.Proofs.Ytckhjehibjdjdaa.P
namespace Go.Proofs.Ytckhjehibjdjdaa.P
open Go.RowKit Go.Proofs.YtckhjehibjdjdaaW.PrintWords Go.Proofs.YtckhjehibjdjdaaW.PrintLast Go.Proofs.YtckhjehibjdjdaaW.PrintMore
attribute [local go_sem] max2_int min2_int max_two min_two max_three min_three max_four min_four
set_option linter.unusedVariables false
set_option linter.unusedSimpArgs false
attribute [local go_sem high] eqA52
end Go.Proofs.Ytckhjehibjdjdaa.P
namespace Go.Proofs.Ytckhjehibjdjdaa.P
open Go.RowKit Go.Proofs.YtckhjehibjdjdaaW.PrintWords Go.Proofs.YtckhjehibjdjdaaW.PrintLast Go.Proofs.YtckhjehibjdjdaaW.PrintMore
attribute [local go_sem] max2_int min2_int max_two min_two max_three min_three max_four min_four
set_option linter.unusedVariables false
set_option linter.unusedSimpArgs false
attribute [local go_sem high] eqA52
end Go.Proofs.Ytckhjehibjdjdaa.P
namespace Go.Proofs.Ytckhjehibjdjdaa.P
open Go.RowKit Go.Proofs.YtckhjehibjdjdaaW.PrintWords Go.Proofs.YtckhjehibjdjdaaW.PrintLast Go.Proofs.YtckhjehibjdjdaaW.PrintMore
attribute [local go_sem] max2_int min2_int max_two min_two max_three min_three max_four min_four
set_option linter.unusedVariables false
set_option linter.unusedSimpArgs false
end Go.Proofs.Ytckhjehibjdjdaa.P
namespace Go.Proofs.Ytckhjehibjdjdaa.P
open Go.RowKit Go.Proofs.YtckhjehibjdjdaaW.PrintWords Go.Proofs.YtckhjehibjdjdaaW.PrintLast Go.Proofs.YtckhjehibjdjdaaW.PrintMore
open Go.Proofs.Ytckhjehibjdjdaa.Bits Go.Proofs.Ytckhjehibjdjdaa.Mp
set_option linter.unusedVariables false
set_option linter.unusedSimpArgs false
theorem low_and (M n : Nat) : lowN M n &&& M = lowN M n := by
 apply Nat.eq_of_testBit_eq
 intro j
 rw [Nat.testBit_and]
 by_cases h : j ∈ (pos M).take n
 ·rw [(mem_pos.1 (List.mem_of_mem_take h)).2, Bool.and_true]
 ·have : (lowN M n).testBit j = false := by unfold lowN; rw [testBit_orAll]; simpa using h
  rw [this]; rfl
theorem lowI_bd (m n : Int) : 0 ≤ lowI m n ∧ lowI m n < 18446744073709551616 := by
 have := lowN_lt m.toNat n.toNat
 unfold lowI; omega
theorem low_sub {m g : Int} (hm : 0 ≤ m ∧ m < 18446744073709551616) : Go.bits .andNot .u64 m (lowI m g) = m - lowI m g := by
 obtain ⟨M, rfl⟩ := Int.eq_ofNat_of_zero_le hm.1
 have h1 := low_le M g.toNat (by omega)
 have e : lowI (M : Int) g = ((lowN M g.toNat : Nat) : Int) := rfl
 rw [e, andNot_nat M (lowN M g.toNat) (by omega) (by omega), Nat.and_comm, low_and]
 omega
def kap (s0 s1 : Int) (f : S51) : Int := min (eachI (popI f.f1) s0) (eachI f.f2 s1)
def spotOk (f : S51) : Prop := freeOk f = true ∧ cpOk f
section
variable {s0 s1 s2 s3 : Int} (hg : goodShape s0 s1 s2 s3 = true)
include hg
theorem fit_kap {f : S51} (hf : spotOk f) : fitV s0 s1 s2 s3 f.f1 f.f2 = min 16 (kap s0 s1 f) := by
 unfold fitV fitN kap
 rw [if_pos ⟨hg, hf.2.1⟩]
theorem kap_ge {f : S51} (hf : spotOk f) (h : 1 ≤ kap s0 s1 f) : s0 ≤ popI f.f1 ∧ s1 ≤ f.f2 := by
 have hb := good_out0 hg
 have h1 : 1 ≤ eachI (popI f.f1) s0 := by unfold kap at h; omega
 have h2 : 1 ≤ eachI f.f2 s1 := by unfold kap at h; omega
 have e : ∀ a b : Int, 0 ≤ a → 0 ≤ b → 1 ≤ eachI a b → b ≤ a := fun a b ha hb hx => by
  unfold eachI at hx
  by_cases hz : b = 0
  ·omega
  ·rw [if_neg hz] at hx
   have := (Int.le_ediv_iff_mul_le (c := b) (by omega)).1 hx
   omega
 exact ⟨e _ _ (popI_bd _).1 hb.1 h1, e _ _ hf.2.1 hb.2.2.1 h2⟩
theorem left_eq {f : S51} (hf : spotOk f) (h : 1 ≤ kap s0 s1 f) : leftF s0 s1 f = ⟨f.f0, f.f1 - lowI f.f1 s0, f.f2 - s1⟩ := by
 have hb := good_out0 hg
 have h1 := kap_ge hg hf h
 have h2 := hf.2
 unfold cpOk at h2
 unfold leftF
 rw [low_sub (freeOk_out hf.1).1, w_id (by omega)]
theorem left_ok {f : S51} (hf : spotOk f) (h : 1 ≤ kap s0 s1 f) : spotOk (leftF s0 s1 f) := by
 have hb := good_out0 hg
 have h1 := kap_ge hg hf h
 have h2 := hf.2
 refine ⟨leftF_ok s0 s1 hf.1, ?_⟩
 rw [left_eq hg hf h]
 unfold cpOk at h2 ⊢
 simp only
 omega
theorem kap_left {f : S51} (hf : spotOk f) (h : 1 ≤ kap s0 s1 f) (n : Nat) (h0 : 1 ≤ n) (hn : n ≤ 16) : min (n : Int) (kap s0 s1 f) = 1 + min ((n : Int) - 1) (kap s0 s1 (leftF s0 s1 f)) := by
 have hb := good_out0 hg
 have h1 := kap_ge hg hf h
 have h2 := hf.2
 unfold cpOk at h2
 have hs := pop_sub f.f1 s0 (freeOk_out hf.1).1 hb.1 h1.1
 have A := each_sub (popI f.f1) s0 hb.1 h1.1 (16 - n) (by omega) (eachI f.f2 s1)
 have B := each_sub f.f2 s1 hb.2.2.1 h1.2 (16 - n) (by omega) (eachI (popI f.f1 - s0) s0 + 1)
 rw [left_eq hg hf h]
 unfold kap
 simp only
 rw [hs.1]
 omega
theorem kap_left_le {f : S51} (hf : spotOk f) (h : 1 ≤ kap s0 s1 f) : fitV s0 s1 s2 s3 (leftF s0 s1 f).f1 (leftF s0 s1 f).f2 ≤ fitV s0 s1 s2 s3 f.f1 f.f2 ∧ fitV s0 s1 s2 s3 f.f1 f.f2 ≤ fitV s0 s1 s2 s3 (leftF s0 s1 f).f1 (leftF s0 s1 f).f2 + 1 := by
 have hb := good_out0 hg
 have h1 := kap_ge hg hf h
 have h2 := hf.2
 unfold cpOk at h2
 have hs := pop_sub f.f1 s0 (freeOk_out hf.1).1 hb.1 h1.1
 have h3 := kap_left hg hf h 16 (by omega) (by omega)
 have e1 : kap s0 s1 (leftF s0 s1 f) ≤ kap s0 s1 f := by
  rw [left_eq hg hf h]
  unfold kap
  simp only
  rw [hs.1]
  have a1 := eachI_mono hb.1 (show popI f.f1 - s0 ≤ popI f.f1 by omega)
  have a2 := eachI_mono hb.2.2.1 (show f.f2 - s1 ≤ f.f2 by omega)
  omega
 rw [fit_kap hg hf, fit_kap hg (left_ok hg hf h)]
 omega
end
def pcs (s0 s1 : Int) : Nat → S51 → List S52
 | 0, _ => []
 | n + 1, f => pieceL s0 s1 f :: pcs s0 s1 n (leftF s0 s1 f)
theorem pcs_len (s0 s1 : Int) : ∀ (n : Nat) (f : S51), (pcs s0 s1 n f).length = n
 | 0, _ => rfl
 | n + 1, f => by rw [pcs, List.length_cons, pcs_len]
theorem pcs_take (s0 s1 : Int) : ∀ (n r : Nat) (f : S51), (pcs s0 s1 n f).take r = pcs s0 s1 (min r n) f
 | 0, r, f => by rw [Nat.min_zero]; simp [pcs]
 | n + 1, 0, f => by rw [Nat.zero_min]; rfl
 | n + 1, r + 1, f => by
  rw [show min (r + 1) (n + 1) = min r n + 1 by omega, pcs, pcs, List.take_succ_cons, pcs_take s0 s1 n r]
theorem pcs_spot (s0 s1 : Int) : ∀ (n : Nat) (f : S51), ∀ s ∈ pcs s0 s1 n f, s.f0 = f.f0 ∧ maskOk s = true
 | 0, _, s, h => by cases h
 | n + 1, f, s, h => by
  rw [pcs, List.mem_cons] at h
  rcases h with rfl | h
  ·refine ⟨rfl, ?_⟩
   have := lowI_bd f.f1 s0
   unfold maskOk pieceL
   rw [decide_eq_true this.1, decide_eq_true this.2]; rfl
  ·have := pcs_spot s0 s1 n (leftF s0 s1 f) s h
   exact this
def fitT (s0 s1 s2 s3 : Int) (f : S51) : Nat := (fitV s0 s1 s2 s3 f.f1 f.f2).toNat
theorem fitT_eq (s0 s1 s2 s3 : Int) (f : S51) : ((fitT s0 s1 s2 s3 f : Nat) : Int) = fitV s0 s1 s2 s3 f.f1 f.f2 := by
 have := fitV_bd s0 s1 s2 s3 f.f1 f.f2
 unfold fitT; omega
def flat (s0 s1 s2 s3 : Int) (L : List S51) : List S52 := L.flatMap fun f => pcs s0 s1 (fitT s0 s1 s2 s3 f) f
theorem flat_cons (s0 s1 s2 s3 : Int) (f : S51) (L : List S51) : flat s0 s1 s2 s3 (f :: L) = pcs s0 s1 (fitT s0 s1 s2 s3 f) f ++ flat s0 s1 s2 s3 L := List.flatMap_cons
theorem flat_len (s0 s1 s2 s3 : Int) : ∀ L : List S51, ((flat s0 s1 s2 s3 L).length : Int) = roomS s0 s1 s2 s3 L
 | [] => rfl
 | f :: L => by
  have := flat_len s0 s1 s2 s3 L
  have h2 := fitT_eq s0 s1 s2 s3 f
  rw [flat_cons, List.length_append, pcs_len]
  unfold roomS at *
  rw [List.map_cons, List.sum_cons]
  omega
theorem cut_eq {s0 s1 s2 s3 : Int} (hg : goodShape s0 s1 s2 s3 = true) (m : Nat) (hm : m ≤ 16) : ∀ (k : Nat) (f : S51) (out : List S52), spotOk f → out.length ≤ m → m + 1 ≤ k + out.length →
  cutL s0 s1 s2 s3 m k f out = out ++ pcs s0 s1 (min (m - out.length) (fitT s0 s1 s2 s3 f)) f
 | 0, f, out, _, h1, h2 => by omega
 | k + 1, f, out, hf, h1, h2 => by
  have e1 := fitT_eq s0 s1 s2 s3 f
  have e2 := fit_kap hg hf
  rw [cutL]
  by_cases hc : out.length < m ∧ fitV s0 s1 s2 s3 f.f1 f.f2 ≠ 0
  ·have hb := fitV_bd s0 s1 s2 s3 f.f1 f.f2
   have hk : 1 ≤ kap s0 s1 f := by omega
   rw [if_pos hc, cut_eq hg m hm k _ _ (left_ok hg hf hk) (by simp; omega) (by simp; omega)]
   have e3 := fitT_eq s0 s1 s2 s3 (leftF s0 s1 f)
   have e4 := fit_kap hg (left_ok hg hf hk)
   have e5 := kap_left hg hf hk (m - out.length) (by omega) (by omega)
   have e6 : min (m - out.length) (fitT s0 s1 s2 s3 f) = min (m - (out ++ [pieceL s0 s1 f]).length) (fitT s0 s1 s2 s3 (leftF s0 s1 f)) + 1 := by
    rw [List.length_append]
    simp only [List.length_cons, List.length_nil]
    omega
   rw [e6, pcs, List.append_assoc]; rfl
  ·rw [if_neg hc, show min (m - out.length) (fitT s0 s1 s2 s3 f) = 0 by omega, pcs, List.append_nil]
theorem place_fold {s0 s1 s2 s3 : Int} (hg : goodShape s0 s1 s2 s3 = true) (m : Nat) (hm : m ≤ 16) : ∀ (L : List S51) (out : List S52), (∀ f ∈ L, spotOk f) → out.length ≤ m →
  L.foldl (fun out f => cutL s0 s1 s2 s3 m 17 f out) out = out ++ (flat s0 s1 s2 s3 L).take (m - out.length)
 | [], out, _, _ => by simp [flat]
 | f :: L, out, hL, ho => by
  rw [List.foldl_cons, cut_eq hg m hm 17 f out (hL f (by simp)) ho (by omega), ← pcs_take,
   place_fold hg m hm L _ (fun x hx => hL x (by simp [hx])) (by rw [List.length_append, List.length_take, pcs_len]; omega), flat_cons, List.take_append, List.append_assoc,
   List.length_append, List.length_take, pcs_len]
  congr 3
  omega
theorem placeL_eq {s0 s1 s2 s3 : Int} (hg : goodShape s0 s1 s2 s3 = true) (m : Nat) (hm : m ≤ 16) (L : List S51) (hL : ∀ f ∈ L, spotOk f) : placeL s0 s1 s2 s3 m L = (flat s0 s1 s2 s3 L).take m := by
 have := place_fold hg m hm L [] hL (by simp)
 rw [List.nil_append, List.length_nil, Nat.sub_zero] at this
 exact this
theorem roomS_perm {s0 s1 s2 s3 : Int} {a b : List S51} (h : a.Perm b) : roomS s0 s1 s2 s3 a = roomS s0 s1 s2 s3 b := perm_sum (h.map _)
def placeP (view : List S51) (s0 s1 s2 s3 m : Int) : List S52 × Int :=
 if goodShape s0 s1 s2 s3 = true ∧ 1 ≤ m ∧ m ≤ 16 then
  (if roomS s0 s1 s2 s3 view < m then ([], 7) else ((flat s0 s1 s2 s3 (isort (fkey s0 s1 s2 s3) view)).take m.toNat, 0))
 else ([], 1)
theorem place_P {view : List S51} (hv : ∀ f ∈ view, spotOk f) (s0 s1 s2 s3 m : Int) : placeB view s0 s1 s2 s3 m = placeP view s0 s1 s2 s3 m := by
 unfold placeB placeP
 by_cases h : goodShape s0 s1 s2 s3 = true ∧ 1 ≤ m ∧ m ≤ 16
 ·rw [if_pos h, if_pos h, placeL_eq h.1 m.toNat (by omega) _ (fun f hf => hv f ((isort_perm (fkey s0 s1 s2 s3) view).mem_iff.1 hf))]
  have h1 := flat_len s0 s1 s2 s3 (isort (fkey s0 s1 s2 s3) view)
  rw [roomS_perm (isort_perm (fkey s0 s1 s2 s3) view)] at h1
  by_cases h2 : roomS s0 s1 s2 s3 view < m
  ·rw [if_pos h2, if_pos (by rw [List.length_take]; omega)]
  ·rw [if_neg h2, if_neg (by rw [List.length_take]; omega)]
 ·rw [if_neg h, if_neg h]
theorem placeP_ok {view : List S51} {s0 s1 s2 s3 m : Int} (h : (placeP view s0 s1 s2 s3 m).2 = 0) : goodShape s0 s1 s2 s3 = true ∧ (1 ≤ m ∧ m ≤ 16) ∧ m ≤ roomS s0 s1 s2 s3 view ∧ placeP view s0 s1 s2 s3 m = ((flat s0 s1 s2 s3 (isort (fkey s0 s1 s2 s3) view)).take m.toNat, 0) := by
 unfold placeP at h ⊢
 by_cases h1 : goodShape s0 s1 s2 s3 = true ∧ 1 ≤ m ∧ m ≤ 16
 ·rw [if_pos h1] at h ⊢
  by_cases h2 : roomS s0 s1 s2 s3 view < m
  ·rw [if_pos h2] at h; cases h
  ·rw [if_neg h2]; exact ⟨h1.1, h1.2, by omega, rfl⟩
 ·rw [if_neg h1] at h; cases h
theorem placeP_len {view : List S51} {s0 s1 s2 s3 m : Int} (h : (placeP view s0 s1 s2 s3 m).2 = 0) : ((placeP view s0 s1 s2 s3 m).1.length : Int) = m := by
 obtain ⟨a, b, c, d⟩ := placeP_ok h
 have h1 := flat_len s0 s1 s2 s3 (isort (fkey s0 s1 s2 s3) view)
 rw [roomS_perm (isort_perm (fkey s0 s1 s2 s3) view)] at h1
 rw [d, List.length_take]
 omega
structure Few5 (view : List S51) : Prop where
 V : View view
 ok : ∀ f ∈ view, spotOk f
 len : view.length ≤ 70
 sp : ∀ f ∈ view, (w64B f.f0.f0 && w64B f.f0.f1) = true
theorem few5 {view : List S51} (hw : ∀ y ∈ view, wfd51 y) (hr : viewR view) (hl : view.length ≤ 70) : Few5 view :=
 ⟨⟨hr, fun f hf => (free_of_wf (hw f hf)).1⟩, fun f hf => ⟨(free_of_wf (hw f hf)).1, hr.1 f hf⟩, hl, fun f hf => (free_of_wf (hw f hf)).2⟩
theorem roomS_append (s0 s1 s2 s3 : Int) (a b : List S51) : roomS s0 s1 s2 s3 (a ++ b) = roomS s0 s1 s2 s3 a + roomS s0 s1 s2 s3 b := by
 unfold roomS; rw [List.map_append, List.sum_append]
end Go.Proofs.Ytckhjehibjdjdaa.P
namespace Go.Proofs.Ytckhjehibjdjdaa.P
open Go.RowKit Go.Proofs.YtckhjehibjdjdaaW.PrintWords Go.Proofs.YtckhjehibjdjdaaW.PrintLast Go.Proofs.YtckhjehibjdjdaaW.PrintMore
open Go.Proofs.Ytckhjehibjdjdaa.Bits Go.Proofs.Ytckhjehibjdjdaa.Mp
set_option linter.unusedVariables false
set_option linter.unusedSimpArgs false
theorem awake14 : ensemblelaw14_awake.f = some true := by decide +kernel
theorem rd24' (l : List S24) (i : Nat) (h : i < l.length) : rd_T24 l (i : Int) = l[i] := by
 simp [rd_T24, List.getD_eq_getElem?_getD, List.getElem?_eq_getElem h]
def lbU (u : S24) : Prop := (-1048576 ≤ u.f0 ∧ u.f0 ≤ 1048576) ∧ -1048576 ≤ u.f1 ∧ u.f1 ≤ 1048576
structure FewL (view : List S51) (left : List S24) (ends : List S41) (waits : List S105) (runs : List S149) : Prop where
 ll : left.length ≤ 20
 wl : waits.length ≤ 150
 rl : runs.length ≤ 150
 fp : fewP view 0 0 ends
 lb : ∀ u ∈ left, lbU u
 more : (turnF moreE moreF view (slotsOf ends)).2 = 0
theorem few14_l1 (a0 a1 a2 a3 : Int) (view : List S51) (left : List S24) (ends : List S41) (waits : List S105) (runs : List S149) (wv : ∀ f ∈ view, freeOk f = true) (vl : view.length ≤ 70) (el : ends.length ≤ 20) (sl : (slotsOf ends).length ≤ 400) (sm : ∀ s ∈ slotsOf ends, maskOk s = true) (d : Nat) :
  ∀ i : Nat, i ≤ ends.length → ends.length - i = d → Ev (fun k => ensembleref14_Few.l1 k (slotsOf (ends.take i)) (i : Int) a0 a1 a2 a3 view left ends waits runs) ((turnF moreE moreF view (slotsOf ends)).2 == 0) := by
 induction d with
 | zero =>
  intro i hi hd
  obtain rfl : i = ends.length := by omega
  rw [List.take_length]
  exact Ev.step (fun k => by rw [ensembleref14_Few.l1, if_neg (by omega)]) (Ev.bind (more05_ev view (slotsOf ends) (by omega) sm (by omega) wv) (Ev.now _))
 | succ d ih =>
  intro i hi hd
  have hil : i < ends.length := by omega
  have e1 : wrap64 ((i : Int) + 1) = ((i + 1 : Nat) : Int) := by rw [w_id (by omega)]; omega
  have e2 : slotsOf (ends.take i) ++ (ends[i]).f4 = slotsOf (ends.take (i + 1)) := by
   rw [List.take_succ_eq_append_getElem hil, slotsOf_append]; simp [slotsOf]
  have e3 : (slotsOf (ends.take i)).length + (ends[i]).f4.length < 4398046511104 := by
   have h1 : (slotsOf ends).length = (slotsOf (ends.take (i + 1))).length + (slotsOf (ends.drop (i + 1))).length := by rw [← List.length_append, ← slotsOf_append, List.take_append_drop]
   have h2 := congrArg List.length e2
   rw [List.length_append] at h2
   omega
  exact Ev.step (fun k => by rw [ensembleref14_Few.l1, if_pos (by omega), if_pos (by omega), rd41' ends i hil, if_pos e3, e1, e2]) (ih (i + 1) (by omega) (by omega))
theorem few14_l0 (a0 a1 a2 a3 : Int) (view : List S51) (left : List S24) (ends : List S41) (waits : List S105) (runs : List S149) {b : Bool} (hl : left.length ≤ 20) (h1 : Ev (fun k => ensembleref14_Few.l1 k [] 0 a0 a1 a2 a3 view left ends waits runs) b) (d : Nat) :
  ∀ i : Nat, i ≤ left.length → left.length - i = d → (∀ u ∈ left.take i, lbU u) → (Ev (fun k => ensembleref14_Few.l0 k (i : Int) a0 a1 a2 a3 view left ends waits runs) b ∧ ∀ u ∈ left, lbU u) ∨ Ev (fun k => ensembleref14_Few.l0 k (i : Int) a0 a1 a2 a3 view left ends waits runs) false := by
 induction d with
 | zero =>
  intro i hi hd hc
  obtain rfl : i = left.length := by omega
  rw [List.take_length] at hc
  exact .inl ⟨Ev.step (fun k => by rw [ensembleref14_Few.l0, if_neg (by omega)]) h1, hc⟩
 | succ d ih =>
  intro i hi hd hc
  have hil : i < left.length := by omega
  have e1 : wrap64 ((i : Int) + 1) = ((i + 1 : Nat) : Int) := by rw [w_id (by omega)]; omega
  have st : ∀ b', Ev (fun k => (ensembleref12_Few.f k ([] : List (S51)) (left[i]).f0 (left[i]).f1 ([] : List (S41))).bind fun t => if t = true then ensembleref14_Few.l0 k ((i + 1 : Nat) : Int) a0 a1 a2 a3 view left ends waits runs else some false) b' →
    Ev (fun k => ensembleref14_Few.l0 k (i : Int) a0 a1 a2 a3 view left ends waits runs) b' := fun b' h =>
   Ev.step (fun k => by rw [ensembleref14_Few.l0, if_pos (by omega), if_pos (by omega), rd24' left i hil, e1]) h
  rcases few12_ev [] (left[i]).f0 (left[i]).f1 [] with ⟨hk, hf⟩ | hk
  ·rcases ih (i + 1) (by omega) (by omega) (by
    intro u hu
    rw [List.take_succ_eq_append_getElem hil] at hu
    rcases List.mem_append.1 hu with h | h
    ·exact hc u h
    ·rw [List.mem_singleton.1 h]; exact ⟨hf.2.2.2.1, hf.2.2.2.2.1⟩) with ⟨h2, h3⟩ | h2
   ·exact .inl ⟨st _ (Ev.bind hk (Ev.congr (fun k => by rw [if_pos rfl]) h2)), h3⟩
   ·exact .inr (st _ (Ev.bind hk (Ev.congr (fun k => by rw [if_pos rfl]) h2)))
  ·exact .inr (st _ (Ev.bind hk (Ev.congr (fun k => by rw [if_neg (by decide)]) (Ev.now _))))
theorem few14_ev (a0 a1 a2 a3 : Int) (view : List S51) (left : List S24) (ends : List S41) (waits : List S105) (runs : List S149) (wv : ∀ y ∈ view, wfd51 y) (we : ∀ y ∈ ends, wfd41 y) :
  (Ev (fun k => ensembleref14_Few.f k a0 a1 a2 a3 view left ends waits runs) true ∧ FewL view left ends waits runs) ∨ Ev (fun k => ensembleref14_Few.f k a0 a1 a2 a3 view left ends waits runs) false := by
 have JF : Ev (fun k => ensembleref14_Few.j0 k true a0 a1 a2 a3 view left ends waits runs) false := Ev.step (f := fun _ => some false) (fun k => by rw [ensembleref14_Few.j0, if_pos rfl]) (Ev.now _)
 by_cases h1 : (left.length : Int) > 20
 ·exact .inr (Ev.congr (fun k => by unfold ensembleref14_Few.f; rw [if_pos h1]) JF)
 by_cases h2 : (waits.length : Int) > 150
 ·exact .inr (Ev.congr (fun k => by unfold ensembleref14_Few.f; rw [if_neg h1, if_pos h2]) JF)
 by_cases h3 : (runs.length : Int) > 150
 ·exact .inr (Ev.congr (fun k => by unfold ensembleref14_Few.f; rw [if_neg h1, if_neg h2, if_pos h3]) JF)
 have st : ∀ b, Ev (fun k => (ensembleref12_Few.f k view 0 0 ends).bind fun t => ensembleref14_Few.j0 k (!t) a0 a1 a2 a3 view left ends waits runs) b → Ev (fun k => ensembleref14_Few.f k a0 a1 a2 a3 view left ends waits runs) b := fun b h =>
  Ev.congr (fun k => by unfold ensembleref14_Few.f; rw [if_neg h1, if_neg h2, if_neg h3]) h
 rcases few12_ev view 0 0 ends with ⟨hk, hf⟩ | hk
 case inr => exact .inr (st _ (Ev.bind hk JF))
 have S := setup wv we hf
 have sl : (slotsOf ends).length ≤ 400 := by
  have h4 := slots_len hf.2.2.2.2.2
  have : 20 * ends.length ≤ 20 * 20 := Nat.mul_le_mul_left 20 hf.2.2.1
  omega
 have hL1 := few14_l1 a0 a1 a2 a3 view left ends waits runs S.V.free S.vl S.el sl S.I.sm ends.length 0 (by omega) (by omega)
 have J : ∀ b, Ev (fun k => ensembleref14_Few.l0 k 0 a0 a1 a2 a3 view left ends waits runs) b → Ev (fun k => ensembleref14_Few.f k a0 a1 a2 a3 view left ends waits runs) b := fun b h =>
  st _ (Ev.bind hk (Ev.step (fun k => by rw [ensembleref14_Few.j0]; exact if_neg (by decide)) h))
 by_cases hm : (turnF moreE moreF view (slotsOf ends)).2 = 0
 ·rw [hm] at hL1
  rcases few14_l0 a0 a1 a2 a3 view left ends waits runs (by omega) hL1 left.length 0 (by omega) (by omega) (by simp) with ⟨h4, h5⟩ | h4
  ·exact .inl ⟨J _ h4, by omega, by omega, by omega, hf, h5, hm⟩
  ·exact .inr (J _ h4)
 ·rw [show ((turnF moreE moreF view (slotsOf ends)).2 == 0) = false by simpa using hm] at hL1
  rcases few14_l0 a0 a1 a2 a3 view left ends waits runs (by omega) hL1 left.length 0 (by omega) (by omega) (by simp) with ⟨h4, h5⟩ | h4
  ·exact .inr (J _ h4)
  ·exact .inr (J _ h4)
theorem FewL.few5 {view : List S51} {left : List S24} {ends : List S41} {waits : List S105} {runs : List S149} (F : FewL view left ends waits runs) (wv : ∀ y ∈ view, wfd51 y) : Few5 view := P.few5 wv F.fp.2.1 F.fp.1
theorem Few5.placeOk {view : List S51} (F : Few5 view) : P.placeOk view = true := by
 unfold P.placeOk
 rw [List.all_eq_true.2 F.V.free, decide_eq_true (by have := F.len; omega)]; rfl
theorem withB_iff {g c n lg lc : Int} : withB g c n lg lc = true ↔ g * n ≤ lg ∧ c * n ≤ lc := by unfold withB; simp
theorem canB_zero {view : List S51} {g c mn mx n lg lc : Int} : canB view g c mn mx n lg lc = 0 ↔ n ≤ roomS g c mn mx view ∧ g * n ≤ lg ∧ c * n ≤ lc := by
 unfold canB
 by_cases h : roomS g c mn mx view < n
 ·rw [if_pos h]; constructor
  ·intro h; cases h
  ·rintro ⟨h1, _⟩; omega
 ·rw [if_neg h]
  by_cases h2 : withB g c n lg lc = true
  ·rw [if_pos h2]; exact ⟨fun _ => ⟨by omega, withB_iff.1 h2⟩, fun _ => rfl⟩
  ·rw [if_neg h2]; constructor
   ·intro h; cases h
   ·rintro ⟨_, h3⟩; exact absurd (withB_iff.2 h3) h2
theorem downL_sorted (a b : Int) : (downL a b).Pairwise (· > ·) := by
 unfold downL
 rw [List.pairwise_map]
 exact List.pairwise_lt_range.imp (fun h => by omega)
theorem downL_mem_iff {a b x : Int} : x ∈ downL a b ↔ b ≤ x ∧ x ≤ a := by
 constructor
 ·exact downL_mem
 ·rintro ⟨h1, h2⟩
  unfold downL
  exact List.mem_map.2 ⟨(a - x).toNat, List.mem_range.2 (by omega), by omega⟩
theorem find_down {a b : Int} {p : Int → Bool} {n : Int} (h : (downL a b).find? p = some n) : (b ≤ n ∧ n ≤ a) ∧ p n = true ∧ ∀ m, n < m → m ≤ a → p m = false := by
 have hm := List.mem_of_find?_eq_some h
 have hp := List.find?_some h
 refine ⟨downL_mem hm, hp, fun m h1 h2 => ?_⟩
 rw [List.find?_eq_some_iff_append] at h
 obtain ⟨_, pa, pb, e, hn⟩ := h
 have hs := downL_sorted a b
 rw [e, List.pairwise_append] at hs
 have hmm : m ∈ downL a b := downL_mem_iff.2 ⟨by have := downL_mem hm; omega, h2⟩
 rw [e] at hmm
 rcases List.mem_append.1 hmm with h | h
 ·simpa using hn m h
 ·rcases List.mem_cons.1 h with h | h
  ·omega
  ·have := (List.pairwise_cons.1 hs.2.1).1 m h; omega
theorem find_down_none {a b : Int} {p : Int → Bool} (h : (downL a b).find? p = none) : ∀ m, b ≤ m → m ≤ a → p m = false := fun m h1 h2 => by
 have := List.find?_eq_none.1 h m (downL_mem_iff.2 ⟨h1, h2⟩)
 simpa using this
inductive MostR (view : List S51) (left : List S24) (q g c mn mx : Int) : List S52 × Int → Prop where
 | shape (h : goodShape g c mn mx = false) : MostR view left q g c mn mx ([], 1)
 | queue (hg : goodShape g c mn mx = true) (h : ¬ (0 ≤ q ∧ q < left.length)) : MostR view left q g c mn mx ([], 3)
 | not (hg : goodShape g c mn mx = true) (hq : 0 ≤ q ∧ q < left.length) (h : canB view g c mn mx mn (rd_T24 left q).f0 (rd_T24 left q).f1 ≠ 0) : MostR view left q g c mn mx ([], canB view g c mn mx mn (rd_T24 left q).f0 (rd_T24 left q).f1)
 | got (n : Int) (hg : goodShape g c mn mx = true) (hq : 0 ≤ q ∧ q < left.length) (hn : mn ≤ n ∧ n ≤ mx) (hc : canB view g c mn mx n (rd_T24 left q).f0 (rd_T24 left q).f1 = 0) (hm : ∀ m, n < m → m ≤ mx → canB view g c mn mx m (rd_T24 left q).f0 (rd_T24 left q).f1 ≠ 0) :
   MostR view left q g c mn mx (placeP view g c mn mx n)
theorem most_is {view : List S51} (F : Few5 view) (left : List S24) (q g c mn mx : Int) : MostR view left q g c mn mx (mostB view left q g c mn mx) := by
 unfold mostB
 by_cases he : (leftB left q g c mn mx).2.2 = 0
 ·obtain ⟨hg, hq, e⟩ := leftB_ok he
  rw [e]
  rw [if_neg (by simp)]
  have hb := good_out1 hg
  by_cases hc : canB view g c mn mx mn (rd_T24 left q).f0 (rd_T24 left q).f1 = 0
  ·rw [if_neg (by simpa using hc)]
   unfold firstGo
   cases hf : (downL mx mn).find? (fun n => canB view g c mn mx n (rd_T24 left q).f0 (rd_T24 left q).f1 == 0) with
   | none => exact absurd (find_down_none hf mn (Int.le_refl _) hb.2.1) (by simpa using hc)
   | some n =>
    obtain ⟨h1, h2, h3⟩ := find_down hf
    show MostR view left q g c mn mx (placeB view g c mn mx n)
    rw [place_P F.ok]
    exact .got n hg hq h1 (by simpa using h2) (fun m h4 h5 => by simpa using h3 m h4 h5)
  ·rw [if_pos (by simpa using hc)]
   exact .not hg hq hc
 ·rw [if_pos (by simpa using he)]
  unfold leftB at he ⊢
  by_cases hg : goodShape g c mn mx = true
  ·rw [if_pos hg] at he ⊢
   by_cases hq : 0 ≤ q ∧ q < (left.length : Int)
   ·rw [if_pos hq] at he; exact absurd rfl he
   ·rw [if_neg hq]; exact .queue hg hq
  ·rw [if_neg hg]; exact .shape (by simpa using hg)
theorem got_place {view : List S51} {g c mn mx n : Int} (hg : goodShape g c mn mx = true) (hn : mn ≤ n ∧ n ≤ mx) (hr : n ≤ roomS g c mn mx view) : (placeP view g c mn mx n).2 = 0 ∧ ((placeP view g c mn mx n).1.length : Int) = n := by
 have hb := good_out1 hg
 have h0 : (placeP view g c mn mx n).2 = 0 := by
  unfold placeP
  rw [if_pos ⟨hg, by omega, by omega⟩]
  rw [if_neg (by omega)]
 exact ⟨h0, placeP_len h0⟩
end Go.Proofs.Ytckhjehibjdjdaa.P
namespace Go.Proofs.Ytckhjehibjdjdaa.P
open Go.RowKit Go.Proofs.YtckhjehibjdjdaaW.PrintWords Go.Proofs.YtckhjehibjdjdaaW.PrintLast Go.Proofs.YtckhjehibjdjdaaW.PrintMore
attribute [local go_sem] max2_int min2_int max_two min_two max_three min_three max_four min_four
set_option linter.unusedVariables false
set_option linter.unusedSimpArgs false
end Go.Proofs.Ytckhjehibjdjdaa.P
namespace Go.Proofs.Ytckhjehibjdjdaa.P
open Go.RowKit Go.Proofs.YtckhjehibjdjdaaW.PrintWords Go.Proofs.YtckhjehibjdjdaaW.PrintLast Go.Proofs.YtckhjehibjdjdaaW.PrintMore
open Go.Proofs.Ytckhjehibjdjdaa.Bits Go.Proofs.Ytckhjehibjdjdaa.Mp
set_option linter.unusedVariables false
set_option linter.unusedSimpArgs false
theorem room_set (s0 s1 s2 s3 : Int) (view : List S51) (p : Nat) (hp : p < view.length) (x : S51) : roomS s0 s1 s2 s3 (view.set p x) = roomS s0 s1 s2 s3 view - fitV s0 s1 s2 s3 view[p].f1 view[p].f2 + fitV s0 s1 s2 s3 x.f1 x.f2 := by
 have e : roomS s0 s1 s2 s3 view = roomS s0 s1 s2 s3 (view.take p ++ view[p] :: view.drop (p + 1)) := by rw [← List.drop_eq_getElem_cons hp, List.take_append_drop]
 have c : ∀ (y : S51) (l : List S51), roomS s0 s1 s2 s3 (y :: l) = fitV s0 s1 s2 s3 y.f1 y.f2 + roomS s0 s1 s2 s3 l := fun y l => by unfold roomS; rw [List.map_cons, List.sum_cons]
 rw [e, List.set_eq_take_append_cons_drop, if_pos hp, roomS_append, roomS_append, c, c]
 omega
theorem less_pcs {s0 s1 s2 s3 : Int} (hg : goodShape s0 s1 s2 s3 = true) : ∀ (n : Nat) (f : S51) (view : List S51), View view → f ∈ view → n ≤ fitT s0 s1 s2 s3 f →
  (turnF lessE lessF view (pcs s0 s1 n f)).2 = 0 ∧ View (turnF lessE lessF view (pcs s0 s1 n f)).1 ∧ (turnF lessE lessF view (pcs s0 s1 n f)).1.length = view.length ∧
  roomS s0 s1 s2 s3 (turnF lessE lessF view (pcs s0 s1 n f)).1 ≤ roomS s0 s1 s2 s3 view ∧ roomS s0 s1 s2 s3 view ≤ roomS s0 s1 s2 s3 (turnF lessE lessF view (pcs s0 s1 n f)).1 + n ∧
  (∀ g ∈ view, spot g ≠ spot f → g ∈ (turnF lessE lessF view (pcs s0 s1 n f)).1)
 | 0, f, view, V, hf, hn => ⟨rfl, V, rfl, Int.le_refl _, by show _ ≤ roomS s0 s1 s2 s3 view + _; omega, fun g hg _ => hg⟩
 | n + 1, f, view, V, hf, hn => by
  have hb := good_out0 hg
  have hok : spotOk f := ⟨V.free f hf, V.right.1 f hf⟩
  have e1 := fitT_eq s0 s1 s2 s3 f
  have e2 := fit_kap hg hok
  have hk : 1 ≤ kap s0 s1 f := by omega
  have hge := kap_ge hg hok hk
  obtain ⟨p, hp, rfl⟩ := List.mem_iff_getElem.1 hf
  have hlow := lowI_bd view[p].f1 s0
  have hms : maskOk (pieceL s0 s1 view[p]) = true := by
   unfold maskOk pieceL
   rw [decide_eq_true hlow.1, decide_eq_true hlow.2]; rfl
  have hE : lessE view[p] (pieceL s0 s1 view[p]) = 0 := by
   refine (lessE_iff hok.1 hms).2 ⟨?_, hge.2⟩
   show (lowI view[p].f1 s0).toNat &&& _ = (lowI view[p].f1 s0).toNat
   unfold lowI
   rw [Int.toNat_natCast, low_and]
  have hfi : findI view (pieceL s0 s1 view[p]).f0.f0 (pieceL s0 s1 view[p]).f0.f1 = (p : Int) := find_at V.right.2 hp rfl
  have hstep : turnF lessE lessF view (pcs s0 s1 (n + 1) view[p]) = turnF lessE lessF (view.set p (leftF s0 s1 view[p])) (pcs s0 s1 n (leftF s0 s1 view[p])) := by
   rw [pcs, turnF, if_neg (show ¬ (pieceL s0 s1 view[p]).f2 < 0 from fun h => by have h : s1 < 0 := h; omega), hfi, if_neg (by omega), rd51' view p hp, if_pos hE, Int.toNat_natCast]; rfl
  have hlo := left_ok hg hok hk
  have hle := kap_left_le hg hok hk
  have sp : (view.set p (leftF s0 s1 view[p])).map spot = view.map spot := spots_set (fun hk => rfl)
  have V' : View (view.set p (leftF s0 s1 view[p])) := ⟨⟨set_all V.right.1 hlo.2, by rw [sp]; exact V.right.2⟩, set_all V.free hlo.1⟩
  have hin : leftF s0 s1 view[p] ∈ view.set p (leftF s0 s1 view[p]) := List.mem_iff_getElem.2 ⟨p, by rw [List.length_set]; exact hp, List.getElem_set_self _⟩
  have e3 := fitT_eq s0 s1 s2 s3 (leftF s0 s1 view[p])
  have hrs := room_set s0 s1 s2 s3 view p hp (leftF s0 s1 view[p])
  obtain ⟨i1, i2, i3, i4, i5, i6⟩ := less_pcs hg n (leftF s0 s1 view[p]) _ V' hin (by omega)
  rw [hstep]
  refine ⟨i1, i2, by rw [i3, List.length_set], by omega, by omega, fun g hgm hne => i6 g ?_ hne⟩
  obtain ⟨q, hq, rfl⟩ := List.mem_iff_getElem.1 hgm
  have hpq : p ≠ q := fun h => hne (by subst h; rfl)
  exact List.mem_iff_getElem.2 ⟨q, by rw [List.length_set]; exact hq, List.getElem_set_ne hpq _⟩
theorem less_flat {s0 s1 s2 s3 : Int} (hg : goodShape s0 s1 s2 s3 = true) : ∀ (L : List S51) (view : List S51) (r : Nat), View view → (L.map spot).Nodup → (∀ f ∈ L, f ∈ view) →
  (turnF lessE lessF view ((flat s0 s1 s2 s3 L).take r)).2 = 0 ∧ View (turnF lessE lessF view ((flat s0 s1 s2 s3 L).take r)).1 ∧ (turnF lessE lessF view ((flat s0 s1 s2 s3 L).take r)).1.length = view.length ∧
  roomS s0 s1 s2 s3 (turnF lessE lessF view ((flat s0 s1 s2 s3 L).take r)).1 ≤ roomS s0 s1 s2 s3 view ∧ roomS s0 s1 s2 s3 view ≤ roomS s0 s1 s2 s3 (turnF lessE lessF view ((flat s0 s1 s2 s3 L).take r)).1 + ((flat s0 s1 s2 s3 L).take r).length
 | [], view, r, V, _, _ => by
  rw [show flat s0 s1 s2 s3 [] = [] from rfl, List.take_nil]
  exact ⟨rfl, V, rfl, Int.le_refl _, by show _ ≤ roomS s0 s1 s2 s3 view + _; simp⟩
 | f :: L, view, r, V, hn, hL => by
  rw [List.map_cons, List.nodup_cons] at hn
  rw [flat_cons, List.take_append, pcs_take, pcs_len]
  obtain ⟨a1, a2, a3, a4, a5, a6⟩ := less_pcs hg (min r (fitT s0 s1 s2 s3 f)) f view V (hL f (by simp)) (by omega)
  rw [turnF_append _ _ _ a1]
  obtain ⟨b1, b2, b3, b4, b5⟩ := less_flat hg L _ (r - fitT s0 s1 s2 s3 f) a2 hn.2 (fun g hgm => a6 g (hL g (by simp [hgm])) (fun h => hn.1 (List.mem_map.2 ⟨g, hgm, h⟩)))
  refine ⟨b1, b2, b3.trans a3, by omega, ?_⟩
  rw [List.length_append, pcs_len]
  omega
theorem flat_spot (s0 s1 s2 s3 : Int) (L : List S51) : ∀ s ∈ flat s0 s1 s2 s3 L, ∃ f ∈ L, s.f0 = f.f0 ∧ maskOk s = true := fun s hs => by
 obtain ⟨f, hf, h⟩ := List.mem_flatMap.1 hs
 exact ⟨f, hf, pcs_spot _ _ _ f s h⟩
end Go.Proofs.Ytckhjehibjdjdaa.P
namespace Go.Proofs.Ytckhjehibjdjdaa.P
open Go.RowKit Go.Proofs.YtckhjehibjdjdaaW.PrintWords Go.Proofs.YtckhjehibjdjdaaW.PrintLast Go.Proofs.YtckhjehibjdjdaaW.PrintMore
attribute [local go_sem] max2_int min2_int max_two min_two max_three min_three max_four min_four
set_option linter.unusedVariables false
set_option linter.unusedSimpArgs false
def ensembleref02_Count.T5 : Bool × List (List Nat × List Nat) := (true, [([], []), ([0], [0]), ([], []), ([], []), ([2, 3], [2, 3]), ([4], [4]), ([5], [5]), ([6], [6]), ([7], [7]), ([1, 8], [1, 8]), ([0, 1, 2, 3, 4, 5, 6, 7, 8, 9], []), ([10, 9, 7, 0, 1, 2, 3, 4, 5, 6, 7, 8, 9], [9, 10])])
def ensembleref02_Count.B5 : List Nat := [0, 1, 0, 0, 12, 28, 60, 124, 252, 511, 1023, 2047]
theorem ensembleref02_Count.bits5 : waitsOk ensembleref02_Count.T5.2 ensembleref02_Count.B5 = true := by kernel_rfl
def ensembleref02_Count.T6 : Bool × List (List Nat × List Nat) := (true, [([], []), ([0], [0]), ([], []), ([], []), ([2, 3], [2, 3]), ([4], [4]), ([5], [5]), ([1, 6], [1, 6]), ([0, 1, 2, 3, 4, 5, 6, 7], []), ([8, 7, 0, 1, 2, 3, 4, 5, 6, 7], [7, 8])])
def ensembleref02_Count.B6 : List Nat := [0, 1, 0, 0, 12, 28, 60, 127, 255, 511]
theorem ensembleref02_Count.bits6 : waitsOk ensembleref02_Count.T6.2 ensembleref02_Count.B6 = true := by kernel_rfl
end Go.Proofs.Ytckhjehibjdjdaa.P
namespace Go.Proofs.Ytckhjehibjdjdaa.P
open Go.RowKit Go.Proofs.YtckhjehibjdjdaaW.PrintWords Go.Proofs.YtckhjehibjdjdaaW.PrintLast Go.Proofs.YtckhjehibjdjdaaW.PrintMore
attribute [local go_sem] max2_int min2_int max_two min_two max_three min_three max_four min_four
set_option linter.unusedVariables false
set_option linter.unusedSimpArgs false
theorem eqA51 (d : Nat) (w : World) (x0 y0 : Int) (x1 y1 : Int) (x2 y2 : Int) (x3 y3 : Int) :
  (Op.equalIn (d + 3) 51 (.agg #[.int .i64 x0, .int .i64 x1, .int .u64 x2, .int .i64 x3]) (.agg #[.int .i64 y0, .int .i64 y1, .int .u64 y2, .int .i64 y3])).run Try.prog w = .ok ((x0 == y0 && (x1 == y1)) && (x2 == y2 && (x3 == y3))) w := by
 refine eqA_of Try.underlying51 (by kernel_rfl) ?_
 refine eqf_cons (by rfl) (by go_simp) (by go_simp) (eqA48 (d + 0) w _ _ _ _) ?_
 refine eqf_cons (by rfl) (by go_simp; rfl) (by go_simp; rfl) (by go_simp) ?_
 exact eqf_last (by rfl) (by go_simp; rfl) (by go_simp; rfl) (by go_simp)
end Go.Proofs.Ytckhjehibjdjdaa.P
namespace Go.Proofs.Ytckhjehibjdjdaa.P
open Go.RowKit Go.Proofs.YtckhjehibjdjdaaW.PrintWords Go.Proofs.YtckhjehibjdjdaaW.PrintLast Go.Proofs.YtckhjehibjdjdaaW.PrintMore
attribute [local go_sem] max2_int min2_int max_two min_two max_three min_three max_four min_four
set_option linter.unusedVariables false
set_option linter.unusedSimpArgs false
attribute [local go_sem high] eqA51
end Go.Proofs.Ytckhjehibjdjdaa.P
namespace Go.Proofs.Ytckhjehibjdjdaa.P
open Go.RowKit Go.Proofs.YtckhjehibjdjdaaW.PrintWords Go.Proofs.YtckhjehibjdjdaaW.PrintLast Go.Proofs.YtckhjehibjdjdaaW.PrintMore
attribute [local go_sem] max2_int min2_int max_two min_two max_three min_three max_four min_four
set_option linter.unusedVariables false
set_option linter.unusedSimpArgs false
set_option maxRecDepth 100000 in
theorem field24_0 (a b : Int) (w : World) : Sem.run Try.prog (Instr.field 24 (.agg #[.int .i64 a, .int .i64 b]) 0) w = .ok (.int .i64 a) w := by
 have hu24 := Try.underlying24
 have hu3 := Try.underlying3
 simp [Instr.field, go_sem, hu24, hu3, part, isAgg, asAgg]
attribute [local go_sem] field24_0
def ensemblelaw05_PackWhole.T14 : Bool × List (List Nat × List Nat) := (true, [([], []), ([], []), ([0, 1], [0, 1]), ([2], [2]), ([3], [3]), ([], []), ([5], [5]), ([4, 6], [4, 6]), ([7], [7]), ([8], [8]), ([8], [8]), ([9, 10, 8], [8, 9, 10]), ([11, 8], [8, 11]), ([12, 8], [8, 12]), ([13, 8], [8, 13]), ([14, 8], [8, 14]), ([15, 8, 8], [8, 15]), ([16, 8], [8, 16]), ([8], [8]), ([18, 8], [8, 18]), ([17, 19, 8], [8, 17, 19]), ([8, 20], [8, 20])])
def ensemblelaw05_PackWhole.B14 : List Nat := [0, 0, 3, 7, 15, 0, 32, 127, 255, 511, 511, 2047, 4095, 8191, 16383, 32767, 65535, 131071, 511, 262655, 1048575, 2097151]
theorem ensemblelaw05_PackWhole.bits14 : waitsOk ensemblelaw05_PackWhole.T14.2 ensemblelaw05_PackWhole.B14 = true := by kernel_rfl
end Go.Proofs.Ytckhjehibjdjdaa.P
namespace Go.Proofs.Ytckhjehibjdjdaa.P
open Go.RowKit Go.Proofs.YtckhjehibjdjdaaW.PrintWords Go.Proofs.YtckhjehibjdjdaaW.PrintLast Go.Proofs.YtckhjehibjdjdaaW.PrintMore
open Go.Proofs.Ytckhjehibjdjdaa.Bits Go.Proofs.Ytckhjehibjdjdaa.Mp
set_option linter.unusedVariables false
set_option linter.unusedSimpArgs false
theorem low_pop (M n : Nat) (hn : n ≤ popN M) : popN (lowN M n) = n := by
 have hp : ((pos M).take n).Pairwise (· < ·) := (pos_sorted M).sublist (List.take_sublist _ _)
 unfold popN at hn ⊢
 unfold lowN
 rw [pos_orAll _ hp (fun i hi => (mem_pos.1 (List.mem_of_mem_take hi)).1), List.length_take]
 omega
theorem pcs_units {s0 s1 s2 s3 : Int} (hg : goodShape s0 s1 s2 s3 = true) : ∀ (n : Nat) (f : S51), spotOk f → n ≤ fitT s0 s1 s2 s3 f → ∀ s ∈ pcs s0 s1 n f, s.f2 = s1 ∧ popI s.f1 = s0
 | 0, _, _, _, s, h => by cases h
 | n + 1, f, hok, hn, s, h => by
  have hb := good_out0 hg
  have e1 := fitT_eq s0 s1 s2 s3 f
  have e2 := fit_kap hg hok
  have hk : 1 ≤ kap s0 s1 f := by omega
  have hge := kap_ge hg hok hk
  have hle := kap_left_le hg hok hk
  have e3 := fitT_eq s0 s1 s2 s3 (leftF s0 s1 f)
  rw [pcs, List.mem_cons] at h
  rcases h with rfl | h
  ·refine ⟨rfl, ?_⟩
   show popI (lowI f.f1 s0) = s0
   unfold popI at hge ⊢
   unfold lowI
   rw [Int.toNat_natCast, low_pop _ _ (by omega)]
   omega
  ·exact pcs_units hg n _ (left_ok hg hok hk) (by omega) s h
theorem flat_units {s0 s1 s2 s3 : Int} (hg : goodShape s0 s1 s2 s3 = true) {L : List S51} (hL : ∀ f ∈ L, spotOk f) : ∀ s ∈ flat s0 s1 s2 s3 L, s.f2 = s1 ∧ popI s.f1 = s0 := fun s hs => by
 obtain ⟨f, hf, h⟩ := List.mem_flatMap.1 hs
 exact pcs_units hg _ f (hL f hf) (Nat.le_refl _) s h
end Go.Proofs.Ytckhjehibjdjdaa.P
namespace Go.Proofs.Ytckhjehibjdjdaa.P
open Go.RowKit Go.Proofs.YtckhjehibjdjdaaW.PrintWords Go.Proofs.YtckhjehibjdjdaaW.PrintLast Go.Proofs.YtckhjehibjdjdaaW.PrintMore
open Go.Proofs.Ytckhjehibjdjdaa.Bits Go.Proofs.Ytckhjehibjdjdaa.Mp
set_option linter.unusedVariables false
set_option linter.unusedSimpArgs false
theorem popS_all {g : Int} : ∀ {l : List S52}, (∀ s ∈ l, popI s.f1 = g) → popS l = g * l.length
 | [], _ => by simp [popS]
 | s :: l, h => by
  rw [popS_cons, h s (by simp), popS_all (fun x hx => h x (by simp [hx])), List.length_cons]
  rw [Int.natCast_succ, Int.mul_add, Int.mul_one]; omega
theorem cpS_all {c : Int} : ∀ {l : List S52}, (∀ s ∈ l, s.f2 = c) → cpS l = c * l.length
 | [], _ => by simp [cpS]
 | s :: l, h => by
  rw [cpS_cons, h s (by simp), cpS_all (fun x hx => h x (by simp [hx])), List.length_cons]
  rw [Int.natCast_succ, Int.mul_add, Int.mul_one]; omega
structure Placed (view : List S51) (g c n : Int) (l : List S52) : Prop where
 len : (l.length : Int) = n
 less : (turnF lessE lessF view l).2 = 0
 pop : ∀ s ∈ l, popI s.f1 = g ∧ s.f2 = c
 mask : ∀ s ∈ l, maskOk s = true
 at_ : ∀ s ∈ l, ∃ f ∈ view, s.f0 = f.f0
theorem Few5.placed {view : List S51} (F : Few5 view) {g c mn mx n : Int} (h : (placeP view g c mn mx n).2 = 0) : Placed view g c n (placeP view g c mn mx n).1 := by
 obtain ⟨a, b, c', d⟩ := placeP_ok h
 have hp := isort_perm (fkey g c mn mx) view
 have eP : (placeP view g c mn mx n).1 = (flat g c mn mx (isort (fkey g c mn mx) view)).take n.toNat := by rw [d]
 obtain ⟨l1, l2, l3, l4, l5⟩ := less_flat a (isort (fkey g c mn mx) view) view n.toNat F.V ((hp.map spot).nodup_iff.2 F.V.right.2) (fun f hf => hp.mem_iff.1 hf)
 have hu := flat_units a (L := isort (fkey g c mn mx) view) (fun f hf => F.ok f (hp.mem_iff.1 hf))
 have hs := flat_spot g c mn mx (isort (fkey g c mn mx) view)
 refine ⟨placeP_len h, by rw [eP]; exact l1, fun s hs' => ?_, fun s hs' => ?_, fun s hs' => ?_⟩
 ·rw [eP] at hs'; exact (hu s (List.mem_of_mem_take hs')).symm
 ·rw [eP] at hs'; obtain ⟨f, _, _, h2⟩ := hs s (List.mem_of_mem_take hs'); exact h2
 ·rw [eP] at hs'; obtain ⟨f, h1, h2, _⟩ := hs s (List.mem_of_mem_take hs'); exact ⟨f, hp.mem_iff.1 h1, h2⟩
theorem Placed.units {view : List S51} {g c n : Int} {l : List S52} (P : Placed view g c n l) (hg : 0 ≤ g ∧ g ≤ 16) (hc : 0 ≤ c ∧ c ≤ 1024) (hn : 0 ≤ n ∧ n ≤ 16) : addL true (0, 0) l = (g * n, c * n) := by
 have h1 := popS_all (fun s hs => (P.pop s hs).1)
 have h2 := cpS_all (fun s hs => (P.pop s hs).2)
 rw [P.len] at h1 h2
 have b1 : g * n ≤ 16 * 16 := Int.mul_le_mul hg.2 hn.2 hn.1 (by decide)
 have b2 : c * n ≤ 1024 * 16 := Int.mul_le_mul hc.2 hn.2 hn.1 (by decide)
 have b3 : 0 ≤ g * n := Int.mul_nonneg hg.1 hn.1
 have b4 : 0 ≤ c * n := Int.mul_nonneg hc.1 hn.1
 rw [addL_true l (0, 0) (by unfold I64P; simp only; omega), h1, h2]
 simp only [Int.zero_add]
 rw [w_id (by omega), w_id (by omega)]
theorem Placed.units_ev {view : List S51} {g c n : Int} {l : List S52} (P : Placed view g c n l) (hg : 0 ≤ g ∧ g ≤ 16) (hc : 0 ≤ c ∧ c ≤ 1024) (hn : 0 ≤ n ∧ n ≤ 16) : Ev (fun k => ensembleref08_Units.f k l) (g * n, c * n) := by
 have := units08_ev l (by have := P.len; omega) P.mask
 rwa [P.units hg hc hn] at this
theorem Placed.less_ev {view : List S51} {g c n : Int} {l : List S52} (P : Placed view g c n l) (F : Few5 view) (hn : 0 ≤ n ∧ n ≤ 16) : ∃ v, Ev (fun k => ensembleref05_Less.f k view l) (v, 0) := by
 have := less05_ev view l (by have := P.len; omega) P.mask (by have := F.len; omega) F.V.free
 refine ⟨(turnF lessE lessF view l).1, ?_⟩
 rw [← P.less]; exact this
end Go.Proofs.Ytckhjehibjdjdaa.P
namespace Go.Proofs.Ytckhjehibjdjdaa.P
open Go.RowKit Go.Proofs.YtckhjehibjdjdaaW.PrintWords Go.Proofs.YtckhjehibjdjdaaW.PrintLast Go.Proofs.YtckhjehibjdjdaaW.PrintMore
open Go.Proofs.Ytckhjehibjdjdaa.Bits Go.Proofs.Ytckhjehibjdjdaa.Mp
set_option linter.unusedVariables false
set_option linter.unusedSimpArgs false
def ElasticMost.Pure : Prop := ∀ (x0 : S86) (x1 : S88), wfd86 x0 → wfd88 x1 → ∃ k, ensemblelaw14_ElasticMost.f k x0.f0 x0.f1 x0.f2 x0.f3 x0.f4 x0.f5 x0.f6 x0.f7 x0.f8 x1.f0 x1.f1 x1.f2 x1.f3 x1.f4.f0 x1.f4.f1 x1.f4.f2 x1.f4.f3 = some true
theorem Pure.ElasticMost : ElasticMost.Pure := by
 rintro ⟨a0, a1, a2, a3, view, left, ends, waits, runs⟩ ⟨id, q, prio, rt, g, c, mn, mx⟩ w0 w1
 simp only
 unfold wfd86 at w0
 simp only at w0
 refine Ev.rounds (g := fun k => ensemblelaw14_ElasticMost.f k a0 a1 a2 a3 view left ends waits runs id q prio rt g c mn mx) ?_
 refine Ev.congr (fun k => by unfold ensemblelaw14_ElasticMost.f; rw [awake14, Option.bind_some, if_pos rfl]) ?_
 rcases few14_ev a0 a1 a2 a3 view left ends waits runs w0.2.2.2.2.1.2 w0.2.2.2.2.2.2.1.2 with ⟨hk, F⟩ | hk
 case inr => exact Ev.bind hk (Ev.congr (fun k => by rw [if_neg (by decide)]) (Ev.now _))
 have F5 := F.few5 w0.2.2.2.2.1.2
 refine Ev.bind hk (Ev.congr (fun k => by rw [if_pos rfl]) ?_)
 have hM : elastic_Most.f a0 a1 a2 a3 view left ends waits runs id q prio rt g c mn mx = some (mostB view left q g c mn mx) := by
  unfold elastic_Most.f; rw [if_pos F5.placeOk]
 refine Ev.congr (fun k => by rw [hM, Option.bind_some]) ?_
 have hR := most_is F5 left q g c mn mx
 generalize mostB view left q g c mn mx = r at hR
 cases hR with
 | shape h => exact Ev.congr (fun k => by rw [if_neg (by simp)]; rfl) (Ev.now _)
 | queue hg h => exact Ev.congr (fun k => by rw [if_neg (by simp)]; rfl) (Ev.now _)
 | not hg hq h => exact Ev.congr (fun k => by rw [if_neg h]; rfl) (Ev.now _)
 | got n hg hq hn hc hm =>
  have hb := good_out1 hg
  have hb0 := good_out0 hg
  obtain ⟨hr, h1, h2⟩ := canB_zero.1 hc
  obtain ⟨p0, pl⟩ := got_place (view := view) hg hn hr
  have PL := F5.placed p0
  generalize placeP view g c mn mx n = pp at p0 pl PL
  obtain ⟨l, e⟩ := pp
  simp only at p0 pl PL
  subst p0
  obtain ⟨v, hl⟩ := PL.less_ev F5 (by omega)
  have hu := PL.units_ev (by omega) (by omega) (by omega)
  refine Ev.congr (fun k => by rw [if_pos rfl, if_neg (by omega), if_neg (by omega), if_neg (by simp only; omega), decide_eq_false (by simp only; omega)]) ?_
  refine Ev.step (fun k => by rw [ensemblelaw14_ElasticMost.j0, if_neg (by decide)]) (Ev.bind hu ?_)
  refine Ev.congr (fun k => by rw [if_pos hq.1, if_pos hq.2]) (Ev.bind hl ?_)
  refine Ev.congr (fun k => by rw [if_pos rfl, if_neg (by simp only; omega), if_neg (by simp only; omega)]) ?_
  by_cases hx : (l.length : Int) = mx
  ·exact Ev.congr (fun k => by rw [if_pos hx]) (Ev.now _)
  refine Ev.congr (fun k => by rw [if_neg hx]) (Ev.bind (room05_ev g c mn mx view (by have := F5.len; omega) F5.V.free) ?_)
  by_cases hy : roomS g c mn mx view ≤ (l.length : Int)
  ·exact Ev.congr (fun k => by rw [if_pos hy]) (Ev.now _)
  have hnx := hm (n + 1) (by omega) (by omega)
  have e1 : g * (n + 1) = g * n + g := by rw [Int.mul_add, Int.mul_one]
  have e2 : c * (n + 1) = c * n + c := by rw [Int.mul_add, Int.mul_one]
  have b1 : g * n ≤ 16 * 16 := Int.mul_le_mul hb0.2.1 (by omega) (by omega) (by decide)
  have b2 : c * n ≤ 1024 * 16 := Int.mul_le_mul hb0.2.2.2 (by omega) (by omega) (by decide)
  have b3 : 0 ≤ g * n := Int.mul_nonneg hb0.1 (by omega)
  have b4 : 0 ≤ c * n := Int.mul_nonneg hb0.2.2.1 (by omega)
  refine Ev.congr (fun k => by rw [if_neg hy, w_id (by omega), w_id (by omega)]) ?_
  by_cases hz : g * n + g > (rd_T24 left q).f0
  ·exact Ev.congr (fun k => by rw [if_pos hz]) (Ev.now _)
  have hw : c * n + c > (rd_T24 left q).f1 := by
   apply Classical.byContradiction
   intro hw
   exact hnx (canB_zero.2 ⟨by omega, by omega, by omega⟩)
  exact Ev.congr (fun k => by rw [if_neg hz, decide_eq_true hw]) (Ev.now _)
end Go.Proofs.Ytckhjehibjdjdaa.P
namespace Go.Proofs.Ytckhjehibjdjdaa.row0
set_option maxRecDepth 100000
set_option linter.unusedSimpArgs false
theorem and_mk {a b : Bool} (h : a = true) (k : b = true) : (a && b) = true := by rw [h, k]; rfl
def letters : List Char := List.map Char.ofNat [104, 97, 114, 110, 101, 115, 115, 32, 57, 100, 50, 54, 101, 98, 50, 54, 53, 56, 98, 49, 102, 51, 56, 49, 51, 55, 98, 54, 100, 49, 53, 55, 102, 53, 100, 49, 102, 101, 97, 49, 102, 56, 57, 57, 55, 98, 52, 55, 53, 51, 99, 98, 101, 48, 98, 98, 48, 97, 53, 54, 48, 102, 102, 54, 52, 98, 99, 52, 98, 52, 102, 52, 32, 99, 117, 116, 32, 97, 116, 32, 101, 110, 115, 101, 109, 98, 108, 101, 47, 101, 110, 115, 101, 109, 98, 108, 101, 108, 97, 119, 49, 50, 46, 80, 114, 111, 109, 105, 115, 101, 84, 101, 108, 108, 115, 32, 101, 110, 115, 101, 109, 98, 108, 101, 47, 101, 110, 115, 101, 109, 98, 108, 101, 108, 97, 119, 49, 50, 46, 80, 114, 111, 109, 105, 115, 101, 75, 101, 101, 112, 115, 32, 101, 110, 115, 101, 109, 98, 108, 101, 47, 101, 110, 115, 101, 109, 98, 108, 101, 108, 97, 119, 49, 50, 46, 80, 114, 111, 109, 105, 115, 101, 76, 101, 115, 115, 32, 101, 110, 115, 101, 109, 98, 108, 101, 47, 101, 110, 115, 101, 109, 98, 108, 101, 108, 97, 119, 49, 50, 46, 80, 114, 111, 109, 105, 115, 101, 79, 110, 108, 121, 32, 101, 110, 115, 101, 109, 98, 108, 101, 47, 101, 110, 115, 101, 109, 98, 108, 101, 108, 97, 119, 49, 50, 46, 80, 114, 111, 109, 105, 115, 101, 82, 111, 111, 109, 32, 101, 110, 115, 101, 109, 98, 108, 101, 47, 101, 110, 115, 101, 109, 98, 108, 101, 108, 97, 119, 49, 51, 46, 70, 105, 108, 108, 84, 101, 108, 108, 115, 32, 101, 110, 115, 101, 109, 98, 108, 101, 47, 101, 110, 115, 101, 109, 98, 108, 101, 108, 97, 119, 49, 51, 46, 70, 105, 108, 108, 76, 97, 116, 101, 32, 101, 110, 115, 101, 109, 98, 108, 101, 47, 101, 110, 115, 101, 109, 98, 108, 101, 108, 97, 119, 49, 51, 46, 70, 105, 108, 108, 78, 111, 110, 101, 32, 101, 110, 115, 101, 109, 98, 108, 101, 47, 101, 110, 115, 101, 109, 98, 108, 101, 108, 97, 119, 49, 51, 46, 70, 105, 108, 108, 77, 97, 110, 121, 32, 101, 110, 115, 101, 109, 98, 108, 101, 47, 101, 110, 115, 101, 109, 98, 108, 101, 108, 97, 119, 49, 51, 46, 70, 105, 108, 108, 80, 97, 115, 116, 32, 101, 110, 115, 101, 109, 98, 108, 101, 47, 101, 110, 115, 101, 109, 98, 108, 101, 108, 97, 119, 48, 53, 46, 80, 97, 99, 107, 70, 101, 119, 32, 101, 110, 115, 101, 109, 98, 108, 101, 47, 101, 110, 115, 101, 109, 98, 108, 101, 108, 97, 119, 48, 53, 46, 80, 97, 99, 107, 70, 114, 111, 110, 116, 32, 101, 110, 115, 101, 109, 98, 108, 101, 47, 101, 110, 115, 101, 109, 98, 108, 101, 108, 97, 119, 48, 53, 46, 80, 97, 99, 107, 84, 101, 108, 108, 115, 32, 101, 110, 115, 101, 109, 98, 108, 101, 47, 101, 110, 115, 101, 109, 98, 108, 101, 108, 97, 119, 48, 53, 46, 80, 97, 99, 107, 82, 111, 111, 109, 115, 32, 101, 110, 115, 101, 109, 98, 108, 101, 47, 101, 110, 115, 101, 109, 98, 108, 101, 108, 97, 119, 48, 53, 46, 80, 97, 99, 107, 76, 101, 102, 116, 32, 101, 110, 115, 101, 109, 98, 108, 101, 47, 101, 110, 115, 101, 109, 98, 108, 101, 108, 97, 119, 48, 53, 46, 80, 97, 99, 107, 77, 111, 114, 101, 32, 101, 110, 115, 101, 109, 98, 108, 101, 47, 101, 110, 115, 101, 109, 98, 108, 101, 108, 97, 119, 48, 53, 46, 80, 97, 99, 107, 87, 104, 111, 108, 101, 32, 101, 110, 115, 101, 109, 98, 108, 101, 47, 101, 110, 115, 101, 109, 98, 108, 101, 108, 97, 119, 49, 52, 46, 69, 108, 97, 115, 116, 105, 99, 77, 111, 115, 116, 32, 101, 110, 115, 101, 109, 98, 108, 101, 47, 101, 110, 115, 101, 109, 98, 108, 101, 108, 97, 119, 49, 52, 46, 69, 108, 97, 115, 116, 105, 99, 77, 111, 114, 101, 32, 101, 110, 115, 101, 109, 98, 108, 101, 47, 101, 110, 115, 101, 109, 98, 108, 101, 108, 97, 119, 49, 52, 46, 69, 108, 97, 115, 116, 105, 99, 83, 97, 102, 101, 32, 101, 110, 115, 101, 109, 98, 108, 101, 47, 101, 110, 115, 101, 109, 98, 108, 101, 108, 97, 119, 49, 53, 46, 87, 111, 114, 107, 101, 114, 77, 97, 121, 32, 101, 110, 115, 101, 109, 98, 108, 101, 47, 101, 110, 115, 101, 109, 98, 108, 101, 108, 97, 119, 49, 53, 46, 87, 111, 114, 107, 101, 114, 82, 101, 115, 116, 115]
theorem lit : Try.checked.prog.initOrder = String.ofList letters := by kernel_rfl
theorem lits : Try.checked.prog.initOrder.toList = letters := by rw [lit]; exact String.toList_ofList
def words : List (List Char) := List.map (List.map Char.ofNat) [[99, 117, 116], [97, 116], [101, 110, 115, 101, 109, 98, 108, 101, 47, 101, 110, 115, 101, 109, 98, 108, 101, 108, 97, 119, 49, 50, 46, 80, 114, 111, 109, 105, 115, 101, 84, 101, 108, 108, 115], [101, 110, 115, 101, 109, 98, 108, 101, 47, 101, 110, 115, 101, 109, 98, 108, 101, 108, 97, 119, 49, 50, 46, 80, 114, 111, 109, 105, 115, 101, 75, 101, 101, 112, 115], [101, 110, 115, 101, 109, 98, 108, 101, 47, 101, 110, 115, 101, 109, 98, 108, 101, 108, 97, 119, 49, 50, 46, 80, 114, 111, 109, 105, 115, 101, 76, 101, 115, 115], [101, 110, 115, 101, 109, 98, 108, 101, 47, 101, 110, 115, 101, 109, 98, 108, 101, 108, 97, 119, 49, 50, 46, 80, 114, 111, 109, 105, 115, 101, 79, 110, 108, 121], [101, 110, 115, 101, 109, 98, 108, 101, 47, 101, 110, 115, 101, 109, 98, 108, 101, 108, 97, 119, 49, 50, 46, 80, 114, 111, 109, 105, 115, 101, 82, 111, 111, 109], [101, 110, 115, 101, 109, 98, 108, 101, 47, 101, 110, 115, 101, 109, 98, 108, 101, 108, 97, 119, 49, 51, 46, 70, 105, 108, 108, 84, 101, 108, 108, 115], [101, 110, 115, 101, 109, 98, 108, 101, 47, 101, 110, 115, 101, 109, 98, 108, 101, 108, 97, 119, 49, 51, 46, 70, 105, 108, 108, 76, 97, 116, 101], [101, 110, 115, 101, 109, 98, 108, 101, 47, 101, 110, 115, 101, 109, 98, 108, 101, 108, 97, 119, 49, 51, 46, 70, 105, 108, 108, 78, 111, 110, 101], [101, 110, 115, 101, 109, 98, 108, 101, 47, 101, 110, 115, 101, 109, 98, 108, 101, 108, 97, 119, 49, 51, 46, 70, 105, 108, 108, 77, 97, 110, 121], [101, 110, 115, 101, 109, 98, 108, 101, 47, 101, 110, 115, 101, 109, 98, 108, 101, 108, 97, 119, 49, 51, 46, 70, 105, 108, 108, 80, 97, 115, 116], [101, 110, 115, 101, 109, 98, 108, 101, 47, 101, 110, 115, 101, 109, 98, 108, 101, 108, 97, 119, 48, 53, 46, 80, 97, 99, 107, 70, 101, 119], [101, 110, 115, 101, 109, 98, 108, 101, 47, 101, 110, 115, 101, 109, 98, 108, 101, 108, 97, 119, 48, 53, 46, 80, 97, 99, 107, 70, 114, 111, 110, 116], [101, 110, 115, 101, 109, 98, 108, 101, 47, 101, 110, 115, 101, 109, 98, 108, 101, 108, 97, 119, 48, 53, 46, 80, 97, 99, 107, 84, 101, 108, 108, 115], [101, 110, 115, 101, 109, 98, 108, 101, 47, 101, 110, 115, 101, 109, 98, 108, 101, 108, 97, 119, 48, 53, 46, 80, 97, 99, 107, 82, 111, 111, 109, 115], [101, 110, 115, 101, 109, 98, 108, 101, 47, 101, 110, 115, 101, 109, 98, 108, 101, 108, 97, 119, 48, 53, 46, 80, 97, 99, 107, 76, 101, 102, 116], [101, 110, 115, 101, 109, 98, 108, 101, 47, 101, 110, 115, 101, 109, 98, 108, 101, 108, 97, 119, 48, 53, 46, 80, 97, 99, 107, 77, 111, 114, 101], [101, 110, 115, 101, 109, 98, 108, 101, 47, 101, 110, 115, 101, 109, 98, 108, 101, 108, 97, 119, 48, 53, 46, 80, 97, 99, 107, 87, 104, 111, 108, 101], [101, 110, 115, 101, 109, 98, 108, 101, 47, 101, 110, 115, 101, 109, 98, 108, 101, 108, 97, 119, 49, 52, 46, 69, 108, 97, 115, 116, 105, 99, 77, 111, 115, 116], [101, 110, 115, 101, 109, 98, 108, 101, 47, 101, 110, 115, 101, 109, 98, 108, 101, 108, 97, 119, 49, 52, 46, 69, 108, 97, 115, 116, 105, 99, 77, 111, 114, 101], [101, 110, 115, 101, 109, 98, 108, 101, 47, 101, 110, 115, 101, 109, 98, 108, 101, 108, 97, 119, 49, 52, 46, 69, 108, 97, 115, 116, 105, 99, 83, 97, 102, 101], [101, 110, 115, 101, 109, 98, 108, 101, 47, 101, 110, 115, 101, 109, 98, 108, 101, 108, 97, 119, 49, 53, 46, 87, 111, 114, 107, 101, 114, 77, 97, 121], [101, 110, 115, 101, 109, 98, 108, 101, 47, 101, 110, 115, 101, 109, 98, 108, 101, 108, 97, 119, 49, 53, 46, 87, 111, 114, 107, 101, 114, 82, 101, 115, 116, 115]]
theorem wordsEq : behindMainWord (wordsSigns letters) = words := by kernel_rfl
theorem behind : behindMainWord (wordsSigns Try.checked.prog.initOrder.toList) = words := by rw [lits]; exact wordsEq
theorem headLifts_of {P : Program} {ws : List (List Char)} (h : behindMainWord (wordsSigns P.initOrder.toList) = ws) (h2 : ((stripLifts liftWords ws).2.head? == some "cut".toList) = true) (h3 : (stripLifts liftWords ws).1 = []) : P.headLifts = [] := by
 unfold Program.headLifts
 rw [h]
 simp only [h2, h3, if_true]
theorem headLifts : Try.checked.prog.headLifts = [] := headLifts_of behind (by kernel_rfl) (by kernel_rfl)
theorem liftsFinal_of {P : Program} {ws : List (List Char)} (h : behindMainWord (wordsSigns P.initOrder.toList) = ws) (hl : P.headLifts = []) (h1 : (ws.head? == some "carried".toList) = false) : P.liftsFinal = false := by
 unfold Program.liftsFinal
 rw [h, hl]
 simp only [h1, Bool.false_and, List.contains_nil, Bool.or_false]
theorem liftsFinal : Try.checked.prog.liftsFinal = false := liftsFinal_of behind headLifts (by kernel_rfl)
theorem make_of {P : Program} {c : List Char} {rest : List (List Char)} (h : behindMainWord (wordsSigns P.initOrder.toList) = c :: rest) (h1 : (c == "gc".toList || c == "spec".toList) = false) (h2 : (c == "cut".toList) = true) : P.make = some .cut := by
 unfold Program.make
 rw [h]
 simp only [h1, h2, Bool.true_or, if_true, Bool.false_eq_true, if_false]
theorem make : Try.checked.prog.make = some .cut := make_of (behind.trans (show words = _ :: _ from rfl)) (by kernel_rfl) (by kernel_rfl)
theorem mayEnter_of {P : Program} {c : List Char} {rest : List (List Char)} (h : behindMainWord (wordsSigns P.initOrder.toList) = c :: rest) (h2 : ((stripLifts liftWords (c :: rest)).2.head? == some "cut".toList) = true) (h3 : (stripLifts liftWords (c :: rest)).1 = []) (h4 : P.laysLater = false) (h5 : P.bearsReflect = false) (h6 : P.doorFits [] = true) : P.mayEnter = true := by
 unfold Program.mayEnter
 rw [h]
 simp only [h2, h3, h4, h5, h6, List.contains_nil, Bool.not_false, Bool.false_or, Bool.or_true, Bool.true_or, Bool.and_true, Bool.true_and]
theorem h4 : Try.checked.prog.laysLater = false := by kernel_rfl
theorem h5 : Try.checked.prog.bearsReflect = false := by kernel_rfl
theorem h6 : Try.checked.prog.doorFits [] = true := by kernel_rfl
theorem mayEnter : Try.checked.prog.mayEnter = true := mayEnter_of (behind.trans (show words = _ :: _ from rfl)) (by kernel_rfl) (by kernel_rfl) h4 h5 h6
end Go.Proofs.Ytckhjehibjdjdaa.row0
namespace Go.Proofs.Ytckhjehibjdjdaa.elasticMost
open Go.ChangeShapes Go.WideShapes Go.ChangeAt Go.RowKit Go.Proofs.Ytckhjehibjdjdaa.P Go.Proofs.Ytckhjehibjdjdaa.Ob Go.Proofs.YtckhjehibjdjdaaW.PrintWords
open Go.ChangeMaps (open_string shut_string)
set_option linter.unusedVariables false
theorem own : ownKnob Try.prog.godebug = none := by kernel_rfl
theorem laidOut : laidOutB Try.prog = true := by kernel_rfl
set_option maxRecDepth 100000 in
theorem lifted (os : Os) (started : os.Started) (H : Type) (enc : TypeId × Value → H) :
  ReturnsInHanded {} Try.checked os 20 .any (Rows.elasticMostSpec.pre6 enc Try.prog Try.f20 Rows.elasticMostRow.domain false) (Rows.elasticMostSpec.post enc Try.prog Try.f20 false true false false) := by
 refine returnsInHanded_of_change_sized (C := Try.checked) own started (by kernel_rfl) Try.func20
  (ChangeSpec.witness6 (enc := enc) (C := Try.checked) false ⟨#[], #[.agg #[.int .i64 0, .int .i64 0, .int .i64 0, .int .i64 0, .slice none 0 0, .slice none 0 0, .slice none 0 0, .slice none 0 0, .slice none 0 0], .agg #[.int .i64 0, .int .i64 0, .int .i64 0, .int .i64 0, .int .i64 0, .int .i64 0, .int .i64 0, .int .i64 0]], []⟩ 8 (by kernel_rfl) (by kernel_rfl) (by kernel_rfl) (by kernel_rfl)) ?_
 intro W base args ds gs before hval0 hW hcnd hsz0 _
 have hval : ∀ (j : Nat) t v, Try.f20.params[j]? = some t → args[j]? = some v → Value.okWide Try.prog W .any base t v := hval0
 have hW' := hW
 obtain ⟨p, q, hA0, hV, rfl, hfz, hnd⟩ := hW
 have hA : DataW.TrodAll enc Try.prog W 0 (fun _ => true) true Try.f20.params.toList args.toList ds p := hA0
 rw [Try.params20] at hA hval
 obtain ⟨v0, vs0, d0, ds0, p0, q0, hargs, rfl, rfl, h0, r0⟩ := trodAll_cons hA
 obtain ⟨v1, vs1, d1, ds1, p1, q1, rfl, rfl, rfl, h1, r1⟩ := trodAll_cons r0
 obtain ⟨rfl, rfl, rfl⟩ := trodAll_nil r1
 obtain rfl : args = #[v0, v1] := by cases args; simp_all
 obtain ⟨rfl, rfl⟩ := trodVars_none hV
 have k0 := h0
 have lt0 : ∀ x ∈ p0, x.block < W.heap.size := by obtain ⟨m, hm⟩ := k0; exact DataW.trod_lt m _ _ _ hm
 obtain ⟨cs0, rfl, _⟩ := okWide_struct Try.underlying86 (hval 0 86 v0 rfl rfl)
 obtain ⟨x0, K0, w0⟩ := Opens.open o86 h0
 obtain ⟨A0_4, c0_4, A0_5, c0_5, A0_6, c0_6, A0_7, c0_7, A0_8, c0_8, e0, l0_4, g0_4, l0_5, g0_5, l0_6, g0_6, l0_7, g0_7, l0_8, g0_8⟩ := k86_open K0
 obtain rfl : cs0 = #[.int .i64 x0.f0, .int .i64 x0.f1, .int .i64 x0.f2, .int .i64 x0.f3, .slice A0_4 x0.f4.length c0_4, .slice A0_5 x0.f5.length c0_5, .slice A0_6 x0.f6.length c0_6, .slice A0_7 x0.f7.length c0_7, .slice A0_8 x0.f8.length c0_8] := by apply Array.toList_inj.1; exact e0
 have k1 := h1
 have lt1 : ∀ x ∈ p1, x.block < W.heap.size := by obtain ⟨m, hm⟩ := k1; exact DataW.trod_lt m _ _ _ hm
 obtain ⟨cs1, rfl, _⟩ := okWide_struct Try.underlying88 (hval 1 88 v1 rfl rfl)
 obtain ⟨x1, K1, w1⟩ := Opens.open o88 h1
 have e1 := k88_open K1
 obtain rfl : cs1 = #[.int .i64 x1.f0, .int .i64 x1.f1, .int .i64 x1.f2, .int .i64 x1.f3, .int .i64 x1.f4.f0, .int .i64 x1.f4.f1, .int .i64 x1.f4.f2, .int .i64 x1.f4.f3] := by apply Array.toList_inj.1; exact e1
 clear hA0 hval0 hsz0
 obtain ⟨k, hk⟩ := Pure.ElasticMost x0 x1 w0 w1
 refine (ensemblelaw14_ElasticMost.calls k (x0.f0) (x0.f1) (x0.f2) (x0.f3) _ _ (x0.f4) _ _ (x0.f5) _ _ (x0.f6) _ _ (x0.f7) _ _ (x0.f8) (x1.f0) (x1.f1) (x1.f2) (x1.f3) (x1.f4.f0) (x1.f4.f1) (x1.f4.f2) (x1.f4.f3) true W g0_4 l0_4 g0_5 l0_5 g0_6 l0_6 g0_7 l0_7 g0_8 l0_8 hk).mono fun e W' ⟨he, bel⟩ => ?_
 subst he
 exact ⟨_, rfl, _, _, _, [], _, [], hW', trodAll_mk1 (shut_bool Try.underlying4 _), (trodAll_cons_mk (Below.trod laidOut (by kernel_rfl) (of_decide_eq_true (by kernel_rfl)) k0 bel lt0) (trodAll_cons_mk (Below.trod laidOut (by kernel_rfl) (of_decide_eq_true (by kernel_rfl)) k1 bel lt1) trodAll_mk0)), rfl, bel.frame _, fun h => by cases h⟩
set_option maxHeartbeats 8000000 in
theorem closedFacts : joinedFacts Try.checked.prog 20 Try.f20 Rows.elasticMostSpec Rows.elasticMostRow = true := by
 unfold joinedFacts
 repeat' (with_reducible (apply row0.and_mk))
 all_goals first | (with_reducible exact row0.mayEnter) | (rw [row0.liftsFinal]; kernel_rfl) | (rw [row0.make]; kernel_rfl) | (as_aux_lemma => kernel_rfl)
theorem over : Rows.elasticMostRow.holds Try.pinned (OpenSpec.ofChange Rows.elasticMostSpec) :=
 OpenClaim.holds_of_wide 20 Try.f20 rfl rfl rfl rfl rfl rfl rfl ⟨rfl, rfl, rfl, rfl, rfl⟩ rfl rfl rfl rfl rfl (by kernel_rfl) Try.func20 closedFacts
  (of_decide_eq_true (by kernel_rfl)) (by unfold Func.isWrapper; first | (rw [if_pos (by decide +kernel)]; kernel_rfl) | (rw [if_neg (by decide +kernel)]; exact ⟨rfl, rfl⟩))
  (fun os started H enc _ => lifted os started H enc)
theorem proved : Rows.ElasticMostSaid := over
#print axioms proved
end Go.Proofs.Ytckhjehibjdjdaa.elasticMost
namespace Go.Proofs.Ytckhjehibjdjdaa
theorem elasticMost_holds : Rows.ElasticMostSaid := elasticMost.proved
end Go.Proofs.Ytckhjehibjdjdaa
