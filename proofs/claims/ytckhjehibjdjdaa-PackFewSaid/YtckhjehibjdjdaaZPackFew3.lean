/- PackFew: part 3 of the walk and of the plain law that it comes to. No condition. -/
import Derived.Test.YtckhjehibjdjdaaZPackFew2
import Derived.ArgAppend
import Derived.Below
import Derived.BigQuiet
import Derived.BigRegion
import Derived.Carry
import Derived.ChangeOld
import Derived.Deep.AppendLies
import Derived.Deep.CutBlock
import Derived.Deep.DeepCutAuto
import Derived.Deep.Draws
import Derived.Deep.LoopGhost
import Derived.Deep.OwnRows
import Derived.Deep.QuietTactic
import Derived.Deep.RegionHeld3
import Derived.Deep.Slices
import Derived.DeepKeys3
import Derived.DeepKeys4
import Derived.KernelRfl
import Derived.Laws.Bits64
import Derived.Laws.Bits64b
import Derived.Laws.BitsLemmas
import Derived.Laws.BytesArg
import Derived.Laws.Externs
import Derived.Laws.IdiomCopy
import Derived.Laws.MakeOwn
import Derived.Laws.OwnMore
import Derived.Laws.Rows
import Derived.Laws.Slices
import Derived.Lib.AppendStr
import Derived.Lib.ConvBytes
import Derived.Lib.ReflectliteSlice
import Derived.Lib.ReflectliteSwap
import Derived.Lib.SliceRun
import Derived.LoopIn
import Derived.LoopN
import Derived.LoopNIn
import Derived.Maps.AppendAt
import Derived.Maps.Keyed
import Derived.Maps.Own
import Derived.Maps.OwnOps
import Derived.Maps.OwnSet
import Derived.Maps.Views
import Derived.OpenShut
import Derived.OrdersHeld
import Derived.Outline
import Derived.OwnWalk
import Derived.OwnWalkIn
import Derived.ProofKit
import Derived.RangeFuncBound
import Derived.RangeFuncBox
import Derived.RangeFuncCalls
import Derived.RangeFuncFrom
import Derived.RangeFuncLeaves
import Derived.RowKit
import Derived.RowKit3
import Derived.Shelf.Abstract
import Derived.Shelf.RegionOpen
import Derived.ShutString
import Derived.SizedLaws
import Derived.StillTailTactics
import Derived.Tactics
import Derived.TacticsInMore
import Derived.WalkKit
import Derived.WideKeyEntry
import Derived.WideLaws
set_option linter.unusedVariables false
set_option linter.unusedSimpArgs false
namespace Go.Proofs.Ytckhjehibjdjdaa.P
open Go.RowKit Go.Proofs.YtckhjehibjdjdaaW.PrintWords Go.Proofs.YtckhjehibjdjdaaW.PrintLast Go.Proofs.YtckhjehibjdjdaaW.PrintMore
open Go.Proofs.Ytckhjehibjdjdaa.Bits Go.Proofs.Ytckhjehibjdjdaa.Mp
def popS (l : List S52) : Int := (l.map fun s => popI s.f1).sum
def cpS (l : List S52) : Int := (l.map fun s => s.f2).sum
def I64P (a : Int × Int) : Prop := (-9223372036854775808 ≤ a.1 ∧ a.1 ≤ 9223372036854775807) ∧ -9223372036854775808 ≤ a.2 ∧ a.2 ≤ 9223372036854775807
theorem wrap_bd (x : Int) : -9223372036854775808 ≤ wrap64 x ∧ wrap64 x ≤ 9223372036854775807 := by unfold wrap64; omega
theorem wrap_add (a b : Int) : wrap64 (wrap64 a + b) = wrap64 (a + b) := by unfold wrap64; omega
theorem wrap_add' (a b : Int) : wrap64 (a + wrap64 b) = wrap64 (a + b) := by unfold wrap64; omega
theorem addL_true : ∀ (l : List S52) (a : Int × Int), I64P a → addL true a l = (wrap64 (a.1 + popS l), wrap64 (a.2 + cpS l))
 | [], a, h => by
  unfold I64P at h
  have e1 : wrap64 (a.1 + popS []) = a.1 := by rw [show popS [] = 0 from rfl, Int.add_zero]; exact w_id (by omega)
  have e2 : wrap64 (a.2 + cpS []) = a.2 := by rw [show cpS [] = 0 from rfl, Int.add_zero]; exact w_id (by omega)
  rw [e1, e2]; rfl
 | s :: l, a, h => by
  have e : addL true a (s :: l) = addL true (addU true a s) l := rfl
  have e2 : addU true a s = (wrap64 (a.1 + popI s.f1), wrap64 (a.2 + s.f2)) := if_pos rfl
  rw [e, e2, addL_true l _ ⟨wrap_bd _, wrap_bd _⟩]
  simp only
  rw [wrap_add, wrap_add]
  simp only [popS, cpS, List.map_cons, List.sum_cons]
  rw [Int.add_assoc, Int.add_assoc]
theorem addL_false (l : List S52) : ∀ a : Int × Int, addL false a l = a := by
 induction l with
 | nil => intro a; rfl
 | cons s l ih => intro a; exact ih a
theorem addL_left (l : List S52) (a : Int × Int) (h : I64P a) : addL true a l = (wrap64 (a.1 + (addL true (0, 0) l).1), wrap64 (a.2 + (addL true (0, 0) l).2)) := by
 rw [addL_true l a h, addL_true l (0, 0) ⟨by simp, by simp⟩]
 simp only
 rw [wrap_add', wrap_add', Int.zero_add, Int.zero_add]
def qPop (q : Int) (L : List S41) : Int := ((L.filter fun h => decide (h.f1 = q)).map fun h => popS h.f4).sum
def qCp (q : Int) (L : List S41) : Int := ((L.filter fun h => decide (h.f1 = q)).map fun h => cpS h.f4).sum
theorem leftQ_eq (q : Int) : ∀ (L : List S41) (a : Int × Int), I64P a → leftQ q a L = (wrap64 (a.1 + qPop q L), wrap64 (a.2 + qCp q L))
 | [], a, h => by
  unfold I64P at h
  have e1 : wrap64 (a.1 + qPop q []) = a.1 := by rw [show qPop q [] = 0 from rfl, Int.add_zero]; exact w_id (by omega)
  have e2 : wrap64 (a.2 + qCp q []) = a.2 := by rw [show qCp q [] = 0 from rfl, Int.add_zero]; exact w_id (by omega)
  rw [e1, e2]; rfl
 | x :: L, a, h => by
  rw [leftQ]
  by_cases hq : x.f1 = q
  ·rw [if_pos hq, ← addL_left x.f4 a h, addL_true x.f4 a h, leftQ_eq q L _ ⟨wrap_bd _, wrap_bd _⟩]
   simp only
   rw [wrap_add, wrap_add]
   unfold qPop qCp
   rw [List.filter_cons_of_pos (by simpa using hq), List.map_cons, List.map_cons, List.sum_cons, List.sum_cons, Int.add_assoc, Int.add_assoc]
  ·rw [if_neg hq, leftQ_eq q L a h]
   unfold qPop qCp
   rw [List.filter_cons_of_neg (by simpa using hq)]
theorem leftQ_perm {q : Int} {L L' : List S41} (h : L.Perm L') (a : Int × Int) (ha : I64P a) : leftQ q a L = leftQ q a L' := by
 rw [leftQ_eq q L a ha, leftQ_eq q L' a ha]
 unfold qPop qCp
 rw [perm_sum ((h.filter _).map _), perm_sum ((h.filter _).map fun h => cpS h.f4)]
theorem leftQ_snoc (q : Int) : ∀ (L : List S41) (x : S41) (a : Int × Int), I64P a → leftQ q a (L ++ [x]) = addL (decide (x.f1 = q)) (leftQ q a L) x.f4
 | [], x, a, h => by
  rw [List.nil_append, leftQ, leftQ, leftQ]
  by_cases hq : x.f1 = q
  ·rw [if_pos hq, decide_eq_true hq, addL_left x.f4 a h]
  ·rw [if_neg hq, decide_eq_false hq, addL_false]
 | y :: L, x, a, h => by
  rw [List.cons_append, leftQ, leftQ]
  refine leftQ_snoc q L x _ ?_
  split
  ·exact ⟨wrap_bd _, wrap_bd _⟩
  ·exact h
def IsBest (A : Int → Bool) (t : Int) (L : List S41) (b : Int) : Prop :=
 (b = 1073741825 ∨ ∃ h ∈ L, h.f2 = b ∧ t < b ∧ b < 1073741825 ∧ A b = true) ∧ b ≤ 1073741825 ∧ ∀ h ∈ L, t < h.f2 → h.f2 < 1073741825 → A h.f2 = true → b ≤ h.f2
def IsE (A : Int → Bool) (t : Int) (L : List S41) (b : Int) : Prop := (A t = true ∧ b = t) ∨ (A t = false ∧ IsBest A t L b)
theorem bestF_spec (A : Int → Bool) (now : Int) : ∀ (l : List S41) (b : Int), (bestF A now b l = b ∨ ∃ h ∈ l, h.f2 = bestF A now b l ∧ now < bestF A now b l ∧ bestF A now b l < b ∧ A (bestF A now b l) = true) ∧ bestF A now b l ≤ b ∧ ∀ h ∈ l, now < h.f2 → h.f2 < b → A h.f2 = true → bestF A now b l ≤ h.f2
 | [], b => ⟨.inl rfl, Int.le_refl _, by simp⟩
 | x :: l, b => by
  rw [bestF]
  by_cases h : x.f2 > now ∧ x.f2 < b ∧ A x.f2 = true
  ·rw [if_pos h]
   obtain ⟨i1, i2, i3⟩ := bestF_spec A now l x.f2
   refine ⟨.inr ?_, by omega, fun y hy h1 h2 h3 => ?_⟩
   ·rcases i1 with i1 | ⟨y, hy, i4, i5, i6, i7⟩
    ·exact ⟨x, by simp, i1.symm, by omega, by omega, by rw [i1]; exact h.2.2⟩
    ·exact ⟨y, by simp [hy], i4, i5, by omega, i7⟩
   ·rcases List.mem_cons.1 hy with rfl | hy
    ·exact i2
    ·by_cases hlt : y.f2 < x.f2
     ·exact i3 y hy h1 hlt h3
     ·omega
  ·rw [if_neg h]
   obtain ⟨i1, i2, i3⟩ := bestF_spec A now l b
   refine ⟨?_, i2, fun y hy h1 h2 h3 => ?_⟩
   ·rcases i1 with i1 | ⟨y, hy, i4⟩
    ·exact .inl i1
    ·exact .inr ⟨y, by simp [hy], i4⟩
   ·rcases List.mem_cons.1 hy with rfl | hy
    ·exact absurd ⟨h1, h2, h3⟩ h
    ·exact i3 y hy h1 h2 h3
theorem bestF_best (A : Int → Bool) (now : Int) (l : List S41) : IsBest A now l (bestF A now 1073741825 l) := bestF_spec A now l 1073741825
theorem IsBest.uniq {A : Int → Bool} {t : Int} {L L' : List S41} {b b' : Int} (h : IsBest A t L b) (h' : IsBest A t L' b') (hm : ∀ x, x ∈ L ↔ x ∈ L') : b = b' := by
 obtain ⟨h1, h2, h3⟩ := h
 obtain ⟨k1, k2, k3⟩ := h'
 have a : b ≤ b' := by
  rcases k1 with rfl | ⟨x, hx, rfl, k4, k5, k6⟩
  ·exact h2
  ·exact h3 x ((hm x).2 hx) k4 k5 k6
 have a' : b' ≤ b := by
  rcases h1 with rfl | ⟨x, hx, rfl, k4, k5, k6⟩
  ·exact k2
  ·exact k3 x ((hm x).1 hx) k4 k5 k6
 omega
theorem IsE.uniq {A : Int → Bool} {t : Int} {L L' : List S41} {b b' : Int} (h : IsE A t L b) (h' : IsE A t L' b') (hm : ∀ x, x ∈ L ↔ x ∈ L') : b = b' := by
 rcases h with ⟨h1, h2⟩ | ⟨h1, h2⟩ <;> rcases h' with ⟨k1, k2⟩ | ⟨k1, k2⟩
 ·omega
 ·rw [h1] at k1; cases k1
 ·rw [h1] at k1; cases k1
 ·exact h2.uniq k2 hm
theorem slotsOf_perm {a b : List S41} (h : a.Perm b) : (b9_ a).Perm (b9_ b) := by
 induction h with
 | nil => exact List.Perm.refl _
 | cons x _ ih => rw [slotsOf_cons, slotsOf_cons]; exact ih.append_left _
 | swap x y l =>
  rw [slotsOf_cons, slotsOf_cons, slotsOf_cons, slotsOf_cons, ← List.append_assoc, ← List.append_assoc]
  exact List.perm_append_comm.append_right _
 | trans _ _ h1 h2 => exact h1.trans h2
structure Fine (view : List S51) (lg lc : Int) (ends : List S41) : Prop where
 V : View view
 I : Inp view ends
 L : I64P (lg, lc)
 ok : okS view (b9_ ends)
theorem Fine.turn {view : List S51} {lg lc : Int} {ends : List S41} (F : Fine view lg lc ends) {l l' : List S52} (hp : l'.Perm (b9_ ends)) (hs : l.Sublist l') :
  (turnF moreE moreF view l).2 = 0 ∧ (turnF moreE moreF view l).1 = viewS view l := by
 have hm : ∀ s ∈ l, maskOk s = true := fun s h => F.I.sm s (hp.mem_iff.1 (hs.subset h))
 have h := turnF_iff l view F.V hm
 have h0 := h.1.2 (okS_sub hs (okS_perm hp.symm F.ok))
 exact ⟨h0, h.2 h0⟩
theorem ended_append (T : Int) (a b : List S41) : ended T (a ++ b) = ended T a ++ ended T b := List.filter_append ..
theorem ended_all {T : Int} {l : List S41} (h : ∀ x ∈ l, x.f2 ≤ T) : ended T l = l := List.filter_eq_self.2 fun x hx => by simpa using h x hx
theorem ended_none {T : Int} {l : List S41} (h : ∀ x ∈ l, T < x.f2) : ended T l = [] := List.filter_eq_nil_iff.2 fun x hx => by have := h x hx; simp; omega
theorem fits_pre {view : List S51} {lg lc : Int} {ends : List S41} (F : Fine view lg lc ends) (q m g c mn mx T : Int) {S pre l : List S41} (hS : S.Perm ends) (he : S = pre ++ l) (h1 : ∀ x ∈ pre, x.f2 ≤ T) (h2 : ∀ x ∈ l, T < x.f2) :
  fitsB (turnF moreE moreF view (b9_ pre)).1 (leftQ q (lg, lc) pre).1 (leftQ q (lg, lc) pre).2 m g c mn mx = atB view lg lc ends q m g c mn mx T := by
 have hp : pre.Perm (ended T ends) := by
  have h := hS.filter (fun h => decide (h.f2 ≤ T))
  have e : S.filter (fun h => decide (h.f2 ≤ T)) = pre := by
   show ended T S = pre
   rw [he, ended_append, ended_all h1, ended_none h2, List.append_nil]
  rw [e] at h
  exact h
 have t1 := F.turn (l := b9_ pre) (slotsOf_perm hS) (by rw [he, slotsOf_append]; exact List.sublist_append_left _ _)
 have t2 := F.turn (l := b9_ (ended T ends)) (List.Perm.refl _) (sub_slots List.filter_sublist)
 unfold atB
 rw [t1.2, t2.2, viewS_perm (slotsOf_perm hp), leftQ_perm hp (lg, lc) F.L]
theorem goE_is {view : List S51} {lg lc : Int} {ends : List S41} (F : Fine view lg lc ends) (q m g c mn mx : Int) {S : List S41} (hS : S.Perm ends) (hsort : S.Pairwise fun a b => a.f2 ≤ b.f2) :
  ∀ (l pre : List S41) (t : Int), S = pre ++ l → (∀ x ∈ pre, x.f2 ≤ t) → IsE (atB view lg lc ends q m g c mn mx) t S (goE q m g c mn mx l t (turnF moreE moreF view (b9_ pre)).1 (leftQ q (lg, lc) pre))
 | [], pre, t, he, h1 => by
  have hf := fits_pre F q m g c mn mx t hS he h1 (by simp)
  rw [goE, hf]
  cases hA : atB view lg lc ends q m g c mn mx t with
  | true => exact .inl ⟨hA, if_pos rfl⟩
  | false =>
   refine .inr ⟨hA, ?_⟩
   rw [if_neg (by decide)]
   refine ⟨.inl rfl, Int.le_refl _, fun h hh h2 => ?_⟩
   rw [he, List.append_nil] at hh
   have := h1 h hh
   omega
 | x :: l, pre, t, he, h1 => by
  have hx : ∀ y ∈ l, x.f2 ≤ y.f2 := by
   rw [he] at hsort
   exact (List.pairwise_cons.1 (List.pairwise_append.1 hsort).2.1).1
  have he' : S = (pre ++ [x]) ++ l := by rw [he]; simp
  have t1 := F.turn (l := b9_ pre) (slotsOf_perm hS) (by rw [he, slotsOf_append]; exact List.sublist_append_left _ _)
  have hsp : ((turnF moreE moreF view (b9_ pre)).1.map spot).Nodup := by
   rw [t1.2]
   have : (viewS view (b9_ pre)).map spot = view.map spot := by
    unfold viewS
    rw [List.map_map]
    apply List.map_congr_left
    intro f _
    simp only [Function.comp_apply]
    generalize atS f (b9_ pre) = sl
    have : ∀ (sl : List S52) (f : S51), spot (sl.foldl moreF f) = spot f := fun sl => by
     induction sl with
     | nil => intro f; rfl
     | cons s sl ih => intro f; rw [List.foldl_cons, ih]; rfl
    exact this sl f
   rw [this]; exact F.V.right.2
  have hv : (turned51 moreE moreF (turnF moreE moreF view (b9_ pre)).1 x.f4).1 = (turnF moreE moreF view (b9_ (pre ++ [x]))).1 := by
   rw [turned51_find (F := moreF) (fun _ _ => rfl) hsp, slotsOf_append, show b9_ [x] = x.f4 by simp [b9_], turnF_append _ _ _ t1.1]
  have hl := leftQ_snoc q pre x (lg, lc) F.L
  have IH := goE_is F q m g c mn mx hS hsort l (pre ++ [x])
  rw [goE, hv, ← hl]
  by_cases h2 : x.f2 > t
  ·have hgt : ∀ y ∈ x :: l, t < y.f2 := fun y hy => by
    rcases List.mem_cons.1 hy with rfl | hy
    ·exact h2
    ·have := hx y hy; omega
   have hf := fits_pre F q m g c mn mx t hS he h1 hgt
   rw [if_pos h2, hf]
   cases hA : atB view lg lc ends q m g c mn mx t with
   | true => exact .inl ⟨hA, if_pos rfl⟩
   | false =>
    rw [if_neg (by decide)]
    refine .inr ⟨hA, ?_⟩
    by_cases h3 : x.f2 ≥ 1073741825
    ·rw [if_pos h3]
     refine ⟨.inl rfl, Int.le_refl _, fun y hy h4 h5 => ?_⟩
     rw [he] at hy
     rcases List.mem_append.1 hy with hy | hy
     ·have := h1 y hy; omega
     ·rcases List.mem_cons.1 hy with rfl | hy
      ·omega
      ·have := hx y hy; omega
    ·rw [if_neg h3]
     have i := IH x.f2 he' (fun y hy => by
      rcases List.mem_append.1 hy with hy | hy
      ·have := h1 y hy; omega
      ·rw [List.mem_singleton.1 hy]; exact Int.le_refl _)
     generalize goE q m g c mn mx l x.f2 (turnF moreE moreF view (b9_ (pre ++ [x]))).1 (leftQ q (lg, lc) (pre ++ [x])) = r at *
     have hxS : x ∈ S := by rw [he]; simp
     have hmem : ∀ y ∈ S, t < y.f2 → x.f2 ≤ y.f2 := fun y hy h => by
      rw [he] at hy
      rcases List.mem_append.1 hy with hy | hy
      ·have := h1 y hy; omega
      ·rcases List.mem_cons.1 hy with rfl | hy
       ·exact Int.le_refl _
       ·exact hx y hy
     rcases i with ⟨i1, rfl⟩ | ⟨i1, i2, i3, i4⟩
     ·exact ⟨.inr ⟨x, hxS, rfl, h2, by omega, i1⟩, by omega, fun y hy h _ _ => hmem y hy h⟩
     ·refine ⟨?_, i3, fun y hy h4 h5 h6 => ?_⟩
      ·rcases i2 with i2 | ⟨y, hy, j1, j2, j3, j4⟩
       ·exact .inl i2
       ·exact .inr ⟨y, hy, j1, by omega, j3, j4⟩
      ·have h7 := hmem y hy h4
       by_cases h8 : x.f2 = y.f2
       ·rw [← h8, i1] at h6; cases h6
       ·exact i4 y hy (by omega) h5 h6
  ·rw [if_neg h2]
   exact IH t he' (fun y hy => by
    rcases List.mem_append.1 hy with hy | hy
    ·exact h1 y hy
    ·rw [List.mem_singleton.1 hy]; omega)
theorem goE_early {view : List S51} {lg lc : Int} {ends : List S41} (F : Fine view lg lc ends) (q m g c mn mx now : Int) :
  IsE (atB view lg lc ends q m g c mn mx) now ends (goE q m g c mn mx (isort skey41 ends) now view (lg, lc)) := by
 have hp := isort_perm skey41 ends
 have h := goE_is F q m g c mn mx hp (isort_sorted skey41 ends) (isort skey41 ends) [] now rfl (by simp)
 have e : (turnF moreE moreF view (b9_ [])).1 = view := rfl
 have e2 : leftQ q (lg, lc) [] = (lg, lc) := rfl
 rw [e, e2] at h
 rcases h with h | ⟨h1, h2, h3, h4⟩
 ·exact .inl h
 ·refine .inr ⟨h1, ?_, h3, fun y hy => h4 y (hp.mem_iff.2 hy)⟩
  rcases h2 with h2 | ⟨y, hy, h5⟩
  ·exact .inl h2
  ·exact .inr ⟨y, hp.mem_iff.1 hy, h5⟩
theorem refEarly_is {view : List S51} {lg lc : Int} {ends : List S41} (q m g c mn mx now : Int) (h0 : ¬ (now < 0 ∨ now > 1073741824 ∨ rightB m g c mn mx = false)) (hok : (turnF moreE moreF view (b9_ ends)).2 = 0) :
  ∃ b, refEarly now view lg lc ends q m g c mn mx = (b, 0) ∧ IsE (atB view lg lc ends q m g c mn mx) now ends b := by
 unfold refEarly
 rw [if_neg h0, if_neg (fun x => x hok)]
 cases hA : atB view lg lc ends q m g c mn mx now with
 | true => exact ⟨now, by simp, .inl ⟨hA, rfl⟩⟩
 | false => exact ⟨bestF (atB view lg lc ends q m g c mn mx) now 1073741825 ends, by simp, .inr ⟨hA, bestF_best _ _ _⟩⟩
theorem early_ref {view : List S51} {lg lc : Int} {ends : List S41} (V : View view) (I : Inp view ends) (L : I64P (lg, lc)) (now q m g c mn mx : Int) :
  earliestB now view lg lc ends q m g c mn mx = refEarly now view lg lc ends q m g c mn mx := by
 have ht : turned51 moreE moreF view (b9_ ends) = turnF moreE moreF view (b9_ ends) := turned51_find (F := moreF) (fun _ _ => rfl) V.right.2 _
 by_cases h0 : now < 0 ∨ now > 1073741824 ∨ rightB m g c mn mx = false
 ·unfold earliestB refEarly
  rw [if_pos h0, if_pos h0]
 by_cases h1 : (turnF moreE moreF view (b9_ ends)).2 = 0
 ·have F : Fine view lg lc ends := ⟨V, I, L, ((turnF_iff _ view V I.sm).1).1 h1⟩
  obtain ⟨b, hb, hE⟩ := refEarly_is (lg := lg) (lc := lc) q m g c mn mx now h0 h1
  rw [hb]
  unfold earliestB
  rw [if_neg h0, show (ends.flatMap fun h => h.f4) = b9_ ends from rfl, ht, if_neg (fun x => x h1)]
  rw [(goE_early F q m g c mn mx now).uniq hE (fun _ => Iff.rfl)]
 ·unfold earliestB refEarly
  rw [if_neg h0, if_neg h0, show (ends.flatMap fun h => h.f4) = b9_ ends from rfl, ht, if_pos h1, if_pos h1]
end Go.Proofs.Ytckhjehibjdjdaa.P
namespace Go.Proofs.Ytckhjehibjdjdaa.P
open Go.RowKit Go.Shelf Go.Proofs.YtckhjehibjdjdaaW.PrintWords Go.Proofs.YtckhjehibjdjdaaW.PrintLast Go.Proofs.YtckhjehibjdjdaaW.PrintMore
attribute [local go_sem] Oper.semAt_some



theorem KP.trans {w W W' : World} {S : Nat → Prop} (h : KP w W S) (h' : KP W W' S) : KP w W' S :=
 ⟨⟨Nat.le_trans h.kept.1 h'.kept.1, fun i hi hs => (h'.kept.2 i (Nat.lt_of_lt_of_le hi h.kept.1) hs).trans (h.kept.2 i hi hs)⟩, h'.os.trans h.os, h'.tape.trans h.tape, h'.output.trans h.output⟩
end Go.Proofs.Ytckhjehibjdjdaa.P
namespace Go.Proofs.Ytckhjehibjdjdaa.P
open Go.RowKit Go.Proofs.YtckhjehibjdjdaaW.PrintWords Go.Proofs.YtckhjehibjdjdaaW.PrintLast Go.Proofs.YtckhjehibjdjdaaW.PrintMore
attribute [local go_sem] max2_int min2_int max_two min_two max_three min_three max_four min_four
end Go.Proofs.Ytckhjehibjdjdaa.P
namespace Go.Proofs.Ytckhjehibjdjdaa.P
open Go.RowKit Go.Proofs.YtckhjehibjdjdaaW.PrintWords Go.Proofs.YtckhjehibjdjdaaW.PrintLast Go.Proofs.YtckhjehibjdjdaaW.PrintMore
open Go.Proofs.Ytckhjehibjdjdaa.Bits Go.Proofs.Ytckhjehibjdjdaa.Mp
theorem free_of_wf {f : S51} (h : wfd51 f) : freeOk f = true ∧ (w64B f.f0.f0 && w64B f.f0.f1) = true := by
 unfold wfd51 wfd48 I64 U64 at h
 constructor
 ·unfold freeOk w64B
  rw [decide_eq_true (by omega), decide_eq_true (by omega), decide_eq_true (by omega), decide_eq_true (by omega)]; rfl
 ·unfold w64B
  rw [decide_eq_true (by omega), decide_eq_true (by omega), decide_eq_true (by omega), decide_eq_true (by omega)]; rfl
theorem slots_len {n : Nat} : ∀ {ends : List S41}, (∀ h ∈ ends, h.f4.length ≤ n) → (b9_ ends).length ≤ n * ends.length
 | [], _ => by simp [b9_]
 | x :: l, h => by
  have h1 := h x (by simp)
  have h2 := slots_len (ends := l) (fun y hy => h y (by simp [hy]))
  rw [slotsOf_cons, List.length_append, List.length_cons, Nat.mul_succ]
  omega
structure Setup (view : List S51) (lg lc : Int) (ends : List S41) : Prop where
 V : View view
 I : Inp view ends
 L : I64P (lg, lc)
 vo : viewOk view
 so : ∀ s ∈ b9_ ends, (w64B s.f0.f0 && w64B s.f0.f1) = true
 el : ends.length ≤ 20
 vl : view.length ≤ 70
 hl : ∀ h ∈ ends, h.f4.length ≤ 20
 lb : (-1048576 ≤ lg ∧ lg ≤ 1048576) ∧ -1048576 ≤ lc ∧ lc ≤ 1048576
theorem okE_mk {view : List S51} {ends : List S41} (hv : viewOk view) (hn : ends.length ≤ 1000) (hm : ∀ s ∈ b9_ ends, maskOk s = true) (hs : ∀ s ∈ b9_ ends, (w64B s.f0.f0 && w64B s.f0.f1) = true) (hl : (b9_ ends).length < 4000000000) : okE view ends = true := by
 unfold okE spotsOk
 rw [show (ends.flatMap fun h => h.f4) = b9_ ends from rfl, decide_eq_true hn, decide_eq_true hv.1, decide_eq_true hl, List.all_eq_true.2 hv.2.1, List.all_eq_true.2 hv.2.2, List.all_eq_true.2 hm, List.all_eq_true.2 hs]
 rfl
theorem Setup.early {view : List S51} {lg lc : Int} {ends : List S41} (S : Setup view lg lc ends) (now q m g c mn mx : Int) :
  promise_Earliest.f now view lg lc ends q m g c mn mx = some (refEarly now view lg lc ends q m g c mn mx) := by
 unfold promise_Earliest.f
 rw [if_pos (okE_mk S.vo (Nat.le_trans S.el (by decide)) S.I.sm S.so S.I.es), early_ref S.V S.I S.L]
theorem popS_cons (s : S52) (l : List S52) : popS (s :: l) = popI s.f1 + popS l := by simp [popS]
theorem cpS_cons (s : S52) (l : List S52) : cpS (s :: l) = s.f2 + cpS l := by simp [cpS]
def cpMax (l : List S52) : Prop := ∀ s ∈ l, 0 ≤ s.f2 ∧ s.f2 ≤ 1048576
theorem max_until : ∀ (l : List S41), l ≠ [] → ∃ x ∈ l, ∀ y ∈ l, y.f2 ≤ x.f2
 | [], h => absurd rfl h
 | [x], _ => ⟨x, by simp, by simp⟩
 | x :: y :: l, _ => by
  obtain ⟨z, hz, h⟩ := max_until (y :: l) (by simp)
  by_cases hxz : x.f2 ≤ z.f2
  ·exact ⟨z, by simp [List.mem_cons.1 hz], fun u hu => by
    rcases List.mem_cons.1 hu with rfl | hu
    ·exact hxz
    ·exact h u hu⟩
  ·exact ⟨x, by simp, fun u hu => by
    rcases List.mem_cons.1 hu with rfl | hu
    ·exact Int.le_refl _
    ·have := h u hu; omega⟩
theorem IsE.le {view : List S51} {lg lc : Int} {ends : List S41} {q m g c mn mx now T b : Int} (h : IsE (atB view lg lc ends q m g c mn mx) now ends b) (hT : now ≤ T) (hN : T < 1073741825) (hA : atB view lg lc ends q m g c mn mx T = true) : b ≤ T := by
 rcases h with ⟨_, rfl⟩ | ⟨h0, h1, h2, h3⟩
 ·exact hT
 by_cases hne : ended T ends = []
 ·have : ended now ends = [] := List.filter_eq_nil_iff.2 fun x hx => by
   have := List.filter_eq_nil_iff.1 hne x hx
   simp at this ⊢; omega
  unfold atB at hA h0
  rw [hne] at hA
  rw [this, hA] at h0
  cases h0
 ·obtain ⟨x, hx, hmax⟩ := max_until _ hne
  have hxm := List.mem_filter.1 hx
  have hxT : x.f2 ≤ T := by simpa using hxm.2
  have heq : ∀ U, x.f2 ≤ U → U ≤ T → ended U ends = ended T ends := fun U h4 h5 => by
   unfold ended
   apply List.filter_congr
   intro y hy
   rw [Bool.eq_iff_iff]
   simp only [decide_eq_true_eq]
   constructor
   ·omega
   ·intro h6
    have := hmax y (List.mem_filter.2 ⟨hy, by simpa using h6⟩)
    omega
  by_cases hxn : x.f2 ≤ now
  ·have := heq now hxn hT
   unfold atB at hA h0
   rw [this, hA] at h0
   cases h0
  ·have hAx : atB view lg lc ends q m g c mn mx x.f2 = true := by
    unfold atB at hA ⊢
    rw [heq x.f2 (Int.le_refl _) hxT]; exact hA
   have := h3 x hxm.1 (by omega) (by omega) hAx
   omega
theorem IsE.at {A : Int → Bool} {now b : Int} {L : List S41} (h : IsE A now L b) (hb : b < 1073741825) : A b = true := by
 rcases h with ⟨h1, rfl⟩ | ⟨_, h1, _⟩
 ·exact h1
 ·rcases h1 with rfl | ⟨_, _, _, _, _, h2⟩
  ·omega
  ·exact h2
end Go.Proofs.Ytckhjehibjdjdaa.P
namespace Go.Proofs.Ytckhjehibjdjdaa.P
open Go.RowKit Go.Shelf Go.Proofs.YtckhjehibjdjdaaW.PrintWords Go.Proofs.YtckhjehibjdjdaaW.PrintLast Go.Proofs.YtckhjehibjdjdaaW.PrintMore
open Go.Proofs.Ytckhjehibjdjdaa.Bits
attribute [local go_sem] Oper.semAt_some
def subU (a : Int × Int) (s : S52) : Int × Int := (wrap64 (a.1 - popI s.f1), wrap64 (a.2 - s.f2))
def subL (a : Int × Int) (l : List S52) : Int × Int := l.foldl subU a
def maskAll (l : List S52) : Bool := l.all maskOk && decide (l.length < 1000000000)
def fill_take.f (a0_0 a0_1 : Int) (l1 : List (S52)) : Option (Int × Int) := if maskAll l1 = true then some (subL (a0_0, a0_1) l1) else none
end Go.Proofs.Ytckhjehibjdjdaa.P
namespace Go.Proofs.Ytckhjehibjdjdaa.P
open Go.RowKit Go.Proofs.YtckhjehibjdjdaaW.PrintWords Go.Proofs.YtckhjehibjdjdaaW.PrintLast Go.Proofs.YtckhjehibjdjdaaW.PrintMore
def Sh {α : Type} (k : Kd α) (e : TypeId) (w W : World) (base : Nat) (v : Value) (l : List α) : Prop :=
 ∃ rows : List (List Value), rows.length = l.length ∧ (Kd.raw k.sz).R e W base (fun _ => True) v rows ∧ ∀ (j : Nat) (y : α) (c : List Value), l[j]? = some y → rows[j]? = some c → k.K w y c
section
variable {α : Type} {k : Kd α} {e base : Nat} {w W W' : World} {v : Value} {l : List α}
theorem Sh.nil : Sh k e w W base (.slice none 0 0) [] := ⟨[], rfl, Kd.R_nil _ _ _ _ _, fun j y c h => by simp at h⟩
theorem Sh.step (h : Sh k e w W base v l) (hb : Below W.heap.size W W') : Sh k e w W' base v l :=
 let ⟨r, a, b, c⟩ := h; ⟨r, a, Kd.R_below b hb, c⟩
theorem Sh.drew (h : Sh k e w W base v l) : Sh k e w W.drew base v l := let ⟨r, a, b, c⟩ := h; ⟨r, a, Kd.R_drew b, c⟩
theorem Sh.read (h : Sh k e w W base v l) (hw : Below w.heap.size w W) : ∃ A c, v = .slice A l.length c ∧ Rw k W A c l := by
 obtain ⟨rows, hl, hR, hk⟩ := h
 obtain ⟨A, c, rfl, hc, hC⟩ := Kd.R_reads hR
 refine ⟨A, c, by rw [hl], ⟨?_, by omega⟩⟩
 refine ⟨rfl, by have := hC.2.1; omega, fun hn => ?_⟩
 obtain ⟨ad, ea, hh⟩ := hC.2.2 (by omega)
 refine ⟨ad, ea, fun j p hj => ?_⟩
 have hjl := (List.getElem?_eq_some_iff.1 hj).1
 have hr : rows[j]? = some (rows[j]'(by omega)) := List.getElem?_eq_getElem (by omega)
 obtain ⟨c', h1, h2, h3⟩ := hh j _ hr
 obtain ⟨rfl, _, _⟩ := h2
 exact ⟨_, h1, k.K_below hw (hk j p _ hj hr), h3⟩
theorem Sh.elem {g n cap i : Nat} {y : α} (h : Sh k e w W base (.slice (some ⟨g, 0, none⟩) n cap) l) (hy : l[i]? = some y) :
  ∃ c, k.K w y c ∧ (∀ (j : Nat) (u : Value), c[j]? = some u → W.cell? ⟨g, i * k.sz + j, none⟩ = some u) ∧ (∀ j, W.frozen? ⟨g, i * k.sz + j, none⟩ = false) ∧
   ∀ (j : Nat) (u : Value) (y' : α), j < k.sz → k.K w y' (c.set j u) → Sh k e w (W.setCell ⟨g, i * k.sz + j, none⟩ u) base (.slice (some ⟨g, 0, none⟩) n cap) (l.set i y') := by
 obtain ⟨rows, hl, hR, hk⟩ := h
 have hil := (List.getElem?_eq_some_iff.1 hy).1
 have hn := (Kd.R_reads' hR).1
 obtain ⟨c, hcl, hM, hcc, hfr⟩ := Kd.R_elem hR [] (i : Int) (by omega) (by omega)
 have hr : rows[i]? = some (rows[i]'(by omega)) := List.getElem?_eq_getElem (by omega)
 have ec : c = rows[i]'(by omega) := by
  have := hM.1
  simpa [List.getD_eq_getElem?_getD, hr] using this
 have hK := hk i y _ hy hr
 rw [← ec] at hK
 refine ⟨c, hK, fun j u hu => by simpa [Kd.raw] using hcc j u hu, fun j => by simpa [Kd.raw] using hfr j, fun j u y' hj hK' => ?_⟩
 have hone := k.K_one hK'
 have hlen := k.K_len hK'
 have e1 : c.take j ++ [u] ++ c.drop (j + [u].length) = c.set j u := by
  rw [List.set_eq_take_append_cons_drop, if_pos (by rw [hcl]; exact hj)]
  simp
 have := (Kd.R_seg hR (i : Int) (by omega) (by omega) (seg := [u]) (j := j) (x' := c.set j u) (okp := fun _ => False) hcl hcc (by show j + 1 ≤ k.sz; omega) (by rw [e1]; exact ⟨rfl, hlen, hone⟩) (fun _ hk => hk.elim)).1
 refine ⟨rows.set i (c.set j u), by rw [List.length_set, List.length_set, hl], by simpa [World.setCells, Kd.raw] using this, fun j2 y2 c2 h1 h2 => ?_⟩
 by_cases hij : i = j2
 ·subst hij
  rw [List.getElem?_set_self hil] at h1
  rw [List.getElem?_set_self (by omega)] at h2
  obtain rfl := Option.some.inj h1
  obtain rfl := Option.some.inj h2
  exact hK'
 ·rw [List.getElem?_set_ne hij] at h1 h2
  exact hk j2 y2 c2 h1 h2
end
end Go.Proofs.Ytckhjehibjdjdaa.P
namespace Go.Proofs.Ytckhjehibjdjdaa.P
open Go.RowKit Go.Shelf Go.Proofs.YtckhjehibjdjdaaW.PrintWords Go.Proofs.YtckhjehibjdjdaaW.PrintLast Go.Proofs.YtckhjehibjdjdaaW.PrintMore
attribute [local go_sem] Oper.semAt_some
def api_Hold.f (l0 : List (S41)) : Option ((List (S41))) := if l0.length < 1000000 then some l0 else none
end Go.Proofs.Ytckhjehibjdjdaa.P
namespace Go.Proofs.Ytckhjehibjdjdaa.P
open Go.RowKit Go.Proofs.YtckhjehibjdjdaaW.PrintWords Go.Proofs.YtckhjehibjdjdaaW.PrintLast Go.Proofs.YtckhjehibjdjdaaW.PrintMore
attribute [local go_sem] Oper.semAt_some
end Go.Proofs.Ytckhjehibjdjdaa.P
namespace Go.Proofs.Ytckhjehibjdjdaa.P
open Go.RowKit Go.Proofs.YtckhjehibjdjdaaW.PrintWords Go.Proofs.YtckhjehibjdjdaaW.PrintLast Go.Proofs.YtckhjehibjdjdaaW.PrintMore
attribute [local go_sem] cellBx frozBx
def fill_After.f (a0 : Int) (l1 : List (S51)) (a2_0 a2_1 : Int) (l3 : List (S41)) (a4_0 a4_1 a4_2 a4_3 a4_4 a4_5 a5_0 a5_1 a5_2 : Int) (a5_3 : Bool) (l5_4 : List (S52)) : Option (Int × Int) := (pack_Less.f l1 l5_4).bind fun bt329 => (if bt329.2 = 0 then (if a5_1 = a4_0 then ((fill_take.f a2_0 a2_1 l5_4).bind fun bt333 => ((api_Hold.f l3).bind fun t335 => ((some (([(⟨a5_0, a5_1, a5_2, a5_3, l5_4⟩ : S41)] : List (S41)) : List (S41))).bind fun y338 => (if t335.length + y338.length < 2513169434916 then ((promise_Earliest.f a0 bt329.1 bt333.1 bt333.2 (t335 ++ y338) a4_0 a4_1 a4_2 a4_3 a4_4 a4_5).bind fun bt344 => (some (bt344.1, bt344.2))) else (none))))) else ((api_Hold.f l3).bind fun t346 => ((some (([(⟨a5_0, a5_1, a5_2, a5_3, l5_4⟩ : S41)] : List (S41)) : List (S41))).bind fun y349 => (if t346.length + y349.length < 2513169434916 then ((promise_Earliest.f a0 bt329.1 a2_0 a2_1 (t346 ++ y349) a4_0 a4_1 a4_2 a4_3 a4_4 a4_5).bind fun bt355 => (some (bt355.1, bt355.2))) else (none))))) else (some (0, bt329.2)))
end Go.Proofs.Ytckhjehibjdjdaa.P
namespace Go.Proofs.Ytckhjehibjdjdaa.P
open Go.RowKit Go.Proofs.YtckhjehibjdjdaaW.PrintWords Go.Proofs.YtckhjehibjdjdaaW.PrintLast Go.Proofs.YtckhjehibjdjdaaW.PrintMore
attribute [local go_sem] max2_int min2_int max_two min_two max_three min_three max_four min_four
def ensembleref13_After.T7 : Bool × List (List Nat × List Nat) := (true, [([], []), ([], []), ([], []), ([], []), ([], []), ([3, 4], [3, 4]), ([], []), ([6], [6]), ([5, 7, 5], [5, 7]), ([], []), ([0, 1, 2, 8, 9, 8], [0, 1, 2, 8, 9]), ([10], [10]), ([10], [10]), ([11, 10, 0, 1, 2, 3, 4, 5, 6, 7, 8, 9, 10, 11, 12], [11]), ([12, 13, 0, 1, 2, 3, 4, 5, 6, 7, 8, 9, 10, 11, 12, 13], [12])])
def ensembleref13_After.B7 : List Nat := [0, 0, 0, 0, 0, 24, 0, 64, 248, 0, 1023, 2047, 2047, 8191, 16383]
theorem ensembleref13_After.bits7 : waitsOk ensembleref13_After.T7.2 ensembleref13_After.B7 = true := by kernel_rfl


end Go.Proofs.Ytckhjehibjdjdaa.P
namespace Go.Proofs.Ytckhjehibjdjdaa.P
open Go.RowKit Go.Proofs.YtckhjehibjdjdaaW.PrintWords Go.Proofs.YtckhjehibjdjdaaW.PrintLast Go.Proofs.YtckhjehibjdjdaaW.PrintMore
open Go.Proofs.Ytckhjehibjdjdaa.Bits Go.Proofs.Ytckhjehibjdjdaa.Mp
theorem lessE_iff {f : S51} {s : S52} (hf : freeOk f = true) (hs : maskOk s = true) : lessE f s = 0 ↔ s.f1.toNat &&& f.f1.toNat = s.f1.toNat ∧ s.f2 ≤ f.f2 := by
 have h1 := freeOk_out hf
 have h2 := maskOk_out hs
 have hand : Go.bits .andNot .u64 s.f1 f.f1 = ((s.f1.toNat - (s.f1.toNat &&& f.f1.toNat) : Nat) : Int) := by
  have := andNot_nat s.f1.toNat f.f1.toNat (by omega) (by omega)
  rw [Int.toNat_of_nonneg h2.1, Int.toNat_of_nonneg h1.1.1] at this
  exact this
 have hle : s.f1.toNat &&& f.f1.toNat ≤ s.f1.toNat := Nat.and_le_left
 unfold lessE
 rw [hand]
 by_cases h3 : s.f1.toNat &&& f.f1.toNat = s.f1.toNat
 ·rw [if_neg (by omega)]
  by_cases h4 : s.f2 > f.f2
  ·rw [if_pos h4]; constructor
   ·intro x; cases x
   ·intro x; omega
  ·rw [if_neg h4]; exact ⟨fun _ => ⟨h3, by omega⟩, fun _ => rfl⟩
 ·rw [if_pos (by omega)]; constructor
  ·intro x; cases x
  ·intro x; exact absurd x.1 h3
theorem andNot_bv (a b : Int) : Go.bits .andNot .u64 a b = ((BitVec.ofInt 64 a &&& ~~~ BitVec.ofInt 64 b).toNat : Int) := by
 show IntKind.u64.wrap ((BitVec.ofInt 64 a &&& ~~~ BitVec.ofInt 64 b).toNat : Int) = _
 rw [wrapN, Nat.mod_eq_of_lt (BitVec.isLt _)]
theorem bv_of {a : Int} (h : 0 ≤ a ∧ a < 18446744073709551616) : ((BitVec.ofInt 64 a).toNat : Int) = a := by
 obtain ⟨x, rfl⟩ := Int.eq_ofNat_of_zero_le h.1
 rw [BitVec.ofInt_natCast, BitVec.toNat_ofNat, Nat.mod_eq_of_lt (by omega)]
theorem and_bv {a b : Int} (ha : 0 ≤ a ∧ a < 18446744073709551616) (hb : 0 ≤ b ∧ b < 18446744073709551616) : (BitVec.ofInt 64 a &&& BitVec.ofInt 64 b).toNat = a.toNat &&& b.toNat := by
 rw [BitVec.toNat_and]
 have h1 := bv_of ha
 have h2 := bv_of hb
 rw [show (BitVec.ofInt 64 a).toNat = a.toNat by omega, show (BitVec.ofInt 64 b).toNat = b.toNat by omega]
theorem back_one {f : S51} {s : S52} (hf : freeOk f = true) (hc : cpOk f) (hs : maskOk s = true) (h0 : 0 ≤ s.f2) (h : lessE f s = 0) :
  moreE (lessF f s) s = 0 ∧ moreF (lessF f s) s = f ∧ freeOk (lessF f s) = true ∧ cpOk (lessF f s) := by
 have h1 := freeOk_out hf
 have h2 := maskOk_out hs
 obtain ⟨h3, h4⟩ := (lessE_iff hf hs).1 h
 have hb := hc
 unfold cpOk at hb
 have e2 : (lessF f s).f2 = f.f2 - s.f2 := by unfold lessF; exact w_id (by omega)
 have hok := lessF_ok hf hs
 have hco : cpOk (lessF f s) := by unfold cpOk; omega
 have hsub : BitVec.ofInt 64 s.f1 &&& BitVec.ofInt 64 f.f1 = BitVec.ofInt 64 s.f1 := by
  apply BitVec.eq_of_toNat_eq
  rw [and_bv h2 h1.1, h3]
  have := bv_of h2
  omega
 have e1 : (lessF f s).f1 = Go.bits .andNot .u64 f.f1 s.f1 := rfl
 have hA := andNot_bv f.f1 s.f1
 generalize hF : BitVec.ofInt 64 f.f1 = F at *
 generalize hS : BitVec.ofInt 64 s.f1 = S at *
 have hL : BitVec.ofInt 64 (lessF f s).f1 = F &&& ~~~ S := by rw [e1, hA, ofInt_toNat]
 have hd : disj s.f1 (lessF f s).f1 := by
  unfold disj
  rw [← and_bv h2 (freeOk_out hok).1, hS, hL]
  have : S &&& (F &&& ~~~S) = 0#64 := by ext i; simp; intro h _; exact h
  rw [this]; rfl
 refine ⟨(moreE_iff hok hco hs h0).2 ⟨hd, by omega⟩, ?_, hok, hco⟩
 have hor : Go.bits .or .u64 (lessF f s).f1 s.f1 = f.f1 := by
  rw [bits_or_bv, hL, hS]
  have : F &&& ~~~S ||| S = F := by
   ext i hi
   have := congrArg (fun x => x[i]) hsub
   simp only [BitVec.getElem_and] at this
   simp only [BitVec.getElem_or, BitVec.getElem_and, BitVec.getElem_not]
   cases h5 : S[i] <;> cases h6 : F[i] <;> simp_all
  rw [this, ← hF]
  exact bv_of h1.1
 have h6 : wrap64 ((lessF f s).f2 + s.f2) = f.f2 := by rw [e2, w_id (by omega)]; omega
 show (⟨f.f0, Go.bits .or .u64 (lessF f s).f1 s.f1, wrap64 ((lessF f s).f2 + s.f2)⟩ : S51) = f
 rw [hor, h6]
theorem find_at {view : List S51} (hn : (view.map spot).Nodup) {s : S52} {p : Nat} (hp : p < view.length) (hs : spot view[p] = sspot s) : findI view s.f0.f0 s.f0.f1 = (p : Int) := by
 have hin : ¬ findI view s.f0.f0 s.f0.f1 < 0 := fun h => findI_neg.1 h (List.mem_map.2 ⟨view[p], List.getElem_mem hp, hs⟩)
 obtain ⟨q, hq⟩ := Int.eq_ofNat_of_zero_le (show 0 ≤ findI view s.f0.f0 s.f0.f1 by omega)
 obtain ⟨hql, hqs, _, _⟩ := set_step hn hq
 have hn' := List.pairwise_iff_getElem.1 hn
 rw [hq]
 rcases Nat.lt_trichotomy p q with h | h | h
 ·exact absurd (by rw [List.getElem_map, List.getElem_map, hs, hqs]) (hn' p q (by simpa using hp) (by simpa using hql) h)
 ·rw [h]
 ·exact absurd (by rw [List.getElem_map, List.getElem_map, hs, hqs]) (hn' q p (by simpa using hql) (by simpa using hp) h)
theorem turnF_one {E : S51 → S52 → Int} {F : S51 → S52 → S51} {view : List S51} (hn : (view.map spot).Nodup) {s : S52} {p : Nat} (hp : p < view.length) (hs : spot view[p] = sspot s) (h0 : 0 ≤ s.f2) (hE : E view[p] s = 0) :
  turnF E F view [s] = (view.set p (F view[p] s), 0) := by
 rw [turnF, if_neg (by omega), find_at hn hp hs, if_neg (by omega), rd51' view p hp, if_pos hE, Int.toNat_natCast, turnF]
theorem less_back : ∀ (slots : List S52) (view : List S51), View view → (∀ s ∈ slots, maskOk s = true) → (turnF lessE lessF view slots).2 = 0 →
  View (turnF lessE lessF view slots).1 ∧ (turnF lessE lessF view slots).1.map spot = view.map spot ∧ cpMax slots ∧ turnF moreE moreF (turnF lessE lessF view slots).1 slots.reverse = (view, 0)
 | [], view, V, _, _ => ⟨V, rfl, by simp [cpMax], rfl⟩
 | s :: ss, view, V, hm, h => by
  have hms := hm s (by simp)
  rw [turnF] at h ⊢
  by_cases h1 : s.f2 < 0
  ·rw [if_pos h1] at h; cases h
  rw [if_neg h1] at h ⊢
  by_cases h2 : findI view s.f0.f0 s.f0.f1 < 0
  ·rw [if_pos h2] at h; cases h
  rw [if_neg h2] at h ⊢
  obtain ⟨p, hp⟩ := Int.eq_ofNat_of_zero_le (show 0 ≤ findI view s.f0.f0 s.f0.f1 by omega)
  obtain ⟨hpl, hps, _, _⟩ := set_step V.right.2 hp
  rw [hp, Int.toNat_natCast, rd51' view p hpl] at h ⊢
  have hfp := V.free _ (List.getElem_mem hpl)
  have hcp := V.right.1 _ (List.getElem_mem hpl)
  by_cases h3 : lessE view[p] s = 0
  ·rw [if_pos h3] at h ⊢
   obtain ⟨b1, b2, b3, b4⟩ := back_one hfp hcp hms (by omega) h3
   have sp : (view.set p (lessF view[p] s)).map spot = view.map spot := spots_set (fun hk => rfl)
   have V' : View (view.set p (lessF view[p] s)) := ⟨⟨set_all V.right.1 b4, by rw [sp]; exact V.right.2⟩, set_all V.free b3⟩
   obtain ⟨i1, i2, i3, i4⟩ := less_back ss _ V' (fun x hx => hm x (by simp [hx])) h
   refine ⟨i1, i2.trans sp, fun x hx => ?_, ?_⟩
   ·rcases List.mem_cons.1 hx with rfl | hx
    ·have := ((lessE_iff hfp hms).1 h3).2
     unfold cpOk at hcp
     exact ⟨by omega, by omega⟩
    ·exact i3 x hx
   ·have hl : p < (view.set p (lessF view[p] s)).length := by rw [List.length_set]; exact hpl
    have eg : (view.set p (lessF view[p] s))[p] = lessF view[p] s := List.getElem_set_self _
    rw [List.reverse_cons, turnF_append _ _ _ (by rw [i4]), i4]
    simp only
    rw [turnF_one V'.right.2 hl (by rw [eg]; exact hps) (by omega) (by rw [eg]; exact b1), eg, b2, List.set_set, List.set_getElem_self]
  ·rw [if_neg h3] at h; exact absurd h h3
structure Base (view : List S51) (ends : List S41) : Prop where
 V : View view
 I : Inp view ends
 vo : viewOk view
 so : ∀ s ∈ b9_ ends, (w64B s.f0.f0 && w64B s.f0.f1) = true
 el : ends.length ≤ 1000
 sl : (b9_ ends).length ≤ 1000000
theorem Setup.base {view : List S51} {lg lc : Int} {ends : List S41} (S : Setup view lg lc ends) : Base view ends :=
 ⟨S.V, S.I, S.vo, S.so, Nat.le_trans S.el (by decide), by
  have h1 := slots_len S.hl
  have h2 : 20 * ends.length ≤ 20 * 20 := Nat.mul_le_mul_left 20 S.el
  omega⟩
theorem Base.early {view : List S51} {ends : List S41} (B : Base view ends) {lg lc : Int} (L : I64P (lg, lc)) (now q m g c mn mx : Int) :
  promise_Earliest.f now view lg lc ends q m g c mn mx = some (refEarly now view lg lc ends q m g c mn mx) := by
 unfold promise_Earliest.f
 rw [if_pos (okE_mk B.vo B.el B.I.sm B.so B.I.es), early_ref B.V B.I L]
structure HoldOk (h : S41) : Prop where
 mo : ∀ s ∈ h.f4, maskOk s = true
 sp : ∀ s ∈ h.f4, (w64B s.f0.f0 && w64B s.f0.f1) = true
 ln : h.f4.length ≤ 20
theorem slotsOf_snoc (ends : List S41) (h : S41) : b9_ (ends ++ [h]) = b9_ ends ++ h.f4 := by rw [slotsOf_append]; simp [b9_]
theorem Base.less {view : List S51} {ends : List S41} (B : Base view ends) {h : S41} (H : HoldOk h) (hok : (turnF lessE lessF view h.f4).2 = 0) (el : ends.length < 500) (sl : (b9_ ends).length ≤ 100000) :
  Base (turnF lessE lessF view h.f4).1 (ends ++ [h]) := by
 obtain ⟨VL, hsp, _, _⟩ := less_back h.f4 view B.V H.mo hok
 have hlen : (turnF lessE lessF view h.f4).1.length = view.length := by
  have := congrArg List.length hsp
  simpa using this
 have hs : ∀ s ∈ b9_ (ends ++ [h]), s ∈ b9_ ends ∨ s ∈ h.f4 := fun s hs => by rw [slotsOf_snoc] at hs; exact List.mem_append.1 hs
 have hl : (b9_ (ends ++ [h])).length ≤ 100020 := by rw [slotsOf_snoc, List.length_append]; have := H.ln; omega
 refine ⟨VL, ⟨by rw [hlen]; exact B.I.vl, VL.free, by simp; omega, by omega, fun s h1 => (hs s h1).elim (B.I.sm s) (H.mo s)⟩, ⟨by rw [hlen]; exact B.vo.1, VL.free, fun f hf => ?_⟩,
  fun s h1 => (hs s h1).elim (B.so s) (H.sp s), by simp; omega, by omega⟩
 have : spot f ∈ view.map spot := by rw [← hsp]; exact List.mem_map_of_mem hf
 obtain ⟨f', hf', e⟩ := List.mem_map.1 this
 have h1 := B.vo.2.2 f' hf'
 unfold spot at e
 injection e with e1 e2
 rw [← e1, ← e2]; exact h1
theorem subL_eq : ∀ (l : List S52) (a : Int × Int), I64P a → subL a l = (wrap64 (a.1 - popS l), wrap64 (a.2 - cpS l))
 | [], a, h => by
  unfold I64P at h
  have e1 : wrap64 (a.1 - popS []) = a.1 := by rw [show popS [] = 0 from rfl, Int.sub_zero]; exact w_id (by omega)
  have e2 : wrap64 (a.2 - cpS []) = a.2 := by rw [show cpS [] = 0 from rfl, Int.sub_zero]; exact w_id (by omega)
  rw [e1, e2]; rfl
 | s :: l, a, h => by
  have e : subL a (s :: l) = subL (subU a s) l := rfl
  rw [e, subL_eq l _ ⟨wrap_bd _, wrap_bd _⟩, popS_cons, cpS_cons]
  unfold subU
  simp only
  have e3 : ∀ x y z : Int, wrap64 (wrap64 (x - y) - z) = wrap64 (x - (y + z)) := fun x y z => by unfold wrap64; omega
  rw [e3, e3]
def aftL (q lg hq n : Int) : Int := if hq = q then wrap64 (lg - n) else lg
def afterB (now : Int) (view : List S51) (lg lc : Int) (ends : List S41) (q m g c mn mx : Int) (h : S41) : Int × Int :=
 if (turnF lessE lessF view h.f4).2 = 0 then refEarly now (turnF lessE lessF view h.f4).1 (aftL q lg h.f1 (popS h.f4)) (aftL q lc h.f1 (cpS h.f4)) (ends ++ [h]) q m g c mn mx else (0, (turnF lessE lessF view h.f4).2)
theorem aftL_I64 {q lg lc : Int} (L : I64P (lg, lc)) (a b d : Int) : I64P (aftL q lg a b, aftL q lc a d) := by
 unfold I64P at L
 unfold I64P aftL
 split
 ·exact ⟨wrap_bd _, wrap_bd _⟩
 ·exact L
theorem Base.after {view : List S51} {ends : List S41} (B : Base view ends) {lg lc : Int} (L : I64P (lg, lc)) {h0 h1 h2 : Int} {h3 : Bool} {h4 : List S52} (H : HoldOk ⟨h0, h1, h2, h3, h4⟩) (el : ends.length < 500) (sl : (b9_ ends).length ≤ 100000) (now q m g c mn mx : Int) :
  fill_After.f now view lg lc ends q m g c mn mx h0 h1 h2 h3 h4 = some (afterB now view lg lc ends q m g c mn mx ⟨h0, h1, h2, h3, h4⟩) := by
 have e1 : pack_Less.f view h4 = some (turnF lessE lessF view h4) := by
  unfold pack_Less.f spotsOk
  have a1 : view.all (fun f => w64B f.f0.f0 && w64B f.f0.f1) = true := List.all_eq_true.2 B.vo.2.2
  have a2 : h4.all (fun f => w64B f.f0.f0 && w64B f.f0.f1) = true := List.all_eq_true.2 H.sp
  rw [decide_eq_true B.vo.1, a1, a2, if_pos (by rfl), turned51_find (F := lessF) (fun _ _ => rfl) B.V.right.2]
 have hln : h4.length ≤ 20 := H.ln
 have e2 : fill_take.f lg lc h4 = some (wrap64 (lg - popS h4), wrap64 (lc - cpS h4)) := by
  unfold fill_take.f maskAll
  have a1 : h4.all maskOk = true := List.all_eq_true.2 H.mo
  rw [a1, decide_eq_true (by omega), if_pos (by rfl), subL_eq h4 _ L]
 have e3 : api_Hold.f ends = some ends := by unfold api_Hold.f; rw [if_pos (by omega)]
 unfold fill_After.f afterB
 rw [e1, Option.bind_some]
 by_cases hz : (turnF lessE lessF view h4).2 = 0
 ·have B' := B.less H hz el sl
  have L' := aftL_I64 (q := q) L h1 (popS h4) (cpS h4)
  have E := B'.early L' now q m g c mn mx
  rw [if_pos hz, if_pos hz]
  by_cases hq : h1 = q
  ·rw [if_pos hq, e2, Option.bind_some, e3, Option.bind_some, Option.bind_some, if_pos (by simp; omega)]
   unfold aftL at E ⊢
   simp only at E ⊢
   rw [if_pos hq, if_pos hq] at E ⊢
   rw [E]; rfl
  ·rw [if_neg hq, e3, Option.bind_some, Option.bind_some, if_pos (by simp; omega)]
   unfold aftL at E ⊢
   simp only at E ⊢
   rw [if_neg hq, if_neg hq] at E ⊢
   rw [E]; rfl
 ·rw [if_neg hz, if_neg hz]
end Go.Proofs.Ytckhjehibjdjdaa.P
namespace Go.Proofs.Ytckhjehibjdjdaa.P
open Go.RowKit Go.Proofs.YtckhjehibjdjdaaW.PrintWords Go.Proofs.YtckhjehibjdjdaaW.PrintLast Go.Proofs.YtckhjehibjdjdaaW.PrintMore
attribute [local go_sem] max2_int min2_int max_two min_two max_three min_three max_four min_four
attribute [local go_sem high] eqA52
end Go.Proofs.Ytckhjehibjdjdaa.P
namespace Go.Proofs.Ytckhjehibjdjdaa.P
open Go.RowKit Go.Proofs.YtckhjehibjdjdaaW.PrintWords Go.Proofs.YtckhjehibjdjdaaW.PrintLast Go.Proofs.YtckhjehibjdjdaaW.PrintMore
open Go.Proofs.Ytckhjehibjdjdaa.Bits Go.Proofs.Ytckhjehibjdjdaa.Mp
theorem few05_ev (view : List S51) : (Ev (fun k => ensemblelaw05_few.f k view) true ∧ viewR view ∧ view.length ≤ 70) ∨ Ev (fun k => ensemblelaw05_few.f k view) false := by
 unfold ensemblelaw05_few.f
 by_cases h : (view.length : Int) ≤ 70
 ·rcases right05_ev view (by omega) with ⟨h1, h2⟩ | h1
  ·exact .inl ⟨Ev.congr (fun k => by rw [if_pos h]) (Ev.bind h1 (Ev.now _)), h2, by omega⟩
  ·exact .inr (Ev.congr (fun k => by rw [if_pos h]) (Ev.bind h1 (Ev.now _)))
 ·exact .inr (Ev.congr (fun k => by rw [if_neg h]) (Ev.now _))
theorem low_and (M n : Nat) : lowN M n &&& M = lowN M n := by
 apply Nat.eq_of_testBit_eq
 intro j
 rw [Nat.testBit_and]
 by_cases h : j ∈ (pos M).take n
 ·rw [(mem_pos.1 (List.mem_of_mem_take h)).2, Bool.and_true]
 ·have : (lowN M n).testBit j = false := by unfold lowN; rw [testBit_orAll]; simpa using h
  rw [this]; rfl
theorem lowI_bd (m n : Int) : 0 ≤ lowI m n ∧ lowI m n < 18446744073709551616 := by
 have := lowN_lt m.toNat n.toNat
 unfold lowI; omega
theorem low_sub {m g : Int} (hm : 0 ≤ m ∧ m < 18446744073709551616) : Go.bits .andNot .u64 m (lowI m g) = m - lowI m g := by
 obtain ⟨M, rfl⟩ := Int.eq_ofNat_of_zero_le hm.1
 have h1 := low_le M g.toNat (by omega)
 have e : lowI (M : Int) g = ((lowN M g.toNat : Nat) : Int) := rfl
 rw [e, andNot_nat M (lowN M g.toNat) (by omega) (by omega), Nat.and_comm, low_and]
 omega
def kap (s0 s1 : Int) (f : S51) : Int := min (eachI (popI f.f1) s0) (eachI f.f2 s1)
def spotOk (f : S51) : Prop := freeOk f = true ∧ cpOk f
section
variable {s0 s1 s2 s3 : Int} (hg : c4_ s0 s1 s2 s3 = true)
include hg
theorem fit_kap {f : S51} (hf : spotOk f) : fitV s0 s1 s2 s3 f.f1 f.f2 = min 16 (kap s0 s1 f) := by
 unfold fitV fitN kap
 rw [if_pos ⟨hg, hf.2.1⟩]
theorem kap_ge {f : S51} (hf : spotOk f) (h : 1 ≤ kap s0 s1 f) : s0 ≤ popI f.f1 ∧ s1 ≤ f.f2 := by
 have hb := good_out0 hg
 have h1 : 1 ≤ eachI (popI f.f1) s0 := by unfold kap at h; omega
 have h2 : 1 ≤ eachI f.f2 s1 := by unfold kap at h; omega
 have e : ∀ a b : Int, 0 ≤ a → 0 ≤ b → 1 ≤ eachI a b → b ≤ a := fun a b ha hb hx => by
  unfold eachI at hx
  by_cases hz : b = 0
  ·omega
  ·rw [if_neg hz] at hx
   have := (Int.le_ediv_iff_mul_le (c := b) (by omega)).1 hx
   omega
 exact ⟨e _ _ (popI_bd _).1 hb.1 h1, e _ _ hf.2.1 hb.2.2.1 h2⟩
theorem left_eq {f : S51} (hf : spotOk f) (h : 1 ≤ kap s0 s1 f) : leftF s0 s1 f = ⟨f.f0, f.f1 - lowI f.f1 s0, f.f2 - s1⟩ := by
 have hb := good_out0 hg
 have h1 := kap_ge hg hf h
 have h2 := hf.2
 unfold cpOk at h2
 unfold leftF
 rw [low_sub (freeOk_out hf.1).1, w_id (by omega)]
theorem left_ok {f : S51} (hf : spotOk f) (h : 1 ≤ kap s0 s1 f) : spotOk (leftF s0 s1 f) := by
 have hb := good_out0 hg
 have h1 := kap_ge hg hf h
 have h2 := hf.2
 refine ⟨leftF_ok s0 s1 hf.1, ?_⟩
 rw [left_eq hg hf h]
 unfold cpOk at h2 ⊢
 simp only
 omega
theorem kap_left {f : S51} (hf : spotOk f) (h : 1 ≤ kap s0 s1 f) (n : Nat) (h0 : 1 ≤ n) (hn : n ≤ 16) : min (n : Int) (kap s0 s1 f) = 1 + min ((n : Int) - 1) (kap s0 s1 (leftF s0 s1 f)) := by
 have hb := good_out0 hg
 have h1 := kap_ge hg hf h
 have h2 := hf.2
 unfold cpOk at h2
 have hs := pop_sub f.f1 s0 (freeOk_out hf.1).1 hb.1 h1.1
 have A := each_sub (popI f.f1) s0 hb.1 h1.1 (16 - n) (by omega) (eachI f.f2 s1)
 have B := each_sub f.f2 s1 hb.2.2.1 h1.2 (16 - n) (by omega) (eachI (popI f.f1 - s0) s0 + 1)
 rw [left_eq hg hf h]
 unfold kap
 simp only
 rw [hs.1]
 omega
end
def pcs (s0 s1 : Int) : Nat → S51 → List S52
 | 0, _ => []
 | n + 1, f => pieceL s0 s1 f :: pcs s0 s1 n (leftF s0 s1 f)
theorem pcs_len (s0 s1 : Int) : ∀ (n : Nat) (f : S51), (pcs s0 s1 n f).length = n
 | 0, _ => rfl
 | n + 1, f => by rw [pcs, List.length_cons, pcs_len]
theorem pcs_take (s0 s1 : Int) : ∀ (n r : Nat) (f : S51), (pcs s0 s1 n f).take r = pcs s0 s1 (min r n) f
 | 0, r, f => by rw [Nat.min_zero]; simp [pcs]
 | n + 1, 0, f => by rw [Nat.zero_min]; rfl
 | n + 1, r + 1, f => by
  rw [show min (r + 1) (n + 1) = min r n + 1 by omega, pcs, pcs, List.take_succ_cons, pcs_take s0 s1 n r]
theorem pcs_spot (s0 s1 : Int) : ∀ (n : Nat) (f : S51), ∀ s ∈ pcs s0 s1 n f, s.f0 = f.f0 ∧ maskOk s = true
 | 0, _, s, h => by cases h
 | n + 1, f, s, h => by
  rw [pcs, List.mem_cons] at h
  rcases h with rfl | h
  ·refine ⟨rfl, ?_⟩
   have := lowI_bd f.f1 s0
   unfold maskOk pieceL
   rw [decide_eq_true this.1, decide_eq_true this.2]; rfl
  ·have := pcs_spot s0 s1 n (leftF s0 s1 f) s h
   exact this
def fitT (s0 s1 s2 s3 : Int) (f : S51) : Nat := (fitV s0 s1 s2 s3 f.f1 f.f2).toNat
theorem fitT_eq (s0 s1 s2 s3 : Int) (f : S51) : ((fitT s0 s1 s2 s3 f : Nat) : Int) = fitV s0 s1 s2 s3 f.f1 f.f2 := by
 have := fitV_bd s0 s1 s2 s3 f.f1 f.f2
 unfold fitT; omega
def flat (s0 s1 s2 s3 : Int) (L : List S51) : List S52 := L.flatMap fun f => pcs s0 s1 (fitT s0 s1 s2 s3 f) f
theorem flat_cons (s0 s1 s2 s3 : Int) (f : S51) (L : List S51) : flat s0 s1 s2 s3 (f :: L) = pcs s0 s1 (fitT s0 s1 s2 s3 f) f ++ flat s0 s1 s2 s3 L := List.flatMap_cons
theorem flat_len (s0 s1 s2 s3 : Int) : ∀ L : List S51, ((flat s0 s1 s2 s3 L).length : Int) = roomS s0 s1 s2 s3 L
 | [] => rfl
 | f :: L => by
  have := flat_len s0 s1 s2 s3 L
  have h2 := fitT_eq s0 s1 s2 s3 f
  rw [flat_cons, List.length_append, pcs_len]
  unfold roomS at *
  rw [List.map_cons, List.sum_cons]
  omega
theorem cut_eq {s0 s1 s2 s3 : Int} (hg : c4_ s0 s1 s2 s3 = true) (m : Nat) (hm : m ≤ 16) : ∀ (k : Nat) (f : S51) (out : List S52), spotOk f → out.length ≤ m → m + 1 ≤ k + out.length →
  cutL s0 s1 s2 s3 m k f out = out ++ pcs s0 s1 (min (m - out.length) (fitT s0 s1 s2 s3 f)) f
 | 0, f, out, _, h1, h2 => by omega
 | k + 1, f, out, hf, h1, h2 => by
  have e1 := fitT_eq s0 s1 s2 s3 f
  have e2 := fit_kap hg hf
  rw [cutL]
  by_cases hc : out.length < m ∧ fitV s0 s1 s2 s3 f.f1 f.f2 ≠ 0
  ·have hb := fitV_bd s0 s1 s2 s3 f.f1 f.f2
   have hk : 1 ≤ kap s0 s1 f := by omega
   rw [if_pos hc, cut_eq hg m hm k _ _ (left_ok hg hf hk) (by simp; omega) (by simp; omega)]
   have e3 := fitT_eq s0 s1 s2 s3 (leftF s0 s1 f)
   have e4 := fit_kap hg (left_ok hg hf hk)
   have e5 := kap_left hg hf hk (m - out.length) (by omega) (by omega)
   have e6 : min (m - out.length) (fitT s0 s1 s2 s3 f) = min (m - (out ++ [pieceL s0 s1 f]).length) (fitT s0 s1 s2 s3 (leftF s0 s1 f)) + 1 := by
    rw [List.length_append]
    simp only [List.length_cons, List.length_nil]
    omega
   rw [e6, pcs, List.append_assoc]; rfl
  ·rw [if_neg hc, show min (m - out.length) (fitT s0 s1 s2 s3 f) = 0 by omega, pcs, List.append_nil]
theorem place_fold {s0 s1 s2 s3 : Int} (hg : c4_ s0 s1 s2 s3 = true) (m : Nat) (hm : m ≤ 16) : ∀ (L : List S51) (out : List S52), (∀ f ∈ L, spotOk f) → out.length ≤ m →
  L.foldl (fun out f => cutL s0 s1 s2 s3 m 17 f out) out = out ++ (flat s0 s1 s2 s3 L).take (m - out.length)
 | [], out, _, _ => by simp [flat]
 | f :: L, out, hL, ho => by
  rw [List.foldl_cons, cut_eq hg m hm 17 f out (hL f (by simp)) ho (by omega), ← pcs_take,
   place_fold hg m hm L _ (fun x hx => hL x (by simp [hx])) (by rw [List.length_append, List.length_take, pcs_len]; omega), flat_cons, List.take_append, List.append_assoc,
   List.length_append, List.length_take, pcs_len]
  congr 3
  omega
theorem placeL_eq {s0 s1 s2 s3 : Int} (hg : c4_ s0 s1 s2 s3 = true) (m : Nat) (hm : m ≤ 16) (L : List S51) (hL : ∀ f ∈ L, spotOk f) : placeL s0 s1 s2 s3 m L = (flat s0 s1 s2 s3 L).take m := by
 have := place_fold hg m hm L [] hL (by simp)
 rw [List.nil_append, List.length_nil, Nat.sub_zero] at this
 exact this
theorem roomS_perm {s0 s1 s2 s3 : Int} {a b : List S51} (h : a.Perm b) : roomS s0 s1 s2 s3 a = roomS s0 s1 s2 s3 b := perm_sum (h.map _)
def placeP (view : List S51) (s0 s1 s2 s3 m : Int) : List S52 × Int :=
 if c4_ s0 s1 s2 s3 = true ∧ 1 ≤ m ∧ m ≤ 16 then
  (if roomS s0 s1 s2 s3 view < m then ([], 7) else ((flat s0 s1 s2 s3 (isort (fkey s0 s1 s2 s3) view)).take m.toNat, 0))
 else ([], 1)
theorem place_P {view : List S51} (hv : ∀ f ∈ view, spotOk f) (s0 s1 s2 s3 m : Int) : placeB view s0 s1 s2 s3 m = placeP view s0 s1 s2 s3 m := by
 unfold placeB placeP
 by_cases h : c4_ s0 s1 s2 s3 = true ∧ 1 ≤ m ∧ m ≤ 16
 ·rw [if_pos h, if_pos h, placeL_eq h.1 m.toNat (by omega) _ (fun f hf => hv f ((isort_perm (fkey s0 s1 s2 s3) view).mem_iff.1 hf))]
  have h1 := flat_len s0 s1 s2 s3 (isort (fkey s0 s1 s2 s3) view)
  rw [roomS_perm (isort_perm (fkey s0 s1 s2 s3) view)] at h1
  by_cases h2 : roomS s0 s1 s2 s3 view < m
  ·rw [if_pos h2, if_pos (by rw [List.length_take]; omega)]
  ·rw [if_neg h2, if_neg (by rw [List.length_take]; omega)]
 ·rw [if_neg h, if_neg h]
theorem place_f {view : List S51} (hv : ∀ f ∈ view, spotOk f) (hl : view.length ≤ 1000000) (s0 s1 s2 s3 m : Int) : pack_Place.f view s0 s1 s2 s3 m = some (placeP view s0 s1 s2 s3 m) := by
 unfold pack_Place.f placeOk
 rw [List.all_eq_true.2 (fun f hf => (hv f hf).1), decide_eq_true hl, if_pos (by rfl), place_P hv]
theorem placeP_ok {view : List S51} {s0 s1 s2 s3 m : Int} (h : (placeP view s0 s1 s2 s3 m).2 = 0) : c4_ s0 s1 s2 s3 = true ∧ (1 ≤ m ∧ m ≤ 16) ∧ m ≤ roomS s0 s1 s2 s3 view ∧ placeP view s0 s1 s2 s3 m = ((flat s0 s1 s2 s3 (isort (fkey s0 s1 s2 s3) view)).take m.toNat, 0) := by
 unfold placeP at h ⊢
 by_cases h1 : c4_ s0 s1 s2 s3 = true ∧ 1 ≤ m ∧ m ≤ 16
 ·rw [if_pos h1] at h ⊢
  by_cases h2 : roomS s0 s1 s2 s3 view < m
  ·rw [if_pos h2] at h; cases h
  ·rw [if_neg h2]; exact ⟨h1.1, h1.2, by omega, rfl⟩
 ·rw [if_neg h1] at h; cases h
theorem placeP_len {view : List S51} {s0 s1 s2 s3 m : Int} (h : (placeP view s0 s1 s2 s3 m).2 = 0) : ((placeP view s0 s1 s2 s3 m).1.length : Int) = m := by
 obtain ⟨a, b, c, d⟩ := placeP_ok h
 have h1 := flat_len s0 s1 s2 s3 (isort (fkey s0 s1 s2 s3) view)
 rw [roomS_perm (isort_perm (fkey s0 s1 s2 s3) view)] at h1
 rw [d, List.length_take]
 omega
theorem placeP_max (view : List S51) (s0 s1 s2 s3 m : Int) : (placeP view s0 s1 s2 s3 m).1.length ≤ 16 := by
 by_cases h : (placeP view s0 s1 s2 s3 m).2 = 0
 ·have h1 := placeP_len h
  obtain ⟨a, b, c, d⟩ := placeP_ok h
  omega
 ·unfold placeP at h ⊢
  split
  ·split
   ·simp
   ·rename_i h1 h2; rw [if_pos h1, if_neg h2] at h; exact absurd rfl h
  ·simp
structure Few5 (view : List S51) : Prop where
 V : View view
 ok : ∀ f ∈ view, spotOk f
 len : view.length ≤ 70
 sp : ∀ f ∈ view, (w64B f.f0.f0 && w64B f.f0.f1) = true
theorem few5 {view : List S51} (hw : ∀ y ∈ view, wfd51 y) (hr : viewR view) (hl : view.length ≤ 70) : Few5 view :=
 ⟨⟨hr, fun f hf => (free_of_wf (hw f hf)).1⟩, fun f hf => ⟨(free_of_wf (hw f hf)).1, hr.1 f hf⟩, hl, fun f hf => (free_of_wf (hw f hf)).2⟩
theorem Few5.place {view : List S51} (F : Few5 view) (s0 s1 s2 s3 m : Int) : pack_Place.f view s0 s1 s2 s3 m = some (placeP view s0 s1 s2 s3 m) := place_f F.ok (by have := F.len; omega) s0 s1 s2 s3 m
end Go.Proofs.Ytckhjehibjdjdaa.P
namespace Go.Proofs.Ytckhjehibjdjdaa.P
open Go.RowKit Go.Proofs.YtckhjehibjdjdaaW.PrintWords Go.Proofs.YtckhjehibjdjdaaW.PrintLast Go.Proofs.YtckhjehibjdjdaaW.PrintMore
attribute [local go_sem] max2_int min2_int max_two min_two max_three min_three max_four min_four
end Go.Proofs.Ytckhjehibjdjdaa.P
namespace Go.Proofs.Ytckhjehibjdjdaa.P
open Go.RowKit Go.Proofs.YtckhjehibjdjdaaW.PrintWords Go.Proofs.YtckhjehibjdjdaaW.PrintLast Go.Proofs.YtckhjehibjdjdaaW.PrintMore
open Go.Proofs.Ytckhjehibjdjdaa.Bits Go.Proofs.Ytckhjehibjdjdaa.Mp
theorem flat_spot (s0 s1 s2 s3 : Int) (L : List S51) : ∀ s ∈ flat s0 s1 s2 s3 L, ∃ f ∈ L, s.f0 = f.f0 ∧ maskOk s = true := fun s hs => by
 obtain ⟨f, hf, h⟩ := List.mem_flatMap.1 hs
 exact ⟨f, hf, pcs_spot _ _ _ f s h⟩
end Go.Proofs.Ytckhjehibjdjdaa.P
namespace Go.Proofs.Ytckhjehibjdjdaa.P
open Go.RowKit Go.Proofs.YtckhjehibjdjdaaW.PrintWords Go.Proofs.YtckhjehibjdjdaaW.PrintLast Go.Proofs.YtckhjehibjdjdaaW.PrintMore
def PackFew.Pure : Prop := ∀ (x0 : List S51) (x1 : S27) (x2 : Int), (x0.length ≤ maxLen ∧ ∀ y ∈ x0, wfd51 y) → wfd27 x1 → I64 x2 → ∃ k, ensemblelaw05_PackFew.f k x0 x1.f0 x1.f1 x1.f2 x1.f3 x2 = some true
theorem newN_congr : ∀ (l : List S52) (s t : List S48), (∀ x, x ∈ s ↔ x ∈ t) → newN s l = newN t l
 | [], _, _, _ => rfl
 | x :: r, s, t, h => by
  rw [newN, newN, newN_congr r (x.f0 :: s) (x.f0 :: t) (fun y => by rw [List.mem_cons, List.mem_cons, h y])]
  by_cases hx : x.f0 ∈ s
  ·rw [if_pos hx, if_pos ((h _).1 hx)]
  ·rw [if_neg hx, if_neg (fun e => hx ((h _).2 e))]
theorem newN_same (p : S48) (r : List S52) : ∀ (ps : List S52) (s : List S48), p ∈ s → (∀ x ∈ ps, x.f0 = p) → newN s (ps ++ r) = newN s r
 | [], _, _, _ => rfl
 | x :: ps, s, h, hx => by
  have e := hx x (by simp)
  rw [List.cons_append, newN, if_pos (by rw [e]; exact h), Nat.zero_add, newN_congr _ (x.f0 :: s) s (fun y => by rw [List.mem_cons, e]; exact ⟨fun hy => hy.elim (fun hz => hz ▸ h) id, .inr⟩)]
  exact newN_same p r ps s h (fun y hy => hx y (by simp [hy]))
theorem newN_block (p : S48) (r ps : List S52) (s : List S48) (h : ¬ p ∈ s) (h0 : ps ≠ []) (hx : ∀ x ∈ ps, x.f0 = p) : newN s (ps ++ r) = 1 + newN (p :: s) r := by
 obtain ⟨x, qs, rfl⟩ := List.exists_cons_of_ne_nil h0
 have e := hx x (by simp)
 rw [List.cons_append, newN, if_neg (by rw [e]; exact h), e, newN_same p r qs (p :: s) (by simp) (fun y hy => hx y (by simp [hy]))]
theorem take_sum_le : ∀ (F : List Nat) (d : Nat), (F.take d).sum ≤ (F.take (d + 1)).sum
 | [], _ => by simp
 | x :: F, 0 => by simp
 | x :: F, d + 1 => by
  rw [List.take_succ_cons, List.take_succ_cons, List.sum_cons, List.sum_cons]
  have := take_sum_le F d
  omega
theorem few_sum (s0 s1 s2 s3 : Int) : ∀ (L : List S51) (m : Nat) (seen : List S48), (L.map (·.f0)).Nodup → (∀ f ∈ L, ¬ f.f0 ∈ seen) → 1 ≤ m → m ≤ (flat s0 s1 s2 s3 L).length →
  1 ≤ newN seen ((flat s0 s1 s2 s3 L).take m) ∧ ((L.map (fitT s0 s1 s2 s3)).take (newN seen ((flat s0 s1 s2 s3 L).take m) - 1)).sum < m
 | [], m, _, _, _, h1, h2 => by simp [flat] at h2; omega
 | f :: L, m, seen, hn, hs, h1, h2 => by
  rw [List.map_cons, List.nodup_cons] at hn
  have hlen := pcs_len s0 s1 (fitT s0 s1 s2 s3 f) f
  have hsp : ∀ n, ∀ x ∈ pcs s0 s1 n f, x.f0 = f.f0 := fun n x hx => (pcs_spot s0 s1 n f x hx).1
  rw [flat_cons] at h2 ⊢
  rw [List.length_append, hlen] at h2
  rw [List.map_cons]
  by_cases hm : m ≤ fitT s0 s1 s2 s3 f
  ·have e : (pcs s0 s1 (fitT s0 s1 s2 s3 f) f ++ flat s0 s1 s2 s3 L).take m = pcs s0 s1 m f ++ [] := by
    rw [List.take_append_of_le_length (by omega), pcs_take, Nat.min_eq_left hm, List.append_nil]
   rw [e, newN_block f.f0 [] _ seen (hs f (by simp)) (fun h => by have := pcs_len s0 s1 m f; rw [h] at this; simp at this; omega) (hsp m)]
   simp [newN]; omega
  have e : (pcs s0 s1 (fitT s0 s1 s2 s3 f) f ++ flat s0 s1 s2 s3 L).take m = pcs s0 s1 (fitT s0 s1 s2 s3 f) f ++ (flat s0 s1 s2 s3 L).take (m - fitT s0 s1 s2 s3 f) := by
   rw [List.take_append, hlen, List.take_of_length_le (by omega)]
  rw [e]
  by_cases h0 : fitT s0 s1 s2 s3 f = 0
  ·rw [h0, pcs, List.nil_append, Nat.sub_zero]
   obtain ⟨i1, i2⟩ := few_sum s0 s1 s2 s3 L m seen hn.2 (fun x hx => hs x (by simp [hx])) h1 (by omega)
   refine ⟨i1, Nat.lt_of_le_of_lt ?_ i2⟩
   obtain ⟨d, hd⟩ : ∃ d, newN seen ((flat s0 s1 s2 s3 L).take m) = d + 1 := ⟨_, (Nat.sub_add_cancel i1).symm⟩
   rw [hd, Nat.add_sub_cancel]
   cases d with
   | zero => simp
   | succ d =>
    rw [List.take_succ_cons, List.sum_cons, Nat.zero_add]
    exact take_sum_le _ _
  ·obtain ⟨i1, i2⟩ := few_sum s0 s1 s2 s3 L (m - fitT s0 s1 s2 s3 f) (f.f0 :: seen) hn.2 (fun x hx h => by
    rcases List.mem_cons.1 h with h | h
    ·exact hn.1 (List.mem_map.2 ⟨x, hx, h⟩)
    ·exact hs x (by simp [hx]) h) (by omega) (by omega)
   rw [newN_block f.f0 _ _ seen (hs f (by simp)) (fun h => by rw [h] at hlen; simp at hlen; omega) (hsp _)]
   refine ⟨by omega, ?_⟩
   obtain ⟨d, hd⟩ : ∃ d, newN (f.f0 :: seen) ((flat s0 s1 s2 s3 L).take (m - fitT s0 s1 s2 s3 f)) = d + 1 := ⟨_, (Nat.sub_add_cancel i1).symm⟩
   rw [hd, Nat.add_sub_cancel] at i2
   rw [hd, show 1 + (d + 1) - 1 = d + 1 by omega, List.take_succ_cons, List.sum_cons]
   omega
theorem inL_eq (n : Int) (hn : 0 ≤ n ∧ n ≤ 16) : ∀ (c : Nat) (left sum : Int), (0 ≤ left ∧ left ≤ 100) → (0 ≤ sum ∧ sum + n * (min (c : Int) left) ≤ 1000000) → inL c n left sum = (left - min (c : Int) left, sum + n * min (c : Int) left)
 | 0, left, sum, hl, hs => by
  rw [inL, show min (((0 : Nat) : Int)) left = 0 by omega]; simp
 | c + 1, left, sum, hl, hs => by
  rw [inL]
  by_cases h : left > 0
  ·have e1 : min ((c + 1 : Nat) : Int) left = 1 + min (c : Int) (left - 1) := by omega
   rw [e1, Int.mul_add, Int.mul_one] at hs ⊢
   have h3 : 0 ≤ n * min (c : Int) (left - 1) := Int.mul_nonneg hn.1 (by omega)
   rw [if_pos h, w_id (by omega), w_id (by omega), inL_eq n hn c (left - 1) (sum + n) (by omega) (by omega)]
   exact Prod.ext (by simp only; omega) (by simp only; omega)
  ·rw [if_neg h, show min ((c + 1 : Nat) : Int) left = 0 by omega]; simp
theorem desc_split (n : Nat) : ∀ G : List Nat, G.Pairwise (fun a b => b ≤ a) → (∀ x ∈ G, x ≤ n + 1) → ∃ G' : List Nat, G = List.replicate (G.count (n + 1)) (n + 1) ++ G' ∧ G'.Pairwise (fun a b => b ≤ a) ∧ (∀ x ∈ G', x ≤ n) ∧ ∀ v, v ≤ n → G'.count v = G.count v
 | [], _, _ => ⟨[], by simp, List.Pairwise.nil, by simp, by simp⟩
 | g :: G, hp, hx => by
  obtain ⟨h1, h2⟩ := List.pairwise_cons.1 hp
  by_cases hg : g = n + 1
  ·obtain ⟨G', e, p, q, r⟩ := desc_split n G h2 (fun x hy => hx x (by simp [hy]))
   refine ⟨G', ?_, p, q, fun v hv => ?_⟩
   ·rw [hg, List.count_cons_self, List.replicate_succ, List.cons_append, ← e]
   ·rw [r v hv, List.count_cons_of_ne (by omega)]
  ·have hle : ∀ x ∈ g :: G, x ≤ n := fun x hy => by
    have := hx g (by simp)
    rcases List.mem_cons.1 hy with rfl | hy
    ·omega
    ·have := h1 x hy; omega
   refine ⟨g :: G, ?_, hp, hle, fun v hv => rfl⟩
   rw [List.count_eq_zero_of_not_mem (fun h => by have := hle _ h; omega)]
   rfl
theorem sum_zero : ∀ (G : List Nat) (d : Nat), (∀ x ∈ G, x ≤ 0) → (G.take d).sum = 0
 | [], _, _ => by simp
 | x :: G, 0, _ => by simp
 | x :: G, d + 1, h => by
  rw [List.take_succ_cons, List.sum_cons, sum_zero G d (fun y hy => h y (by simp [hy]))]
  have := h x (by simp); omega
theorem sum_repl (v : Nat) : ∀ c : Nat, (List.replicate c v).sum = v * c
 | 0 => by simp
 | c + 1 => by rw [List.replicate_succ, List.sum_cons, sum_repl v c, Nat.mul_succ]; omega
theorem outL_eq (ft : List Int) : ∀ (n : Nat) (G : List Nat) (d : Nat) (sum : Int), n ≤ 16 → G.Pairwise (fun a b => b ≤ a) → (∀ x ∈ G, x ≤ n) → (∀ v, 1 ≤ v → v ≤ n → ft.getD v 0 = (G.count v : Nat)) → d ≤ 100 → (0 ≤ sum ∧ sum + 16 * d ≤ 100000) →
  (outL n ft (d : Int) sum).2 = sum + ((G.take d).sum : Nat)
 | 0, G, d, sum, _, _, hG, _, _, _ => by
  rw [outL, sum_zero G d hG]; simp
 | n + 1, G, d, sum, hn, hp, hG, hft, hd, hs => by
  obtain ⟨G', e, p, q, r⟩ := desc_split n G hp hG
  rw [outL]
  by_cases h : (d : Int) > 0
  ·rw [if_pos h, hft (n + 1) (by omega) (by omega), Int.toNat_natCast]
   generalize hc : G.count (n + 1) = c at *
   obtain ⟨m, hm⟩ : ∃ m : Nat, m = min c d := ⟨_, rfl⟩
   have hmd : min (c : Int) (d : Int) = (m : Int) := by omega
   have hb : ((n + 1 : Nat) : Int) * (m : Int) ≤ 16 * d := by
    have h1 : (n + 1) * m ≤ 16 * d := Nat.mul_le_mul (by omega) (by omega)
    exact_mod_cast h1
   rw [inL_eq _ (by omega) c d sum (by omega) (by rw [hmd]; omega), hmd]
   simp only
   have hnn : (0 : Int) ≤ ((n + 1 : Nat) : Int) * (m : Int) := Int.mul_nonneg (by omega) (by omega)
   have hb2 : ((n + 1 : Nat) : Int) * (m : Int) + 16 * ((d - m : Nat) : Int) ≤ 16 * d := by
    have h1 : (n + 1) * m ≤ 16 * m := Nat.mul_le_mul_right m (by omega)
    have h2 : ((n + 1 : Nat) : Int) * (m : Int) ≤ 16 * m := by exact_mod_cast h1
    omega
   rw [show (d : Int) - (m : Int) = ((d - m : Nat) : Int) by omega, outL_eq ft n G' (d - m) _ (by omega) p q (fun v h1 h2 => by rw [hft v h1 (by omega), r v h2]) (by omega) (by omega), e, List.take_append, List.length_replicate, List.take_replicate, List.sum_append, sum_repl]
   have e1 : min d c = m := by omega
   have e2 : d - c = d - m := by omega
   rw [e1, e2]
   push_cast
   omega
  ·obtain rfl : d = 0 := by omega
   rw [if_neg h]; simp
theorem fitsL_ev (s0 s1 s2 s3 : Int) : ∀ (l : List S51) (ft : List Int), ft.length = 17 → (∀ f ∈ l, spotOk f) → (∀ x ∈ ft, 0 ≤ x ∧ x + l.length ≤ 70) →
  ∃ ft', Ev (fun k => fitsL k s0 s1 s2 s3 l ft) ft' ∧ ft'.length = 17 ∧ (∀ x ∈ ft', x ≤ 70) ∧ ∀ v, ft'.getD v 0 = ft.getD v 0 + (((l.map (fitT s0 s1 s2 s3)).count v : Nat) : Int)
 | [], ft, h, _, hb => ⟨ft, Ev.congr (fun k => by rw [fitsL]) (Ev.now _), h, fun x hx => by have := hb x hx; simp at this; omega, fun v => by simp⟩
 | f :: l, ft, h, hl, hb => by
  have hok := hl f (by simp)
  have hbd := fitV_bd s0 s1 s2 s3 f.f1 f.f2
  have hT := fitT_eq s0 s1 s2 s3 f
  have hcp := hok.2
  unfold cpOk at hcp
  have hF := fits04_ev s0 s1 s2 s3 f.f0.f0 f.f0.f1 f.f1 f.f2 (freeOk_out hok.1).1 (by omega)
  have hlt : fitT s0 s1 s2 s3 f < ft.length := by omega
  have hget : ft.getD (fitT s0 s1 s2 s3 f) 0 = ft[fitT s0 s1 s2 s3 f] := by rw [List.getD_eq_getElem?_getD, List.getElem?_eq_getElem hlt]; rfl
  have hx := hb _ (List.getElem_mem hlt)
  rw [List.length_cons] at hb hx
  have hw : wrap64 (ft.getD (fitT s0 s1 s2 s3 f) 0 + 1) = ft.getD (fitT s0 s1 s2 s3 f) 0 + 1 := by rw [hget]; exact w_id (by omega)
  obtain ⟨ft', e1, e2, e3, e4⟩ := fitsL_ev s0 s1 s2 s3 l (ft.set (fitT s0 s1 s2 s3 f) (ft.getD (fitT s0 s1 s2 s3 f) 0 + 1)) (by simpa using h) (fun x hy => hl x (by simp [hy])) (fun x hy => by
   rcases List.mem_or_eq_of_mem_set hy with hy | rfl
   ·have := hb x hy; omega
   ·rw [hget]; omega)
  refine ⟨ft', ?_, e2, e3, fun v => ?_⟩
  ·refine Ev.congr (fun k => by rw [fitsL]) (Ev.bind hF (Ev.congr (fun k => ?_) e1))
   rw [if_pos ⟨hbd.1, by omega⟩, ← hT, Int.toNat_natCast, hw]
  ·rw [e4 v, List.map_cons]
   by_cases hv : fitT s0 s1 s2 s3 f = v
   ·subst hv
    rw [List.count_cons_self, List.getD_eq_getElem?_getD, List.getElem?_set_self hlt]
    simp only [Option.getD_some]
    push_cast; omega
   ·rw [List.count_cons_of_ne hv, List.getD_eq_getElem?_getD, List.getElem?_set_ne hv, ← List.getD_eq_getElem?_getD]
theorem Pure.PackFew : PackFew.Pure := by
 intro view s m w0 w1 w2
 refine Ev.rounds (g := fun k => ensemblelaw05_PackFew.f k view s.f0 s.f1 s.f2 s.f3 m) ?_
 refine Ev.congr (fun k => by unfold ensemblelaw05_PackFew.f; rfl) ?_
 rcases few05_ev view with ⟨hk, hr, hl⟩ | hk
 case inr => exact Ev.bind hk (Ev.congr (fun k => if_pos rfl) (Ev.now _))
 have F := few5 w0.2 hr hl
 refine Ev.bind hk (Ev.congr (fun k => if_neg (by decide)) ?_)
 refine Ev.congr (fun k => by rw [right04, Option.bind_some]) ?_
 by_cases hg : c4_ s.f0 s.f1 s.f2 s.f3 = true
 case neg => exact Ev.congr (fun k => if_pos (by simpa using hg)) (Ev.now _)
 refine Ev.congr (fun k => if_neg (by rw [hg]; decide)) ?_
 refine Ev.congr (fun k => by rw [F.place, Option.bind_some]) ?_
 by_cases h : (placeP view s.f0 s.f1 s.f2 s.f3 m).2 = 0
 case neg => exact Ev.congr (fun k => if_pos h) (Ev.now _)
 refine Ev.congr (fun k => if_neg (fun x => x h)) ?_
 have hmax := placeP_max view s.f0 s.f1 s.f2 s.f3 m
 obtain ⟨a, b, c, d⟩ := placeP_ok h
 have hsp : ∀ x ∈ (placeP view s.f0 s.f1 s.f2 s.f3 m).1, (w64B x.f0.f0 && w64B x.f0.f1) = true := fun x hx => by
  rw [d] at hx
  obtain ⟨f, hf, h5, _⟩ := flat_spot _ _ _ _ _ x (List.mem_of_mem_take hx)
  rw [h5]
  exact F.sp f ((isort_perm (fkey s.f0 s.f1 s.f2 s.f3) view).mem_iff.1 hf)
 refine Ev.congr (fun k => if_pos ⟨hmax, hl, hsp⟩) ?_
 obtain ⟨ft, e1, e2, e3, e4⟩ := fitsL_ev s.f0 s.f1 s.f2 s.f3 view (List.replicate 17 0) (by simp) F.ok (fun x hx => by rw [List.eq_of_mem_replicate hx]; omega)
 refine Ev.bind e1 (Ev.congr (fun k => if_pos e3) ?_)
 refine Ev.congr (fun k => ?_) (Ev.now _)
 congr 1
 refine decide_eq_true ?_
 rw [d]
 simp only
 have hp := isort_perm (fkey s.f0 s.f1 s.f2 s.f3) view
 have hsort := isort_sorted (fkey s.f0 s.f1 s.f2 s.f3) view
 generalize isort (fkey s.f0 s.f1 s.f2 s.f3) view = L at *
 have hn : (L.map (·.f0)).Nodup := by
  have h1 := (hp.map spot).nodup_iff.2 F.V.right.2
  unfold List.Nodup at h1 ⊢
  rw [List.pairwise_map] at h1 ⊢
  exact h1.imp (fun {x y} hxy e => hxy (by unfold spot; rw [e]))
 have hfl := flat_len s.f0 s.f1 s.f2 s.f3 L
 rw [roomS_perm hp] at hfl
 obtain ⟨i1, i2⟩ := few_sum s.f0 s.f1 s.f2 s.f3 L m.toNat [] hn (fun f hf => by simp) (by omega) (by omega)
 have hle : newN [] ((flat s.f0 s.f1 s.f2 s.f3 L).take m.toNat) ≤ 16 := by
  have : ∀ (l : List S52) (sn : List S48), newN sn l ≤ l.length := by
   intro l
   induction l with
   | nil => intro sn; simp [newN]
   | cons x r ih => intro sn; rw [newN, List.length_cons]; have := ih (x.f0 :: sn); split <;> omega
  have := this ((flat s.f0 s.f1 s.f2 s.f3 L).take m.toNat) []
  rw [List.length_take] at this
  omega
 generalize newN [] ((flat s.f0 s.f1 s.f2 s.f3 L).take m.toNat) = dn at *
 rw [w_id (by omega), show ((dn : Int) - 1) = ((dn - 1 : Nat) : Int) by omega]
 have hcount : ∀ v, ft.getD v 0 = (((L.map (fitT s.f0 s.f1 s.f2 s.f3)).count v : Nat) : Int) := fun v => by
  rw [e4 v, (hp.map (fitT s.f0 s.f1 s.f2 s.f3)).count_eq v]
  have : (List.replicate 17 (0 : Int)).getD v 0 = 0 := by
   rw [List.getD_eq_getElem?_getD, List.getElem?_replicate]
   split <;> rfl
  rw [this]; omega
 have hdesc : (L.map (fitT s.f0 s.f1 s.f2 s.f3)).Pairwise (fun a b => b ≤ a) := by
  rw [List.pairwise_map]
  refine hsort.imp (fun {x y} hxy => ?_)
  have h1 := fitT_eq s.f0 s.f1 s.f2 s.f3 x
  have h2 := fitT_eq s.f0 s.f1 s.f2 s.f3 y
  unfold fkey at hxy
  omega
 have hle16 : ∀ x ∈ L.map (fitT s.f0 s.f1 s.f2 s.f3), x ≤ 16 := fun x hx => by
  obtain ⟨f, _, rfl⟩ := List.mem_map.1 hx
  have h1 := fitT_eq s.f0 s.f1 s.f2 s.f3 f
  have h2 := fitV_bd s.f0 s.f1 s.f2 s.f3 f.f1 f.f2
  omega
 have := outL_eq ft 16 (L.map (fitT s.f0 s.f1 s.f2 s.f3)) (dn - 1) 0 (by omega) hdesc hle16 (fun v _ _ => hcount v) (by omega) (by omega)
 rw [this]
 omega
end Go.Proofs.Ytckhjehibjdjdaa.P
namespace Go.Proofs.Ytckhjehibjdjdaa.row0
set_option maxRecDepth 100000
theorem and_mk {a b : Bool} (h : a = true) (k : b = true) : (a && b) = true := by rw [h, k]; rfl
def letters : List Char := List.map Char.ofNat [104, 97, 114, 110, 101, 115, 115, 32, 57, 100, 50, 54, 101, 98, 50, 54, 53, 56, 98, 49, 102, 51, 56, 49, 51, 55, 98, 54, 100, 49, 53, 55, 102, 53, 100, 49, 102, 101, 97, 49, 102, 56, 57, 57, 55, 98, 52, 55, 53, 51, 99, 98, 101, 48, 98, 98, 48, 97, 53, 54, 48, 102, 102, 54, 52, 98, 99, 52, 98, 52, 102, 52, 32, 99, 117, 116, 32, 97, 116, 32, 101, 110, 115, 101, 109, 98, 108, 101, 47, 101, 110, 115, 101, 109, 98, 108, 101, 108, 97, 119, 49, 50, 46, 80, 114, 111, 109, 105, 115, 101, 84, 101, 108, 108, 115, 32, 101, 110, 115, 101, 109, 98, 108, 101, 47, 101, 110, 115, 101, 109, 98, 108, 101, 108, 97, 119, 49, 50, 46, 80, 114, 111, 109, 105, 115, 101, 75, 101, 101, 112, 115, 32, 101, 110, 115, 101, 109, 98, 108, 101, 47, 101, 110, 115, 101, 109, 98, 108, 101, 108, 97, 119, 49, 50, 46, 80, 114, 111, 109, 105, 115, 101, 76, 101, 115, 115, 32, 101, 110, 115, 101, 109, 98, 108, 101, 47, 101, 110, 115, 101, 109, 98, 108, 101, 108, 97, 119, 49, 50, 46, 80, 114, 111, 109, 105, 115, 101, 79, 110, 108, 121, 32, 101, 110, 115, 101, 109, 98, 108, 101, 47, 101, 110, 115, 101, 109, 98, 108, 101, 108, 97, 119, 49, 50, 46, 80, 114, 111, 109, 105, 115, 101, 82, 111, 111, 109, 32, 101, 110, 115, 101, 109, 98, 108, 101, 47, 101, 110, 115, 101, 109, 98, 108, 101, 108, 97, 119, 49, 51, 46, 70, 105, 108, 108, 84, 101, 108, 108, 115, 32, 101, 110, 115, 101, 109, 98, 108, 101, 47, 101, 110, 115, 101, 109, 98, 108, 101, 108, 97, 119, 49, 51, 46, 70, 105, 108, 108, 76, 97, 116, 101, 32, 101, 110, 115, 101, 109, 98, 108, 101, 47, 101, 110, 115, 101, 109, 98, 108, 101, 108, 97, 119, 49, 51, 46, 70, 105, 108, 108, 78, 111, 110, 101, 32, 101, 110, 115, 101, 109, 98, 108, 101, 47, 101, 110, 115, 101, 109, 98, 108, 101, 108, 97, 119, 49, 51, 46, 70, 105, 108, 108, 77, 97, 110, 121, 32, 101, 110, 115, 101, 109, 98, 108, 101, 47, 101, 110, 115, 101, 109, 98, 108, 101, 108, 97, 119, 49, 51, 46, 70, 105, 108, 108, 80, 97, 115, 116, 32, 101, 110, 115, 101, 109, 98, 108, 101, 47, 101, 110, 115, 101, 109, 98, 108, 101, 108, 97, 119, 48, 53, 46, 80, 97, 99, 107, 70, 101, 119, 32, 101, 110, 115, 101, 109, 98, 108, 101, 47, 101, 110, 115, 101, 109, 98, 108, 101, 108, 97, 119, 48, 53, 46, 80, 97, 99, 107, 70, 114, 111, 110, 116, 32, 101, 110, 115, 101, 109, 98, 108, 101, 47, 101, 110, 115, 101, 109, 98, 108, 101, 108, 97, 119, 48, 53, 46, 80, 97, 99, 107, 84, 101, 108, 108, 115, 32, 101, 110, 115, 101, 109, 98, 108, 101, 47, 101, 110, 115, 101, 109, 98, 108, 101, 108, 97, 119, 48, 53, 46, 80, 97, 99, 107, 82, 111, 111, 109, 115, 32, 101, 110, 115, 101, 109, 98, 108, 101, 47, 101, 110, 115, 101, 109, 98, 108, 101, 108, 97, 119, 48, 53, 46, 80, 97, 99, 107, 76, 101, 102, 116, 32, 101, 110, 115, 101, 109, 98, 108, 101, 47, 101, 110, 115, 101, 109, 98, 108, 101, 108, 97, 119, 48, 53, 46, 80, 97, 99, 107, 77, 111, 114, 101, 32, 101, 110, 115, 101, 109, 98, 108, 101, 47, 101, 110, 115, 101, 109, 98, 108, 101, 108, 97, 119, 48, 53, 46, 80, 97, 99, 107, 87, 104, 111, 108, 101, 32, 101, 110, 115, 101, 109, 98, 108, 101, 47, 101, 110, 115, 101, 109, 98, 108, 101, 108, 97, 119, 49, 52, 46, 69, 108, 97, 115, 116, 105, 99, 77, 111, 115, 116, 32, 101, 110, 115, 101, 109, 98, 108, 101, 47, 101, 110, 115, 101, 109, 98, 108, 101, 108, 97, 119, 49, 52, 46, 69, 108, 97, 115, 116, 105, 99, 77, 111, 114, 101, 32, 101, 110, 115, 101, 109, 98, 108, 101, 47, 101, 110, 115, 101, 109, 98, 108, 101, 108, 97, 119, 49, 52, 46, 69, 108, 97, 115, 116, 105, 99, 83, 97, 102, 101, 32, 101, 110, 115, 101, 109, 98, 108, 101, 47, 101, 110, 115, 101, 109, 98, 108, 101, 108, 97, 119, 49, 53, 46, 87, 111, 114, 107, 101, 114, 77, 97, 121, 32, 101, 110, 115, 101, 109, 98, 108, 101, 47, 101, 110, 115, 101, 109, 98, 108, 101, 108, 97, 119, 49, 53, 46, 87, 111, 114, 107, 101, 114, 82, 101, 115, 116, 115]
theorem lit : Try.checked.prog.initOrder = String.ofList letters := by kernel_rfl
theorem lits : Try.checked.prog.initOrder.toList = letters := by rw [lit]; exact String.toList_ofList
def words : List (List Char) := List.map (List.map Char.ofNat) [[99, 117, 116], [97, 116], [101, 110, 115, 101, 109, 98, 108, 101, 47, 101, 110, 115, 101, 109, 98, 108, 101, 108, 97, 119, 49, 50, 46, 80, 114, 111, 109, 105, 115, 101, 84, 101, 108, 108, 115], [101, 110, 115, 101, 109, 98, 108, 101, 47, 101, 110, 115, 101, 109, 98, 108, 101, 108, 97, 119, 49, 50, 46, 80, 114, 111, 109, 105, 115, 101, 75, 101, 101, 112, 115], [101, 110, 115, 101, 109, 98, 108, 101, 47, 101, 110, 115, 101, 109, 98, 108, 101, 108, 97, 119, 49, 50, 46, 80, 114, 111, 109, 105, 115, 101, 76, 101, 115, 115], [101, 110, 115, 101, 109, 98, 108, 101, 47, 101, 110, 115, 101, 109, 98, 108, 101, 108, 97, 119, 49, 50, 46, 80, 114, 111, 109, 105, 115, 101, 79, 110, 108, 121], [101, 110, 115, 101, 109, 98, 108, 101, 47, 101, 110, 115, 101, 109, 98, 108, 101, 108, 97, 119, 49, 50, 46, 80, 114, 111, 109, 105, 115, 101, 82, 111, 111, 109], [101, 110, 115, 101, 109, 98, 108, 101, 47, 101, 110, 115, 101, 109, 98, 108, 101, 108, 97, 119, 49, 51, 46, 70, 105, 108, 108, 84, 101, 108, 108, 115], [101, 110, 115, 101, 109, 98, 108, 101, 47, 101, 110, 115, 101, 109, 98, 108, 101, 108, 97, 119, 49, 51, 46, 70, 105, 108, 108, 76, 97, 116, 101], [101, 110, 115, 101, 109, 98, 108, 101, 47, 101, 110, 115, 101, 109, 98, 108, 101, 108, 97, 119, 49, 51, 46, 70, 105, 108, 108, 78, 111, 110, 101], [101, 110, 115, 101, 109, 98, 108, 101, 47, 101, 110, 115, 101, 109, 98, 108, 101, 108, 97, 119, 49, 51, 46, 70, 105, 108, 108, 77, 97, 110, 121], [101, 110, 115, 101, 109, 98, 108, 101, 47, 101, 110, 115, 101, 109, 98, 108, 101, 108, 97, 119, 49, 51, 46, 70, 105, 108, 108, 80, 97, 115, 116], [101, 110, 115, 101, 109, 98, 108, 101, 47, 101, 110, 115, 101, 109, 98, 108, 101, 108, 97, 119, 48, 53, 46, 80, 97, 99, 107, 70, 101, 119], [101, 110, 115, 101, 109, 98, 108, 101, 47, 101, 110, 115, 101, 109, 98, 108, 101, 108, 97, 119, 48, 53, 46, 80, 97, 99, 107, 70, 114, 111, 110, 116], [101, 110, 115, 101, 109, 98, 108, 101, 47, 101, 110, 115, 101, 109, 98, 108, 101, 108, 97, 119, 48, 53, 46, 80, 97, 99, 107, 84, 101, 108, 108, 115], [101, 110, 115, 101, 109, 98, 108, 101, 47, 101, 110, 115, 101, 109, 98, 108, 101, 108, 97, 119, 48, 53, 46, 80, 97, 99, 107, 82, 111, 111, 109, 115], [101, 110, 115, 101, 109, 98, 108, 101, 47, 101, 110, 115, 101, 109, 98, 108, 101, 108, 97, 119, 48, 53, 46, 80, 97, 99, 107, 76, 101, 102, 116], [101, 110, 115, 101, 109, 98, 108, 101, 47, 101, 110, 115, 101, 109, 98, 108, 101, 108, 97, 119, 48, 53, 46, 80, 97, 99, 107, 77, 111, 114, 101], [101, 110, 115, 101, 109, 98, 108, 101, 47, 101, 110, 115, 101, 109, 98, 108, 101, 108, 97, 119, 48, 53, 46, 80, 97, 99, 107, 87, 104, 111, 108, 101], [101, 110, 115, 101, 109, 98, 108, 101, 47, 101, 110, 115, 101, 109, 98, 108, 101, 108, 97, 119, 49, 52, 46, 69, 108, 97, 115, 116, 105, 99, 77, 111, 115, 116], [101, 110, 115, 101, 109, 98, 108, 101, 47, 101, 110, 115, 101, 109, 98, 108, 101, 108, 97, 119, 49, 52, 46, 69, 108, 97, 115, 116, 105, 99, 77, 111, 114, 101], [101, 110, 115, 101, 109, 98, 108, 101, 47, 101, 110, 115, 101, 109, 98, 108, 101, 108, 97, 119, 49, 52, 46, 69, 108, 97, 115, 116, 105, 99, 83, 97, 102, 101], [101, 110, 115, 101, 109, 98, 108, 101, 47, 101, 110, 115, 101, 109, 98, 108, 101, 108, 97, 119, 49, 53, 46, 87, 111, 114, 107, 101, 114, 77, 97, 121], [101, 110, 115, 101, 109, 98, 108, 101, 47, 101, 110, 115, 101, 109, 98, 108, 101, 108, 97, 119, 49, 53, 46, 87, 111, 114, 107, 101, 114, 82, 101, 115, 116, 115]]
theorem wordsEq : behindMainWord (wordsSigns letters) = words := by kernel_rfl
theorem behind : behindMainWord (wordsSigns Try.checked.prog.initOrder.toList) = words := by rw [lits]; exact wordsEq
theorem headLifts_of {P : Program} {ws : List (List Char)} (h : behindMainWord (wordsSigns P.initOrder.toList) = ws) (h2 : ((stripLifts liftWords ws).2.head? == some "cut".toList) = true) (h3 : (stripLifts liftWords ws).1 = []) : P.headLifts = [] := by
 unfold Program.headLifts
 rw [h]
 simp only [h2, h3, if_true]
theorem headLifts : Try.checked.prog.headLifts = [] := headLifts_of behind (by kernel_rfl) (by kernel_rfl)
theorem liftsFinal_of {P : Program} {ws : List (List Char)} (h : behindMainWord (wordsSigns P.initOrder.toList) = ws) (hl : P.headLifts = []) (h1 : (ws.head? == some "carried".toList) = false) : P.liftsFinal = false := by
 unfold Program.liftsFinal
 rw [h, hl]
 simp only [h1, Bool.false_and, List.contains_nil, Bool.or_false]
theorem liftsFinal : Try.checked.prog.liftsFinal = false := liftsFinal_of behind headLifts (by kernel_rfl)
theorem make_of {P : Program} {c : List Char} {rest : List (List Char)} (h : behindMainWord (wordsSigns P.initOrder.toList) = c :: rest) (h1 : (c == "gc".toList || c == "spec".toList) = false) (h2 : (c == "cut".toList) = true) : P.make = some .cut := by
 unfold Program.make
 rw [h]
 simp only [h1, h2, Bool.true_or, if_true, Bool.false_eq_true, if_false]
theorem make : Try.checked.prog.make = some .cut := make_of (behind.trans (show words = _ :: _ from rfl)) (by kernel_rfl) (by kernel_rfl)
theorem mayEnter_of {P : Program} {c : List Char} {rest : List (List Char)} (h : behindMainWord (wordsSigns P.initOrder.toList) = c :: rest) (h2 : ((stripLifts liftWords (c :: rest)).2.head? == some "cut".toList) = true) (h3 : (stripLifts liftWords (c :: rest)).1 = []) (h4 : P.laysLater = false) (h5 : P.bearsReflect = false) (h6 : P.doorFits [] = true) : P.mayEnter = true := by
 unfold Program.mayEnter
 rw [h]
 simp only [h2, h3, h4, h5, h6, List.contains_nil, Bool.not_false, Bool.false_or, Bool.or_true, Bool.true_or, Bool.and_true, Bool.true_and]
theorem h4 : Try.checked.prog.laysLater = false := by kernel_rfl
theorem h5 : Try.checked.prog.bearsReflect = false := by kernel_rfl
theorem h6 : Try.checked.prog.doorFits [] = true := by kernel_rfl
theorem mayEnter : Try.checked.prog.mayEnter = true := mayEnter_of (behind.trans (show words = _ :: _ from rfl)) (by kernel_rfl) (by kernel_rfl) h4 h5 h6
end Go.Proofs.Ytckhjehibjdjdaa.row0
namespace Go.Proofs.Ytckhjehibjdjdaa.packFew
open Go.ChangeShapes Go.WideShapes Go.ChangeAt Go.RowKit Go.Proofs.Ytckhjehibjdjdaa.P Go.Proofs.Ytckhjehibjdjdaa.Ob Go.Proofs.YtckhjehibjdjdaaW.PrintWords
open Go.ChangeMaps (open_string shut_string)
theorem own : ownKnob Try.prog.godebug = none := by kernel_rfl
theorem laidOut : laidOutB Try.prog = true := by kernel_rfl
set_option maxRecDepth 100000 in
theorem lifted (os : Os) (started : os.Started) (H : Type) (enc : TypeId × Value → H) :
  ReturnsInHanded {} Try.checked os 13 .any (Rows.packFewSpec.pre6 enc Try.prog Try.f13 Rows.packFewRow.domain false) (Rows.packFewSpec.post enc Try.prog Try.f13 false true false false) := by
 refine returnsInHanded_of_change_sized (C := Try.checked) own started (by kernel_rfl) Try.func13
  (ChangeSpec.witness6 (enc := enc) (C := Try.checked) false ⟨#[], #[.slice none 0 0, .agg #[.int .i64 0, .int .i64 0, .int .i64 0, .int .i64 0], .int .i64 0], []⟩ 8 (by kernel_rfl) (by kernel_rfl) (by kernel_rfl) (by kernel_rfl)) ?_
 intro W base args ds gs before hval0 hW hcnd hsz0 _
 have hval : ∀ (j : Nat) t v, Try.f13.params[j]? = some t → args[j]? = some v → Value.okWide Try.prog W .any base t v := hval0
 have hW' := hW
 obtain ⟨p, q, hA0, hV, rfl, hfz, hnd⟩ := hW
 have hA : DataW.TrodAll enc Try.prog W 0 (fun _ => true) true Try.f13.params.toList args.toList ds p := hA0
 rw [Try.params13] at hA hval
 obtain ⟨v0, vs0, d0, ds0, p0, q0, hargs, rfl, rfl, h0, r0⟩ := trodAll_cons hA
 obtain ⟨v1, vs1, d1, ds1, p1, q1, rfl, rfl, rfl, h1, r1⟩ := trodAll_cons r0
 obtain ⟨v2, vs2, d2, ds2, p2, q2, rfl, rfl, rfl, h2, r2⟩ := trodAll_cons r1
 obtain ⟨rfl, rfl, rfl⟩ := trodAll_nil r2
 obtain rfl : args = #[v0, v1, v2] := by cases args; simp_all
 obtain ⟨rfl, rfl⟩ := trodVars_none hV
 have k0 := h0
 have lt0 : ∀ x ∈ p0, x.block < W.heap.size := by obtain ⟨m, hm⟩ := k0; exact DataW.trod_lt m _ _ _ hm
 obtain ⟨a0, len0, cap0, rfl⟩ := okWide_slice Try.underlying22 (hval 0 22 v0 rfl rfl)
 obtain ⟨x0, ⟨A0, c0, e0, l0, g0⟩, w0⟩ := Opens.open (Opens.slice Try.underlying22 (by kernel_rfl) (o51)) h0
 simp [Value.cells] at e0
 obtain ⟨rfl, rfl, rfl⟩ := e0
 have k1 := h1
 have lt1 : ∀ x ∈ p1, x.block < W.heap.size := by obtain ⟨m, hm⟩ := k1; exact DataW.trod_lt m _ _ _ hm
 obtain ⟨cs1, rfl, _⟩ := okWide_struct Try.underlying27 (hval 1 27 v1 rfl rfl)
 obtain ⟨x1, K1, w1⟩ := Opens.open o27 h1
 have e1 := k27_open K1
 obtain rfl : cs1 = #[.int .i64 x1.f0, .int .i64 x1.f1, .int .i64 x1.f2, .int .i64 x1.f3] := by apply Array.toList_inj.1; exact e1
 have k2 := h2
 have lt2 : ∀ x ∈ p2, x.block < W.heap.size := by obtain ⟨m, hm⟩ := k2; exact DataW.trod_lt m _ _ _ hm
 obtain ⟨x2, rfl⟩ := okWide_int Try.underlying3 (hval 2 3 v2 rfl rfl)
 obtain ⟨y2, e2, w2⟩ := Opens.open (o_i64 Try.underlying3) h2
 have e2' : x2 = y2 := by have := e2; simp [Value.cells, Kd.int, Kd.scalar] at this; exact this
 rw [← e2'] at w2
 clear hA0 hval0 hsz0
 obtain ⟨k, hk⟩ := Pure.PackFew x0 x1 x2 w0 w1 w2
 refine (ensemblelaw05_PackFew.calls k _ _ x0 (x1.f0) (x1.f1) (x1.f2) (x1.f3) x2 true W g0 l0 hk).mono fun e W' ⟨he, bel⟩ => ?_
 subst he
 exact ⟨_, rfl, _, _, _, [], _, [], hW', trodAll_mk1 (shut_bool Try.underlying4 _), (trodAll_cons_mk (Below.trod laidOut (by kernel_rfl) (of_decide_eq_true (by kernel_rfl)) k0 bel lt0) (trodAll_cons_mk (Below.trod laidOut (by kernel_rfl) (of_decide_eq_true (by kernel_rfl)) k1 bel lt1) (trodAll_cons_mk (Below.trod laidOut (by kernel_rfl) (of_decide_eq_true (by kernel_rfl)) k2 bel lt2) trodAll_mk0))), rfl, bel.frame _, fun h => by cases h⟩
set_option maxHeartbeats 8000000 in
theorem closedFacts : joinedFacts Try.checked.prog 13 Try.f13 Rows.packFewSpec Rows.packFewRow = true := by
 unfold joinedFacts
 repeat' (with_reducible (apply row0.and_mk))
 all_goals first | (with_reducible exact row0.mayEnter) | (rw [row0.liftsFinal]; kernel_rfl) | (rw [row0.make]; kernel_rfl) | (as_aux_lemma => kernel_rfl)
theorem over : Rows.packFewRow.holds Try.pinned (OpenSpec.ofChange Rows.packFewSpec) :=
 OpenClaim.holds_of_wide 13 Try.f13 rfl rfl rfl rfl rfl rfl rfl ⟨rfl, rfl, rfl, rfl, rfl⟩ rfl rfl rfl rfl rfl (by kernel_rfl) Try.func13 closedFacts
  (of_decide_eq_true (by kernel_rfl)) (by unfold Func.isWrapper; first | (rw [if_pos (by decide +kernel)]; kernel_rfl) | (rw [if_neg (by decide +kernel)]; exact ⟨rfl, rfl⟩))
  (fun os started H enc _ => lifted os started H enc)
theorem proved : Rows.PackFewSaid := over
#print axioms proved
end Go.Proofs.Ytckhjehibjdjdaa.packFew
namespace Go.Proofs.Ytckhjehibjdjdaa
theorem packFew_holds : Rows.PackFewSaid := packFew.proved
end Go.Proofs.Ytckhjehibjdjdaa
