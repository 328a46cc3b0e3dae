/- ElasticMore: part 5 of the walk and of the plain law that it comes to. No condition. -/
import Derived.Test.YtckhjehibjdjdaaZElasticMore4
import Derived.ArgAppend
import Derived.Below
import Derived.BigQuiet
import Derived.BigRegion
import Derived.Carry
import Derived.ChangeAlike
import Derived.ChangeOld
import Derived.Deep.AppendLies
import Derived.Deep.CutBlock
import Derived.Deep.DeepCutAuto
import Derived.Deep.Draws
import Derived.Deep.LoopGhost
import Derived.Deep.OwnRows
import Derived.Deep.QuietTactic
import Derived.Deep.RegionHeld3
import Derived.Deep.Slices
import Derived.DeepKeys3
import Derived.IntWalk
import Derived.KernelRfl
import Derived.Laws.Bits64
import Derived.Laws.Bits64b
import Derived.Laws.BitsLemmas
import Derived.Laws.BytesArg
import Derived.Laws.EntriesVeiled
import Derived.Laws.Externs
import Derived.Laws.IdiomCopy
import Derived.Laws.MakeOwn
import Derived.Laws.OwnMore
import Derived.Laws.Rows
import Derived.Laws.Slices
import Derived.Lib.AppendStr
import Derived.Lib.ConvBytes
import Derived.Lib.ReflectliteSlice
import Derived.Lib.ReflectliteSwap
import Derived.Lib.SliceRun
import Derived.LoopIn
import Derived.LoopN
import Derived.LoopNIn
import Derived.Maps.AppendAt
import Derived.Maps.Keyed
import Derived.Maps.Own
import Derived.Maps.OwnOps
import Derived.Maps.OwnSet
import Derived.Maps.Views
import Derived.OpenShut
import Derived.OrdersHeld
import Derived.Outline
import Derived.OwnWalk
import Derived.OwnWalkIn
import Derived.ProofKit
import Derived.RangeFuncBound
import Derived.RangeFuncBox
import Derived.RangeFuncCalls
import Derived.RangeFuncFrom
import Derived.RangeFuncLeaves
import Derived.RangeFuncNested
import Derived.RegionTactic
import Derived.RowKit
import Derived.RowKit3
import Derived.Shelf.Abstract
import Derived.Shelf.RegionOpen
import Derived.ShutString
import Derived.SizedLaws
import Derived.StillTailTactics
import Derived.Tactics
import Derived.TacticsInMore
import Derived.WalkKit
import Derived.WideLaws
set_option linter.unusedVariables false
set_option linter.unusedSimpArgs false
namespace Go.Proofs.Ytckhjehibjdjdaa.P
open Go.RowKit Go.Proofs.YtckhjehibjdjdaaW.PrintWords Go.Proofs.YtckhjehibjdjdaaW.PrintLast Go.Proofs.YtckhjehibjdjdaaW.PrintMore
open Go.Proofs.Ytckhjehibjdjdaa.Bits Go.Proofs.Ytckhjehibjdjdaa.Mp
def sspot (s : S52) : Int × Int := (s.f0.f0, s.f0.f1)
def atS (f : S51) (l : List S52) : List S52 := l.filter fun s => decide (sspot s = spot f)
def stepV (view : List S51) (s : S52) : List S51 := view.map fun f => if spot f = sspot s then moreF f s else f
def disj (a b : Int) : Prop := a.toNat &&& b.toNat = 0
theorem disj_comm {a b : Int} (h : disj a b) : disj b a := by unfold disj at *; rw [Nat.and_comm]; exact h
structure okF (f : S51) (l : List S52) : Prop where
 own : ∀ s ∈ l, disj s.f1 f.f1
 two : l.Pairwise fun a b => disj a.f1 b.f1
 sum : f.f2 + (l.map fun s => s.f2).sum ≤ 1048576
structure okS (view : List S51) (slots : List S52) : Prop where
 pos : ∀ s ∈ slots, 0 ≤ s.f2 ∧ sspot s ∈ view.map spot
 fit : ∀ f ∈ view, okF f (atS f slots)
def viewS (view : List S51) (slots : List S52) : List S51 := view.map fun f => (atS f slots).foldl moreF f
theorem atS_moreF (f : S51) (s : S52) (l : List S52) : atS (moreF f s) l = atS f l := rfl
theorem stepV_spots (view : List S51) (s : S52) : (stepV view s).map spot = view.map spot := by
 unfold stepV
 rw [List.map_map]
 apply List.map_congr_left
 intro f _
 simp only [Function.comp_apply]
 split <;> rfl
theorem bits_or_bv (a b : Int) : Go.bits .or .u64 a b = ((BitVec.ofInt 64 a ||| BitVec.ofInt 64 b).toNat : Int) := by
 show IntKind.u64.wrap ((BitVec.ofInt 64 a ||| BitVec.ofInt 64 b).toNat : Int) = _
 rw [wrapN, Nat.mod_eq_of_lt (BitVec.isLt _)]
theorem ofInt_toNat (x : BitVec 64) : BitVec.ofInt 64 (x.toNat : Int) = x := by
 rw [BitVec.ofInt_natCast]; simp
theorem or_right_comm (a b c : Int) : Go.bits .or .u64 (Go.bits .or .u64 a b) c = Go.bits .or .u64 (Go.bits .or .u64 a c) b := by
 rw [bits_or_bv, bits_or_bv a b, ofInt_toNat, bits_or_bv, bits_or_bv a c, ofInt_toNat, BitVec.or_assoc, BitVec.or_comm (BitVec.ofInt 64 b), ← BitVec.or_assoc]
theorem wrap_right_comm (a b c : Int) : wrap64 (wrap64 (a + b) + c) = wrap64 (wrap64 (a + c) + b) := by unfold wrap64; omega
theorem moreF_comm (f : S51) (a b : S52) : moreF (moreF f a) b = moreF (moreF f b) a := by
 unfold moreF
 rw [or_right_comm, wrap_right_comm]
theorem and_iff_disj {a b : Int} (ha : 0 ≤ a ∧ a < 18446744073709551616) (hb : 0 ≤ b ∧ b < 18446744073709551616) : Go.bits .and .u64 a b = 0 ↔ disj a b := by
 rw [bits_and_z ha hb]; unfold disj; omega
theorem disj_or {a b c : Int} (ha : 0 ≤ a ∧ a < 18446744073709551616) (hb : 0 ≤ b ∧ b < 18446744073709551616) : disj c (Go.bits .or .u64 a b) ↔ disj c a ∧ disj c b := by
 obtain ⟨x, rfl⟩ := Int.eq_ofNat_of_zero_le ha.1
 obtain ⟨y, rfl⟩ := Int.eq_ofNat_of_zero_le hb.1
 rw [bits_or_u64_nat x y (by omega) (by omega)]
 unfold disj
 rw [Int.toNat_natCast, Int.toNat_natCast, Int.toNat_natCast, Nat.and_or_distrib_left, Nat.or_eq_zero_iff]
theorem moreE_iff {f : S51} {s : S52} (hf : freeOk f = true) (hc : cpOk f) (hs : maskOk s = true) (h0 : 0 ≤ s.f2) : moreE f s = 0 ↔ disj s.f1 f.f1 ∧ f.f2 + s.f2 ≤ 1048576 := by
 have h1 := freeOk_out hf
 have h2 := maskOk_out hs
 unfold cpOk at hc
 unfold moreE
 rw [show wrap64 (1048576 - f.f2) = 1048576 - f.f2 from w_id (by omega)]
 by_cases hd : disj s.f1 f.f1
 ·rw [if_neg (fun x => x ((and_iff_disj h2 h1.1).2 hd))]
  by_cases h : s.f2 > 1048576 - f.f2
  ·rw [if_pos h]; constructor
   ·intro x; cases x
   ·intro x; omega
  ·rw [if_neg h]; exact ⟨fun _ => ⟨hd, by omega⟩, fun _ => rfl⟩
 ·rw [if_pos (fun x => hd ((and_iff_disj h2 h1.1).1 x))]; constructor
  ·intro x; cases x
  ·intro x; exact absurd x.1 hd
theorem okF_cons {f : S51} {s : S52} {l : List S52} (hf : freeOk f = true) (hc : cpOk f) (hs : maskOk s = true) (h0 : 0 ≤ s.f2) (hl : ∀ x ∈ l, 0 ≤ x.f2) :
  okF f (s :: l) ↔ moreE f s = 0 ∧ okF (moreF f s) l := by
 have h1 := freeOk_out hf
 have h2 := maskOk_out hs
 rw [moreE_iff hf hc hs h0]
 have hsum : 0 ≤ (l.map fun s => s.f2).sum := by
  clear h1 h2 hc
  induction l with
  | nil => simp
  | cons x l ih =>
   have := hl x (by simp)
   have := ih (fun y hy => hl y (by simp [hy]))
   rw [List.map_cons, List.sum_cons]; omega
 unfold cpOk at hc
 have hw : f.f2 + s.f2 ≤ 1048576 → (moreF f s).f2 = f.f2 + s.f2 := fun h => by unfold moreF; exact w_id (by omega)
 constructor
 ·rintro ⟨a, b, c⟩
  rw [List.map_cons, List.sum_cons] at c
  have hb := List.pairwise_cons.1 b
  refine ⟨⟨a s (by simp), by omega⟩, fun x hx => ?_, hb.2, ?_⟩
  ·show disj x.f1 (Go.bits .or .u64 f.f1 s.f1)
   exact (disj_or h1.1 h2).2 ⟨a x (by simp [hx]), disj_comm (hb.1 x hx)⟩
  ·rw [hw (by omega)]; omega
 ·rintro ⟨⟨a, b⟩, c, d, e⟩
  rw [hw b] at e
  refine ⟨fun x hx => ?_, List.pairwise_cons.2 ⟨fun x hx => ?_, d⟩, ?_⟩
  ·rcases List.mem_cons.1 hx with rfl | hx
   ·exact a
   ·exact ((disj_or h1.1 h2).1 (c x hx)).1
  ·exact disj_comm ((disj_or h1.1 h2).1 (c x hx)).2
  ·rw [List.map_cons, List.sum_cons]; omega
theorem set_step {view : List S51} (hn : (view.map spot).Nodup) {s : S52} {p : Nat} (hp : findI view s.f0.f0 s.f0.f1 = (p : Int)) :
  ∃ h : p < view.length, spot view[p] = sspot s ∧ view.set p (moreF view[p] s) = stepV view s ∧ ∀ f ∈ view, spot f = sspot s → f = view[p] := by
 unfold findI at hp
 cases hf : view.findIdx? (isAt s.f0.f0 s.f0.f1) with
 | none => rw [hf] at hp; simp only at hp; omega
 | some j =>
  rw [hf] at hp
  simp only at hp
  obtain rfl : j = p := by omega
  rw [List.findIdx?_eq_some_iff_getElem] at hf
  obtain ⟨hj, h1, _⟩ := hf
  have hs := isAt_iff.1 h1
  have huniq : ∀ i (hi : i < view.length), spot view[i] = sspot s → i = j := fun i hi he => by
   have hn' := List.pairwise_iff_getElem.1 hn
   rcases Nat.lt_trichotomy i j with h | h | h
   ·exact absurd (by rw [List.getElem_map, List.getElem_map, he, hs]; rfl) (hn' i j (by simpa using hi) (by simpa using hj) h)
   ·exact h
   ·exact absurd (by rw [List.getElem_map, List.getElem_map, he, hs]; rfl) (hn' j i (by simpa using hj) (by simpa using hi) h)
  refine ⟨hj, hs, ?_, fun f hf he => ?_⟩
  ·unfold stepV
   apply List.ext_getElem
   ·simp
   ·intro i h1 h2
    rw [List.getElem_set, List.getElem_map]
    rw [List.length_set] at h1
    by_cases hij : j = i
    ·subst hij
     rw [if_pos rfl, if_pos (show spot view[j] = sspot s from hs)]
    ·rw [if_neg hij, if_neg (fun h => hij (huniq i h1 h).symm)]
  ·obtain ⟨i, hi, rfl⟩ := List.mem_iff_getElem.1 hf
   have := huniq i hi he
   subst this; rfl
structure View (view : List S51) : Prop where
 right : viewR view
 free : ∀ f ∈ view, freeOk f = true
theorem stepV_mem {view : List S51} {s : S52} {P : S51 → Prop} : (∀ f ∈ stepV view s, P f) ↔ ∀ f ∈ view, P (if spot f = sspot s then moreF f s else f) := by
 unfold stepV
 simp only [List.mem_map]
 constructor
 ·intro h f hf; exact h _ ⟨f, hf, rfl⟩
 ·rintro h f ⟨g, hg, rfl⟩; exact h g hg
theorem View.step {view : List S51} (V : View view) {s : S52} (hs : maskOk s = true) (h0 : 0 ≤ s.f2) (hE : ∀ f ∈ view, spot f = sspot s → moreE f s = 0) : View (stepV view s) := by
 refine ⟨⟨stepV_mem.2 fun f hf => ?_, by rw [stepV_spots]; exact V.right.2⟩, stepV_mem.2 fun f hf => ?_⟩
 ·split
  ·rename_i h
   have h1 := (moreE_iff (V.free f hf) (V.right.1 f hf) hs h0).1 (hE f hf h)
   have h2 := V.right.1 f hf
   unfold cpOk at h2 ⊢
   have : (moreF f s).f2 = f.f2 + s.f2 := by unfold moreF; exact w_id (by omega)
   omega
  ·exact V.right.1 f hf
 ·split
  ·exact moreF_ok (V.free f hf) hs
  ·exact V.free f hf
theorem atS_cons (f : S51) (s : S52) (l : List S52) : atS f (s :: l) = if sspot s = spot f then s :: atS f l else atS f l := by
 unfold atS
 by_cases h : sspot s = spot f
 ·rw [if_pos h, List.filter_cons_of_pos (by simpa using h)]
 ·rw [if_neg h, List.filter_cons_of_neg (by simpa using h)]
theorem viewS_step (view : List S51) (s : S52) (l : List S52) : viewS (stepV view s) l = viewS view (s :: l) := by
 unfold viewS stepV
 rw [List.map_map]
 apply List.map_congr_left
 intro f _
 simp only [Function.comp_apply]
 by_cases h : spot f = sspot s
 ·rw [if_pos h, atS_moreF, atS_cons, if_pos h.symm]; rfl
 ·rw [if_neg h, atS_cons, if_neg (fun x => h x.symm)]
theorem turnF_iff : ∀ (slots : List S52) (view : List S51), View view → (∀ s ∈ slots, maskOk s = true) →
  ((turnF moreE moreF view slots).2 = 0 ↔ okS view slots) ∧ ((turnF moreE moreF view slots).2 = 0 → (turnF moreE moreF view slots).1 = viewS view slots)
 | [], view, V, _ => by
  refine ⟨⟨fun _ => ⟨by simp, fun f hf => ⟨by simp [atS], by simp [atS], ?_⟩⟩, fun _ => rfl⟩, fun _ => ?_⟩
  ·have := V.right.1 f hf
   unfold cpOk at this
   simp [atS]; omega
  ·unfold viewS atS turnF; simp
 | s :: ss, view, V, hm => by
  have hms := hm s (by simp)
  rw [turnF]
  by_cases h1 : s.f2 < 0
  ·rw [if_pos h1]
   exact ⟨⟨fun h => (by cases h), fun h => (by have := (h.pos s (by simp)).1; omega)⟩, fun h => (by cases h)⟩
  rw [if_neg h1]
  by_cases h2 : findI view s.f0.f0 s.f0.f1 < 0
  ·rw [if_pos h2]
   have hn := findI_neg.1 h2
   exact ⟨⟨fun h => (by cases h), fun h => absurd (h.pos s (by simp)).2 hn⟩, fun h => (by cases h)⟩
  rw [if_neg h2]
  obtain ⟨p, hp⟩ := Int.eq_ofNat_of_zero_le (show 0 ≤ findI view s.f0.f0 s.f0.f1 by omega)
  obtain ⟨hpl, hps, hset, huni⟩ := set_step V.right.2 hp
  have hin : sspot s ∈ view.map spot := List.mem_map.2 ⟨view[p], List.getElem_mem hpl, hps⟩
  rw [hp, Int.toNat_natCast, rd51' view p hpl]
  have hfp := V.free _ (List.getElem_mem hpl)
  have hcp := V.right.1 _ (List.getElem_mem hpl)
  have hall : (∀ f ∈ view, spot f = sspot s → moreE f s = 0) ↔ moreE view[p] s = 0 :=
   ⟨fun h => h _ (List.getElem_mem hpl) hps, fun h f hf he => by rw [huni f hf he]; exact h⟩
  by_cases h3 : moreE view[p] s = 0
  ·rw [if_pos h3, hset]
   have V' := V.step hms (by omega) (hall.2 h3)
   have ih := turnF_iff ss (stepV view s) V' (fun x hx => hm x (by simp [hx]))
   have hiff : okS (stepV view s) ss ↔ okS view (s :: ss) := by
    constructor
    ·rintro ⟨a, b⟩
     have hpos : ∀ x ∈ s :: ss, 0 ≤ x.f2 ∧ sspot x ∈ view.map spot := fun x hx => by
      rcases List.mem_cons.1 hx with rfl | hx
      ·exact ⟨by omega, hin⟩
      ·have := a x hx; rw [stepV_spots] at this; exact this
     refine ⟨hpos, fun f hf => ?_⟩
     have hb := stepV_mem.1 b f hf
     rw [atS_cons]
     by_cases he : spot f = sspot s
     ·rw [if_pos he, atS_moreF] at hb
      rw [if_pos he.symm]
      exact (okF_cons (V.free f hf) (V.right.1 f hf) hms (by omega) (fun x hx => (hpos x (by simp [(List.mem_filter.1 hx).1])).1)).2 ⟨hall.2 h3 f hf he, hb⟩
     ·rw [if_neg he] at hb
      rw [if_neg (fun x => he x.symm)]
      exact hb
    ·rintro ⟨a, b⟩
     refine ⟨fun x hx => by rw [stepV_spots]; exact a x (by simp [hx]), stepV_mem.2 fun f hf => ?_⟩
     have hb := b f hf
     rw [atS_cons] at hb
     by_cases he : spot f = sspot s
     ·rw [if_pos he.symm] at hb
      rw [if_pos he, atS_moreF]
      exact ((okF_cons (V.free f hf) (V.right.1 f hf) hms (by omega) (fun x hx => (a x (by simp [(List.mem_filter.1 hx).1])).1)).1 hb).2
     ·rw [if_neg (fun x => he x.symm)] at hb
      rw [if_neg he]; exact hb
   exact ⟨ih.1.trans hiff, fun h => by rw [ih.2 h, viewS_step]⟩
  ·rw [if_neg h3]
   refine ⟨⟨fun h => absurd h h3, fun h => ?_⟩, fun h => absurd h h3⟩
   have hb := h.fit _ (List.getElem_mem hpl)
   rw [atS_cons, if_pos hps.symm] at hb
   exact absurd ((okF_cons hfp hcp hms (by omega) (fun x hx => (h.pos x (by simp [(List.mem_filter.1 hx).1])).1)).1 hb).1 h3
theorem perm_sum {l l' : List Int} (h : l.Perm l') : l.sum = l'.sum := by
 induction h with
 | nil => rfl
 | cons x _ ih => rw [List.sum_cons, List.sum_cons, ih]
 | swap x y l => rw [List.sum_cons, List.sum_cons, List.sum_cons, List.sum_cons]; omega
 | trans _ _ h1 h2 => exact h1.trans h2
theorem sub_sum {l l' : List S52} (h : l'.Sublist l) : (∀ s ∈ l, 0 ≤ s.f2) → (l'.map fun s => s.f2).sum ≤ (l.map fun s => s.f2).sum := by
 induction h with
 | slnil => intro _; simp
 | cons x _ ih =>
  intro h0
  have h1 := ih (fun s hs => h0 s (by simp [hs]))
  have h2 := h0 x (by simp)
  rw [List.map_cons, List.sum_cons]; omega
 | cons_cons x _ ih =>
  intro h0
  have h1 := ih (fun s hs => h0 s (by simp [hs]))
  rw [List.map_cons, List.sum_cons, List.map_cons, List.sum_cons]; omega
theorem okF_perm {f : S51} {l l' : List S52} (h : l.Perm l') : okF f l → okF f l' := fun ⟨a, b, c⟩ =>
 ⟨fun s hs => a s (h.mem_iff.2 hs), (h.pairwise_iff (fun {x y} hxy => disj_comm hxy)).1 b, by rw [← perm_sum (h.map fun s => s.f2)]; exact c⟩
theorem okF_sub {f : S51} {l l' : List S52} (h : l'.Sublist l) (h0 : ∀ s ∈ l, 0 ≤ s.f2) : okF f l → okF f l' := fun ⟨a, b, c⟩ => by
 refine ⟨fun s hs => a s (h.subset hs), b.sublist h, ?_⟩
 have := sub_sum h h0
 omega
theorem okS_perm {view : List S51} {l l' : List S52} (h : l.Perm l') : okS view l → okS view l' := fun ⟨a, b⟩ =>
 ⟨fun s hs => a s (h.mem_iff.2 hs), fun f hf => okF_perm (h.filter _) (b f hf)⟩
theorem okS_sub {view : List S51} {l l' : List S52} (h : l'.Sublist l) : okS view l → okS view l' := fun ⟨a, b⟩ =>
 ⟨fun s hs => a s (h.subset hs), fun f hf => okF_sub (h.filter _) (fun s hs => (a s (List.mem_filter.1 hs).1).1) (b f hf)⟩
theorem viewS_perm {view : List S51} {l l' : List S52} (h : l.Perm l') : viewS view l = viewS view l' := by
 unfold viewS
 apply List.map_congr_left
 intro f _
 exact (h.filter _).foldl_eq' (fun x _ y _ z => moreF_comm z x y) _
theorem turnF_append {E : S51 → S52 → Int} {F : S51 → S52 → S51} : ∀ (a b : List S52) (view : List S51), (turnF E F view a).2 = 0 → turnF E F view (a ++ b) = turnF E F (turnF E F view a).1 b
 | [], b, view, _ => rfl
 | s :: ss, b, view, h => by
  rw [turnF] at h
  rw [List.cons_append, turnF, turnF]
  by_cases h1 : s.f2 < 0
  ·rw [if_pos h1] at h; cases h
  rw [if_neg h1] at h
  rw [if_neg h1, if_neg h1]
  by_cases h2 : findI view s.f0.f0 s.f0.f1 < 0
  ·rw [if_pos h2] at h; cases h
  rw [if_neg h2] at h
  rw [if_neg h2, if_neg h2]
  by_cases h3 : E (a4_ view (findI view s.f0.f0 s.f0.f1)) s = 0
  ·rw [if_pos h3] at h
   rw [if_pos h3, if_pos h3]
   exact turnF_append ss b _ h
  ·rw [if_neg h3] at h; exact absurd h h3
def popS (l : List S52) : Int := (l.map fun s => popI s.f1).sum
def cpS (l : List S52) : Int := (l.map fun s => s.f2).sum
def I64P (a : Int × Int) : Prop := (-9223372036854775808 ≤ a.1 ∧ a.1 ≤ 9223372036854775807) ∧ -9223372036854775808 ≤ a.2 ∧ a.2 ≤ 9223372036854775807
theorem wrap_bd (x : Int) : -9223372036854775808 ≤ wrap64 x ∧ wrap64 x ≤ 9223372036854775807 := by unfold wrap64; omega
theorem wrap_add (a b : Int) : wrap64 (wrap64 a + b) = wrap64 (a + b) := by unfold wrap64; omega
theorem wrap_add' (a b : Int) : wrap64 (a + wrap64 b) = wrap64 (a + b) := by unfold wrap64; omega
theorem addL_true : ∀ (l : List S52) (a : Int × Int), I64P a → addL true a l = (wrap64 (a.1 + popS l), wrap64 (a.2 + cpS l))
 | [], a, h => by
  unfold I64P at h
  have e1 : wrap64 (a.1 + popS []) = a.1 := by rw [show popS [] = 0 from rfl, Int.add_zero]; exact w_id (by omega)
  have e2 : wrap64 (a.2 + cpS []) = a.2 := by rw [show cpS [] = 0 from rfl, Int.add_zero]; exact w_id (by omega)
  rw [e1, e2]; rfl
 | s :: l, a, h => by
  have e : addL true a (s :: l) = addL true (addU true a s) l := rfl
  have e2 : addU true a s = (wrap64 (a.1 + popI s.f1), wrap64 (a.2 + s.f2)) := if_pos rfl
  rw [e, e2, addL_true l _ ⟨wrap_bd _, wrap_bd _⟩]
  simp only
  rw [wrap_add, wrap_add]
  simp only [popS, cpS, List.map_cons, List.sum_cons]
  rw [Int.add_assoc, Int.add_assoc]
theorem addL_false (l : List S52) : ∀ a : Int × Int, addL false a l = a := by
 induction l with
 | nil => intro a; rfl
 | cons s l ih => intro a; exact ih a
theorem addL_left (l : List S52) (a : Int × Int) (h : I64P a) : addL true a l = (wrap64 (a.1 + (addL true (0, 0) l).1), wrap64 (a.2 + (addL true (0, 0) l).2)) := by
 rw [addL_true l a h, addL_true l (0, 0) ⟨by simp, by simp⟩]
 simp only
 rw [wrap_add', wrap_add', Int.zero_add, Int.zero_add]
def qPop (q : Int) (L : List S41) : Int := ((L.filter fun h => decide (h.f1 = q)).map fun h => popS h.f4).sum
def qCp (q : Int) (L : List S41) : Int := ((L.filter fun h => decide (h.f1 = q)).map fun h => cpS h.f4).sum
theorem leftQ_eq (q : Int) : ∀ (L : List S41) (a : Int × Int), I64P a → leftQ q a L = (wrap64 (a.1 + qPop q L), wrap64 (a.2 + qCp q L))
 | [], a, h => by
  unfold I64P at h
  have e1 : wrap64 (a.1 + qPop q []) = a.1 := by rw [show qPop q [] = 0 from rfl, Int.add_zero]; exact w_id (by omega)
  have e2 : wrap64 (a.2 + qCp q []) = a.2 := by rw [show qCp q [] = 0 from rfl, Int.add_zero]; exact w_id (by omega)
  rw [e1, e2]; rfl
 | x :: L, a, h => by
  rw [leftQ]
  by_cases hq : x.f1 = q
  ·rw [if_pos hq, ← addL_left x.f4 a h, addL_true x.f4 a h, leftQ_eq q L _ ⟨wrap_bd _, wrap_bd _⟩]
   simp only
   rw [wrap_add, wrap_add]
   unfold qPop qCp
   rw [List.filter_cons_of_pos (by simpa using hq), List.map_cons, List.map_cons, List.sum_cons, List.sum_cons, Int.add_assoc, Int.add_assoc]
  ·rw [if_neg hq, leftQ_eq q L a h]
   unfold qPop qCp
   rw [List.filter_cons_of_neg (by simpa using hq)]
theorem leftQ_perm {q : Int} {L L' : List S41} (h : L.Perm L') (a : Int × Int) (ha : I64P a) : leftQ q a L = leftQ q a L' := by
 rw [leftQ_eq q L a ha, leftQ_eq q L' a ha]
 unfold qPop qCp
 rw [perm_sum ((h.filter _).map _), perm_sum ((h.filter _).map fun h => cpS h.f4)]
theorem leftQ_snoc (q : Int) : ∀ (L : List S41) (x : S41) (a : Int × Int), I64P a → leftQ q a (L ++ [x]) = addL (decide (x.f1 = q)) (leftQ q a L) x.f4
 | [], x, a, h => by
  rw [List.nil_append, leftQ, leftQ, leftQ]
  by_cases hq : x.f1 = q
  ·rw [if_pos hq, decide_eq_true hq, addL_left x.f4 a h]
  ·rw [if_neg hq, decide_eq_false hq, addL_false]
 | y :: L, x, a, h => by
  rw [List.cons_append, leftQ, leftQ]
  refine leftQ_snoc q L x _ ?_
  split
  ·exact ⟨wrap_bd _, wrap_bd _⟩
  ·exact h
def IsBest (A : Int → Bool) (t : Int) (L : List S41) (b : Int) : Prop :=
 (b = 1073741825 ∨ ∃ h ∈ L, h.f2 = b ∧ t < b ∧ b < 1073741825 ∧ A b = true) ∧ b ≤ 1073741825 ∧ ∀ h ∈ L, t < h.f2 → h.f2 < 1073741825 → A h.f2 = true → b ≤ h.f2
def IsE (A : Int → Bool) (t : Int) (L : List S41) (b : Int) : Prop := (A t = true ∧ b = t) ∨ (A t = false ∧ IsBest A t L b)
theorem bestF_spec (A : Int → Bool) (now : Int) : ∀ (l : List S41) (b : Int), (bestF A now b l = b ∨ ∃ h ∈ l, h.f2 = bestF A now b l ∧ now < bestF A now b l ∧ bestF A now b l < b ∧ A (bestF A now b l) = true) ∧ bestF A now b l ≤ b ∧ ∀ h ∈ l, now < h.f2 → h.f2 < b → A h.f2 = true → bestF A now b l ≤ h.f2
 | [], b => ⟨.inl rfl, Int.le_refl _, by simp⟩
 | x :: l, b => by
  rw [bestF]
  by_cases h : x.f2 > now ∧ x.f2 < b ∧ A x.f2 = true
  ·rw [if_pos h]
   obtain ⟨i1, i2, i3⟩ := bestF_spec A now l x.f2
   refine ⟨.inr ?_, by omega, fun y hy h1 h2 h3 => ?_⟩
   ·rcases i1 with i1 | ⟨y, hy, i4, i5, i6, i7⟩
    ·exact ⟨x, by simp, i1.symm, by omega, by omega, by rw [i1]; exact h.2.2⟩
    ·exact ⟨y, by simp [hy], i4, i5, by omega, i7⟩
   ·rcases List.mem_cons.1 hy with rfl | hy
    ·exact i2
    ·by_cases hlt : y.f2 < x.f2
     ·exact i3 y hy h1 hlt h3
     ·omega
  ·rw [if_neg h]
   obtain ⟨i1, i2, i3⟩ := bestF_spec A now l b
   refine ⟨?_, i2, fun y hy h1 h2 h3 => ?_⟩
   ·rcases i1 with i1 | ⟨y, hy, i4⟩
    ·exact .inl i1
    ·exact .inr ⟨y, by simp [hy], i4⟩
   ·rcases List.mem_cons.1 hy with rfl | hy
    ·exact absurd ⟨h1, h2, h3⟩ h
    ·exact i3 y hy h1 h2 h3
theorem bestF_best (A : Int → Bool) (now : Int) (l : List S41) : IsBest A now l (bestF A now 1073741825 l) := bestF_spec A now l 1073741825
theorem IsBest.uniq {A : Int → Bool} {t : Int} {L L' : List S41} {b b' : Int} (h : IsBest A t L b) (h' : IsBest A t L' b') (hm : ∀ x, x ∈ L ↔ x ∈ L') : b = b' := by
 obtain ⟨h1, h2, h3⟩ := h
 obtain ⟨k1, k2, k3⟩ := h'
 have a : b ≤ b' := by
  rcases k1 with rfl | ⟨x, hx, rfl, k4, k5, k6⟩
  ·exact h2
  ·exact h3 x ((hm x).2 hx) k4 k5 k6
 have a' : b' ≤ b := by
  rcases h1 with rfl | ⟨x, hx, rfl, k4, k5, k6⟩
  ·exact k2
  ·exact k3 x ((hm x).1 hx) k4 k5 k6
 omega
theorem IsE.uniq {A : Int → Bool} {t : Int} {L L' : List S41} {b b' : Int} (h : IsE A t L b) (h' : IsE A t L' b') (hm : ∀ x, x ∈ L ↔ x ∈ L') : b = b' := by
 rcases h with ⟨h1, h2⟩ | ⟨h1, h2⟩ <;> rcases h' with ⟨k1, k2⟩ | ⟨k1, k2⟩
 ·omega
 ·rw [h1] at k1; cases k1
 ·rw [h1] at k1; cases k1
 ·exact h2.uniq k2 hm
theorem slotsOf_perm {a b : List S41} (h : a.Perm b) : (c6_ a).Perm (c6_ b) := by
 induction h with
 | nil => exact List.Perm.refl _
 | cons x _ ih => rw [slotsOf_cons, slotsOf_cons]; exact ih.append_left _
 | swap x y l =>
  rw [slotsOf_cons, slotsOf_cons, slotsOf_cons, slotsOf_cons, ← List.append_assoc, ← List.append_assoc]
  exact List.perm_append_comm.append_right _
 | trans _ _ h1 h2 => exact h1.trans h2
structure Fine (view : List S51) (lg lc : Int) (ends : List S41) : Prop where
 V : View view
 I : Inp view ends
 L : I64P (lg, lc)
 ok : okS view (c6_ ends)
theorem Fine.turn {view : List S51} {lg lc : Int} {ends : List S41} (F : Fine view lg lc ends) {l l' : List S52} (hp : l'.Perm (c6_ ends)) (hs : l.Sublist l') :
  (turnF moreE moreF view l).2 = 0 ∧ (turnF moreE moreF view l).1 = viewS view l := by
 have hm : ∀ s ∈ l, maskOk s = true := fun s h => F.I.sm s (hp.mem_iff.1 (hs.subset h))
 have h := turnF_iff l view F.V hm
 have h0 := h.1.2 (okS_sub hs (okS_perm hp.symm F.ok))
 exact ⟨h0, h.2 h0⟩
theorem ended_append (T : Int) (a b : List S41) : ended T (a ++ b) = ended T a ++ ended T b := List.filter_append ..
theorem ended_all {T : Int} {l : List S41} (h : ∀ x ∈ l, x.f2 ≤ T) : ended T l = l := List.filter_eq_self.2 fun x hx => by simpa using h x hx
theorem ended_none {T : Int} {l : List S41} (h : ∀ x ∈ l, T < x.f2) : ended T l = [] := List.filter_eq_nil_iff.2 fun x hx => by have := h x hx; simp; omega
theorem fits_pre {view : List S51} {lg lc : Int} {ends : List S41} (F : Fine view lg lc ends) (q m g c mn mx T : Int) {S pre l : List S41} (hS : S.Perm ends) (he : S = pre ++ l) (h1 : ∀ x ∈ pre, x.f2 ≤ T) (h2 : ∀ x ∈ l, T < x.f2) :
  fitsB (turnF moreE moreF view (c6_ pre)).1 (leftQ q (lg, lc) pre).1 (leftQ q (lg, lc) pre).2 m g c mn mx = atB view lg lc ends q m g c mn mx T := by
 have hp : pre.Perm (ended T ends) := by
  have h := hS.filter (fun h => decide (h.f2 ≤ T))
  have e : S.filter (fun h => decide (h.f2 ≤ T)) = pre := by
   show ended T S = pre
   rw [he, ended_append, ended_all h1, ended_none h2, List.append_nil]
  rw [e] at h
  exact h
 have t1 := F.turn (l := c6_ pre) (slotsOf_perm hS) (by rw [he, slotsOf_append]; exact List.sublist_append_left _ _)
 have t2 := F.turn (l := c6_ (ended T ends)) (List.Perm.refl _) (sub_slots List.filter_sublist)
 unfold atB
 rw [t1.2, t2.2, viewS_perm (slotsOf_perm hp), leftQ_perm hp (lg, lc) F.L]
theorem goE_is {view : List S51} {lg lc : Int} {ends : List S41} (F : Fine view lg lc ends) (q m g c mn mx : Int) {S : List S41} (hS : S.Perm ends) (hsort : S.Pairwise fun a b => a.f2 ≤ b.f2) :
  ∀ (l pre : List S41) (t : Int), S = pre ++ l → (∀ x ∈ pre, x.f2 ≤ t) → IsE (atB view lg lc ends q m g c mn mx) t S (goE q m g c mn mx l t (turnF moreE moreF view (c6_ pre)).1 (leftQ q (lg, lc) pre))
 | [], pre, t, he, h1 => by
  have hf := fits_pre F q m g c mn mx t hS he h1 (by simp)
  rw [goE, hf]
  cases hA : atB view lg lc ends q m g c mn mx t with
  | true => exact .inl ⟨hA, if_pos rfl⟩
  | false =>
   refine .inr ⟨hA, ?_⟩
   rw [if_neg (by decide)]
   refine ⟨.inl rfl, Int.le_refl _, fun h hh h2 => ?_⟩
   rw [he, List.append_nil] at hh
   have := h1 h hh
   omega
 | x :: l, pre, t, he, h1 => by
  have hx : ∀ y ∈ l, x.f2 ≤ y.f2 := by
   rw [he] at hsort
   exact (List.pairwise_cons.1 (List.pairwise_append.1 hsort).2.1).1
  have he' : S = (pre ++ [x]) ++ l := by rw [he]; simp
  have t1 := F.turn (l := c6_ pre) (slotsOf_perm hS) (by rw [he, slotsOf_append]; exact List.sublist_append_left _ _)
  have hsp : ((turnF moreE moreF view (c6_ pre)).1.map spot).Nodup := by
   rw [t1.2]
   have : (viewS view (c6_ pre)).map spot = view.map spot := by
    unfold viewS
    rw [List.map_map]
    apply List.map_congr_left
    intro f _
    simp only [Function.comp_apply]
    generalize atS f (c6_ pre) = sl
    have : ∀ (sl : List S52) (f : S51), spot (sl.foldl moreF f) = spot f := fun sl => by
     induction sl with
     | nil => intro f; rfl
     | cons s sl ih => intro f; rw [List.foldl_cons, ih]; rfl
    exact this sl f
   rw [this]; exact F.V.right.2
  have hv : (turned51 moreE moreF (turnF moreE moreF view (c6_ pre)).1 x.f4).1 = (turnF moreE moreF view (c6_ (pre ++ [x]))).1 := by
   rw [turned51_find (F := moreF) (fun _ _ => rfl) hsp, slotsOf_append, show c6_ [x] = x.f4 by simp [c6_], turnF_append _ _ _ t1.1]
  have hl := leftQ_snoc q pre x (lg, lc) F.L
  have IH := goE_is F q m g c mn mx hS hsort l (pre ++ [x])
  rw [goE, hv, ← hl]
  by_cases h2 : x.f2 > t
  ·have hgt : ∀ y ∈ x :: l, t < y.f2 := fun y hy => by
    rcases List.mem_cons.1 hy with rfl | hy
    ·exact h2
    ·have := hx y hy; omega
   have hf := fits_pre F q m g c mn mx t hS he h1 hgt
   rw [if_pos h2, hf]
   cases hA : atB view lg lc ends q m g c mn mx t with
   | true => exact .inl ⟨hA, if_pos rfl⟩
   | false =>
    rw [if_neg (by decide)]
    refine .inr ⟨hA, ?_⟩
    by_cases h3 : x.f2 ≥ 1073741825
    ·rw [if_pos h3]
     refine ⟨.inl rfl, Int.le_refl _, fun y hy h4 h5 => ?_⟩
     rw [he] at hy
     rcases List.mem_append.1 hy with hy | hy
     ·have := h1 y hy; omega
     ·rcases List.mem_cons.1 hy with rfl | hy
      ·omega
      ·have := hx y hy; omega
    ·rw [if_neg h3]
     have i := IH x.f2 he' (fun y hy => by
      rcases List.mem_append.1 hy with hy | hy
      ·have := h1 y hy; omega
      ·rw [List.mem_singleton.1 hy]; exact Int.le_refl _)
     generalize goE q m g c mn mx l x.f2 (turnF moreE moreF view (c6_ (pre ++ [x]))).1 (leftQ q (lg, lc) (pre ++ [x])) = r at *
     have hxS : x ∈ S := by rw [he]; simp
     have hmem : ∀ y ∈ S, t < y.f2 → x.f2 ≤ y.f2 := fun y hy h => by
      rw [he] at hy
      rcases List.mem_append.1 hy with hy | hy
      ·have := h1 y hy; omega
      ·rcases List.mem_cons.1 hy with rfl | hy
       ·exact Int.le_refl _
       ·exact hx y hy
     rcases i with ⟨i1, rfl⟩ | ⟨i1, i2, i3, i4⟩
     ·exact ⟨.inr ⟨x, hxS, rfl, h2, by omega, i1⟩, by omega, fun y hy h _ _ => hmem y hy h⟩
     ·refine ⟨?_, i3, fun y hy h4 h5 h6 => ?_⟩
      ·rcases i2 with i2 | ⟨y, hy, j1, j2, j3, j4⟩
       ·exact .inl i2
       ·exact .inr ⟨y, hy, j1, by omega, j3, j4⟩
      ·have h7 := hmem y hy h4
       by_cases h8 : x.f2 = y.f2
       ·rw [← h8, i1] at h6; cases h6
       ·exact i4 y hy (by omega) h5 h6
  ·rw [if_neg h2]
   exact IH t he' (fun y hy => by
    rcases List.mem_append.1 hy with hy | hy
    ·exact h1 y hy
    ·rw [List.mem_singleton.1 hy]; omega)
theorem goE_early {view : List S51} {lg lc : Int} {ends : List S41} (F : Fine view lg lc ends) (q m g c mn mx now : Int) :
  IsE (atB view lg lc ends q m g c mn mx) now ends (goE q m g c mn mx (isort skey41 ends) now view (lg, lc)) := by
 have hp := isort_perm skey41 ends
 have h := goE_is F q m g c mn mx hp (isort_sorted skey41 ends) (isort skey41 ends) [] now rfl (by simp)
 have e : (turnF moreE moreF view (c6_ [])).1 = view := rfl
 have e2 : leftQ q (lg, lc) [] = (lg, lc) := rfl
 rw [e, e2] at h
 rcases h with h | ⟨h1, h2, h3, h4⟩
 ·exact .inl h
 ·refine .inr ⟨h1, ?_, h3, fun y hy => h4 y (hp.mem_iff.2 hy)⟩
  rcases h2 with h2 | ⟨y, hy, h5⟩
  ·exact .inl h2
  ·exact .inr ⟨y, hp.mem_iff.1 hy, h5⟩
theorem refEarly_is {view : List S51} {lg lc : Int} {ends : List S41} (q m g c mn mx now : Int) (h0 : ¬ (now < 0 ∨ now > 1073741824 ∨ rightB m g c mn mx = false)) (hok : (turnF moreE moreF view (c6_ ends)).2 = 0) :
  ∃ b, refEarly now view lg lc ends q m g c mn mx = (b, 0) ∧ IsE (atB view lg lc ends q m g c mn mx) now ends b := by
 unfold refEarly
 rw [if_neg h0, if_neg (fun x => x hok)]
 cases hA : atB view lg lc ends q m g c mn mx now with
 | true => exact ⟨now, by simp, .inl ⟨hA, rfl⟩⟩
 | false => exact ⟨bestF (atB view lg lc ends q m g c mn mx) now 1073741825 ends, by simp, .inr ⟨hA, bestF_best _ _ _⟩⟩
theorem early_ref {view : List S51} {lg lc : Int} {ends : List S41} (V : View view) (I : Inp view ends) (L : I64P (lg, lc)) (now q m g c mn mx : Int) :
  earliestB now view lg lc ends q m g c mn mx = refEarly now view lg lc ends q m g c mn mx := by
 have ht : turned51 moreE moreF view (c6_ ends) = turnF moreE moreF view (c6_ ends) := turned51_find (F := moreF) (fun _ _ => rfl) V.right.2 _
 by_cases h0 : now < 0 ∨ now > 1073741824 ∨ rightB m g c mn mx = false
 ·unfold earliestB refEarly
  rw [if_pos h0, if_pos h0]
 by_cases h1 : (turnF moreE moreF view (c6_ ends)).2 = 0
 ·have F : Fine view lg lc ends := ⟨V, I, L, ((turnF_iff _ view V I.sm).1).1 h1⟩
  obtain ⟨b, hb, hE⟩ := refEarly_is (lg := lg) (lc := lc) q m g c mn mx now h0 h1
  rw [hb]
  unfold earliestB
  rw [if_neg h0, show (ends.flatMap fun h => h.f4) = c6_ ends from rfl, ht, if_neg (fun x => x h1)]
  rw [(goE_early F q m g c mn mx now).uniq hE (fun _ => Iff.rfl)]
 ·unfold earliestB refEarly
  rw [if_neg h0, if_neg h0, show (ends.flatMap fun h => h.f4) = c6_ ends from rfl, ht, if_pos h1, if_pos h1]
end Go.Proofs.Ytckhjehibjdjdaa.P
namespace Go.Proofs.Ytckhjehibjdjdaa.Ob
open Go.RowKit Go.Deep Go.Proofs.YtckhjehibjdjdaaW.PrintWords Go.WideShapes
def Opens {α : Type} (P : Program) (t : TypeId) (d : Kd α) (wf : α → Prop) : Prop :=
 ∀ (H : Type) (enc : TypeId × Value → H) (W : World) (base : Nat) (spare : Nat → Bool) (held : Bool) (fuel : Nat) (cs : List Value) (x : DataW H × List MemPlace),
  DataW.trod enc P W base spare held fuel t cs = some x → ∃ a, d.K W a cs ∧ wf a
variable {P : Program} {t e : TypeId}
theorem Opens.int {k : IntKind} (ht : P.underlying t = some (.int k)) : Opens P t (Kd.int k) (fun n => (Lit.int k n).wf = true) := by
 intro H enc W base spare held fuel cs x h
 obtain ⟨n, rfl, _, hw⟩ := DataW.trod_int ht h
 exact ⟨n, rfl, hw⟩
theorem Opens.bool (ht : P.underlying t = some .bool) : Opens P t Kd.bool (fun _ => True) := by
 intro H enc W base spare held fuel cs x h
 obtain ⟨b, rfl, _⟩ := DataW.trod_bool ht h
 exact ⟨b, rfl, trivial⟩
theorem Opens.slice {α : Type} {d : Kd α} {wf : α → Prop} (ht : P.underlying t = some (.slice e)) (hsz : P.cellsOf e = d.sz) (he : Opens P e d wf) :
  Opens P t (Kd.slice e d) (fun xs => xs.length ≤ maxLen ∧ ∀ x ∈ xs, wf x) := by
 intro H enc W base spare held fuel cs x h
 rcases open_slice ht h with ⟨rfl, _⟩ | ⟨a, len, cap, m, n, D, Pl, rfl, _, hl, hm, hmm, hxx, hx⟩
 ·exact ⟨[], ⟨none, 0, rfl, Nat.le_refl _, rfl, by simp, fun h => absurd h (by simp)⟩, by simp [maxLen], fun x hx => by simp at hx⟩
 ·have hlm : len ≤ m := by rw [hmm]; split <;> omega
  have hx' : ∀ i, i < len → ∃ (y : α) (c : List Value), d.K W y c ∧ wf y ∧ c.length = d.sz ∧ ∀ j u, c[j]? = some u → W.cell? (a.add (i * d.sz + j)) = some u := by
   intro i hi
   obtain ⟨c, h1, h2⟩ := hx i (by omega)
   obtain ⟨y, hK, hw⟩ := he H enc W base spare held n c _ h2
   obtain ⟨_, h3, h4⟩ := World.cells?_some h1
   refine ⟨y, c, hK, hw, d.K_len hK, fun j u hu => ?_⟩
   have hj : j < c.length := by
    rcases Nat.lt_or_ge j c.length with h | h
    ·exact h
    ·rw [List.getElem?_eq_none h] at hu; cases hu
   have h5 := h4 j (by omega)
   rw [Deep.add_add, hsz] at h5
   rw [h5]; exact hu
  have hall : ∃ xs : List α, xs.length = len ∧ ∀ (i : Nat) (p : α), xs[i]? = some p → ∃ c, c.length = d.sz ∧ d.K W p c ∧ wf p ∧ ∀ j u, c[j]? = some u → W.cell? (a.add (i * d.sz + j)) = some u := by
   clear hx hm hl hmm hlm h hxx
   induction len with
   | zero => exact ⟨[], rfl, fun i p hp => by simp at hp⟩
   | succ len ih =>
    obtain ⟨xs, hxl, hxs⟩ := ih (fun i hi => hx' i (by omega))
    obtain ⟨y, c, hK, hw, hcl, hc⟩ := hx' len (by omega)
    refine ⟨xs ++ [y], by simp [hxl], fun i p hp => ?_⟩
    rcases Nat.lt_or_ge i xs.length with h | h
    ·rw [List.getElem?_append_left h] at hp
     exact hxs i p hp
    ·have hi : i = xs.length := by
      have := (List.getElem?_eq_some_iff.1 hp).1
      rw [List.length_append, List.length_singleton] at this
      omega
     subst hi
     have hp' : y = p := by simpa using hp
     subst hp'
     exact ⟨c, hcl, hK, hw, by rw [hxl]; exact hc⟩
  obtain ⟨xs, hxl, hxs⟩ := hall
  refine ⟨xs, ⟨some a, cap, by rw [hxl], by omega, rfl, by rw [hxl]; simp only [maxLen] at hm; omega, fun _ => ⟨a, rfl, fun j p hp => ?_⟩⟩, by rw [hxl]; omega, fun x hx => ?_⟩
  ·obtain ⟨c, h1, h2, _, h3⟩ := hxs j p hp
   exact ⟨c, h1, h2, h3⟩
  ·obtain ⟨i, hi, rfl⟩ := List.getElem_of_mem hx
   obtain ⟨_, _, _, h, _⟩ := hxs i _ (List.getElem?_eq_getElem hi)
   exact h
def OpensAt {α : Type} (P : Program) (fs : List (Nat × TypeId)) (off : Nat) (d : Kd α) (wf : α → Prop) : Prop :=
 ∀ (H : Type) (enc : TypeId × Value → H) (W : World) (base : Nat) (spare : Nat → Bool) (held : Bool) (fuel : Nat) (cs : List Value), cs.length = off + d.sz →
  (∀ f, f ∈ fs → ∃ x, DataW.trod enc P W base spare held fuel f.2 ((cs.drop f.1).take (P.cellsOf f.2)) = some x) → ∃ a, d.K W a (cs.drop off) ∧ wf a
theorem OpensAt.last {α : Type} {d : Kd α} {wf : α → Prop} {off : Nat} (h : Opens P t d wf) (hsz : P.cellsOf t = d.sz) : OpensAt P [(off, t)] off d wf := by
 intro H enc W base spare held fuel cs hl hf
 obtain ⟨x, hx⟩ := hf (off, t) (by simp)
 rw [hsz, List.take_of_length_le (by rw [List.length_drop]; omega)] at hx
 exact h H enc W base spare held fuel _ x hx
theorem OpensAt.cons {α β : Type} {d : Kd α} {wf : α → Prop} {d' : Kd β} {wf' : β → Prop} {off off' : Nat} {fs : List (Nat × TypeId)} (h : Opens P t d wf) (hsz : P.cellsOf t = d.sz) (ho : off' = off + d.sz)
  (h' : OpensAt P fs off' d' wf') : OpensAt P ((off, t) :: fs) off (Kd.pair d d') (fun x => wf x.1 ∧ wf' x.2) := by
 intro H enc W base spare held fuel cs hl hf
 obtain ⟨x, hx⟩ := hf (off, t) (by simp)
 have hl' : cs.length = off' + d'.sz := by rw [hl, ho]; show off + (d.sz + d'.sz) = _; omega
 obtain ⟨a, hK, hw⟩ := h H enc W base spare held fuel _ x hx
 obtain ⟨b, hK', hw'⟩ := h' H enc W base spare held fuel cs hl' (fun f hf' => hf f (by simp [hf']))
 refine ⟨(a, b), ⟨_, _, ?_, hK, hK'⟩, hw, hw'⟩
 rw [hsz, ho, ← List.drop_drop, List.take_append_drop]
theorem Opens.struct {α β : Type} {d : Kd β} {wf : β → Prop} {fs : Array Field} {l : List (Nat × TypeId)} (ht : P.underlying t = some (.struct fs)) (hl : fs.toList.map (fun f => (f.offset, f.type)) = l) (hsz : P.cellsOf t = d.sz)
  (h : OpensAt P l 0 d wf) (f : α → β) (g : β → α) (hfg : ∀ b, f (g b) = b) : Opens P t (Kd.iso d f) (fun x => wf (f x)) := by
 intro H enc W base spare held fuel cs x hx
 obtain ⟨xs, n, _, _, hcl, hxl, hfs⟩ := DataW.trod_struct ht hx
 obtain ⟨b, hK, hw⟩ := h H enc W base spare held n cs (by rw [hcl, hsz]; omega) (fun p hp => by
  rw [← hl] at hp
  obtain ⟨fd, hfd, rfl⟩ := List.mem_map.1 hp
  obtain ⟨i, hi, rfl⟩ := List.getElem_of_mem hfd
  have := hfs i fs.toList[i] (by simp)
  rw [List.getElem?_eq_getElem (by rw [hxl]; simpa using hi)] at this
  exact ⟨_, this⟩)
 exact ⟨g b, by show d.K W (f (g b)) cs; rw [hfg]; simpa using hK, by show wf (f (g b)); rw [hfg]; exact hw⟩
theorem Opens.imp {α : Type} {d : Kd α} {wf wf' : α → Prop} (h : Opens P t d wf) (hi : ∀ a, wf a → wf' a) : Opens P t d wf' := fun H enc W base spare held fuel cs x hx =>
 let ⟨a, h1, h2⟩ := h H enc W base spare held fuel cs x hx; ⟨a, h1, hi a h2⟩
theorem Opens.open {α : Type} {d : Kd α} {wf : α → Prop} (h : Opens P t d wf) {H : Type} {enc : TypeId × Value → H} {W : World} {base : Nat} {spare : Nat → Bool} {held : Bool} {v : Value} {y : DataW H} {p : List MemPlace}
  (hv : DataW.Trod enc P W base spare held t v y p) : ∃ a, d.K W a v.cells.toList ∧ wf a := by
 obtain ⟨fuel, hf⟩ := hv
 exact h H enc W base spare held fuel _ _ hf
end Go.Proofs.Ytckhjehibjdjdaa.Ob
namespace Go.Proofs.Ytckhjehibjdjdaa.P
open Go.RowKit Go.Proofs.Ytckhjehibjdjdaa.Ob Go.Proofs.YtckhjehibjdjdaaW.PrintWords
def I64 (x : Int) : Prop := -9223372036854775808 ≤ x ∧ x ≤ 9223372036854775807
def U64 (x : Int) : Prop := 0 ≤ x ∧ x ≤ 18446744073709551615
def U8 (x : Int) : Prop := 0 ≤ x ∧ x ≤ 255
theorem i64_of {x : Int} (h : (Lit.int .i64 x).wf = true) : I64 x := by unfold I64; simp [Lit.wf, IntKind.min, IntKind.max, IntKind.bits, IntKind.signed] at h; omega
theorem u64_of {x : Int} (h : (Lit.int .u64 x).wf = true) : U64 x := by unfold U64; simp [Lit.wf, IntKind.min, IntKind.max, IntKind.bits, IntKind.signed] at h; omega
theorem u8_of {x : Int} (h : (Lit.int .u8 x).wf = true) : U8 x := by unfold U8; simp [Lit.wf, IntKind.min, IntKind.max, IntKind.bits, IntKind.signed] at h; omega
theorem o_i64 {t : TypeId} (h : Try.prog.underlying t = some (.int .i64)) : Opens Try.prog t (Kd.int .i64) I64 := (Opens.int h).imp fun _ h => i64_of h
theorem o_u64 {t : TypeId} (h : Try.prog.underlying t = some (.int .u64)) : Opens Try.prog t (Kd.int .u64) U64 := (Opens.int h).imp fun _ h => u64_of h
theorem o_u8 {t : TypeId} (h : Try.prog.underlying t = some (.int .u8)) : Opens Try.prog t (Kd.int .u8) U8 := (Opens.int h).imp fun _ h => u8_of h
def wfd48 (x : S48) : Prop := I64 x.f0 ∧ I64 x.f1
theorem o48 : Opens Try.prog 48 k48 wfd48 := (Opens.struct Try.underlying48 rfl (by kernel_rfl) (OpensAt.cons (o_i64 Try.underlying3) (by kernel_rfl) rfl (OpensAt.last (o_i64 Try.underlying3) (by kernel_rfl))) _ (fun p => (⟨p.1, p.2⟩ : S48)) (fun _ => rfl)).imp (fun _ h => h)
def wfd51 (x : S51) : Prop := wfd48 x.f0 ∧ U64 x.f1 ∧ I64 x.f2
theorem o51 : Opens Try.prog 51 k51 wfd51 := (Opens.struct Try.underlying51 rfl (by kernel_rfl) (OpensAt.cons (o48) (by kernel_rfl) rfl (OpensAt.cons (o_u64 Try.underlying49) (by kernel_rfl) rfl (OpensAt.last (o_i64 Try.underlying3) (by kernel_rfl)))) _ (fun p => (⟨p.1, p.2.1, p.2.2⟩ : S51)) (fun _ => rfl)).imp (fun _ h => h)
def wfd24 (x : S24) : Prop := I64 x.f0 ∧ I64 x.f1
theorem o24 : Opens Try.prog 24 k24 wfd24 := (Opens.struct Try.underlying24 rfl (by kernel_rfl) (OpensAt.cons (o_i64 Try.underlying3) (by kernel_rfl) rfl (OpensAt.last (o_i64 Try.underlying3) (by kernel_rfl))) _ (fun p => (⟨p.1, p.2⟩ : S24)) (fun _ => rfl)).imp (fun _ h => h)
def wfd52 (x : S52) : Prop := wfd48 x.f0 ∧ U64 x.f1 ∧ I64 x.f2
theorem o52 : Opens Try.prog 52 k52 wfd52 := (Opens.struct Try.underlying52 rfl (by kernel_rfl) (OpensAt.cons (o48) (by kernel_rfl) rfl (OpensAt.cons (o_u64 Try.underlying49) (by kernel_rfl) rfl (OpensAt.last (o_i64 Try.underlying3) (by kernel_rfl)))) _ (fun p => (⟨p.1, p.2.1, p.2.2⟩ : S52)) (fun _ => rfl)).imp (fun _ h => h)
def wfd41 (x : S41) : Prop := I64 x.f0 ∧ I64 x.f1 ∧ I64 x.f2 ∧ True ∧ (x.f4.length ≤ maxLen ∧ ∀ y ∈ x.f4, wfd52 y)
theorem o41 : Opens Try.prog 41 k41 wfd41 := (Opens.struct Try.underlying41 rfl (by kernel_rfl) (OpensAt.cons (o_i64 Try.underlying3) (by kernel_rfl) rfl (OpensAt.cons (o_i64 Try.underlying3) (by kernel_rfl) rfl (OpensAt.cons (o_i64 Try.underlying3) (by kernel_rfl) rfl (OpensAt.cons (Opens.bool Try.underlying4) (by kernel_rfl) rfl (OpensAt.last ((Opens.slice Try.underlying39 (by kernel_rfl) (o52))) (by kernel_rfl)))))) _ (fun p => (⟨p.1, p.2.1, p.2.2.1, p.2.2.2.1, p.2.2.2.2⟩ : S41)) (fun _ => rfl)).imp (fun _ h => h)
def wfd27 (x : S27) : Prop := I64 x.f0 ∧ I64 x.f1 ∧ I64 x.f2 ∧ I64 x.f3
theorem o27 : Opens Try.prog 27 k27 wfd27 := (Opens.struct Try.underlying27 rfl (by kernel_rfl) (OpensAt.cons (o_i64 Try.underlying3) (by kernel_rfl) rfl (OpensAt.cons (o_i64 Try.underlying3) (by kernel_rfl) rfl (OpensAt.cons (o_i64 Try.underlying3) (by kernel_rfl) rfl (OpensAt.last (o_i64 Try.underlying3) (by kernel_rfl))))) _ (fun p => (⟨p.1, p.2.1, p.2.2.1, p.2.2.2⟩ : S27)) (fun _ => rfl)).imp (fun _ h => h)
def wfd88 (x : S88) : Prop := I64 x.f0 ∧ I64 x.f1 ∧ I64 x.f2 ∧ I64 x.f3 ∧ wfd27 x.f4
theorem o88 : Opens Try.prog 88 k88 wfd88 := (Opens.struct Try.underlying88 rfl (by kernel_rfl) (OpensAt.cons (o_i64 Try.underlying3) (by kernel_rfl) rfl (OpensAt.cons (o_i64 Try.underlying3) (by kernel_rfl) rfl (OpensAt.cons (o_i64 Try.underlying3) (by kernel_rfl) rfl (OpensAt.cons (o_i64 Try.underlying3) (by kernel_rfl) rfl (OpensAt.last (o27) (by kernel_rfl)))))) _ (fun p => (⟨p.1, p.2.1, p.2.2.1, p.2.2.2.1, p.2.2.2.2⟩ : S88)) (fun _ => rfl)).imp (fun _ h => h)
def wfd105 (x : S105) : Prop := wfd88 x.f0 ∧ I64 x.f1 ∧ I64 x.f2
theorem o105 : Opens Try.prog 105 k105 wfd105 := (Opens.struct Try.underlying105 rfl (by kernel_rfl) (OpensAt.cons (o88) (by kernel_rfl) rfl (OpensAt.cons (o_i64 Try.underlying3) (by kernel_rfl) rfl (OpensAt.last (o_i64 Try.underlying3) (by kernel_rfl)))) _ (fun p => (⟨p.1, p.2.1, p.2.2⟩ : S105)) (fun _ => rfl)).imp (fun _ h => h)
def wfd149 (x : S149) : Prop := wfd88 x.f0 ∧ I64 x.f1 ∧ I64 x.f2 ∧ I64 x.f3 ∧ I64 x.f4 ∧ I64 x.f5 ∧ I64 x.f6 ∧ I64 x.f7 ∧ I64 x.f8
theorem o149 : Opens Try.prog 149 k149 wfd149 := (Opens.struct Try.underlying149 rfl (by kernel_rfl) (OpensAt.cons (o88) (by kernel_rfl) rfl (OpensAt.cons (o_i64 Try.underlying3) (by kernel_rfl) rfl (OpensAt.cons (o_i64 Try.underlying3) (by kernel_rfl) rfl (OpensAt.cons (o_i64 Try.underlying3) (by kernel_rfl) rfl (OpensAt.cons (o_i64 Try.underlying3) (by kernel_rfl) rfl (OpensAt.cons (o_i64 Try.underlying3) (by kernel_rfl) rfl (OpensAt.cons (o_i64 Try.underlying3) (by kernel_rfl) rfl (OpensAt.cons (o_i64 Try.underlying3) (by kernel_rfl) rfl (OpensAt.last (o_i64 Try.underlying3) (by kernel_rfl)))))))))) _ (fun p => (⟨p.1, p.2.1, p.2.2.1, p.2.2.2.1, p.2.2.2.2.1, p.2.2.2.2.2.1, p.2.2.2.2.2.2.1, p.2.2.2.2.2.2.2.1, p.2.2.2.2.2.2.2.2⟩ : S149)) (fun _ => rfl)).imp (fun _ h => h)
def wfd86 (x : S86) : Prop := I64 x.f0 ∧ I64 x.f1 ∧ I64 x.f2 ∧ I64 x.f3 ∧ (x.f4.length ≤ maxLen ∧ ∀ y ∈ x.f4, wfd51 y) ∧ (x.f5.length ≤ maxLen ∧ ∀ y ∈ x.f5, wfd24 y) ∧ (x.f6.length ≤ maxLen ∧ ∀ y ∈ x.f6, wfd41 y) ∧ (x.f7.length ≤ maxLen ∧ ∀ y ∈ x.f7, wfd105 y) ∧ (x.f8.length ≤ maxLen ∧ ∀ y ∈ x.f8, wfd149 y)
theorem o86 : Opens Try.prog 86 k86 wfd86 := (Opens.struct Try.underlying86 rfl (by kernel_rfl) (OpensAt.cons (o_i64 Try.underlying3) (by kernel_rfl) rfl (OpensAt.cons (o_i64 Try.underlying3) (by kernel_rfl) rfl (OpensAt.cons (o_i64 Try.underlying3) (by kernel_rfl) rfl (OpensAt.cons (o_i64 Try.underlying3) (by kernel_rfl) rfl (OpensAt.cons ((Opens.slice Try.underlying22 (by kernel_rfl) (o51))) (by kernel_rfl) rfl (OpensAt.cons ((Opens.slice Try.underlying82 (by kernel_rfl) (o24))) (by kernel_rfl) rfl (OpensAt.cons ((Opens.slice Try.underlying25 (by kernel_rfl) (o41))) (by kernel_rfl) rfl (OpensAt.cons ((Opens.slice Try.underlying83 (by kernel_rfl) (o105))) (by kernel_rfl) rfl (OpensAt.last ((Opens.slice Try.underlying84 (by kernel_rfl) (o149))) (by kernel_rfl)))))))))) _ (fun p => (⟨p.1, p.2.1, p.2.2.1, p.2.2.2.1, p.2.2.2.2.1, p.2.2.2.2.2.1, p.2.2.2.2.2.2.1, p.2.2.2.2.2.2.2.1, p.2.2.2.2.2.2.2.2⟩ : S86)) (fun _ => rfl)).imp (fun _ h => h)
end Go.Proofs.Ytckhjehibjdjdaa.P
namespace Go.Proofs.Ytckhjehibjdjdaa.P
open Go.RowKit Go.Proofs.YtckhjehibjdjdaaW.PrintWords Go.Proofs.YtckhjehibjdjdaaW.PrintLast Go.Proofs.YtckhjehibjdjdaaW.PrintMore
attribute [local go_sem] max2_int min2_int max_two min_two max_three min_three max_four min_four
end Go.Proofs.Ytckhjehibjdjdaa.P
namespace Go.Proofs.Ytckhjehibjdjdaa.P
open Go.RowKit Go.Proofs.YtckhjehibjdjdaaW.PrintWords Go.Proofs.YtckhjehibjdjdaaW.PrintLast Go.Proofs.YtckhjehibjdjdaaW.PrintMore
open Go.Proofs.Ytckhjehibjdjdaa.Bits Go.Proofs.Ytckhjehibjdjdaa.Mp
theorem free_of_wf {f : S51} (h : wfd51 f) : freeOk f = true ∧ (w64B f.f0.f0 && w64B f.f0.f1) = true := by
 unfold wfd51 wfd48 I64 U64 at h
 constructor
 ·unfold freeOk w64B
  rw [decide_eq_true (by omega), decide_eq_true (by omega), decide_eq_true (by omega), decide_eq_true (by omega)]; rfl
 ·unfold w64B
  rw [decide_eq_true (by omega), decide_eq_true (by omega), decide_eq_true (by omega), decide_eq_true (by omega)]; rfl
theorem mask_of_wf {s : S52} (h : wfd52 s) : maskOk s = true ∧ (w64B s.f0.f0 && w64B s.f0.f1) = true := by
 unfold wfd52 wfd48 I64 U64 at h
 constructor
 ·unfold maskOk
  rw [decide_eq_true (by omega), decide_eq_true (by omega)]; rfl
 ·unfold w64B
  rw [decide_eq_true (by omega), decide_eq_true (by omega), decide_eq_true (by omega), decide_eq_true (by omega)]; rfl
theorem slots_of_wf {ends : List S41} (h : ∀ y ∈ ends, wfd41 y) : ∀ s ∈ c6_ ends, wfd52 s := fun s hs => by
 obtain ⟨x, hx, hs⟩ := List.mem_flatMap.1 hs
 exact (h x hx).2.2.2.2.2 s hs
theorem slots_len {n : Nat} : ∀ {ends : List S41}, (∀ h ∈ ends, h.f4.length ≤ n) → (c6_ ends).length ≤ n * ends.length
 | [], _ => by simp [c6_]
 | x :: l, h => by
  have h1 := h x (by simp)
  have h2 := slots_len (ends := l) (fun y hy => h y (by simp [hy]))
  rw [slotsOf_cons, List.length_append, List.length_cons, Nat.mul_succ]
  omega
structure Setup (view : List S51) (lg lc : Int) (ends : List S41) : Prop where
 V : View view
 I : Inp view ends
 L : I64P (lg, lc)
 vo : viewOk view
 so : ∀ s ∈ c6_ ends, (w64B s.f0.f0 && w64B s.f0.f1) = true
 el : ends.length ≤ 20
 vl : view.length ≤ 70
 hl : ∀ h ∈ ends, h.f4.length ≤ 20
 lb : (-1048576 ≤ lg ∧ lg ≤ 1048576) ∧ -1048576 ≤ lc ∧ lc ≤ 1048576
theorem setup {view : List S51} {lg lc : Int} {ends : List S41} (h1 : ∀ y ∈ view, wfd51 y) (h3 : ∀ y ∈ ends, wfd41 y) (hf : fewP view lg lc ends) : Setup view lg lc ends := by
 obtain ⟨f1, f2, f3, f4, f5, f6⟩ := hf
 have hs := slots_of_wf h3
 have hl := slots_len f6
 have hl2 : (c6_ ends).length ≤ 400 := by
  have : 20 * ends.length ≤ 20 * 20 := Nat.mul_le_mul_left 20 f3
  omega
 exact ⟨⟨f2, fun f hf => (free_of_wf (h1 f hf)).1⟩, ⟨by omega, fun f hf => (free_of_wf (h1 f hf)).1, by omega, by omega, fun s h => (mask_of_wf (hs s h)).1⟩, by unfold I64P; omega,
  ⟨by omega, fun f hf => (free_of_wf (h1 f hf)).1, fun f hf => (free_of_wf (h1 f hf)).2⟩, fun s h => (mask_of_wf (hs s h)).2, f3, f1, f6, f4, f5⟩
theorem okE_mk {view : List S51} {ends : List S41} (hv : viewOk view) (hn : ends.length ≤ 1000) (hm : ∀ s ∈ c6_ ends, maskOk s = true) (hs : ∀ s ∈ c6_ ends, (w64B s.f0.f0 && w64B s.f0.f1) = true) (hl : (c6_ ends).length < 4000000000) : okE view ends = true := by
 unfold okE spotsOk
 rw [show (ends.flatMap fun h => h.f4) = c6_ ends from rfl, decide_eq_true hn, decide_eq_true hv.1, decide_eq_true hl, List.all_eq_true.2 hv.2.1, List.all_eq_true.2 hv.2.2, List.all_eq_true.2 hm, List.all_eq_true.2 hs]
 rfl
theorem Setup.early {view : List S51} {lg lc : Int} {ends : List S41} (S : Setup view lg lc ends) (now q m g c mn mx : Int) :
  promise_Earliest.f now view lg lc ends q m g c mn mx = some (refEarly now view lg lc ends q m g c mn mx) := by
 unfold promise_Earliest.f
 rw [if_pos (okE_mk S.vo (Nat.le_trans S.el (by decide)) S.I.sm S.so S.I.es), early_ref S.V S.I S.L]
theorem popS_cons (s : S52) (l : List S52) : popS (s :: l) = popI s.f1 + popS l := by simp [popS]
theorem cpS_cons (s : S52) (l : List S52) : cpS (s :: l) = s.f2 + cpS l := by simp [cpS]
theorem eachI_mono {a b n : Int} (h0 : 0 ≤ n) (h : a ≤ b) : eachI a n ≤ eachI b n := by
 unfold eachI
 split
 ·exact Int.le_refl _
 ·exact Int.ediv_le_ediv (by omega) h
def cpMax (l : List S52) : Prop := ∀ s ∈ l, 0 ≤ s.f2 ∧ s.f2 ≤ 1048576
theorem max_until : ∀ (l : List S41), l ≠ [] → ∃ x ∈ l, ∀ y ∈ l, y.f2 ≤ x.f2
 | [], h => absurd rfl h
 | [x], _ => ⟨x, by simp, by simp⟩
 | x :: y :: l, _ => by
  obtain ⟨z, hz, h⟩ := max_until (y :: l) (by simp)
  by_cases hxz : x.f2 ≤ z.f2
  ·exact ⟨z, by simp [List.mem_cons.1 hz], fun u hu => by
    rcases List.mem_cons.1 hu with rfl | hu
    ·exact hxz
    ·exact h u hu⟩
  ·exact ⟨x, by simp, fun u hu => by
    rcases List.mem_cons.1 hu with rfl | hu
    ·exact Int.le_refl _
    ·have := h u hu; omega⟩
theorem IsE.le {view : List S51} {lg lc : Int} {ends : List S41} {q m g c mn mx now T b : Int} (h : IsE (atB view lg lc ends q m g c mn mx) now ends b) (hT : now ≤ T) (hN : T < 1073741825) (hA : atB view lg lc ends q m g c mn mx T = true) : b ≤ T := by
 rcases h with ⟨_, rfl⟩ | ⟨h0, h1, h2, h3⟩
 ·exact hT
 by_cases hne : ended T ends = []
 ·have : ended now ends = [] := List.filter_eq_nil_iff.2 fun x hx => by
   have := List.filter_eq_nil_iff.1 hne x hx
   simp at this ⊢; omega
  unfold atB at hA h0
  rw [hne] at hA
  rw [this, hA] at h0
  cases h0
 ·obtain ⟨x, hx, hmax⟩ := max_until _ hne
  have hxm := List.mem_filter.1 hx
  have hxT : x.f2 ≤ T := by simpa using hxm.2
  have heq : ∀ U, x.f2 ≤ U → U ≤ T → ended U ends = ended T ends := fun U h4 h5 => by
   unfold ended
   apply List.filter_congr
   intro y hy
   rw [Bool.eq_iff_iff]
   simp only [decide_eq_true_eq]
   constructor
   ·omega
   ·intro h6
    have := hmax y (List.mem_filter.2 ⟨hy, by simpa using h6⟩)
    omega
  by_cases hxn : x.f2 ≤ now
  ·have := heq now hxn hT
   unfold atB at hA h0
   rw [this, hA] at h0
   cases h0
  ·have hAx : atB view lg lc ends q m g c mn mx x.f2 = true := by
    unfold atB at hA ⊢
    rw [heq x.f2 (Int.le_refl _) hxT]; exact hA
   have := h3 x hxm.1 (by omega) (by omega) hAx
   omega
theorem IsE.at {A : Int → Bool} {now b : Int} {L : List S41} (h : IsE A now L b) (hb : b < 1073741825) : A b = true := by
 rcases h with ⟨h1, rfl⟩ | ⟨_, h1, _⟩
 ·exact h1
 ·rcases h1 with rfl | ⟨_, _, _, _, _, h2⟩
  ·omega
  ·exact h2
end Go.Proofs.Ytckhjehibjdjdaa.P
namespace Go.Proofs.Ytckhjehibjdjdaa.P
open Go.RowKit Go.Proofs.YtckhjehibjdjdaaW.PrintWords Go.Proofs.YtckhjehibjdjdaaW.PrintLast Go.Proofs.YtckhjehibjdjdaaW.PrintMore
attribute [local go_sem] max2_int min2_int max_two min_two max_three min_three max_four min_four
def ensembleref13_After.T7 : Bool × List (List Nat × List Nat) := (true, [([], []), ([], []), ([], []), ([], []), ([], []), ([3, 4], [3, 4]), ([], []), ([6], [6]), ([5, 7, 5], [5, 7]), ([], []), ([0, 1, 2, 8, 9, 8], [0, 1, 2, 8, 9]), ([10], [10]), ([10], [10]), ([11, 10, 0, 1, 2, 3, 4, 5, 6, 7, 8, 9, 10, 11, 12], [11]), ([12, 13, 0, 1, 2, 3, 4, 5, 6, 7, 8, 9, 10, 11, 12, 13], [12])])
def ensembleref13_After.B7 : List Nat := [0, 0, 0, 0, 0, 24, 0, 64, 248, 0, 1023, 2047, 2047, 8191, 16383]
theorem ensembleref13_After.bits7 : waitsOk ensembleref13_After.T7.2 ensembleref13_After.B7 = true := by kernel_rfl


end Go.Proofs.Ytckhjehibjdjdaa.P
namespace Go.Proofs.Ytckhjehibjdjdaa.P
open Go.RowKit Go.Proofs.YtckhjehibjdjdaaW.PrintWords Go.Proofs.YtckhjehibjdjdaaW.PrintLast Go.Proofs.YtckhjehibjdjdaaW.PrintMore
open Go.Proofs.Ytckhjehibjdjdaa.Bits Go.Proofs.Ytckhjehibjdjdaa.Mp
theorem lessE_iff {f : S51} {s : S52} (hf : freeOk f = true) (hs : maskOk s = true) : lessE f s = 0 ↔ s.f1.toNat &&& f.f1.toNat = s.f1.toNat ∧ s.f2 ≤ f.f2 := by
 have h1 := freeOk_out hf
 have h2 := maskOk_out hs
 have hand : Go.bits .andNot .u64 s.f1 f.f1 = ((s.f1.toNat - (s.f1.toNat &&& f.f1.toNat) : Nat) : Int) := by
  have := andNot_nat s.f1.toNat f.f1.toNat (by omega) (by omega)
  rw [Int.toNat_of_nonneg h2.1, Int.toNat_of_nonneg h1.1.1] at this
  exact this
 have hle : s.f1.toNat &&& f.f1.toNat ≤ s.f1.toNat := Nat.and_le_left
 unfold lessE
 rw [hand]
 by_cases h3 : s.f1.toNat &&& f.f1.toNat = s.f1.toNat
 ·rw [if_neg (by omega)]
  by_cases h4 : s.f2 > f.f2
  ·rw [if_pos h4]; constructor
   ·intro x; cases x
   ·intro x; omega
  ·rw [if_neg h4]; exact ⟨fun _ => ⟨h3, by omega⟩, fun _ => rfl⟩
 ·rw [if_pos (by omega)]; constructor
  ·intro x; cases x
  ·intro x; exact absurd x.1 h3
theorem andNot_bv (a b : Int) : Go.bits .andNot .u64 a b = ((BitVec.ofInt 64 a &&& ~~~ BitVec.ofInt 64 b).toNat : Int) := by
 show IntKind.u64.wrap ((BitVec.ofInt 64 a &&& ~~~ BitVec.ofInt 64 b).toNat : Int) = _
 rw [wrapN, Nat.mod_eq_of_lt (BitVec.isLt _)]
theorem bv_of {a : Int} (h : 0 ≤ a ∧ a < 18446744073709551616) : ((BitVec.ofInt 64 a).toNat : Int) = a := by
 obtain ⟨x, rfl⟩ := Int.eq_ofNat_of_zero_le h.1
 rw [BitVec.ofInt_natCast, BitVec.toNat_ofNat, Nat.mod_eq_of_lt (by omega)]
theorem and_bv {a b : Int} (ha : 0 ≤ a ∧ a < 18446744073709551616) (hb : 0 ≤ b ∧ b < 18446744073709551616) : (BitVec.ofInt 64 a &&& BitVec.ofInt 64 b).toNat = a.toNat &&& b.toNat := by
 rw [BitVec.toNat_and]
 have h1 := bv_of ha
 have h2 := bv_of hb
 rw [show (BitVec.ofInt 64 a).toNat = a.toNat by omega, show (BitVec.ofInt 64 b).toNat = b.toNat by omega]
theorem back_one {f : S51} {s : S52} (hf : freeOk f = true) (hc : cpOk f) (hs : maskOk s = true) (h0 : 0 ≤ s.f2) (h : lessE f s = 0) :
  moreE (lessF f s) s = 0 ∧ moreF (lessF f s) s = f ∧ freeOk (lessF f s) = true ∧ cpOk (lessF f s) := by
 have h1 := freeOk_out hf
 have h2 := maskOk_out hs
 obtain ⟨h3, h4⟩ := (lessE_iff hf hs).1 h
 have hb := hc
 unfold cpOk at hb
 have e2 : (lessF f s).f2 = f.f2 - s.f2 := by unfold lessF; exact w_id (by omega)
 have hok := lessF_ok hf hs
 have hco : cpOk (lessF f s) := by unfold cpOk; omega
 have hsub : BitVec.ofInt 64 s.f1 &&& BitVec.ofInt 64 f.f1 = BitVec.ofInt 64 s.f1 := by
  apply BitVec.eq_of_toNat_eq
  rw [and_bv h2 h1.1, h3]
  have := bv_of h2
  omega
 have e1 : (lessF f s).f1 = Go.bits .andNot .u64 f.f1 s.f1 := rfl
 have hA := andNot_bv f.f1 s.f1
 generalize hF : BitVec.ofInt 64 f.f1 = F at *
 generalize hS : BitVec.ofInt 64 s.f1 = S at *
 have hL : BitVec.ofInt 64 (lessF f s).f1 = F &&& ~~~ S := by rw [e1, hA, ofInt_toNat]
 have hd : disj s.f1 (lessF f s).f1 := by
  unfold disj
  rw [← and_bv h2 (freeOk_out hok).1, hS, hL]
  have : S &&& (F &&& ~~~S) = 0#64 := by ext i; simp; intro h _; exact h
  rw [this]; rfl
 refine ⟨(moreE_iff hok hco hs h0).2 ⟨hd, by omega⟩, ?_, hok, hco⟩
 have hor : Go.bits .or .u64 (lessF f s).f1 s.f1 = f.f1 := by
  rw [bits_or_bv, hL, hS]
  have : F &&& ~~~S ||| S = F := by
   ext i hi
   have := congrArg (fun x => x[i]) hsub
   simp only [BitVec.getElem_and] at this
   simp only [BitVec.getElem_or, BitVec.getElem_and, BitVec.getElem_not]
   cases h5 : S[i] <;> cases h6 : F[i] <;> simp_all
  rw [this, ← hF]
  exact bv_of h1.1
 have h6 : wrap64 ((lessF f s).f2 + s.f2) = f.f2 := by rw [e2, w_id (by omega)]; omega
 show (⟨f.f0, Go.bits .or .u64 (lessF f s).f1 s.f1, wrap64 ((lessF f s).f2 + s.f2)⟩ : S51) = f
 rw [hor, h6]
theorem find_at {view : List S51} (hn : (view.map spot).Nodup) {s : S52} {p : Nat} (hp : p < view.length) (hs : spot view[p] = sspot s) : findI view s.f0.f0 s.f0.f1 = (p : Int) := by
 have hin : ¬ findI view s.f0.f0 s.f0.f1 < 0 := fun h => findI_neg.1 h (List.mem_map.2 ⟨view[p], List.getElem_mem hp, hs⟩)
 obtain ⟨q, hq⟩ := Int.eq_ofNat_of_zero_le (show 0 ≤ findI view s.f0.f0 s.f0.f1 by omega)
 obtain ⟨hql, hqs, _, _⟩ := set_step hn hq
 have hn' := List.pairwise_iff_getElem.1 hn
 rw [hq]
 rcases Nat.lt_trichotomy p q with h | h | h
 ·exact absurd (by rw [List.getElem_map, List.getElem_map, hs, hqs]) (hn' p q (by simpa using hp) (by simpa using hql) h)
 ·rw [h]
 ·exact absurd (by rw [List.getElem_map, List.getElem_map, hs, hqs]) (hn' q p (by simpa using hql) (by simpa using hp) h)
theorem turnF_one {E : S51 → S52 → Int} {F : S51 → S52 → S51} {view : List S51} (hn : (view.map spot).Nodup) {s : S52} {p : Nat} (hp : p < view.length) (hs : spot view[p] = sspot s) (h0 : 0 ≤ s.f2) (hE : E view[p] s = 0) :
  turnF E F view [s] = (view.set p (F view[p] s), 0) := by
 rw [turnF, if_neg (by omega), find_at hn hp hs, if_neg (by omega), rd51' view p hp, if_pos hE, Int.toNat_natCast, turnF]
theorem less_back : ∀ (slots : List S52) (view : List S51), View view → (∀ s ∈ slots, maskOk s = true) → (turnF lessE lessF view slots).2 = 0 →
  View (turnF lessE lessF view slots).1 ∧ (turnF lessE lessF view slots).1.map spot = view.map spot ∧ cpMax slots ∧ turnF moreE moreF (turnF lessE lessF view slots).1 slots.reverse = (view, 0)
 | [], view, V, _, _ => ⟨V, rfl, by simp [cpMax], rfl⟩
 | s :: ss, view, V, hm, h => by
  have hms := hm s (by simp)
  rw [turnF] at h ⊢
  by_cases h1 : s.f2 < 0
  ·rw [if_pos h1] at h; cases h
  rw [if_neg h1] at h ⊢
  by_cases h2 : findI view s.f0.f0 s.f0.f1 < 0
  ·rw [if_pos h2] at h; cases h
  rw [if_neg h2] at h ⊢
  obtain ⟨p, hp⟩ := Int.eq_ofNat_of_zero_le (show 0 ≤ findI view s.f0.f0 s.f0.f1 by omega)
  obtain ⟨hpl, hps, _, _⟩ := set_step V.right.2 hp
  rw [hp, Int.toNat_natCast, rd51' view p hpl] at h ⊢
  have hfp := V.free _ (List.getElem_mem hpl)
  have hcp := V.right.1 _ (List.getElem_mem hpl)
  by_cases h3 : lessE view[p] s = 0
  ·rw [if_pos h3] at h ⊢
   obtain ⟨b1, b2, b3, b4⟩ := back_one hfp hcp hms (by omega) h3
   have sp : (view.set p (lessF view[p] s)).map spot = view.map spot := spots_set (fun hk => rfl)
   have V' : View (view.set p (lessF view[p] s)) := ⟨⟨set_all V.right.1 b4, by rw [sp]; exact V.right.2⟩, set_all V.free b3⟩
   obtain ⟨i1, i2, i3, i4⟩ := less_back ss _ V' (fun x hx => hm x (by simp [hx])) h
   refine ⟨i1, i2.trans sp, fun x hx => ?_, ?_⟩
   ·rcases List.mem_cons.1 hx with rfl | hx
    ·have := ((lessE_iff hfp hms).1 h3).2
     unfold cpOk at hcp
     exact ⟨by omega, by omega⟩
    ·exact i3 x hx
   ·have hl : p < (view.set p (lessF view[p] s)).length := by rw [List.length_set]; exact hpl
    have eg : (view.set p (lessF view[p] s))[p] = lessF view[p] s := List.getElem_set_self _
    rw [List.reverse_cons, turnF_append _ _ _ (by rw [i4]), i4]
    simp only
    rw [turnF_one V'.right.2 hl (by rw [eg]; exact hps) (by omega) (by rw [eg]; exact b1), eg, b2, List.set_set, List.set_getElem_self]
  ·rw [if_neg h3] at h; exact absurd h h3
structure Base (view : List S51) (ends : List S41) : Prop where
 V : View view
 I : Inp view ends
 vo : viewOk view
 so : ∀ s ∈ c6_ ends, (w64B s.f0.f0 && w64B s.f0.f1) = true
 el : ends.length ≤ 1000
 sl : (c6_ ends).length ≤ 1000000
theorem Setup.base {view : List S51} {lg lc : Int} {ends : List S41} (S : Setup view lg lc ends) : Base view ends :=
 ⟨S.V, S.I, S.vo, S.so, Nat.le_trans S.el (by decide), by
  have h1 := slots_len S.hl
  have h2 : 20 * ends.length ≤ 20 * 20 := Nat.mul_le_mul_left 20 S.el
  omega⟩
theorem Base.early {view : List S51} {ends : List S41} (B : Base view ends) {lg lc : Int} (L : I64P (lg, lc)) (now q m g c mn mx : Int) :
  promise_Earliest.f now view lg lc ends q m g c mn mx = some (refEarly now view lg lc ends q m g c mn mx) := by
 unfold promise_Earliest.f
 rw [if_pos (okE_mk B.vo B.el B.I.sm B.so B.I.es), early_ref B.V B.I L]
structure HoldOk (h : S41) : Prop where
 mo : ∀ s ∈ h.f4, maskOk s = true
 sp : ∀ s ∈ h.f4, (w64B s.f0.f0 && w64B s.f0.f1) = true
 ln : h.f4.length ≤ 20
theorem slotsOf_snoc (ends : List S41) (h : S41) : c6_ (ends ++ [h]) = c6_ ends ++ h.f4 := by rw [slotsOf_append]; simp [c6_]
theorem Base.less {view : List S51} {ends : List S41} (B : Base view ends) {h : S41} (H : HoldOk h) (hok : (turnF lessE lessF view h.f4).2 = 0) (el : ends.length < 500) (sl : (c6_ ends).length ≤ 100000) :
  Base (turnF lessE lessF view h.f4).1 (ends ++ [h]) := by
 obtain ⟨VL, hsp, _, _⟩ := less_back h.f4 view B.V H.mo hok
 have hlen : (turnF lessE lessF view h.f4).1.length = view.length := by
  have := congrArg List.length hsp
  simpa using this
 have hs : ∀ s ∈ c6_ (ends ++ [h]), s ∈ c6_ ends ∨ s ∈ h.f4 := fun s hs => by rw [slotsOf_snoc] at hs; exact List.mem_append.1 hs
 have hl : (c6_ (ends ++ [h])).length ≤ 100020 := by rw [slotsOf_snoc, List.length_append]; have := H.ln; omega
 refine ⟨VL, ⟨by rw [hlen]; exact B.I.vl, VL.free, by simp; omega, by omega, fun s h1 => (hs s h1).elim (B.I.sm s) (H.mo s)⟩, ⟨by rw [hlen]; exact B.vo.1, VL.free, fun f hf => ?_⟩,
  fun s h1 => (hs s h1).elim (B.so s) (H.sp s), by simp; omega, by omega⟩
 have : spot f ∈ view.map spot := by rw [← hsp]; exact List.mem_map_of_mem hf
 obtain ⟨f', hf', e⟩ := List.mem_map.1 this
 have h1 := B.vo.2.2 f' hf'
 unfold spot at e
 injection e with e1 e2
 rw [← e1, ← e2]; exact h1
theorem subL_eq : ∀ (l : List S52) (a : Int × Int), I64P a → subL a l = (wrap64 (a.1 - popS l), wrap64 (a.2 - cpS l))
 | [], a, h => by
  unfold I64P at h
  have e1 : wrap64 (a.1 - popS []) = a.1 := by rw [show popS [] = 0 from rfl, Int.sub_zero]; exact w_id (by omega)
  have e2 : wrap64 (a.2 - cpS []) = a.2 := by rw [show cpS [] = 0 from rfl, Int.sub_zero]; exact w_id (by omega)
  rw [e1, e2]; rfl
 | s :: l, a, h => by
  have e : subL a (s :: l) = subL (subU a s) l := rfl
  rw [e, subL_eq l _ ⟨wrap_bd _, wrap_bd _⟩, popS_cons, cpS_cons]
  unfold subU
  simp only
  have e3 : ∀ x y z : Int, wrap64 (wrap64 (x - y) - z) = wrap64 (x - (y + z)) := fun x y z => by unfold wrap64; omega
  rw [e3, e3]
def aftL (q lg hq n : Int) : Int := if hq = q then wrap64 (lg - n) else lg
def afterB (now : Int) (view : List S51) (lg lc : Int) (ends : List S41) (q m g c mn mx : Int) (h : S41) : Int × Int :=
 if (turnF lessE lessF view h.f4).2 = 0 then refEarly now (turnF lessE lessF view h.f4).1 (aftL q lg h.f1 (popS h.f4)) (aftL q lc h.f1 (cpS h.f4)) (ends ++ [h]) q m g c mn mx else (0, (turnF lessE lessF view h.f4).2)
theorem aftL_I64 {q lg lc : Int} (L : I64P (lg, lc)) (a b d : Int) : I64P (aftL q lg a b, aftL q lc a d) := by
 unfold I64P at L
 unfold I64P aftL
 split
 ·exact ⟨wrap_bd _, wrap_bd _⟩
 ·exact L
theorem Base.after {view : List S51} {ends : List S41} (B : Base view ends) {lg lc : Int} (L : I64P (lg, lc)) {h0 h1 h2 : Int} {h3 : Bool} {h4 : List S52} (H : HoldOk ⟨h0, h1, h2, h3, h4⟩) (el : ends.length < 500) (sl : (c6_ ends).length ≤ 100000) (now q m g c mn mx : Int) :
  fill_After.f now view lg lc ends q m g c mn mx h0 h1 h2 h3 h4 = some (afterB now view lg lc ends q m g c mn mx ⟨h0, h1, h2, h3, h4⟩) := by
 have e1 : pack_Less.f view h4 = some (turnF lessE lessF view h4) := by
  unfold pack_Less.f spotsOk
  have a1 : view.all (fun f => w64B f.f0.f0 && w64B f.f0.f1) = true := List.all_eq_true.2 B.vo.2.2
  have a2 : h4.all (fun f => w64B f.f0.f0 && w64B f.f0.f1) = true := List.all_eq_true.2 H.sp
  rw [decide_eq_true B.vo.1, a1, a2, if_pos (by rfl), turned51_find (F := lessF) (fun _ _ => rfl) B.V.right.2]
 have hln : h4.length ≤ 20 := H.ln
 have e2 : fill_take.f lg lc h4 = some (wrap64 (lg - popS h4), wrap64 (lc - cpS h4)) := by
  unfold fill_take.f maskAll
  have a1 : h4.all maskOk = true := List.all_eq_true.2 H.mo
  rw [a1, decide_eq_true (by omega), if_pos (by rfl), subL_eq h4 _ L]
 have e3 : api_Hold.f ends = some ends := by unfold api_Hold.f; rw [if_pos (by omega)]
 unfold fill_After.f afterB
 rw [e1, Option.bind_some]
 by_cases hz : (turnF lessE lessF view h4).2 = 0
 ·have B' := B.less H hz el sl
  have L' := aftL_I64 (q := q) L h1 (popS h4) (cpS h4)
  have E := B'.early L' now q m g c mn mx
  rw [if_pos hz, if_pos hz]
  by_cases hq : h1 = q
  ·rw [if_pos hq, e2, Option.bind_some, e3, Option.bind_some, Option.bind_some, if_pos (by simp; omega)]
   unfold aftL at E ⊢
   simp only at E ⊢
   rw [if_pos hq, if_pos hq] at E ⊢
   rw [E]; rfl
  ·rw [if_neg hq, e3, Option.bind_some, Option.bind_some, if_pos (by simp; omega)]
   unfold aftL at E ⊢
   simp only at E ⊢
   rw [if_neg hq, if_neg hq] at E ⊢
   rw [E]; rfl
 ·rw [if_neg hz, if_neg hz]
def safeB (now p : Int) (r : Int × Int) : Bool × Int := (decide (r.2 = 0) && (decide (r.1 ≤ p) || decide (r.1 ≤ now)), r.2)
theorem Base.safe {view : List S51} {ends : List S41} (B : Base view ends) {lg lc : Int} (L : I64P (lg, lc)) {h0 h1 h2 : Int} {h3 : Bool} {h4 : List S52} (H : HoldOk ⟨h0, h1, h2, h3, h4⟩) (el : ends.length < 500) (sl : (c6_ ends).length ≤ 100000) (now q m g c mn mx p : Int) :
  fill_Safe.f now view lg lc ends q m g c mn mx p h0 h1 h2 h3 h4 = some (safeB now p (afterB now view lg lc ends q m g c mn mx ⟨h0, h1, h2, h3, h4⟩)) := by
 unfold fill_Safe.f safeB
 rw [B.after L H el sl, Option.bind_some]
 generalize afterB now view lg lc ends q m g c mn mx ⟨h0, h1, h2, h3, h4⟩ = r
 by_cases h : r.2 = 0
 ·rw [if_pos h, h]
  congr 2
  rw [Bool.eq_iff_iff]
  unfold Go.Proofs.YtckhjehibjdjdaaW.PrintWords.mx
  simp
  omega
 ·rw [if_neg h, decide_eq_false h]; rfl
end Go.Proofs.Ytckhjehibjdjdaa.P
namespace Go.Proofs.Ytckhjehibjdjdaa.P
open Go.RowKit Go.Proofs.YtckhjehibjdjdaaW.PrintWords Go.Proofs.YtckhjehibjdjdaaW.PrintLast Go.Proofs.YtckhjehibjdjdaaW.PrintMore
attribute [local go_sem] max2_int min2_int max_two min_two max_three min_three max_four min_four
attribute [local go_sem high] eqA52
end Go.Proofs.Ytckhjehibjdjdaa.P
namespace Go.Proofs.Ytckhjehibjdjdaa.P
open Go.RowKit Go.Proofs.YtckhjehibjdjdaaW.PrintWords Go.Proofs.YtckhjehibjdjdaaW.PrintLast Go.Proofs.YtckhjehibjdjdaaW.PrintMore
attribute [local go_sem] max2_int min2_int max_two min_two max_three min_three max_four min_four
end Go.Proofs.Ytckhjehibjdjdaa.P
namespace Go.Proofs.Ytckhjehibjdjdaa.P
open Go.RowKit Go.Proofs.YtckhjehibjdjdaaW.PrintWords Go.Proofs.YtckhjehibjdjdaaW.PrintLast Go.Proofs.YtckhjehibjdjdaaW.PrintMore
open Go.Proofs.Ytckhjehibjdjdaa.Bits Go.Proofs.Ytckhjehibjdjdaa.Mp
theorem low_and (M n : Nat) : lowN M n &&& M = lowN M n := by
 apply Nat.eq_of_testBit_eq
 intro j
 rw [Nat.testBit_and]
 by_cases h : j ∈ (pos M).take n
 ·rw [(mem_pos.1 (List.mem_of_mem_take h)).2, Bool.and_true]
 ·have : (lowN M n).testBit j = false := by unfold lowN; rw [testBit_orAll]; simpa using h
  rw [this]; rfl
theorem lowI_bd (m n : Int) : 0 ≤ lowI m n ∧ lowI m n < 18446744073709551616 := by
 have := lowN_lt m.toNat n.toNat
 unfold lowI; omega
theorem low_sub {m g : Int} (hm : 0 ≤ m ∧ m < 18446744073709551616) : Go.bits .andNot .u64 m (lowI m g) = m - lowI m g := by
 obtain ⟨M, rfl⟩ := Int.eq_ofNat_of_zero_le hm.1
 have h1 := low_le M g.toNat (by omega)
 have e : lowI (M : Int) g = ((lowN M g.toNat : Nat) : Int) := rfl
 rw [e, andNot_nat M (lowN M g.toNat) (by omega) (by omega), Nat.and_comm, low_and]
 omega
def kap (s0 s1 : Int) (f : S51) : Int := min (eachI (popI f.f1) s0) (eachI f.f2 s1)
def spotOk (f : S51) : Prop := freeOk f = true ∧ cpOk f
section
variable {s0 s1 s2 s3 : Int} (hg : c7_ s0 s1 s2 s3 = true)
include hg
theorem fit_kap {f : S51} (hf : spotOk f) : fitV s0 s1 s2 s3 f.f1 f.f2 = min 16 (kap s0 s1 f) := by
 unfold fitV fitN kap
 rw [if_pos ⟨hg, hf.2.1⟩]
theorem kap_ge {f : S51} (hf : spotOk f) (h : 1 ≤ kap s0 s1 f) : s0 ≤ popI f.f1 ∧ s1 ≤ f.f2 := by
 have hb := good_out0 hg
 have h1 : 1 ≤ eachI (popI f.f1) s0 := by unfold kap at h; omega
 have h2 : 1 ≤ eachI f.f2 s1 := by unfold kap at h; omega
 have e : ∀ a b : Int, 0 ≤ a → 0 ≤ b → 1 ≤ eachI a b → b ≤ a := fun a b ha hb hx => by
  unfold eachI at hx
  by_cases hz : b = 0
  ·omega
  ·rw [if_neg hz] at hx
   have := (Int.le_ediv_iff_mul_le (c := b) (by omega)).1 hx
   omega
 exact ⟨e _ _ (popI_bd _).1 hb.1 h1, e _ _ hf.2.1 hb.2.2.1 h2⟩
theorem left_eq {f : S51} (hf : spotOk f) (h : 1 ≤ kap s0 s1 f) : leftF s0 s1 f = ⟨f.f0, f.f1 - lowI f.f1 s0, f.f2 - s1⟩ := by
 have hb := good_out0 hg
 have h1 := kap_ge hg hf h
 have h2 := hf.2
 unfold cpOk at h2
 unfold leftF
 rw [low_sub (freeOk_out hf.1).1, w_id (by omega)]
theorem left_ok {f : S51} (hf : spotOk f) (h : 1 ≤ kap s0 s1 f) : spotOk (leftF s0 s1 f) := by
 have hb := good_out0 hg
 have h1 := kap_ge hg hf h
 have h2 := hf.2
 refine ⟨leftF_ok s0 s1 hf.1, ?_⟩
 rw [left_eq hg hf h]
 unfold cpOk at h2 ⊢
 simp only
 omega
theorem kap_left {f : S51} (hf : spotOk f) (h : 1 ≤ kap s0 s1 f) (n : Nat) (h0 : 1 ≤ n) (hn : n ≤ 16) : min (n : Int) (kap s0 s1 f) = 1 + min ((n : Int) - 1) (kap s0 s1 (leftF s0 s1 f)) := by
 have hb := good_out0 hg
 have h1 := kap_ge hg hf h
 have h2 := hf.2
 unfold cpOk at h2
 have hs := pop_sub f.f1 s0 (freeOk_out hf.1).1 hb.1 h1.1
 have A := each_sub (popI f.f1) s0 hb.1 h1.1 (16 - n) (by omega) (eachI f.f2 s1)
 have B := each_sub f.f2 s1 hb.2.2.1 h1.2 (16 - n) (by omega) (eachI (popI f.f1 - s0) s0 + 1)
 rw [left_eq hg hf h]
 unfold kap
 simp only
 rw [hs.1]
 omega
theorem kap_left_le {f : S51} (hf : spotOk f) (h : 1 ≤ kap s0 s1 f) : fitV s0 s1 s2 s3 (leftF s0 s1 f).f1 (leftF s0 s1 f).f2 ≤ fitV s0 s1 s2 s3 f.f1 f.f2 ∧ fitV s0 s1 s2 s3 f.f1 f.f2 ≤ fitV s0 s1 s2 s3 (leftF s0 s1 f).f1 (leftF s0 s1 f).f2 + 1 := by
 have hb := good_out0 hg
 have h1 := kap_ge hg hf h
 have h2 := hf.2
 unfold cpOk at h2
 have hs := pop_sub f.f1 s0 (freeOk_out hf.1).1 hb.1 h1.1
 have h3 := kap_left hg hf h 16 (by omega) (by omega)
 have e1 : kap s0 s1 (leftF s0 s1 f) ≤ kap s0 s1 f := by
  rw [left_eq hg hf h]
  unfold kap
  simp only
  rw [hs.1]
  have a1 := eachI_mono hb.1 (show popI f.f1 - s0 ≤ popI f.f1 by omega)
  have a2 := eachI_mono hb.2.2.1 (show f.f2 - s1 ≤ f.f2 by omega)
  omega
 rw [fit_kap hg hf, fit_kap hg (left_ok hg hf h)]
 omega
end
def pcs (s0 s1 : Int) : Nat → S51 → List S52
 | 0, _ => []
 | n + 1, f => pieceL s0 s1 f :: pcs s0 s1 n (leftF s0 s1 f)
theorem pcs_len (s0 s1 : Int) : ∀ (n : Nat) (f : S51), (pcs s0 s1 n f).length = n
 | 0, _ => rfl
 | n + 1, f => by rw [pcs, List.length_cons, pcs_len]
theorem pcs_take (s0 s1 : Int) : ∀ (n r : Nat) (f : S51), (pcs s0 s1 n f).take r = pcs s0 s1 (min r n) f
 | 0, r, f => by rw [Nat.min_zero]; simp [pcs]
 | n + 1, 0, f => by rw [Nat.zero_min]; rfl
 | n + 1, r + 1, f => by
  rw [show min (r + 1) (n + 1) = min r n + 1 by omega, pcs, pcs, List.take_succ_cons, pcs_take s0 s1 n r]
theorem pcs_spot (s0 s1 : Int) : ∀ (n : Nat) (f : S51), ∀ s ∈ pcs s0 s1 n f, s.f0 = f.f0 ∧ maskOk s = true
 | 0, _, s, h => by cases h
 | n + 1, f, s, h => by
  rw [pcs, List.mem_cons] at h
  rcases h with rfl | h
  ·refine ⟨rfl, ?_⟩
   have := lowI_bd f.f1 s0
   unfold maskOk pieceL
   rw [decide_eq_true this.1, decide_eq_true this.2]; rfl
  ·have := pcs_spot s0 s1 n (leftF s0 s1 f) s h
   exact this
def fitT (s0 s1 s2 s3 : Int) (f : S51) : Nat := (fitV s0 s1 s2 s3 f.f1 f.f2).toNat
theorem fitT_eq (s0 s1 s2 s3 : Int) (f : S51) : ((fitT s0 s1 s2 s3 f : Nat) : Int) = fitV s0 s1 s2 s3 f.f1 f.f2 := by
 have := fitV_bd s0 s1 s2 s3 f.f1 f.f2
 unfold fitT; omega
def flat (s0 s1 s2 s3 : Int) (L : List S51) : List S52 := L.flatMap fun f => pcs s0 s1 (fitT s0 s1 s2 s3 f) f
theorem flat_cons (s0 s1 s2 s3 : Int) (f : S51) (L : List S51) : flat s0 s1 s2 s3 (f :: L) = pcs s0 s1 (fitT s0 s1 s2 s3 f) f ++ flat s0 s1 s2 s3 L := List.flatMap_cons
theorem flat_len (s0 s1 s2 s3 : Int) : ∀ L : List S51, ((flat s0 s1 s2 s3 L).length : Int) = roomS s0 s1 s2 s3 L
 | [] => rfl
 | f :: L => by
  have := flat_len s0 s1 s2 s3 L
  have h2 := fitT_eq s0 s1 s2 s3 f
  rw [flat_cons, List.length_append, pcs_len]
  unfold roomS at *
  rw [List.map_cons, List.sum_cons]
  omega
theorem cut_eq {s0 s1 s2 s3 : Int} (hg : c7_ s0 s1 s2 s3 = true) (m : Nat) (hm : m ≤ 16) : ∀ (k : Nat) (f : S51) (out : List S52), spotOk f → out.length ≤ m → m + 1 ≤ k + out.length →
  cutL s0 s1 s2 s3 m k f out = out ++ pcs s0 s1 (min (m - out.length) (fitT s0 s1 s2 s3 f)) f
 | 0, f, out, _, h1, h2 => by omega
 | k + 1, f, out, hf, h1, h2 => by
  have e1 := fitT_eq s0 s1 s2 s3 f
  have e2 := fit_kap hg hf
  rw [cutL]
  by_cases hc : out.length < m ∧ fitV s0 s1 s2 s3 f.f1 f.f2 ≠ 0
  ·have hb := fitV_bd s0 s1 s2 s3 f.f1 f.f2
   have hk : 1 ≤ kap s0 s1 f := by omega
   rw [if_pos hc, cut_eq hg m hm k _ _ (left_ok hg hf hk) (by simp; omega) (by simp; omega)]
   have e3 := fitT_eq s0 s1 s2 s3 (leftF s0 s1 f)
   have e4 := fit_kap hg (left_ok hg hf hk)
   have e5 := kap_left hg hf hk (m - out.length) (by omega) (by omega)
   have e6 : min (m - out.length) (fitT s0 s1 s2 s3 f) = min (m - (out ++ [pieceL s0 s1 f]).length) (fitT s0 s1 s2 s3 (leftF s0 s1 f)) + 1 := by
    rw [List.length_append]
    simp only [List.length_cons, List.length_nil]
    omega
   rw [e6, pcs, List.append_assoc]; rfl
  ·rw [if_neg hc, show min (m - out.length) (fitT s0 s1 s2 s3 f) = 0 by omega, pcs, List.append_nil]
theorem place_fold {s0 s1 s2 s3 : Int} (hg : c7_ s0 s1 s2 s3 = true) (m : Nat) (hm : m ≤ 16) : ∀ (L : List S51) (out : List S52), (∀ f ∈ L, spotOk f) → out.length ≤ m →
  L.foldl (fun out f => cutL s0 s1 s2 s3 m 17 f out) out = out ++ (flat s0 s1 s2 s3 L).take (m - out.length)
 | [], out, _, _ => by simp [flat]
 | f :: L, out, hL, ho => by
  rw [List.foldl_cons, cut_eq hg m hm 17 f out (hL f (by simp)) ho (by omega), ← pcs_take,
   place_fold hg m hm L _ (fun x hx => hL x (by simp [hx])) (by rw [List.length_append, List.length_take, pcs_len]; omega), flat_cons, List.take_append, List.append_assoc,
   List.length_append, List.length_take, pcs_len]
  congr 3
  omega
theorem placeL_eq {s0 s1 s2 s3 : Int} (hg : c7_ s0 s1 s2 s3 = true) (m : Nat) (hm : m ≤ 16) (L : List S51) (hL : ∀ f ∈ L, spotOk f) : placeL s0 s1 s2 s3 m L = (flat s0 s1 s2 s3 L).take m := by
 have := place_fold hg m hm L [] hL (by simp)
 rw [List.nil_append, List.length_nil, Nat.sub_zero] at this
 exact this
theorem roomS_perm {s0 s1 s2 s3 : Int} {a b : List S51} (h : a.Perm b) : roomS s0 s1 s2 s3 a = roomS s0 s1 s2 s3 b := perm_sum (h.map _)
def placeP (view : List S51) (s0 s1 s2 s3 m : Int) : List S52 × Int :=
 if c7_ s0 s1 s2 s3 = true ∧ 1 ≤ m ∧ m ≤ 16 then
  (if roomS s0 s1 s2 s3 view < m then ([], 7) else ((flat s0 s1 s2 s3 (isort (fkey s0 s1 s2 s3) view)).take m.toNat, 0))
 else ([], 1)
theorem place_P {view : List S51} (hv : ∀ f ∈ view, spotOk f) (s0 s1 s2 s3 m : Int) : placeB view s0 s1 s2 s3 m = placeP view s0 s1 s2 s3 m := by
 unfold placeB placeP
 by_cases h : c7_ s0 s1 s2 s3 = true ∧ 1 ≤ m ∧ m ≤ 16
 ·rw [if_pos h, if_pos h, placeL_eq h.1 m.toNat (by omega) _ (fun f hf => hv f ((isort_perm (fkey s0 s1 s2 s3) view).mem_iff.1 hf))]
  have h1 := flat_len s0 s1 s2 s3 (isort (fkey s0 s1 s2 s3) view)
  rw [roomS_perm (isort_perm (fkey s0 s1 s2 s3) view)] at h1
  by_cases h2 : roomS s0 s1 s2 s3 view < m
  ·rw [if_pos h2, if_pos (by rw [List.length_take]; omega)]
  ·rw [if_neg h2, if_neg (by rw [List.length_take]; omega)]
 ·rw [if_neg h, if_neg h]
theorem place_f {view : List S51} (hv : ∀ f ∈ view, spotOk f) (hl : view.length ≤ 1000000) (s0 s1 s2 s3 m : Int) : pack_Place.f view s0 s1 s2 s3 m = some (placeP view s0 s1 s2 s3 m) := by
 unfold pack_Place.f placeOk
 rw [List.all_eq_true.2 (fun f hf => (hv f hf).1), decide_eq_true hl, if_pos (by rfl), place_P hv]
theorem placeP_ok {view : List S51} {s0 s1 s2 s3 m : Int} (h : (placeP view s0 s1 s2 s3 m).2 = 0) : c7_ s0 s1 s2 s3 = true ∧ (1 ≤ m ∧ m ≤ 16) ∧ m ≤ roomS s0 s1 s2 s3 view ∧ placeP view s0 s1 s2 s3 m = ((flat s0 s1 s2 s3 (isort (fkey s0 s1 s2 s3) view)).take m.toNat, 0) := by
 unfold placeP at h ⊢
 by_cases h1 : c7_ s0 s1 s2 s3 = true ∧ 1 ≤ m ∧ m ≤ 16
 ·rw [if_pos h1] at h ⊢
  by_cases h2 : roomS s0 s1 s2 s3 view < m
  ·rw [if_pos h2] at h; cases h
  ·rw [if_neg h2]; exact ⟨h1.1, h1.2, by omega, rfl⟩
 ·rw [if_neg h1] at h; cases h
theorem placeP_len {view : List S51} {s0 s1 s2 s3 m : Int} (h : (placeP view s0 s1 s2 s3 m).2 = 0) : ((placeP view s0 s1 s2 s3 m).1.length : Int) = m := by
 obtain ⟨a, b, c, d⟩ := placeP_ok h
 have h1 := flat_len s0 s1 s2 s3 (isort (fkey s0 s1 s2 s3) view)
 rw [roomS_perm (isort_perm (fkey s0 s1 s2 s3) view)] at h1
 rw [d, List.length_take]
 omega
structure Few5 (view : List S51) : Prop where
 V : View view
 ok : ∀ f ∈ view, spotOk f
 len : view.length ≤ 70
 sp : ∀ f ∈ view, (w64B f.f0.f0 && w64B f.f0.f1) = true
theorem few5 {view : List S51} (hw : ∀ y ∈ view, wfd51 y) (hr : viewR view) (hl : view.length ≤ 70) : Few5 view :=
 ⟨⟨hr, fun f hf => (free_of_wf (hw f hf)).1⟩, fun f hf => ⟨(free_of_wf (hw f hf)).1, hr.1 f hf⟩, hl, fun f hf => (free_of_wf (hw f hf)).2⟩
theorem Few5.place {view : List S51} (F : Few5 view) (s0 s1 s2 s3 m : Int) : pack_Place.f view s0 s1 s2 s3 m = some (placeP view s0 s1 s2 s3 m) := place_f F.ok (by have := F.len; omega) s0 s1 s2 s3 m
theorem roomS_append (s0 s1 s2 s3 : Int) (a b : List S51) : roomS s0 s1 s2 s3 (a ++ b) = roomS s0 s1 s2 s3 a + roomS s0 s1 s2 s3 b := by
 unfold roomS; rw [List.map_append, List.sum_append]
end Go.Proofs.Ytckhjehibjdjdaa.P
namespace Go.Proofs.Ytckhjehibjdjdaa.P
open Go.RowKit Go.Proofs.YtckhjehibjdjdaaW.PrintWords Go.Proofs.YtckhjehibjdjdaaW.PrintLast Go.Proofs.YtckhjehibjdjdaaW.PrintMore
attribute [local go_sem] max2_int min2_int max_two min_two max_three min_three max_four min_four
def ensemblelaw14_awake.f  : Option (Bool) := (elastic_Most.f 0 0 0 0 (([(⟨(⟨0, 0⟩ : S48), 255, 0⟩ : S51)] : List (S51))) (([(⟨5, 0⟩ : S24)] : List (S24))) ([] : List (S41)) ([] : List (S105)) ([] : List (S149)) 0 0 0 0 1 0 1 7).bind fun bt647 => (if (bt647.1.length : Int) = 5 then (some (bt647.2 == 0)) else (some false))
set_option maxHeartbeats 8000000 in
set_option maxRecDepth 100000 in
theorem ensemblelaw14_awake.calls  (r : Bool) (w : World) (h : ensemblelaw14_awake.f  = some r) (hr_ : r = true := by rfl) :
  Calls Try.prog 55 #[] w fun e w' => e = .returned (.bool r) ∧ Below w.heap.size w w' := by
 have hu51 := Try.underlying51
 have hu24 := Try.underlying24
 have hu86 := Try.underlying86
 have hu27 := Try.underlying27
 have hu88 := Try.underlying88
 have HB := m_ (Below.refl w.heap.size w)
 have H : ((elastic_Most.f 0 0 0 0 (([(⟨(⟨0, 0⟩ : S48), 255, 0⟩ : S51)] : List (S51))) (([(⟨5, 0⟩ : S24)] : List (S24))) ([] : List (S41)) ([] : List (S105)) ([] : List (S149)) 0 0 0 0 1 0 1 7).bind fun bt647 => (if (bt647.1.length : Int) = 5 then (some (bt647.2 == 0)) else (some false))) = some r := h
 clear h
 obtain ⟨y641, hy641⟩ : ∃ y_ : List (S51), y_ = (([(⟨(⟨0, 0⟩ : S48), 255, 0⟩ : S51)] : List (S51))) := ⟨_, rfl⟩
 replace H : ((elastic_Most.f 0 0 0 0 y641 (([(⟨5, 0⟩ : S24)] : List (S24))) ([] : List (S41)) ([] : List (S105)) ([] : List (S149)) 0 0 0 0 1 0 1 7).bind fun bt647 => (if (bt647.1.length : Int) = 5 then (some (bt647.2 == 0)) else (some false))) = some r := by first | (rw [hy641]; with_reducible exact H) | (have H2_ := (Option.bind_some _ _).symm.trans H; rw [hy641]; with_reducible exact H2_) | (have H2_ := (Option.bind_some _ _).symm.trans H; with_reducible exact H2_) | with_reducible exact H | (rw [hy641]; exact H) | exact H
 have Ny641 := m_ hy641
 clear hy641
 obtain ⟨y644, hy644⟩ : ∃ y_ : List (S24), y_ = (([(⟨5, 0⟩ : S24)] : List (S24))) := ⟨_, rfl⟩
 replace H : ((elastic_Most.f 0 0 0 0 y641 y644 ([] : List (S41)) ([] : List (S105)) ([] : List (S149)) 0 0 0 0 1 0 1 7).bind fun bt647 => (if (bt647.1.length : Int) = 5 then (some (bt647.2 == 0)) else (some false))) = some r := by first | (rw [hy644]; with_reducible exact H) | (have H2_ := (Option.bind_some _ _).symm.trans H; rw [hy644]; with_reducible exact H2_) | (have H2_ := (Option.bind_some _ _).symm.trans H; with_reducible exact H2_) | with_reducible exact H | (rw [hy644]; exact H) | exact H
 have Ny644 := m_ hy644
 clear hy644
 replace H := Option.bind_eq_some_iff.mp H
 obtain ⟨⟨t647, t650⟩, A10, H⟩ := H
 replace H : (if (t647.length : Int) = 5 then (some (t650 == 0)) else (some false)) = some r := H
 have A1 := m_ A10
 clear A10
 by_cases c2 : (t647.length : Int) = 5
 ·rw [if_pos c2] at H
  have c2b0 : ((t647.length : Int) == 5) = true := beq_iff_eq.mpr c2
  have c2b1 : ((t647.length : Int) != 5) = false := bne_eq_false_iff_eq.mpr c2
  clear c2
  clear hr_
  obtain rfl := Option.some.inj H
  go_enter Try.func55, Try.ntmps55
  go_wp2_with (first | ((with_reducible refine a3_ (N := 5) rfl ?_); refine Kd.R_lit k51 _ 51 ?hg (N := 5) ?hd (xs := ([(⟨(⟨0, 0⟩ : S48), 255, 0⟩ : S51)] : List (S51))) (inner := [.int .i64 0, .int .i64 0, .int .u64 255, .int .i64 0]) (ok := fun _ => True) (okp := fun _ => True) ?hr ?hp (fun _ hk => hk) trivial (Below.refl _ _) (Nat.le_refl _) (by simp) ?_; (case hd => rfl); (case hg => rfl); (case hr => first | (go_simp; done) | (go_simp; rfl)); (case hp => exact (Reps.c4 (show Kd.M k51 _ _ _ (⟨(⟨0, 0⟩ : S48), 255, 0⟩ : S51) [.int .i64 0, .int .i64 0, .int .u64 255, .int .i64 0] from (k51_mkM _ _ _ (⟨(⟨0, 0⟩ : S48), 255, 0⟩ : S51) )) (Reps.none _ _))); intro v642 w3 ho4 hb hg_ hnew_; clear hg_ hnew_; (first | rw [← Ny641.out] at ho4 | (simp only [Int.reduceToNat] at ho4; rw [← Ny641.out] at ho4)); have HO643 := m_ (Kd.R_lower ho4 (b6_ hb_)); replace HB := hs_ hb; clear hb ho4) | ((with_reducible refine a3_ (N := 7) rfl ?_); refine Kd.R_lit k24 _ 24 ?hg (N := 7) ?hd (xs := ([(⟨5, 0⟩ : S24)] : List (S24))) (inner := [.int .i64 5, .int .i64 0]) (ok := fun _ => True) (okp := fun _ => True) ?hr ?hp (fun _ hk => hk) trivial (Below.refl _ _) (Nat.le_refl _) (by simp) ?_; (case hd => rfl); (case hg => rfl); (case hr => first | (go_simp; done) | (go_simp; rfl)); (case hp => exact (Reps.c2 (show Kd.M k24 _ _ _ (⟨5, 0⟩ : S24) [.int .i64 5, .int .i64 0] from (k24_mkM _ _ _ (⟨5, 0⟩ : S24) )) (Reps.none _ _))); intro v645 w5 ho6 hb hg_ hnew_; clear hg_ hnew_; (first | rw [← Ny644.out] at ho6 | (simp only [Int.reduceToNat] at ho6; rw [← Ny644.out] at ho6)); have HO646 := m_ (Kd.R_lower ho6 (b6_ hb_)); replace HO643 := m_ (Kd.R_below (by (with_reducible repeat (first | apply Kd.R_alloc | apply Kd.R_drewN | apply Kd.R_drew)); exact HO643.out) hb); replace HB := hs_ hb; clear hb ho6; obtain ⟨Ao7, co7, eo7⟩ := Kd.R_slice HO646.out; subst eo7; obtain ⟨Ao8, co8, eo8⟩ := Kd.R_slice HO643.out; subst eo8) | ((with_reducible refine b2_ (f := 57) rfl ?_); refine goesL_ (some 11) rfl rfl Try.func57 (by kernel_rfl) rfl #[.agg #[.int .i64 0, .int .i64 0, .int .i64 0, .int .i64 0, .slice Ao8 y641.length co8, .slice Ao7 y644.length co7, .slice none 0 0, .slice none 0 0, .slice none 0 0], .agg #[.int .i64 0, .int .i64 0, .int .i64 0, .int .i64 0, .int .i64 1, .int .i64 0, .int .i64 1, .int .i64 7]] rfl Z0 ?_; (refine (elastic_Most.calls 0 0 0 0 _ _ y641 _ _ y644 _ _ ([] : List (S41)) _ _ ([] : List (S105)) _ _ ([] : List (S149)) 0 0 0 0 1 0 1 7 t647 t650 _ ?side1 ?side2 ?side3 ?side4 ?side5 ?side6 ?side7 ?side8 ?side9 ?side10 A1.out).mono ?_); (case side1 => repeat (first | exact (Kd.R_reads' HO643.out).2.2 | (with_reducible refine Kd.C_alloc ?_ _) | (with_reducible refine Kd.C_drewN ?_ _) | (with_reducible refine Kd.C_drew ?_))); (case side2 => exact (Kd.R_reads' HO643.out).2.1); (case side3 => repeat (first | exact (Kd.R_reads' HO646.out).2.2 | (with_reducible refine Kd.C_alloc ?_ _) | (with_reducible refine Kd.C_drewN ?_ _) | (with_reducible refine Kd.C_drew ?_))); (case side4 => exact (Kd.R_reads' HO646.out).2.1); (case side5 => exact Kd.C_nil _ _); (case side6 => exact Nat.le_refl _); (case side7 => exact Kd.C_nil _ _); (case side8 => exact Nat.le_refl _); (case side9 => exact Kd.C_nil _ _); (case side10 => exact Nat.le_refl _); rintro e w9 ⟨v648, rfl, ho0, hb⟩; refine ⟨_, rfl, ?_⟩; have HO649 := m_ (Kd.R_lower ho0 (b6_ hb_)); replace HO643 := m_ (Kd.R_below (by (with_reducible repeat (first | apply Kd.R_alloc | apply Kd.R_drewN | apply Kd.R_drew)); exact HO643.out) hb); replace HO646 := m_ (Kd.R_below (by (with_reducible repeat (first | apply Kd.R_alloc | apply Kd.R_drewN | apply Kd.R_drew)); exact HO646.out) hb); replace HB := hs_ hb; (try clear hb); (try clear hb2); (try clear hk); (try clear hi); (try clear ho0); obtain ⟨Ao10, co10, eo10⟩ := Kd.R_slice HO649.out; subst eo10))
  go_ret
  exact ⟨by first | rfl | (simp [b1_, b0_] <;> rfl) | (simp [*, b1_, b0_] <;> rfl), hb_⟩
 ·rw [if_neg c2] at H
  have c2b0 : ((t647.length : Int) == 5) = false := beq_eq_false_iff_ne.mpr c2
  have c2b1 : ((t647.length : Int) != 5) = true := bne_iff_ne.mpr c2
  rw [hr_] at H
  cases H
end Go.Proofs.Ytckhjehibjdjdaa.P
namespace Go.Proofs.Ytckhjehibjdjdaa.P
open Go.RowKit Go.Proofs.YtckhjehibjdjdaaW.PrintWords Go.Proofs.YtckhjehibjdjdaaW.PrintLast Go.Proofs.YtckhjehibjdjdaaW.PrintMore
open Go.Proofs.Ytckhjehibjdjdaa.Bits Go.Proofs.Ytckhjehibjdjdaa.Mp
theorem awake14 : ensemblelaw14_awake.f = some true := by decide +kernel
theorem rd24' (l : List S24) (i : Nat) (h : i < l.length) : a7_ l (i : Int) = l[i] := by
 simp [a7_, List.getD_eq_getElem?_getD, List.getElem?_eq_getElem h]
def lbU (u : S24) : Prop := (-1048576 ≤ u.f0 ∧ u.f0 ≤ 1048576) ∧ -1048576 ≤ u.f1 ∧ u.f1 ≤ 1048576
structure FewL (view : List S51) (left : List S24) (ends : List S41) (waits : List S105) (runs : List S149) : Prop where
 ll : left.length ≤ 20
 wl : waits.length ≤ 150
 rl : runs.length ≤ 150
 fp : fewP view 0 0 ends
 lb : ∀ u ∈ left, lbU u
 more : (turnF moreE moreF view (c6_ ends)).2 = 0
theorem few14_l1 (a0 a1 a2 a3 : Int) (view : List S51) (left : List S24) (ends : List S41) (waits : List S105) (runs : List S149) (wv : ∀ f ∈ view, freeOk f = true) (vl : view.length ≤ 70) (el : ends.length ≤ 20) (sl : (c6_ ends).length ≤ 400) (sm : ∀ s ∈ c6_ ends, maskOk s = true) (d : Nat) :
  ∀ i : Nat, i ≤ ends.length → ends.length - i = d → Ev (fun k => ensembleref14_Few.l1 k (c6_ (ends.take i)) (i : Int) a0 a1 a2 a3 view left ends waits runs) ((turnF moreE moreF view (c6_ ends)).2 == 0) := by
 induction d with
 | zero =>
  intro i hi hd
  obtain rfl : i = ends.length := by omega
  rw [List.take_length]
  exact Ev.step (fun k => by rw [ensembleref14_Few.l1, if_neg (by omega)]) (Ev.bind (more05_ev view (c6_ ends) (by omega) sm (by omega) wv) (Ev.now _))
 | succ d ih =>
  intro i hi hd
  have hil : i < ends.length := by omega
  have e1 : wrap64 ((i : Int) + 1) = ((i + 1 : Nat) : Int) := by rw [w_id (by omega)]; omega
  have e2 : c6_ (ends.take i) ++ (ends[i]).f4 = c6_ (ends.take (i + 1)) := by
   rw [List.take_succ_eq_append_getElem hil, slotsOf_append]; simp [c6_]
  have e3 : (c6_ (ends.take i)).length + (ends[i]).f4.length < 4398046511104 := by
   have h1 : (c6_ ends).length = (c6_ (ends.take (i + 1))).length + (c6_ (ends.drop (i + 1))).length := by rw [← List.length_append, ← slotsOf_append, List.take_append_drop]
   have h2 := congrArg List.length e2
   rw [List.length_append] at h2
   omega
  exact Ev.step (fun k => by rw [ensembleref14_Few.l1, if_pos (by omega), if_pos (by omega), rd41' ends i hil, if_pos e3, e1, e2]) (ih (i + 1) (by omega) (by omega))
theorem few14_l0 (a0 a1 a2 a3 : Int) (view : List S51) (left : List S24) (ends : List S41) (waits : List S105) (runs : List S149) {b : Bool} (hl : left.length ≤ 20) (h1 : Ev (fun k => ensembleref14_Few.l1 k [] 0 a0 a1 a2 a3 view left ends waits runs) b) (d : Nat) :
  ∀ i : Nat, i ≤ left.length → left.length - i = d → (∀ u ∈ left.take i, lbU u) → (Ev (fun k => ensembleref14_Few.l0 k (i : Int) a0 a1 a2 a3 view left ends waits runs) b ∧ ∀ u ∈ left, lbU u) ∨ Ev (fun k => ensembleref14_Few.l0 k (i : Int) a0 a1 a2 a3 view left ends waits runs) false := by
 induction d with
 | zero =>
  intro i hi hd hc
  obtain rfl : i = left.length := by omega
  rw [List.take_length] at hc
  exact .inl ⟨Ev.step (fun k => by rw [ensembleref14_Few.l0, if_neg (by omega)]) h1, hc⟩
 | succ d ih =>
  intro i hi hd hc
  have hil : i < left.length := by omega
  have e1 : wrap64 ((i : Int) + 1) = ((i + 1 : Nat) : Int) := by rw [w_id (by omega)]; omega
  have st : ∀ b', Ev (fun k => (ensembleref12_Few.f k ([] : List (S51)) (left[i]).f0 (left[i]).f1 ([] : List (S41))).bind fun t => if t = true then ensembleref14_Few.l0 k ((i + 1 : Nat) : Int) a0 a1 a2 a3 view left ends waits runs else some false) b' →
    Ev (fun k => ensembleref14_Few.l0 k (i : Int) a0 a1 a2 a3 view left ends waits runs) b' := fun b' h =>
   Ev.step (fun k => by rw [ensembleref14_Few.l0, if_pos (by omega), if_pos (by omega), rd24' left i hil, e1]) h
  rcases few12_ev [] (left[i]).f0 (left[i]).f1 [] with ⟨hk, hf⟩ | hk
  ·rcases ih (i + 1) (by omega) (by omega) (by
    intro u hu
    rw [List.take_succ_eq_append_getElem hil] at hu
    rcases List.mem_append.1 hu with h | h
    ·exact hc u h
    ·rw [List.mem_singleton.1 h]; exact ⟨hf.2.2.2.1, hf.2.2.2.2.1⟩) with ⟨h2, h3⟩ | h2
   ·exact .inl ⟨st _ (Ev.bind hk (Ev.congr (fun k => by rw [if_pos rfl]) h2)), h3⟩
   ·exact .inr (st _ (Ev.bind hk (Ev.congr (fun k => by rw [if_pos rfl]) h2)))
  ·exact .inr (st _ (Ev.bind hk (Ev.congr (fun k => by rw [if_neg (by decide)]) (Ev.now _))))
theorem few14_ev (a0 a1 a2 a3 : Int) (view : List S51) (left : List S24) (ends : List S41) (waits : List S105) (runs : List S149) (wv : ∀ y ∈ view, wfd51 y) (we : ∀ y ∈ ends, wfd41 y) :
  (Ev (fun k => ensembleref14_Few.f k a0 a1 a2 a3 view left ends waits runs) true ∧ FewL view left ends waits runs) ∨ Ev (fun k => ensembleref14_Few.f k a0 a1 a2 a3 view left ends waits runs) false := by
 have JF : Ev (fun k => ensembleref14_Few.j0 k true a0 a1 a2 a3 view left ends waits runs) false := Ev.step (f := fun _ => some false) (fun k => by rw [ensembleref14_Few.j0, if_pos rfl]) (Ev.now _)
 by_cases h1 : (left.length : Int) > 20
 ·exact .inr (Ev.congr (fun k => by unfold ensembleref14_Few.f; rw [if_pos h1]) JF)
 by_cases h2 : (waits.length : Int) > 150
 ·exact .inr (Ev.congr (fun k => by unfold ensembleref14_Few.f; rw [if_neg h1, if_pos h2]) JF)
 by_cases h3 : (runs.length : Int) > 150
 ·exact .inr (Ev.congr (fun k => by unfold ensembleref14_Few.f; rw [if_neg h1, if_neg h2, if_pos h3]) JF)
 have st : ∀ b, Ev (fun k => (ensembleref12_Few.f k view 0 0 ends).bind fun t => ensembleref14_Few.j0 k (!t) a0 a1 a2 a3 view left ends waits runs) b → Ev (fun k => ensembleref14_Few.f k a0 a1 a2 a3 view left ends waits runs) b := fun b h =>
  Ev.congr (fun k => by unfold ensembleref14_Few.f; rw [if_neg h1, if_neg h2, if_neg h3]) h
 rcases few12_ev view 0 0 ends with ⟨hk, hf⟩ | hk
 case inr => exact .inr (st _ (Ev.bind hk JF))
 have S := setup wv we hf
 have sl : (c6_ ends).length ≤ 400 := by
  have h4 := slots_len hf.2.2.2.2.2
  have : 20 * ends.length ≤ 20 * 20 := Nat.mul_le_mul_left 20 hf.2.2.1
  omega
 have hL1 := few14_l1 a0 a1 a2 a3 view left ends waits runs S.V.free S.vl S.el sl S.I.sm ends.length 0 (by omega) (by omega)
 have J : ∀ b, Ev (fun k => ensembleref14_Few.l0 k 0 a0 a1 a2 a3 view left ends waits runs) b → Ev (fun k => ensembleref14_Few.f k a0 a1 a2 a3 view left ends waits runs) b := fun b h =>
  st _ (Ev.bind hk (Ev.step (fun k => by rw [ensembleref14_Few.j0]; exact if_neg (by decide)) h))
 by_cases hm : (turnF moreE moreF view (c6_ ends)).2 = 0
 ·rw [hm] at hL1
  rcases few14_l0 a0 a1 a2 a3 view left ends waits runs (by omega) hL1 left.length 0 (by omega) (by omega) (by simp) with ⟨h4, h5⟩ | h4
  ·exact .inl ⟨J _ h4, by omega, by omega, by omega, hf, h5, hm⟩
  ·exact .inr (J _ h4)
 ·rw [show ((turnF moreE moreF view (c6_ ends)).2 == 0) = false by simpa using hm] at hL1
  rcases few14_l0 a0 a1 a2 a3 view left ends waits runs (by omega) hL1 left.length 0 (by omega) (by omega) (by simp) with ⟨h4, h5⟩ | h4
  ·exact .inr (J _ h4)
  ·exact .inr (J _ h4)
theorem FewL.few5 {view : List S51} {left : List S24} {ends : List S41} {waits : List S105} {runs : List S149} (F : FewL view left ends waits runs) (wv : ∀ y ∈ view, wfd51 y) : Few5 view := P.few5 wv F.fp.2.1 F.fp.1
theorem Few5.placeOk {view : List S51} (F : Few5 view) : P.placeOk view = true := by
 unfold P.placeOk
 rw [List.all_eq_true.2 F.V.free, decide_eq_true (by have := F.len; omega)]; rfl
theorem withB_iff {g c n lg lc : Int} : withB g c n lg lc = true ↔ g * n ≤ lg ∧ c * n ≤ lc := by unfold withB; simp
theorem canB_zero {view : List S51} {g c mn mx n lg lc : Int} : canB view g c mn mx n lg lc = 0 ↔ n ≤ roomS g c mn mx view ∧ g * n ≤ lg ∧ c * n ≤ lc := by
 unfold canB
 by_cases h : roomS g c mn mx view < n
 ·rw [if_pos h]; constructor
  ·intro h; cases h
  ·rintro ⟨h1, _⟩; omega
 ·rw [if_neg h]
  by_cases h2 : withB g c n lg lc = true
  ·rw [if_pos h2]; exact ⟨fun _ => ⟨by omega, withB_iff.1 h2⟩, fun _ => rfl⟩
  ·rw [if_neg h2]; constructor
   ·intro h; cases h
   ·rintro ⟨_, h3⟩; exact absurd (withB_iff.2 h3) h2
theorem canB_le {view : List S51} {g c mn mx n m lg lc : Int} (hg : 0 ≤ g) (hc : 0 ≤ c) (h : canB view g c mn mx n lg lc = 0) (hm : m ≤ n) : canB view g c mn mx m lg lc = 0 := by
 obtain ⟨h1, h2, h3⟩ := canB_zero.1 h
 exact canB_zero.2 ⟨by omega, Int.le_trans (Int.mul_le_mul_of_nonneg_left hm hg) h2, Int.le_trans (Int.mul_le_mul_of_nonneg_left hm hc) h3⟩
theorem downL_sorted (a b : Int) : (downL a b).Pairwise (· > ·) := by
 unfold downL
 rw [List.pairwise_map]
 exact List.pairwise_lt_range.imp (fun h => by omega)
theorem downL_mem_iff {a b x : Int} : x ∈ downL a b ↔ b ≤ x ∧ x ≤ a := by
 constructor
 ·exact downL_mem
 ·rintro ⟨h1, h2⟩
  unfold downL
  exact List.mem_map.2 ⟨(a - x).toNat, List.mem_range.2 (by omega), by omega⟩
theorem find_down {a b : Int} {p : Int → Bool} {n : Int} (h : (downL a b).find? p = some n) : (b ≤ n ∧ n ≤ a) ∧ p n = true ∧ ∀ m, n < m → m ≤ a → p m = false := by
 have hm := List.mem_of_find?_eq_some h
 have hp := List.find?_some h
 refine ⟨downL_mem hm, hp, fun m h1 h2 => ?_⟩
 rw [List.find?_eq_some_iff_append] at h
 obtain ⟨_, pa, pb, e, hn⟩ := h
 have hs := downL_sorted a b
 rw [e, List.pairwise_append] at hs
 have hmm : m ∈ downL a b := downL_mem_iff.2 ⟨by have := downL_mem hm; omega, h2⟩
 rw [e] at hmm
 rcases List.mem_append.1 hmm with h | h
 ·simpa using hn m h
 ·rcases List.mem_cons.1 h with h | h
  ·omega
  ·have := (List.pairwise_cons.1 hs.2.1).1 m h; omega
theorem find_down_none {a b : Int} {p : Int → Bool} (h : (downL a b).find? p = none) : ∀ m, b ≤ m → m ≤ a → p m = false := fun m h1 h2 => by
 have := List.find?_eq_none.1 h m (downL_mem_iff.2 ⟨h1, h2⟩)
 simpa using this
inductive MostR (view : List S51) (left : List S24) (q g c mn mx : Int) : List S52 × Int → Prop where
 | shape (h : c7_ g c mn mx = false) : MostR view left q g c mn mx ([], 1)
 | queue (hg : c7_ g c mn mx = true) (h : ¬ (0 ≤ q ∧ q < left.length)) : MostR view left q g c mn mx ([], 3)
 | not (hg : c7_ g c mn mx = true) (hq : 0 ≤ q ∧ q < left.length) (h : canB view g c mn mx mn (a7_ left q).f0 (a7_ left q).f1 ≠ 0) : MostR view left q g c mn mx ([], canB view g c mn mx mn (a7_ left q).f0 (a7_ left q).f1)
 | got (n : Int) (hg : c7_ g c mn mx = true) (hq : 0 ≤ q ∧ q < left.length) (hn : mn ≤ n ∧ n ≤ mx) (hc : canB view g c mn mx n (a7_ left q).f0 (a7_ left q).f1 = 0) (hm : ∀ m, n < m → m ≤ mx → canB view g c mn mx m (a7_ left q).f0 (a7_ left q).f1 ≠ 0) :
   MostR view left q g c mn mx (placeP view g c mn mx n)
theorem most_is {view : List S51} (F : Few5 view) (left : List S24) (q g c mn mx : Int) : MostR view left q g c mn mx (mostB view left q g c mn mx) := by
 unfold mostB
 by_cases he : (leftB left q g c mn mx).2.2 = 0
 ·obtain ⟨hg, hq, e⟩ := leftB_ok he
  rw [e]
  rw [if_neg (by simp)]
  have hb := good_out1 hg
  by_cases hc : canB view g c mn mx mn (a7_ left q).f0 (a7_ left q).f1 = 0
  ·rw [if_neg (by simpa using hc)]
   unfold firstGo
   cases hf : (downL mx mn).find? (fun n => canB view g c mn mx n (a7_ left q).f0 (a7_ left q).f1 == 0) with
   | none => exact absurd (find_down_none hf mn (Int.le_refl _) hb.2.1) (by simpa using hc)
   | some n =>
    obtain ⟨h1, h2, h3⟩ := find_down hf
    show MostR view left q g c mn mx (placeB view g c mn mx n)
    rw [place_P F.ok]
    exact .got n hg hq h1 (by simpa using h2) (fun m h4 h5 => by simpa using h3 m h4 h5)
  ·rw [if_pos (by simpa using hc)]
   exact .not hg hq hc
 ·rw [if_pos (by simpa using he)]
  unfold leftB at he ⊢
  by_cases hg : c7_ g c mn mx = true
  ·rw [if_pos hg] at he ⊢
   by_cases hq : 0 ≤ q ∧ q < (left.length : Int)
   ·rw [if_pos hq] at he; exact absurd rfl he
   ·rw [if_neg hq]; exact .queue hg hq
  ·rw [if_neg hg]; exact .shape (by simpa using hg)
theorem got_place {view : List S51} {g c mn mx n : Int} (hg : c7_ g c mn mx = true) (hn : mn ≤ n ∧ n ≤ mx) (hr : n ≤ roomS g c mn mx view) : (placeP view g c mn mx n).2 = 0 ∧ ((placeP view g c mn mx n).1.length : Int) = n := by
 have hb := good_out1 hg
 have h0 : (placeP view g c mn mx n).2 = 0 := by
  unfold placeP
  rw [if_pos ⟨hg, by omega, by omega⟩]
  rw [if_neg (by omega)]
 exact ⟨h0, placeP_len h0⟩
end Go.Proofs.Ytckhjehibjdjdaa.P
namespace Go.Proofs.Ytckhjehibjdjdaa.P
open Go.RowKit Go.Proofs.YtckhjehibjdjdaaW.PrintWords Go.Proofs.YtckhjehibjdjdaaW.PrintLast Go.Proofs.YtckhjehibjdjdaaW.PrintMore
def capU (b x : Int) : Int := if 1048576 < x + b then 1048576 else x + b
def moreU (b : Int) (l : List S24) : List S24 := l.map fun u => ⟨capU b u.f0, capU b u.f1⟩
theorem moreU_len (b : Int) (l : List S24) : (moreU b l).length = l.length := by simp [moreU]
def boundU (l : List S24) : Bool := decide (l.length ≤ 20) && l.all fun u => decide (-1048576 ≤ u.f0) && decide (u.f0 ≤ 1048576) && decide (-1048576 ≤ u.f1) && decide (u.f1 ≤ 1048576)
def ensemblelaw14_ElasticMore.f (k : Nat) (a0_0 a0_1 a0_2 a0_3 : Int) (l0_4 : List S51) (l0_5 : List S24) (l0_6 : List S41) (l0_7 : List S105) (l0_8 : List S149) (a1_0 a1_1 a1_2 a1_3 a1_4 a1_5 a1_6 a1_7 a2 a3 : Int) : Option Bool :=
 (ensembleref14_Few.f k a0_0 a0_1 a0_2 a0_3 l0_4 l0_5 l0_6 l0_7 l0_8).bind fun few => if few = false then some true else
 if a1_7 > 1000 then some true else
 (elastic_Most.f a0_0 a0_1 a0_2 a0_3 l0_4 l0_5 l0_6 l0_7 l0_8 a1_0 a1_1 a1_2 a1_3 a1_4 a1_5 a1_6 a1_7).bind fun a =>
 (elastic_Fill.f k a0_0 a0_1 a0_2 a0_3 l0_4 l0_5 l0_6 l0_7 l0_8 a1_0 a1_1 a1_2 a1_3 a1_4 a1_5 a1_6 a1_7 a2).bind fun s =>
 (elastic_Fill.f k a0_0 0 a0_2 a0_3 l0_4 l0_5 l0_6 l0_7 l0_8 a1_0 a1_1 a1_2 a1_3 a1_4 a1_5 a1_6 a1_7 a2).bind fun t =>
 if s.1.length ≤ t.1.length ∧ t.2 = a.2 ∧ t.1.length = a.1.length ∧ (a.2 ≠ 0 → s.2 ≠ 0) then
  if boundU l0_5 = true ∧ 0 ≤ a3 ∧ a3 ≤ 255 ∧ w64B a1_7 = true then
   (elastic_Most.f a0_0 a0_1 a0_2 a0_3 l0_4 (moreU a3 l0_5) l0_6 l0_7 l0_8 a1_0 a1_1 a1_2 a1_3 a1_4 a1_5 a1_6 (min (a1_7 + a3 % 3) 16)).bind fun b =>
   if a.2 ≠ 0 then some true else if b.2 = 0 ∧ a.1.length ≤ b.1.length then some true else none
  else none
 else none
end Go.Proofs.Ytckhjehibjdjdaa.P
namespace Go.Proofs.Ytckhjehibjdjdaa.P
open Go.RowKit Go.Shelf Go.Proofs.YtckhjehibjdjdaaW.PrintWords Go.Proofs.YtckhjehibjdjdaaW.PrintLast Go.Proofs.YtckhjehibjdjdaaW.PrintMore
theorem set24 {W : World} {base n cap g i : Nat} {xs : List S24} {x : S24} (h : Kd.R k24 24 W base (fun _ => True) (.slice (some ⟨g, 0, none⟩) n cap) xs) (hi : xs[i]? = some x) :
  W.cell? ⟨g, i * 2, none⟩ = some (.int .i64 x.f0) ∧ W.cell? ⟨g, i * 2 + 1, none⟩ = some (.int .i64 x.f1) ∧ W.frozen? ⟨g, i * 2, none⟩ = false ∧ W.frozen? ⟨g, i * 2 + 1, none⟩ = false ∧
  (∀ v, Kd.R k24 24 (W.setCell ⟨g, i * 2, none⟩ (.int .i64 v)) base (fun _ => True) (.slice (some ⟨g, 0, none⟩) n cap) (xs.set i ⟨v, x.f1⟩)) ∧
  (∀ v, Kd.R k24 24 (W.setCell ⟨g, i * 2 + 1, none⟩ (.int .i64 v)) base (fun _ => True) (.slice (some ⟨g, 0, none⟩) n cap) (xs.set i ⟨x.f0, v⟩)) := by
 have hl := (List.getElem?_eq_some_iff.1 hi).1
 have hn := (Kd.R_reads' h).1
 obtain ⟨c, hcl, hM, hcc, hfr⟩ := Kd.R_elem h z24 (i : Int) (by omega) (by omega)
 have e : xs.getD (i : Int).toNat z24 = x := by simp [List.getD_eq_getElem?_getD, hi]
 rw [e] at hM
 obtain rfl := k24_openM hM
 have hsz : k24.sz = 2 := rfl
 rw [hsz] at hcc hfr
 refine ⟨by simpa using hcc 0 _ rfl, by simpa using hcc 1 _ rfl, by simpa using hfr 0, by simpa using hfr 1, fun v => ?_, fun v => ?_⟩
 ·have := (Kd.R_seg h (i : Int) (by omega) (by omega) (seg := [.int .i64 v]) (j := 0) hcl (by rw [hsz]; exact hcc) (show 1 ≤ 2 from by decide) (x' := ⟨v, x.f1⟩) (k24_mkM _ _ _ _) (fun _ hk => hk)).1
  rw [hsz] at this
  simpa [World.setCells] using this
 ·have := (Kd.R_seg h (i : Int) (by omega) (by omega) (seg := [.int .i64 v]) (j := 1) hcl (by rw [hsz]; exact hcc) (show 2 ≤ 2 from by decide) (x' := ⟨x.f0, v⟩) (k24_mkM _ _ _ _) (fun _ hk => hk)).1
  rw [hsz] at this
  simpa [World.setCells] using this
end Go.Proofs.Ytckhjehibjdjdaa.P
namespace Go.Proofs.Ytckhjehibjdjdaa.P
open Go.RowKit Go.Shelf Go.Proofs.YtckhjehibjdjdaaW.PrintWords Go.Proofs.YtckhjehibjdjdaaW.PrintLast Go.Proofs.YtckhjehibjdjdaaW.PrintMore
attribute [local go_sem] cellBx frozBx
theorem boundU_len {l : List S24} (h : boundU l = true) : l.length ≤ 20 := by unfold boundU at h; simp only [Bool.and_eq_true, decide_eq_true_eq] at h; exact h.1
theorem boundU_get {l : List S24} (h : boundU l = true) (i : Nat) (hi : i < l.length) : (-1048576 ≤ l[i].f0 ∧ l[i].f0 ≤ 1048576) ∧ -1048576 ≤ l[i].f1 ∧ l[i].f1 ≤ 1048576 := by
 unfold boundU at h
 simp only [Bool.and_eq_true, List.all_eq_true] at h
 have := h.2 l[i] (List.getElem_mem _)
 simp only [Bool.and_eq_true, decide_eq_true_eq] at this
 omega
def updU (b : Int) (l : List S24) (i : Nat) : List S24 := moreU b (l.take i) ++ l.drop i
theorem updU_zero (b : Int) (l : List S24) : updU b l 0 = l := by simp [updU, moreU]
theorem updU_len (b : Int) (l : List S24) (i : Nat) : (updU b l i).length = l.length := by simp [updU, moreU]; omega
theorem updU_get (b : Int) (l : List S24) (i : Nat) (h : i < l.length) : (updU b l i)[i]? = some l[i] := by simp [updU, moreU, List.getElem?_append, Nat.min_eq_left (Nat.le_of_lt h), h]
theorem updU_succ {b : Int} {l : List S24} {i : Nat} {x : S24} (h : (updU b l i)[i]? = some x) (hi : i < l.length) : ((updU b l i).set i ⟨capU b x.f0, x.f1⟩).set i ⟨capU b x.f0, capU b x.f1⟩ = updU b l (i + 1) := by
 rw [updU_get b l i hi] at h
 obtain rfl := Option.some.inj h
 rw [List.set_set]
 unfold updU moreU
 rw [List.take_succ_eq_append_getElem hi, List.map_append, List.set_append_right _ _ (by simp; omega), List.append_assoc]
 congr 1
 simp only [List.length_map, List.length_take, Nat.min_eq_left (Nat.le_of_lt hi), Nat.sub_self]
 rw [List.drop_eq_getElem_cons hi]
 rfl
theorem capM {x b : Int} (h : w64B x = true) (hx : x ≤ 1000) (h0 : 0 ≤ b) (h1 : b ≤ 255) : (if 16 < wrap64 (x + wrap64 (b.tmod 3)) then (16 : Int) else wrap64 (x + wrap64 (b.tmod 3))) = min (x + b % 3) 16 := by
 unfold w64B at h
 simp only [Bool.and_eq_true, decide_eq_true_eq] at h
 have e0 : b.tmod 3 = b % 3 := Int.tmod_eq_emod_of_nonneg h0
 have e1 : wrap64 (b % 3) = b % 3 := by unfold wrap64; omega
 have e : wrap64 (x + b % 3) = x + b % 3 := by unfold wrap64; omega
 rw [e0, e1, e]
 split <;> omega
theorem updU_all (b : Int) (l : List S24) : updU b l l.length = moreU b l := by simp [updU]
set_option maxHeartbeats 8000000 in
set_option maxRecDepth 100000 in
theorem ensemblelaw14_ElasticMore.calls (k : Nat) (a0_0 a0_1 a0_2 a0_3 : Int) (A0_4 : Option Addr) (c0_4 : Nat) (l0_4 : List (S51)) (A0_5 : Option Addr) (c0_5 : Nat) (l0_5 : List (S24)) (A0_6 : Option Addr) (c0_6 : Nat) (l0_6 : List (S41)) (A0_7 : Option Addr) (c0_7 : Nat) (l0_7 : List (S105)) (A0_8 : Option Addr) (c0_8 : Nat) (l0_8 : List (S149)) (a1_0 a1_1 a1_2 a1_3 a1_4 a1_5 a1_6 a1_7 a2 a3 : Int) (r : Bool) (w : World) (hr0_4 : Kd.C k51 w A0_4 l0_4.length l0_4) (hc0_4 : l0_4.length ≤ c0_4) (hr0_5 : Kd.C k24 w A0_5 l0_5.length l0_5) (hc0_5 : l0_5.length ≤ c0_5) (hr0_6 : Kd.C k41 w A0_6 l0_6.length l0_6) (hc0_6 : l0_6.length ≤ c0_6) (hr0_7 : Kd.C k105 w A0_7 l0_7.length l0_7) (hc0_7 : l0_7.length ≤ c0_7) (hr0_8 : Kd.C k149 w A0_8 l0_8.length l0_8) (hc0_8 : l0_8.length ≤ c0_8) (h : ensemblelaw14_ElasticMore.f k a0_0 a0_1 a0_2 a0_3 l0_4 l0_5 l0_6 l0_7 l0_8 a1_0 a1_1 a1_2 a1_3 a1_4 a1_5 a1_6 a1_7 a2 a3 = some r) (hr_ : r = true := by rfl) :
  Calls Try.prog 21 #[.agg #[.int .i64 a0_0, .int .i64 a0_1, .int .i64 a0_2, .int .i64 a0_3, .slice A0_4 l0_4.length c0_4, .slice A0_5 l0_5.length c0_5, .slice A0_6 l0_6.length c0_6, .slice A0_7 l0_7.length c0_7, .slice A0_8 l0_8.length c0_8], .agg #[.int .i64 a1_0, .int .i64 a1_1, .int .i64 a1_2, .int .i64 a1_3, .int .i64 a1_4, .int .i64 a1_5, .int .i64 a1_6, .int .i64 a1_7], .int .i64 a2, .int .u8 a3] w fun e w' => e = .returned (.bool r) ∧ Below w.heap.size w w' := by
 have hu86 := Try.underlying86
 have hu88 := Try.underlying88
 have hu24 := Try.underlying24
 have hu27 := Try.underlying27
 have : Rw k51 w A0_4 c0_4 l0_4 := ⟨hr0_4, hc0_4⟩
 have : Rw k24 w A0_5 c0_5 l0_5 := ⟨hr0_5, hc0_5⟩
 have : Rw k41 w A0_6 c0_6 l0_6 := ⟨hr0_6, hc0_6⟩
 have : Rw k105 w A0_7 c0_7 l0_7 := ⟨hr0_7, hc0_7⟩
 have : Rw k149 w A0_8 c0_8 l0_8 := ⟨hr0_8, hc0_8⟩
 clear hr0_4 hc0_4 hr0_5 hc0_5 hr0_6 hc0_6 hr0_7 hc0_7 hr0_8 hc0_8
 have : Be w w := ⟨Below.refl _ _⟩
 unfold ensemblelaw14_ElasticMore.f at h
 replace h := bindS h
 obtain ⟨few, hF, h⟩ := h
 have HF := m_ hF
 have H := m_ h
 clear h hF
 go_enter Try.func21, Try.ntmps21
 cases few with
 | false =>
  have hh := H.out
  rw [if_pos rfl] at hh
  obtain rfl := Option.some.inj hh
  clear hh H
  go_wp2_with (first | ((with_reducible refine a3_ (N := 4) rfl ?_); refine bxT 4 #[.int .i64 a0_0, .int .i64 a0_1, .int .i64 a0_2, .int .i64 a0_3, .slice A0_4 l0_4.length c0_4, .slice A0_5 l0_5.length c0_5, .slice A0_6 l0_6.length c0_6, .slice A0_7 l0_7.length c0_7, .slice A0_8 l0_8.length c0_8] 86 ?_; intro g4 w4 _ _ _) | ((with_reducible refine a3_ (N := 5) rfl ?_); refine bxT 5 #[.int .i64 a1_0, .int .i64 a1_1, .int .i64 a1_2, .int .i64 a1_3, .int .i64 a1_4, .int .i64 a1_5, .int .i64 a1_6, .int .i64 a1_7] 88 ?_; intro g5 w5 _ _ _) | (go_at_call 55; refine (ensemblelaw14_awake.calls true _ awake14).mono ?_; rintro e wa ⟨rfl, hb⟩; have := Bl.mk hb; clear hb) | (go_at_call 56; refine (ensembleref14_Few_c HF).mono ?_; rintro e wf ⟨rfl, _⟩))
  go_ret
  exact ⟨rfl, Be.out⟩
 | true =>
  have hh := H.out
  clear H
  rw [if_neg (by decide)] at hh
  by_cases hx : a1_7 > 1000
  ·rw [if_pos hx] at hh
   obtain rfl := Option.some.inj hh
   have q := decide_eq_true hx
   clear hh hx
   go_wp2_with (first | ((with_reducible refine a3_ (N := 4) rfl ?_); refine bxT 4 #[.int .i64 a0_0, .int .i64 a0_1, .int .i64 a0_2, .int .i64 a0_3, .slice A0_4 l0_4.length c0_4, .slice A0_5 l0_5.length c0_5, .slice A0_6 l0_6.length c0_6, .slice A0_7 l0_7.length c0_7, .slice A0_8 l0_8.length c0_8] 86 ?_; intro g4 w4 _ _ _) | ((with_reducible refine a3_ (N := 5) rfl ?_); refine bxT 5 #[.int .i64 a1_0, .int .i64 a1_1, .int .i64 a1_2, .int .i64 a1_3, .int .i64 a1_4, .int .i64 a1_5, .int .i64 a1_6, .int .i64 a1_7] 88 ?_; intro g5 w5 _ _ _) | (go_at_call 55; refine (ensemblelaw14_awake.calls true _ awake14).mono ?_; rintro e wa ⟨rfl, hb⟩; have := Bl.mk hb; clear hb) | (go_at_call 56; refine (ensembleref14_Few_c HF).mono ?_; rintro e wf ⟨rfl, _⟩))
   go_ret
   exact ⟨rfl, Be.out⟩
  rw [if_neg hx] at hh
  have q := decide_eq_false hx
  replace hh := bindS hh
  obtain ⟨⟨m, e⟩, hM, hh⟩ := hh
  replace hh := bindS hh
  obtain ⟨⟨s, f⟩, hS, hh⟩ := hh
  replace hh := bindS hh
  obtain ⟨⟨t, g⟩, hT, hh⟩ := hh
  simp only at hh
  by_cases hc : s.length ≤ t.length ∧ g = e ∧ t.length = m.length ∧ (e ≠ 0 → f ≠ 0)
  case neg => rw [if_neg hc] at hh; cases hh
  rw [if_pos hc] at hh
  by_cases hd : boundU l0_5 = true ∧ 0 ≤ a3 ∧ a3 ≤ 255 ∧ w64B a1_7 = true
  case neg => rw [if_neg hd] at hh; cases hh
  rw [if_pos hd] at hh
  replace hh := bindS hh
  obtain ⟨⟨b, hB⟩, hN, hh⟩ := hh
  simp only at hh
  have HM := m_ hM
  have HS := m_ hS
  have HT := m_ hT
  have HN := m_ hN
  have HD := m_ hd
  have HC := m_ hc
  have H := m_ hh
  have HX1 := m_ (Int.not_lt.1 hx)
  clear hM hS hT hN hd hc hh hx
  go_upto_region 6 with (first | ((with_reducible refine a3_ (N := 4) rfl ?_); refine bxT 4 #[.int .i64 a0_0, .int .i64 a0_1, .int .i64 a0_2, .int .i64 a0_3, .slice A0_4 l0_4.length c0_4, .slice A0_5 l0_5.length c0_5, .slice A0_6 l0_6.length c0_6, .slice A0_7 l0_7.length c0_7, .slice A0_8 l0_8.length c0_8] 86 ?_; intro g4 w4 _ _ _) | ((with_reducible refine a3_ (N := 5) rfl ?_); refine bxT 5 #[.int .i64 a1_0, .int .i64 a1_1, .int .i64 a1_2, .int .i64 a1_3, .int .i64 a1_4, .int .i64 a1_5, .int .i64 a1_6, .int .i64 a1_7] 88 ?_; intro g5 w5 _ _ _) | (go_at_call 55; refine (ensemblelaw14_awake.calls true _ awake14).mono ?_; rintro e wa ⟨rfl, hb⟩; have := Bl.mk hb; clear hb) | (go_at_call 56; refine (ensembleref14_Few_c HF).mono ?_; rintro e wf ⟨rfl, _⟩) | (go_at_call 57; refine (elastic_Most_c HM).mono ?_; rintro e wm ⟨Am, cm, rfl, _, _, _⟩))
  go_upto_region 7 with (first | (go_at_call 58; refine (elastic_Fill_c HS).mono ?_; rintro e ws ⟨As, cs, rfl, _, _, _⟩))
  go_upto_region 9 with (fail)
  obtain ⟨g13, w13, _, _, _, e1, e2⟩ := nameA ws #[.int .i64 a0_0, .int .i64 0, .int .i64 a0_2, .int .i64 a0_3, .slice A0_4 l0_4.length c0_4, .slice A0_5 l0_5.length c0_5, .slice A0_6 l0_6.length c0_6, .slice A0_7 l0_7.length c0_7, .slice A0_8 l0_8.length c0_8] 86
  rw [e1, e2]
  clear e1 e2
  go_upto_region 10 with (first | (go_at_call 58; refine (elastic_Fill_c HT).mono ?_; rintro e wt ⟨At, ct, rfl, _, _, _⟩))
  obtain ⟨c1, c2, c3, c4⟩ := HC.out
  subst c2
  clear HC q
  have q1 : decide ((s.length : Int) > (t.length : Int)) = false := decide_eq_false (by omega)
  have q2 : decide (t.length < s.length) = false := decide_eq_false (by omega)
  have q3 : ((t.length : Int) != (m.length : Int)) = false := by rw [c3]; simp
  clear c1 c3
  have hcase : (g = 0 ∧ f = 0) ∨ (g = 0 ∧ f ≠ 0) ∨ (g ≠ 0 ∧ f ≠ 0) := by by_cases h1 : g = 0 <;> by_cases h2 : f = 0 <;> simp_all
  clear c4
  rcases hcase with ⟨h1, h2⟩ | ⟨h1, h2⟩ | ⟨h1, h2⟩
  case' inl => (have t1 : (g == 0) = true := beq_iff_eq.2 h1); (have t2 : (f == 0) = true := beq_iff_eq.2 h2); (have t3 : (g != 0) = false := by rw [h1]; rfl)
  case' inr.inl => (have t1 : (g == 0) = true := beq_iff_eq.2 h1); (have t2 : (f == 0) = false := beq_eq_false_iff_ne.2 h2); (have t3 : (g != 0) = false := by rw [h1]; rfl)
  case' inr.inr => (have t1 : (g == 0) = false := beq_eq_false_iff_ne.2 h1); (have t2 : (f == 0) = false := beq_eq_false_iff_ne.2 h2); (have t3 : (g != 0) = true := bne_iff_ne.2 h1)
  all_goals
   have HE := m_ h1
   clear h1 h2
   go_upto_region 13 with (fail)
   obtain ⟨g16, w16, _, _, _, e1, e2⟩ := nameA wt #[.int .i64 a0_0, .int .i64 a0_1, .int .i64 a0_2, .int .i64 a0_3, .slice A0_4 l0_4.length c0_4, .slice A0_5 l0_5.length c0_5, .slice A0_6 l0_6.length c0_6, .slice A0_7 l0_7.length c0_7, .slice A0_8 l0_8.length c0_8] 86
   rw [e1, e2]
   clear e1 e2 q1 q2 q3 t1 t2 t3
   go_wp2_with (first | ((with_reducible refine a3_ (N := 83) rfl ?_); refine Kd.R_lit k24 _ 24 ?hg (N := 83) ?hd (xs := ([] : List (S24))) (inner := []) (ok := fun _ => True) (okp := fun _ => True) ?hr ?hp (fun _ hk => hk) trivial (Below.refl w16.heap.size w16) (Nat.le_refl _) (by simp) ?_; (case hd => rfl); (case hg => rfl); (case hr => first | (go_simp; done) | (go_simp; rfl)); (case hp => exact (Reps.none _ _)); intro v1 wl ho hb _ _; have := Bl.mk hb) | ((with_reducible refine gate_builtin (b := .append) (xs := #[.tmp 83, .tmp 85]) rfl ?_); at_builtin; refine Kd.R_append_rows k24 (w0 := w16) w16.heap.size rfl (.tmp 83) (.tmp 85) 82 24 (.agg #[.int .i64 0, .int .i64 0]) 16 rfl Try.underlying82 info24 rfl (by decide) (by omega) v1 [] l0_5 _ _ _ (fun _ => True) (fun _ => False) rfl rfl ?aO ?aR (fun _ _ h => h) (fun _ h => h.elim) ?aF ?aB ?aS ?aL ?_; (case aR => exact Rw.out); (case aB => exact hb); (case aF => exact (fun _ _ => trivial)); (case aO => exact ho); (case aS => exact hb.size); (case aL => have := boundU_len HD.out.1; simp; omega); intro v2 wp ho2 hb2 _ _; rw [List.nil_append] at ho2; obtain ⟨Av, cv, e3⟩ := Kd.R_slice ho2; subst e3; have := Bl.mk hb2; clear ho hb hb2))
   have b5 : Bx (wp.setCell ⟨g16, 5, none⟩ (.slice Av l0_5.length cv)) g5 #[.int .i64 a1_0, .int .i64 a1_1, .int .i64 a1_2, .int .i64 a1_3, .int .i64 a1_4, .int .i64 a1_5, .int .i64 a1_6, .int .i64 a1_7] 88 := inferInstance
   have b16 : Bx (wp.setCell ⟨g16, 5, none⟩ (.slice Av l0_5.length cv)) g16 #[.int .i64 a0_0, .int .i64 a0_1, .int .i64 a0_2, .int .i64 a0_3, .slice A0_4 l0_4.length c0_4, .slice Av l0_5.length cv, .slice A0_6 l0_6.length c0_6, .slice A0_7 l0_7.length c0_7, .slice A0_8 l0_8.length c0_8] 86 := bxSetS (cs := #[.int .i64 a0_0, .int .i64 a0_1, .int .i64 a0_2, .int .i64 a0_3, .slice A0_4 l0_4.length c0_4, .slice A0_5 l0_5.length c0_5, .slice A0_6 l0_6.length c0_6, .slice A0_7 l0_7.length c0_7, .slice A0_8 l0_8.length c0_8])
   have be : Be w (wp.setCell ⟨g16, 5, none⟩ (.slice Av l0_5.length cv)) := inferInstance
   have HO := m_ (roFar (g := g16) (j := 5) (u := .slice Av l0_5.length cv) ho2 (by decide))
   clear ho2
   generalize wp.setCell ⟨g16, 5, none⟩ (.slice Av l0_5.length cv) = wq at *
   go_loopw [17] (fun v17 wr => ∃ i : Nat, i ≤ l0_5.length ∧ v17 = .int .i64 (i : Int) ∧ A_ (Kd.R k24 24 wr w16.heap.size (fun _ => True) (.slice Av l0_5.length cv) (updU a3 l0_5 i)) ∧ Bx wr g5 #[.int .i64 a1_0, .int .i64 a1_1, .int .i64 a1_2, .int .i64 a1_3, .int .i64 a1_4, .int .i64 a1_5, .int .i64 a1_6, .int .i64 a1_7] 88 ∧ Bx wr g16 #[.int .i64 a0_0, .int .i64 a0_1, .int .i64 a0_2, .int .i64 a0_3, .slice A0_4 l0_4.length c0_4, .slice Av l0_5.length cv, .slice A0_6 l0_6.length c0_6, .slice A0_7 l0_7.length c0_7, .slice A0_8 l0_8.length c0_8] 86 ∧ Be w wr) (fun v17 _ => l0_5.length - (intOf v17).toNat)
   case atStart => exact ⟨0, Nat.zero_le _, rfl, by rw [updU_zero]; exact HO, b5, b16, be⟩
   case round =>
    clear HO b5 b16 be
    obtain ⟨i, hi, rfl, HO, b5, b16, be⟩ := hrel
    by_cases hlt : i < l0_5.length
    ·have hx := updU_get a3 l0_5 i hlt
     obtain ⟨gr, cap, ee, hg1, hg2, hg3⟩ := Kd.R_form HO.out (by rw [updU_len]; omega)
     injection ee with e1 e2 e3
     subst e1
     clear e2 e3 hg2 hg3
     obtain ⟨y0, y1, z0, z1, s0, s1⟩ := set24 HO.out hx
     have S0 := m_ s0
     have S1 := m_ s1
     clear s0 s1
     have hbd := boundU_get HD.out.1 i hlt
     have ha := HD.out.2.1
     have ha2 := HD.out.2.2.1
     have HX := m_ hx
     generalize l0_5[i] = x at *
     clear hx
     have HLT := m_ hlt
     have c1 : (0 ≤ (i : Int)) = True := eq_true (by omega)
     have c2 : ((i : Int) < (l0_5.length : Int)) = True := eq_true (by omega)
     have c3 : (i : Int).toNat = i := rfl
     have c4 : IntKind.i64.wrap a3 = a3 := IntWalk.i64_in _ (by omega)
     have c5 : IntKind.i64.wrap (x.f0 + a3) = x.f0 + a3 := IntWalk.i64_in _ (by omega)
     have c6 : IntKind.i64.wrap (x.f1 + a3) = x.f1 + a3 := IntWalk.i64_in _ (by omega)
     have hib : (i : Int) ≤ 20 := by have := boundU_len HD.out.1; omega
     obtain ⟨v0, hv0⟩ : ∃ v, v = capU a3 x.f0 := ⟨_, rfl⟩
     obtain ⟨v1, hv1⟩ : ∃ v, v = capU a3 x.f1 := ⟨_, rfl⟩
     have HV := m_ (And.intro hv0 hv1)
     have k0 : (if 1048576 < x.f0 + a3 then (1048576 : Int) else x.f0 + a3) = v0 := hv0.symm
     have k1 : (if 1048576 < x.f1 + a3 then (1048576 : Int) else x.f1 + a3) = v1 := hv1.symm
     clear hlt hi hv0 hv1
     go_upto_region 17 with (fail)
     go_region
     have : Nq g16 gr := nqLt (W := w16) hg1
     have : Nq g5 gr := nqLt (W := w16) hg1
     have : Ge w gr := ⟨Nat.le_trans (Be.out (W := w16)).size hg1⟩
     go_wp2
     go_region
     go_wp2
     go_roundw
     case rel => exact ⟨i + 1, HLT.out, by go_num, ⟨by refine Kd.R_drew (Kd.R_drew ?_); rw [← updU_succ HX.out HLT.out, ← HV.out.1, ← HV.out.2]; exact (set24 (S0.out v0) (by rw [List.getElem?_set_self (by rw [updU_len]; exact HLT.out)])).2.2.2.2.2 v1⟩, inferInstance, inferInstance, inferInstance⟩
     case measure => have := HLT.out; simp [intOf]; omega
    ·obtain rfl : i = l0_5.length := by omega
     have hO := HO.out
     rw [updU_all] at hO
     have hCC := Kd.R_reads' hO
     have : Rw k24 wr Av cv (moreU a3 l0_5) := ⟨hCC.2.2, by rw [moreU_len]; exact hCC.2.1⟩
     rw [← moreU_len a3 l0_5] at b16
     have t5 : decide ((l0_5.length : Int) < ((moreU a3 l0_5).length : Int)) = false := decide_eq_false (by rw [moreU_len]; omega)
     have t6 : decide (l0_5.length < (moreU a3 l0_5).length) = false := decide_eq_false (by rw [moreU_len]; omega)
     clear HO hO hCC hlt hi
     have ha := HD.out.2.1
     have ha2 := HD.out.2.2.1
     have c4 : IntKind.i64.wrap a3 = a3 := IntWalk.i64_in _ (by omega)
     obtain ⟨mx, hmx⟩ : ∃ x, x = min (a1_7 + a3 % 3) 16 := ⟨_, rfl⟩
     have k2 := m_ (show (if 16 < wrap64 (a1_7 + wrap64 (a3.tmod 3)) then (16 : Int) else wrap64 (a1_7 + wrap64 (a3.tmod 3))) = mx from by rw [hmx]; exact capM HD.out.2.2.2 HX1.out ha ha2)
     rw [← hmx] at HN
     clear hmx ha ha2
     go_upto_region 21 with (fail)
     rw [k2.out]
     have hh := H.out
     clear H k2 c4
     by_cases h1 : g = 0
     ·rw [if_neg (by simpa using h1)] at hh
      by_cases h2 : hB = 0 ∧ m.length ≤ b.length
      case neg => rw [if_neg h2] at hh; cases hh
      rw [if_pos h2] at hh
      obtain rfl := Option.some.inj hh
      have t1 : (g != 0) = false := by rw [h1]; rfl
      have t2 : (hB == 0) = true := beq_iff_eq.2 h2.1
      have t3 : decide ((b.length : Int) ≥ (m.length : Int)) = true := decide_eq_true (by omega)
      have t4 : decide (m.length ≤ b.length) = true := decide_eq_true h2.2
      have T2 := m_ h2
      clear hh h1 h2
      go_wp2_with (first | (go_at_call 57; refine (elastic_Most_c HN).mono ?_; rintro e wn ⟨An, cn, rfl, _, _, _⟩))
      go_ret
      exact ⟨rfl, Be.out⟩
     ·rw [if_pos h1] at hh
      obtain rfl := Option.some.inj hh
      have t1 : (g != 0) = true := bne_iff_ne.2 h1
      clear hh h1
      go_wp2_with (first | (go_at_call 57; refine (elastic_Most_c HN).mono ?_; rintro e wn ⟨An, cn, rfl, _, _, _⟩))
      go_ret
      exact ⟨rfl, Be.out⟩
end Go.Proofs.Ytckhjehibjdjdaa.P
namespace Go.Proofs.Ytckhjehibjdjdaa.P
open Go.RowKit Go.Shelf Go.Proofs.YtckhjehibjdjdaaW.PrintWords Go.Proofs.YtckhjehibjdjdaaW.PrintLast Go.Proofs.YtckhjehibjdjdaaW.PrintMore
open Go.Proofs.Ytckhjehibjdjdaa.RF
attribute [local go_sem] Oper.semAt_some
def Chosen (w : World) (g2 g3 : Nat) (d id : Int) (sl : List S52) (ok : Bool) (W : World) : Prop :=
 ∃ A c, W.heap[g2]? = some (.cells #[.int .i64 d, .int .i64 id, .slice A sl.length c] 100 (0, 0)) ∧ W.heap[g3]? = some (.cells #[.bool ok] 4 (0, 0)) ∧ Kd.R k52 52 W w.heap.size (fun _ => True) (.slice A sl.length c) sl ∧ Below w.heap.size w W
theorem Chosen.own {w : World} {g2 g3 : Nat} {d id : Int} {sl : List S52} {ok : Bool} {B : Nat} (hB : w.heap.size ≤ B) : OwnFrom B (fun (_ : Unit) W => Chosen w g2 g3 d id sl ok W) := by
 rintro _ A C row ⟨a, c, h1, h2, h3, h4⟩ hg hr
 have hr' : ∀ r, row = some r → ∃ o : Obj, A.heap[r]? = some o ∧ o.isCells = false := fun r e => (hr r e).2
 exact ⟨a, c, blk_own h1 hg hr', blk_own h2 hg hr', R_own h3 hg hr', h4.grown hg h4.size (fun k e => Nat.le_trans hB (hr k e).1)⟩
theorem Chosen.mark {w : World} {g2 g3 : Nat} {d id : Int} {sl : List S52} {ok : Bool} {W : World} {D : Nat} (h : Chosen w g2 g3 d id sl ok W) (hD : w.heap.size ≤ D) (hK : W.heap[D]? = some (.deferred (some []))) : Chosen w g2 g3 d id sl ok (W.putObj D (.deferred none)) :=
 Chosen.own (Nat.le_refl _) () _ _ (some D) h (grownBy_putObj' W D _) (fun r e => by cases e; exact ⟨hD, _, hK, rfl⟩)
end Go.Proofs.Ytckhjehibjdjdaa.P
namespace Go.Proofs.Ytckhjehibjdjdaa.P
open Go.RowKit Go.Proofs.YtckhjehibjdjdaaW.PrintWords Go.Proofs.YtckhjehibjdjdaaW.PrintLast Go.Proofs.YtckhjehibjdjdaaW.PrintMore
attribute [local go_sem] max2_int min2_int max_two min_two max_three min_three max_four min_four
end Go.Proofs.Ytckhjehibjdjdaa.P
namespace Go.Proofs.Ytckhjehibjdjdaa.P
open Go.RowKit Go.Shelf Go.Proofs.YtckhjehibjdjdaaW.PrintWords Go.Proofs.YtckhjehibjdjdaaW.PrintLast Go.Proofs.YtckhjehibjdjdaaW.PrintMore
attribute [local go_sem] Oper.semAt_some
end Go.Proofs.Ytckhjehibjdjdaa.P
namespace Go.Proofs.Ytckhjehibjdjdaa.P
open Go.RowKit Go.Proofs.YtckhjehibjdjdaaW.PrintWords Go.Proofs.YtckhjehibjdjdaaW.PrintLast Go.Proofs.YtckhjehibjdjdaaW.PrintMore
attribute [local go_sem] max2_int min2_int max_two min_two max_three min_three max_four min_four
end Go.Proofs.Ytckhjehibjdjdaa.P
namespace Go.Proofs.Ytckhjehibjdjdaa.P
open Go.RowKit Go.Proofs.YtckhjehibjdjdaaW.PrintWords Go.Proofs.YtckhjehibjdjdaaW.PrintLast Go.Proofs.YtckhjehibjdjdaaW.PrintMore
open Go.Proofs.Ytckhjehibjdjdaa.Bits Go.Proofs.Ytckhjehibjdjdaa.Mp
theorem room_set (s0 s1 s2 s3 : Int) (view : List S51) (p : Nat) (hp : p < view.length) (x : S51) : roomS s0 s1 s2 s3 (view.set p x) = roomS s0 s1 s2 s3 view - fitV s0 s1 s2 s3 view[p].f1 view[p].f2 + fitV s0 s1 s2 s3 x.f1 x.f2 := by
 have e : roomS s0 s1 s2 s3 view = roomS s0 s1 s2 s3 (view.take p ++ view[p] :: view.drop (p + 1)) := by rw [← List.drop_eq_getElem_cons hp, List.take_append_drop]
 have c : ∀ (y : S51) (l : List S51), roomS s0 s1 s2 s3 (y :: l) = fitV s0 s1 s2 s3 y.f1 y.f2 + roomS s0 s1 s2 s3 l := fun y l => by unfold roomS; rw [List.map_cons, List.sum_cons]
 rw [e, List.set_eq_take_append_cons_drop, if_pos hp, roomS_append, roomS_append, c, c]
 omega
theorem less_pcs {s0 s1 s2 s3 : Int} (hg : c7_ s0 s1 s2 s3 = true) : ∀ (n : Nat) (f : S51) (view : List S51), View view → f ∈ view → n ≤ fitT s0 s1 s2 s3 f →
  (turnF lessE lessF view (pcs s0 s1 n f)).2 = 0 ∧ View (turnF lessE lessF view (pcs s0 s1 n f)).1 ∧ (turnF lessE lessF view (pcs s0 s1 n f)).1.length = view.length ∧
  roomS s0 s1 s2 s3 (turnF lessE lessF view (pcs s0 s1 n f)).1 ≤ roomS s0 s1 s2 s3 view ∧ roomS s0 s1 s2 s3 view ≤ roomS s0 s1 s2 s3 (turnF lessE lessF view (pcs s0 s1 n f)).1 + n ∧
  (∀ g ∈ view, spot g ≠ spot f → g ∈ (turnF lessE lessF view (pcs s0 s1 n f)).1)
 | 0, f, view, V, hf, hn => ⟨rfl, V, rfl, Int.le_refl _, by show _ ≤ roomS s0 s1 s2 s3 view + _; omega, fun g hg _ => hg⟩
 | n + 1, f, view, V, hf, hn => by
  have hb := good_out0 hg
  have hok : spotOk f := ⟨V.free f hf, V.right.1 f hf⟩
  have e1 := fitT_eq s0 s1 s2 s3 f
  have e2 := fit_kap hg hok
  have hk : 1 ≤ kap s0 s1 f := by omega
  have hge := kap_ge hg hok hk
  obtain ⟨p, hp, rfl⟩ := List.mem_iff_getElem.1 hf
  have hlow := lowI_bd view[p].f1 s0
  have hms : maskOk (pieceL s0 s1 view[p]) = true := by
   unfold maskOk pieceL
   rw [decide_eq_true hlow.1, decide_eq_true hlow.2]; rfl
  have hE : lessE view[p] (pieceL s0 s1 view[p]) = 0 := by
   refine (lessE_iff hok.1 hms).2 ⟨?_, hge.2⟩
   show (lowI view[p].f1 s0).toNat &&& _ = (lowI view[p].f1 s0).toNat
   unfold lowI
   rw [Int.toNat_natCast, low_and]
  have hfi : findI view (pieceL s0 s1 view[p]).f0.f0 (pieceL s0 s1 view[p]).f0.f1 = (p : Int) := find_at V.right.2 hp rfl
  have hstep : turnF lessE lessF view (pcs s0 s1 (n + 1) view[p]) = turnF lessE lessF (view.set p (leftF s0 s1 view[p])) (pcs s0 s1 n (leftF s0 s1 view[p])) := by
   rw [pcs, turnF, if_neg (show ¬ (pieceL s0 s1 view[p]).f2 < 0 from fun h => by have h : s1 < 0 := h; omega), hfi, if_neg (by omega), rd51' view p hp, if_pos hE, Int.toNat_natCast]; rfl
  have hlo := left_ok hg hok hk
  have hle := kap_left_le hg hok hk
  have sp : (view.set p (leftF s0 s1 view[p])).map spot = view.map spot := spots_set (fun hk => rfl)
  have V' : View (view.set p (leftF s0 s1 view[p])) := ⟨⟨set_all V.right.1 hlo.2, by rw [sp]; exact V.right.2⟩, set_all V.free hlo.1⟩
  have hin : leftF s0 s1 view[p] ∈ view.set p (leftF s0 s1 view[p]) := List.mem_iff_getElem.2 ⟨p, by rw [List.length_set]; exact hp, List.getElem_set_self _⟩
  have e3 := fitT_eq s0 s1 s2 s3 (leftF s0 s1 view[p])
  have hrs := room_set s0 s1 s2 s3 view p hp (leftF s0 s1 view[p])
  obtain ⟨i1, i2, i3, i4, i5, i6⟩ := less_pcs hg n (leftF s0 s1 view[p]) _ V' hin (by omega)
  rw [hstep]
  refine ⟨i1, i2, by rw [i3, List.length_set], by omega, by omega, fun g hgm hne => i6 g ?_ hne⟩
  obtain ⟨q, hq, rfl⟩ := List.mem_iff_getElem.1 hgm
  have hpq : p ≠ q := fun h => hne (by subst h; rfl)
  exact List.mem_iff_getElem.2 ⟨q, by rw [List.length_set]; exact hq, List.getElem_set_ne hpq _⟩
theorem less_flat {s0 s1 s2 s3 : Int} (hg : c7_ s0 s1 s2 s3 = true) : ∀ (L : List S51) (view : List S51) (r : Nat), View view → (L.map spot).Nodup → (∀ f ∈ L, f ∈ view) →
  (turnF lessE lessF view ((flat s0 s1 s2 s3 L).take r)).2 = 0 ∧ View (turnF lessE lessF view ((flat s0 s1 s2 s3 L).take r)).1 ∧ (turnF lessE lessF view ((flat s0 s1 s2 s3 L).take r)).1.length = view.length ∧
  roomS s0 s1 s2 s3 (turnF lessE lessF view ((flat s0 s1 s2 s3 L).take r)).1 ≤ roomS s0 s1 s2 s3 view ∧ roomS s0 s1 s2 s3 view ≤ roomS s0 s1 s2 s3 (turnF lessE lessF view ((flat s0 s1 s2 s3 L).take r)).1 + ((flat s0 s1 s2 s3 L).take r).length
 | [], view, r, V, _, _ => by
  rw [show flat s0 s1 s2 s3 [] = [] from rfl, List.take_nil]
  exact ⟨rfl, V, rfl, Int.le_refl _, by show _ ≤ roomS s0 s1 s2 s3 view + _; simp⟩
 | f :: L, view, r, V, hn, hL => by
  rw [List.map_cons, List.nodup_cons] at hn
  rw [flat_cons, List.take_append, pcs_take, pcs_len]
  obtain ⟨a1, a2, a3, a4, a5, a6⟩ := less_pcs hg (min r (fitT s0 s1 s2 s3 f)) f view V (hL f (by simp)) (by omega)
  rw [turnF_append _ _ _ a1]
  obtain ⟨b1, b2, b3, b4, b5⟩ := less_flat hg L _ (r - fitT s0 s1 s2 s3 f) a2 hn.2 (fun g hgm => a6 g (hL g (by simp [hgm])) (fun h => hn.1 (List.mem_map.2 ⟨g, hgm, h⟩)))
  refine ⟨b1, b2, b3.trans a3, by omega, ?_⟩
  rw [List.length_append, pcs_len]
  omega
theorem flat_spot (s0 s1 s2 s3 : Int) (L : List S51) : ∀ s ∈ flat s0 s1 s2 s3 L, ∃ f ∈ L, s.f0 = f.f0 ∧ maskOk s = true := fun s hs => by
 obtain ⟨f, hf, h⟩ := List.mem_flatMap.1 hs
 exact ⟨f, hf, pcs_spot _ _ _ f s h⟩
end Go.Proofs.Ytckhjehibjdjdaa.P
namespace Go.Proofs.Ytckhjehibjdjdaa.P
open Go.RowKit Go.Proofs.YtckhjehibjdjdaaW.PrintWords Go.Proofs.YtckhjehibjdjdaaW.PrintLast Go.Proofs.YtckhjehibjdjdaaW.PrintMore
attribute [local go_sem] max2_int min2_int max_two min_two max_three min_three max_four min_four
def ensembleref02_Count.T6 : Bool × List (List Nat × List Nat) := (true, [([], []), ([0], [0]), ([], []), ([], []), ([2, 3], [2, 3]), ([4], [4]), ([5], [5]), ([1, 6], [1, 6]), ([0, 1, 2, 3, 4, 5, 6, 7], []), ([8, 7, 0, 1, 2, 3, 4, 5, 6, 7], [7, 8])])
def ensembleref02_Count.B6 : List Nat := [0, 1, 0, 0, 12, 28, 60, 127, 255, 511]
theorem ensembleref02_Count.bits6 : waitsOk ensembleref02_Count.T6.2 ensembleref02_Count.B6 = true := by kernel_rfl
theorem eqA51 (d : Nat) (w : World) (x0 y0 x1 y1 x2 y2 x3 y3 : Int) :
  (Op.equalIn (d + 3) 51 (.agg #[.int .i64 x0, .int .i64 x1, .int .u64 x2, .int .i64 x3]) (.agg #[.int .i64 y0, .int .i64 y1, .int .u64 y2, .int .i64 y3])).run Try.prog w = .ok ((x0 == y0 && (x1 == y1)) && (x2 == y2 && (x3 == y3))) w := by
 refine eqA_of Try.underlying51 (by kernel_rfl) ?_
 refine eqf_cons (by rfl) (by go_simp) (by go_simp) (eqA48 (d + 0) w _ _ _ _) ?_
 refine eqf_cons (by rfl) (by go_simp; rfl) (by go_simp; rfl) (by go_simp) ?_
 exact eqf_last (by rfl) (by go_simp; rfl) (by go_simp; rfl) (by go_simp)
end Go.Proofs.Ytckhjehibjdjdaa.P
namespace Go.Proofs.Ytckhjehibjdjdaa.P
open Go.RowKit Go.Proofs.YtckhjehibjdjdaaW.PrintWords Go.Proofs.YtckhjehibjdjdaaW.PrintLast Go.Proofs.YtckhjehibjdjdaaW.PrintMore
attribute [local go_sem] max2_int min2_int max_two min_two max_three min_three max_four min_four
attribute [local go_sem high] eqA51
end Go.Proofs.Ytckhjehibjdjdaa.P
namespace Go.Proofs.Ytckhjehibjdjdaa.P
open Go.RowKit Go.Proofs.YtckhjehibjdjdaaW.PrintWords Go.Proofs.YtckhjehibjdjdaaW.PrintLast Go.Proofs.YtckhjehibjdjdaaW.PrintMore
attribute [local go_sem] max2_int min2_int max_two min_two max_three min_three max_four min_four
set_option maxRecDepth 100000 in
theorem field24_0 (a b : Int) (w : World) : Sem.run Try.prog (Instr.field 24 (.agg #[.int .i64 a, .int .i64 b]) 0) w = .ok (.int .i64 a) w := by
 have hu24 := Try.underlying24
 have hu3 := Try.underlying3
 simp [Instr.field, go_sem, hu24, hu3, part, isAgg, asAgg]
attribute [local go_sem] field24_0
end Go.Proofs.Ytckhjehibjdjdaa.P
namespace Go.Proofs.Ytckhjehibjdjdaa.P
open Go.RowKit Go.Proofs.YtckhjehibjdjdaaW.PrintWords Go.Proofs.YtckhjehibjdjdaaW.PrintLast Go.Proofs.YtckhjehibjdjdaaW.PrintMore
open Go.Proofs.Ytckhjehibjdjdaa.Bits Go.Proofs.Ytckhjehibjdjdaa.Mp
theorem low_pop (M n : Nat) (hn : n ≤ popN M) : popN (lowN M n) = n := by
 have hp : ((pos M).take n).Pairwise (· < ·) := (pos_sorted M).sublist (List.take_sublist _ _)
 unfold popN at hn ⊢
 unfold lowN
 rw [pos_orAll _ hp (fun i hi => (mem_pos.1 (List.mem_of_mem_take hi)).1), List.length_take]
 omega
theorem pcs_units {s0 s1 s2 s3 : Int} (hg : c7_ s0 s1 s2 s3 = true) : ∀ (n : Nat) (f : S51), spotOk f → n ≤ fitT s0 s1 s2 s3 f → ∀ s ∈ pcs s0 s1 n f, s.f2 = s1 ∧ popI s.f1 = s0
 | 0, _, _, _, s, h => by cases h
 | n + 1, f, hok, hn, s, h => by
  have hb := good_out0 hg
  have e1 := fitT_eq s0 s1 s2 s3 f
  have e2 := fit_kap hg hok
  have hk : 1 ≤ kap s0 s1 f := by omega
  have hge := kap_ge hg hok hk
  have hle := kap_left_le hg hok hk
  have e3 := fitT_eq s0 s1 s2 s3 (leftF s0 s1 f)
  rw [pcs, List.mem_cons] at h
  rcases h with rfl | h
  ·refine ⟨rfl, ?_⟩
   show popI (lowI f.f1 s0) = s0
   unfold popI at hge ⊢
   unfold lowI
   rw [Int.toNat_natCast, low_pop _ _ (by omega)]
   omega
  ·exact pcs_units hg n _ (left_ok hg hok hk) (by omega) s h
theorem flat_units {s0 s1 s2 s3 : Int} (hg : c7_ s0 s1 s2 s3 = true) {L : List S51} (hL : ∀ f ∈ L, spotOk f) : ∀ s ∈ flat s0 s1 s2 s3 L, s.f2 = s1 ∧ popI s.f1 = s0 := fun s hs => by
 obtain ⟨f, hf, h⟩ := List.mem_flatMap.1 hs
 exact pcs_units hg _ f (hL f hf) (Nat.le_refl _) s h
theorem popS_all {g : Int} : ∀ {l : List S52}, (∀ s ∈ l, popI s.f1 = g) → popS l = g * l.length
 | [], _ => by simp [popS]
 | s :: l, h => by
  rw [popS_cons, h s (by simp), popS_all (fun x hx => h x (by simp [hx])), List.length_cons]
  rw [Int.natCast_succ, Int.mul_add, Int.mul_one]; omega
theorem cpS_all {c : Int} : ∀ {l : List S52}, (∀ s ∈ l, s.f2 = c) → cpS l = c * l.length
 | [], _ => by simp [cpS]
 | s :: l, h => by
  rw [cpS_cons, h s (by simp), cpS_all (fun x hx => h x (by simp [hx])), List.length_cons]
  rw [Int.natCast_succ, Int.mul_add, Int.mul_one]; omega
structure Placed (view : List S51) (g c n : Int) (l : List S52) : Prop where
 len : (l.length : Int) = n
 less : (turnF lessE lessF view l).2 = 0
 pop : ∀ s ∈ l, popI s.f1 = g ∧ s.f2 = c
 mask : ∀ s ∈ l, maskOk s = true
 at_ : ∀ s ∈ l, ∃ f ∈ view, s.f0 = f.f0
theorem Few5.placed {view : List S51} (F : Few5 view) {g c mn mx n : Int} (h : (placeP view g c mn mx n).2 = 0) : Placed view g c n (placeP view g c mn mx n).1 := by
 obtain ⟨a, b, c', d⟩ := placeP_ok h
 have hp := isort_perm (fkey g c mn mx) view
 have eP : (placeP view g c mn mx n).1 = (flat g c mn mx (isort (fkey g c mn mx) view)).take n.toNat := by rw [d]
 obtain ⟨l1, l2, l3, l4, l5⟩ := less_flat a (isort (fkey g c mn mx) view) view n.toNat F.V ((hp.map spot).nodup_iff.2 F.V.right.2) (fun f hf => hp.mem_iff.1 hf)
 have hu := flat_units a (L := isort (fkey g c mn mx) view) (fun f hf => F.ok f (hp.mem_iff.1 hf))
 have hs := flat_spot g c mn mx (isort (fkey g c mn mx) view)
 refine ⟨placeP_len h, by rw [eP]; exact l1, fun s hs' => ?_, fun s hs' => ?_, fun s hs' => ?_⟩
 ·rw [eP] at hs'; exact (hu s (List.mem_of_mem_take hs')).symm
 ·rw [eP] at hs'; obtain ⟨f, _, _, h2⟩ := hs s (List.mem_of_mem_take hs'); exact h2
 ·rw [eP] at hs'; obtain ⟨f, h1, h2, _⟩ := hs s (List.mem_of_mem_take hs'); exact ⟨f, hp.mem_iff.1 h1, h2⟩
theorem Placed.units {view : List S51} {g c n : Int} {l : List S52} (P : Placed view g c n l) (hg : 0 ≤ g ∧ g ≤ 16) (hc : 0 ≤ c ∧ c ≤ 1024) (hn : 0 ≤ n ∧ n ≤ 16) : addL true (0, 0) l = (g * n, c * n) := by
 have h1 := popS_all (fun s hs => (P.pop s hs).1)
 have h2 := cpS_all (fun s hs => (P.pop s hs).2)
 rw [P.len] at h1 h2
 have b1 : g * n ≤ 16 * 16 := Int.mul_le_mul hg.2 hn.2 hn.1 (by decide)
 have b2 : c * n ≤ 1024 * 16 := Int.mul_le_mul hc.2 hn.2 hn.1 (by decide)
 have b3 : 0 ≤ g * n := Int.mul_nonneg hg.1 hn.1
 have b4 : 0 ≤ c * n := Int.mul_nonneg hc.1 hn.1
 rw [addL_true l (0, 0) (by unfold I64P; simp only; omega), h1, h2]
 simp only [Int.zero_add]
 rw [w_id (by omega), w_id (by omega)]
theorem Placed.units_ev {view : List S51} {g c n : Int} {l : List S52} (P : Placed view g c n l) (hg : 0 ≤ g ∧ g ≤ 16) (hc : 0 ≤ c ∧ c ≤ 1024) (hn : 0 ≤ n ∧ n ≤ 16) : Ev (fun k => ensembleref08_Units.f k l) (g * n, c * n) := by
 have := units08_ev l (by have := P.len; omega) P.mask
 rwa [P.units hg hc hn] at this
end Go.Proofs.Ytckhjehibjdjdaa.P
namespace Go.Proofs.Ytckhjehibjdjdaa.P
open Go.RowKit Go.Proofs.YtckhjehibjdjdaaW.PrintWords Go.Proofs.YtckhjehibjdjdaaW.PrintLast Go.Proofs.YtckhjehibjdjdaaW.PrintMore
attribute [local go_sem] max2_int min2_int max_two min_two max_three min_three max_four min_four
end Go.Proofs.Ytckhjehibjdjdaa.P
namespace Go.Proofs.Ytckhjehibjdjdaa.P
open Go.RowKit Go.Proofs.YtckhjehibjdjdaaW.PrintWords Go.Proofs.YtckhjehibjdjdaaW.PrintLast Go.Proofs.YtckhjehibjdjdaaW.PrintMore
open Go.Proofs.Ytckhjehibjdjdaa.Bits Go.Proofs.Ytckhjehibjdjdaa.Mp
theorem Ev.out {α β : Type} {g : Nat → Option α} {a : α} (h : Ev g a) (F : α → β) : Ev (fun n => (g n).bind fun t => some (F t)) (F a) := Ev.bind h (Ev.now (F a))
theorem head_eq (a0 a1 a2 a3 : Int) (view : List S51) (left : List S24) (ends : List S41) {waits : List S105} (runs : List S149) (hl : waits.length ≤ 150) : elastic_Head.f a0 a1 a2 a3 view left ends waits runs = some (headL a1 waits) := by
 unfold elastic_Head.f; rw [if_pos (by omega)]
theorem Placed.holdOk {view : List S51} {g c n : Int} {l : List S52} (P : Placed view g c n l) (vo : viewOk view) (hn : n ≤ 16) (id q u : Int) : HoldOk ⟨id, q, u, false, l⟩ :=
 ⟨P.mask, fun s hs => by obtain ⟨f, hf, e⟩ := P.at_ s hs; rw [e]; exact vo.2.2 f hf, by show l.length ≤ 20; have := P.len; omega⟩
theorem lb_i64 {left : List S24} (hL : ∀ u ∈ left, lbU u) {q : Int} (h : 0 ≤ q ∧ q < left.length) : I64P ((a7_ left q).f0, (a7_ left q).f1) := by
 obtain ⟨i, rfl⟩ : ∃ i : Nat, q = i := ⟨q.toNat, by omega⟩
 rw [rd24' left i (by omega)]
 have := hL left[i] (List.getElem_mem _)
 unfold lbU at this
 unfold I64P
 simp only
 omega
theorem safe_ev (a0 a1 a2 a3 : Int) {view : List S51} {left : List S24} {ends : List S41} (waits : List S105) (runs : List S149) (B : Base view ends) (el : ends.length < 500) (sl : (c6_ ends).length ≤ 100000) (hL : ∀ u ∈ left, lbU u) (hl : waits.length ≤ 150) {id q u : Int} {l : List S52} (H : HoldOk ⟨id, q, u, false, l⟩) :
  ∃ b, Ev (fun k => elastic_safe.f k a0 a1 a2 a3 view left ends waits runs id q u false l) b := by
 obtain ⟨⟨r0, r1, r2, r3, r4, r5, r6⟩, hr⟩ : ∃ r, headL a1 waits = r := ⟨_, rfl⟩
 have hr' : elastic_Head.f a0 a1 a2 a3 view left ends waits runs = some (r0, r1, r2, r3, r4, r5, r6) := by rw [head_eq _ _ _ _ _ _ _ _ hl, hr]
 have JT : Ev (fun k => elastic_safe.j0 k true a0 a1 a2 a3 view left ends waits runs id q u false l r0 r1 r2 r3 r4 r5) true := Ev.step (f := fun _ => some true) (fun k => by rw [elastic_safe.j0, if_pos rfl]) (Ev.now _)
 have J : ∀ x : Bool, ∃ b, Ev (fun k => elastic_safe.j0 k x a0 a1 a2 a3 view left ends waits runs id q u false l r0 r1 r2 r3 r4 r5) b := fun x => by
  cases x with
  | true => exact ⟨_, JT⟩
  | false =>
   by_cases h1 : r0 < 0
   ·exact ⟨_, Ev.step (f := fun _ => some false) (fun k => by rw [elastic_safe.j0, if_neg (by decide), if_pos h1]) (Ev.now _)⟩
   by_cases h2 : r0 ≥ (left.length : Int)
   ·exact ⟨_, Ev.step (f := fun _ => some false) (fun k => by rw [elastic_safe.j0, if_neg (by decide), if_neg h1, if_pos h2]) (Ev.now _)⟩
   have hs := B.safe (lb_i64 hL (q := r0) (by omega)) H el sl a0 r0 r1 r2 r3 r4 r5 a2
   exact ⟨_, Ev.step (fun k => by rw [elastic_safe.j0, if_neg (by decide), if_neg h1, if_neg h2, if_pos (by omega), if_pos (by omega), hs, Option.bind_some]) (Ev.now _)⟩
 cases r6 with
 | true =>
  obtain ⟨b, hb⟩ := J (id == a1)
  exact ⟨b, Ev.congr (fun k => by unfold elastic_safe.f; rw [hr', Option.bind_some, if_pos rfl]) hb⟩
 | false => exact ⟨true, Ev.congr (fun k => by unfold elastic_safe.f; rw [hr', Option.bind_some, if_neg (by simp)]) JT⟩
structure GotJ (view : List S51) (left : List S24) (y : S88) (n : Int) (sl : List S52) : Prop where
 gs : c7_ y.f4.f0 y.f4.f1 y.f4.f2 y.f4.f3 = true
 q : 0 ≤ y.f1 ∧ y.f1 < (left.length : Int)
 can : canB view y.f4.f0 y.f4.f1 y.f4.f2 y.f4.f3 n (a7_ left y.f1).f0 (a7_ left y.f1).f1 = 0
 pl : Placed view y.f4.f0 y.f4.f1 n sl
theorem most_got {view : List S51} (F : Few5 view) (left : List S24) (y : S88) (h : (mostB view left y.f1 y.f4.f0 y.f4.f1 y.f4.f2 y.f4.f3).2 = 0) :
  ∃ n, (y.f4.f2 ≤ n ∧ n ≤ y.f4.f3) ∧ ((mostB view left y.f1 y.f4.f0 y.f4.f1 y.f4.f2 y.f4.f3).1.length : Int) = n ∧ GotJ view left y n (mostB view left y.f1 y.f4.f0 y.f4.f1 y.f4.f2 y.f4.f3).1 := by
 have hR := most_is F left y.f1 y.f4.f0 y.f4.f1 y.f4.f2 y.f4.f3
 generalize mostB view left y.f1 y.f4.f0 y.f4.f1 y.f4.f2 y.f4.f3 = r at hR h
 cases hR with
 | shape hg => exact absurd h (by simp)
 | queue hg hq => exact absurd h (by simp)
 | not hg hq hc => exact absurd h hc
 | got n hg hq hn hc hm =>
  obtain ⟨hr, h1, h2⟩ := canB_zero.1 hc
  obtain ⟨p0, pl⟩ := got_place (view := view) hg hn hr
  exact ⟨n, hn, pl, hg, hq, hc, F.placed p0⟩
structure Sett (view : List S51) (left : List S24) (ends : List S41) (waits : List S105) (runs : List S149) : Prop where
 F : FewL view left ends waits runs
 F5 : Few5 view
 B : Base view ends
 el : ends.length < 500
 sl : (c6_ ends).length ≤ 100000
 vl : view.length ≤ 1000000
theorem FewL.sett {view : List S51} {left : List S24} {ends : List S41} {waits : List S105} {runs : List S149} (F : FewL view left ends waits runs) (wv : ∀ y ∈ view, wfd51 y) (we : ∀ y ∈ ends, wfd41 y) : Sett view left ends waits runs := by
 have S := setup wv we F.fp
 have h4 := slots_len S.hl
 have h5 : 20 * ends.length ≤ 20 * 20 := Nat.mul_le_mul_left 20 S.el
 exact ⟨F, F.few5 wv, S.base, by have := S.el; omega, by omega, by have := S.vl; omega⟩
section
variable {a0 a1 a2 a3 : Int} {view : List S51} {left : List S24} {ends : List S41} {waits : List S105} {runs : List S149}
theorem Sett.safe (S : Sett view left ends waits runs) {g c n : Int} {l : List S52} (P : Placed view g c n l) (hn : n ≤ 16) (id q u : Int) :
  ∃ b, Ev (fun k => elastic_safe.f k a0 a1 a2 a3 view left ends waits runs id q u false l) b :=
 safe_ev a0 a1 a2 a3 waits runs S.B S.el S.sl S.F.lb S.F.wl (P.holdOk S.B.vo hn id q u)
theorem Sett.place (S : Sett view left ends waits runs) (g c mn mx n : Int) : pack_Place.f view g c mn mx n = some (placeP view g c mn mx n) := by
 unfold pack_Place.f; rw [if_pos S.F5.placeOk, place_P S.F5.ok]
theorem Sett.most (S : Sett view left ends waits runs) (y : S88) : elastic_Most.f a0 a1 a2 a3 view left ends waits runs y.f0 y.f1 y.f2 y.f3 y.f4.f0 y.f4.f1 y.f4.f2 y.f4.f3 = some (mostB view left y.f1 y.f4.f0 y.f4.f1 y.f4.f2 y.f4.f3) := by
 unfold elastic_Most.f; rw [if_pos S.F5.placeOk]
theorem GotJ.at_ (S : Sett view left ends waits runs) {y : S88} {n m : Int} {sl : List S52} (G : GotJ view left y n sl) (h1 : 1 ≤ m) (hm : m ≤ n) (hn : n ≤ 16) :
  GotJ view left y m (placeP view y.f4.f0 y.f4.f1 y.f4.f2 y.f4.f3 m).1 ∧ ((placeP view y.f4.f0 y.f4.f1 y.f4.f2 y.f4.f3 m).1.length : Int) = m := by
 have hb := good_out0 G.gs
 have hc := canB_le hb.1 hb.2.2.1 G.can hm
 obtain ⟨hr, _, _⟩ := canB_zero.1 hc
 have p0 : (placeP view y.f4.f0 y.f4.f1 y.f4.f2 y.f4.f3 m).2 = 0 := by
  unfold placeP
  rw [if_pos ⟨G.gs, by omega, by omega⟩, if_neg (by omega)]
 exact ⟨⟨G.gs, G.q, hc, S.F5.placed p0⟩, placeP_len p0⟩
theorem Sett.tries (S : Sett view left ends waits runs) {y : S88} {n : Int} {sl : List S52} (G : GotJ view left y n sl) (hn : n ≤ 16) (u : Int) :
  ∀ L : List Int, (∀ m ∈ L, 1 ≤ m ∧ m ≤ n) → ∃ t, Ev (fun k => fillTs k a0 a1 a2 a3 view left ends waits runs y.f0 y.f1 y.f4.f0 y.f4.f1 y.f4.f2 y.f4.f3 u L) t ∧ ∀ x ∈ t, ∃ m, m ∈ L ∧ (x.1.length : Int) = m ∧ GotJ view left y m x.1
 | [], _ => ⟨[], Ev.now _, fun _ h => by cases h⟩
 | m :: r, h => by
  have hm := h m (by simp)
  obtain ⟨Gm, lm⟩ := GotJ.at_ S G hm.1 hm.2 hn
  obtain ⟨b, hb⟩ := S.safe (a0 := a0) (a1 := a1) (a2 := a2) (a3 := a3) Gm.pl (by omega) y.f0 y.f1 u
  obtain ⟨t, ht, hx⟩ := S.tries G hn u r (fun x hx => h x (by simp [hx]))
  refine ⟨_, Ev.congr (fun k => by rw [fillTs, S.place, Option.bind_some]) (Ev.bind hb (Ev.out ht (fun t => ((placeP view y.f4.f0 y.f4.f1 y.f4.f2 y.f4.f3 m).1, b) :: t))), ?_⟩
  intro x hxx
  rcases List.mem_cons.1 hxx with rfl | hxx
  ·exact ⟨m, by simp, lm, Gm⟩
  ·obtain ⟨m', h1, h2⟩ := hx x hxx
   exact ⟨m', by simp [h1], h2⟩
end
def ElasticMore.Pure : Prop := ∀ (x0 : S86) (x1 : S88) (x2 : Int) (x3 : Int), wfd86 x0 → wfd88 x1 → I64 x2 → U8 x3 → ∃ k, ensemblelaw14_ElasticMore.f k x0.f0 x0.f1 x0.f2 x0.f3 x0.f4 x0.f5 x0.f6 x0.f7 x0.f8 x1.f0 x1.f1 x1.f2 x1.f3 x1.f4.f0 x1.f4.f1 x1.f4.f2 x1.f4.f3 x2 x3 = some true
theorem headL_zero : ∀ L : List S105, headL 0 L = (0, 0, 0, 0, 0, 0, false)
 | [] => rfl
 | x :: r => by rw [headL, if_neg (by simp), headL_zero r]
theorem safe0_ev (a0 a2 a3 : Int) (view : List S51) (left : List S24) (ends : List S41) (waits : List S105) (runs : List S149) (hl : waits.length ≤ 150) (id q u : Int) (l : List S52) :
  Ev (fun k => elastic_safe.f k a0 0 a2 a3 view left ends waits runs id q u false l) true := by
 have hr' : elastic_Head.f a0 0 a2 a3 view left ends waits runs = some (0, 0, 0, 0, 0, 0, false) := by rw [head_eq _ _ _ _ _ _ _ _ hl, headL_zero]
 refine Ev.congr (fun k => by unfold elastic_safe.f; rw [hr', Option.bind_some, if_neg (by simp)]) (Ev.step (f := fun _ => some true) (fun k => by rw [elastic_safe.j0, if_pos rfl]) (Ev.now _))
theorem downL_cons {a b : Int} (h : b ≤ a) : ∃ r, downL a b = a :: r ∧ ∀ m ∈ r, b ≤ m ∧ m ≤ a := by
 have hs := downL_sorted a b
 cases hd : downL a b with
 | nil =>
  have : a ∈ downL a b := downL_mem_iff.2 ⟨h, Int.le_refl _⟩
  rw [hd] at this; cases this
 | cons x r =>
  have hx : x ∈ downL a b := by rw [hd]; simp
  have ha : a ∈ downL a b := downL_mem_iff.2 ⟨h, Int.le_refl _⟩
  have hxa := (downL_mem_iff.1 hx).2
  rw [hd] at ha hs
  have e : x = a := by
   rcases List.mem_cons.1 ha with h1 | h1
   ·exact h1.symm
   ·have := (List.pairwise_cons.1 hs).1 a h1; omega
  subst e
  exact ⟨r, rfl, fun m hm => downL_mem_iff.1 (by rw [hd]; simp [hm])⟩
section
variable {a0 a1 a2 a3 : Int} {view : List S51} {left : List S24} {ends : List S41} {waits : List S105} {runs : List S149}
theorem Sett.fill0 (S : Sett view left ends waits runs) (y : S88) (u : Int) :
  Ev (fun k => elastic_Fill.f k a0 0 a2 a3 view left ends waits runs y.f0 y.f1 y.f2 y.f3 y.f4.f0 y.f4.f1 y.f4.f2 y.f4.f3 u) (mostB view left y.f1 y.f4.f0 y.f4.f1 y.f4.f2 y.f4.f3) := by
 have hR := most_is S.F5 left y.f1 y.f4.f0 y.f4.f1 y.f4.f2 y.f4.f3
 have hM := S.most (a0 := a0) (a1 := 0) (a2 := a2) (a3 := a3) y
 by_cases h0 : (mostB view left y.f1 y.f4.f0 y.f4.f1 y.f4.f2 y.f4.f3).2 = 0
 case neg =>
  refine Ev.congr (fun k => by unfold elastic_Fill.f; rw [hM, Option.bind_some, if_neg h0]) ?_
  have e : mostB view left y.f1 y.f4.f0 y.f4.f1 y.f4.f2 y.f4.f3 = ([], (mostB view left y.f1 y.f4.f0 y.f4.f1 y.f4.f2 y.f4.f3).2) := by
   generalize mostB view left y.f1 y.f4.f0 y.f4.f1 y.f4.f2 y.f4.f3 = r at hR h0
   cases hR with
   | shape hg => rfl
   | queue hg hq => rfl
   | not hg hq hc => rfl
   | got n hg hq hn hc hm =>
    obtain ⟨hr, h1, h2⟩ := canB_zero.1 hc
    exact absurd (got_place (view := view) hg hn hr).1 h0
  rw [← e]; exact Ev.now _
 obtain ⟨n, hn, hl, G⟩ := most_got S.F5 left y h0
 have hb := good_out1 G.gs
 obtain ⟨r, hd, hr⟩ := downL_cons (a := n) (b := y.f4.f2) hn.1
 obtain ⟨t, ht, _⟩ := S.tries (a0 := a0) (a1 := 0) (a2 := a2) (a3 := a3) G (by omega) u r (fun m hm => by have := hr m hm; omega)
 have hs := safe0_ev a0 a2 a3 view left ends waits runs S.F.wl y.f0 y.f1 u (placeP view y.f4.f0 y.f4.f1 y.f4.f2 y.f4.f3 n).1
 have hp : mostB view left y.f1 y.f4.f0 y.f4.f1 y.f4.f2 y.f4.f3 = ((placeP view y.f4.f0 y.f4.f1 y.f4.f2 y.f4.f3 n).1, 0) := by
  generalize mostB view left y.f1 y.f4.f0 y.f4.f1 y.f4.f2 y.f4.f3 = r at hR h0 hl
  cases hR with
  | shape hg => exact absurd h0 (by simp)
  | queue hg hq => exact absurd h0 (by simp)
  | not hg hq hc => exact absurd h0 hc
  | got n' hg hq hn' hc hm =>
   have := placeP_len h0
   obtain rfl : n' = n := by omega
   exact Prod.ext rfl h0
 refine Ev.congr (fun k => by unfold elastic_Fill.f; rw [hM, Option.bind_some, if_pos h0, if_pos (by omega), hl, hd, fillTs, S.place, Option.bind_some]) ?_
 rw [hp]
 refine Ev.bind (Ev.bind hs (Ev.out ht (fun t => ((placeP view y.f4.f0 y.f4.f1 y.f4.f2 y.f4.f3 n).1, true) :: t))) ?_
 exact Ev.congr (fun k => by simp [fillR]) (Ev.now _)
theorem Sett.fill2 (S : Sett view left ends waits runs) (y : S88) (u : Int) :
  ∃ r, Ev (fun k => elastic_Fill.f k a0 a1 a2 a3 view left ends waits runs y.f0 y.f1 y.f2 y.f3 y.f4.f0 y.f4.f1 y.f4.f2 y.f4.f3 u) r ∧ r.1.length ≤ (mostB view left y.f1 y.f4.f0 y.f4.f1 y.f4.f2 y.f4.f3).1.length ∧ ((mostB view left y.f1 y.f4.f0 y.f4.f1 y.f4.f2 y.f4.f3).2 ≠ 0 → r.2 = (mostB view left y.f1 y.f4.f0 y.f4.f1 y.f4.f2 y.f4.f3).2) := by
 have hM := S.most (a0 := a0) (a1 := a1) (a2 := a2) (a3 := a3) y
 by_cases h0 : (mostB view left y.f1 y.f4.f0 y.f4.f1 y.f4.f2 y.f4.f3).2 = 0
 case neg => exact ⟨([], (mostB view left y.f1 y.f4.f0 y.f4.f1 y.f4.f2 y.f4.f3).2), Ev.congr (fun k => by unfold elastic_Fill.f; rw [hM, Option.bind_some, if_neg h0]) (Ev.now _), by simp, fun _ => rfl⟩
 obtain ⟨n, hn, hl, G⟩ := most_got S.F5 left y h0
 have hb := good_out1 G.gs
 obtain ⟨t, ht, hx⟩ := S.tries (a0 := a0) (a1 := a1) (a2 := a2) (a3 := a3) G (by omega) u (downL (mostB view left y.f1 y.f4.f0 y.f4.f1 y.f4.f2 y.f4.f3).1.length y.f4.f2) (fun m hm => by have := downL_mem hm; omega)
 refine ⟨fillR t, Ev.congr (fun k => by unfold elastic_Fill.f; rw [hM, Option.bind_some, if_pos h0, if_pos (by omega)]) (Ev.out ht fillR), ?_, fun h => absurd h0 h⟩
 unfold fillR
 cases hf : t.find? (fun x => x.2) with
 | none => simp
 | some x =>
  obtain ⟨m, hm, h1, _⟩ := hx x (List.mem_of_find?_eq_some hf)
  have := downL_mem hm
  show x.1.length ≤ _
  omega
end
theorem moreU_rd {b q : Int} {l : List S24} (hb : 0 ≤ b) (hL : ∀ u ∈ l, lbU u) (hq : 0 ≤ q ∧ q < l.length) : (a7_ l q).f0 ≤ (a7_ (moreU b l) q).f0 ∧ (a7_ l q).f1 ≤ (a7_ (moreU b l) q).f1 := by
 obtain ⟨i, rfl⟩ : ∃ i : Nat, q = i := ⟨q.toNat, by omega⟩
 rw [rd24' l i (by omega), rd24' (moreU b l) i (by rw [moreU_len]; omega)]
 have := hL l[i] (List.getElem_mem _)
 unfold lbU at this
 simp only [moreU, List.getElem_map, capU]
 constructor <;> split <;> omega
theorem roomS_good {g c mn mx mn' mx' : Int} {view : List S51} (h : c7_ g c mn mx = true) (h' : c7_ g c mn' mx' = true) : roomS g c mn mx view = roomS g c mn' mx' view := by
 unfold roomS fitV
 rw [h, h']
theorem Pure.ElasticMore : ElasticMore.Pure := by
 rintro ⟨a0, a1, a2, a3, view, left, ends, waits, runs⟩ y u b w0 w1 wu wb
 simp only
 unfold wfd86 at w0
 simp only at w0
 refine Ev.rounds (g := fun k => ensemblelaw14_ElasticMore.f k a0 a1 a2 a3 view left ends waits runs y.f0 y.f1 y.f2 y.f3 y.f4.f0 y.f4.f1 y.f4.f2 y.f4.f3 u b) ?_
 refine Ev.congr (fun k => by unfold ensemblelaw14_ElasticMore.f; rfl) ?_
 rcases few14_ev a0 a1 a2 a3 view left ends waits runs w0.2.2.2.2.1.2 w0.2.2.2.2.2.2.1.2 with ⟨hk, F⟩ | hk
 case inr => exact Ev.bind hk (Ev.congr (fun k => by rw [if_pos rfl]) (Ev.now _))
 refine Ev.bind hk (Ev.congr (fun k => by rw [if_neg (by decide)]) ?_)
 by_cases hx : y.f4.f3 > 1000
 ·exact Ev.congr (fun k => by rw [if_pos hx]) (Ev.now _)
 have S := F.sett w0.2.2.2.2.1.2 w0.2.2.2.2.2.2.1.2
 obtain ⟨s, hs, hs1, hs2⟩ := S.fill2 (a0 := a0) (a1 := a1) (a2 := a2) (a3 := a3) y u
 have ht := S.fill0 (a0 := a0) (a2 := a2) (a3 := a3) y u
 have hB : boundU left = true := by
  unfold boundU
  rw [decide_eq_true F.ll, Bool.true_and, List.all_eq_true]
  intro x hx
  have := F.lb x hx
  unfold lbU at this
  simp only [Bool.and_eq_true, decide_eq_true_eq]; omega
 have hW : w64B y.f4.f3 = true := by
  unfold wfd88 wfd27 at w1
  unfold w64B
  simp only [Bool.and_eq_true, decide_eq_true_eq]
  exact w1.2.2.2.2.2.2.2
 have hU : 0 ≤ b ∧ b ≤ 255 := by unfold U8 at wb; omega
 refine Ev.congr (fun k => by rw [if_neg hx, S.most y, Option.bind_some]) ?_
 refine Ev.bind hs ?_
 refine Ev.bind ht ?_
 refine Ev.congr (fun k => by rw [if_pos ⟨hs1, rfl, rfl, fun h => by rw [hs2 h]; exact h⟩, if_pos ⟨hB, hU.1, hU.2, hW⟩]) ?_
 have hM : elastic_Most.f a0 a1 a2 a3 view (moreU b left) ends waits runs y.f0 y.f1 y.f2 y.f3 y.f4.f0 y.f4.f1 y.f4.f2 (min (y.f4.f3 + b % 3) 16) = some (mostB view (moreU b left) y.f1 y.f4.f0 y.f4.f1 y.f4.f2 (min (y.f4.f3 + b % 3) 16)) := by
  unfold elastic_Most.f; rw [if_pos S.F5.placeOk]
 refine Ev.congr (fun k => by rw [hM, Option.bind_some]) ?_
 by_cases h0 : (mostB view left y.f1 y.f4.f0 y.f4.f1 y.f4.f2 y.f4.f3).2 = 0
 case neg => exact Ev.congr (fun k => by rw [if_pos h0]) (Ev.now _)
 refine Ev.congr (fun k => ?_) (Ev.now true)
 rw [if_neg (by simpa using h0), if_pos]
 obtain ⟨n, hn, hl, G⟩ := most_got S.F5 left y h0
 have hb := good_out1 G.gs
 have hb0 := good_out G.gs
 have hmod : 0 ≤ b % 3 ∧ b % 3 < 3 := ⟨Int.emod_nonneg _ (by decide), Int.emod_lt_of_pos _ (by decide)⟩
 obtain ⟨mx', hmx⟩ : ∃ m, m = min (y.f4.f3 + b % 3) 16 := ⟨_, rfl⟩
 rw [← hmx]
 have hg' : c7_ y.f4.f0 y.f4.f1 y.f4.f2 mx' = true := by
  have := G.gs
  simp only [c7_, Bool.and_eq_true, decide_eq_true_eq, Bool.not_eq_true', Bool.and_eq_false_iff, decide_eq_false_iff_not] at this ⊢
  omega
 have hq' := moreU_rd (b := b) hU.1 F.lb G.q
 have hcan : canB view y.f4.f0 y.f4.f1 y.f4.f2 mx' n (a7_ (moreU b left) y.f1).f0 (a7_ (moreU b left) y.f1).f1 = 0 := by
  obtain ⟨c1, c2, c3⟩ := canB_zero.1 G.can
  rw [roomS_good G.gs hg'] at c1
  exact canB_zero.2 ⟨c1, by omega, by omega⟩
 have hR := most_is S.F5 (moreU b left) y.f1 y.f4.f0 y.f4.f1 y.f4.f2 mx'
 generalize mostB view (moreU b left) y.f1 y.f4.f0 y.f4.f1 y.f4.f2 mx' = r at hR
 cases hR with
 | shape h => rw [hg'] at h; cases h
 | queue _ h => exact absurd (by rw [moreU_len]; exact G.q) h
 | not _ _ h => exact absurd (canB_le hb0.1 hb0.2.2.1 hcan hn.1) h
 | got n' _ hq2 hn' hc' hm' =>
  obtain ⟨hr, _, _⟩ := canB_zero.1 hc'
  obtain ⟨p0, pl⟩ := got_place (view := view) hg' hn' hr
  refine ⟨p0, ?_⟩
  have : n ≤ n' := by
   apply Classical.byContradiction
   intro h
   exact hm' n (by omega) (by omega) hcan
  omega
end Go.Proofs.Ytckhjehibjdjdaa.P
namespace Go.Proofs.Ytckhjehibjdjdaa.row0
set_option maxRecDepth 100000
theorem and_mk {a b : Bool} (h : a = true) (k : b = true) : (a && b) = true := by rw [h, k]; rfl
def letters : List Char := List.map Char.ofNat [104, 97, 114, 110, 101, 115, 115, 32, 57, 100, 50, 54, 101, 98, 50, 54, 53, 56, 98, 49, 102, 51, 56, 49, 51, 55, 98, 54, 100, 49, 53, 55, 102, 53, 100, 49, 102, 101, 97, 49, 102, 56, 57, 57, 55, 98, 52, 55, 53, 51, 99, 98, 101, 48, 98, 98, 48, 97, 53, 54, 48, 102, 102, 54, 52, 98, 99, 52, 98, 52, 102, 52, 32, 99, 117, 116, 32, 97, 116, 32, 101, 110, 115, 101, 109, 98, 108, 101, 47, 101, 110, 115, 101, 109, 98, 108, 101, 108, 97, 119, 49, 50, 46, 80, 114, 111, 109, 105, 115, 101, 84, 101, 108, 108, 115, 32, 101, 110, 115, 101, 109, 98, 108, 101, 47, 101, 110, 115, 101, 109, 98, 108, 101, 108, 97, 119, 49, 50, 46, 80, 114, 111, 109, 105, 115, 101, 75, 101, 101, 112, 115, 32, 101, 110, 115, 101, 109, 98, 108, 101, 47, 101, 110, 115, 101, 109, 98, 108, 101, 108, 97, 119, 49, 50, 46, 80, 114, 111, 109, 105, 115, 101, 76, 101, 115, 115, 32, 101, 110, 115, 101, 109, 98, 108, 101, 47, 101, 110, 115, 101, 109, 98, 108, 101, 108, 97, 119, 49, 50, 46, 80, 114, 111, 109, 105, 115, 101, 79, 110, 108, 121, 32, 101, 110, 115, 101, 109, 98, 108, 101, 47, 101, 110, 115, 101, 109, 98, 108, 101, 108, 97, 119, 49, 50, 46, 80, 114, 111, 109, 105, 115, 101, 82, 111, 111, 109, 32, 101, 110, 115, 101, 109, 98, 108, 101, 47, 101, 110, 115, 101, 109, 98, 108, 101, 108, 97, 119, 49, 51, 46, 70, 105, 108, 108, 84, 101, 108, 108, 115, 32, 101, 110, 115, 101, 109, 98, 108, 101, 47, 101, 110, 115, 101, 109, 98, 108, 101, 108, 97, 119, 49, 51, 46, 70, 105, 108, 108, 76, 97, 116, 101, 32, 101, 110, 115, 101, 109, 98, 108, 101, 47, 101, 110, 115, 101, 109, 98, 108, 101, 108, 97, 119, 49, 51, 46, 70, 105, 108, 108, 78, 111, 110, 101, 32, 101, 110, 115, 101, 109, 98, 108, 101, 47, 101, 110, 115, 101, 109, 98, 108, 101, 108, 97, 119, 49, 51, 46, 70, 105, 108, 108, 77, 97, 110, 121, 32, 101, 110, 115, 101, 109, 98, 108, 101, 47, 101, 110, 115, 101, 109, 98, 108, 101, 108, 97, 119, 49, 51, 46, 70, 105, 108, 108, 80, 97, 115, 116, 32, 101, 110, 115, 101, 109, 98, 108, 101, 47, 101, 110, 115, 101, 109, 98, 108, 101, 108, 97, 119, 48, 53, 46, 80, 97, 99, 107, 70, 101, 119, 32, 101, 110, 115, 101, 109, 98, 108, 101, 47, 101, 110, 115, 101, 109, 98, 108, 101, 108, 97, 119, 48, 53, 46, 80, 97, 99, 107, 70, 114, 111, 110, 116, 32, 101, 110, 115, 101, 109, 98, 108, 101, 47, 101, 110, 115, 101, 109, 98, 108, 101, 108, 97, 119, 48, 53, 46, 80, 97, 99, 107, 84, 101, 108, 108, 115, 32, 101, 110, 115, 101, 109, 98, 108, 101, 47, 101, 110, 115, 101, 109, 98, 108, 101, 108, 97, 119, 48, 53, 46, 80, 97, 99, 107, 82, 111, 111, 109, 115, 32, 101, 110, 115, 101, 109, 98, 108, 101, 47, 101, 110, 115, 101, 109, 98, 108, 101, 108, 97, 119, 48, 53, 46, 80, 97, 99, 107, 76, 101, 102, 116, 32, 101, 110, 115, 101, 109, 98, 108, 101, 47, 101, 110, 115, 101, 109, 98, 108, 101, 108, 97, 119, 48, 53, 46, 80, 97, 99, 107, 77, 111, 114, 101, 32, 101, 110, 115, 101, 109, 98, 108, 101, 47, 101, 110, 115, 101, 109, 98, 108, 101, 108, 97, 119, 48, 53, 46, 80, 97, 99, 107, 87, 104, 111, 108, 101, 32, 101, 110, 115, 101, 109, 98, 108, 101, 47, 101, 110, 115, 101, 109, 98, 108, 101, 108, 97, 119, 49, 52, 46, 69, 108, 97, 115, 116, 105, 99, 77, 111, 115, 116, 32, 101, 110, 115, 101, 109, 98, 108, 101, 47, 101, 110, 115, 101, 109, 98, 108, 101, 108, 97, 119, 49, 52, 46, 69, 108, 97, 115, 116, 105, 99, 77, 111, 114, 101, 32, 101, 110, 115, 101, 109, 98, 108, 101, 47, 101, 110, 115, 101, 109, 98, 108, 101, 108, 97, 119, 49, 52, 46, 69, 108, 97, 115, 116, 105, 99, 83, 97, 102, 101, 32, 101, 110, 115, 101, 109, 98, 108, 101, 47, 101, 110, 115, 101, 109, 98, 108, 101, 108, 97, 119, 49, 53, 46, 87, 111, 114, 107, 101, 114, 77, 97, 121, 32, 101, 110, 115, 101, 109, 98, 108, 101, 47, 101, 110, 115, 101, 109, 98, 108, 101, 108, 97, 119, 49, 53, 46, 87, 111, 114, 107, 101, 114, 82, 101, 115, 116, 115]
theorem lit : Try.checked.prog.initOrder = String.ofList letters := by kernel_rfl
theorem lits : Try.checked.prog.initOrder.toList = letters := by rw [lit]; exact String.toList_ofList
def words : List (List Char) := List.map (List.map Char.ofNat) [[99, 117, 116], [97, 116], [101, 110, 115, 101, 109, 98, 108, 101, 47, 101, 110, 115, 101, 109, 98, 108, 101, 108, 97, 119, 49, 50, 46, 80, 114, 111, 109, 105, 115, 101, 84, 101, 108, 108, 115], [101, 110, 115, 101, 109, 98, 108, 101, 47, 101, 110, 115, 101, 109, 98, 108, 101, 108, 97, 119, 49, 50, 46, 80, 114, 111, 109, 105, 115, 101, 75, 101, 101, 112, 115], [101, 110, 115, 101, 109, 98, 108, 101, 47, 101, 110, 115, 101, 109, 98, 108, 101, 108, 97, 119, 49, 50, 46, 80, 114, 111, 109, 105, 115, 101, 76, 101, 115, 115], [101, 110, 115, 101, 109, 98, 108, 101, 47, 101, 110, 115, 101, 109, 98, 108, 101, 108, 97, 119, 49, 50, 46, 80, 114, 111, 109, 105, 115, 101, 79, 110, 108, 121], [101, 110, 115, 101, 109, 98, 108, 101, 47, 101, 110, 115, 101, 109, 98, 108, 101, 108, 97, 119, 49, 50, 46, 80, 114, 111, 109, 105, 115, 101, 82, 111, 111, 109], [101, 110, 115, 101, 109, 98, 108, 101, 47, 101, 110, 115, 101, 109, 98, 108, 101, 108, 97, 119, 49, 51, 46, 70, 105, 108, 108, 84, 101, 108, 108, 115], [101, 110, 115, 101, 109, 98, 108, 101, 47, 101, 110, 115, 101, 109, 98, 108, 101, 108, 97, 119, 49, 51, 46, 70, 105, 108, 108, 76, 97, 116, 101], [101, 110, 115, 101, 109, 98, 108, 101, 47, 101, 110, 115, 101, 109, 98, 108, 101, 108, 97, 119, 49, 51, 46, 70, 105, 108, 108, 78, 111, 110, 101], [101, 110, 115, 101, 109, 98, 108, 101, 47, 101, 110, 115, 101, 109, 98, 108, 101, 108, 97, 119, 49, 51, 46, 70, 105, 108, 108, 77, 97, 110, 121], [101, 110, 115, 101, 109, 98, 108, 101, 47, 101, 110, 115, 101, 109, 98, 108, 101, 108, 97, 119, 49, 51, 46, 70, 105, 108, 108, 80, 97, 115, 116], [101, 110, 115, 101, 109, 98, 108, 101, 47, 101, 110, 115, 101, 109, 98, 108, 101, 108, 97, 119, 48, 53, 46, 80, 97, 99, 107, 70, 101, 119], [101, 110, 115, 101, 109, 98, 108, 101, 47, 101, 110, 115, 101, 109, 98, 108, 101, 108, 97, 119, 48, 53, 46, 80, 97, 99, 107, 70, 114, 111, 110, 116], [101, 110, 115, 101, 109, 98, 108, 101, 47, 101, 110, 115, 101, 109, 98, 108, 101, 108, 97, 119, 48, 53, 46, 80, 97, 99, 107, 84, 101, 108, 108, 115], [101, 110, 115, 101, 109, 98, 108, 101, 47, 101, 110, 115, 101, 109, 98, 108, 101, 108, 97, 119, 48, 53, 46, 80, 97, 99, 107, 82, 111, 111, 109, 115], [101, 110, 115, 101, 109, 98, 108, 101, 47, 101, 110, 115, 101, 109, 98, 108, 101, 108, 97, 119, 48, 53, 46, 80, 97, 99, 107, 76, 101, 102, 116], [101, 110, 115, 101, 109, 98, 108, 101, 47, 101, 110, 115, 101, 109, 98, 108, 101, 108, 97, 119, 48, 53, 46, 80, 97, 99, 107, 77, 111, 114, 101], [101, 110, 115, 101, 109, 98, 108, 101, 47, 101, 110, 115, 101, 109, 98, 108, 101, 108, 97, 119, 48, 53, 46, 80, 97, 99, 107, 87, 104, 111, 108, 101], [101, 110, 115, 101, 109, 98, 108, 101, 47, 101, 110, 115, 101, 109, 98, 108, 101, 108, 97, 119, 49, 52, 46, 69, 108, 97, 115, 116, 105, 99, 77, 111, 115, 116], [101, 110, 115, 101, 109, 98, 108, 101, 47, 101, 110, 115, 101, 109, 98, 108, 101, 108, 97, 119, 49, 52, 46, 69, 108, 97, 115, 116, 105, 99, 77, 111, 114, 101], [101, 110, 115, 101, 109, 98, 108, 101, 47, 101, 110, 115, 101, 109, 98, 108, 101, 108, 97, 119, 49, 52, 46, 69, 108, 97, 115, 116, 105, 99, 83, 97, 102, 101], [101, 110, 115, 101, 109, 98, 108, 101, 47, 101, 110, 115, 101, 109, 98, 108, 101, 108, 97, 119, 49, 53, 46, 87, 111, 114, 107, 101, 114, 77, 97, 121], [101, 110, 115, 101, 109, 98, 108, 101, 47, 101, 110, 115, 101, 109, 98, 108, 101, 108, 97, 119, 49, 53, 46, 87, 111, 114, 107, 101, 114, 82, 101, 115, 116, 115]]
theorem wordsEq : behindMainWord (wordsSigns letters) = words := by kernel_rfl
theorem behind : behindMainWord (wordsSigns Try.checked.prog.initOrder.toList) = words := by rw [lits]; exact wordsEq
theorem headLifts_of {P : Program} {ws : List (List Char)} (h : behindMainWord (wordsSigns P.initOrder.toList) = ws) (h2 : ((stripLifts liftWords ws).2.head? == some "cut".toList) = true) (h3 : (stripLifts liftWords ws).1 = []) : P.headLifts = [] := by
 unfold Program.headLifts
 rw [h]
 simp only [h2, h3, if_true]
theorem headLifts : Try.checked.prog.headLifts = [] := headLifts_of behind (by kernel_rfl) (by kernel_rfl)
theorem liftsFinal_of {P : Program} {ws : List (List Char)} (h : behindMainWord (wordsSigns P.initOrder.toList) = ws) (hl : P.headLifts = []) (h1 : (ws.head? == some "carried".toList) = false) : P.liftsFinal = false := by
 unfold Program.liftsFinal
 rw [h, hl]
 simp only [h1, Bool.false_and, List.contains_nil, Bool.or_false]
theorem liftsFinal : Try.checked.prog.liftsFinal = false := liftsFinal_of behind headLifts (by kernel_rfl)
theorem make_of {P : Program} {c : List Char} {rest : List (List Char)} (h : behindMainWord (wordsSigns P.initOrder.toList) = c :: rest) (h1 : (c == "gc".toList || c == "spec".toList) = false) (h2 : (c == "cut".toList) = true) : P.make = some .cut := by
 unfold Program.make
 rw [h]
 simp only [h1, h2, Bool.true_or, if_true, Bool.false_eq_true, if_false]
theorem make : Try.checked.prog.make = some .cut := make_of (behind.trans (show words = _ :: _ from rfl)) (by kernel_rfl) (by kernel_rfl)
theorem mayEnter_of {P : Program} {c : List Char} {rest : List (List Char)} (h : behindMainWord (wordsSigns P.initOrder.toList) = c :: rest) (h2 : ((stripLifts liftWords (c :: rest)).2.head? == some "cut".toList) = true) (h3 : (stripLifts liftWords (c :: rest)).1 = []) (h4 : P.laysLater = false) (h5 : P.bearsReflect = false) (h6 : P.doorFits [] = true) : P.mayEnter = true := by
 unfold Program.mayEnter
 rw [h]
 simp only [h2, h3, h4, h5, h6, List.contains_nil, Bool.not_false, Bool.false_or, Bool.or_true, Bool.true_or, Bool.and_true, Bool.true_and]
theorem h4 : Try.checked.prog.laysLater = false := by kernel_rfl
theorem h5 : Try.checked.prog.bearsReflect = false := by kernel_rfl
theorem h6 : Try.checked.prog.doorFits [] = true := by kernel_rfl
theorem mayEnter : Try.checked.prog.mayEnter = true := mayEnter_of (behind.trans (show words = _ :: _ from rfl)) (by kernel_rfl) (by kernel_rfl) h4 h5 h6
end Go.Proofs.Ytckhjehibjdjdaa.row0
namespace Go.Proofs.Ytckhjehibjdjdaa.elasticMore
open Go.ChangeShapes Go.WideShapes Go.ChangeAt Go.RowKit Go.Proofs.Ytckhjehibjdjdaa.P Go.Proofs.Ytckhjehibjdjdaa.Ob Go.Proofs.YtckhjehibjdjdaaW.PrintWords
open Go.ChangeMaps (open_string shut_string)
theorem own : ownKnob Try.prog.godebug = none := by kernel_rfl
theorem laidOut : laidOutB Try.prog = true := by kernel_rfl
set_option maxRecDepth 100000 in
theorem lifted (os : Os) (started : os.Started) (H : Type) (enc : TypeId × Value → H) :
  ReturnsInHanded {} Try.checked os 21 .any (Rows.elasticMoreSpec.pre6 enc Try.prog Try.f21 Rows.elasticMoreRow.domain false) (Rows.elasticMoreSpec.post enc Try.prog Try.f21 false true false false) := by
 refine returnsInHanded_of_change_sized (C := Try.checked) own started (by kernel_rfl) Try.func21
  (ChangeSpec.witness6 (enc := enc) (C := Try.checked) false ⟨#[], #[.agg #[.int .i64 0, .int .i64 0, .int .i64 0, .int .i64 0, .slice none 0 0, .slice none 0 0, .slice none 0 0, .slice none 0 0, .slice none 0 0], .agg #[.int .i64 0, .int .i64 0, .int .i64 0, .int .i64 0, .int .i64 0, .int .i64 0, .int .i64 0, .int .i64 0], .int .i64 0, .int .u8 0], []⟩ 8 (by kernel_rfl) (by kernel_rfl) (by kernel_rfl) (by kernel_rfl)) ?_
 intro W base args ds gs before hval0 hW hcnd hsz0 _
 have hval : ∀ (j : Nat) t v, Try.f21.params[j]? = some t → args[j]? = some v → Value.okWide Try.prog W .any base t v := hval0
 have hW' := hW
 obtain ⟨p, q, hA0, hV, rfl, hfz, hnd⟩ := hW
 have hA : DataW.TrodAll enc Try.prog W 0 (fun _ => true) true Try.f21.params.toList args.toList ds p := hA0
 rw [Try.params21] at hA hval
 obtain ⟨v0, vs0, d0, ds0, p0, q0, hargs, rfl, rfl, h0, r0⟩ := trodAll_cons hA
 obtain ⟨v1, vs1, d1, ds1, p1, q1, rfl, rfl, rfl, h1, r1⟩ := trodAll_cons r0
 obtain ⟨v2, vs2, d2, ds2, p2, q2, rfl, rfl, rfl, h2, r2⟩ := trodAll_cons r1
 obtain ⟨v3, vs3, d3, ds3, p3, q3, rfl, rfl, rfl, h3, r3⟩ := trodAll_cons r2
 obtain ⟨rfl, rfl, rfl⟩ := trodAll_nil r3
 obtain rfl : args = #[v0, v1, v2, v3] := by cases args; simp_all
 obtain ⟨rfl, rfl⟩ := trodVars_none hV
 have k0 := h0
 have lt0 : ∀ x ∈ p0, x.block < W.heap.size := by obtain ⟨m, hm⟩ := k0; exact DataW.trod_lt m _ _ _ hm
 obtain ⟨cs0, rfl, _⟩ := okWide_struct Try.underlying86 (hval 0 86 v0 rfl rfl)
 obtain ⟨x0, K0, w0⟩ := Opens.open o86 h0
 obtain ⟨A0_4, c0_4, A0_5, c0_5, A0_6, c0_6, A0_7, c0_7, A0_8, c0_8, e0, l0_4, g0_4, l0_5, g0_5, l0_6, g0_6, l0_7, g0_7, l0_8, g0_8⟩ := k86_open K0
 obtain rfl : cs0 = #[.int .i64 x0.f0, .int .i64 x0.f1, .int .i64 x0.f2, .int .i64 x0.f3, .slice A0_4 x0.f4.length c0_4, .slice A0_5 x0.f5.length c0_5, .slice A0_6 x0.f6.length c0_6, .slice A0_7 x0.f7.length c0_7, .slice A0_8 x0.f8.length c0_8] := by apply Array.toList_inj.1; exact e0
 have k1 := h1
 have lt1 : ∀ x ∈ p1, x.block < W.heap.size := by obtain ⟨m, hm⟩ := k1; exact DataW.trod_lt m _ _ _ hm
 obtain ⟨cs1, rfl, _⟩ := okWide_struct Try.underlying88 (hval 1 88 v1 rfl rfl)
 obtain ⟨x1, K1, w1⟩ := Opens.open o88 h1
 have e1 := k88_open K1
 obtain rfl : cs1 = #[.int .i64 x1.f0, .int .i64 x1.f1, .int .i64 x1.f2, .int .i64 x1.f3, .int .i64 x1.f4.f0, .int .i64 x1.f4.f1, .int .i64 x1.f4.f2, .int .i64 x1.f4.f3] := by apply Array.toList_inj.1; exact e1
 have k2 := h2
 have lt2 : ∀ x ∈ p2, x.block < W.heap.size := by obtain ⟨m, hm⟩ := k2; exact DataW.trod_lt m _ _ _ hm
 obtain ⟨x2, rfl⟩ := okWide_int Try.underlying3 (hval 2 3 v2 rfl rfl)
 obtain ⟨y2, e2, w2⟩ := Opens.open (o_i64 Try.underlying3) h2
 have e2' : x2 = y2 := by have := e2; simp [Value.cells, Kd.int, Kd.scalar] at this; exact this
 rw [← e2'] at w2
 have k3 := h3
 have lt3 : ∀ x ∈ p3, x.block < W.heap.size := by obtain ⟨m, hm⟩ := k3; exact DataW.trod_lt m _ _ _ hm
 obtain ⟨x3, rfl⟩ := okWide_int Try.underlying5 (hval 3 5 v3 rfl rfl)
 obtain ⟨y3, e3, w3⟩ := Opens.open (o_u8 Try.underlying5) h3
 have e3' : x3 = y3 := by have := e3; simp [Value.cells, Kd.int, Kd.scalar] at this; exact this
 rw [← e3'] at w3
 clear hA0 hval0 hsz0
 obtain ⟨k, hk⟩ := Pure.ElasticMore x0 x1 x2 x3 w0 w1 w2 w3
 refine (ensemblelaw14_ElasticMore.calls k (x0.f0) (x0.f1) (x0.f2) (x0.f3) _ _ (x0.f4) _ _ (x0.f5) _ _ (x0.f6) _ _ (x0.f7) _ _ (x0.f8) (x1.f0) (x1.f1) (x1.f2) (x1.f3) (x1.f4.f0) (x1.f4.f1) (x1.f4.f2) (x1.f4.f3) x2 x3 true W g0_4 l0_4 g0_5 l0_5 g0_6 l0_6 g0_7 l0_7 g0_8 l0_8 hk).mono fun e W' ⟨he, bel⟩ => ?_
 subst he
 exact ⟨_, rfl, _, _, _, [], _, [], hW', trodAll_mk1 (shut_bool Try.underlying4 _), (trodAll_cons_mk (Below.trod laidOut (by kernel_rfl) (of_decide_eq_true (by kernel_rfl)) k0 bel lt0) (trodAll_cons_mk (Below.trod laidOut (by kernel_rfl) (of_decide_eq_true (by kernel_rfl)) k1 bel lt1) (trodAll_cons_mk (Below.trod laidOut (by kernel_rfl) (of_decide_eq_true (by kernel_rfl)) k2 bel lt2) (trodAll_cons_mk (Below.trod laidOut (by kernel_rfl) (of_decide_eq_true (by kernel_rfl)) k3 bel lt3) trodAll_mk0)))), rfl, bel.frame _, fun h => by cases h⟩
set_option maxHeartbeats 8000000 in
theorem closedFacts : joinedFacts Try.checked.prog 21 Try.f21 Rows.elasticMoreSpec Rows.elasticMoreRow = true := by
 unfold joinedFacts
 repeat' (with_reducible (apply row0.and_mk))
 all_goals first | (with_reducible exact row0.mayEnter) | (rw [row0.liftsFinal]; kernel_rfl) | (rw [row0.make]; kernel_rfl) | (as_aux_lemma => kernel_rfl)
theorem over : Rows.elasticMoreRow.holds Try.pinned (OpenSpec.ofChange Rows.elasticMoreSpec) :=
 OpenClaim.holds_of_wide 21 Try.f21 rfl rfl rfl rfl rfl rfl rfl ⟨rfl, rfl, rfl, rfl, rfl⟩ rfl rfl rfl rfl rfl (by kernel_rfl) Try.func21 closedFacts
  (of_decide_eq_true (by kernel_rfl)) (by unfold Func.isWrapper; first | (rw [if_pos (by decide +kernel)]; kernel_rfl) | (rw [if_neg (by decide +kernel)]; exact ⟨rfl, rfl⟩))
  (fun os started H enc _ => lifted os started H enc)
theorem proved : Rows.ElasticMoreSaid := over
#print axioms proved
end Go.Proofs.Ytckhjehibjdjdaa.elasticMore
namespace Go.Proofs.Ytckhjehibjdjdaa
theorem elasticMore_holds : Rows.ElasticMoreSaid := elasticMore.proved
end Go.Proofs.Ytckhjehibjdjdaa
