/- Maps from whole numbers to whole numbers that a call makes, told by a function. -/
import Derived.Maps.Own
import Derived.Maps.OwnOps
import Derived.Maps.OwnSet
import Derived.Maps.Views
import Derived.Maps.Keyed
import Derived.WalkKit
import Derived.Deep.Draws
import Derived.Deep.QuietTactic
namespace Go.Proofs.Ytllmgaimdmmahaa.Mp
open Go.RowKit Go.Maps

/-- Block b is a map of int keys and int elements, of at most n entries, that reads as f (0 where nothing is stored). -/
def MapI (P : Program) (k e : TypeId) (w : World) (b n : Nat) (f : Int → Int) : Prop :=
  ∃ D : DataW Unit, w.ownsMap P k (plainElem P e) b n D ∧ IsMap D ∧ ∀ i, D.atKey (.int .i64 i) (.lit (.int .i64 0)) = .lit (.int .i64 (f i))

def upd (f : Int → Int) (i v : Int) : Int → Int := fun j => if j = i then v else f j

variable {P : Program} {k e : TypeId} {w : World} {b n : Nat} {f : Int → Int}

theorem MapI.made (w : World) (P : Program) (k e : TypeId) : MapI P k e (w.alloc (.map #[] 0)) w.heap.size 0 (fun _ => 0) :=
  ⟨.map [], World.ownsMap_made _ _ _ _, ⟨_, rfl⟩, fun _ => rfl⟩
theorem MapI.lt (h : MapI P k e w b n f) : b < w.heap.size := by
  obtain ⟨D, ⟨es, cl, hb, _⟩, _⟩ := h
  exact (Array.getElem?_eq_some_iff.1 hb).1
theorem MapI.move {w1 : World} (h : MapI P k e w b n f) (hm : w1.heap[b]? = w.heap[b]?) : MapI P k e w1 b n f := by
  obtain ⟨D, ⟨es, cl, hb, r⟩, i⟩ := h
  exact ⟨D, ⟨es, cl, hm.trans hb, r⟩, i⟩
theorem MapI.below {w1 : World} (h : MapI P k e w b n f) (hb : Below w.heap.size w w1) : MapI P k e w1 b n f := h.move (hb.block b h.lt)
theorem MapI.grown {w1 : World} {row : Option Nat} (h : MapI P k e w b n f) (hg : w.grownBy w1 row) (hne : some b ≠ row) : MapI P k e w1 b n f := h.move (hg.block b h.lt hne)
theorem MapI.alloc (h : MapI P k e w b n f) (o : Obj) : MapI P k e (w.alloc o) b n f := h.below ((Below.refl _ _).alloc (Nat.le_refl _) o)
theorem MapI.drew (h : MapI P k e w b n f) : MapI P k e w.drew b n f := h
theorem MapI.drewN (h : MapI P k e w b n f) (m : Nat) : MapI P k e (w.drewN m) b n f := h.move rfl
theorem MapI.congr {f' : Int → Int} {n' : Nat} (h : MapI P k e w b n f) (hf : ∀ i, f i = f' i) (hn : n = n') : MapI P k e w b n' f' := by
  subst hn
  obtain ⟨D, h1, h2, h3⟩ := h
  exact ⟨D, h1, h2, fun i => by rw [h3, hf]⟩

theorem MapI.mono {n' : Nat} (h : MapI P k e w b n f) (hn : n ≤ n') : MapI P k e w b n' f := by
  obtain ⟨D, ⟨es, cl, hb, F, hs, hD⟩, i⟩ := h
  exact ⟨D, ⟨es, cl, hb, F, Nat.le_trans hs hn, hD⟩, i⟩

variable {ops : Array Oper} {rest : List Oper} {o : Oper} {a : Act} {Q : Exit → Act → World → Prop}

theorem wp_lookup_I (hg : o.guard = none) (m x : Operand) (t : TypeId) (hop : o.op = Op.lookup t m x false)
    (ht : P.underlying t = some (.map k e)) (hk : P.underlying k = some (.int .i64)) (he : P.underlying e = some (.int .i64)) (hz : (zeroValue e).run P w = .ok (.int .i64 0) w)
    (hm : a.eval m = .map (some b)) (h : MapI P k e w b n f) (i : Int) (hx : a.eval x = .int .i64 i) (hi : (Lit.int .i64 i).wf = true)
    (hK : wpList P ops Q rest (a.put o.dst (.int .i64 (f i))) w) : wpList P ops Q (o :: rest) a w := by
  obtain ⟨D, h1, h2, h3⟩ := h
  refine wpList_lookup_own_int w hg m x t hop k e .i64 (int_keyed hk) ht he hz b n D hm h1 _ _ hx (keyOf_int_mk hk hi) ?_
  intro c hat hwc
  rw [h3] at hat
  injection hat with hat
  injection hat with _ hat
  subst hat
  exact hK

theorem wp_update_I (hg : o.guard = none) (m x v : Operand) (t : TypeId) (hop : o.op = Op.mapUpdate t m x v)
    (ht : P.underlying t = some (.map k e)) (hk : P.underlying k = some (.int .i64)) (he : P.underlying e = some (.int .i64))
    (hm : a.eval m = .map (some b)) (h : MapI P k e w b n f) (hn : n < maxLen) (i c : Int) (hx : a.eval x = .int .i64 i) (hv : a.eval v = .int .i64 c) (hi : (Lit.int .i64 i).wf = true) (hc : (Lit.int .i64 c).wf = true)
    (hK : ∀ w', MapI P k e w' b (n + 1) (upd f i c) → w.grownBy w' (some b) → wpList P ops Q rest (a.put o.dst undef) w') : wpList P ops Q (o :: rest) a w := by
  obtain ⟨D, h1, h2, h3⟩ := h
  refine wpList_mapUpdate_own w hg m x v t hop k e (int_keyed hk) ht _ b n D hm h1 hn _ _ _ hx hv (keyOf_int_mk hk hi) _ [] (plainElem_int he hc) ?_
  intro w' ho hgr
  refine hK w' ⟨_, ho, ?_, fun j => ?_⟩ hgr
  · obtain ⟨l, rfl⟩ := h2
    exact ⟨_, rfl⟩
  · unfold upd
    by_cases hj : j = i
    · subst hj
      rw [if_pos rfl, atKey_put_same h2 (by simp [WideAt.IsKeyLit])]
    · rw [if_neg hj, atKey_put_other (by simpa using hj), h3]
end Go.Proofs.Ytllmgaimdmmahaa.Mp
