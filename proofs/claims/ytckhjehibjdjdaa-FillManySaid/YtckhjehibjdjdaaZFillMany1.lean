/- FillMany: part 1 of the walk and of the plain law that it comes to. No condition. -/
import Derived.Test.YtckhjehibjdjdaaZFillMany0
import Derived.ArgAppend
import Derived.Below
import Derived.BigQuiet
import Derived.BigRegion
import Derived.Carry
import Derived.Deep.AppendLies
import Derived.Deep.CutBlock
import Derived.Deep.DeepCutAuto
import Derived.Deep.Draws
import Derived.Deep.LoopGhost
import Derived.Deep.OwnRows
import Derived.Deep.QuietTactic
import Derived.Deep.RegionHeld3
import Derived.DeepKeys3
import Derived.KernelRfl
import Derived.Laws.Bits64
import Derived.Laws.Bits64b
import Derived.Laws.BitsLemmas
import Derived.Laws.BytesArg
import Derived.Laws.IdiomCopy
import Derived.Laws.MakeOwn
import Derived.Laws.OwnMore
import Derived.Laws.Rows
import Derived.Laws.Slices
import Derived.Lib.AppendStr
import Derived.Lib.ConvBytes
import Derived.Lib.SliceRun
import Derived.LoopIn
import Derived.LoopN
import Derived.LoopNIn
import Derived.Maps.AppendAt
import Derived.Maps.Keyed
import Derived.Maps.Own
import Derived.Maps.OwnOps
import Derived.Maps.OwnSet
import Derived.Maps.Views
import Derived.OrdersHeld
import Derived.Outline
import Derived.OwnWalk
import Derived.OwnWalkIn
import Derived.RangeFuncBound
import Derived.RangeFuncBox
import Derived.RangeFuncCalls
import Derived.RangeFuncFrom
import Derived.RangeFuncLeaves
import Derived.RowKit
import Derived.RowKit3
import Derived.Shelf.Abstract
import Derived.Shelf.RegionOpen
import Derived.StillTailTactics
import Derived.Tactics
import Derived.TacticsInMore
import Derived.WalkKit
import Derived.WideLaws
set_option linter.unusedVariables false
set_option linter.unusedSimpArgs false
namespace Go.Proofs.YtckhjehibjdjdaaW.PrintWords
theorem here_ : True := trivial
end Go.Proofs.YtckhjehibjdjdaaW.PrintWords
namespace Go.Proofs.YtckhjehibjdjdaaW.PrintLast
theorem here_ : True := trivial
end Go.Proofs.YtckhjehibjdjdaaW.PrintLast
namespace Go.Proofs.YtckhjehibjdjdaaW.PrintMore
theorem here_ : True := trivial
end Go.Proofs.YtckhjehibjdjdaaW.PrintMore
namespace Go.Proofs.Ytckhjehibjdjdaa
theorem here_ : True := trivial
end Go.Proofs.Ytckhjehibjdjdaa
namespace Go.Proofs.Ytckhjehibjdjdaa.Bits
theorem here_ : True := trivial
end Go.Proofs.Ytckhjehibjdjdaa.Bits
namespace Go.Proofs.Ytckhjehibjdjdaa.Mp
theorem here_ : True := trivial
end Go.Proofs.Ytckhjehibjdjdaa.Mp
namespace Go.Proofs.Ytckhjehibjdjdaa.Ob
theorem here_ : True := trivial
end Go.Proofs.Ytckhjehibjdjdaa.Ob
namespace Go.Proofs.Ytckhjehibjdjdaa.P
theorem here_ : True := trivial
end Go.Proofs.Ytckhjehibjdjdaa.P
namespace Go.Proofs.Ytckhjehibjdjdaa.RF
theorem here_ : True := trivial
end Go.Proofs.Ytckhjehibjdjdaa.RF
namespace Go.Proofs.Ytckhjehibjdjdaa.fillMany
theorem here_ : True := trivial
end Go.Proofs.Ytckhjehibjdjdaa.fillMany
namespace Go.Proofs.Ytckhjehibjdjdaa.row0
theorem here_ : True := trivial
end Go.Proofs.Ytckhjehibjdjdaa.row0
namespace Go.Proofs.Ytckhjehibjdjdaa
section
open Go.RowKit Go.Proofs.YtckhjehibjdjdaaW.PrintWords Go.Proofs.YtckhjehibjdjdaaW.PrintLast Go.Proofs.YtckhjehibjdjdaaW.PrintMore
def bl : Nat → Nat → List Bool
 | 0, _ => []
 | n + 1, x => (x % 2 == 1) :: bl n (x / 2)
def bm (n x : Nat) : Array Bool := ⟨bl n x⟩
theorem pu {P : Program} {md : Region.Mode} {ops : Array Oper} {Q : Exit → Act → World → Prop} {S : World → Prop} {ds : List Nat} (i : Nat) (N : Option Tmp) (l' : Array Bool) {oi : Oper} {v : Value} {fuel : Nat} {l : Array Bool} {a a' : Act} {w : World} (h : c2_ P md ops Q S ds fuel l' a' w)
 (hi : ops[i]? = some oi := by exact rfl) (hN : oi.dst = N := by exact rfl) (hc : anyB md ops l l' i = true := by exact any_of HT_.out (by kernel_rfl)) (hQ : ∀ c a w, Q (.panic c) (a.put oi.dst v) w → Q (.panic c) a w := by exact fun _ _ _ h => h)
 (hy : Yields P ops oi v a := by exact Or.inl ⟨by rfl, by intro w'; go_simp; with_reducible rfl⟩) (ha : a.put N v = a' := by simp only [Act.put, List.setIfInBounds_toArray, List.set_cons_zero, List.set_cons_succ, i64_w, i32_w]; rfl) : c2_ P md ops Q S ds (fuel + 1) l a w := pure_ l' hi hN hc hQ hy ha h
theorem bx {P : Program} {ops : Array Oper} {Q : Exit → Act → World → Prop} {a : Act} {o : Oper} {rest : List Oper} {W : World} (N : Tmp) (cs : Array Value) (t : TypeId)
 (h : ∀ g, g = W.heap.size → ∀ w1, w1.heap[g]? = some (.cells cs t (0, 0)) → Below W.heap.size W w1 → wpList P ops Q rest (a.put o.dst (.pointer (some ⟨g, 0, none⟩))) w1)
 (hg : o.guard = none := by exact rfl) (hd : o.dst = some N := by exact rfl) (hr : (execOp a.eval o).run P W = .ok (.value (.pointer (some ⟨W.heap.size, 0, none⟩))) (W.alloc (.cells cs t (0, 0))) := by first | (go_simp; done) | (go_simp; rfl)) : wpList P ops Q (o :: rest) a W := box_event hg hd hr h
theorem tk {P : Program} {md : Region.Mode} {ops : Array Oper} {Q : Exit → Act → World → Prop} {S : World → Prop} {ds : List Nat} (i : Nat) (N : Option Tmp) (l' : Array Bool) {oi : Oper} {v : Value} {fuel : Nat} {l : Array Bool} {a a' : Act} {w : World} (h : c2_ P md ops Q S ds fuel l' a' w)
 (hi : ops[i]? = some oi := by exact rfl) (hN : oi.dst = N := by exact rfl) (hc : takeB md ops ds l l' i = true := by exact take_ofW HT_.out HW_.out (by kernel_rfl)) (hQ : ∀ c a w, Q (.panic c) (a.put oi.dst v) w → Q (.panic c) a w := by exact fun _ _ _ h => h)
 (hy : YieldsIf P ops S oi v a := by exact Or.inl ⟨by rfl, by intro w' h_; repeat (obtain ⟨_, h_⟩ := h_); go_simp; with_reducible rfl⟩) (hS : S w := by exact hHeld) (ha : a.put N v = a' := by simp only [Act.put, List.setIfInBounds_toArray, List.set_cons_zero, List.set_cons_succ, i64_w, i32_w]; rfl) : c2_ P md ops Q S ds (fuel + 1) l a w := take_ l' hi hN hc hQ hy hS ha h
end
section
open Go.RowKit Go.Proofs.YtckhjehibjdjdaaW.PrintWords Go.Proofs.YtckhjehibjdjdaaW.PrintLast Go.Proofs.YtckhjehibjdjdaaW.PrintMore
theorem hb_ {w W : World} (h : Below w.heap.size w W := by repeat (first | (with_reducible first | exact HB.out | apply b2_ | apply c7_ | apply b5_ | refine b3_ ?_ (A_.out (by with_reducible assumption))) | exact HB.out)) : Below w.heap.size w W := h
theorem bk_ {W W' w' : World} {g : Nat} {o : Obj} (h : A_ (W.heap[g]? = some o)) (hb : Below W'.heap.size W' w') (e : W'.heap[g]? = some o := by (with_reducible repeat (first | refine c5_ ?_ _ | refine c4_ ?_ | refine b6_ ?_ _)); exact A_.out (by with_reducible assumption)) : A_ (w'.heap[g]? = some o) := ⟨a1_ e hb⟩
theorem bo_ {W W' : World} {g : Nat} {o : Obj} (h : A_ (W.heap[g]? = some o)) (e : W'.heap[g]? = some o := by (with_reducible repeat (first | refine c5_ ?_ _ | refine c4_ ?_ | refine b6_ ?_ _)); exact A_.out (by with_reducible assumption)) : W'.heap[g]? = some o := e
theorem hs_ {w W w2 : World} (k : Below W.heap.size W w2) (h : Below w.heap.size w W := by repeat (first | (with_reducible first | exact HB.out | apply b2_ | apply c7_ | apply b5_ | refine b3_ ?_ (A_.out (by with_reducible assumption))) | exact HB.out)) : A_ (Below w.heap.size w w2) := ⟨a7_ h k⟩
theorem ge_ {w W : World} {g : Nat} (hg : g = W.heap.size) (h : Below w.heap.size w W := by repeat (first | (with_reducible first | exact HB.out | apply b2_ | apply c7_ | apply b5_ | refine b3_ ?_ (A_.out (by with_reducible assumption))) | exact HB.out)) : A_ (w.heap.size ≤ g) := ⟨hg ▸ b4_ h⟩
theorem nl_ {W W' : World} {g g' : Nat} {o : Obj} (h : A_ (W.heap[g]? = some o)) (hg : g' = W'.heap.size) (e : W'.heap[g]? = some o := by (with_reducible repeat (first | refine c5_ ?_ _ | refine c4_ ?_ | refine b6_ ?_ _)); exact A_.out (by with_reducible assumption)) : A_ (g ≠ g') := ⟨by rw [hg]; exact Nat.ne_of_lt (b7_ e)⟩
theorem nr_ {W W' : World} {g g' : Nat} {o : Obj} (h : A_ (W.heap[g]? = some o)) (hg : g' = W'.heap.size) (e : W'.heap[g]? = some o := by (with_reducible repeat (first | refine c5_ ?_ _ | refine c4_ ?_ | refine b6_ ?_ _)); exact A_.out (by with_reducible assumption)) : A_ (g' ≠ g) := ⟨by rw [hg]; exact Nat.ne_of_gt (b7_ e)⟩
theorem cs_ {α : Type} {K : Kd α} {w W : World} {A : Option Addr} {n : Nat} {l : List α} (h : A_ (Kd.C K w A n l)) (e : Kd.C K W A n l := by repeat (first | exact Kd.C_below (A_.out (by with_reducible assumption)) HB.out | (with_reducible refine Kd.C_alloc ?_ _) | (with_reducible refine Kd.C_drewN ?_ _) | (with_reducible refine Kd.C_drew ?_))) : Kd.C K W A n l := e
theorem bs_ {p : Prop} (e : p := by (repeat (with_reducible first | refine c5_ ?_ _ | refine c4_ ?_ | refine b6_ ?_ _ | apply c1_ | apply b8_)); exact A_.out (by assumption); all_goals first | rfl | exact A_.out (by assumption)) : p := e
theorem bt_ {q p : Prop} (h : A_ q) (e : q → p := by intro h_; (repeat (with_reducible first | refine c5_ ?_ _ | refine c4_ ?_ | refine b6_ ?_ _ | apply c1_ | apply b8_)); exact h_; all_goals first | rfl | exact A_.out (by assumption)) : p := e h.out
theorem kcl_ {w : World} {g i : Nat} {t : TypeId} {cs : Array Value} {v : Value} (h : A_ (w.heap[g]? = some (.cells cs t (0, 0)))) (e : cs[i]? = some v) : w.cell? ⟨g, i, none⟩ = some v := (a0_ h.out i).trans e
theorem kcd_ {w : World} {g i n : Nat} {t : TypeId} {cs : Array Value} {v : Value} (h : A_ (w.heap[g]? = some (.cells cs t (0, 0)))) (e : cs[i]? = some v) : (w.drewN n).cell? ⟨g, i, none⟩ = some v := (a0_ h.out i).trans e
theorem cx_ {w W : World} {a : Addr} {v : Value} (h : w.cell? a = some v) (hb : Below w.heap.size w W := by exact HB.out) : W.cell? a = some v := (hb.cell (World.block_lt_of_cell? w _ h)).trans h
theorem pv {P : Program} {md : Region.Mode} {ops : Array Oper} {Q : Exit → Act → World → Prop} {S : World → Prop} {ds : List Nat} (i : Nat) (N : Option Tmp) (l' : Array Bool) {oi : Oper} {fuel : Nat} {l : Array Bool} {a a' : Act} {w : World} (h : c2_ P md ops Q S ds fuel l' a' w)
 (hi : ops[i]? = some oi := by exact rfl) (hN : oi.dst = N := by exact rfl) (hc : anyB md ops l l' i = true := by exact any_of HT_.out (by kernel_rfl)) (hQ : ∀ c a w, Q (.panic c) (a.put oi.dst undef) w → Q (.panic c) a w := by exact fun _ _ _ h => h)
 (hy : Yields P ops oi undef a := by exact Or.inr ⟨by rfl, rfl⟩) (ha : a.put N undef = a' := by simp only [Act.put, List.setIfInBounds_toArray, List.set_cons_zero, List.set_cons_succ, i64_w, i32_w]; rfl) : c2_ P md ops Q S ds (fuel + 1) l a w := pure_ l' hi hN hc hQ hy ha h
theorem cz2_ {W : World} {g : Nat} {t : TypeId} {a b : Value} (h : A_ (W.heap[g]? = some (.cells #[a, b] t (0, 0)))) : W.cell? ⟨g, 0, none⟩ = some a ∧ W.cell? ⟨g, 1, none⟩ = some b := ⟨a0_ h.out 0, a0_ h.out 1⟩
theorem bz2_ {W : World} {g : Nat} {t : TypeId} {a b : Value} (h : A_ (W.heap[g]? = some (.cells #[a, b] t (0, 0)))) : W.cell? ⟨g, 0, none⟩ = some a ∧ W.cell? ⟨g, 1, none⟩ = some b ∧ W.frozen? ⟨g, 0, none⟩ = false ∧ W.frozen? ⟨g, 1, none⟩ = false := ⟨a0_ h.out 0, a0_ h.out 1, a2_ h.out 0, a2_ h.out 1⟩
theorem cz3_ {W : World} {g : Nat} {t : TypeId} {a b c : Value} (h : A_ (W.heap[g]? = some (.cells #[a, b, c] t (0, 0)))) : W.cell? ⟨g, 0, none⟩ = some a ∧ W.cell? ⟨g, 1, none⟩ = some b ∧ W.cell? ⟨g, 2, none⟩ = some c := ⟨a0_ h.out 0, a0_ h.out 1, a0_ h.out 2⟩
theorem bz4_ {W : World} {g : Nat} {t : TypeId} {a b c d : Value} (h : A_ (W.heap[g]? = some (.cells #[a, b, c, d] t (0, 0)))) : W.cell? ⟨g, 0, none⟩ = some a ∧ W.cell? ⟨g, 1, none⟩ = some b ∧ W.cell? ⟨g, 2, none⟩ = some c ∧ W.cell? ⟨g, 3, none⟩ = some d ∧ W.frozen? ⟨g, 0, none⟩ = false ∧ W.frozen? ⟨g, 1, none⟩ = false ∧ W.frozen? ⟨g, 2, none⟩ = false ∧ W.frozen? ⟨g, 3, none⟩ = false := ⟨a0_ h.out 0, a0_ h.out 1, a0_ h.out 2, a0_ h.out 3, a2_ h.out 0, a2_ h.out 1, a2_ h.out 2, a2_ h.out 3⟩
theorem bz5_ {W : World} {g : Nat} {t : TypeId} {a b c d e : Value} (h : A_ (W.heap[g]? = some (.cells #[a, b, c, d, e] t (0, 0)))) : W.cell? ⟨g, 0, none⟩ = some a ∧ W.cell? ⟨g, 1, none⟩ = some b ∧ W.cell? ⟨g, 2, none⟩ = some c ∧ W.cell? ⟨g, 3, none⟩ = some d ∧ W.cell? ⟨g, 4, none⟩ = some e ∧ W.frozen? ⟨g, 0, none⟩ = false ∧ W.frozen? ⟨g, 1, none⟩ = false ∧ W.frozen? ⟨g, 2, none⟩ = false ∧ W.frozen? ⟨g, 3, none⟩ = false ∧ W.frozen? ⟨g, 4, none⟩ = false := ⟨a0_ h.out 0, a0_ h.out 1, a0_ h.out 2, a0_ h.out 3, a0_ h.out 4, a2_ h.out 0, a2_ h.out 1, a2_ h.out 2, a2_ h.out 3, a2_ h.out 4⟩
theorem cz6_ {W : World} {g : Nat} {t : TypeId} {a b c d e f : Value} (h : A_ (W.heap[g]? = some (.cells #[a, b, c, d, e, f] t (0, 0)))) : W.cell? ⟨g, 0, none⟩ = some a ∧ W.cell? ⟨g, 1, none⟩ = some b ∧ W.cell? ⟨g, 2, none⟩ = some c ∧ W.cell? ⟨g, 3, none⟩ = some d ∧ W.cell? ⟨g, 4, none⟩ = some e ∧ W.cell? ⟨g, 5, none⟩ = some f := ⟨a0_ h.out 0, a0_ h.out 1, a0_ h.out 2, a0_ h.out 3, a0_ h.out 4, a0_ h.out 5⟩
theorem bz6_ {W : World} {g : Nat} {t : TypeId} {a b c d e f : Value} (h : A_ (W.heap[g]? = some (.cells #[a, b, c, d, e, f] t (0, 0)))) : W.cell? ⟨g, 0, none⟩ = some a ∧ W.cell? ⟨g, 1, none⟩ = some b ∧ W.cell? ⟨g, 2, none⟩ = some c ∧ W.cell? ⟨g, 3, none⟩ = some d ∧ W.cell? ⟨g, 4, none⟩ = some e ∧ W.cell? ⟨g, 5, none⟩ = some f ∧ W.frozen? ⟨g, 0, none⟩ = false ∧ W.frozen? ⟨g, 1, none⟩ = false ∧ W.frozen? ⟨g, 2, none⟩ = false ∧ W.frozen? ⟨g, 3, none⟩ = false ∧ W.frozen? ⟨g, 4, none⟩ = false ∧ W.frozen? ⟨g, 5, none⟩ = false := ⟨a0_ h.out 0, a0_ h.out 1, a0_ h.out 2, a0_ h.out 3, a0_ h.out 4, a0_ h.out 5, a2_ h.out 0, a2_ h.out 1, a2_ h.out 2, a2_ h.out 3, a2_ h.out 4, a2_ h.out 5⟩
end


theorem Z0 {p : Prop} (h : p := by (try simp only [List.map_toArray, List.map_cons, List.map_nil]); first | done | rfl | (simp only [List.length_drop, List.length_take]; rfl)) : p := h
theorem Z1 {p : Prop} (h : p := by first | rfl | (simp; done) | (simp [*]; done)) : p := h
theorem Z2 {p : Prop} (h : p := by rw [List.length_append]; have := HLN.out; have := HL1.out; omega) : p := h
theorem Z3 {p : Prop} (h : p := by have := HL1.out; omega) : p := h
theorem Z4 {p : Prop} (h : p := by first | (with_reducible assumption) | assumption) : p := h
theorem Z5 {p : Prop} (h : p := by (with_reducible repeat (first | apply Kd.R_alloc | apply Kd.R_drewN | apply Kd.R_drew)); exact HO344.out) : p := h
theorem Z6 {p : Prop} (h : p := by (with_reducible repeat (first | apply Kd.N_alloc | apply Kd.N_drewN | apply Kd.N_drew)); exact HO337.out) : p := h
theorem Z7 {p : Prop} (h : p := by (with_reducible repeat (first | apply Kd.R_alloc | apply Kd.R_drewN | apply Kd.R_drew)); exact HO340.out) : p := h
theorem Z8 {p : Prop} (h : p := by have := HLN.out; omega) : p := h
theorem Z9 {p : Prop} (h : p := by (with_reducible repeat (first | apply Kd.R_alloc | apply Kd.R_drewN | apply Kd.R_drew)); exact HO349.out) : p := h
theorem Z10 {p : Prop} (h : p := by have := HML1.out; have := HL1.out; omega) : p := h
theorem Z11 {p : Prop} (h : p := by have := HLN.out; have := HL1.out; omega) : p := h
theorem Z12 {p : Prop} (h : p := by have := HL1.out; have := HLN.out; omega) : p := h
end Go.Proofs.Ytckhjehibjdjdaa
namespace Go.Proofs.Ytckhjehibjdjdaa.P
open Go.RowKit Go.Proofs.YtckhjehibjdjdaaW.PrintWords Go.Proofs.YtckhjehibjdjdaaW.PrintLast Go.Proofs.YtckhjehibjdjdaaW.PrintMore
attribute [local go_sem] max2_int min2_int max_two min_two max_three min_three max_four min_four
def errW : Option Int → Value
 | none => .nilIface
 | some c => .iface 0 (.int .i64 c)
theorem a9_ : errW none = .nilIface := rfl
theorem a8_ (c : Int) : errW (some c) = .iface 0 (.int .i64 c) := rfl
theorem info3 : (Try.prog.info? 3).map (fun i => (i.zero, i.size, i.bytes)) = some (some (.int .i64 0), 1, 8) := by kernel_rfl
theorem info41 : (Try.prog.info? 41).map (fun i => (i.zero, i.size, i.bytes)) = some (some (.agg #[(.int .i64 0), (.int .i64 0), (.int .i64 0), (.bool false), (.slice none 0 0)]), 5, 56) := by kernel_rfl
theorem info51 : (Try.prog.info? 51).map (fun i => (i.zero, i.size, i.bytes)) = some (some (.agg #[(.int .i64 0), (.int .i64 0), (.int .u64 0), (.int .i64 0)]), 4, 32) := by kernel_rfl
theorem info52 : (Try.prog.info? 52).map (fun i => (i.zero, i.size, i.bytes)) = some (some (.agg #[(.int .i64 0), (.int .i64 0), (.int .u64 0), (.int .i64 0)]), 4, 32) := by kernel_rfl
structure S48 where
 f0 : Int
 f1 : Int
def z48 : S48 := ⟨(0 : Int), (0 : Int)⟩
def k48 : Kd S48 := Kd.iso (Kd.pair (Kd.int .i64) (Kd.int .i64)) (fun x : S48 => (x.f0, x.f1))
theorem k48_heap : Kd.Heap k48 := Kd.heap_iso _ (Kd.heap_pair (Kd.heap_int .i64) (Kd.heap_int .i64))
theorem k48_open {w : World} {x : S48} {cs : List Value} (h : k48.K w x cs) : cs = [.int .i64 x.f0, .int .i64 x.f1] := by
 obtain ⟨_, _, rfl, rfl, rfl⟩ := h
 exact rfl
theorem k48_openM {w : World} {base : Nat} {ok : Nat → Prop} {x : S48} {cs : List Value} (h : k48.M w base ok x cs) : cs = [.int .i64 x.f0, .int .i64 x.f1] := by
 obtain ⟨_, _, rfl, rfl, rfl⟩ := h
 exact rfl
theorem k48_mkM (w : World) (base : Nat) (ok : Nat → Prop) (x : S48)  : k48.M w base ok x [.int .i64 x.f0, .int .i64 x.f1] := ⟨[.int .i64 x.f0], [.int .i64 x.f1], rfl, rfl, rfl⟩
structure S51 where
 f0 : S48
 f1 : Int
 f2 : Int
def z51 : S51 := ⟨z48, (0 : Int), (0 : Int)⟩
def k51 : Kd S51 := Kd.iso (Kd.pair k48 (Kd.pair (Kd.int .u64) (Kd.int .i64))) (fun x : S51 => (x.f0, x.f1, x.f2))
theorem k51_heap : Kd.Heap k51 := Kd.heap_iso _ (Kd.heap_pair k48_heap (Kd.heap_pair (Kd.heap_int .u64) (Kd.heap_int .i64)))
theorem k51_open {w : World} {x : S51} {cs : List Value} (h : k51.K w x cs) : cs = [.int .i64 x.f0.f0, .int .i64 x.f0.f1, .int .u64 x.f1, .int .i64 x.f2] := by
 obtain ⟨_, _, rfl, s0, ⟨_, _, rfl, rfl, rfl⟩⟩ := h
 obtain rfl := k48_open s0
 exact rfl
theorem k51_openM {w : World} {base : Nat} {ok : Nat → Prop} {x : S51} {cs : List Value} (h : k51.M w base ok x cs) : cs = [.int .i64 x.f0.f0, .int .i64 x.f0.f1, .int .u64 x.f1, .int .i64 x.f2] := by
 obtain ⟨_, _, rfl, s0, ⟨_, _, rfl, rfl, rfl⟩⟩ := h
 obtain rfl := k48_openM s0
 exact rfl
theorem k51_mkM (w : World) (base : Nat) (ok : Nat → Prop) (x : S51)  : k51.M w base ok x [.int .i64 x.f0.f0, .int .i64 x.f0.f1, .int .u64 x.f1, .int .i64 x.f2] := ⟨[.int .i64 x.f0.f0, .int .i64 x.f0.f1], [.int .u64 x.f1, .int .i64 x.f2], rfl, (k48_mkM w base ok x.f0 ), ⟨[.int .u64 x.f1], [.int .i64 x.f2], rfl, rfl, rfl⟩⟩
def a4_ (xs : List S51) (i : Int) : S51 := xs.getD i.toNat z51
theorem at_T51 {w : World} {A : Option Addr} {n : Nat} {xs : List S51} (h : Kd.C k51 w A n xs) (i : Int) (h0 : 0 ≤ i) (h1 : i < n) : ∃ ad , A = some ad ∧ w.cell? (ad.add (i.toNat * 4)) = some (.int .i64 (a4_ xs i).f0.f0) ∧ w.cell? ⟨(ad.add (i.toNat * 4)).block, (ad.add (i.toNat * 4)).off + 1, none⟩ = some (.int .i64 (a4_ xs i).f0.f1) ∧ w.cell? ⟨(ad.add (i.toNat * 4)).block, (ad.add (i.toNat * 4)).off + 2, none⟩ = some (.int .u64 (a4_ xs i).f1) ∧ w.cell? ⟨(ad.add (i.toNat * 4)).block, (ad.add (i.toNat * 4)).off + 3, none⟩ = some (.int .i64 (a4_ xs i).f2) := by
 obtain ⟨ad, c, e, _, hK, hc0⟩ := Kd.C_get h z51 i h0 h1
 have hc : ∀ j u, c[j]? = some u → w.cell? (ad.add (i.toNat * 4 + j)) = some u := hc0
 obtain rfl := k51_open hK
 exact ⟨ad, e, hc 0 _ rfl, by rw [← d0_ _ _ 1 (by omega)]; exact hc 1 _ rfl, by rw [← d0_ _ _ 2 (by omega)]; exact hc 2 _ rfl, by rw [← d0_ _ _ 3 (by omega)]; exact hc 3 _ rfl⟩
structure S24 where
 f0 : Int
 f1 : Int
def k24 : Kd S24 := Kd.iso (Kd.pair (Kd.int .i64) (Kd.int .i64)) (fun x : S24 => (x.f0, x.f1))
theorem k24_open {w : World} {x : S24} {cs : List Value} (h : k24.K w x cs) : cs = [.int .i64 x.f0, .int .i64 x.f1] := by
 obtain ⟨_, _, rfl, rfl, rfl⟩ := h
 exact rfl
structure S52 where
 f0 : S48
 f1 : Int
 f2 : Int
def z52 : S52 := ⟨z48, (0 : Int), (0 : Int)⟩
def k52 : Kd S52 := Kd.iso (Kd.pair k48 (Kd.pair (Kd.int .u64) (Kd.int .i64))) (fun x : S52 => (x.f0, x.f1, x.f2))
theorem k52_heap : Kd.Heap k52 := Kd.heap_iso _ (Kd.heap_pair k48_heap (Kd.heap_pair (Kd.heap_int .u64) (Kd.heap_int .i64)))
theorem k52_open {w : World} {x : S52} {cs : List Value} (h : k52.K w x cs) : cs = [.int .i64 x.f0.f0, .int .i64 x.f0.f1, .int .u64 x.f1, .int .i64 x.f2] := by
 obtain ⟨_, _, rfl, s0, ⟨_, _, rfl, rfl, rfl⟩⟩ := h
 obtain rfl := k48_open s0
 exact rfl
theorem k52_mkM (w : World) (base : Nat) (ok : Nat → Prop) (x : S52)  : k52.M w base ok x [.int .i64 x.f0.f0, .int .i64 x.f0.f1, .int .u64 x.f1, .int .i64 x.f2] := ⟨[.int .i64 x.f0.f0, .int .i64 x.f0.f1], [.int .u64 x.f1, .int .i64 x.f2], rfl, (k48_mkM w base ok x.f0 ), ⟨[.int .u64 x.f1], [.int .i64 x.f2], rfl, rfl, rfl⟩⟩
def a5_ (xs : List S52) (i : Int) : S52 := xs.getD i.toNat z52
theorem at_T52 {w : World} {A : Option Addr} {n : Nat} {xs : List S52} (h : Kd.C k52 w A n xs) (i : Int) (h0 : 0 ≤ i) (h1 : i < n) : ∃ ad , A = some ad ∧ w.cell? (ad.add (i.toNat * 4)) = some (.int .i64 (a5_ xs i).f0.f0) ∧ w.cell? ⟨(ad.add (i.toNat * 4)).block, (ad.add (i.toNat * 4)).off + 1, none⟩ = some (.int .i64 (a5_ xs i).f0.f1) ∧ w.cell? ⟨(ad.add (i.toNat * 4)).block, (ad.add (i.toNat * 4)).off + 2, none⟩ = some (.int .u64 (a5_ xs i).f1) ∧ w.cell? ⟨(ad.add (i.toNat * 4)).block, (ad.add (i.toNat * 4)).off + 3, none⟩ = some (.int .i64 (a5_ xs i).f2) := by
 obtain ⟨ad, c, e, _, hK, hc0⟩ := Kd.C_get h z52 i h0 h1
 have hc : ∀ j u, c[j]? = some u → w.cell? (ad.add (i.toNat * 4 + j)) = some u := hc0
 obtain rfl := k52_open hK
 exact ⟨ad, e, hc 0 _ rfl, by rw [← d0_ _ _ 1 (by omega)]; exact hc 1 _ rfl, by rw [← d0_ _ _ 2 (by omega)]; exact hc 2 _ rfl, by rw [← d0_ _ _ 3 (by omega)]; exact hc 3 _ rfl⟩
structure S41 where
 f0 : Int
 f1 : Int
 f2 : Int
 f3 : Bool
 f4 : (List S52)
def z41 : S41 := ⟨(0 : Int), (0 : Int), (0 : Int), false, ([] : List S52)⟩
def k41 : Kd S41 := Kd.iso (Kd.pair (Kd.int .i64) (Kd.pair (Kd.int .i64) (Kd.pair (Kd.int .i64) (Kd.pair Kd.bool (Kd.slice 52 k52))))) (fun x : S41 => (x.f0, x.f1, x.f2, x.f3, x.f4))
theorem k41_open {w : World} {x : S41} {cs : List Value} (h : k41.K w x cs) : ∃ A4 c4, cs = [.int .i64 x.f0, .int .i64 x.f1, .int .i64 x.f2, .bool x.f3, .slice A4 x.f4.length c4] ∧ x.f4.length ≤ c4 ∧ k52.C w A4 x.f4.length x.f4 := by
 obtain ⟨_, _, rfl, rfl, ⟨_, _, rfl, rfl, ⟨_, _, rfl, rfl, ⟨_, _, rfl, rfl, ⟨A4, c4, rfl, l4, g4⟩⟩⟩⟩⟩ := h
 exact ⟨A4, c4, rfl, l4, g4⟩
theorem k41_mk (w : World) (x : S41) {A4 : Option Addr} {c4 : Nat} (l4 : x.f4.length ≤ c4) (g4 : k52.C w A4 x.f4.length x.f4) : k41.K w x [.int .i64 x.f0, .int .i64 x.f1, .int .i64 x.f2, .bool x.f3, .slice A4 x.f4.length c4] := ⟨[.int .i64 x.f0], [.int .i64 x.f1, .int .i64 x.f2, .bool x.f3, .slice A4 x.f4.length c4], rfl, rfl, ⟨[.int .i64 x.f1], [.int .i64 x.f2, .bool x.f3, .slice A4 x.f4.length c4], rfl, rfl, ⟨[.int .i64 x.f2], [.bool x.f3, .slice A4 x.f4.length c4], rfl, rfl, ⟨[.bool x.f3], [.slice A4 x.f4.length c4], rfl, rfl, ⟨A4, c4, rfl, l4, g4⟩⟩⟩⟩⟩
theorem k41_mkF (W : World) (ok : Nat → Prop) (x : S41) {A4 : Option Addr} {c4 : Nat} (l4 : x.f4.length ≤ c4) (g4 : Kd.F k52 W ok A4 x.f4.length x.f4) : Kd.FK k41 W ok x [.int .i64 x.f0, .int .i64 x.f1, .int .i64 x.f2, .bool x.f3, .slice A4 x.f4.length c4] := fun W2 hW => k41_mk W2 x l4 (g4 W2 hW)
def a6_ (xs : List S41) (i : Int) : S41 := xs.getD i.toNat z41
theorem at_T41 {w : World} {A : Option Addr} {n : Nat} {xs : List S41} (h : Kd.C k41 w A n xs) (i : Int) (h0 : 0 ≤ i) (h1 : i < n) : ∃ ad A4 c4, A = some ad ∧ w.cell? (ad.add (i.toNat * 5)) = some (.int .i64 (a6_ xs i).f0) ∧ w.cell? ⟨(ad.add (i.toNat * 5)).block, (ad.add (i.toNat * 5)).off + 1, none⟩ = some (.int .i64 (a6_ xs i).f1) ∧ w.cell? ⟨(ad.add (i.toNat * 5)).block, (ad.add (i.toNat * 5)).off + 2, none⟩ = some (.int .i64 (a6_ xs i).f2) ∧ w.cell? ⟨(ad.add (i.toNat * 5)).block, (ad.add (i.toNat * 5)).off + 3, none⟩ = some (.bool (a6_ xs i).f3) ∧ w.cell? ⟨(ad.add (i.toNat * 5)).block, (ad.add (i.toNat * 5)).off + 4, none⟩ = some (.slice A4 (a6_ xs i).f4.length c4) ∧ (a6_ xs i).f4.length ≤ c4 ∧ k52.C w A4 (a6_ xs i).f4.length (a6_ xs i).f4 := by
 obtain ⟨ad, c, e, _, hK, hc0⟩ := Kd.C_get h z41 i h0 h1
 have hc : ∀ j u, c[j]? = some u → w.cell? (ad.add (i.toNat * 5 + j)) = some u := hc0
 obtain ⟨A4, c4, rfl, l4, g4⟩ := k41_open hK
 exact ⟨ad, A4, c4, e, hc 0 _ rfl, by rw [← d0_ _ _ 1 (by omega)]; exact hc 1 _ rfl, by rw [← d0_ _ _ 2 (by omega)]; exact hc 2 _ rfl, by rw [← d0_ _ _ 3 (by omega)]; exact hc 3 _ rfl, by rw [← d0_ _ _ 4 (by omega)]; exact hc 4 _ rfl, l4, g4⟩
structure S27 where
 f0 : Int
 f1 : Int
 f2 : Int
 f3 : Int
def k27 : Kd S27 := Kd.iso (Kd.pair (Kd.int .i64) (Kd.pair (Kd.int .i64) (Kd.pair (Kd.int .i64) (Kd.int .i64)))) (fun x : S27 => (x.f0, x.f1, x.f2, x.f3))
theorem k27_open {w : World} {x : S27} {cs : List Value} (h : k27.K w x cs) : cs = [.int .i64 x.f0, .int .i64 x.f1, .int .i64 x.f2, .int .i64 x.f3] := by
 obtain ⟨_, _, rfl, rfl, ⟨_, _, rfl, rfl, ⟨_, _, rfl, rfl, rfl⟩⟩⟩ := h
 exact rfl
structure S29 where
 f0 : Int
 f1 : Int
 f2 : S27
def k29 : Kd S29 := Kd.iso (Kd.pair (Kd.int .i64) (Kd.pair (Kd.int .i64) k27)) (fun x : S29 => (x.f0, x.f1, x.f2))
theorem k29_open {w : World} {x : S29} {cs : List Value} (h : k29.K w x cs) : cs = [.int .i64 x.f0, .int .i64 x.f1, .int .i64 x.f2.f0, .int .i64 x.f2.f1, .int .i64 x.f2.f2, .int .i64 x.f2.f3] := by
 obtain ⟨_, _, rfl, rfl, ⟨_, _, rfl, rfl, s2⟩⟩ := h
 obtain rfl := k27_open s2
 exact rfl
end Go.Proofs.Ytckhjehibjdjdaa.P
namespace Go.Proofs.Ytckhjehibjdjdaa.P
open Go.RowKit Go.Proofs.YtckhjehibjdjdaaW.PrintWords Go.Proofs.YtckhjehibjdjdaaW.PrintLast Go.Proofs.YtckhjehibjdjdaaW.PrintMore
class Bx (W : World) (g : Nat) (cs : outParam (Array Value)) (t : outParam TypeId) : Prop where
 out : W.heap[g]? = some (.cells cs t (0, 0))
class Bl (W : outParam World) (W' : World) : Prop where
 out : Below W.heap.size W W'
class Be (w : outParam World) (W : World) : Prop where
 out : Below w.heap.size w W
class Fr (W : outParam World) (g : Nat) : Prop where
 out : g = W.heap.size
class Nq (a b : Nat) : Prop where
 out : a ≠ b
class Ge (w : outParam World) (g : Nat) : Prop where
 out : w.heap.size ≤ g
section
variable {w W W' : World} {g g' i n : Nat} {cs : Array Value} {t : TypeId} {o : Obj} {v : Value}
instance bxDrew [h : Bx W g cs t] : Bx W.drew g cs t := ⟨c4_ h.out⟩
instance bxDrewN [h : Bx W g cs t] : Bx (W.drewN n) g cs t := ⟨c5_ h.out n⟩
instance bxAlloc [h : Bx W g cs t] : Bx (W.alloc o) g cs t := ⟨b6_ h.out o⟩
instance bxNew : Bx (W.alloc (.cells cs t)) W.heap.size cs t := ⟨blk_new W _⟩
instance bxSetS [h : Bx W g cs t] : Bx (W.setCell ⟨g, i, none⟩ v) g (cs.setIfInBounds i v) t := ⟨blk_set h.out i v⟩
instance bxSetF [e : Nq g g'] [h : Bx W g cs t] : Bx (W.setCell ⟨g', i, none⟩ v) g cs t := ⟨b8_ h.out (p := ⟨g', i, none⟩) e.out v⟩
instance bxBl [b : Bl W W'] [h : Bx W g cs t] : Bx W' g cs t := ⟨a1_ h.out b.out⟩
instance nq1 [f : Fr W g'] [h : Bx W g cs t] : Nq g g' := ⟨by rw [f.out]; exact Nat.ne_of_lt (b7_ h.out)⟩
instance nq2 [f : Fr W g'] [h : Bx W g cs t] : Nq g' g := ⟨by rw [f.out]; exact Nat.ne_of_gt (b7_ h.out)⟩
instance ge1 [f : Fr W g] [b : Be w W] : Ge w g := ⟨by rw [f.out]; exact b.out.size⟩
instance beDrew [b : Be w W] : Be w W.drew := ⟨b5_ b.out⟩
instance beDrewN [b : Be w W] : Be w (W.drewN n) := ⟨c7_ b.out n⟩
instance beAlloc [b : Be w W] : Be w (W.alloc o) := ⟨b2_ b.out o⟩
instance beSet [e : Ge w g] [b : Be w W] : Be w (W.setCell ⟨g, i, none⟩ v) := ⟨b3_ b.out e.out⟩
instance beBl [c : Bl W W'] [b : Be w W] : Be w W' := ⟨a7_ b.out c.out⟩
class Rw {α : Type} (k : Kd α) (W : World) (A : Option Addr) (c : outParam Nat) (l : List α) : Prop where
 out : Kd.C k W A l.length l
 le : l.length ≤ c
instance rwBe {α : Type} {k : Kd α} {A : Option Addr} {c : Nat} {l : List α} [b : Be w W] [r : Rw k w A c l] : Rw k W A c l := ⟨Kd.C_below r.out b.out, r.le⟩
instance rwBl {α : Type} {k : Kd α} {A : Option Addr} {c : Nat} {l : List α} [b : Bl W W'] [r : Rw k W A c l] : Rw k W' A c l := ⟨Kd.C_below r.out b.out, r.le⟩
instance rwAlloc {α : Type} {k : Kd α} {A : Option Addr} {c : Nat} {l : List α} [r : Rw k W A c l] : Rw k (W.alloc o) A c l := ⟨Kd.C_alloc r.out o, r.le⟩
instance rwDrew {α : Type} {k : Kd α} {A : Option Addr} {c : Nat} {l : List α} [r : Rw k W A c l] : Rw k W.drew A c l := ⟨Kd.C_drew r.out, r.le⟩
instance rwDrewN {α : Type} {k : Kd α} {A : Option Addr} {c : Nat} {l : List α} [r : Rw k W A c l] : Rw k (W.drewN n) A c l := ⟨Kd.C_drewN r.out n, r.le⟩
class Ro {α : Type} (k : Kd α) (e : TypeId) (base : Nat) (W : World) (v : Value) (xs : List α) : Prop where
 out : Kd.R k e W base (fun _ => True) v xs
instance roBl {α : Type} {k : Kd α} {e base : Nat} {xs : List α} [b : Bl W W'] [r : Ro k e base W v xs] : Ro k e base W' v xs := ⟨Kd.R_below r.out b.out⟩
instance roDrew {α : Type} {k : Kd α} {e base : Nat} {xs : List α} [r : Ro k e base W v xs] : Ro k e base W.drew v xs := ⟨Kd.R_drew r.out⟩
theorem nqGt [f : Fr W g] (h : g' < W.heap.size) : Nq g g' := ⟨by rw [f.out]; omega⟩
theorem cellBx [h : Bx W g cs t] (i : Nat) : W.cell? ⟨g, i, none⟩ = cs[i]? := a0_ h.out i
theorem frozBx [h : Bx W g cs t] (i : Nat) : W.frozen? ⟨g, i, none⟩ = false := a2_ h.out i
end
theorem nameA (W : World) (cs : Array Value) (t : TypeId) : ∃ g w1, Fr W g ∧ Bx w1 g cs t ∧ Bl W w1 ∧ W.heap.size = g ∧ W.alloc (.cells cs t) = w1 := ⟨_, _, ⟨rfl⟩, ⟨blk_new W _⟩, ⟨b2_ (Below.refl _ _) _⟩, rfl, rfl⟩
theorem roFar {α : Type} {d : Kd α} {e base : Nat} {W : World} {v u : Value} {xs : List α} {ok : Nat → Prop} {g j t : Nat} {cs : Array Value} (h : Kd.R d e W base ok v xs) [b : Bx W g cs t] (ht : ∀ q, q ∈ e :: d.E → q ≠ t) : Kd.R d e (W.setCell ⟨g, j, none⟩ u) base ok v xs :=
 Kd.R_mono (Kd.R_far (Kd.R_types h b.out ht) (p := ⟨g, j, none⟩) (fun k hk => hk.2) u) (fun k hk => hk.1)
section
variable {P : Program} {ops : Array Oper} {rest : List Oper} {o : Oper} {a : Act} {Q : Exit → Act → World → Prop}
theorem bxT {W : World} (N : Tmp) (cs : Array Value) (t : TypeId)
  (h : ∀ g w1, Fr W g → Bx w1 g cs t → Bl W w1 → wpList P ops Q rest (a.put o.dst (.pointer (some ⟨g, 0, none⟩))) w1)
  (hg : o.guard = none := by exact rfl) (hd : o.dst = some N := by exact rfl)
  (hr : (execOp a.eval o).run P W = .ok (.value (.pointer (some ⟨W.heap.size, 0, none⟩))) (W.alloc (.cells cs t (0, 0))) := by first | (go_simp; done) | (go_simp; rfl)) : wpList P ops Q (o :: rest) a W :=
 box_event hg hd hr fun g hg w1 hb hw => h g w1 ⟨hg⟩ ⟨hb⟩ ⟨hw⟩
end
theorem bindS {α β : Type} {x : Option α} {f : α → Option β} {r : β} (H : x.bind f = some r) : ∃ a, x = some a ∧ f a = some r := Option.bind_eq_some_iff.1 H
def Sh {α : Type} (k : Kd α) (e : TypeId) (w W : World) (base : Nat) (v : Value) (l : List α) : Prop :=
 ∃ rows : List (List Value), rows.length = l.length ∧ (Kd.raw k.sz).R e W base (fun _ => True) v rows ∧ ∀ (j : Nat) (y : α) (c : List Value), l[j]? = some y → rows[j]? = some c → k.K w y c
section
variable {α : Type} {k : Kd α} {e base : Nat} {w W W' : World} {v : Value} {l : List α}
theorem Sh.nil : Sh k e w W base (.slice none 0 0) [] := ⟨[], rfl, Kd.R_nil _ _ _ _ _, fun j y c h => by simp at h⟩
theorem rowIn {A : Option Addr} {n : Nat} (h : k.C w A n l) (hb : Below w.heap.size w W) : ReadsRow (k.K w) k.sz W A n l := ReadsRow.imp_ h hb (fun _ _ h => h)
theorem rowBx {g t : Nat} {cs : Array Value} {x : α} [b : Bx W g cs t] (hk : k.K w x cs.toList) : ReadsRow (k.K w) k.sz W (some ⟨g, 0, none⟩) [x].length [x] :=
 ⟨rfl, by simp, fun _ => ⟨_, rfl, fun j p hj => by
  cases j with
  | succ j => simp at hj
  | zero =>
   obtain rfl : x = p := by simpa using hj
   refine ⟨cs.toList, k.K_len hk, hk, fun i u hu => ?_⟩
   rw [Nat.zero_mul, Nat.zero_add, c9_, cellBx]
   simpa using hu⟩⟩
theorem Sh.step (h : Sh k e w W base v l) (hb : Below W.heap.size W W') : Sh k e w W' base v l :=
 let ⟨r, a, b, c⟩ := h; ⟨r, a, Kd.R_below b hb, c⟩
theorem Sh.far {g j t : Nat} {cs : Array Value} {u : Value} (h : Sh k e w W base v l) [b : Bx W g cs t] (ht : e ≠ t) : Sh k e w (W.setCell ⟨g, j, none⟩ u) base v l :=
 let ⟨r, a, c, d⟩ := h; ⟨r, a, roFar (g := g) (j := j) (u := u) c (fun q hq => (List.mem_cons.1 hq).elim (fun h => h ▸ ht) (fun h => absurd h (by simp [Kd.raw]))), d⟩
theorem Sh.drew (h : Sh k e w W base v l) : Sh k e w W.drew base v l := let ⟨r, a, b, c⟩ := h; ⟨r, a, Kd.R_drew b, c⟩
theorem Sh.read (h : Sh k e w W base v l) (hw : Below w.heap.size w W) : ∃ A c, v = .slice A l.length c ∧ Rw k W A c l := by
 obtain ⟨rows, hl, hR, hk⟩ := h
 obtain ⟨A, c, rfl, hc, hC⟩ := Kd.R_reads hR
 refine ⟨A, c, by rw [hl], ⟨?_, by omega⟩⟩
 refine ⟨rfl, by have := hC.2.1; omega, fun hn => ?_⟩
 obtain ⟨ad, ea, hh⟩ := hC.2.2 (by omega)
 refine ⟨ad, ea, fun j p hj => ?_⟩
 have hjl := (List.getElem?_eq_some_iff.1 hj).1
 have hr : rows[j]? = some (rows[j]'(by omega)) := List.getElem?_eq_getElem (by omega)
 obtain ⟨c', h1, h2, h3⟩ := hh j _ hr
 obtain ⟨rfl, _, _⟩ := h2
 exact ⟨_, h1, k.K_below hw (hk j p _ hj hr), h3⟩
theorem Sh.elem {g n cap i : Nat} {y : α} (h : Sh k e w W base (.slice (some ⟨g, 0, none⟩) n cap) l) (hy : l[i]? = some y) :
  ∃ c, k.K w y c ∧ (∀ (j : Nat) (u : Value), c[j]? = some u → W.cell? ⟨g, i * k.sz + j, none⟩ = some u) ∧ (∀ j, W.frozen? ⟨g, i * k.sz + j, none⟩ = false) ∧
   ∀ (j : Nat) (u : Value) (y' : α), j < k.sz → k.K w y' (c.set j u) → Sh k e w (W.setCell ⟨g, i * k.sz + j, none⟩ u) base (.slice (some ⟨g, 0, none⟩) n cap) (l.set i y') := by
 obtain ⟨rows, hl, hR, hk⟩ := h
 have hil := (List.getElem?_eq_some_iff.1 hy).1
 have hn := (Kd.R_reads' hR).1
 obtain ⟨c, hcl, hM, hcc, hfr⟩ := Kd.R_elem hR [] (i : Int) (by omega) (by omega)
 have hr : rows[i]? = some (rows[i]'(by omega)) := List.getElem?_eq_getElem (by omega)
 have ec : c = rows[i]'(by omega) := by
  have := hM.1
  simpa [List.getD_eq_getElem?_getD, hr] using this
 have hK := hk i y _ hy hr
 rw [← ec] at hK
 refine ⟨c, hK, fun j u hu => by simpa [Kd.raw] using hcc j u hu, fun j => by simpa [Kd.raw] using hfr j, fun j u y' hj hK' => ?_⟩
 have hone := k.K_one hK'
 have hlen := k.K_len hK'
 have e1 : c.take j ++ [u] ++ c.drop (j + [u].length) = c.set j u := by
  rw [List.set_eq_take_append_cons_drop, if_pos (by rw [hcl]; exact hj)]
  simp
 have := (Kd.R_seg hR (i : Int) (by omega) (by omega) (seg := [u]) (j := j) (x' := c.set j u) (okp := fun _ => False) hcl hcc (by show j + 1 ≤ k.sz; omega) (by rw [e1]; exact ⟨rfl, hlen, hone⟩) (fun _ hk => hk.elim)).1
 refine ⟨rows.set i (c.set j u), by rw [List.length_set, List.length_set, hl], by simpa [World.setCells, Kd.raw] using this, fun j2 y2 c2 h1 h2 => ?_⟩
 by_cases hij : i = j2
 ·subst hij
  rw [List.getElem?_set_self hil] at h1
  rw [List.getElem?_set_self (by omega)] at h2
  obtain rfl := Option.some.inj h1
  obtain rfl := Option.some.inj h2
  exact hK'
 ·rw [List.getElem?_set_ne hij] at h1 h2
  exact hk j2 y2 c2 h1 h2
theorem Sh.joined {rows news : List (List Value)} {xs ys : List α} (hl : rows.length = xs.length) (hk : ∀ (j : Nat) (y : α) (c : List Value), xs[j]? = some y → rows[j]? = some c → k.K w y c) (hnl : news.length = ys.length) (hn : ∀ (j : Nat) (y : α) (c : List Value), ys[j]? = some y → news[j]? = some c → k.K w y c)
  (hR : (Kd.raw k.sz).R e W base (fun _ => True) v (rows ++ news)) : Sh k e w W base v (xs ++ ys) := by
 refine ⟨rows ++ news, by rw [List.length_append, List.length_append, hl, hnl], hR, fun j y c h1 h2 => ?_⟩
 by_cases hj : j < xs.length
 ·rw [List.getElem?_append_left hj] at h1
  rw [List.getElem?_append_left (by omega)] at h2
  exact hk j y c h1 h2
 ·rw [List.getElem?_append_right (by omega)] at h1
  rw [List.getElem?_append_right (by omega), hl] at h2
  exact hn _ y c h1 h2
end
section
variable {P : Program} {ops : Array Oper} {rest : List Oper} {o : Oper} {a : Act} {Q : Exit → Act → World → Prop} {Kc : Act → World → Prop} {α : Type}
theorem litS {w W : World} (N : Tmp) (k : Kd α) (e : TypeId) (h : ∀ v w1, Sh k e w w1 W.heap.size v [] → Bl W w1 → wpList P ops Q rest (a.put o.dst v) w1)
  (hg : o.guard = none := by exact rfl) (hd : o.dst = some N := by exact rfl)
  (hr : (execOp a.eval o).run P W = .ok (.value (.slice (some ⟨W.heap.size, 0, none⟩) 0 0)) (W.alloc (.cells #[] e)) := by first | (go_simp; done) | (go_simp; rfl)) : wpList P ops Q (o :: rest) a W :=
 Kd.R_lit (Kd.raw k.sz) (w0 := W) W.heap.size e hg hd (xs := []) (inner := []) (ok := fun _ => True) (okp := fun _ => True) hr (Reps.none _ _) (fun _ hk => hk) trivial (Below.refl _ _) (Nat.le_refl _) (by simp)
  fun v1 w1 ho hb _ _ => h v1 w1 ⟨[], rfl, ho, fun j y c h1 => by simp at h1⟩ ⟨hb⟩
theorem litS_step {w W : World} (N : Tmp) (k : Kd α) (e : TypeId) (h : ∀ v w1, Sh k e w w1 W.heap.size v [] → Bl W w1 → Kc (a.put o.dst v) w1)
  (hw : Region.wanted o (yielded ops a.tmps) = true) (hd : o.dst = some N)
  (hr : (execOp a.eval o).run P W = .ok (.value (.slice (some ⟨W.heap.size, 0, none⟩) 0 0)) (W.alloc (.cells #[] e))) : if Region.wanted o (yielded ops a.tmps) = true then Oper.wp P o a W Kc Q else Kc (a.put o.dst undef) W :=
 Kd.R_lit_step (Kd.raw k.sz) (w0 := W) W.heap.size e hw hd (xs := []) (inner := []) (ok := fun _ => True) (okp := fun _ => True) hr (Reps.none _ _) (fun _ hk => hk) trivial (Below.refl _ _) (Nat.le_refl _) (by simp)
  fun v1 w1 ho hb _ _ => h v1 w1 ⟨[], rfl, ho, fun j y c h1 => by simp at h1⟩ ⟨hb⟩
theorem appS (k : Kd α) {w W0 W : World} (hgd : o.guard = none) (s x : Operand) (t e : TypeId) (z : Value) (bytes : Nat)
  (ho : o.op = .call { callee := .builtin .append, args := #[s, x], argTypes := #[t, t] })
  (ht : P.underlying t = some (.slice e)) (hinfo : (P.info? e).map (fun i => (i.zero, i.size, i.bytes)) = some (some z, k.sz, bytes)) (hz : z.cells.size = k.sz) (hs0 : 0 < k.sz) (hb0 : 0 < bytes)
  {v : Value} {xs ys : List α} {A : Option Addr} {c : Nat} (hs : a.eval s = v) (hx : a.eval x = .slice A ys.length c)
  (HO : Sh k e w W W0.heap.size v xs) (HR : ReadsRow (k.K w) k.sz W A ys.length ys) (HB : Below W0.heap.size W0 W) (hl : (xs.length + ys.length) * bytes ≤ 140737488355328)
  (h : ∀ v1 w1, Sh k e w w1 W0.heap.size v1 (xs ++ ys) → Bl W0 w1 → wpList P ops Q rest (a.put o.dst v1) w1) :
  wpList P ops Q (o :: rest) a W := by
 obtain ⟨rows, hrl, hR, hk⟩ := HO
 obtain ⟨news, hnl, hnr, hnf⟩ := Kd.reads_raw HR (fun y c hk => ⟨k.K_len hk, k.K_one hk⟩)
 refine Kd.R_append_rows (Kd.raw k.sz) W0.heap.size hgd s x t e z bytes ho ht hinfo hz hs0 hb0 v rows news A ys.length c (fun _ => True) (fun _ => False) hs hx hR hnr (fun _ _ hk => hk) (fun _ hk => hk.elim) (fun _ _ => trivial) HB HB.size (by rw [hrl]; exact hl) ?_
 intro v1 w1 h1 h2 _ _
 exact h v1 w1 (Sh.joined hrl hk hnl hnf h1) ⟨h2⟩
theorem appS_step (k : Kd α) {w W0 W : World} (hw' : Region.wanted o (yielded ops a.tmps) = true) (s x : Operand) (t e : TypeId) (z : Value) (bytes : Nat)
  (ho : o.op = .call { callee := .builtin .append, args := #[s, x], argTypes := #[t, t] })
  (ht : P.underlying t = some (.slice e)) (hinfo : (P.info? e).map (fun i => (i.zero, i.size, i.bytes)) = some (some z, k.sz, bytes)) (hz : z.cells.size = k.sz) (hs0 : 0 < k.sz) (hb0 : 0 < bytes)
  {v : Value} {xs ys : List α} {A : Option Addr} {c : Nat} (hs : a.eval s = v) (hx : a.eval x = .slice A ys.length c)
  (HO : Sh k e w W W0.heap.size v xs) (HR : ReadsRow (k.K w) k.sz W A ys.length ys) (HB : Below W0.heap.size W0 W) (hl : (xs.length + ys.length) * bytes ≤ 140737488355328)
  (h : ∀ v1 w1, Sh k e w w1 W0.heap.size v1 (xs ++ ys) → Bl W0 w1 → Kc (a.put o.dst v1) w1) :
  if Region.wanted o (yielded ops a.tmps) = true then Oper.wp P o a W Kc Q else Kc (a.put o.dst undef) W := by
 obtain ⟨rows, hrl, hR, hk⟩ := HO
 obtain ⟨news, hnl, hnr, hnf⟩ := Kd.reads_raw HR (fun y c hk => ⟨k.K_len hk, k.K_one hk⟩)
 refine Kd.R_append_rows_step (Kd.raw k.sz) W0.heap.size hw' s x t e z bytes ho ht hinfo hz hs0 hb0 v rows news A ys.length c (fun _ => True) (fun _ => False) hs hx hR hnr (fun _ _ hk => hk) (fun _ hk => hk.elim) (fun _ _ => trivial) HB HB.size (by rw [hrl]; exact hl) ?_
 intro v1 w1 h1 h2 _ _
 exact h v1 w1 (Sh.joined hrl hk hnl hnf h1) ⟨h2⟩
end
end Go.Proofs.Ytckhjehibjdjdaa.P
namespace Go.Proofs.Ytckhjehibjdjdaa.Mp
open Go.RowKit Go.Maps
def MapI (P : Program) (k e : TypeId) (w : World) (b n : Nat) (f : Int → Int) : Prop :=
 ∃ D : DataW Unit, w.ownsMap P k (plainElem P e) b n D ∧ IsMap D ∧ ∀ i, D.atKey (.int .i64 i) (.lit (.int .i64 0)) = .lit (.int .i64 (f i))
variable {P : Program} {k e : TypeId} {w : World} {b n : Nat} {f : Int → Int}
theorem MapI.made (w : World) (P : Program) (k e : TypeId) : MapI P k e (w.alloc (.map #[] 0)) w.heap.size 0 (fun _ => 0) :=
 ⟨.map [], World.ownsMap_made _ _ _ _, ⟨_, rfl⟩, fun _ => rfl⟩
theorem MapI.lt (h : MapI P k e w b n f) : b < w.heap.size := by
 obtain ⟨D, ⟨es, cl, hb, _⟩, _⟩ := h
 exact (Array.getElem?_eq_some_iff.1 hb).1
theorem MapI.move {w1 : World} (h : MapI P k e w b n f) (hm : w1.heap[b]? = w.heap[b]?) : MapI P k e w1 b n f := by
 obtain ⟨D, ⟨es, cl, hb, r⟩, i⟩ := h
 exact ⟨D, ⟨es, cl, hm.trans hb, r⟩, i⟩
theorem MapI.below {w1 : World} (h : MapI P k e w b n f) (hb : Below w.heap.size w w1) : MapI P k e w1 b n f := h.move (hb.block b h.lt)
theorem MapI.grown {w1 : World} {row : Option Nat} (h : MapI P k e w b n f) (hg : w.grownBy w1 row) (hne : some b ≠ row) : MapI P k e w1 b n f := h.move (hg.block b h.lt hne)
theorem MapI.alloc (h : MapI P k e w b n f) (o : Obj) : MapI P k e (w.alloc o) b n f := h.below ((Below.refl _ _).alloc (Nat.le_refl _) o)
theorem MapI.drew (h : MapI P k e w b n f) : MapI P k e w.drew b n f := h
theorem MapI.drewN (h : MapI P k e w b n f) (m : Nat) : MapI P k e (w.drewN m) b n f := h.move rfl
theorem MapI.congr {f' : Int → Int} {n' : Nat} (h : MapI P k e w b n f) (hf : ∀ i, f i = f' i) (hn : n = n') : MapI P k e w b n' f' := by
 subst hn
 obtain ⟨D, h1, h2, h3⟩ := h
 exact ⟨D, h1, h2, fun i => by rw [h3, hf]⟩
variable {ops : Array Oper} {rest : List Oper} {o : Oper} {a : Act} {Q : Exit → Act → World → Prop}
end Go.Proofs.Ytckhjehibjdjdaa.Mp
namespace Go.Proofs.Ytckhjehibjdjdaa.Mp
open Go.RowKit Go.Maps
def skey (a b : Int) : Lit := .string (keyBytes [.int .i64 a, .int .i64 b])
def W64 (x : Int) : Prop := (Lit.int .i64 x).wf = true
theorem W64.mk {x : Int} (h : -9223372036854775808 ≤ x ∧ x ≤ 9223372036854775807) : W64 x := by
 unfold W64; simp [Lit.wf, IntKind.min, IntKind.max, IntKind.bits, IntKind.signed]; omega
structure PairKey (P : Program) (k : TypeId) : Prop where
 keyed : Keyed P k
 key : ∀ {a b : Int}, W64 a → W64 b → keyOf P k (.agg #[.int .i64 a, .int .i64 b]) = some (skey a b)
theorem PairKey.inj {P : Program} {k : TypeId} (K : PairKey P k) {a b c d : Int} (ha : W64 a) (hb : W64 b) (hc : W64 c) (hd : W64 d) (h : skey a b = skey c d) : a = c ∧ b = d := by
 have h1 := K.key ha hb
 have h2 := K.key hc hd
 rw [← h] at h2
 have := K.keyed.inj h1 h2
 simp at this
 exact this
def MapS (P : Program) (k e : TypeId) (w : World) (b n : Nat) (f : Int → Int → Option Int) : Prop :=
 ∃ D : DataW Unit, w.ownsMap P k (plainElem P e) b n D ∧ IsMap D ∧ ∀ i j, W64 i → W64 j → has D (skey i j) = (f i j).isSome ∧ D.atKey (skey i j) (.lit (.int .i64 0)) = .lit (.int .i64 ((f i j).getD 0))
def updS (f : Int → Int → Option Int) (i j v : Int) : Int → Int → Option Int := fun a b => if a = i ∧ b = j then some v else f a b
variable {P : Program} {k e : TypeId} {w : World} {b n : Nat} {f : Int → Int → Option Int}
theorem MapS.made (w : World) (P : Program) (k e : TypeId) : MapS P k e (w.alloc (.map #[] 0)) w.heap.size 0 (fun _ _ => none) :=
 ⟨.map [], World.ownsMap_made _ _ _ _, ⟨_, rfl⟩, fun _ _ _ _ => ⟨rfl, rfl⟩⟩
theorem MapS.lt (h : MapS P k e w b n f) : b < w.heap.size := by
 obtain ⟨D, ⟨es, cl, hb, _⟩, _⟩ := h
 exact (Array.getElem?_eq_some_iff.1 hb).1
theorem MapS.move {w1 : World} (h : MapS P k e w b n f) (hm : w1.heap[b]? = w.heap[b]?) : MapS P k e w1 b n f := by
 obtain ⟨D, ⟨es, cl, hb, r⟩, i⟩ := h
 exact ⟨D, ⟨es, cl, hm.trans hb, r⟩, i⟩
theorem MapS.below {w1 : World} (h : MapS P k e w b n f) (hb : Below w.heap.size w w1) : MapS P k e w1 b n f := h.move (hb.block b h.lt)
theorem MapS.grown {w1 : World} {row : Option Nat} (h : MapS P k e w b n f) (hg : w.grownBy w1 row) (hne : some b ≠ row) : MapS P k e w1 b n f := h.move (hg.block b h.lt hne)
theorem MapS.alloc (h : MapS P k e w b n f) (o : Obj) : MapS P k e (w.alloc o) b n f := h.below ((Below.refl _ _).alloc (Nat.le_refl _) o)
theorem MapS.congr {f' : Int → Int → Option Int} {n' : Nat} (h : MapS P k e w b n f) (hf : ∀ i j, f i j = f' i j) (hn : n ≤ n') : MapS P k e w b n' f' := by
 obtain ⟨D, ⟨es, cl, hb, F, hs, hD⟩, h2, h3⟩ := h
 exact ⟨D, ⟨es, cl, hb, F, Nat.le_trans hs hn, hD⟩, h2, fun i j hi hj => by rw [← hf]; exact h3 i j hi hj⟩
variable {ops : Array Oper} {rest : List Oper} {o : Oper} {a : Act} {Q : Exit → Act → World → Prop}
theorem wp_lookup_S (hg : o.guard = none) (K : PairKey P k) (m x : Operand) (t : TypeId) (hop : o.op = Op.lookup t m x true)
  (ht : P.underlying t = some (.map k e)) (he : P.underlying e = some (.int .i64)) (hz : (zeroValue e).run P w = .ok (.int .i64 0) w)
  (hm : a.eval m = .map (some b)) (h : MapS P k e w b n f) (i j : Int) (hx : a.eval x = .agg #[.int .i64 i, .int .i64 j]) (hi : W64 i) (hj : W64 j)
  (hK : wpList P ops Q rest (a.put o.dst (.tuple #[.int .i64 ((f i j).getD 0), .bool (f i j).isSome])) w) : wpList P ops Q (o :: rest) a w := by
 obtain ⟨D, h1, h2, h3⟩ := h
 refine wpList_lookup_own_ok_int w hg m x t hop k e .i64 K.keyed ht he hz b n D hm h1 _ _ hx (K.key hi hj) ?_
 intro c hat hwc
 obtain ⟨e1, e2⟩ := h3 i j hi hj
 rw [e2] at hat
 injection hat with hat
 injection hat with _ hat
 subst hat
 rw [e1]
 exact hK
theorem wp_update_S (hg : o.guard = none) (K : PairKey P k) (m x v : Operand) (t : TypeId) (hop : o.op = Op.mapUpdate t m x v)
  (ht : P.underlying t = some (.map k e)) (he : P.underlying e = some (.int .i64))
  (hm : a.eval m = .map (some b)) (h : MapS P k e w b n f) (hn : n < maxLen) (i j c : Int) (hx : a.eval x = .agg #[.int .i64 i, .int .i64 j]) (hv : a.eval v = .int .i64 c) (hi : W64 i) (hj : W64 j) (hc : W64 c)
  (hK : ∀ w', MapS P k e w' b (n + 1) (updS f i j c) → w.grownBy w' (some b) → wpList P ops Q rest (a.put o.dst undef) w') : wpList P ops Q (o :: rest) a w := by
 obtain ⟨D, h1, h2, h3⟩ := h
 refine wpList_mapUpdate_own w hg m x v t hop k e K.keyed ht _ b n D hm h1 hn _ _ _ hx hv (K.key hi hj) _ [] (plainElem_int he hc) ?_
 intro w' ho hgr
 refine hK w' ⟨_, ho, ?_, fun i' j' hi' hj' => ?_⟩ hgr
 ·obtain ⟨l, rfl⟩ := h2
  exact ⟨_, rfl⟩
 ·unfold updS
  by_cases hh : i' = i ∧ j' = j
  ·obtain ⟨rfl, rfl⟩ := hh
   rw [if_pos ⟨rfl, rfl⟩, atKey_put_same h2 (by simp [skey, WideAt.IsKeyLit]), has_put_same h2 (by simp [skey, WideAt.IsKeyLit])]
   exact ⟨rfl, rfl⟩
  ·have hne : skey i' j' ≠ skey i j := fun e => hh (K.inj hi' hj' hi hj e)
   rw [if_neg hh, atKey_put_other hne, has_put_other hne]
   exact h3 i' j' hi' hj'
end Go.Proofs.Ytckhjehibjdjdaa.Mp
namespace Go.Proofs.Ytckhjehibjdjdaa.Bits
def pos (m : Nat) : List Nat := (List.range 64).filter fun i => m.testBit i
def popN (m : Nat) : Nat := (pos m).length
theorem mem_pos {m j : Nat} : j ∈ pos m ↔ j < 64 ∧ m.testBit j = true := by simp [pos]
theorem lt_of_testBit {m j : Nat} (hm : m < 2 ^ 64) (h : m.testBit j = true) : j < 64 := by
 rcases Nat.lt_or_ge j 64 with h1 | h1
 ·exact h1
 ·rw [Nat.testBit_lt_two_pow (Nat.lt_of_lt_of_le hm (Nat.pow_le_pow_right (by omega) h1))] at h
  cases h
def popI (m : Int) : Int := (popN m.toNat : Int)
end Go.Proofs.Ytckhjehibjdjdaa.Bits
namespace Go.Proofs.Ytckhjehibjdjdaa.P
open Go.RowKit Go.Shelf Go.Proofs.YtckhjehibjdjdaaW.PrintWords Go.Proofs.YtckhjehibjdjdaaW.PrintLast Go.Proofs.YtckhjehibjdjdaaW.PrintMore
open Go.Proofs.Ytckhjehibjdjdaa.Bits Go.Proofs.Ytckhjehibjdjdaa.RF
attribute [local go_sem] max2_int min2_int max_two min_two max_three min_three max_four min_four
attribute [local go_sem] Oper.semAt_some
end Go.Proofs.Ytckhjehibjdjdaa.P
namespace Go.Proofs.Ytckhjehibjdjdaa.Bits
def glue : List Nat → Nat
 | [] => 0
 | r :: l => 256 * glue l + r
def maskN (s : Nat) : Nat → Nat
 | 0 => 0
 | k + 1 => 256 * maskN s k + s
theorem and_split (q p r s : Nat) (hr : r < 256) (hs : s < 256) : (256 * q + r) &&& (256 * p + s) = 256 * (q &&& p) + (r &&& s) := by
 apply Nat.eq_of_testBit_eq
 intro j
 have hrs : (r &&& s) < 2 ^ 8 := Nat.lt_of_le_of_lt Nat.and_le_left hr
 have e1 := Nat.testBit_two_pow_mul_add q (i := 8) hr j
 have e2 := Nat.testBit_two_pow_mul_add p (i := 8) hs j
 have e3 := Nat.testBit_two_pow_mul_add (q &&& p) (i := 8) hrs j
 rw [show (2 : Nat) ^ 8 = 256 from rfl] at e1 e2 e3
 rw [Nat.testBit_and, e1, e2, e3]
 split <;> simp
theorem and_shift (q p r s j : Nat) (hj : j ≤ 8) (hr : r < 256) (hs : s < 2 ^ (8 - j)) : ((256 * q + r) / 2 ^ j) &&& (256 * p + s) = 256 * ((q / 2 ^ j) &&& p) + ((r / 2 ^ j) &&& s) := by
 have hs' : s < 256 := Nat.lt_of_lt_of_le hs (by have := Nat.pow_le_pow_right (n := 2) (by omega) (show 8 - j ≤ 8 by omega); simpa using this)
 apply Nat.eq_of_testBit_eq
 intro i
 have hrs : ((r / 2 ^ j) &&& s) < 2 ^ 8 := Nat.lt_of_le_of_lt Nat.and_le_right hs'
 have e1 := Nat.testBit_two_pow_mul_add q (i := 8) hr (i + j)
 have e2 := Nat.testBit_two_pow_mul_add p (i := 8) hs' i
 have e3 := Nat.testBit_two_pow_mul_add ((q / 2 ^ j) &&& p) (i := 8) hrs i
 rw [show (2 : Nat) ^ 8 = 256 from rfl] at e1 e2 e3
 rw [Nat.testBit_and, e2, e3, Nat.testBit_div_two_pow, e1]
 by_cases hi : i < 8
 ·rw [if_pos hi, if_pos hi, Nat.testBit_and, Nat.testBit_div_two_pow]
  by_cases h2 : i + j < 8
  ·rw [if_pos h2]
  ·rw [if_neg h2]
   have : s.testBit i = false := by
    apply Nat.testBit_lt_two_pow
    exact Nat.lt_of_lt_of_le hs (Nat.pow_le_pow_right (by omega) (by omega))
   rw [this]; simp
 ·rw [if_neg hi, if_neg hi, if_neg (by omega), Nat.testBit_and, Nat.testBit_div_two_pow]
  rw [show i + j - 8 = i - 8 + j by omega]
theorem glue_and (s : Nat) (hs : s < 256) : ∀ l : List Nat, (∀ r ∈ l, r < 256) → glue l &&& maskN s l.length = glue (l.map fun r => r &&& s)
 | [], _ => by simp [glue, maskN]
 | r :: l, h => by
  rw [glue, List.length_cons, maskN, and_split _ _ _ _ (h r (by simp)) hs, glue_and s hs l (fun x hx => h x (by simp [hx]))]; rfl
theorem glue_shift (s j : Nat) (hj : j ≤ 8) (hs : s < 2 ^ (8 - j)) : ∀ l : List Nat, (∀ r ∈ l, r < 256) → (glue l / 2 ^ j) &&& maskN s l.length = glue (l.map fun r => (r / 2 ^ j) &&& s)
 | [], _ => by simp [glue, maskN]
 | r :: l, h => by
  rw [glue, List.length_cons, maskN, and_shift _ _ _ _ _ hj (h r (by simp)) hs, glue_shift s j hj hs l (fun x hx => h x (by simp [hx]))]; rfl
theorem glue_add (f g : Nat → Nat) : ∀ l : List Nat, glue (l.map f) + glue (l.map g) = glue (l.map fun r => f r + g r)
 | [] => rfl
 | r :: l => by have := glue_add f g l; simp only [List.map_cons, glue] at *; omega
def s1 (r : Nat) : Nat := ((r / 2) &&& 85) + (r &&& 85)
def s2 (r : Nat) : Nat := ((r / 4) &&& 51) + (r &&& 51)
theorem s1_lt : ∀ r, r < 256 → s1 r < 256 := by decide +kernel
theorem s2_two : ∀ r, r < 256 → s2 (s1 r) % 16 ≤ 4 ∧ s2 (s1 r) / 16 ≤ 4 ∧ s2 (s1 r) % 16 + s2 (s1 r) / 16 = (List.range 8).countP (fun j => r.testBit j) := by decide +kernel
def bytes (m : Nat) : List Nat := [m % 256, m / 256 % 256, m / 65536 % 256, m / 16777216 % 256, m / 4294967296 % 256, m / 1099511627776 % 256, m / 281474976710656 % 256, m / 72057594037927936 % 256]
theorem glue_bytes (m : Nat) (h : m < 18446744073709551616) : glue (bytes m) = m := by
 simp only [glue, bytes]; omega
theorem bytes_lt (m : Nat) : ∀ r ∈ bytes m, r < 256 := by
 intro r hr
 simp only [bytes, List.mem_cons, List.not_mem_nil, or_false] at hr
 omega
def pairs (m : Nat) : Nat := ((m / 2) &&& 6148914691236517205) + (m &&& 6148914691236517205)
def fours (m : Nat) : Nat := ((m / 4) &&& 3689348814741910323) + (m &&& 3689348814741910323)
theorem pairs_eq (l : List Nat) (hl : l.length = 8) (h : ∀ r ∈ l, r < 256) : pairs (glue l) = glue (l.map s1) := by
 have e : (6148914691236517205 : Nat) = maskN 85 l.length := by rw [hl]; rfl
 unfold pairs
 rw [e, glue_and 85 (by omega) l h]
 have := glue_shift 85 1 (by omega) (by decide) l h
 rw [Nat.pow_one] at this
 rw [this, glue_add]
 rfl
theorem fours_eq (l : List Nat) (hl : l.length = 8) (h : ∀ r ∈ l, r < 256) : fours (glue l) = glue (l.map s2) := by
 have e : (3689348814741910323 : Nat) = maskN 51 l.length := by rw [hl]; rfl
 unfold fours
 rw [e, glue_and 51 (by omega) l h]
 have := glue_shift 51 2 (by omega) (by decide) l h
 rw [show (2 : Nat) ^ 2 = 4 from rfl] at this
 rw [this, glue_add]
 rfl
theorem and15 (u v : Nat) (hv : v < 16) (hu : u < 16) : (16 * u + v) &&& 15 = v := by
 have h : ∀ u, u < 16 → ∀ v, v < 16 → (16 * u + v) &&& 15 = v := by decide +kernel
 exact h u hu v hv
def eights (b : Nat) : Nat := ((b / 16 + b) % 18446744073709551616) &&& 1085102592571150095
theorem eights_eq (h0 h1 h2 h3 h4 h5 h6 h7 l0 l1 l2 l3 l4 l5 l6 l7 : Nat)
  (a0 : h0 ≤ 4) (a1 : h1 ≤ 4) (a2 : h2 ≤ 4) (a3 : h3 ≤ 4) (a4 : h4 ≤ 4) (a5 : h5 ≤ 4) (a6 : h6 ≤ 4) (a7 : h7 ≤ 4)
  (b0 : l0 ≤ 4) (b1 : l1 ≤ 4) (b2 : l2 ≤ 4) (b3 : l3 ≤ 4) (b4 : l4 ≤ 4) (b5 : l5 ≤ 4) (b6 : l6 ≤ 4) (b7 : l7 ≤ 4) :
  eights (glue [16 * h0 + l0, 16 * h1 + l1, 16 * h2 + l2, 16 * h3 + l3, 16 * h4 + l4, 16 * h5 + l5, 16 * h6 + l6, 16 * h7 + l7]) = glue [h0 + l0, h1 + l1, h2 + l2, h3 + l3, h4 + l4, h5 + l5, h6 + l6, h7 + l7] := by
 have e : (glue [16 * h0 + l0, 16 * h1 + l1, 16 * h2 + l2, 16 * h3 + l3, 16 * h4 + l4, 16 * h5 + l5, 16 * h6 + l6, 16 * h7 + l7] / 16 + glue [16 * h0 + l0, 16 * h1 + l1, 16 * h2 + l2, 16 * h3 + l3, 16 * h4 + l4, 16 * h5 + l5, 16 * h6 + l6, 16 * h7 + l7]) % 18446744073709551616
   = glue [16 * (h0 + l1) + (h0 + l0), 16 * (h1 + l2) + (h1 + l1), 16 * (h2 + l3) + (h2 + l2), 16 * (h3 + l4) + (h3 + l3), 16 * (h4 + l5) + (h4 + l4), 16 * (h5 + l6) + (h5 + l5), 16 * (h6 + l7) + (h6 + l6), 16 * h7 + (h7 + l7)] := by
  simp only [glue]; omega
 unfold eights
 rw [e]
 have e2 : (1085102592571150095 : Nat) = maskN 15 8 := rfl
 rw [e2, show (8 : Nat) = [16 * (h0 + l1) + (h0 + l0), 16 * (h1 + l2) + (h1 + l1), 16 * (h2 + l3) + (h2 + l2), 16 * (h3 + l4) + (h3 + l3), 16 * (h4 + l5) + (h4 + l4), 16 * (h5 + l6) + (h5 + l5), 16 * (h6 + l7) + (h6 + l6), 16 * h7 + (h7 + l7)].length from rfl, glue_and 15 (by omega)]
 ·simp only [List.map_cons, List.map_nil]
  rw [and15 _ _ (by omega) (by omega), and15 _ _ (by omega) (by omega), and15 _ _ (by omega) (by omega), and15 _ _ (by omega) (by omega), and15 _ _ (by omega) (by omega), and15 _ _ (by omega) (by omega), and15 _ _ (by omega) (by omega), and15 _ _ (by omega) (by omega)]
 ·intro r hr
  simp only [List.mem_cons, List.not_mem_nil, or_false] at hr
  omega
def tops (c : Nat) : Nat :=
 let d := (c + c / 256) % 18446744073709551616
 let e := (d + d / 65536) % 18446744073709551616
 ((e + e / 4294967296) % 18446744073709551616) % 128
theorem tops_eq (v0 v1 v2 v3 v4 v5 v6 v7 : Nat) (a0 : v0 ≤ 8) (a1 : v1 ≤ 8) (a2 : v2 ≤ 8) (a3 : v3 ≤ 8) (a4 : v4 ≤ 8) (a5 : v5 ≤ 8) (a6 : v6 ≤ 8) (a7 : v7 ≤ 8) :
  tops (glue [v0, v1, v2, v3, v4, v5, v6, v7]) = v0 + v1 + v2 + v3 + v4 + v5 + v6 + v7 := by
 have q1 : glue [v0, v1, v2, v3, v4, v5, v6, v7] / 256 = glue [v1, v2, v3, v4, v5, v6, v7] := by
  simp only [glue]; omega
 have e1 : (glue [v0, v1, v2, v3, v4, v5, v6, v7] + glue [v1, v2, v3, v4, v5, v6, v7]) % 18446744073709551616 = glue [v0 + v1, v1 + v2, v2 + v3, v3 + v4, v4 + v5, v5 + v6, v6 + v7, v7] := by
  rw [Nat.mod_eq_of_lt (by simp only [glue]; omega)]; simp only [glue]; omega
 have q2 : glue [v0 + v1, v1 + v2, v2 + v3, v3 + v4, v4 + v5, v5 + v6, v6 + v7, v7] / 65536 = glue [v2 + v3, v3 + v4, v4 + v5, v5 + v6, v6 + v7, v7] := by
  simp only [glue]; omega
 have e2 : (glue [v0 + v1, v1 + v2, v2 + v3, v3 + v4, v4 + v5, v5 + v6, v6 + v7, v7] + glue [v2 + v3, v3 + v4, v4 + v5, v5 + v6, v6 + v7, v7]) % 18446744073709551616 = glue [v0 + v1 + v2 + v3, v1 + v2 + v3 + v4, v2 + v3 + v4 + v5, v3 + v4 + v5 + v6, v4 + v5 + v6 + v7, v5 + v6 + v7, v6 + v7, v7] := by
  rw [Nat.mod_eq_of_lt (by simp only [glue]; omega)]; simp only [glue]; omega
 have q3 : glue [v0 + v1 + v2 + v3, v1 + v2 + v3 + v4, v2 + v3 + v4 + v5, v3 + v4 + v5 + v6, v4 + v5 + v6 + v7, v5 + v6 + v7, v6 + v7, v7] / 4294967296 = glue [v4 + v5 + v6 + v7, v5 + v6 + v7, v6 + v7, v7] := by
  simp only [glue]; omega
 have e3 : ((glue [v0 + v1 + v2 + v3, v1 + v2 + v3 + v4, v2 + v3 + v4 + v5, v3 + v4 + v5 + v6, v4 + v5 + v6 + v7, v5 + v6 + v7, v6 + v7, v7] + glue [v4 + v5 + v6 + v7, v5 + v6 + v7, v6 + v7, v7]) % 18446744073709551616) % 128 = v0 + v1 + v2 + v3 + v4 + v5 + v6 + v7 := by
  rw [Nat.mod_eq_of_lt (b := 18446744073709551616) (by clear q1 e1 q2 e2 q3; simp only [glue]; omega)]
  clear q1 e1 q2 e2 q3
  simp only [glue]
  omega
 unfold tops
 simp only [q1, e1, q2, e2, q3]
 exact e3
theorem countP_range64 (p : Nat → Bool) : (List.range 64).countP p = (List.range 8).countP (fun j => p j) + (List.range 8).countP (fun j => p (j + 8)) + (List.range 8).countP (fun j => p (j + 16)) + (List.range 8).countP (fun j => p (j + 24)) + (List.range 8).countP (fun j => p (j + 32)) + (List.range 8).countP (fun j => p (j + 40)) + (List.range 8).countP (fun j => p (j + 48)) + (List.range 8).countP (fun j => p (j + 56)) := by
 have e : List.range 64 = List.range 8 ++ (List.range 8).map (· + 8) ++ (List.range 8).map (· + 16) ++ (List.range 8).map (· + 24) ++ (List.range 8).map (· + 32) ++ (List.range 8).map (· + 40) ++ (List.range 8).map (· + 48) ++ (List.range 8).map (· + 56) := by decide
 rw [e]
 simp only [List.countP_append, List.countP_map]
 rfl
theorem byte_bits (m k : Nat) : (List.range 8).countP (fun j => m.testBit (j + k)) = (List.range 8).countP (fun j => (m / 2 ^ k % 256).testBit j) := by
 apply List.countP_congr
 intro j hj
 rw [List.mem_range] at hj
 rw [show (256 : Nat) = 2 ^ 8 from rfl, Nat.testBit_mod_two_pow, Nat.testBit_div_two_pow]
 simp [hj]
theorem popN_swar (m : Nat) (h : m < 18446744073709551616) : tops (eights (fours (pairs m))) = popN m := by
 have hp : popN m = (List.range 64).countP (fun j => m.testBit j) := by
  unfold popN pos; rw [List.countP_eq_length_filter]
 have e0 := byte_bits m 0
 have e1 := byte_bits m 8
 have e2 := byte_bits m 16
 have e3 := byte_bits m 24
 have e4 := byte_bits m 32
 have e5 := byte_bits m 40
 have e6 := byte_bits m 48
 have e7 := byte_bits m 56
 simp only [Nat.add_zero, Nat.pow_zero, Nat.div_one] at e0
 rw [show (2 : Nat) ^ 8 = 256 from rfl] at e1
 rw [show (2 : Nat) ^ 16 = 65536 from rfl] at e2
 rw [show (2 : Nat) ^ 24 = 16777216 from rfl] at e3
 rw [show (2 : Nat) ^ 32 = 4294967296 from rfl] at e4
 rw [show (2 : Nat) ^ 40 = 1099511627776 from rfl] at e5
 rw [show (2 : Nat) ^ 48 = 281474976710656 from rfl] at e6
 rw [show (2 : Nat) ^ 56 = 72057594037927936 from rfl] at e7
 rw [hp, countP_range64, e0, e1, e2, e3, e4, e5, e6, e7]
 have hg := glue_bytes m h
 rw [show pairs m = pairs (glue (bytes m)) by rw [hg], pairs_eq _ rfl (bytes_lt m), fours_eq _ (by simp [bytes]) (by
  intro r hr
  obtain ⟨x, hx, rfl⟩ := List.mem_map.1 hr
  exact s1_lt x (bytes_lt m x hx))]
 simp only [bytes, List.map_cons, List.map_nil]
 have q0 := s2_two (m % 256) (by omega)
 have q1 := s2_two (m / 256 % 256) (by omega)
 have q2 := s2_two (m / 65536 % 256) (by omega)
 have q3 := s2_two (m / 16777216 % 256) (by omega)
 have q4 := s2_two (m / 4294967296 % 256) (by omega)
 have q5 := s2_two (m / 1099511627776 % 256) (by omega)
 have q6 := s2_two (m / 281474976710656 % 256) (by omega)
 have q7 := s2_two (m / 72057594037927936 % 256) (by omega)
 have g : ∀ x : Nat, x = 16 * (x / 16) + x % 16 := fun x => by omega
 rw [g (s2 (s1 (m % 256))), g (s2 (s1 (m / 256 % 256))), g (s2 (s1 (m / 65536 % 256))), g (s2 (s1 (m / 16777216 % 256))), g (s2 (s1 (m / 4294967296 % 256))), g (s2 (s1 (m / 1099511627776 % 256))), g (s2 (s1 (m / 281474976710656 % 256))), g (s2 (s1 (m / 72057594037927936 % 256)))]
 rw [eights_eq _ _ _ _ _ _ _ _ _ _ _ _ _ _ _ _ q0.2.1 q1.2.1 q2.2.1 q3.2.1 q4.2.1 q5.2.1 q6.2.1 q7.2.1 q0.1 q1.1 q2.1 q3.1 q4.1 q5.1 q6.1 q7.1,
  tops_eq _ _ _ _ _ _ _ _ (by omega) (by omega) (by omega) (by omega) (by omega) (by omega) (by omega) (by omega)]
 omega
theorem wrapN (x : Nat) : IntKind.u64.wrap (x : Int) = ((x % 18446744073709551616 : Nat) : Int) := by
 rw [IntKind.wrap_u64]; omega
theorem andN (x y : Nat) (hx : x < 18446744073709551616) (hy : y < 18446744073709551616) : Go.bits .and .u64 (x : Int) (y : Int) = ((x &&& y : Nat) : Int) := bits_and_u64_nat x y hx hy
theorem and_le (x y : Nat) : x &&& y ≤ y := Nat.and_le_right
end Go.Proofs.Ytckhjehibjdjdaa.Bits
namespace Go.Proofs.Ytckhjehibjdjdaa.P
open Go.RowKit Go.Shelf Go.Proofs.YtckhjehibjdjdaaW.PrintWords Go.Proofs.YtckhjehibjdjdaaW.PrintLast Go.Proofs.YtckhjehibjdjdaaW.PrintMore
open Go.Proofs.Ytckhjehibjdjdaa.Bits Go.Proofs.Ytckhjehibjdjdaa.RF
attribute [local go_sem] max2_int min2_int max_two min_two max_three min_three max_four min_four
attribute [local go_sem] Oper.semAt_some
theorem and127 (x : Nat) (h : x < 18446744073709551616) : Go.bits .and .i64 (wrap64 (x : Int)) 127 = ((x % 128 : Nat) : Int) := by
 have h1 : (BitVec.ofInt 64 (wrap64 (x : Int))).toNat = x := by
  rw [BitVec.toNat_ofInt]
  unfold wrap64
  omega
 have h2 : (BitVec.ofInt 64 (127 : Int)).toNat = 127 := by decide
 show IntKind.i64.wrap ((BitVec.ofInt 64 (wrap64 (x : Int)) &&& BitVec.ofInt 64 (127 : Int)).toNat : Int) = _
 rw [BitVec.toNat_and, h1, h2, show (127 : Nat) = 2 ^ 7 - 1 from rfl, Nat.and_two_pow_sub_one_eq_mod, IntKind.wrap_i64]
 omega
theorem ones_int (m : Nat) (hm : m < 18446744073709551616) (a b c d e f : Int)
  (ha : a = IntKind.u64.wrap (Go.bits .and .u64 ((m : Int) / 2) 6148914691236517205 + Go.bits .and .u64 (m : Int) 6148914691236517205))
  (hb : b = IntKind.u64.wrap (Go.bits .and .u64 (a / 4) 3689348814741910323 + Go.bits .and .u64 a 3689348814741910323))
  (hc : c = Go.bits .and .u64 (IntKind.u64.wrap (b / 16 + b)) 1085102592571150095)
  (hd : d = IntKind.u64.wrap (c + c / 256)) (he : e = IntKind.u64.wrap (d + d / 65536)) (hf : f = IntKind.u64.wrap (e + e / 4294967296)) :
  Go.bits .and .i64 (wrap64 f) 127 = popI (m : Int) := by
 have A : a = ((pairs m : Nat) : Int) := by
  rw [ha, show (m : Int) / 2 = ((m / 2 : Nat) : Int) by omega, show (6148914691236517205 : Int) = ((6148914691236517205 : Nat) : Int) from rfl, andN _ _ (by omega) (by omega), andN _ _ hm (by omega), ← Int.natCast_add, wrapN]
  have := and_le (m / 2) 6148914691236517205
  have := and_le m 6148914691236517205
  unfold pairs
  omega
 have pl : pairs m < 18446744073709551616 := by
  have := and_le (m / 2) 6148914691236517205
  have := and_le m 6148914691236517205
  unfold pairs
  omega
 have B : b = ((fours (pairs m) : Nat) : Int) := by
  rw [hb, A, show ((pairs m : Nat) : Int) / 4 = ((pairs m / 4 : Nat) : Int) by omega, show (3689348814741910323 : Int) = ((3689348814741910323 : Nat) : Int) from rfl, andN _ _ (by omega) (by omega), andN _ _ pl (by omega), ← Int.natCast_add, wrapN]
  have := and_le (pairs m / 4) 3689348814741910323
  have := and_le (pairs m) 3689348814741910323
  unfold fours
  omega
 have C : c = ((eights (fours (pairs m)) : Nat) : Int) := by
  rw [hc, B, show ((fours (pairs m) : Nat) : Int) / 16 + ((fours (pairs m) : Nat) : Int) = ((fours (pairs m) / 16 + fours (pairs m) : Nat) : Int) by omega, wrapN, show (1085102592571150095 : Int) = ((1085102592571150095 : Nat) : Int) from rfl, andN _ _ (by omega) (by omega)]
  rfl
 generalize hx : eights (fours (pairs m)) = x at C
 have D : d = (((x + x / 256) % 18446744073709551616 : Nat) : Int) := by
  rw [hd, C, show (x : Int) + (x : Int) / 256 = ((x + x / 256 : Nat) : Int) by omega, wrapN]
 generalize hy : (x + x / 256) % 18446744073709551616 = y at D
 have E : e = (((y + y / 65536) % 18446744073709551616 : Nat) : Int) := by
  rw [he, D, show (y : Int) + (y : Int) / 65536 = ((y + y / 65536 : Nat) : Int) by omega, wrapN]
 generalize hz : (y + y / 65536) % 18446744073709551616 = z at E
 have F : f = (((z + z / 4294967296) % 18446744073709551616 : Nat) : Int) := by
  rw [hf, E, show (z : Int) + (z : Int) / 4294967296 = ((z + z / 4294967296 : Nat) : Int) by omega, wrapN]
 rw [F, and127 _ (by omega)]
 unfold popI
 rw [Int.toNat_natCast, ← popN_swar m hm, hx]
 unfold tops
 simp only [hy, hz]
set_option maxHeartbeats 2000000 in
set_option maxRecDepth 100000 in
theorem ones_any (m : Nat) (hm : m < 2 ^ 64) (w : World) : Calls Try.prog 105 #[.int .u64 (m : Int)] w fun e w' => e = .returned (.int .i64 (popI (m : Int))) ∧ w' = w := by
 have hu49 := Try.underlying49
 have H := fun v (h : v = popI (m : Int)) => (congrArg (fun v => Ending.returned (.int .i64 v)) h)
 go_enter Try.func105, Try.ntmps105
 go_wp2
 go_ret
 refine ⟨H _ (ones_int m hm _ _ _ _ _ _ rfl rfl rfl rfl rfl rfl), rfl⟩
theorem count_any (m : Int) (h0 : 0 ≤ m) (h1 : m < 18446744073709551616) (w : World) : Calls Try.prog 75 #[.int .u64 m] w fun e w' => e = .returned (.int .i64 (popI m)) ∧ w' = w := by
 have hu49 := Try.underlying49
 obtain ⟨m, rfl⟩ := Int.eq_ofNat_of_zero_le h0
 have H := m_ (fun w => ones_any m (by omega) w)
 clear h0 h1
 go_enter Try.func75, Try.ntmps75
 go_wp2_with (go_at_call 105; refine (H.out _).mono ?_; rintro e w' ⟨rfl, rfl⟩)
 go_ret
 exact ⟨rfl, rfl⟩
end Go.Proofs.Ytckhjehibjdjdaa.P
namespace Go.Proofs.Ytckhjehibjdjdaa.P
open Go.RowKit Go.Shelf Go.Proofs.YtckhjehibjdjdaaW.PrintWords Go.Proofs.YtckhjehibjdjdaaW.PrintLast Go.Proofs.YtckhjehibjdjdaaW.PrintMore
open Go.Proofs.Ytckhjehibjdjdaa.Bits
attribute [local go_sem] max2_int min2_int max_two min_two max_three min_three max_four min_four
attribute [local go_sem] Oper.semAt_some
def c0_ (g c mn mx : Int) : Bool := decide (0 ≤ g) && decide (g ≤ 16) && decide (0 ≤ c) && decide (c ≤ 1024) && decide (1 ≤ mn) && decide (mn ≤ mx) && decide (1 ≤ mx) && decide (mx ≤ 16) && !(decide (g = 0) && decide (c = 0))
def shape_Check.f (a0_0 a0_1 a0_2 a0_3 : Int) : Option (Int) := some (if c0_ a0_0 a0_1 a0_2 a0_3 = true then 0 else 1)
theorem ret_i64 {a b : Int} (h : a = b) : Ending.returned (.int .i64 a) = .returned (.int .i64 b) := by rw [h]
set_option maxHeartbeats 8000000 in
set_option maxRecDepth 100000 in
theorem shape_Check.calls (a0_0 a0_1 a0_2 a0_3 r : Int) (w : World)  (h : shape_Check.f a0_0 a0_1 a0_2 a0_3 = some r) :
  Calls Try.prog 83 #[.agg #[.int .i64 a0_0, .int .i64 a0_1, .int .i64 a0_2, .int .i64 a0_3]] w fun e w' => e = .returned (.int .i64 r) ∧ Below w.heap.size w w' := by
 have H := m_ h
 clear h
 have hu27 := Try.underlying27
 have hu154 := Try.underlying154
 have hu155 := Try.underlying155
 have i0 : ∀ (W : World) (x0 x1 x2 x3 x4 x5 x6 x7 x8 x9 x10 x11 : Value), (Instr.index 155 (.agg #[x0, x1, x2, x3, x4, x5, x6, x7, x8, x9, x10, x11]) (.int .i64 0)).run Try.prog W = .ok (.agg #[x0, x1, x2]) W := fun _ _ _ _ _ _ _ _ _ _ _ _ _ => by kernel_rfl
 have i1 : ∀ (W : World) (x0 x1 x2 x3 x4 x5 x6 x7 x8 x9 x10 x11 : Value), (Instr.index 155 (.agg #[x0, x1, x2, x3, x4, x5, x6, x7, x8, x9, x10, x11]) (.int .i64 1)).run Try.prog W = .ok (.agg #[x3, x4, x5]) W := fun _ _ _ _ _ _ _ _ _ _ _ _ _ => by kernel_rfl
 have i2 : ∀ (W : World) (x0 x1 x2 x3 x4 x5 x6 x7 x8 x9 x10 x11 : Value), (Instr.index 155 (.agg #[x0, x1, x2, x3, x4, x5, x6, x7, x8, x9, x10, x11]) (.int .i64 2)).run Try.prog W = .ok (.agg #[x6, x7, x8]) W := fun _ _ _ _ _ _ _ _ _ _ _ _ _ => by kernel_rfl
 have i3 : ∀ (W : World) (x0 x1 x2 x3 x4 x5 x6 x7 x8 x9 x10 x11 : Value), (Instr.index 155 (.agg #[x0, x1, x2, x3, x4, x5, x6, x7, x8, x9, x10, x11]) (.int .i64 3)).run Try.prog W = .ok (.agg #[x9, x10, x11]) W := fun _ _ _ _ _ _ _ _ _ _ _ _ _ => by kernel_rfl
 go_enter Try.func83, Try.ntmps83
 go_wp2
 refine wp_loop_rounds 5 ?_
 rw [rounds_succ]
 go_wp2
 all_goals (try (rw [rounds_succ]; go_wp2))
 all_goals (try (rw [rounds_succ]; go_wp2))
 all_goals (try (rw [rounds_succ]; go_wp2))
 all_goals (try (rw [rounds_succ]; go_wp2))
 all_goals go_ret
 all_goals
  have h := H.out
  try simp only [beq_iff_eq, beq_eq_false_iff_ne, ne_eq] at *
  unfold shape_Check.f at h
  first
  | (rw [if_pos (by simp [c0_]; omega)] at h; exact ⟨ret_i64 (Option.some.inj h), by repeat (first | exact Below.refl _ _ | apply b2_ | refine b3_ ?_ (by simp; omega))⟩)
  | (rw [if_neg (by simp [c0_]; omega)] at h; exact ⟨ret_i64 (Option.some.inj h), by repeat (first | exact Below.refl _ _ | apply b2_ | refine b3_ ?_ (by simp; omega))⟩)
def eachI (have_ need : Int) : Int := if need = 0 then 16 else have_ / need
set_option maxHeartbeats 4000000 in
set_option maxRecDepth 100000 in
theorem each_any (a b : Int) (ha0 : 0 ≤ a) (ha : a ≤ 9223372036854775807) (hb : 0 ≤ b) (w : World) : Calls Try.prog 112 #[.int .i64 a, .int .i64 b] w fun e w' => e = .returned (.int .i64 (eachI a b)) ∧ w' = w := by
 have hu3 := Try.underlying3
 by_cases h0 : b = 0
 ·have b1 : (b == 0) = true := by simpa using h0
  have e : eachI a b = 16 := by rw [eachI, if_pos h0]
  rw [e]
  clear h0 e
  go_enter Try.func112, Try.ntmps112
  go_wp2
  all_goals go_ret
  all_goals exact ⟨rfl, rfl⟩
 ·have b1 : (b == 0) = false := by simpa using h0
  have e : eachI a b = a / b := by rw [eachI, if_neg h0]
  rw [e]
  have hne := h0
  clear e
  go_enter Try.func112, Try.ntmps112
  go_wp2
  all_goals go_ret
  all_goals exact ⟨rfl, rfl⟩
set_option maxHeartbeats 4000000 in
set_option maxRecDepth 100000 in
theorem least3 (b : Nat) (x y z : Int) (w : World) (h : w.heap[b]? = some (.cells #[.int .i64 x, .int .i64 y, .int .i64 z] 3 (0, 0))) :
  Calls Try.prog 113 #[.slice (some ⟨b, 0, none⟩) 3 3] w fun e w' => e = .returned (.int .i64 (min (min x y) z)) ∧ w' = w := by
 have hu3 := Try.underlying3
 have hu71 := Try.underlying71
 obtain ⟨c0, c1, c2⟩ := cz3_ ⟨h⟩
 clear h
 go_enter Try.func113, Try.ntmps113
 go_wp2
 refine wp_loop_rounds 3 ?_
 rw [rounds_succ]
 go_wp2
 all_goals (try (rw [rounds_succ]; go_wp2))
 all_goals (try (rw [rounds_succ]; go_wp2))
 all_goals go_ret
 all_goals exact ⟨ret_i64 (by omega), rfl⟩
def fitN (g c m cpus : Int) : Int := min 16 (min (eachI (popI m) g) (eachI cpus c))
def fitV (g c mn mx m cpus : Int) : Int := if c0_ g c mn mx = true ∧ 0 ≤ cpus then fitN g c m cpus else 0
def shape_Fits.f (a0_0 a0_1 a0_2 a0_3 a1_0 a1_1 a1_2 a1_3 : Int) : Option (Int) :=
 if 0 ≤ a1_2 ∧ a1_2 < 18446744073709551616 ∧ a1_3 ≤ 9223372036854775807 then some (fitV a0_0 a0_1 a0_2 a0_3 a1_2 a1_3) else none
theorem popN_le (m : Nat) : popN m ≤ 64 := by
 unfold popN pos
 have := List.length_filter_le (fun i => m.testBit i) (List.range 64)
 simpa using this
theorem popI_bd (m : Int) : 0 ≤ popI m ∧ popI m ≤ 64 := by
 have := popN_le m.toNat
 unfold popI; omega
set_option maxHeartbeats 8000000 in
set_option maxRecDepth 100000 in
theorem fits_any (a0_0 a0_1 a0_2 a0_3 a1_0 a1_1 a1_2 a1_3 : Int) (w : World) (hm0 : 0 ≤ a1_2) (hm1 : a1_2 < 18446744073709551616) (hc1 : a1_3 ≤ 9223372036854775807) :
  Calls Try.prog 87 #[.agg #[.int .i64 a0_0, .int .i64 a0_1, .int .i64 a0_2, .int .i64 a0_3], .agg #[.int .i64 a1_0, .int .i64 a1_1, .int .u64 a1_2, .int .i64 a1_3]] w fun e w' => e = .returned (.int .i64 (fitV a0_0 a0_1 a0_2 a0_3 a1_2 a1_3)) ∧ Below w.heap.size w w' := by
 have hu27 := Try.underlying27
 have hu51 := Try.underlying51
 have HM := m_ (And.intro hm0 hm1)
 have HC := m_ hc1
 clear hm0 hm1 hc1
 have hck := fun w => shape_Check.calls a0_0 a0_1 a0_2 a0_3 _ w rfl
 by_cases hg : c0_ a0_0 a0_1 a0_2 a0_3 = true
 ·rw [if_pos hg] at hck
  have hg' := hg
  simp only [c0_, Bool.and_eq_true, decide_eq_true_eq] at hg'
  have HG := m_ (And.intro (show 0 ≤ a0_0 by omega) (show 0 ≤ a0_1 by omega))
  have HK := m_ hck
  clear hck hg'
  by_cases hcp : a1_3 < 0
  ·have HN : fitV a0_0 a0_1 a0_2 a0_3 a1_2 a1_3 = 0 := by unfold fitV; rw [if_neg (by omega)]
   rw [HN]
   clear HN hg
   go_enter Try.func87, Try.ntmps87
   go_wp2_with (first | ((with_reducible refine a3_ (N := 2) rfl ?_); refine bx 2 #[.int .i64 a0_0, .int .i64 a0_1, .int .i64 a0_2, .int .i64 a0_3] 27 ?_; intro g2 hg2 w2 hx2 hb2; have HB2 := m_ hb2; clear hb2 hg2) | ((with_reducible refine a3_ (N := 3) rfl ?_); refine bx 3 #[.int .i64 a1_0, .int .i64 a1_1, .int .u64 a1_2, .int .i64 a1_3] 51 ?_; intro g3 hg3 w3 hx3 hb3; replace hx2 := a1_ hx2 hb3; have HB3 := m_ (a7_ HB2.out hb3); clear hb3 hg3; have e0 := (a0_ hx2 0).trans rfl; have e1 := (a0_ hx2 1).trans rfl; have e2 := (a0_ hx2 2).trans rfl; have e3 := (a0_ hx2 3).trans rfl) | (go_at_call 83; refine (HK.out _).mono ?_; rintro e w4 ⟨rfl, hb⟩; clear e0 e1 e2 e3; replace hx2 := a1_ hx2 hb; replace hx3 := a1_ hx3 hb; have HB4 := m_ (a7_ HB3.out hb); clear hb; have f0 := (a0_ hx2 0).trans rfl; have f1 := (a0_ hx2 1).trans rfl; have f2 := (a0_ hx3 2).trans rfl; have f3 := (a0_ hx3 3).trans rfl))
   all_goals go_ret
   all_goals exact ⟨rfl, HB4.out⟩
  ·have HN : fitV a0_0 a0_1 a0_2 a0_3 a1_2 a1_3 = fitN a0_0 a0_1 a1_2 a1_3 := by unfold fitV; rw [if_pos ⟨hg, by omega⟩]
   rw [HN]
   clear HN hg
   have H0 : 0 ≤ a1_3 := by omega
   have E1 := m_ (fun w => each_any (popI a1_2) a0_0 (popI_bd a1_2).1 (by have := (popI_bd a1_2).2; omega) HG.out.1 w)
   have E2 := m_ (fun w => each_any a1_3 a0_1 H0 HC.out HG.out.2 w)
   clear H0
   go_enter Try.func87, Try.ntmps87
   go_wp2_with (first | ((with_reducible refine a3_ (N := 2) rfl ?_); refine bx 2 #[.int .i64 a0_0, .int .i64 a0_1, .int .i64 a0_2, .int .i64 a0_3] 27 ?_; intro g2 hg2 w2 hx2 hb2; have HB2 := m_ hb2; clear hb2 hg2) | ((with_reducible refine a3_ (N := 3) rfl ?_); refine bx 3 #[.int .i64 a1_0, .int .i64 a1_1, .int .u64 a1_2, .int .i64 a1_3] 51 ?_; intro g3 hg3 w3 hx3 hb3; replace hx2 := a1_ hx2 hb3; have HB3 := m_ (a7_ HB2.out hb3); clear hb3 hg3; have e0 := (a0_ hx2 0).trans rfl; have e1 := (a0_ hx2 1).trans rfl; have e2 := (a0_ hx2 2).trans rfl; have e3 := (a0_ hx2 3).trans rfl) | (go_at_call 83; refine (HK.out _).mono ?_; rintro e w4 ⟨rfl, hb⟩; clear e0 e1 e2 e3; replace hx2 := a1_ hx2 hb; replace hx3 := a1_ hx3 hb; have HB4 := m_ (a7_ HB3.out hb); clear hb; have f0 := (a0_ hx2 0).trans rfl; have f1 := (a0_ hx2 1).trans rfl; have f2 := (a0_ hx3 2).trans rfl; have f3 := (a0_ hx3 3).trans rfl))
   go_still_tail 13, (by kernel_rfl)
   still_call ((count_any _ HM.out.1 HM.out.2 _))
   repeat still_step
   still_call (E1.out _)
   repeat still_step
   still_call (E2.out _)
   refine wpStill_nil ?_
   change wpList _ _ _ _ _ w4.drew
   replace HB4 := m_ (b5_ HB4.out)
   clear f0 f1 f2 f3 hx2 hx3
   generalize w4.drew = w5 at *
   have hL := m_ (least3 w5.heap.size 16 (eachI (popI a1_2) a0_0) (eachI a1_3 a0_1) _ (heap_alloc_new w5 _))
   go_wp2_with (go_at_call 113; refine hL.out.mono ?_; rintro e w6 ⟨rfl, rfl⟩)
   go_ret
   exact ⟨rfl, b2_ HB4.out _⟩
 ·rw [if_neg hg] at hck
  have HN : fitV a0_0 a0_1 a0_2 a0_3 a1_2 a1_3 = 0 := by unfold fitV; rw [if_neg (fun h => hg h.1)]
  rw [HN]
  have HK := m_ hck
  clear hck hg HN
  go_enter Try.func87, Try.ntmps87
  go_wp2_with (first | ((with_reducible refine a3_ (N := 2) rfl ?_); refine bx 2 #[.int .i64 a0_0, .int .i64 a0_1, .int .i64 a0_2, .int .i64 a0_3] 27 ?_; intro g2 hg2 w2 hx2 hb2; have HB2 := m_ hb2; clear hb2 hg2) | ((with_reducible refine a3_ (N := 3) rfl ?_); refine bx 3 #[.int .i64 a1_0, .int .i64 a1_1, .int .u64 a1_2, .int .i64 a1_3] 51 ?_; intro g3 hg3 w3 hx3 hb3; replace hx2 := a1_ hx2 hb3; have HB3 := m_ (a7_ HB2.out hb3); clear hb3 hg3; have e0 := (a0_ hx2 0).trans rfl; have e1 := (a0_ hx2 1).trans rfl; have e2 := (a0_ hx2 2).trans rfl; have e3 := (a0_ hx2 3).trans rfl) | (go_at_call 83; refine (HK.out _).mono ?_; rintro e w4 ⟨rfl, hb⟩; clear e0 e1 e2 e3; replace hx2 := a1_ hx2 hb; replace hx3 := a1_ hx3 hb; have HB4 := m_ (a7_ HB3.out hb); clear hb; have f0 := (a0_ hx2 0).trans rfl; have f1 := (a0_ hx2 1).trans rfl; have f2 := (a0_ hx3 2).trans rfl; have f3 := (a0_ hx3 3).trans rfl))
  all_goals go_ret
  all_goals exact ⟨rfl, HB4.out⟩
theorem shape_Fits.calls (a0_0 a0_1 a0_2 a0_3 a1_0 a1_1 a1_2 a1_3 r : Int) (w : World) (h : shape_Fits.f a0_0 a0_1 a0_2 a0_3 a1_0 a1_1 a1_2 a1_3 = some r) :
  Calls Try.prog 87 #[.agg #[.int .i64 a0_0, .int .i64 a0_1, .int .i64 a0_2, .int .i64 a0_3], .agg #[.int .i64 a1_0, .int .i64 a1_1, .int .u64 a1_2, .int .i64 a1_3]] w fun e w' => e = .returned (.int .i64 r) ∧ Below w.heap.size w w' := by
 unfold shape_Fits.f at h
 split at h
 ·rename_i hh
  obtain rfl := Option.some.inj h
  exact fits_any a0_0 a0_1 a0_2 a0_3 a1_0 a1_1 a1_2 a1_3 w hh.1 hh.2.1 hh.2.2
 ·cases h
end Go.Proofs.Ytckhjehibjdjdaa.P
namespace Go.Proofs.Ytckhjehibjdjdaa.P
open Go.RowKit Go.Shelf Go.Proofs.YtckhjehibjdjdaaW.PrintWords Go.Proofs.YtckhjehibjdjdaaW.PrintLast Go.Proofs.YtckhjehibjdjdaaW.PrintMore
attribute [local go_sem] Oper.semAt_some
set_option maxHeartbeats 4000000 in
set_option maxRecDepth 100000 in
theorem clone84_any (A0 : Option Addr) (c0 : Nat) (l0 : List S51) (w : World) (hr0 : Kd.C k51 w A0 l0.length l0) (hc0 : l0.length ≤ c0) (hl : l0.length < 4398046511104) :
  Calls Try.prog 84 #[.slice A0 l0.length c0] w fun e w' => ∃ v0_ : Value, e = .returned v0_ ∧ Kd.R k51 51 w' w.heap.size (fun _ => True) v0_ l0 ∧ Below w.heap.size w w' := by
 have hu22 := Try.underlying22
 have q22 : ∀ (w : World) (a : Option Addr) (n c n' c' : Nat), (binOp .eql 22 (.slice a n c) (.slice none n' c')).run Try.prog w = .ok (.bool a.isNone) w := fun w a n c n' c' => Lib.run_eql_slice_nil w _ _ a n c n' c' Try.underlying22
 have HR := m_ hr0
 have HL := m_ hl
 cases A0 with
 | none =>
  have h0 : l0 = [] := by
   rcases Nat.eq_zero_or_pos l0.length with h | h
   ·exact List.eq_nil_of_length_eq_zero h
   ·obtain ⟨ad, hA, _⟩ := hr0.2.2 h
    cases hA
  subst h0
  clear hr0 hl
  go_enter Try.func84, Try.ntmps84
  go_wp2
  all_goals go_ret
  all_goals exact ⟨_, rfl, Kd.R_nil _ _ _ _ _, Below.refl _ _⟩
 | some ad =>
  clear hr0 hl
  go_enter Try.func84, Try.ntmps84
  go_wp2_with (first | ((with_reducible refine a3_ (N := 5) rfl ?_); refine Kd.R_lit k51 _ 51 ?hg (N := 5) ?hd (xs := ([] : List (S51))) (inner := []) (ok := fun _ => True) (okp := fun _ => True) ?hr ?hp (fun _ hk => hk) trivial (Below.refl _ _) (Nat.le_refl _) (by simp) ?_; (case hd => rfl); (case hg => rfl); (case hr => first | (go_simp; done) | (go_simp; rfl)); (case hp => exact (Reps.none _ _)); intro v5 w5 ho5 hb hg_ hnew_; have HO5 := m_ ho5; have HB5 := m_ hb; clear hg_ hnew_ ho5 hb) | (refine Kd.R_append_rows k51 (w0 := w) w.heap.size rfl (.tmp 5) (.tmp 6) 22 51 (.agg #[(.int .i64 0), (.int .i64 0), (.int .u64 0), (.int .i64 0)]) 32 rfl Try.underlying22 info51 rfl (by decide) (by omega) v5 [] l0 _ _ _ (fun _ => True) (fun _ => False) rfl rfl HO5.out (Kd.C_below HR.out HB5.out) (fun _ _ h => h) (fun _ h => h.elim) (fun _ _ => trivial) HB5.out (b4_ HB5.out) (by have := HL.out; simp; omega) ?_; intro v7 w7 ho hb hg hat; have HO7 := m_ ho; have HB7 := m_ hb; clear ho hb hg hat))
  all_goals go_ret
  all_goals exact ⟨_, rfl, HO7.out, HB7.out⟩
end Go.Proofs.Ytckhjehibjdjdaa.P
namespace Go.Proofs.Ytckhjehibjdjdaa.P
open Go.RowKit Go.Maps Go.WideMaps Go.Proofs.Ytckhjehibjdjdaa.Mp
theorem key48 : PairKey Try.prog 48 := by
 refine ⟨Keyed.of_law (deep_law (m := 3) (by omega) (by kernel_rfl) (by kernel_rfl) (by rw [Try.underlying48])), ?_⟩
 intro a b ha hb
 have hs : ∃ m, Try.prog.types.size = m + 1 := ⟨Try.prog.types.size - 1, by kernel_rfl⟩
 obtain ⟨m, hm⟩ := hs
 have hkt : Try.prog.keyType 48 = true := by kernel_rfl
 have u3 := Try.underlying3
 have c48 : Try.prog.cellsOf 48 = 2 := by kernel_rfl
 have c3 : Try.prog.cellsOf 3 = 1 := by kernel_rfl
 have ha' : (Lit.int .i64 a).wf = true := ha
 have hb' : (Lit.int .i64 b).wf = true := hb
 have hf : (Value.agg #[.int .i64 a, .int .i64 b]).formed Try.prog 48 = true := by
  simp [Value.formed, Try.underlying48, c48]
 unfold keyOf
 simp only [Try.underlying48, hkt, hf, Bool.true_and, if_true, Bool.and_self]
 rw [hm]
 simp [Program.keyLits, Try.underlying48, Value.cells, u3, ha', hb', c48, c3, skey]
end Go.Proofs.Ytckhjehibjdjdaa.P
namespace Go.Proofs.Ytckhjehibjdjdaa.P
open Go.RowKit Go.Shelf Go.Proofs.YtckhjehibjdjdaaW.PrintWords Go.Proofs.YtckhjehibjdjdaaW.PrintLast Go.Proofs.YtckhjehibjdjdaaW.PrintMore
attribute [local go_sem] Oper.semAt_some
def moreE (f : S51) (s : S52) : Int := if Go.bits .and .u64 s.f1 f.f1 ≠ 0 then 4 else if s.f2 > wrap64 (1048576 - f.f2) then 14 else 0
def moreF (f : S51) (s : S52) : S51 := ⟨f.f0, Go.bits .or .u64 f.f1 s.f1, wrap64 (f.f2 + s.f2)⟩
def lessE (f : S51) (s : S52) : Int := if Go.bits .andNot .u64 s.f1 f.f1 ≠ 0 then 5 else if s.f2 > f.f2 then 5 else 0
def lessF (f : S51) (s : S52) : S51 := ⟨f.f0, Go.bits .andNot .u64 f.f1 s.f1, wrap64 (f.f2 - s.f2)⟩
def putF (cur : Array Value) (o : Nat) (f : S51) : Array Value := (cur.setIfInBounds (o + 2) (.int .u64 f.f1)).setIfInBounds (o + 3) (.int .i64 f.f2)
theorem grown_set {w W : World} {g j : Nat} {v : Value} (h : w.grownBy W (some g)) : w.grownBy (W.setCell ⟨g, j, none⟩ v) (some g) :=
 ⟨h.os, h.tape, h.output, by simpa using h.size, fun k hk hne => (Below.heap_setCell W _ v k (fun e => hne (by rw [e]))).trans (h.block k hk hne)⟩
theorem grown_drew {w W : World} {g : Nat} (h : w.grownBy W (some g)) : w.grownBy W.drew (some g) := ⟨h.os, h.tape, h.output, h.size, h.block⟩
theorem d1_ {w W : World} {g : Nat} (h : Below w.heap.size w W) : w.grownBy W (some g) := ⟨h.os, h.tape, h.output, h.size, fun k hk _ => h.block k hk⟩
set_option maxHeartbeats 8000000 in
set_option maxRecDepth 100000 in
theorem more1_any (g o : Nat) (cur : Array Value) (f : S51) (s : S52) (w : World) (hb : w.heap[g]? = some (.cells cur 51 (0, 0))) (h2 : cur[o + 2]? = some (.int .u64 f.f1)) (h3 : cur[o + 3]? = some (.int .i64 f.f2)) :
  Calls Try.prog 92 #[.pointer (some ⟨g, o, none⟩), .agg #[.int .i64 s.f0.f0, .int .i64 s.f0.f1, .int .u64 s.f1, .int .i64 s.f2]] w fun e w' => e = .returned (.int .i64 (moreE f s)) ∧ w.grownBy w' (some g) ∧ w'.heap[g]? = some (.cells (if moreE f s = 0 then putF cur o (moreF f s) else cur) 51 (0, 0)) := by
 have hu52 := Try.underlying52
 have hu51 := Try.underlying51
 have hu49 := Try.underlying49
 obtain ⟨⟨n0, n1⟩, m, c⟩ := f
 obtain ⟨⟨s0, s1⟩, sm, sc⟩ := s
 simp only at h2 h3
 have hlt : g < w.heap.size := (Array.getElem?_eq_some_iff.1 hb).1
 have HB := m_ hb
 have H2 := m_ h2
 have H3 := m_ h3
 clear hb h2 h3
 by_cases q1 : Go.bits .and .u64 sm m = 0
 ·have b1 : (Go.bits .and .u64 sm m != 0) = false := by simpa using q1
  by_cases q2 : sc > wrap64 (1048576 - c)
  ·have b2 : decide (wrap64 (1048576 - c) < sc) = true := by simpa using q2
   have HE : moreE ⟨⟨n0, n1⟩, m, c⟩ ⟨⟨s0, s1⟩, sm, sc⟩ = 14 := by simp only [moreE]; rw [if_neg (by simpa using q1), if_pos q2]
   rw [HE, if_neg (by decide)]
   go_enter Try.func92, Try.ntmps92
   go_wp2_with (first | ((with_reducible refine a3_ (N := 3) rfl ?_); refine bx 3 #[.int .i64 s0, .int .i64 s1, .int .u64 sm, .int .i64 sc] 52 ?_; intro g3 hg3 w3 hx3 hb3; have hne : g ≠ g3 := (by omega); have HB3 := m_ hb3; have hbk := hb3.block g hlt; rw [HB.out] at hbk; have HX := m_ hbk; have f1 : w3.cell? ⟨g3, 2, none⟩ = some (.int .u64 sm) := (a0_ hx3 2).trans rfl; have f2 : w3.cell? ⟨g3, 3, none⟩ = some (.int .i64 sc) := (a0_ hx3 3).trans rfl; have k2 := (a0_ hbk (o + 2)).trans H2.out; have k3 := (a0_ hbk (o + 3)).trans H3.out; have z2 := a2_ hbk (o + 2); have z3 := a2_ hbk (o + 3); clear hg3 hb3 hbk))
   go_quiet (fail)
   go_wp2
   go_quiet (fail)
   go_wp2
   go_ret
   exact ⟨rfl, d1_ (by repeat (first | exact HB3.out | apply c7_)), by simpa using HX.out⟩
  ·have b2 : decide (wrap64 (1048576 - c) < sc) = false := by simpa using q2
   have HE : moreE ⟨⟨n0, n1⟩, m, c⟩ ⟨⟨s0, s1⟩, sm, sc⟩ = 0 := by simp only [moreE]; rw [if_neg (by simpa using q1), if_neg q2]
   rw [HE, if_pos rfl]
   go_enter Try.func92, Try.ntmps92
   go_wp2_with (first | ((with_reducible refine a3_ (N := 3) rfl ?_); refine bx 3 #[.int .i64 s0, .int .i64 s1, .int .u64 sm, .int .i64 sc] 52 ?_; intro g3 hg3 w3 hx3 hb3; have hne : g ≠ g3 := (by omega); have HB3 := m_ hb3; have hbk := hb3.block g hlt; rw [HB.out] at hbk; have HX := m_ hbk; have f1 : w3.cell? ⟨g3, 2, none⟩ = some (.int .u64 sm) := (a0_ hx3 2).trans rfl; have f2 : w3.cell? ⟨g3, 3, none⟩ = some (.int .i64 sc) := (a0_ hx3 3).trans rfl; have k2 := (a0_ hbk (o + 2)).trans H2.out; have k3 := (a0_ hbk (o + 3)).trans H3.out; have z2 := a2_ hbk (o + 2); have z3 := a2_ hbk (o + 3); clear hg3 hb3 hbk))
   go_quiet (fail)
   go_wp2
   go_quiet (fail)
   go_wp2
   generalize hw5 : (w3.drewN _).drewN _ = w5
   have hb5 : Below w.heap.size w w5 := by rw [← hw5]; repeat (first | exact HB3.out | apply c7_)
   have hx5 : w5.heap[g]? = some (.cells cur 51 (0, 0)) := by rw [← hw5]; exact HX.out
   have hy5 : w5.heap[g3]? = some (.cells #[.int .i64 s0, .int .i64 s1, .int .u64 sm, .int .i64 sc] 52 (0, 0)) := by rw [← hw5]; exact hx3
   clear hx3 f1 f2 k2 k3 z2 z3 hw5
   have f1 : w5.cell? ⟨g3, 2, none⟩ = some (.int .u64 sm) := (a0_ hy5 2).trans rfl
   have f2 : w5.cell? ⟨g3, 3, none⟩ = some (.int .i64 sc) := (a0_ hy5 3).trans rfl
   have k2 := (a0_ hx5 (o + 2)).trans H2.out
   have k3 := (a0_ hx5 (o + 3)).trans H3.out
   have z2 := a2_ hx5 (o + 2)
   have z3 := a2_ hx5 (o + 3)
   have hy6 := b8_ hy5 (p := ⟨g, o + 2, none⟩) (fun e => hne e.symm) (.int .u64 (Go.bits .or .u64 m sm))
   have hx6 := blk_set hx5 (o + 2) (.int .u64 (Go.bits .or .u64 m sm))
   have f3 : (w5.setCell ⟨g, o + 2, none⟩ (.int .u64 (Go.bits .or .u64 m sm))).cell? ⟨g3, 3, none⟩ = some (.int .i64 sc) := (a0_ hy6 3).trans rfl
   have k4 : (w5.setCell ⟨g, o + 2, none⟩ (.int .u64 (Go.bits .or .u64 m sm))).cell? ⟨g, o + 3, none⟩ = some (.int .i64 c) := (a0_ hx6 (o + 3)).trans (by rw [Array.getElem?_setIfInBounds_ne (by omega)]; exact H3.out)
   have z4 := a2_ hx6 (o + 3)
   have HB5 := m_ hb5
   have HX6 := m_ hx6
   clear hb5 hx5 hy5 hy6 hx6
   go_region
   go_wp2
   go_ret
   exact ⟨rfl, grown_drew (grown_set (grown_set (d1_ HB5.out))), blk_set HX6.out (o + 3) _⟩
 ·have b1 : (Go.bits .and .u64 sm m != 0) = true := by simpa using q1
  have HE : moreE ⟨⟨n0, n1⟩, m, c⟩ ⟨⟨s0, s1⟩, sm, sc⟩ = 4 := by simp only [moreE]; rw [if_pos q1]
  rw [HE, if_neg (by decide)]
  go_enter Try.func92, Try.ntmps92
  go_wp2_with (first | ((with_reducible refine a3_ (N := 3) rfl ?_); refine bx 3 #[.int .i64 s0, .int .i64 s1, .int .u64 sm, .int .i64 sc] 52 ?_; intro g3 hg3 w3 hx3 hb3; have hne : g ≠ g3 := (by omega); have HB3 := m_ hb3; have hbk := hb3.block g hlt; rw [HB.out] at hbk; have HX := m_ hbk; have f1 : w3.cell? ⟨g3, 2, none⟩ = some (.int .u64 sm) := (a0_ hx3 2).trans rfl; have f2 : w3.cell? ⟨g3, 3, none⟩ = some (.int .i64 sc) := (a0_ hx3 3).trans rfl; have k2 := (a0_ hbk (o + 2)).trans H2.out; have k3 := (a0_ hbk (o + 3)).trans H3.out; have z2 := a2_ hbk (o + 2); have z3 := a2_ hbk (o + 3); clear hg3 hb3 hbk))
  go_quiet (fail)
  go_wp2
  go_ret
  exact ⟨rfl, d1_ (by repeat (first | exact HB3.out | apply c7_)), by simpa using HX.out⟩
set_option maxHeartbeats 8000000 in
set_option maxRecDepth 100000 in
theorem less1_any (g o : Nat) (cur : Array Value) (f : S51) (s : S52) (w : World) (hb : w.heap[g]? = some (.cells cur 51 (0, 0))) (h2 : cur[o + 2]? = some (.int .u64 f.f1)) (h3 : cur[o + 3]? = some (.int .i64 f.f2)) :
  Calls Try.prog 91 #[.pointer (some ⟨g, o, none⟩), .agg #[.int .i64 s.f0.f0, .int .i64 s.f0.f1, .int .u64 s.f1, .int .i64 s.f2]] w fun e w' => e = .returned (.int .i64 (lessE f s)) ∧ w.grownBy w' (some g) ∧ w'.heap[g]? = some (.cells (if lessE f s = 0 then putF cur o (lessF f s) else cur) 51 (0, 0)) := by
 have hu52 := Try.underlying52
 have hu51 := Try.underlying51
 have hu49 := Try.underlying49
 obtain ⟨⟨n0, n1⟩, m, c⟩ := f
 obtain ⟨⟨s0, s1⟩, sm, sc⟩ := s
 simp only at h2 h3
 have hlt : g < w.heap.size := (Array.getElem?_eq_some_iff.1 hb).1
 have HB := m_ hb
 have H2 := m_ h2
 have H3 := m_ h3
 clear hb h2 h3
 by_cases q1 : Go.bits .andNot .u64 sm m = 0
 ·have b1 : (Go.bits .andNot .u64 sm m != 0) = false := by simpa using q1
  by_cases q2 : sc > c
  ·have b2 : decide (c < sc) = true := by simpa using q2
   have HE : lessE ⟨⟨n0, n1⟩, m, c⟩ ⟨⟨s0, s1⟩, sm, sc⟩ = 5 := by simp only [lessE]; rw [if_neg (by simpa using q1), if_pos q2]
   rw [HE, if_neg (by decide)]
   go_enter Try.func91, Try.ntmps91
   go_wp2_with (first | ((with_reducible refine a3_ (N := 3) rfl ?_); refine bx 3 #[.int .i64 s0, .int .i64 s1, .int .u64 sm, .int .i64 sc] 52 ?_; intro g3 hg3 w3 hx3 hb3; have hne : g ≠ g3 := (by omega); have HB3 := m_ hb3; have hbk := hb3.block g hlt; rw [HB.out] at hbk; have HX := m_ hbk; have f1 : w3.cell? ⟨g3, 2, none⟩ = some (.int .u64 sm) := (a0_ hx3 2).trans rfl; have f2 : w3.cell? ⟨g3, 3, none⟩ = some (.int .i64 sc) := (a0_ hx3 3).trans rfl; have k2 := (a0_ hbk (o + 2)).trans H2.out; have k3 := (a0_ hbk (o + 3)).trans H3.out; have z2 := a2_ hbk (o + 2); have z3 := a2_ hbk (o + 3); clear hg3 hb3 hbk))
   go_quiet (fail)
   go_wp2
   go_ret
   exact ⟨rfl, d1_ (by repeat (first | exact HB3.out | apply c7_)), by simpa using HX.out⟩
  ·have b2 : decide (c < sc) = false := by simpa using q2
   have HE : lessE ⟨⟨n0, n1⟩, m, c⟩ ⟨⟨s0, s1⟩, sm, sc⟩ = 0 := by simp only [lessE]; rw [if_neg (by simpa using q1), if_neg q2]
   rw [HE, if_pos rfl]
   go_enter Try.func91, Try.ntmps91
   go_wp2_with (first | ((with_reducible refine a3_ (N := 3) rfl ?_); refine bx 3 #[.int .i64 s0, .int .i64 s1, .int .u64 sm, .int .i64 sc] 52 ?_; intro g3 hg3 w3 hx3 hb3; have hne : g ≠ g3 := (by omega); have HB3 := m_ hb3; have hbk := hb3.block g hlt; rw [HB.out] at hbk; have HX := m_ hbk; have f1 : w3.cell? ⟨g3, 2, none⟩ = some (.int .u64 sm) := (a0_ hx3 2).trans rfl; have f2 : w3.cell? ⟨g3, 3, none⟩ = some (.int .i64 sc) := (a0_ hx3 3).trans rfl; have k2 := (a0_ hbk (o + 2)).trans H2.out; have k3 := (a0_ hbk (o + 3)).trans H3.out; have z2 := a2_ hbk (o + 2); have z3 := a2_ hbk (o + 3); clear hg3 hb3 hbk))
   go_quiet (fail)
   go_wp2
   generalize hw5 : w3.drewN _ = w5
   have hb5 : Below w.heap.size w w5 := by rw [← hw5]; repeat (first | exact HB3.out | apply c7_)
   have hx5 : w5.heap[g]? = some (.cells cur 51 (0, 0)) := by rw [← hw5]; exact HX.out
   have hy5 : w5.heap[g3]? = some (.cells #[.int .i64 s0, .int .i64 s1, .int .u64 sm, .int .i64 sc] 52 (0, 0)) := by rw [← hw5]; exact hx3
   clear hx3 f1 f2 k2 k3 z2 z3 hw5
   have f1 : w5.cell? ⟨g3, 2, none⟩ = some (.int .u64 sm) := (a0_ hy5 2).trans rfl
   have f2 : w5.cell? ⟨g3, 3, none⟩ = some (.int .i64 sc) := (a0_ hy5 3).trans rfl
   have k2 := (a0_ hx5 (o + 2)).trans H2.out
   have k3 := (a0_ hx5 (o + 3)).trans H3.out
   have z2 := a2_ hx5 (o + 2)
   have z3 := a2_ hx5 (o + 3)
   have hy6 := b8_ hy5 (p := ⟨g, o + 2, none⟩) (fun e => hne e.symm) (.int .u64 (Go.bits .andNot .u64 m sm))
   have hx6 := blk_set hx5 (o + 2) (.int .u64 (Go.bits .andNot .u64 m sm))
   have f3 : (w5.setCell ⟨g, o + 2, none⟩ (.int .u64 (Go.bits .andNot .u64 m sm))).cell? ⟨g3, 3, none⟩ = some (.int .i64 sc) := (a0_ hy6 3).trans rfl
   have k4 : (w5.setCell ⟨g, o + 2, none⟩ (.int .u64 (Go.bits .andNot .u64 m sm))).cell? ⟨g, o + 3, none⟩ = some (.int .i64 c) := (a0_ hx6 (o + 3)).trans (by rw [Array.getElem?_setIfInBounds_ne (by omega)]; exact H3.out)
   have z4 := a2_ hx6 (o + 3)
   have HB5 := m_ hb5
   have HX6 := m_ hx6
   clear hb5 hx5 hy5 hy6 hx6
   go_region
   go_wp2
   go_ret
   exact ⟨rfl, grown_drew (grown_set (grown_set (d1_ HB5.out))), blk_set HX6.out (o + 3) _⟩
 ·have b1 : (Go.bits .andNot .u64 sm m != 0) = true := by simpa using q1
  have HE : lessE ⟨⟨n0, n1⟩, m, c⟩ ⟨⟨s0, s1⟩, sm, sc⟩ = 5 := by simp only [lessE]; rw [if_pos q1]
  rw [HE, if_neg (by decide)]
  go_enter Try.func91, Try.ntmps91
  go_wp2_with (first | ((with_reducible refine a3_ (N := 3) rfl ?_); refine bx 3 #[.int .i64 s0, .int .i64 s1, .int .u64 sm, .int .i64 sc] 52 ?_; intro g3 hg3 w3 hx3 hb3; have hne : g ≠ g3 := (by omega); have HB3 := m_ hb3; have hbk := hb3.block g hlt; rw [HB.out] at hbk; have HX := m_ hbk; have f1 : w3.cell? ⟨g3, 2, none⟩ = some (.int .u64 sm) := (a0_ hx3 2).trans rfl; have f2 : w3.cell? ⟨g3, 3, none⟩ = some (.int .i64 sc) := (a0_ hx3 3).trans rfl; have k2 := (a0_ hbk (o + 2)).trans H2.out; have k3 := (a0_ hbk (o + 3)).trans H3.out; have z2 := a2_ hbk (o + 2); have z3 := a2_ hbk (o + 3); clear hg3 hb3 hbk))
  go_quiet (fail)
  go_wp2
  go_ret
  exact ⟨rfl, d1_ (by repeat (first | exact HB3.out | apply c7_)), by simpa using HX.out⟩
end Go.Proofs.Ytckhjehibjdjdaa.P
namespace Go.Proofs.Ytckhjehibjdjdaa.P
open Go.RowKit Go.Shelf Go.Proofs.YtckhjehibjdjdaaW.PrintWords Go.Proofs.YtckhjehibjdjdaaW.PrintLast Go.Proofs.YtckhjehibjdjdaaW.PrintMore
open Go.Proofs.Ytckhjehibjdjdaa.Mp
attribute [local go_sem] Oper.semAt_some
def ixS (l : List S51) : Nat → Int → Int → Option Int
 | 0 => fun _ _ => none
 | i + 1 => updS (ixS l i) (a4_ l i).f0.f0 (a4_ l i).f0.f1 i
def turnedL (E : S51 → S52 → Int) (F : S51 → S52 → S51) (ix : Int → Int → Option Int) : List S51 → List S52 → List S51 × Int
 | out, [] => (out, 0)
 | out, s :: ss => if s.f2 < 0 then ([], 1) else match ix s.f0.f0 s.f0.f1 with
  | none => ([], 3)
  | some k => if E (a4_ out k) s = 0 then turnedL E F ix (out.set k.toNat (F (a4_ out k) s)) ss else ([], E (a4_ out k) s)
theorem ixS_bd (l : List S51) : ∀ (i : Nat) (a b k : Int), ixS l i a b = some k → 0 ≤ k ∧ k < i
 | 0, _, _, _, h => by cases h
 | i + 1, a, b, k, h => by
  unfold ixS updS at h
  split at h
  ·cases h; omega
  ·have := ixS_bd l i a b k h; omega
def TurnC (fn : Nat) (E : S51 → S52 → Int) (F : S51 → S52 → S51) : Prop := ∀ (g o : Nat) (cur : Array Value) (f : S51) (s : S52) (w : World), w.heap[g]? = some (.cells cur 51 (0, 0)) → cur[o + 2]? = some (.int .u64 f.f1) → cur[o + 3]? = some (.int .i64 f.f2) →
  Calls Try.prog fn #[.pointer (some ⟨g, o, none⟩), .agg #[.int .i64 s.f0.f0, .int .i64 s.f0.f1, .int .u64 s.f1, .int .i64 s.f2]] w fun e w' => e = .returned (.int .i64 (E f s)) ∧ w.grownBy w' (some g) ∧ w'.heap[g]? = some (.cells (if E f s = 0 then putF cur o (F f s) else cur) 51 (0, 0))
theorem own51 {W : World} {base : Nat} {ok : Nat → Prop} {v : Value} {out : List S51} (h : Kd.R k51 51 W base ok v out) (hn : 0 < out.length) :
  ∃ g cap cur, v = .slice (some ⟨g, 0, none⟩) out.length cap ∧ ok g ∧ base ≤ g ∧ W.heap[g]? = some (.cells cur 51 (0, 0)) := by
 obtain ⟨hok, inner, ⟨_, hv⟩, _⟩ := h
 rcases hv with ⟨_, h0⟩ | ⟨g, cap, cur, rfl, hg, hh, _⟩
 ·omega
 ·exact ⟨g, cap, cur, rfl, hok g (by simp [Value.ownBlock]), hg, hh⟩
theorem R_turn {W W' : World} {base B0 g n cap : Nat} {cur : Array Value} {out : List S51} {k : Nat} {f' : S51} (HO : Kd.R k51 51 W base (fun k => k < B0) (.slice (some ⟨g, 0, none⟩) n cap) out) (hB0 : B0 ≤ W.heap.size) (hk : k < n)
  (hh : W.heap[g]? = some (.cells cur 51 (0, 0))) (hf0 : f'.f0 = (a4_ out (k : Int)).f0) (hg : W.grownBy W' (some g)) (hx : W'.heap[g]? = some (.cells (putF cur (k * 4) f') 51 (0, 0))) :
  Kd.R k51 51 W' base (fun k => k < B0) (.slice (some ⟨g, 0, none⟩) n cap) (out.set k f') := by
 obtain ⟨hn, _, hC⟩ := Kd.R_reads' HO
 obtain ⟨ad, e0, x0, x1, x2, x3⟩ := at_T51 hC (k : Int) (by omega) (by omega)
 cases e0
 have hsz : k51.sz = 4 := rfl
 simp only [Int.toNat_natCast, c9_, Nat.zero_add] at x0 x1 x2 x3
 have hs := (Kd.R_seg HO (k : Int) (by omega) (by omega) (c := [.int .i64 (a4_ out (k : Int)).f0.f0, .int .i64 (a4_ out (k : Int)).f0.f1, .int .u64 (a4_ out (k : Int)).f1, .int .i64 (a4_ out (k : Int)).f2]) (seg := [.int .u64 f'.f1, .int .i64 f'.f2]) (j := 2) rfl (by
  intro j u hu
  rw [Int.toNat_natCast, hsz]
  match j, hu with
  | 0, hu => cases hu; exact x0
  | 1, hu => cases hu; exact x1
  | 2, hu => cases hu; exact x2
  | 3, hu => cases hu; exact x3
  | j + 4, hu => simp at hu) (by rw [hsz]; simp) (x' := f') (okp := fun _ => False) (by
   have := k51_mkM W base (fun _ => False) f'
   rw [hf0] at this
   exact this) (fun _ h => h.elim)).1
 rw [Int.toNat_natCast] at hs
 refine Kd.R_move hs (fun k' hk' => ?_)
 by_cases e : k' = g
 ·subst e
  rw [hx]
  have h1 := blk_set hh (k * 4 + 2) (.int .u64 f'.f1)
  have h2 := blk_set h1 (k * 4 + 3) (.int .i64 f'.f2)
  simp only [World.setCells, hsz]
  rw [h2]; rfl
 ·rw [hg.block k' (by omega) (by simpa using e)]
  simp only [World.setCells]
  rw [Below.heap_setCell _ _ _ _ (by simpa using e), Below.heap_setCell _ _ _ _ (by simpa using e)]
theorem turned_cons (E : S51 → S52 → Int) (F : S51 → S52 → S51) (ix : Int → Int → Option Int) (out : List S51) (l1 : List S52) (j : Nat) (h : j < l1.length) :
  turnedL E F ix out (l1.drop j) = if (a5_ l1 (j : Int)).f2 < 0 then ([], 1) else match ix (a5_ l1 (j : Int)).f0.f0 (a5_ l1 (j : Int)).f0.f1 with
   | none => ([], 3)
   | some k => if E (a4_ out k) (a5_ l1 (j : Int)) = 0 then turnedL E F ix (out.set k.toNat (F (a4_ out k) (a5_ l1 (j : Int)))) (l1.drop (j + 1)) else ([], E (a4_ out k) (a5_ l1 (j : Int))) := by
 have e : a5_ l1 (j : Int) = l1[j] := by simp [a5_, List.getD_eq_getElem?_getD, List.getElem?_eq_getElem h]
 rw [e, List.drop_eq_getElem_cons h, turnedL]
theorem zero3 (w : World) : (zeroValue 3).run Try.prog w = .ok (.int .i64 0) w := by kernel_rfl
set_option maxHeartbeats 8000000 in
set_option maxRecDepth 100000 in
theorem turned_any (fn : Nat) (E : S51 → S52 → Int) (F : S51 → S52 → S51) (HT : TurnC fn E F) (hent : ∀ args W, (callFunc fn args).run Try.prog W = .ok (.enter fn args) W) (hF : ∀ f s, (F f s).f0 = f.f0)
  (A0 : Option Addr) (c0 : Nat) (l0 : List S51) (A1 : Option Addr) (c1 : Nat) (l1 : List S52) (w : World) (hr0 : Kd.C k51 w A0 l0.length l0) (hc0 : l0.length ≤ c0) (hr1 : Kd.C k52 w A1 l1.length l1) (hc1 : l1.length ≤ c1)
  (hl : l0.length < 4398046511104) (hw0 : ∀ i, i < l0.length → W64 (a4_ l0 i).f0.f0 ∧ W64 (a4_ l0 i).f0.f1) (hw1 : ∀ i, i < l1.length → W64 (a5_ l1 i).f0.f0 ∧ W64 (a5_ l1 i).f0.f1) :
  Calls Try.prog 90 #[.slice A0 l0.length c0, .slice A1 l1.length c1, .func (.func fn) #[] #[]] w fun e w' => ∃ v0_ : Value, e = .returned (.tuple #[v0_, .int .i64 (turnedL E F (ixS l0 l0.length) l0 l1).2]) ∧ Kd.R k51 51 w' w.heap.size (fun _ => True) v0_ (turnedL E F (ixS l0 l0.length) l0 l1).1 ∧ Below w.heap.size w w' := by
 have hu51 := Try.underlying51
 have hu52 := Try.underlying52
 have hu48 := Try.underlying48
 have hu70 := Try.underlying70
 have hmm := @run_makeMap Try.prog
 have HR0 := m_ hr0
 have HR1 := m_ hr1
 have HW0 := m_ hw0
 have HW1 := m_ hw1
 have HTT := m_ HT
 have HL := m_ hl
 have HC0 := m_ hc0
 clear hr0 hr1 hw0 hw1 HT hl hc0
 have hlen1 : l1.length ≤ 9223372036854775807 := HR1.out.2.1
 obtain ⟨ix, hN⟩ : ∃ ix, ixS l0 l0.length = ix := ⟨_, rfl⟩
 rw [hN]
 have HN := m_ hN
 clear hN
 go_enter Try.func90, Try.ntmps90
 go_wp2_with (go_at_call 84; refine (clone84_any A0 c0 l0 _ HR0.out HC0.out HL.out).mono ?_; rintro e w8 ⟨v8, rfl, ho8, hb8⟩; obtain ⟨A8, c8, rfl, hc8, _⟩ := Kd.R_reads ho8; have HC8 := m_ hc8; clear hc8; have HB8 := m_ hb8; clear hb8; have HO8 := m_ (Kd.R_mono (Kd.R_bound ho8) (fun k hk => (hk.2.2.1 : k < w8.heap.size))); clear ho8)
 go_loopw [22] (fun v22 wr => ∃ i : Nat, i ≤ l0.length ∧ v22 = .int .i64 (i : Int) ∧ A_ (Kd.R k51 51 wr w.heap.size (fun k => k < w8.heap.size) (.slice A8 l0.length c8) l0) ∧ A_ (MapS Try.prog 48 3 wr w8.heap.size i (ixS l0 i)) ∧ A_ (Below w.heap.size w wr)) (fun v22 _ => l0.length - (intOf v22).toNat)
 case atStart => exact ⟨0, Nat.zero_le _, rfl, ⟨Kd.R_alloc HO8.out _⟩, ⟨MapS.made _ _ _ _⟩, ⟨b2_ HB8.out _⟩⟩
 case round =>
  obtain ⟨i, hi, rfl, HO, HM, HB⟩ := hrel
  by_cases hlt : i < l0.length
  ·have h0 : 0 ≤ (i : Int) := by omega
   have h1' : (i : Int) < l0.length := by omega
   obtain ⟨ad, e0, x0, x1, x2, x3⟩ := at_T51 (Kd.R_reads' HO.out).2.2 (i : Int) h0 h1'
   cases e0
   simp only [Int.toNat_natCast] at x0 x1 x2 x3
   have hw := HW0.out i hlt
   have hl' := HL.out
   go_wp2_with (at_mapUpdate; refine wp_update_S rfl key48 _ _ _ 70 rfl Try.underlying70 Try.underlying3 rfl (HM.out.alloc _) (by unfold maxLen; omega) _ _ _ rfl rfl hw.1 hw.2 (W64.mk (by omega)) ?_; intro w1 hm1 hg1)
   have hsz := (b2_ HB.out (.cells #[.int .i64 (a4_ l0 i).f0.f0, .int .i64 (a4_ l0 i).f0.f1, .int .u64 (a4_ l0 i).f1, .int .i64 (a4_ l0 i).f2] 51)).size
   have hs8 := HB8.out.size
   go_roundw
   case rel => exact ⟨i + 1, by omega, by go_num, ⟨Kd.R_grown (Kd.R_alloc HO.out _) hg1 (fun k hk e => by cases e; omega)⟩, ⟨hm1⟩, ⟨(b2_ HB.out _).grown hg1 hsz (fun k e => by cases e; omega)⟩⟩
   case measure => simp [intOf]; omega
  ·obtain rfl : i = l0.length := by omega
   go_wp2
   clear hmm
   rw [HN.out] at HM
   have hixb := m_ (fun a b k (h : ix a b = some k) => ixS_bd l0 l0.length a b k (by rw [HN.out]; exact h))
   clear HN
   obtain ⟨wo, hwo⟩ : ∃ wo : World, wo = wr := ⟨_, rfl⟩
   subst hwo
   go_loopw [34] (fun v34 w2 => ∃ (j : Nat) (out : List S51), j ≤ l1.length ∧ v34 = .int .i64 (j : Int) ∧ A_ (out.length = l0.length ∧ turnedL E F ix l0 l1 = turnedL E F ix out (l1.drop j)) ∧ A_ (Kd.R k51 51 w2 w.heap.size (fun k => k < w8.heap.size) (.slice A8 l0.length c8) out) ∧ A_ (MapS Try.prog 48 3 w2 w8.heap.size l0.length ix) ∧ A_ (Below w.heap.size w w2) ∧ A_ (w8.heap.size < w2.heap.size)) (fun v34 _ => l1.length - (intOf v34).toNat)
   case atStart => exact ⟨0, l0, Nat.zero_le _, rfl, ⟨rfl, rfl⟩, HO, HM, HB, ⟨HM.out.lt⟩⟩
   case round =>
    clear HO HM HB
    obtain ⟨j, out, hj, rfl, HE, HO, HM, HB, HS⟩ := hrel
    by_cases hlt : j < l1.length
    ·have h0 : 0 ≤ (j : Int) := by omega
     have h1' : (j : Int) < l1.length := by omega
     obtain ⟨ad1, e1, y0, y1, y2, y3⟩ := at_T52 HR1.out (j : Int) h0 h1'
     cases e1
     simp only [Int.toNat_natCast] at y0 y1 y2 y3
     replace y0 := c8_ HB.out y0
     replace y1 := c8_ HB.out y1
     replace y2 := c8_ HB.out y2
     replace y3 := c8_ HB.out y3
     have HEE := m_ (HE.out.2.trans (turned_cons E F ix out l1 j hlt))
     have hlo := HE.out.1
     clear HE
     have hw := HW1.out j hlt
     generalize hs : a5_ l1 (j : Int) = s at *
     clear hs
     obtain ⟨⟨s0, s1⟩, sm, sc⟩ := s
     simp only at y0 y1 y2 y3 hw
     by_cases hneg : sc < 0
     ·have bn : decide (sc < 0) = true := by simpa using hneg
      rw [if_pos hneg] at HEE
      clear hneg
      go_wp2_with (at_lookup; refine wp_lookup_S rfl key48 _ _ 70 rfl Try.underlying70 Try.underlying3 (zero3 _) rfl (HM.out.alloc _) _ _ rfl hw.1 hw.2 ?_)
      go_ret2
      exact ⟨.slice none 0 0, (by rw [HEE.out]; first | done | rfl), (by rw [HEE.out]; exact Kd.R_nil _ _ _ _ _), b2_ HB.out _⟩
     ·have bn : decide (sc < 0) = false := by simpa using hneg
      rw [if_neg hneg] at HEE
      clear hneg
      cases hix : ix s0 s1 with
      | none =>
       rw [hix] at HEE
       go_wp2_with (at_lookup; refine wp_lookup_S rfl key48 _ _ 70 rfl Try.underlying70 Try.underlying3 (zero3 _) rfl (HM.out.alloc _) _ _ rfl hw.1 hw.2 ?_; rw [hix]; simp only [Option.getD_none, Option.isSome_none])
       go_ret2
       exact ⟨.slice none 0 0, (by rw [HEE.out]; first | done | rfl), (by rw [HEE.out]; exact Kd.R_nil _ _ _ _ _), b2_ HB.out _⟩
      | some k =>
       rw [hix] at HEE
       have hkb := hixb.out _ _ _ hix
       go_wp2_with (at_lookup; refine wp_lookup_S rfl key48 _ _ 70 rfl Try.underlying70 Try.underlying3 (zero3 _) rfl (HM.out.alloc _) _ _ rfl hw.1 hw.2 ?_; rw [hix]; simp only [Option.getD_some, Option.isSome_some])
       obtain ⟨kn, rfl⟩ := Int.eq_ofNat_of_zero_le hkb.1
       have hk1 : kn < l0.length := by omega
       obtain ⟨g, cap, cur, hv, hgk, hgb, hh⟩ := own51 HO.out (by omega)
       injection hv with ha hn hc
       subst ha
       have hC := (Kd.R_reads' HO.out).2.2
       obtain ⟨ad2, e2, _, _, z2, z3⟩ := at_T51 hC (kn : Int) (by omega) (by omega)
       cases e2
       simp only [Int.toNat_natCast, c9_, Nat.zero_add] at z2 z3
       rw [a0_ hh] at z2 z3
       obtain ⟨wa, hwa⟩ : ∃ wa, wr.alloc (.cells #[.int .i64 s0, .int .i64 s1, .int .u64 sm, .int .i64 sc] 52) = wa := ⟨_, rfl⟩
       have hha : wa.heap[g]? = some (.cells cur 51 (0, 0)) := by rw [← hwa]; exact b6_ hh _
       have hya : wa.heap[wr.heap.size]? = some (.cells #[.int .i64 s0, .int .i64 s1, .int .u64 sm, .int .i64 sc] 52 (0, 0)) := by rw [← hwa]; exact heap_alloc_new _ _
       have hOa : Kd.R k51 51 wa w.heap.size (fun k => k < w8.heap.size) (.slice (some ⟨g, 0, none⟩) l0.length c8) out := by rw [← hwa]; exact Kd.R_alloc HO.out _
       have hMa : MapS Try.prog 48 3 wa w8.heap.size l0.length ix := by rw [← hwa]; exact HM.out.alloc _
       have hBa : Below w.heap.size w wa := by rw [← hwa]; exact b2_ HB.out _
       have hSa : w8.heap.size < wa.heap.size := by rw [← hwa]; have := HS.out; simp; omega
       rw [hwa]
       have hcall := HTT.out g (kn * 4) cur (a4_ out (kn : Int)) ⟨⟨s0, s1⟩, sm, sc⟩ wa.drew (c4_ hha) z2 z3
       have hRT := fun W' (hg : wa.drew.grownBy W' (some g)) (hx : W'.heap[g]? = some (.cells (putF cur (kn * 4) (F (a4_ out (kn : Int)) ⟨⟨s0, s1⟩, sm, sc⟩)) 51 (0, 0))) => R_turn (Kd.R_drew hOa) (B0 := w8.heap.size) (Nat.le_of_lt hSa) hk1 (c4_ hha) (hF _ _) hg hx
       have HRT := m_ hRT
       have HCALL := m_ hcall
       have HGB := m_ (And.intro hgk hgb)
       have HOA := m_ hOa
       have HMA := m_ hMa
       have HBA := m_ hBa
       have HSA := m_ hSa
       have q0 : wa.cell? ⟨wr.heap.size, 0, none⟩ = some (.int .i64 s0) := (a0_ hya 0).trans rfl
       have q1 : wa.cell? ⟨wr.heap.size, 1, none⟩ = some (.int .i64 s1) := (a0_ hya 1).trans rfl
       have q2 : wa.cell? ⟨wr.heap.size, 2, none⟩ = some (.int .u64 sm) := (a0_ hya 2).trans rfl
       have q3 : wa.cell? ⟨wr.heap.size, 3, none⟩ = some (.int .i64 sc) := (a0_ hya 3).trans rfl
       clear hwa hha hya hOa hMa hBa hSa hRT hcall hgk hgb hh z2 z3 hC hn hc HO HM HB HS
       go_still_tail 5, (by kernel_rfl)
       change wpList _ _ _ _ _ wa.drew
       clear q0 q1 q2 q3
       go_wp2_with (fail)
       refine HCALL.out.mono ?_
       rintro e W4 ⟨rfl, hg4, hx4⟩
       by_cases hE : E (a4_ out (kn : Int)) ⟨⟨s0, s1⟩, sm, sc⟩ = 0
       ·rw [if_pos hE] at hx4
        have HO4 := m_ (HRT.out W4 hg4 hx4)
        simp only [hE, if_true] at HEE
        rw [hE]
        have HM4 := m_ (HMA.out.move (hg4.block _ HMA.out.lt (by simp; have := HGB.out.1; omega)))
        have HB4 := m_ ((b5_ HBA.out).grown hg4 (b5_ HBA.out).size (fun k e => by cases e; exact HGB.out.2))
        have HS4 := m_ (Nat.lt_of_lt_of_le HSA.out hg4.size)
        clear hx4 hg4 HCALL HRT HOA HMA HBA HSA
        go_wp2
        go_roundw
        case rel => exact ⟨j + 1, _, by omega, by go_num, ⟨by rw [List.length_set]; exact hlo, HEE.out⟩, HO4, HM4, HB4, HS4⟩
        case measure => simp [intOf]; omega
       ·have bE : (E (a4_ out (kn : Int)) ⟨⟨s0, s1⟩, sm, sc⟩ == 0) = false := by simpa using hE
        simp only [hE, if_false] at HEE
        have HB4 := m_ ((b5_ HBA.out).grown hg4 (b5_ HBA.out).size (fun k e => by cases e; exact HGB.out.2))
        clear hx4 hg4 HCALL HRT HOA HMA HBA HSA hE
        go_wp2
        go_ret2
        exact ⟨.slice none 0 0, (by rw [HEE.out]; first | done | rfl), (by rw [HEE.out]; exact Kd.R_nil _ _ _ _ _), HB4.out⟩
    ·obtain rfl : j = l1.length := by omega
     have HEE := HE.out.2
     rw [List.drop_eq_nil_of_le (Nat.le_refl _)] at HEE
     have HE2 := m_ HEE
     have hlo := HE.out.1
     clear HEE HE
     go_wp2
     go_ret2
     exact ⟨.slice A8 l0.length c8, (by rw [HE2.out, turnedL]; first | done | rfl), (by rw [HE2.out, turnedL]; exact Kd.R_mono HO.out (fun _ _ => trivial)), HB.out⟩
def turned51 (E : S51 → S52 → Int) (F : S51 → S52 → S51) (l0 : List S51) (l1 : List S52) : List S51 × Int := turnedL E F (ixS l0 l0.length) l0 l1
def w64B (x : Int) : Bool := decide (-9223372036854775808 ≤ x) && decide (x ≤ 9223372036854775807)
def spotsOk (l0 : List S51) (l1 : List S52) : Bool := decide (l0.length < 4398046511104) && l0.all (fun f => w64B f.f0.f0 && w64B f.f0.f1) && l1.all (fun f => w64B f.f0.f0 && w64B f.f0.f1)
def pack_More.f (l0 : List S51) (l1 : List S52) : Option (List S51 × Int) := if spotsOk l0 l1 = true then some (turned51 moreE moreF l0 l1) else none
def pack_Less.f (l0 : List S51) (l1 : List S52) : Option (List S51 × Int) := if spotsOk l0 l1 = true then some (turned51 lessE lessF l0 l1) else none
theorem spotsOk_out {l0 : List S51} {l1 : List S52} (h : spotsOk l0 l1 = true) : l0.length < 4398046511104 ∧ (∀ i, i < l0.length → W64 (a4_ l0 i).f0.f0 ∧ W64 (a4_ l0 i).f0.f1) ∧ (∀ i, i < l1.length → W64 (a5_ l1 i).f0.f0 ∧ W64 (a5_ l1 i).f0.f1) := by
 unfold spotsOk at h
 simp only [Bool.and_eq_true, decide_eq_true_eq, List.all_eq_true, w64B] at h
 refine ⟨h.1.1, fun i hi => ?_, fun i hi => ?_⟩
 ·have e : a4_ l0 (i : Int) = l0[i] := by simp [a4_, List.getD_eq_getElem?_getD, List.getElem?_eq_getElem hi]
  have := h.1.2 _ (List.getElem_mem hi)
  rw [e]
  exact ⟨W64.mk this.1, W64.mk this.2⟩
 ·have e : a5_ l1 (i : Int) = l1[i] := by simp [a5_, List.getD_eq_getElem?_getD, List.getElem?_eq_getElem hi]
  have := h.2 _ (List.getElem_mem hi)
  rw [e]
  exact ⟨W64.mk this.1, W64.mk this.2⟩
set_option maxHeartbeats 4000000 in
set_option maxRecDepth 100000 in
theorem pack_More.calls (A0 : Option Addr) (c0 : Nat) (l0 : List (S51)) (A1 : Option Addr) (c1 : Nat) (l1 : List (S52)) (r1 : List (S51)) (r2 : Int) (w : World) (hr0 : Kd.C k51 w A0 l0.length l0) (hc0 : l0.length ≤ c0) (hr1 : Kd.C k52 w A1 l1.length l1) (hc1 : l1.length ≤ c1) (h : pack_More.f l0 l1 = some (r1, r2)) :
  Calls Try.prog 52 #[.slice A0 l0.length c0, .slice A1 l1.length c1] w fun e w' => ∃ v0_ : Value, e = .returned (.tuple #[v0_, .int .i64 r2]) ∧ Kd.R k51 51 w' w.heap.size (fun _ => True) v0_ r1 ∧ Below w.heap.size w w' := by
 unfold pack_More.f at h
 split at h
 case isFalse => cases h
 rename_i hok
 obtain ⟨h1, h2, h3⟩ := spotsOk_out hok
 have hr := Option.some.inj h
 unfold turned51 at hr
 have HC := turned_any 92 moreE moreF (fun g o cur f s w a b c => more1_any g o cur f s w a b c) (fun args W => by kernel_rfl) (fun _ _ => rfl) A0 c0 l0 A1 c1 l1 w hr0 hc0 hr1 hc1 h1 h2 h3
 rw [hr] at HC
 have H := m_ HC
 clear HC hr h h1 h2 h3 hok hr0 hr1
 go_enter Try.func52, Try.ntmps52
 go_wp2_with (go_at_call 90; refine H.out.mono ?_; rintro e w1 ⟨v, rfl, ho, hb⟩; have HO := m_ ho; have HB := m_ hb; clear ho hb)
 go_ret2
 exact ⟨_, rfl, HO.out, HB.out⟩
set_option maxHeartbeats 4000000 in
set_option maxRecDepth 100000 in
theorem pack_Less.calls (A0 : Option Addr) (c0 : Nat) (l0 : List (S51)) (A1 : Option Addr) (c1 : Nat) (l1 : List (S52)) (r1 : List (S51)) (r2 : Int) (w : World) (hr0 : Kd.C k51 w A0 l0.length l0) (hc0 : l0.length ≤ c0) (hr1 : Kd.C k52 w A1 l1.length l1) (hc1 : l1.length ≤ c1) (h : pack_Less.f l0 l1 = some (r1, r2)) :
  Calls Try.prog 51 #[.slice A0 l0.length c0, .slice A1 l1.length c1] w fun e w' => ∃ v0_ : Value, e = .returned (.tuple #[v0_, .int .i64 r2]) ∧ Kd.R k51 51 w' w.heap.size (fun _ => True) v0_ r1 ∧ Below w.heap.size w w' := by
 unfold pack_Less.f at h
 split at h
 case isFalse => cases h
 rename_i hok
 obtain ⟨h1, h2, h3⟩ := spotsOk_out hok
 have hr := Option.some.inj h
 unfold turned51 at hr
 have HC := turned_any 91 lessE lessF (fun g o cur f s w a b c => less1_any g o cur f s w a b c) (fun args W => by kernel_rfl) (fun _ _ => rfl) A0 c0 l0 A1 c1 l1 w hr0 hc0 hr1 hc1 h1 h2 h3
 rw [hr] at HC
 have H := m_ HC
 clear HC hr h h1 h2 h3 hok hr0 hr1
 go_enter Try.func51, Try.ntmps51
 go_wp2_with (go_at_call 90; refine H.out.mono ?_; rintro e w1 ⟨v, rfl, ho, hb⟩; have HO := m_ ho; have HB := m_ hb; clear ho hb)
 go_ret2
 exact ⟨_, rfl, HO.out, HB.out⟩
end Go.Proofs.Ytckhjehibjdjdaa.P
namespace Go.Proofs.Ytckhjehibjdjdaa.P
open Go.RowKit Go.Shelf Go.Proofs.YtckhjehibjdjdaaW.PrintWords Go.Proofs.YtckhjehibjdjdaaW.PrintLast Go.Proofs.YtckhjehibjdjdaaW.PrintMore
attribute [local go_sem] Oper.semAt_some
abbrev HV := S41 × Option Addr × Nat × Nat
def hc (x : HV) : List Value := [.int .i64 x.1.f0, .int .i64 x.1.f1, .int .i64 x.1.f2, .bool x.1.f3, .slice x.2.1 x.2.2.1 x.2.2.2]
def kh : Kd (HV) where
 sz := 5
 E := []
 K := fun _ x cs => cs = hc x
 M := fun _ _ _ x cs => cs = hc x
 K_len := fun h => by rw [h]; rfl
 K_one := fun h u hu => by
  rw [h] at hu
  simp only [hc, List.mem_cons, List.not_mem_nil, or_false] at hu
  rcases hu with rfl | rfl | rfl | rfl | rfl
  ·rfl
  ·rfl
  ·rfl
  ·rfl
  ·rfl
 K_below := fun _ h => h
 K_of_M := fun h => h
 M_mono := fun _ h => h
 M_bound := fun h => h
 M_move := fun _ h => h
 M_lower := fun _ h => h
def cmpI (x y : Int) : Int := if x < y then -1 else if x > y then 1 else 0
set_option maxHeartbeats 4000000 in
set_option maxRecDepth 100000 in
theorem nan_any (x : Int) (w : World) : Calls Try.prog 104 #[.int .i64 x] w fun e w' => e = .returned (.bool false) ∧ w' = w := by
 have hu3 := Try.underlying3
 go_enter Try.func104, Try.ntmps104
 go_wp2
 all_goals go_ret
 all_goals exact ⟨by simp, rfl⟩
set_option maxHeartbeats 4000000 in
set_option maxRecDepth 100000 in
theorem cmp_any (x y : Int) (w : World) : Calls Try.prog 73 #[.int .i64 x, .int .i64 y] w fun e w' => e = .returned (.int .i64 (cmpI x y)) ∧ w' = w := by
 have hu3 := Try.underlying3
 unfold cmpI
 by_cases h1 : x < y
 ·rw [if_pos h1]
  have b1 : decide (x < y) = true := by simpa using h1
  go_enter Try.func73, Try.ntmps73
  go_wp2_with (go_at_call 104; refine (nan_any _ _).mono ?_; rintro e w' ⟨rfl, rfl⟩)
  all_goals go_ret
  all_goals exact ⟨rfl, rfl⟩
 ·rw [if_neg h1]
  have b1 : decide (x < y) = false := by simpa using h1
  by_cases h2 : x > y
  ·rw [if_pos h2]
   have b2 : decide (y < x) = true := by simpa using h2
   go_enter Try.func73, Try.ntmps73
   go_wp2_with (go_at_call 104; refine (nan_any _ _).mono ?_; rintro e w' ⟨rfl, rfl⟩)
   all_goals go_ret
   all_goals exact ⟨rfl, rfl⟩
  ·rw [if_neg h2]
   have b2 : decide (y < x) = false := by simpa using h2
   go_enter Try.func73, Try.ntmps73
   go_wp2_with (go_at_call 104; refine (nan_any _ _).mono ?_; rintro e w' ⟨rfl, rfl⟩)
   all_goals go_ret
   all_goals exact ⟨rfl, rfl⟩
set_option maxHeartbeats 4000000 in
set_option maxRecDepth 100000 in
theorem cmpH_any (x y : HV) (w : World) : Calls Try.prog 72 #[.agg #[.int .i64 x.1.f0, .int .i64 x.1.f1, .int .i64 x.1.f2, .bool x.1.f3, .slice x.2.1 x.2.2.1 x.2.2.2], .agg #[.int .i64 y.1.f0, .int .i64 y.1.f1, .int .i64 y.1.f2, .bool y.1.f3, .slice y.2.1 y.2.2.1 y.2.2.2]] w fun e w' => e = .returned (.int .i64 (cmpI x.1.f2 y.1.f2)) ∧ Below w.heap.size w w' := by
 have hu41 := Try.underlying41
 obtain ⟨⟨x0, x1, x2, x3, x4⟩, xa, xn, xc⟩ := x
 obtain ⟨⟨y0, y1, y2, y3, y4⟩, ya, yn, yc⟩ := y
 go_enter Try.func72, Try.ntmps72
 go_wp2_with (first | ((with_reducible refine a3_ (N := 2) rfl ?_); refine bx 2 #[.int .i64 x0, .int .i64 x1, .int .i64 x2, .bool x3, .slice xa xn xc] 41 ?_; intro g2 hg2 w2 hx2 hb2; have HB2 := m_ hb2; clear hb2 hg2) | ((with_reducible refine a3_ (N := 3) rfl ?_); refine bx 3 #[.int .i64 y0, .int .i64 y1, .int .i64 y2, .bool y3, .slice ya yn yc] 41 ?_; intro g3 hg3 w3 hx3 hb3; replace hx2 := a1_ hx2 hb3; have HB3 := m_ (a7_ HB2.out hb3); clear hb3 hg3; have f0 : w3.cell? ⟨g2, 2, none⟩ = some (.int .i64 x2) := (a0_ hx2 2).trans rfl; have f1 : w3.cell? ⟨g3, 2, none⟩ = some (.int .i64 y2) := (a0_ hx3 2).trans rfl) | (go_at_call 73; refine (cmp_any _ _ _).mono ?_; rintro e w' ⟨rfl, rfl⟩))
 all_goals go_ret
 all_goals exact ⟨rfl, HB3.out⟩
section
variable {α : Type} (key : α → Int)
def insK (x : α) : List α → List α
 | [] => [x]
 | y :: l => if key x < key y then x :: y :: l else y :: insK x l
def isort (l : List α) : List α := l.foldl (fun acc x => insK key x acc) []
theorem insK_at (x : α) : ∀ (L : List α) (j : Nat), (∀ y ∈ L.take j, ¬ key x < key y) → (∀ y ∈ L.drop j, key x < key y) → insK key x L = L.take j ++ x :: L.drop j
 | [], j, _, _ => by simp [insK]
 | y :: L, 0, _, h2 => by
  have := h2 y (by simp)
  simp [insK, this]
 | y :: L, j + 1, h1, h2 => by
  have := h1 y (by simp)
  rw [insK, if_neg this, insK_at x L j (fun z hz => h1 z (by simp [hz])) (fun z hz => h2 z (by simpa using hz))]
  simp
theorem insK_perm (x : α) : ∀ L : List α, (insK key x L).Perm (x :: L)
 | [] => List.Perm.refl _
 | y :: L => by
  rw [insK]
  split
  ·exact List.Perm.refl _
  ·exact ((insK_perm x L).cons y).trans (List.Perm.swap x y L)
theorem insK_sorted (x : α) : ∀ L : List α, L.Pairwise (fun a b => key a ≤ key b) → (insK key x L).Pairwise (fun a b => key a ≤ key b)
 | [], _ => by simp [insK]
 | y :: L, h => by
  rw [insK]
  rw [List.pairwise_cons] at h
  split
  ·rename_i hlt
   rw [List.pairwise_cons, List.pairwise_cons]
   refine ⟨fun z hz => ?_, h⟩
   rcases List.mem_cons.1 hz with rfl | hz
   ·omega
   ·have := h.1 z hz; omega
  ·rename_i hlt
   rw [List.pairwise_cons]
   refine ⟨fun z hz => ?_, insK_sorted x L h.2⟩
   rcases List.mem_cons.1 ((insK_perm key x L).mem_iff.1 hz) with rfl | hz
   ·omega
   ·exact h.1 z hz
theorem isort_snoc (l : List α) (x : α) : isort key (l ++ [x]) = insK key x (isort key l) := by simp [isort, List.foldl_append]
theorem isort_take (l : List α) (i : Nat) (h : i < l.length) : isort key (l.take (i + 1)) = insK key l[i] (isort key (l.take i)) := by
 rw [List.take_succ_eq_append_getElem h, isort_snoc]
theorem isort_fold_perm : ∀ (l acc : List α), (l.foldl (fun acc x => insK key x acc) acc).Perm (acc ++ l)
 | [], acc => by simp
 | x :: l, acc => by
  refine (isort_fold_perm l _).trans ?_
  refine ((insK_perm key x acc).append_right l).trans ?_
  exact (List.perm_middle).symm
theorem isort_perm (l : List α) : (isort key l).Perm l := by have h := isort_fold_perm key l []; rw [List.nil_append] at h; exact h
theorem isort_fold_sorted : ∀ (l acc : List α), acc.Pairwise (fun a b => key a ≤ key b) → (l.foldl (fun acc x => insK key x acc) acc).Pairwise (fun a b => key a ≤ key b)
 | [], acc, h => h
 | x :: l, acc, h => isort_fold_sorted l _ (insK_sorted key x acc h)
theorem isort_sorted (l : List α) : (isort key l).Pairwise (fun a b => key a ≤ key b) := isort_fold_sorted key l [] List.Pairwise.nil
theorem isort_map {β : Type} (f : β → α) : ∀ (l acc : List β), (l.foldl (fun acc x => insK (fun b => key (f b)) x acc) acc).map f = (l.map f).foldl (fun acc x => insK key x acc) (acc.map f)
 | [], acc => rfl
 | x :: l, acc => by
  have e : ∀ (L : List β), (insK (fun b => key (f b)) x L).map f = insK key (f x) (L.map f) := by
   intro L
   induction L with
   | nil => rfl
   | cons y L ih => rw [insK, List.map_cons, insK]; split <;> simp [ih]
  rw [List.foldl_cons, isort_map f l, e]; rfl
end
def zAt {α : Type} (L : List α) (x : α) (rest : List α) (j : Nat) : List α := L.take j ++ x :: (L.drop j ++ rest)
theorem zAt_step {α : Type} (L : List α) (x : α) (rest : List α) (m : Nat) (h : m < L.length) : ((zAt L x rest (m + 1)).set (m + 1) L[m]).set m x = zAt L x rest m := by
 unfold zAt
 rw [List.take_succ_eq_append_getElem h, List.drop_eq_getElem_cons h]
 have hl : (L.take m).length = m := by rw [List.length_take]; omega
 rw [List.append_assoc, List.set_append_right _ _ (by omega), hl, show m + 1 - m = 1 by omega]
 simp only [List.cons_append, List.nil_append, List.set_cons_succ, List.set_cons_zero]
 rw [List.set_append_right _ _ (by omega), hl, Nat.sub_self]
 rfl
theorem zAt_get {α : Type} (L : List α) (x : α) (rest : List α) (j : Nat) (h : j ≤ L.length) : (zAt L x rest j)[j]? = some x := by
 unfold zAt
 have hl : (L.take j).length = j := by rw [List.length_take]; omega
 rw [List.getElem?_append_right (by omega), hl]; simp
theorem zAt_get1 {α : Type} (L : List α) (x : α) (rest : List α) (m : Nat) (h : m < L.length) : (zAt L x rest (m + 1))[m]? = some L[m] := by
 unfold zAt
 rw [List.getElem?_append_left (by rw [List.length_take]; omega), List.getElem?_take, if_pos (by omega), List.getElem?_eq_getElem h]
theorem zAt_len {α : Type} (L : List α) (x : α) (rest : List α) (j : Nat) (h : j ≤ L.length) : (zAt L x rest j).length = L.length + 1 + rest.length := by
 unfold zAt; simp; omega
def hkey (x : HV) : Int := x.1.f2
theorem at_kh {W : World} {base g n cap : Nat} {ok : Nat → Prop} {xs : List (HV)} (h : Kd.R kh 41 W base ok (.slice (some ⟨g, 0, none⟩) n cap) xs) (i : Nat) (x : HV) (hx : xs[i]? = some x) :
  W.cell? ⟨g, i * 5, none⟩ = some (.int .i64 x.1.f0) ∧ W.cell? ⟨g, i * 5 + 1, none⟩ = some (.int .i64 x.1.f1) ∧ W.cell? ⟨g, i * 5 + 2, none⟩ = some (.int .i64 x.1.f2) ∧ W.cell? ⟨g, i * 5 + 3, none⟩ = some (.bool x.1.f3) ∧ W.cell? ⟨g, i * 5 + 4, none⟩ = some (.slice x.2.1 x.2.2.1 x.2.2.2) := by
 obtain ⟨hn, _, hC⟩ := Kd.R_reads' h
 have hi : i < xs.length := (List.getElem?_eq_some_iff.1 hx).1
 obtain ⟨ad, e0, hc⟩ := hC.2.2 (by omega)
 cases e0
 obtain ⟨c, hl, rfl, hcell⟩ := hc i x hx
 have hsz : kh.sz = 5 := rfl
 rw [hsz] at hcell
 simp only [c9_, Nat.zero_add] at hcell
 exact ⟨hcell 0 _ rfl, hcell 1 _ rfl, hcell 2 _ rfl, hcell 3 _ rfl, hcell 4 _ rfl⟩
theorem ownh {W : World} {base : Nat} {ok : Nat → Prop} {v : Value} {out : List (HV)} (h : Kd.R kh 41 W base ok v out) (hn : 0 < out.length) :
  ∃ g cap cur, v = .slice (some ⟨g, 0, none⟩) out.length cap ∧ ok g ∧ base ≤ g ∧ W.heap[g]? = some (.cells cur 41 (0, 0)) := by
 obtain ⟨hok, inner, ⟨_, hv⟩, _⟩ := h
 rcases hv with ⟨_, h0⟩ | ⟨g, cap, cur, rfl, hg, hh, _⟩
 ·omega
 ·exact ⟨g, cap, cur, rfl, hok g (by simp [Value.ownBlock]), hg, hh⟩
theorem put_kh {W : World} {base g n cap : Nat} {ok : Nat → Prop} {xs : List (HV)} (h : Kd.R kh 41 W base ok (.slice (some ⟨g, 0, none⟩) n cap) xs) (i : Nat) (hi : i < n) (x : HV) :
  Kd.R kh 41 (W.setCells g (i * 5) (hc x)) base ok (.slice (some ⟨g, 0, none⟩) n cap) (xs.set i x) ∧ W.grownBy (W.setCells g (i * 5) (hc x)) (some g) := by
 obtain ⟨hn, _, hC⟩ := Kd.R_reads' h
 have hsz : kh.sz = 5 := rfl
 obtain ⟨c0, c1, c2, c3, c4⟩ := at_kh h i xs[i] (List.getElem?_eq_getElem (by omega))
 have := Kd.R_seg h (i : Int) (by omega) (by omega) (c := hc xs[i]) (seg := hc x) (j := 0) rfl (by
  intro j u hu
  rw [Int.toNat_natCast, hsz]
  match j, hu with
  | 0, hu => cases hu; exact c0
  | 1, hu => cases hu; exact c1
  | 2, hu => cases hu; exact c2
  | 3, hu => cases hu; exact c3
  | 4, hu => cases hu; exact c4
  | j + 5, hu => simp [hc] at hu) (by rw [hsz]; simp [hc]) (x' := x) (okp := fun _ => False) (by show _ = hc x; simp [hc]) (fun _ h => h.elim)
 rw [Int.toNat_natCast, hsz, Nat.add_zero] at this
 exact this
theorem c3_ (w : World) (r : Option Nat) : w.grownBy w r := ⟨rfl, rfl, rfl, Nat.le_refl _, fun _ _ _ => rfl⟩
theorem d2_ {w W W' : World} {g : Nat} (h : w.grownBy W (some g)) (hb : Below W.heap.size W W') : w.grownBy W' (some g) :=
 ⟨hb.os.trans h.os, hb.tape.trans h.tape, hb.output.trans h.output, Nat.le_trans h.size hb.size, fun k hk hne => (hb.block k (Nat.lt_of_lt_of_le hk h.size)).trans (h.block k hk hne)⟩
theorem b1_ {w W W' : World} {g : Nat} (h : w.grownBy W (some g)) (hb : W.grownBy W' (some g)) : w.grownBy W' (some g) :=
 ⟨hb.os.trans h.os, hb.tape.trans h.tape, hb.output.trans h.output, Nat.le_trans h.size hb.size, fun k hk hne => (hb.block k (Nat.lt_of_lt_of_le hk h.size) hne).trans (h.block k hk hne)⟩
set_option maxHeartbeats 8000000 in
set_option maxRecDepth 100000 in
theorem insert_any (g n cap base b : Nat) (ok : Nat → Prop) (xs : List (HV)) (w : World) (hr : Kd.R kh 41 w base ok (.slice (some ⟨g, 0, none⟩) n cap) xs) (hb : b ≤ n) (hn : n ≤ 4611686018427387904) (h2 : 2 ≤ b) (hok : ∀ k, ok k → k < w.heap.size) :
  Calls Try.prog 120 #[.slice (some ⟨g, 0, none⟩) n cap, .int .i64 0, .int .i64 b, .func (.func 72) #[] #[]] w fun e w' => e = .returned (.tuple #[]) ∧ Kd.R kh 41 w' base ok (.slice (some ⟨g, 0, none⟩) n cap) (isort hkey (xs.take b) ++ xs.drop b) ∧ w.grownBy w' (some g) := by
 have hu41 := Try.underlying41
 have HR := m_ hr
 have hxl : xs.length = n := (Kd.R_reads' hr).1.symm
 have hgb := (Kd.R_base hr g (by simp [Value.ownBlock]))
 clear hr
 go_enter Try.func120, Try.ntmps120
 go_wp2
 go_loopw [8] (fun v8 wr => ∃ i : Nat, 1 ≤ i ∧ i ≤ b ∧ v8 = .int .i64 (i : Int) ∧ A_ (Kd.R kh 41 wr base ok (.slice (some ⟨g, 0, none⟩) n cap) (isort hkey (xs.take i) ++ xs.drop i)) ∧ A_ (w.grownBy wr (some g))) (fun v8 _ => b - (intOf v8).toNat)
 case atStart => exact ⟨1, Nat.le_refl _, by omega, rfl, ⟨by
  have : isort hkey (xs.take 1) ++ xs.drop 1 = xs := by
   cases xs with
   | nil => simp at hxl; omega
   | cons x xs => simp [isort, insK]
  rw [this]; exact HR.out⟩, ⟨c3_ _ _⟩⟩
 case round =>
  obtain ⟨i, hi1, hib, rfl, HA, HG⟩ := hrel
  by_cases hlt : i < b
  ·have hlt' : (i : Int) < b := by omega
   have hix : i < xs.length := by omega
   have hLl : (isort hkey (xs.take i)).length = i := by rw [(isort_perm hkey _).length_eq, List.length_take]; omega
   have hz : isort hkey (xs.take i) ++ xs.drop i = zAt (isort hkey (xs.take i)) xs[i] (xs.drop (i + 1)) i := by
    unfold zAt
    have t1 : (isort hkey (xs.take i)).take i = isort hkey (xs.take i) := List.take_of_length_le (by omega)
    have t2 : (isort hkey (xs.take i)).drop i = [] := List.drop_eq_nil_of_le (by omega)
    rw [t1, t2, List.nil_append, List.drop_eq_getElem_cons hix]
   have hstep := isort_take hkey xs i hix
   have hsrt := isort_sorted hkey (xs.take i)
   rw [hz] at HA
   have hrl : (xs.drop (i + 1)).length = xs.length - (i + 1) := List.length_drop
   clear hz
   have HST := m_ hstep
   clear hstep
   generalize hL : isort hkey (xs.take i) = L at *
   generalize hx : xs[i] = x at *
   generalize hre : xs.drop (i + 1) = rest at *
   have HSRT := m_ hsrt
   have HRE := m_ hre
   clear hsrt hL hx hre
   go_wp2
   obtain ⟨wo, hwo⟩ : ∃ wo : World, wo = wr := ⟨_, rfl⟩
   subst hwo
   go_loopg [9] i (fun kq v9 w2 => ∃ j : Nat, j ≤ i ∧ v9 = .int .i64 (j : Int) ∧ A_ (kq = j) ∧ A_ (∀ y ∈ L.drop j, hkey x < hkey y) ∧ A_ (Kd.R kh 41 w2 base ok (.slice (some ⟨g, 0, none⟩) n cap) (zAt L x rest j)) ∧ A_ (w.grownBy w2 (some g)))
   case atStart => exact ⟨i, Nat.le_refl _, rfl, ⟨rfl⟩, ⟨fun y hy => by rw [List.drop_eq_nil_of_le (by omega)] at hy; cases hy⟩, HA, HG⟩
   case round =>
    clear HA HG
    obtain ⟨j, hj, rfl, HQ, HD, HA, HG⟩ := hrel
    cases j with
    | zero =>
     have hdone : isort hkey (xs.take (i + 1)) ++ xs.drop (i + 1) = zAt L x rest 0 := by
      rw [HST.out, HRE.out, insK_at hkey x L 0 (by simp) HD.out]
      simp [zAt]
     rw [← hdone] at HA
     clear hdone
     go_wp2
     go_quiet (fail)
     go_wp2
     go_roundw
     case rel => exact ⟨i + 1, by omega, by omega, by go_num, HA, ⟨d2_ HG.out (c7_ (Below.refl _ _) _)⟩⟩
     case measure => simp [intOf]; omega
    | succ m =>
     have hm : m < L.length := by omega
     have hgx := at_kh HA.out (m + 1) x (zAt_get L x rest (m + 1) (by omega))
     have hgy := at_kh HA.out m L[m] (zAt_get1 L x rest m hm)
     obtain ⟨x0, x1, x2, x3, x4⟩ := hgx
     obtain ⟨y0, y1, y2, y3, y4⟩ := hgy
     have hzs := zAt_step L x rest m hm
     have hy1 := zAt_get1 L x rest m hm
     have hd := List.drop_eq_getElem_cons hm
     have ht := List.take_succ_eq_append_getElem hm
     generalize L[m] = y at *
     have HZS := m_ hzs
     have HY1 := m_ hy1
     have HDR := m_ hd
     have HTK := m_ ht
     clear hzs hd ht hy1
     have e1 : IntKind.i64.wrap (m : Int) = (m : Int) := by rw [IntKind.wrap_i64]; omega
     have i0 : (0 : Int) ≤ (m : Int) + 1 := by omega
     have i1 : (0 : Int) < (m : Int) + 1 := by omega
     have i2 : (m : Int) + 1 < n := by omega
     have i3 : (m : Int) < n := by omega
     have i4 : ((m : Int) + 1).toNat = m + 1 := by omega
     go_wp2
     go_still_tail 14, (by kernel_rfl)
     change wpList _ _ _ _ _ wr.drew
     have hAd := Kd.R_drew HA.out
     have hGd := grown_drew HG.out
     clear x0 x1 x2 x3 x4 y0 y1 y2 y3 y4
     generalize wr.drew = w3 at *
     have HA3 := m_ hAd
     have HG3 := m_ hGd
     clear hAd hGd HA HG
     by_cases hlt2 : hkey x < hkey y
     ·have hcmp : cmpI x.1.f2 y.1.f2 = -1 := by unfold hkey at hlt2; unfold cmpI; rw [if_pos hlt2]
      have HLT := m_ hlt2
      clear hlt2
      go_wp2_with (go_at_call 72; refine (cmpH_any x y _).mono ?_; rintro e w4 ⟨rfl, hb4⟩; rw [hcmp]; have HA4 := m_ (Kd.R_below HA3.out hb4); have HG4 := m_ (d2_ HG3.out hb4); clear hb4)
      have hgx := at_kh HA4.out (m + 1) x (zAt_get L x rest (m + 1) (by omega))
      have hgy := at_kh HA4.out m y HY1.out
      obtain ⟨x0, x1, x2, x3, x4⟩ := hgx
      obtain ⟨y0, y1, y2, y3, y4⟩ := hgy
      obtain ⟨g', cap', cur, hv, _, _, hh⟩ := ownh HA4.out (by rw [zAt_len _ _ _ _ (by omega)]; omega)
      injection hv with ha hn1 hc1
      injection ha with ha
      injection ha with ha
      subst ha
      clear hn1 hc1
      have z0 := a2_ hh ((m + 1) * 5)
      have z1 := a2_ hh ((m + 1) * 5 + 1)
      have z2 := a2_ hh ((m + 1) * 5 + 2)
      have z3 := a2_ hh ((m + 1) * 5 + 3)
      have z4 := a2_ hh ((m + 1) * 5 + 4)
      have v0 := a2_ hh (m * 5)
      have v1 := a2_ hh (m * 5 + 1)
      have v2 := a2_ hh (m * 5 + 2)
      have v3 := a2_ hh (m * 5 + 3)
      have v4 := a2_ hh (m * 5 + 4)
      clear hh
      have p1 := put_kh HA4.out (m + 1) (by omega) y
      have p2 := put_kh p1.1 m (by omega) x
      have hR5 := Kd.R_drew p2.1
      have hG5 := grown_drew (b1_ (b1_ HG4.out p1.2) p2.2)
      rw [HZS.out] at hR5
      simp only [hc, World.setCells, Nat.add_assoc, Nat.reduceAdd] at hR5 hG5
      have HR5 := m_ hR5
      have HG5 := m_ hG5
      clear hR5 hG5 p1 p2
      go_region
      revert HR5 HG5
      generalize World.drew _ = w5
      intro HR5 HG5
      go_wp2
      go_roundg m
      case rel => exact ⟨m, by omega, rfl, ⟨rfl⟩, ⟨fun z hz => by
       rw [HDR.out] at hz
       rcases List.mem_cons.1 hz with rfl | hz
       ·exact HLT.out
       ·exact HD.out z hz⟩, HR5, HG5⟩
      case measure => have := HQ.out; omega
     ·have hcmp : decide (cmpI x.1.f2 y.1.f2 < 0) = false := by
       unfold hkey at hlt2; unfold cmpI; rw [if_neg hlt2]; split <;> simp
      have HLT := m_ hlt2
      clear hlt2
      go_wp2_with (go_at_call 72; refine (cmpH_any x y _).mono ?_; rintro e w4 ⟨rfl, hb4⟩; have HA4 := m_ (Kd.R_below HA3.out hb4); have HG4 := m_ (d2_ HG3.out hb4); clear hb4)
      have hdone : isort hkey (xs.take (i + 1)) ++ xs.drop (i + 1) = zAt L x rest (m + 1) := by
       rw [HST.out, HRE.out, insK_at hkey x L (m + 1) (fun z hz => by
        rw [HTK.out] at hz
        have hp := HSRT.out
        rw [← List.take_append_drop m L, List.pairwise_append] at hp
        rcases List.mem_append.1 hz with hz | hz
        ·have := hp.2.2 z hz y (by rw [HDR.out]; simp)
         have := HLT.out
         omega
        ·obtain rfl := List.mem_singleton.1 hz
         have := HLT.out
         omega) HD.out]
       simp [zAt]
      rw [← hdone] at HA4
      clear hdone
      go_roundw
      case rel => exact ⟨i + 1, by omega, by omega, by go_num, HA4, HG4⟩
      case measure => simp [intOf]; omega
  ·have hlt' : ¬ (i : Int) < b := by omega
   obtain rfl : i = b := by omega
   go_wp2
   go_end0
   exact ⟨rfl, HA.out, HG.out⟩
set_option maxHeartbeats 4000000 in
set_option maxRecDepth 100000 in
theorem insert_none (v : Value) (a b : Nat) (hb : b ≤ a + 1) (ha : a ≤ 4611686018427387904) (w : World) :
  Calls Try.prog 120 #[v, .int .i64 a, .int .i64 b, .func (.func 72) #[] #[]] w fun e w' => e = .returned (.tuple #[]) ∧ w' = w := by
 have h1 : IntKind.i64.wrap ((a : Int) + 1) = (a : Int) + 1 := by rw [IntKind.wrap_i64]; omega
 have h2 : ¬ ((a : Int) + 1 < b) := by omega
 go_enter Try.func120, Try.ntmps120
 go_wp2
 refine wp_loop_rounds 1 ?_
 rw [rounds_succ]
 go_wp2
 go_end0
 exact ⟨rfl, rfl⟩
theorem isort_one {α : Type} (key : α → Int) (xs : List α) (h : xs.length ≤ 1) : isort key xs = xs := by
 match xs, h with
 | [], _ => rfl
 | [x], _ => rfl
 | _ :: _ :: _, h => simp at h
theorem insert_all (A : Option Addr) (n cap base b : Nat) (ok : Nat → Prop) (xs : List HV) (w : World) (hr : Kd.R kh 41 w base ok (.slice A n cap) xs) (hb : b = n) (hn : n ≤ 4611686018427387904) (hok : ∀ k, ok k → k < w.heap.size) (g : Nat) (hg : ∀ a, A = some a → a.block = g) :
  Calls Try.prog 120 #[.slice A n cap, .int .i64 0, .int .i64 b, .func (.func 72) #[] #[]] w fun e w' => e = .returned (.tuple #[]) ∧ Kd.R kh 41 w' base ok (.slice A n cap) (isort hkey xs) ∧ w.grownBy w' (some g) := by
 subst hb
 have hl : xs.length = b := (Kd.R_reads' hr).1.symm
 by_cases h2 : 2 ≤ b
 ·obtain ⟨g', cap', cur, hv, _, _, _⟩ := ownh hr (by omega)
  injection hv with ha hn1 hc1
  subst ha
  obtain rfl : g' = g := hg _ rfl
  have := insert_any g' b cap base b ok xs w hr (Nat.le_refl _) hn h2 hok
  rw [List.take_of_length_le (by omega), List.drop_eq_nil_of_le (by omega), List.append_nil] at this
  exact this
 ·refine (insert_none (.slice A b cap) 0 b (by omega) (by omega) w).mono ?_
  rintro e w' ⟨rfl, rfl⟩
  rw [isort_one hkey xs (by omega)]
  exact ⟨rfl, hr, c3_ _ _⟩
set_option maxHeartbeats 8000000 in
set_option maxRecDepth 100000 in
theorem stable_any (A : Option Addr) (n cap base : Nat) (ok : Nat → Prop) (xs : List HV) (w : World) (hr : Kd.R kh 41 w base ok (.slice A n cap) xs) (hn : n ≤ 20) (hok : ∀ k, ok k → k < w.heap.size) (g : Nat) (hg : ∀ a, A = some a → a.block = g) :
  Calls Try.prog 103 #[.slice A n cap, .int .i64 n, .func (.func 72) #[] #[]] w fun e w' => e = .returned (.tuple #[]) ∧ Kd.R kh 41 w' base ok (.slice A n cap) (isort hkey xs) ∧ w.grownBy w' (some g) := by
 have HI := m_ (insert_all A n cap base n ok xs w hr rfl (by omega) hok g hg)
 clear hr hok hg
 by_cases h20 : n = 20
 ·subst h20
  go_enter Try.func103, Try.ntmps103
  go_wp2
  refine wp_loop_rounds 2 ?_
  rw [rounds_succ]
  go_wp2_with (go_at_call 120; refine HI.out.mono ?_; rintro e w1 ⟨rfl, hr1, hg1⟩; have HR1 := m_ hr1; have HG1 := m_ hg1; clear hr1 hg1)
  rw [rounds_succ]
  go_wp2_with (go_at_call 120; refine (insert_none _ 20 20 (by omega) (by omega) _).mono ?_; rintro e w' ⟨rfl, rfl⟩)
  refine wp_loop_rounds 1 ?_
  rw [rounds_succ]
  go_wp2
  go_end0
  exact ⟨rfl, HR1.out, HG1.out⟩
 ·have b1 : ¬ ((20 : Int) ≤ n) := by omega
  have b2 : ¬ ((20 : Int) < n) := by omega
  go_enter Try.func103, Try.ntmps103
  go_wp2
  refine wp_loop_rounds 1 ?_
  rw [rounds_succ]
  go_wp2_with (go_at_call 120; refine HI.out.mono ?_; rintro e w1 ⟨rfl, hr1, hg1⟩; have HR1 := m_ hr1; have HG1 := m_ hg1; clear hr1 hg1)
  refine wp_loop_rounds 1 ?_
  rw [rounds_succ]
  go_wp2
  go_end0
  exact ⟨rfl, HR1.out, HG1.out⟩
def SlotsOk (W : World) (ok : Nat → Prop) (x : HV) : Prop := x.2.2.1 = x.1.f4.length ∧ x.1.f4.length ≤ x.2.2.2 ∧ Kd.F k52 W ok x.2.1 x.1.f4.length x.1.f4
theorem holds_of {W : World} {A : Option Addr} {ends : List S41} (h : Kd.C k41 W A ends.length ends) :
  ∃ ps : List HV, ps.map (fun x => x.1) = ends ∧ Kd.C kh W A ps.length ps ∧ ∀ x ∈ ps, SlotsOk W (fun k => k < W.heap.size) x := by
 rcases Nat.eq_zero_or_pos ends.length with h0 | h0
 ·have : ends = [] := List.eq_nil_of_length_eq_zero h0
  subst this
  exact ⟨[], rfl, ⟨rfl, by simp, fun h => absurd h (Nat.lt_irrefl 0)⟩, fun x hx => by cases hx⟩
 obtain ⟨_, hmax, hr⟩ := h
 obtain ⟨ad, rfl, hcc⟩ := hr h0
 have hex : ∀ j : Fin ends.length, ∃ p : Option Addr × Nat, (∀ i u, (hc (ends[j], p.1, (ends[j]).f4.length, p.2))[i]? = some u → W.cell? (ad.add (j * 5 + i)) = some u) ∧ (ends[j]).f4.length ≤ p.2 ∧ k52.C W p.1 (ends[j]).f4.length (ends[j]).f4 := by
  intro j
  obtain ⟨c, hl, hk, hcell⟩ := hcc j.val ends[j] (List.getElem?_eq_getElem j.isLt)
  obtain ⟨A4, c4, rfl, l4, g4⟩ := k41_open hk
  exact ⟨(A4, c4), hcell, l4, g4⟩
 obtain ⟨f, hf⟩ := Classical.axiomOfChoice hex
 refine ⟨List.ofFn fun j : Fin ends.length => (ends[j], (f j).1, (ends[j]).f4.length, (f j).2), ?_, ⟨rfl, by rw [List.length_ofFn]; exact hmax, fun _ => ⟨ad, rfl, fun j p hj => ?_⟩⟩, fun x hx => ?_⟩
 ·apply List.ext_getElem
  ·simp
  ·intro i h1 h2; simp
 ·have hj' : j < ends.length := by have := (List.getElem?_eq_some_iff.1 hj).1; rwa [List.length_ofFn] at this
  rw [List.getElem?_eq_getElem (by rw [List.length_ofFn]; exact hj'), List.getElem_ofFn] at hj
  cases hj
  exact ⟨_, rfl, rfl, (hf ⟨j, hj'⟩).1⟩
 ·obtain ⟨i, hi, rfl⟩ := List.mem_iff_getElem.1 hx
  rw [List.getElem_ofFn]
  rw [List.length_ofFn] at hi
  exact ⟨rfl, (hf ⟨i, hi⟩).2.1, Kd.C_F k52_heap (hf ⟨i, hi⟩).2.2⟩
set_option maxHeartbeats 4000000 in
set_option maxRecDepth 100000 in
theorem clone70_any (A0 : Option Addr) (c0 : Nat) (l0 : List HV) (w : World) (hr0 : Kd.C kh w A0 l0.length l0) (hl : l0.length < 1000000) :
  Calls Try.prog 70 #[.slice A0 l0.length c0] w fun e w' => ∃ v0_ : Value, e = .returned v0_ ∧ Kd.R kh 41 w' w.heap.size (fun _ => True) v0_ l0 ∧ Below w.heap.size w w' := by
 have hu25 := Try.underlying25
 have q25 : ∀ (w : World) (a : Option Addr) (n c n' c' : Nat), (binOp .eql 25 (.slice a n c) (.slice none n' c')).run Try.prog w = .ok (.bool a.isNone) w := fun w a n c n' c' => Lib.run_eql_slice_nil w _ _ a n c n' c' Try.underlying25
 have HR := m_ hr0
 have HL := m_ hl
 cases A0 with
 | none =>
  have h0 : l0 = [] := by
   rcases Nat.eq_zero_or_pos l0.length with h | h
   ·exact List.eq_nil_of_length_eq_zero h
   ·obtain ⟨ad, hA, _⟩ := hr0.2.2 h
    cases hA
  subst h0
  clear hr0 hl
  go_enter Try.func70, Try.ntmps70
  go_wp2
  all_goals go_ret
  all_goals exact ⟨_, rfl, Kd.R_nil _ _ _ _ _, Below.refl _ _⟩
 | some ad =>
  clear hr0 hl
  go_enter Try.func70, Try.ntmps70
  go_wp2_with (first | ((with_reducible refine a3_ (N := 5) rfl ?_); refine Kd.R_lit kh _ 41 ?hg (N := 5) ?hd (xs := ([] : List HV)) (inner := []) (ok := fun _ => True) (okp := fun _ => True) ?hr ?hp (fun _ hk => hk) trivial (Below.refl _ _) (Nat.le_refl _) (by simp) ?_; (case hd => rfl); (case hg => rfl); (case hr => first | (go_simp; done) | (go_simp; rfl)); (case hp => exact (Reps.none _ _)); intro v5 w5 ho5 hb hg_ hnew_; have HO5 := m_ ho5; have HB5 := m_ hb; clear hg_ hnew_ ho5 hb) | (refine Kd.R_append_rows kh (w0 := w) w.heap.size rfl (.tmp 5) (.tmp 6) 25 41 (.agg #[(.int .i64 0), (.int .i64 0), (.int .i64 0), (.bool false), (.slice none 0 0)]) 56 rfl Try.underlying25 info41 rfl (by decide) (by omega) v5 [] l0 _ _ _ (fun _ => True) (fun _ => False) rfl rfl HO5.out (Kd.C_below HR.out HB5.out) (fun _ _ h => h) (fun _ h => h.elim) (fun _ _ => trivial) HB5.out (b4_ HB5.out) (by have := HL.out; simp; omega) ?_; intro v7 w7 ho hb hg hat; have HO7 := m_ ho; have HB7 := m_ hb; clear ho hb hg hat))
  all_goals go_ret
  all_goals exact ⟨_, rfl, HO7.out, HB7.out⟩
theorem clone70_n (A0 : Option Addr) (c0 n : Nat) (l0 : List HV) (w : World) (hn : l0.length = n) (hr0 : Kd.C kh w A0 l0.length l0) (hl : l0.length < 1000000) :
  Calls Try.prog 70 #[.slice A0 n c0] w fun e w' => ∃ v0_ : Value, e = .returned v0_ ∧ Kd.R kh 41 w' w.heap.size (fun _ => True) v0_ l0 ∧ Below w.heap.size w w' := by
 subst hn
 exact clone70_any A0 c0 l0 w hr0 hl
def blkOf (A : Option Addr) (z : Nat) : Nat := match A with | some a => a.block | none => z
theorem blkOf_base {A : Option Addr} {n cap base : Nat} {xs : List HV} {w : World} {ok : Nat → Prop} (hr : Kd.R kh 41 w base ok (.slice A n cap) xs) (hb : base ≤ w.heap.size) : base ≤ blkOf A w.heap.size := by
 cases A with
 | none => exact hb
 | some a => exact Kd.R_base hr a.block (by simp [Value.ownBlock])
end Go.Proofs.Ytckhjehibjdjdaa.P
namespace Go.Proofs.Ytckhjehibjdjdaa.P
open Go.RowKit Go.Shelf Go.Proofs.YtckhjehibjdjdaaW.PrintWords Go.Proofs.YtckhjehibjdjdaaW.PrintLast Go.Proofs.YtckhjehibjdjdaaW.PrintMore
open Go.Proofs.Ytckhjehibjdjdaa.Bits
attribute [local go_sem] Oper.semAt_some
structure KP (w W : World) (S : Nat → Prop) : Prop where
 kept : Kept w W S
 os : W.os = w.os
 tape : W.tape = w.tape
 output : W.output = w.output
theorem KP.refl (w : World) (S : Nat → Prop) : KP w w S := ⟨Kept.refl _ _, rfl, rfl, rfl⟩
theorem KP.below {w W W' : World} {S : Nat → Prop} (h : KP w W S) (hb : Below W.heap.size W W') : KP w W' S := ⟨h.kept.below hb, hb.os.trans h.os, hb.tape.trans h.tape, hb.output.trans h.output⟩
theorem KP.set {w W : World} {S : Nat → Prop} (h : KP w W S) {g j : Nat} (hs : S g ∨ w.heap.size ≤ g) (u : Value) : KP w (W.setCell ⟨g, j, none⟩ u) S := ⟨h.kept.setCell hs u, h.os, h.tape, h.output⟩
theorem KP.drew {w W : World} {S : Nat → Prop} (h : KP w W S) : KP w W.drew S := ⟨h.kept.drew, h.os, h.tape, h.output⟩
def addU (same : Bool) (a : Int × Int) (s : S52) : Int × Int := if same = true then (wrap64 (a.1 + popI s.f1), wrap64 (a.2 + s.f2)) else a
def addL (same : Bool) (a : Int × Int) (l : List S52) : Int × Int := l.foldl (addU same) a
theorem addL_step (same : Bool) (a : Int × Int) (l : List S52) (j : Nat) (h : j < l.length) : addL same a (l.take (j + 1)) = addU same (addL same a (l.take j)) (a5_ l (j : Int)) := by
 have e : a5_ l (j : Int) = l[j] := by simp [a5_, List.getD_eq_getElem?_getD, List.getElem?_eq_getElem h]
 unfold addL
 rw [List.take_succ_eq_append_getElem h, List.foldl_append, e]; rfl
def maskOk (s : S52) : Bool := decide (0 ≤ s.f1) && decide (s.f1 < 18446744073709551616)
set_option maxHeartbeats 8000000 in
set_option maxRecDepth 100000 in
theorem end_any (gv gw gl : Nat) (x : HV) (view : List S51) (Av : Option Addr) (cv : Nat) (wq wm s0 s1 s2 s3 lg lc : Int) (v' : List S51) (e' : Int) (w : World)
  (hv : w.heap[gv]? = some (.cells #[.slice Av view.length cv] 22 (0, 0))) (hw : w.heap[gw]? = some (.cells #[.int .i64 wq, .int .i64 wm, .int .i64 s0, .int .i64 s1, .int .i64 s2, .int .i64 s3] 29 (0, 0)))
  (hl : w.heap[gl]? = some (.cells #[.int .i64 lg, .int .i64 lc] 24 (0, 0))) (hvw : gv ≠ gw) (hvl : gv ≠ gl) (hwl : gw ≠ gl)
  (hF : Kd.F k51 w (fun k => k ≠ gv ∧ k ≠ gl) Av view.length view) (hc : view.length ≤ cv) (hS : SlotsOk w (fun k => k ≠ gv ∧ k ≠ gl) x) (hm : ∀ s ∈ x.1.f4, maskOk s = true) (hmore : pack_More.f view x.1.f4 = some (v', e')) :
  Calls Try.prog 74 #[.agg #[.int .i64 x.1.f0, .int .i64 x.1.f1, .int .i64 x.1.f2, .bool x.1.f3, .slice x.2.1 x.2.2.1 x.2.2.2], .pointer (some ⟨gv, 0, none⟩), .pointer (some ⟨gw, 0, none⟩), .pointer (some ⟨gl, 0, none⟩)] w fun e w' => e = .returned (.tuple #[]) ∧ KP w w' (fun k => k = gv ∨ k = gl) ∧
   (∃ Av' cv', w'.heap[gv]? = some (.cells #[.slice Av' v'.length cv'] 22 (0, 0)) ∧ v'.length ≤ cv' ∧ Kd.F k51 w' (fun k => k ≠ gv ∧ k ≠ gl) Av' v'.length v') ∧
   w'.heap[gl]? = some (.cells #[.int .i64 (addL (decide (x.1.f1 = wq)) (lg, lc) x.1.f4).1, .int .i64 (addL (decide (x.1.f1 = wq)) (lg, lc) x.1.f4).2] 24 (0, 0)) := by
 have hu41 := Try.underlying41
 have hu52 := Try.underlying52
 have hu24 := Try.underlying24
 have hu29 := Try.underlying29
 obtain ⟨⟨x0, x1, x2, x3, sl⟩, As, ns, cs⟩ := x
 obtain ⟨hn, hcs, hFs⟩ := hS
 simp only at hn hcs hFs hm hmore ⊢
 subst hn
 obtain ⟨same, hsm0⟩ : ∃ b : Bool, decide (x1 = wq) = b := ⟨_, rfl⟩
 rw [hsm0]
 have HSM := m_ hsm0
 clear hsm0
 have gvl := b7_ hv
 have gwl := b7_ hw
 have gll := b7_ hl
 have HV0 := m_ hv
 have HW0 := m_ hw
 have HL0 := m_ hl
 have HF := m_ hF
 have HFS := m_ hFs
 have HM := m_ hm
 have HC := m_ hc
 have HCS := m_ hcs
 have HMO := m_ hmore
 clear hv hw hl hF hFs hm hc hcs hmore
 go_enter Try.func74, Try.ntmps74
 go_wp2_with (first | ((with_reducible refine a3_ (N := 4) rfl ?_); refine bx 4 #[.int .i64 x0, .int .i64 x1, .int .i64 x2, .bool x3, .slice As sl.length cs] 41 ?_; intro g4 hg4 w4 hx4 hb4; have HX4 := m_ hx4; have HB4 := m_ hb4; have n1 : gv ≠ g4 := (by omega); have n2 : gw ≠ g4 := (by omega); have n3 : gl ≠ g4 := (by omega); have a0 := (a0_ (a1_ HV0.out hb4) 0).trans rfl; have a1 : w4.cell? ⟨g4, 4, none⟩ = some (.slice As sl.length cs) := (a0_ hx4 4).trans rfl; clear hg4 hx4 hb4) | (go_at_call 52; refine (pack_More.calls Av cv view As cs sl v' e' _ (Kd.F_now (Kd.F_below HF.out HB4.out)) HC.out (Kd.F_now (Kd.F_below HFS.out HB4.out)) HCS.out HMO.out).mono ?_; rintro e w5 ⟨v5, rfl, ho5, hb5⟩; have hb45 := a7_ HB4.out hb5; obtain ⟨A5, c5, rfl, hc5, _⟩ := Kd.R_reads ho5; have HO5 := m_ ho5; have HB5 := m_ hb45; have HX5 := m_ (a1_ HX4.out hb5); have HC5 := m_ hc5; have HS4 := m_ HB4.out.size; have b0 := (a0_ (a1_ HV0.out hb45) 0).trans rfl; have b1 := a2_ (a1_ HV0.out hb45) 0; have b2 : w5.cell? ⟨g4, 4, none⟩ = some (.slice As sl.length cs) := (a0_ HX5.out 4).trans rfl; clear a0 a1 hb45 ho5 hb5 hc5))
 have HK6 := (KP.below (KP.refl w (fun k => k = gv ∨ k = gl)) HB5.out).set (j := 0) (g := gv) (Or.inl (Or.inl rfl)) (.slice A5 v'.length c5)
 have HV6 : (w5.setCell ⟨gv, 0, none⟩ (.slice A5 v'.length c5)).heap[gv]? = some (.cells #[.slice A5 v'.length c5] 22 (0, 0)) := blk_set (a1_ HV0.out HB5.out) 0 (.slice A5 v'.length c5)
 have HW6 := b8_ (a1_ HW0.out HB5.out) (p := ⟨gv, 0, none⟩) (fun e => hvw e.symm) (.slice A5 v'.length c5)
 have HL6 := b8_ (a1_ HL0.out HB5.out) (p := ⟨gv, 0, none⟩) (fun e => hvl e.symm) (.slice A5 v'.length c5)
 have HX6 := b8_ HX5.out (p := ⟨gv, 0, none⟩) (fun e => n1 e.symm) (.slice A5 v'.length c5)
 have HFS6 := Kd.F_far (Kd.F_below HFS.out HB5.out) (p := ⟨gv, 0, none⟩) (fun k hk => hk.1) (.slice A5 v'.length c5)
 have HF6 := Kd.F_far (Kd.F_mono (ok' := fun k => k ≠ gv ∧ k ≠ gl) (Kd.R_F (Kd.R_bound HO5.out)) (fun k hk => by have := hk.2.1; have := HS4.out; exact ⟨by omega, by omega⟩)) (p := ⟨gv, 0, none⟩) (fun k hk => hk.1) (.slice A5 v'.length c5)
 replace HK6 := m_ HK6
 replace HV6 := m_ HV6
 replace HW6 := m_ HW6
 replace HL6 := m_ HL6
 replace HX6 := m_ HX6
 replace HFS6 := m_ HFS6
 replace HF6 := m_ HF6
 clear b0 b1 b2 HO5 HB5 HX5 HX4 HB4
 generalize w5.setCell ⟨gv, 0, none⟩ (.slice A5 v'.length c5) = w6 at *
 go_loopw [17] (fun v17 wr => ∃ j : Nat, j ≤ sl.length ∧ v17 = .int .i64 (j : Int) ∧ A_ (KP w wr (fun k => k = gv ∨ k = gl)) ∧ A_ (wr.heap[gv]? = some (.cells #[.slice A5 v'.length c5] 22 (0, 0))) ∧ A_ (wr.heap[gw]? = some (.cells #[.int .i64 wq, .int .i64 wm, .int .i64 s0, .int .i64 s1, .int .i64 s2, .int .i64 s3] 29 (0, 0))) ∧ A_ (wr.heap[gl]? = some (.cells #[.int .i64 (addL same (lg, lc) (sl.take j)).1, .int .i64 (addL same (lg, lc) (sl.take j)).2] 24 (0, 0))) ∧ A_ (wr.heap[g4]? = some (.cells #[.int .i64 x0, .int .i64 x1, .int .i64 x2, .bool x3, .slice As sl.length cs] 41 (0, 0))) ∧ A_ (Kd.F k52 wr (fun k => k ≠ gv ∧ k ≠ gl) As sl.length sl) ∧ A_ (Kd.F k51 wr (fun k => k ≠ gv ∧ k ≠ gl) A5 v'.length v')) (fun v17 _ => sl.length - (intOf v17).toNat)
 case atStart => exact ⟨0, Nat.zero_le _, rfl, HK6, HV6, HW6, HL6, HX6, HFS6, HF6⟩
 case round =>
  clear HK6 HV6 HW6 HL6 HX6 HFS6 HF6
  obtain ⟨j, hj, rfl, HK, HV, HW, HL, HX, HFS, HFV⟩ := hrel
  have q0 : wr.cell? ⟨g4, 1, none⟩ = some (.int .i64 x1) := (a0_ HX.out 1).trans rfl
  have q1 : wr.cell? ⟨gw, 0, none⟩ = some (.int .i64 wq) := (a0_ HW.out 0).trans rfl
  have hlm := Kd.F_max HFS.out
  by_cases hlt : j < sl.length
  ·have h0 : 0 ≤ (j : Int) := by omega
   have h1' : (j : Int) < sl.length := by omega
   obtain ⟨ad1, ee, y0, y1, y2, y3⟩ := at_T52 (Kd.F_now HFS.out) (j : Int) h0 h1'
   cases ee
   simp only [Int.toNat_natCast] at y0 y1 y2 y3
   have hstep := addL_step same (lg, lc) sl j hlt
   have hmk := HM.out (a5_ sl (j : Int)) (by simp [a5_, List.getD_eq_getElem?_getD, List.getElem?_eq_getElem hlt])
   generalize a5_ sl (j : Int) = s at *
   generalize addL same (lg, lc) (sl.take j) = acc at *
   obtain ⟨⟨t0, t1⟩, sm, sc⟩ := s
   simp only [maskOk, Bool.and_eq_true, decide_eq_true_eq] at hmk
   have HMK := m_ hmk
   have HST := m_ hstep
   clear hmk hstep
   simp only at y0 y1 y2 y3
   have hKa := HK.out.below (b2_ (Below.refl _ _) (.cells #[.int .i64 t0, .int .i64 t1, .int .u64 sm, .int .i64 sc] 52))
   have hVa := b6_ HV.out (.cells #[.int .i64 t0, .int .i64 t1, .int .u64 sm, .int .i64 sc] 52)
   have hWa := b6_ HW.out (.cells #[.int .i64 t0, .int .i64 t1, .int .u64 sm, .int .i64 sc] 52)
   have hLa := b6_ HL.out (.cells #[.int .i64 t0, .int .i64 t1, .int .u64 sm, .int .i64 sc] 52)
   have hXa := b6_ HX.out (.cells #[.int .i64 t0, .int .i64 t1, .int .u64 sm, .int .i64 sc] 52)
   have hFSa := Kd.F_alloc HFS.out (.cells #[.int .i64 t0, .int .i64 t1, .int .u64 sm, .int .i64 sc] 52)
   have hFVa := Kd.F_alloc HFV.out (.cells #[.int .i64 t0, .int .i64 t1, .int .u64 sm, .int .i64 sc] 52)
   have hBa := heap_alloc_new wr (.cells #[.int .i64 t0, .int .i64 t1, .int .u64 sm, .int .i64 sc] 52)
   have n5 : gl ≠ wr.heap.size := by have := b7_ HL.out; omega
   have n6 : gv ≠ wr.heap.size := by have := b7_ HV.out; omega
   have hKA := m_ hKa
   have hVA := m_ hVa
   have hWA := m_ hWa
   have hLA := m_ hLa
   have hXA := m_ hXa
   have hFSA := m_ hFSa
   have hFVA := m_ hFVa
   have hBA := m_ hBa
   have qa0 : (wr.alloc (.cells #[.int .i64 t0, .int .i64 t1, .int .u64 sm, .int .i64 sc] 52)).cell? ⟨g4, 1, none⟩ = some (.int .i64 x1) := (a0_ hXa 1).trans rfl
   have qa1 : (wr.alloc (.cells #[.int .i64 t0, .int .i64 t1, .int .u64 sm, .int .i64 sc] 52)).cell? ⟨gw, 0, none⟩ = some (.int .i64 wq) := (a0_ hWa 0).trans rfl
   clear hKa hVa hWa hLa hXa hFSa hFVa hBa HK HV HW HL HX HFS HFV
   by_cases hq : x1 = wq
   ·have bq : (x1 == wq) = true := by simpa using hq
    have hsm : same = true := by rw [← HSM.out]; simpa using hq
    clear HSM
    subst hsm
    clear hq
    go_wp2
    clear qa0 qa1
    generalize wr.alloc (.cells #[.int .i64 t0, .int .i64 t1, .int .u64 sm, .int .i64 sc] 52) = wa at *
    have l0 : wa.cell? ⟨gl, 0, none⟩ = some (.int .i64 acc.1) := (a0_ hLA.out 0).trans rfl
    have b2 : wa.cell? ⟨wr.heap.size, 1 + 1, none⟩ = some (.int .u64 sm) := (a0_ hBA.out 2).trans rfl
    go_still_tail 7, (by kernel_rfl)
    still_call ((count_any _ HMK.out.1 HMK.out.2 _))
    repeat still_step
    refine wpStill_nil ?_
    change wpList _ _ _ _ _ wa.drew
    clear l0 b2
    have l0 : wa.drew.cell? ⟨gl, 0, none⟩ = some (.int .i64 acc.1) := (a0_ hLA.out 0).trans rfl
    have z0 : wa.drew.frozen? ⟨gl, 0, none⟩ = false := a2_ hLA.out 0
    have z1 : wa.frozen? ⟨gl, 1, none⟩ = false := a2_ hLA.out 1
    have l1 : wa.cell? ⟨gl, 1, none⟩ = some (.int .i64 acc.2) := (a0_ hLA.out 1).trans rfl
    have b3 : wa.cell? ⟨wr.heap.size, 3, none⟩ = some (.int .i64 sc) := (a0_ hBA.out 3).trans rfl
    go_wp2
    go_roundw
    case rel => exact ⟨j + 1, by omega, by go_num, ⟨((hKA.out.set (g := gl) (j := 0) (Or.inl (Or.inr rfl)) _).set (g := gl) (j := 1) (Or.inl (Or.inr rfl)) _).drew⟩,
     ⟨b8_ (b8_ hVA.out (p := ⟨gl, 0, none⟩) hvl _) (p := ⟨gl, 1, none⟩) hvl _⟩, ⟨b8_ (b8_ hWA.out (p := ⟨gl, 0, none⟩) hwl _) (p := ⟨gl, 1, none⟩) hwl _⟩,
     ⟨by rw [HST.out]; exact blk_set (blk_set hLA.out 0 _) 1 _⟩, ⟨b8_ (b8_ hXA.out (p := ⟨gl, 0, none⟩) (fun e => n3 e.symm) _) (p := ⟨gl, 1, none⟩) (fun e => n3 e.symm) _⟩,
     ⟨Kd.F_drew (Kd.F_far (Kd.F_far hFSA.out (p := ⟨gl, 0, none⟩) (fun k hk => hk.2) _) (p := ⟨gl, 1, none⟩) (fun k hk => hk.2) _)⟩, ⟨Kd.F_drew (Kd.F_far (Kd.F_far hFVA.out (p := ⟨gl, 0, none⟩) (fun k hk => hk.2) _) (p := ⟨gl, 1, none⟩) (fun k hk => hk.2) _)⟩⟩
    case measure => simp [intOf]; omega
   ·have bq : (x1 == wq) = false := by simpa using hq
    have hsm : same = false := by rw [← HSM.out]; simpa using hq
    clear HSM
    subst hsm
    clear hq
    go_wp2
    go_roundw
    case rel => exact ⟨j + 1, by omega, by go_num, hKA, hVA, hWA, ⟨by rw [HST.out]; exact hLA.out⟩, hXA, hFSA, hFVA⟩
    case measure => simp [intOf]; omega
  ·obtain rfl : j = sl.length := by omega
   go_wp2
   go_end0
   refine ⟨rfl, HK.out, ⟨A5, c5, HV.out, HC5.out, HFV.out⟩, ?_⟩
   have := HL.out
   rw [List.take_length] at this
   exact this
end Go.Proofs.Ytckhjehibjdjdaa.P
namespace Go.Proofs.Ytckhjehibjdjdaa.P
open Go.RowKit Go.Proofs.YtckhjehibjdjdaaW.PrintWords Go.Proofs.YtckhjehibjdjdaaW.PrintLast Go.Proofs.YtckhjehibjdjdaaW.PrintMore
attribute [local go_sem] max2_int min2_int max_two min_two max_three min_three max_four min_four
def pack_Room.l0 : Nat → Int → List (S51) → Int → Int → Int → Int → Int → Int → Option (Int)
 | 0, _, _, _, _, _, _, _, _ => none
 | k + 1, x5, x8, x9, x10, x240000, x240001, x240002, x240003 => if x10 < x9 then (if 0 ≤ x10 then (if x10 < (x8.length : Int) then ((shape_Fits.f x240000 x240001 x240002 x240003 ((a4_ x8 x10).f0.f0) ((a4_ x8 x10).f0.f1) ((a4_ x8 x10).f1) ((a4_ x8 x10).f2)).bind fun t242 => (pack_Room.l0 k (wrap64 (x5 + t242)) x8 x9 (wrap64 (x10 + 1)) x240000 x240001 x240002 x240003)) else (none)) else (none)) else (some x5)
def pack_Room.f (k : Nat) (l0 : List (S51)) (a1_0 a1_1 a1_2 a1_3 : Int) : Option (Int) := pack_Room.l0 k 0 l0 (l0.length : Int) 0 a1_0 a1_1 a1_2 a1_3
set_option maxHeartbeats 8000000 in
set_option maxRecDepth 100000 in
theorem pack_Room.calls (k : Nat) (A0 : Option Addr) (c0 : Nat) (l0 : List (S51)) (a1_0 a1_1 a1_2 a1_3 r : Int) (w : World) (hr0 : Kd.C k51 w A0 l0.length l0) (hc0 : l0.length ≤ c0) (h : pack_Room.f k l0 a1_0 a1_1 a1_2 a1_3 = some r) :
  Calls Try.prog 50 #[.slice A0 l0.length c0, .agg #[.int .i64 a1_0, .int .i64 a1_1, .int .i64 a1_2, .int .i64 a1_3]] w fun e w' => e = .returned (.int .i64 r) ∧ Below w.heap.size w w' := by
 have hu27 := Try.underlying27
 have hu51 := Try.underlying51
 have HR0 := m_ hr0
 have HC0 := m_ hc0
 clear hr0 hc0
 have HB := m_ (Below.refl w.heap.size w)
 have H := h
 unfold pack_Room.f at H
 clear h
 have H' := m_ H
 clear H
 go_enter Try.func50, Try.ntmps50
 go_wp2_with (first | ((with_reducible refine a3_ (N := 3) rfl ?_); refine bx 3 #[.int .i64 a1_0, .int .i64 a1_1, .int .i64 a1_2, .int .i64 a1_3] 27 ?_; intro gb239 hg w3 hbox hb; have BK239 := m_ (hbox); have GW239 := ge_ hg; have GE239 := ge_ hg; replace HB := hs_ hb; clear hb hbox hg))
 go_loopg [5, 10] k (fun kq v5 v10 w' => ∃ (x5_1 : Int) (x10_1 : Int), v5 = .int .i64 x5_1 ∧ v10 = .int .i64 x10_1 ∧ A_ (pack_Room.l0 kq x5_1 l0 (l0.length : Int) x10_1 a1_0 a1_1 a1_2 a1_3 = some r) ∧ A_ (kq ≤ k) ∧ A_ (w'.heap[gb239]? = some (.cells #[.int .i64 a1_0, .int .i64 a1_1, .int .i64 a1_2, .int .i64 a1_3] 27 (0, 0))) ∧ A_ (Below w.heap.size w w'))
 case atStart => exact ⟨(0), (0), Z1, Z1, H', ⟨Nat.le_refl _⟩, ⟨bo_ BK239⟩, ⟨hb_⟩⟩
 case round =>
  clear H'
  try clear p2
  obtain ⟨x5_1, x10_1, rfl, rfl, HA, HK1, BK239, HB⟩ := hrel
  cases gk with
  | zero => exact absurd HA.out (by simp [pack_Room.l0])
  | succ k1 =>
   have H := HA.out
   clear HA
   simp only [pack_Room.l0] at H
   by_cases c4 : x10_1 < (l0.length : Int)
   ·rw [if_pos c4] at H
    have c4b0 : decide (x10_1 < (l0.length : Int)) = true := decide_eq_true c4
    clear c4
    by_cases c5 : 0 ≤ x10_1
    ·rw [if_pos c5] at H
     have c5b0 : decide (0 ≤ x10_1) = true := decide_eq_true c5
     clear c5
     by_cases c6 : x10_1 < (l0.length : Int)
     ·rw [if_pos c6] at H
      have c6b0 : decide (x10_1 < (l0.length : Int)) = true := decide_eq_true c6
      clear c6
      replace H := Option.bind_eq_some_iff.mp H
      obtain ⟨t242, A70, H⟩ := H
      try dsimp only at H
      have A7 := m_ A70
      clear A70
      have H' := m_ H
      clear H
      have p240 : 0 ≤ (x10_1 : Int) := of_decide_eq_true Z4
      have q240 : x10_1 < (l0.length : Int) := of_decide_eq_true Z4
      obtain ⟨ad240, e240, hx240_0, hx240_1, hx240_2, hx240_3⟩ := at_T51 (Kd.C_below HR0.out HB.out) x10_1 p240 q240
      cases e240
      replace p240 := eq_true p240
      replace q240 := eq_true q240
      go_wp2_with (first | ((with_reducible refine a3_ (N := 7) rfl ?_); refine bx 7 #[.int .i64 0, .int .i64 0, .int .u64 0, .int .i64 0] 51 ?_; intro gb241 hg w8 hbox hb; have BK241 := m_ (hbox); have GW241 := ge_ hg; have GE241 := ge_ hg; have NB239_241 := nl_ BK239 hg; have NB241_239 := nr_ BK239 hg; replace BK239 := bk_ BK239 hb; replace HB := hs_ hb; clear hb hbox hg; have hnb9 := NB241_239.out; have hnc9 := NB239_241.out; obtain ⟨hcz10_0, hcz10_1, hcz10_2, hcz10_3, hfz10_0, hfz10_1, hfz10_2, hfz10_3⟩ := bz4_ BK241; obtain ⟨hcz11_0, hcz11_1, hcz11_2, hcz11_3, hfz11_0, hfz11_1, hfz11_2, hfz11_3⟩ := bz4_ BK239) | ((with_reducible refine b0_ (f := 87) rfl ?_); refine goesL_ (some 17) rfl rfl Try.func87 (by kernel_rfl) rfl #[.agg #[.int .i64 a1_0, .int .i64 a1_1, .int .i64 a1_2, .int .i64 a1_3], .agg #[.int .i64 ((a4_ l0 x10_1).f0.f0), .int .i64 ((a4_ l0 x10_1).f0.f1), .int .u64 ((a4_ l0 x10_1).f1), .int .i64 ((a4_ l0 x10_1).f2)]] rfl Z0 ?_; (with_reducible refine (shape_Fits.calls a1_0 a1_1 a1_2 a1_3 ((a4_ l0 x10_1).f0.f0) ((a4_ l0 x10_1).f0.f1) ((a4_ l0 x10_1).f1) ((a4_ l0 x10_1).f2) t242 _ A7.out).mono ?_); rintro e w12 ⟨rfl, hb⟩; refine ⟨_, rfl, ?_⟩; replace BK239 := m_ (a1_ (g := gb239) (o := .cells #[.int .i64 a1_0, .int .i64 a1_1, .int .i64 a1_2, .int .i64 a1_3] 27 (0, 0)) (bt_ BK239) hb); replace BK241 := m_ (a1_ (g := gb241) (o := .cells #[.int .i64 ((a4_ l0 x10_1).f0.f0), .int .i64 ((a4_ l0 x10_1).f0.f1), .int .u64 ((a4_ l0 x10_1).f1), .int .i64 ((a4_ l0 x10_1).f2)] 51 (0, 0)) (bt_ BK241) hb); replace HB := hs_ hb; (try clear hb); (try clear hb2); (try clear hk); (try clear hi)))
      go_roundg k1
      case measure => have := HK1.out; omega
      case rel => exact ⟨(wrap64 (x5_1 + t242)), (wrap64 (x10_1 + 1)), Z1, Z1, H', ⟨by have := HK1.out; omega⟩, ⟨bo_ BK239⟩, ⟨hb_⟩⟩
     ·rw [if_neg c6] at H
      exact absurd H (by simp)
    ·rw [if_neg c5] at H
     exact absurd H (by simp)
   ·rw [if_neg c4] at H
    have c4b0 : decide (x10_1 < (l0.length : Int)) = false := decide_eq_false c4
    clear c4
    obtain rfl := Option.some.inj H
    go_wp2
    go_ret
    exact ⟨by first | rfl | (simp [a9_, a8_] <;> rfl) | (simp [*, a9_, a8_] <;> rfl), hb_⟩
def promise_right.f (a0_0 a0_1 a0_2 a0_3 a0_4 a0_5 : Int) : Option (Bool) := (shape_Check.f a0_2 a0_3 a0_4 a0_5).bind fun t244 => (if t244 = 0 then (if a0_1 ≥ 1 then (some (decide (a0_1 ≤ 16))) else (some false)) else (some false))
set_option maxHeartbeats 8000000 in
set_option maxRecDepth 100000 in
theorem promise_right.calls (a0_0 a0_1 a0_2 a0_3 a0_4 a0_5 : Int) (r : Bool) (w : World) (h : promise_right.f a0_0 a0_1 a0_2 a0_3 a0_4 a0_5 = some r) :
  Calls Try.prog 68 #[.agg #[.int .i64 a0_0, .int .i64 a0_1, .int .i64 a0_2, .int .i64 a0_3, .int .i64 a0_4, .int .i64 a0_5]] w fun e w' => e = .returned (.bool r) ∧ Below w.heap.size w w' := by
 have hu29 := Try.underlying29
 have hu27 := Try.underlying27
 have HB := m_ (Below.refl w.heap.size w)
 have H := h
 unfold promise_right.f at H
 clear h
 replace H := Option.bind_eq_some_iff.mp H
 obtain ⟨t244, A20, H⟩ := H
 try dsimp only at H
 have A2 := m_ A20
 clear A20
 by_cases c3 : t244 = 0
 ·rw [if_pos c3] at H
  have c3b0 : (t244 == 0) = true := beq_iff_eq.mpr c3
  have c3b1 : (t244 != 0) = false := bne_eq_false_iff_eq.mpr c3
  clear c3
  by_cases c4 : a0_1 ≥ 1
  ·rw [if_pos c4] at H
   have c4b0 : decide (1 ≤ a0_1) = true := decide_eq_true c4
   clear c4
   obtain rfl := Option.some.inj H
   go_enter Try.func68, Try.ntmps68
   go_wp2_with (first | ((with_reducible refine a3_ (N := 1) rfl ?_); refine bx 1 #[.int .i64 a0_0, .int .i64 a0_1, .int .i64 a0_2, .int .i64 a0_3, .int .i64 a0_4, .int .i64 a0_5] 29 ?_; intro gb243 hg w5 hbox hb; have BK243 := m_ (hbox); have GW243 := ge_ hg; have GE243 := ge_ hg; replace HB := hs_ hb; clear hb hbox hg; obtain ⟨hcz6_0, hcz6_1, hcz6_2, hcz6_3, hcz6_4, hcz6_5, hfz6_0, hfz6_1, hfz6_2, hfz6_3, hfz6_4, hfz6_5⟩ := bz6_ BK243) | ((with_reducible refine b0_ (f := 83) rfl ?_); refine goesL_ (some 5) rfl rfl Try.func83 (by kernel_rfl) rfl #[.agg #[.int .i64 a0_2, .int .i64 a0_3, .int .i64 a0_4, .int .i64 a0_5]] rfl Z0 ?_; (with_reducible refine (shape_Check.calls a0_2 a0_3 a0_4 a0_5 t244 _ A2.out).mono ?_); rintro e w7 ⟨rfl, hb⟩; refine ⟨_, rfl, ?_⟩; replace BK243 := bk_ BK243 hb; replace HB := hs_ hb; (try clear hb); (try clear hb2); (try clear hk); (try clear hi); obtain ⟨hcz8_0, hcz8_1, hcz8_2, hcz8_3, hcz8_4, hcz8_5, hfz8_0, hfz8_1, hfz8_2, hfz8_3, hfz8_4, hfz8_5⟩ := bz6_ BK243))
   go_ret
   exact ⟨by first | rfl | (simp [a9_, a8_] <;> rfl) | (simp [*, a9_, a8_] <;> rfl), hb_⟩
  ·rw [if_neg c4] at H
   have c4b0 : decide (1 ≤ a0_1) = false := decide_eq_false c4
   clear c4
   obtain rfl := Option.some.inj H
   go_enter Try.func68, Try.ntmps68
   go_wp2_with (first | ((with_reducible refine a3_ (N := 1) rfl ?_); refine bx 1 #[.int .i64 a0_0, .int .i64 a0_1, .int .i64 a0_2, .int .i64 a0_3, .int .i64 a0_4, .int .i64 a0_5] 29 ?_; intro gb243 hg w9 hbox hb; have BK243 := m_ (hbox); have GW243 := ge_ hg; have GE243 := ge_ hg; replace HB := hs_ hb; clear hb hbox hg; obtain ⟨hcz10_0, hcz10_1, hcz10_2, hcz10_3, hcz10_4, hcz10_5, hfz10_0, hfz10_1, hfz10_2, hfz10_3, hfz10_4, hfz10_5⟩ := bz6_ BK243) | ((with_reducible refine b0_ (f := 83) rfl ?_); refine goesL_ (some 5) rfl rfl Try.func83 (by kernel_rfl) rfl #[.agg #[.int .i64 a0_2, .int .i64 a0_3, .int .i64 a0_4, .int .i64 a0_5]] rfl Z0 ?_; (with_reducible refine (shape_Check.calls a0_2 a0_3 a0_4 a0_5 t244 _ A2.out).mono ?_); rintro e w11 ⟨rfl, hb⟩; refine ⟨_, rfl, ?_⟩; replace BK243 := bk_ BK243 hb; replace HB := hs_ hb; (try clear hb); (try clear hb2); (try clear hk); (try clear hi); obtain ⟨hcz12_0, hcz12_1, hcz12_2, hcz12_3, hcz12_4, hcz12_5, hfz12_0, hfz12_1, hfz12_2, hfz12_3, hfz12_4, hfz12_5⟩ := bz6_ BK243))
   go_ret
   exact ⟨by first | rfl | (simp [a9_, a8_] <;> rfl) | (simp [*, a9_, a8_] <;> rfl), hb_⟩
 ·rw [if_neg c3] at H
  have c3b0 : (t244 == 0) = false := beq_eq_false_iff_ne.mpr c3
  have c3b1 : (t244 != 0) = true := bne_iff_ne.mpr c3
  obtain rfl := Option.some.inj H
  go_enter Try.func68, Try.ntmps68
  go_wp2_with (first | ((with_reducible refine a3_ (N := 1) rfl ?_); refine bx 1 #[.int .i64 a0_0, .int .i64 a0_1, .int .i64 a0_2, .int .i64 a0_3, .int .i64 a0_4, .int .i64 a0_5] 29 ?_; intro gb243 hg w13 hbox hb; have BK243 := m_ (hbox); have GW243 := ge_ hg; have GE243 := ge_ hg; replace HB := hs_ hb; clear hb hbox hg; obtain ⟨hcz14_0, hcz14_1, hcz14_2, hcz14_3, hcz14_4, hcz14_5, hfz14_0, hfz14_1, hfz14_2, hfz14_3, hfz14_4, hfz14_5⟩ := bz6_ BK243) | ((with_reducible refine b0_ (f := 83) rfl ?_); refine goesL_ (some 5) rfl rfl Try.func83 (by kernel_rfl) rfl #[.agg #[.int .i64 a0_2, .int .i64 a0_3, .int .i64 a0_4, .int .i64 a0_5]] rfl Z0 ?_; (with_reducible refine (shape_Check.calls a0_2 a0_3 a0_4 a0_5 t244 _ A2.out).mono ?_); rintro e w15 ⟨rfl, hb⟩; refine ⟨_, rfl, ?_⟩; replace BK243 := bk_ BK243 hb; replace HB := hs_ hb; (try clear hb); (try clear hb2); (try clear hk); (try clear hi)))
  go_ret
  exact ⟨by first | rfl | (simp [a9_, a8_] <;> rfl) | (simp [*, a9_, a8_] <;> rfl), hb_⟩
def shape_Units.f (a0_0 a0_1 a0_2 a0_3 a1 : Int) : Option (Int × Int × Int) := (shape_Check.f a0_0 a0_1 a0_2 a0_3).bind fun t247 => (if t247 = 0 then (if a1 < 0 then (some (0, 0, 1)) else (if a1 > 16 then (some (0, 0, 1)) else (some (wrap64 (a0_0 * a1), wrap64 (a0_1 * a1), 0)))) else (some (0, 0, 1)))
set_option maxHeartbeats 8000000 in
set_option maxRecDepth 100000 in
theorem shape_Units.calls (a0_0 a0_1 a0_2 a0_3 a1 r1 r2 r3 : Int) (w : World) (h : shape_Units.f a0_0 a0_1 a0_2 a0_3 a1 = some (r1, r2, r3)) :
  Calls Try.prog 76 #[.agg #[.int .i64 a0_0, .int .i64 a0_1, .int .i64 a0_2, .int .i64 a0_3], .int .i64 a1] w fun e w' => e = .returned (.tuple #[.agg #[.int .i64 r1, .int .i64 r2], .int .i64 r3]) ∧ Below w.heap.size w w' := by
 have hu27 := Try.underlying27
 have hu24 := Try.underlying24
 have HB := m_ (Below.refl w.heap.size w)
 have H := h
 unfold shape_Units.f at H
 clear h
 replace H := Option.bind_eq_some_iff.mp H
 obtain ⟨t247, A30, H⟩ := H
 try dsimp only at H
 have A3 := m_ A30
 clear A30
 by_cases c4 : t247 = 0
 ·rw [if_pos c4] at H
  have c4b0 : (t247 == 0) = true := beq_iff_eq.mpr c4
  have c4b1 : (t247 != 0) = false := bne_eq_false_iff_eq.mpr c4
  clear c4
  by_cases c5 : a1 < 0
  ·rw [if_pos c5] at H
   have c5b0 : decide (a1 < 0) = true := decide_eq_true c5
   clear c5
   simp only [Option.some.injEq, Prod.mk.injEq] at H
   obtain ⟨rfl, rfl, rfl⟩ := H
   go_enter Try.func76, Try.ntmps76
   go_wp2_with (first | ((with_reducible refine a3_ (N := 2) rfl ?_); refine bx 2 #[.int .i64 a0_0, .int .i64 a0_1, .int .i64 a0_2, .int .i64 a0_3] 27 ?_; intro gb245 hg w6 hbox hb; have BK245 := m_ (hbox); have GW245 := ge_ hg; have GE245 := ge_ hg; replace HB := hs_ hb; clear hb hbox hg) | ((with_reducible refine a3_ (N := 4) rfl ?_); refine bx 4 #[.int .i64 0, .int .i64 0] 24 ?_; intro gb246 hg w7 hbox hb; have BK246 := m_ (hbox); have GW246 := ge_ hg; have GE246 := ge_ hg; have NB245_246 := nl_ BK245 hg; have NB246_245 := nr_ BK245 hg; replace BK245 := bk_ BK245 hb; replace HB := hs_ hb; clear hb hbox hg; have hnb8 := NB245_246.out; have hnc8 := NB246_245.out; obtain ⟨hcz9_0, hcz9_1, hcz9_2, hcz9_3, hfz9_0, hfz9_1, hfz9_2, hfz9_3⟩ := bz4_ BK245) | ((with_reducible refine b0_ (f := 83) rfl ?_); refine goesL_ (some 7) rfl rfl Try.func83 (by kernel_rfl) rfl #[.agg #[.int .i64 a0_0, .int .i64 a0_1, .int .i64 a0_2, .int .i64 a0_3]] rfl Z0 ?_; (with_reducible refine (shape_Check.calls a0_0 a0_1 a0_2 a0_3 t247 _ A3.out).mono ?_); rintro e w10 ⟨rfl, hb⟩; refine ⟨_, rfl, ?_⟩; replace BK245 := bk_ BK245 hb; replace BK246 := bk_ BK246 hb; replace HB := hs_ hb; (try clear hb); (try clear hb2); (try clear hk); (try clear hi); obtain ⟨hcz11_0, hcz11_1, hfz11_0, hfz11_1⟩ := bz2_ BK246))
   refine bodyPost_ret (results_ct rfl _ _ gb246 24 #[.int .i64 0, .int .i64 0] (0, 0) _ rfl (bt_ BK246) Try.underlying24 rfl (by kernel_rfl)) rfl ?_
   exact ⟨by first | rfl | (simp [a9_, a8_] <;> rfl) | (simp [*, a9_, a8_] <;> rfl), hb_⟩
  ·rw [if_neg c5] at H
   have c5b0 : decide (a1 < 0) = false := decide_eq_false c5
   clear c5
   by_cases c12 : a1 > 16
   ·rw [if_pos c12] at H
    have c12b0 : decide (16 < a1) = true := decide_eq_true c12
    clear c12
    simp only [Option.some.injEq, Prod.mk.injEq] at H
    obtain ⟨rfl, rfl, rfl⟩ := H
    go_enter Try.func76, Try.ntmps76
    go_wp2_with (first | ((with_reducible refine a3_ (N := 2) rfl ?_); refine bx 2 #[.int .i64 a0_0, .int .i64 a0_1, .int .i64 a0_2, .int .i64 a0_3] 27 ?_; intro gb245 hg w13 hbox hb; have BK245 := m_ (hbox); have GW245 := ge_ hg; have GE245 := ge_ hg; replace HB := hs_ hb; clear hb hbox hg) | ((with_reducible refine a3_ (N := 4) rfl ?_); refine bx 4 #[.int .i64 0, .int .i64 0] 24 ?_; intro gb246 hg w14 hbox hb; have BK246 := m_ (hbox); have GW246 := ge_ hg; have GE246 := ge_ hg; have NB245_246 := nl_ BK245 hg; have NB246_245 := nr_ BK245 hg; replace BK245 := bk_ BK245 hb; replace HB := hs_ hb; clear hb hbox hg; have hnb15 := NB245_246.out; have hnc15 := NB246_245.out; obtain ⟨hcz16_0, hcz16_1, hcz16_2, hcz16_3, hfz16_0, hfz16_1, hfz16_2, hfz16_3⟩ := bz4_ BK245) | ((with_reducible refine b0_ (f := 83) rfl ?_); refine goesL_ (some 7) rfl rfl Try.func83 (by kernel_rfl) rfl #[.agg #[.int .i64 a0_0, .int .i64 a0_1, .int .i64 a0_2, .int .i64 a0_3]] rfl Z0 ?_; (with_reducible refine (shape_Check.calls a0_0 a0_1 a0_2 a0_3 t247 _ A3.out).mono ?_); rintro e w17 ⟨rfl, hb⟩; refine ⟨_, rfl, ?_⟩; replace BK245 := bk_ BK245 hb; replace BK246 := bk_ BK246 hb; replace HB := hs_ hb; (try clear hb); (try clear hb2); (try clear hk); (try clear hi); obtain ⟨hcz18_0, hcz18_1, hfz18_0, hfz18_1⟩ := bz2_ BK246))
    refine bodyPost_ret (results_ct rfl _ _ gb246 24 #[.int .i64 0, .int .i64 0] (0, 0) _ rfl (bt_ BK246) Try.underlying24 rfl (by kernel_rfl)) rfl ?_
    exact ⟨by first | rfl | (simp [a9_, a8_] <;> rfl) | (simp [*, a9_, a8_] <;> rfl), hb_⟩
   ·rw [if_neg c12] at H
    have c12b0 : decide (16 < a1) = false := decide_eq_false c12
    clear c12
    simp only [Option.some.injEq, Prod.mk.injEq] at H
    obtain ⟨rfl, rfl, rfl⟩ := H
    go_enter Try.func76, Try.ntmps76
    go_wp2_with (first | ((with_reducible refine a3_ (N := 2) rfl ?_); refine bx 2 #[.int .i64 a0_0, .int .i64 a0_1, .int .i64 a0_2, .int .i64 a0_3] 27 ?_; intro gb245 hg w19 hbox hb; have BK245 := m_ (hbox); have GW245 := ge_ hg; have GE245 := ge_ hg; replace HB := hs_ hb; clear hb hbox hg) | ((with_reducible refine a3_ (N := 4) rfl ?_); refine bx 4 #[.int .i64 0, .int .i64 0] 24 ?_; intro gb246 hg w20 hbox hb; have BK246 := m_ (hbox); have GW246 := ge_ hg; have GE246 := ge_ hg; have NB245_246 := nl_ BK245 hg; have NB246_245 := nr_ BK245 hg; replace BK245 := bk_ BK245 hb; replace HB := hs_ hb; clear hb hbox hg; have hnb21 := NB245_246.out; have hnc21 := NB246_245.out; obtain ⟨hcz22_0, hcz22_1, hcz22_2, hcz22_3, hfz22_0, hfz22_1, hfz22_2, hfz22_3⟩ := bz4_ BK245) | ((with_reducible refine b0_ (f := 83) rfl ?_); refine goesL_ (some 7) rfl rfl Try.func83 (by kernel_rfl) rfl #[.agg #[.int .i64 a0_0, .int .i64 a0_1, .int .i64 a0_2, .int .i64 a0_3]] rfl Z0 ?_; (with_reducible refine (shape_Check.calls a0_0 a0_1 a0_2 a0_3 t247 _ A3.out).mono ?_); rintro e w23 ⟨rfl, hb⟩; refine ⟨_, rfl, ?_⟩; replace BK245 := bk_ BK245 hb; replace BK246 := bk_ BK246 hb; replace HB := hs_ hb; (try clear hb); (try clear hb2); (try clear hk); (try clear hi); obtain ⟨hcz24_0, hcz24_1, hcz24_2, hcz24_3, hfz24_0, hfz24_1, hfz24_2, hfz24_3⟩ := bz4_ BK245; obtain ⟨hcz25_0, hcz25_1, hfz25_0, hfz25_1⟩ := bz2_ BK246))
    refine bodyPost_ret (results_ct rfl _ _ gb246 24 #[.int .i64 (wrap64 (a0_0 * a1)), .int .i64 (wrap64 (a0_1 * a1))] (0, 0) _ rfl (bt_ BK246) Try.underlying24 rfl (by kernel_rfl)) rfl ?_
    exact ⟨by first | rfl | (simp [a9_, a8_] <;> rfl) | (simp [*, a9_, a8_] <;> rfl), hb_⟩
 ·rw [if_neg c4] at H
  have c4b0 : (t247 == 0) = false := beq_eq_false_iff_ne.mpr c4
  have c4b1 : (t247 != 0) = true := bne_iff_ne.mpr c4
  simp only [Option.some.injEq, Prod.mk.injEq] at H
  obtain ⟨rfl, rfl, rfl⟩ := H
  go_enter Try.func76, Try.ntmps76
  go_wp2_with (first | ((with_reducible refine a3_ (N := 2) rfl ?_); refine bx 2 #[.int .i64 a0_0, .int .i64 a0_1, .int .i64 a0_2, .int .i64 a0_3] 27 ?_; intro gb245 hg w26 hbox hb; have BK245 := m_ (hbox); have GW245 := ge_ hg; have GE245 := ge_ hg; replace HB := hs_ hb; clear hb hbox hg) | ((with_reducible refine a3_ (N := 4) rfl ?_); refine bx 4 #[.int .i64 0, .int .i64 0] 24 ?_; intro gb246 hg w27 hbox hb; have BK246 := m_ (hbox); have GW246 := ge_ hg; have GE246 := ge_ hg; have NB245_246 := nl_ BK245 hg; have NB246_245 := nr_ BK245 hg; replace BK245 := bk_ BK245 hb; replace HB := hs_ hb; clear hb hbox hg; have hnb28 := NB245_246.out; have hnc28 := NB246_245.out; obtain ⟨hcz29_0, hcz29_1, hcz29_2, hcz29_3, hfz29_0, hfz29_1, hfz29_2, hfz29_3⟩ := bz4_ BK245) | ((with_reducible refine b0_ (f := 83) rfl ?_); refine goesL_ (some 7) rfl rfl Try.func83 (by kernel_rfl) rfl #[.agg #[.int .i64 a0_0, .int .i64 a0_1, .int .i64 a0_2, .int .i64 a0_3]] rfl Z0 ?_; (with_reducible refine (shape_Check.calls a0_0 a0_1 a0_2 a0_3 t247 _ A3.out).mono ?_); rintro e w30 ⟨rfl, hb⟩; refine ⟨_, rfl, ?_⟩; replace BK245 := bk_ BK245 hb; replace BK246 := bk_ BK246 hb; replace HB := hs_ hb; (try clear hb); (try clear hb2); (try clear hk); (try clear hi); obtain ⟨hcz31_0, hcz31_1, hfz31_0, hfz31_1⟩ := bz2_ BK246))
  refine bodyPost_ret (results_ct rfl _ _ gb246 24 #[.int .i64 0, .int .i64 0] (0, 0) _ rfl (bt_ BK246) Try.underlying24 rfl (by kernel_rfl)) rfl ?_
  exact ⟨by first | rfl | (simp [a9_, a8_] <;> rfl) | (simp [*, a9_, a8_] <;> rfl), hb_⟩
end Go.Proofs.Ytckhjehibjdjdaa.P
namespace Go.Proofs.Ytckhjehibjdjdaa.P
open Go.RowKit Go.Proofs.YtckhjehibjdjdaaW.PrintWords Go.Proofs.YtckhjehibjdjdaaW.PrintLast Go.Proofs.YtckhjehibjdjdaaW.PrintMore
attribute [local go_sem] max2_int min2_int max_two min_two max_three min_three max_four min_four
attribute [local go_sem] cellBx frozBx
def promise_Fits.f (k : Nat) (l0 : List (S51)) (a1_0 a1_1 a2_0 a2_1 a2_2 a2_3 a2_4 a2_5 : Int) : Option (Bool) := (promise_right.f a2_0 a2_1 a2_2 a2_3 a2_4 a2_5).bind fun t250 => (if t250 = true then ((shape_Units.f a2_2 a2_3 a2_4 a2_5 a2_1).bind fun bt251 => (if bt251.1 ≤ a1_0 then (if bt251.2.1 ≤ a1_1 then ((pack_Room.f k l0 a2_2 a2_3 a2_4 a2_5).bind fun t255 => (some (decide (t255 ≥ a2_1)))) else (some false)) else (some false))) else (some false))
set_option maxHeartbeats 8000000 in
set_option maxRecDepth 100000 in
theorem promise_Fits.calls (k : Nat) (A0 : Option Addr) (c0 : Nat) (l0 : List (S51)) (a1_0 a1_1 a2_0 a2_1 a2_2 a2_3 a2_4 a2_5 : Int) (r : Bool) (w : World) (hr0 : Kd.C k51 w A0 l0.length l0) (hc0 : l0.length ≤ c0) (h : promise_Fits.f k l0 a1_0 a1_1 a2_0 a2_1 a2_2 a2_3 a2_4 a2_5 = some r) :
  Calls Try.prog 29 #[.slice A0 l0.length c0, .agg #[.int .i64 a1_0, .int .i64 a1_1], .agg #[.int .i64 a2_0, .int .i64 a2_1, .int .i64 a2_2, .int .i64 a2_3, .int .i64 a2_4, .int .i64 a2_5]] w fun e w' => e = .returned (.bool r) ∧ Below w.heap.size w w' := by
 have hu24 := Try.underlying24
 have hu29 := Try.underlying29
 have hu27 := Try.underlying27
 have : Be w w := ⟨Below.refl _ _⟩
 unfold promise_Fits.f at h
 replace h := bindS h
 obtain ⟨t, hR, h⟩ := h
 have HR := m_ hR
 clear hR
 have hh := h
 clear h
 go_enter Try.func29, Try.ntmps29
 cases t with
 | false =>
  rw [if_neg (by decide)] at hh
  obtain rfl := Option.some.inj hh
  clear hh
  go_wp2_with (first | ((with_reducible refine a3_ (N := 4) rfl ?_); refine bxT 4 #[.int .i64 a1_0, .int .i64 a1_1] 24 ?_; intro g4 w4 _ _ _) | ((with_reducible refine a3_ (N := 5) rfl ?_); refine bxT 5 #[.int .i64 a2_0, .int .i64 a2_1, .int .i64 a2_2, .int .i64 a2_3, .int .i64 a2_4, .int .i64 a2_5] 29 ?_; intro g5 w5 _ _ _) | (go_at_call 68; refine (promise_right.calls _ _ _ _ _ _ _ _ HR.out).mono ?_; rintro e wr ⟨rfl, hb⟩; have := Bl.mk hb; clear hb))
  go_ret
  exact ⟨rfl, Be.out⟩
 | true =>
  rw [if_pos rfl] at hh
  replace hh := bindS hh
  obtain ⟨⟨u, v, q⟩, hU, hh⟩ := hh
  simp only at hh
  have HU := m_ hU
  have H := m_ hh
  clear hU hh
  go_upto_region 4 with (first | ((with_reducible refine a3_ (N := 4) rfl ?_); refine bxT 4 #[.int .i64 a1_0, .int .i64 a1_1] 24 ?_; intro g4 w4 _ _ _) | ((with_reducible refine a3_ (N := 5) rfl ?_); refine bxT 5 #[.int .i64 a2_0, .int .i64 a2_1, .int .i64 a2_2, .int .i64 a2_3, .int .i64 a2_4, .int .i64 a2_5] 29 ?_; intro g5 w5 _ _ _) | (go_at_call 68; refine (promise_right.calls _ _ _ _ _ _ _ _ HR.out).mono ?_; rintro e wr ⟨rfl, hb⟩; have := Bl.mk hb; clear hb) | (go_at_call 76; refine (shape_Units.calls _ _ _ _ _ _ _ _ _ HU.out).mono ?_; rintro e wu ⟨rfl, hb⟩; have := Bl.mk hb; clear hb))
  obtain ⟨g7, w7, _, _, _, e1, e2⟩ := nameA wu #[.int .i64 u, .int .i64 v] 24
  rw [e1, e2]
  clear e1 e2
  have hh := H.out
  clear H
  by_cases c1 : u ≤ a1_0
  case neg =>
   rw [if_neg c1] at hh
   have q1 := decide_eq_false c1
   clear c1
   obtain rfl := Option.some.inj hh
   clear hh
   go_region
   go_wp2
   go_ret
   exact ⟨rfl, Be.out⟩
  rw [if_pos c1] at hh
  have q1 := decide_eq_true c1
  clear c1
  by_cases c2 : v ≤ a1_1
  case neg =>
   rw [if_neg c2] at hh
   have q2 := decide_eq_false c2
   clear c2
   obtain rfl := Option.some.inj hh
   clear hh
   go_region
   go_wp2
   go_ret
   exact ⟨rfl, Be.out⟩
  rw [if_pos c2] at hh
  have q2 := decide_eq_true c2
  clear c2
  replace hh := bindS hh
  obtain ⟨t, hM, hh⟩ := hh
  have HM := m_ hM
  clear hM
  obtain rfl := Option.some.inj hh
  clear hh
  go_region_held3 (fun w' => w'.cell? ⟨g7, 0, none⟩ = some (.int .i64 u) ∧ w'.cell? ⟨g7, 1, none⟩ = some (.int .i64 v) ∧ w'.cell? ⟨g4, 0, none⟩ = some (.int .i64 a1_0) ∧ w'.cell? ⟨g4, 1, none⟩ = some (.int .i64 a1_1) ∧ w'.cell? ⟨g5, 0, none⟩ = some (.int .i64 a2_0) ∧ w'.cell? ⟨g5, 1, none⟩ = some (.int .i64 a2_1) ∧ w'.cell? ⟨g5, 2, none⟩ = some (.int .i64 a2_2) ∧ w'.cell? ⟨g5, 3, none⟩ = some (.int .i64 a2_3) ∧ w'.cell? ⟨g5, 4, none⟩ = some (.int .i64 a2_4) ∧ w'.cell? ⟨g5, 5, none⟩ = some (.int .i64 a2_5)) ((repeat' (refine And.intro ?_ ?_)) <;> exact (cellBx _).trans rfl) ((go_at_call 50; refine (pack_Room.calls _ _ _ _ _ _ _ _ _ _ (Kd.C_below hr0 Be.out) hc0 HM.out).mono ?_; rintro e wm ⟨rfl, hb⟩; have := Bl.mk hb; clear hb))
  go_wp2
  go_ret
  exact ⟨rfl, Be.out⟩
end Go.Proofs.Ytckhjehibjdjdaa.P
namespace Go.Proofs.Ytckhjehibjdjdaa.P
open Go.RowKit Go.Proofs.YtckhjehibjdjdaaW.PrintWords Go.Proofs.YtckhjehibjdjdaaW.PrintLast Go.Proofs.YtckhjehibjdjdaaW.PrintMore
attribute [local go_sem] max2_int min2_int max_two min_two max_three min_three max_four min_four
def promise_all.l0 : Nat → List (S52) → List (S41) → Int → Int → Option ((List (S52)))
 | 0, _, _, _, _ => none
 | k + 1, x3, x6, x7, x8 => if x8 < x7 then (if 0 ≤ x8 then (if x8 < (x6.length : Int) then (if x3.length + ((a6_ x6 x8).f4).length < 4398046511104 then (promise_all.l0 k (x3 ++ ((a6_ x6 x8).f4)) x6 x7 (wrap64 (x8 + 1))) else (none)) else (none)) else (none)) else (some x3)
def promise_all.f (k : Nat) (l0 : List (S41)) : Option ((List (S52))) := promise_all.l0 k ([] : List (S52)) l0 (l0.length : Int) 0
set_option maxHeartbeats 8000000 in
set_option maxRecDepth 100000 in
theorem promise_all.calls (k : Nat) (A0 : Option Addr) (c0 : Nat) (l0 : List (S41)) (r : List (S52)) (w : World) (hr0 : Kd.C k41 w A0 l0.length l0) (hc0 : l0.length ≤ c0) (h : promise_all.f k l0 = some r) :
  Calls Try.prog 69 #[.slice A0 l0.length c0] w fun e w' => ∃ v0_ : Value, e = .returned (v0_) ∧ Kd.R k52 52 w' w.heap.size (fun _ => True) v0_ r ∧ Below w.heap.size w w' := by
 have hu41 := Try.underlying41
 have HR0 := m_ hr0
 have HC0 := m_ hc0
 clear hr0 hc0
 have HB := m_ (Below.refl w.heap.size w)
 have H := h
 unfold promise_all.f at H
 clear h
 have H' := m_ H
 clear H
 go_enter Try.func69, Try.ntmps69
 go_wp2
 go_loopg [3, 8] k (fun kq v3 v8 w' => ∃ (x3_1 : List (S52)) (x8_1 : Int), v8 = .int .i64 x8_1 ∧ A_ (promise_all.l0 kq x3_1 l0 (l0.length : Int) x8_1 = some r) ∧ A_ (kq ≤ k) ∧ A_ (Kd.R k52 52 w' w.heap.size (fun _ => True) v3 x3_1) ∧ A_ (Below w.heap.size w w'))
 case atStart => exact ⟨(([] : List (S52))), (0), Z1, H', ⟨Nat.le_refl _⟩, ⟨by first | exact Kd.R_nil _ _ _ _ _ | exact Kd.N_nil _ _ _ _ _ | exact Kd.V_nil _ _ _ _ _ | exact Kd.Q_nil _ _ _ _ _ | exact Kd.S_nil _ _ _ _ _⟩, ⟨hb_⟩⟩
 case round =>
  clear H'
  obtain ⟨x3_1, x8_1, rfl, HA, HK1, HO_3, HB⟩ := hrel
  cases gk with
  | zero => exact absurd HA.out (by simp [promise_all.l0])
  | succ k1 =>
   have H := HA.out
   clear HA
   simp only [promise_all.l0] at H
   by_cases c2 : x8_1 < (l0.length : Int)
   ·rw [if_pos c2] at H
    have c2b0 : decide (x8_1 < (l0.length : Int)) = true := decide_eq_true c2
    clear c2
    by_cases c3 : 0 ≤ x8_1
    ·rw [if_pos c3] at H
     have c3b0 : decide (0 ≤ x8_1) = true := decide_eq_true c3
     clear c3
     by_cases c4 : x8_1 < (l0.length : Int)
     ·rw [if_pos c4] at H
      have c4b0 : decide (x8_1 < (l0.length : Int)) = true := decide_eq_true c4
      clear c4
      by_cases c5 : x3_1.length + ((a6_ l0 x8_1).f4).length < 4398046511104
      ·rw [if_pos c5] at H
       have LMc5 := m_ c5
       clear c5
       obtain ⟨y833, hy833⟩ : ∃ y_ : List (S52), y_ = (x3_1 ++ ((a6_ l0 x8_1).f4)) := ⟨_, rfl⟩
       replace H : (promise_all.l0 k1 y833 l0 (l0.length : Int) (wrap64 (x8_1 + 1))) = some r := by first | (rw [hy833]; with_reducible exact H) | (have H2_ := (Option.bind_some _ _).symm.trans H; rw [hy833]; with_reducible exact H2_) | (have H2_ := (Option.bind_some _ _).symm.trans H; with_reducible exact H2_) | with_reducible exact H | (rw [hy833]; exact H) | exact H
       have Ny833 := m_ hy833
       clear hy833
       have H' := m_ H
       clear H
       have p831 : 0 ≤ (x8_1 : Int) := of_decide_eq_true Z4
       have q831 : x8_1 < (l0.length : Int) := of_decide_eq_true Z4
       obtain ⟨ad831, A831_4, c831_4, e831, hx831_0, hx831_1, hx831_2, hx831_3, hx831_4, hl831_4, hi831_4⟩ := at_T41 HR0.out x8_1 p831 q831
       cases e831
       replace hx831_0 := cx_ hx831_0
       replace hx831_1 := cx_ hx831_1
       replace hx831_2 := cx_ hx831_2
       replace hx831_3 := cx_ hx831_3
       replace hx831_4 := cx_ hx831_4
       have HR831_4 := m_ hi831_4
       have HC831_4 := m_ hl831_4
       clear hi831_4 hl831_4
       replace p831 := eq_true p831
       replace q831 := eq_true q831
       go_wp2_with (first | ((with_reducible refine a3_ (N := 5) rfl ?_); refine bx 5 #[.int .i64 0, .int .i64 0, .int .i64 0, .bool false, .slice none 0 0] 41 ?_; intro gb832 hg w6 hbox hb; have BK832 := m_ (hbox); have GW832 := ge_ hg; have GE832 := ge_ hg; replace HO_3 := m_ (Kd.R_below (by (with_reducible repeat (first | apply Kd.R_alloc | apply Kd.R_drewN | apply Kd.R_drew)); exact HO_3.out) hb); replace HB := hs_ hb; clear hb hbox hg; obtain ⟨hcz7_0, hcz7_1, hcz7_2, hcz7_3, hcz7_4, hfz7_0, hfz7_1, hfz7_2, hfz7_3, hfz7_4⟩ := bz5_ BK832) | ((with_reducible refine gate_builtin (b := .append) (xs := #[.tmp 12, .tmp 14]) rfl ?_); at_builtin; refine Kd.R_append_rows k52 (w0 := w) w.heap.size rfl (.tmp 12) (.tmp 14) 39 52 (.agg #[(.int .i64 0), (.int .i64 0), (.int .u64 0), (.int .i64 0)]) 32 rfl Try.underlying39 info52 rfl (by decide) (by omega) u3 x3_1 ((a6_ l0 x8_1).f4) _ _ _ (fun _ => True) (fun _ => False) rfl rfl ?aO ?aR (fun _ _ h => h) (fun _ h => h.elim) ?aF ?aB ?aS ?aL ?_; (case aR => exact Kd.C_below HR831_4.out hb_); (case aB => exact hb_); (case aF => exact (fun _ _ => trivial)); (case aO => exact (by (with_reducible repeat (first | apply Kd.R_alloc | apply Kd.R_drewN | apply Kd.R_drew)); exact Kd.R_mono (Kd.R_far (p := ⟨gb832, 4, none⟩) (Kd.R_far (p := ⟨gb832, 3, none⟩) (Kd.R_far (p := ⟨gb832, 2, none⟩) (Kd.R_far (p := ⟨gb832, 1, none⟩) (Kd.R_far (p := ⟨gb832, 0, none⟩) (Kd.R_types HO_3.out BK832.out (by decide)) (fun _ hk => hk.2) (.int .i64 ((a6_ l0 x8_1).f0))) (fun _ hk => hk.2) (.int .i64 ((a6_ l0 x8_1).f1))) (fun _ hk => hk.2) (.int .i64 ((a6_ l0 x8_1).f2))) (fun _ hk => hk.2) (.bool ((a6_ l0 x8_1).f3))) (fun _ hk => hk.2) (.slice A831_4 ((a6_ l0 x8_1).f4).length c831_4)) (fun _ hk => trivial))); (case aS => exact (b4_ hb_)); (case aL => have := LMc5.out; omega); intro v834 w8 ho hb hg hat; rw [← Ny833.out] at ho; have HO835 := m_ (ho); replace BK832 := m_ (c6_ (g := gb832) (o := .cells #[.int .i64 ((a6_ l0 x8_1).f0), .int .i64 ((a6_ l0 x8_1).f1), .int .i64 ((a6_ l0 x8_1).f2), .bool ((a6_ l0 x8_1).f3), .slice A831_4 ((a6_ l0 x8_1).f4).length c831_4] 41 (0, 0)) (bt_ BK832) hg (Kd.R_ne HO_3.out BK832.out (by decide))); replace HB := m_ (hb); clear HO_3; clear ho hb hg hat))
       go_roundg k1
       case measure => have := HK1.out; omega
       case rel => exact ⟨(y833), (wrap64 (x8_1 + 1)), Z1, H', ⟨by have := HK1.out; omega⟩, ⟨by (with_reducible repeat (first | apply Kd.R_alloc | apply Kd.R_drewN | apply Kd.R_drew)); exact HO835.out⟩, ⟨hb_⟩⟩
      ·rw [if_neg c5] at H
       exact absurd H (by simp)
     ·rw [if_neg c4] at H
      exact absurd H (by simp)
    ·rw [if_neg c3] at H
     exact absurd H (by simp)
   ·rw [if_neg c2] at H
    have c2b0 : decide (x8_1 < (l0.length : Int)) = false := decide_eq_false c2
    clear c2
    obtain rfl := Option.some.inj H
    go_wp2
    go_ret
    exact ⟨_, by first | rfl | (simp [a9_, a8_] <;> rfl) | (simp [*, a9_, a8_] <;> rfl), by (with_reducible repeat (first | apply Kd.R_alloc | apply Kd.R_drewN | apply Kd.R_drew)); exact HO_3.out, hb_⟩
end Go.Proofs.Ytckhjehibjdjdaa.P
namespace Go.Proofs.Ytckhjehibjdjdaa.P
open Go.RowKit Go.Proofs.YtckhjehibjdjdaaW.PrintWords
open Go.Proofs.Ytckhjehibjdjdaa.Bits Go.Proofs.Ytckhjehibjdjdaa.Mp
theorem w_id {x : Int} (h : -9223372036854775808 ≤ x ∧ x ≤ 9223372036854775807) : wrap64 x = x := by unfold wrap64; omega
theorem rd51' (l : List S51) (i : Nat) (h : i < l.length) : a4_ l (i : Int) = l[i] := by
 simp [a4_, List.getD_eq_getElem?_getD, List.getElem?_eq_getElem h]
theorem rd52' (l : List S52) (i : Nat) (h : i < l.length) : a5_ l (i : Int) = l[i] := by
 simp [a5_, List.getD_eq_getElem?_getD, List.getElem?_eq_getElem h]
theorem rd41' (l : List S41) (i : Nat) (h : i < l.length) : a6_ l (i : Int) = l[i] := by
 simp [a6_, List.getD_eq_getElem?_getD, List.getElem?_eq_getElem h]
def freeOk (f : S51) : Bool := decide (0 ≤ f.f1) && decide (f.f1 < 18446744073709551616) && w64B f.f2
theorem eachI_nn {a b : Int} (ha : 0 ≤ a) (hb : 0 ≤ b) : 0 ≤ eachI a b := by
 unfold eachI; split
 ·omega
 ·exact Int.ediv_nonneg ha hb
theorem fitV_bd (g c mn mx m cp : Int) : 0 ≤ fitV g c mn mx m cp ∧ fitV g c mn mx m cp ≤ 16 := by
 unfold fitV
 split
 ·rename_i h
  have hg := h.1
  simp only [c0_, Bool.and_eq_true, decide_eq_true_eq] at hg
  have h1 := eachI_nn (popI_bd m).1 (show 0 ≤ g by omega)
  have h2 := eachI_nn h.2 (show 0 ≤ c by omega)
  unfold fitN
  omega
 ·omega
def roomS (g c mn mx : Int) (view : List S51) : Int := (view.map fun f => fitV g c mn mx f.f1 f.f2).sum
theorem room_l (g c mn mx : Int) (n : Nat) : ∀ (k : Nat) (view : List S51) (s : Int) (i : Nat), view.length ≤ 4398046511104 → (∀ f ∈ view, freeOk f = true) → i ≤ view.length → view.length - i = n → n + 1 ≤ k → 0 ≤ s → s ≤ 16 * i →
  pack_Room.l0 k s view (view.length : Int) (i : Int) g c mn mx = some (s + roomS g c mn mx (view.drop i)) := by
 induction n with
 | zero =>
  intro k view s i hl hv hi hn hk h0 hs
  obtain ⟨k, rfl⟩ : ∃ m, k = m + 1 := ⟨k - 1, by omega⟩
  rw [pack_Room.l0, if_neg (by omega), List.drop_eq_nil_of_le (by omega)]
  simp [roomS]
 | succ n ih =>
  intro k view s i hl hv hi hn hk h0 hs
  obtain ⟨k, rfl⟩ : ∃ m, k = m + 1 := ⟨k - 1, by omega⟩
  have hil : i < view.length := by omega
  have hf := hv _ (List.getElem_mem hil)
  simp only [freeOk, w64B, Bool.and_eq_true, decide_eq_true_eq] at hf
  have hb := fitV_bd g c mn mx (view[i]).f1 (view[i]).f2
  have e1 : (i : Int) + 1 = ((i + 1 : Nat) : Int) := by omega
  have hfit : shape_Fits.f g c mn mx (view[i]).f0.f0 (view[i]).f0.f1 (view[i]).f1 (view[i]).f2 = some (fitV g c mn mx (view[i]).f1 (view[i]).f2) := by
   unfold shape_Fits.f; rw [if_pos ⟨hf.1.1, hf.1.2, hf.2.2⟩]
  rw [pack_Room.l0, if_pos (by omega), if_pos (by omega), if_pos (by omega), rd51' view i hil, hfit, Option.bind_some, w_id (by omega), w_id (by omega), e1,
   ih k view _ (i + 1) hl hv (by omega) (by omega) (by omega) (by omega) (by omega), List.drop_eq_getElem_cons hil]
  simp only [roomS, List.map_cons, List.sum_cons]
  congr 1
  omega
theorem room_eq (k : Nat) (view : List S51) (g c mn mx : Int) (hk : view.length + 1 ≤ k) (hl : view.length ≤ 4398046511104) (hv : ∀ f ∈ view, freeOk f = true) :
  pack_Room.f k view g c mn mx = some (roomS g c mn mx view) := by
 have := room_l g c mn mx view.length k view 0 0 hl hv (by omega) (by omega) hk (by omega) (by omega)
 rw [List.drop_zero] at this
 unfold pack_Room.f
 rw [show ((0 : Nat) : Int) = 0 from rfl] at this
 rw [this]; simp
def rightB (m g c mn mx : Int) : Bool := c0_ g c mn mx && decide (1 ≤ m) && decide (m ≤ 16)
theorem right_eq (q m g c mn mx : Int) : promise_right.f q m g c mn mx = some (rightB m g c mn mx) := by
 unfold promise_right.f shape_Check.f rightB
 by_cases h : c0_ g c mn mx = true
 ·rw [if_pos h, Option.bind_some, if_pos rfl, h]
  by_cases h1 : 1 ≤ m
  ·rw [if_pos (by omega), decide_eq_true h1]; simp
  ·rw [if_neg (by omega), decide_eq_false h1]; simp
 ·rw [if_neg h, Option.bind_some, if_neg (by decide)]
  simp [h]
def fitsB (view : List S51) (lg lc m g c mn mx : Int) : Bool := rightB m g c mn mx && decide (g * m ≤ lg) && decide (c * m ≤ lc) && decide (m ≤ roomS g c mn mx view)
theorem mul_bd {a b A B : Int} (ha : 0 ≤ a) (hA : a ≤ A) (hb : 0 ≤ b) (hB : b ≤ B) : 0 ≤ a * b ∧ a * b ≤ A * B :=
 ⟨Int.mul_nonneg ha hb, Int.mul_le_mul hA hB hb (by omega)⟩
theorem fits_eq (k : Nat) (view : List S51) (lg lc q m g c mn mx : Int) (hk : view.length + 1 ≤ k) (hl : view.length ≤ 4398046511104) (hv : ∀ f ∈ view, freeOk f = true) :
  promise_Fits.f k view lg lc q m g c mn mx = some (fitsB view lg lc m g c mn mx) := by
 unfold promise_Fits.f fitsB
 rw [right_eq, Option.bind_some]
 by_cases hr : rightB m g c mn mx = true
 ·have hr' := hr
  simp only [rightB, Bool.and_eq_true, decide_eq_true_eq] at hr'
  have hg := hr'.1.1
  have hg' := hg
  simp only [c0_, Bool.and_eq_true, decide_eq_true_eq] at hg'
  have b1 := mul_bd (a := g) (b := m) (A := 16) (B := 16) (by omega) (by omega) (by omega) (by omega)
  have b2 := mul_bd (a := c) (b := m) (A := 1024) (B := 16) (by omega) (by omega) (by omega) (by omega)
  have hu : shape_Units.f g c mn mx m = some (g * m, c * m, 0) := by
   unfold shape_Units.f shape_Check.f
   rw [if_pos hg, Option.bind_some, if_pos rfl, if_neg (by omega), if_neg (by omega), w_id (by omega), w_id (by omega)]
  rw [if_pos hr, hu, Option.bind_some, hr]
  simp only [Bool.true_and]
  by_cases h1 : g * m ≤ lg
  ·rw [if_pos h1, decide_eq_true h1]
   by_cases h2 : c * m ≤ lc
   ·rw [if_pos h2, decide_eq_true h2, room_eq k view g c mn mx hk hl hv, Option.bind_some]
    simp
   ·rw [if_neg h2, decide_eq_false h2]; simp
  ·rw [if_neg h1, decide_eq_false h1]; simp
 ·rw [if_neg hr]
  simp [hr]
theorem all_l (n : Nat) : ∀ (k : Nat) (ends : List S41) (acc : List S52) (i : Nat), ends.length ≤ 1000000 → i ≤ ends.length → ends.length - i = n → n + 1 ≤ k → acc.length + ((ends.drop i).flatMap fun h => h.f4).length < 4398046511104 →
  promise_all.l0 k acc ends (ends.length : Int) (i : Int) = some (acc ++ (ends.drop i).flatMap fun h => h.f4) := by
 induction n with
 | zero =>
  intro k ends acc i hl hi hn hk hs
  obtain ⟨k, rfl⟩ : ∃ m, k = m + 1 := ⟨k - 1, by omega⟩
  rw [promise_all.l0, if_neg (by omega), List.drop_eq_nil_of_le (by omega)]
  simp
 | succ n ih =>
  intro k ends acc i hl hi hn hk hs
  obtain ⟨k, rfl⟩ : ∃ m, k = m + 1 := ⟨k - 1, by omega⟩
  have hil : i < ends.length := by omega
  have e1 : (i : Int) + 1 = ((i + 1 : Nat) : Int) := by omega
  rw [List.drop_eq_getElem_cons hil] at hs ⊢
  simp only [List.flatMap_cons, List.length_append] at hs
  rw [promise_all.l0, if_pos (by omega), if_pos (by omega), if_pos (by omega), rd41' ends i hil, if_pos (by omega), w_id (by omega), e1, ih k ends _ (i + 1) hl (by omega) (by omega) (by omega) (by rw [List.length_append]; omega)]
  rw [List.flatMap_cons, List.append_assoc]
theorem all_eq (k : Nat) (ends : List S41) (hk : ends.length + 1 ≤ k) (hl : ends.length ≤ 1000000) (hs : (ends.flatMap fun h => h.f4).length < 4398046511104) : promise_all.f k ends = some (ends.flatMap fun h => h.f4) := by
 have := all_l ends.length k ends [] 0 hl (by omega) (by omega) hk (by simpa using hs)
 rw [List.drop_zero] at this
 unfold promise_all.f
 exact this
def goE (q m g c mn mx : Int) : List S41 → Int → List S51 → Int × Int → Int
 | [], t, view, left => if fitsB view left.1 left.2 m g c mn mx = true then t else 1073741825
 | h :: l, t, view, left =>
  if h.f2 > t then
   if fitsB view left.1 left.2 m g c mn mx = true then t
   else if h.f2 ≥ 1073741825 then 1073741825
   else goE q m g c mn mx l h.f2 (turned51 moreE moreF view h.f4).1 (addL (decide (h.f1 = q)) left h.f4)
  else goE q m g c mn mx l t (turned51 moreE moreF view h.f4).1 (addL (decide (h.f1 = q)) left h.f4)
def skey41 (h : S41) : Int := h.f2
def earliestB (now : Int) (view : List S51) (lg lc : Int) (ends : List S41) (q m g c mn mx : Int) : Int × Int :=
 if now < 0 ∨ now > 1073741824 ∨ rightB m g c mn mx = false then (0, 1)
 else if (turned51 moreE moreF view (ends.flatMap fun h => h.f4)).2 ≠ 0 then (0, (turned51 moreE moreF view (ends.flatMap fun h => h.f4)).2)
 else (goE q m g c mn mx (isort skey41 ends) now view (lg, lc), 0)
def okE (view : List S51) (ends : List S41) : Bool := decide (ends.length ≤ 1000) && spotsOk view (ends.flatMap fun h => h.f4) && view.all freeOk && (ends.flatMap fun h => h.f4).all maskOk && decide ((ends.flatMap fun h => h.f4).length < 4000000000)
def promise_Earliest.f (now : Int) (view : List S51) (lg lc : Int) (ends : List S41) (q m g c mn mx : Int) : Option (Int × Int) := if okE view ends = true then some (earliestB now view lg lc ends q m g c mn mx) else none
theorem or_u64 {a b : Int} (ha : 0 ≤ a ∧ a < 18446744073709551616) (hb : 0 ≤ b ∧ b < 18446744073709551616) : 0 ≤ Go.bits .or .u64 a b ∧ Go.bits .or .u64 a b < 18446744073709551616 := by
 obtain ⟨x, rfl⟩ := Int.eq_ofNat_of_zero_le ha.1
 obtain ⟨y, rfl⟩ := Int.eq_ofNat_of_zero_le hb.1
 rw [bits_or_u64_nat x y (by omega) (by omega)]
 have := Nat.or_lt_two_pow (x := x) (y := y) (n := 64) (by omega) (by omega)
 omega
theorem w64_wrap (x : Int) : w64B (wrap64 x) = true := by unfold w64B wrap64; simp; omega
def viewOk (view : List S51) : Prop := view.length < 4398046511104 ∧ (∀ f ∈ view, freeOk f = true) ∧ ∀ f ∈ view, (w64B f.f0.f0 && w64B f.f0.f1) = true
theorem moreF_ok {f : S51} {s : S52} (hf : freeOk f = true) (hs : maskOk s = true) : freeOk (moreF f s) = true := by
 simp only [freeOk, maskOk, Bool.and_eq_true, decide_eq_true_eq] at *
 have := or_u64 hf.1 hs
 exact ⟨this, w64_wrap _⟩
theorem turned_ok (ix : Int → Int → Option Int) : ∀ (slots : List S52) (out : List S51), viewOk out → (∀ s ∈ slots, maskOk s = true) → (∀ a b k, ix a b = some k → 0 ≤ k ∧ k < out.length) → viewOk (turnedL moreE moreF ix out slots).1
 | [], out, h, _, _ => h
 | s :: ss, out, h, hs, hix => by
  have h0 : viewOk [] := ⟨by simp, by simp, by simp⟩
  rw [turnedL]
  split
  ·exact h0
  ·cases hk : ix s.f0.f0 s.f0.f1 with
   | none => exact h0
   | some k =>
    simp only
    split
    ·have hkb := hix _ _ _ hk
     obtain ⟨kn, rfl⟩ := Int.eq_ofNat_of_zero_le hkb.1
     have hkl : kn < out.length := by omega
     rw [Int.toNat_natCast, rd51' out kn hkl]
     have hm := List.getElem_mem hkl
     refine turned_ok ix ss _ ⟨by rw [List.length_set]; exact h.1, fun f hf => ?_, fun f hf => ?_⟩ (fun x hx => hs x (by simp [hx])) (fun a b k hh => by rw [List.length_set]; exact hix a b k hh)
     ·rcases List.mem_or_eq_of_mem_set hf with hf | rfl
      ·exact h.2.1 f hf
      ·exact moreF_ok (h.2.1 _ hm) (hs s (by simp))
     ·rcases List.mem_or_eq_of_mem_set hf with hf | rfl
      ·exact h.2.2 f hf
      ·exact h.2.2 out[kn] hm
    ·exact h0
theorem turned51_ok {view : List S51} {slots : List S52} (h : viewOk view) (hs : ∀ s ∈ slots, maskOk s = true) : viewOk (turned51 moreE moreF view slots).1 :=
 turned_ok _ slots view h hs (fun a b k hh => ixS_bd view view.length a b k hh)
theorem more_eq {view : List S51} {slots : List S52} (h : viewOk view) (hs : ∀ s ∈ slots, (w64B s.f0.f0 && w64B s.f0.f1) = true) : pack_More.f view slots = some (turned51 moreE moreF view slots) := by
 unfold pack_More.f
 rw [if_pos]
 unfold spotsOk
 rw [decide_eq_true h.1, List.all_eq_true.2 h.2.2, List.all_eq_true.2 hs]; rfl
end Go.Proofs.Ytckhjehibjdjdaa.P
namespace Go.Proofs.Ytckhjehibjdjdaa.P
section
variable {α : Type} (key : α → Int)
def mrg : List α → List α → List α
 | [], V => V
 | u :: U, [] => u :: U
 | u :: U, v :: V => if key v < key u then v :: mrg (u :: U) V else u :: mrg U (v :: V)
termination_by U V => U.length + V.length
def Srt (l : List α) : Prop := l.Pairwise (fun a b => key a ≤ key b)
theorem mrg_nil_left (V : List α) : mrg key [] V = V := by rw [mrg]
theorem mrg_nil_right (U : List α) : mrg key U [] = U := by cases U <;> rw [mrg]
theorem mrg_perm (U V : List α) : (mrg key U V).Perm (U ++ V) := by
 fun_induction mrg key U V with
 | case1 V => simp
 | case2 u U => simp
 | case3 u U v V h ih => exact (ih.cons v).trans (by simpa using (List.perm_middle (a := v) (l₁ := u :: U) (l₂ := V)).symm)
 | case4 u U v V h ih => exact ih.cons u
theorem mrg_length (U V : List α) : (mrg key U V).length = U.length + V.length := by rw [(mrg_perm key U V).length_eq, List.length_append]
theorem mrg_sorted (U V : List α) (hU : Srt key U) (hV : Srt key V) : Srt key (mrg key U V) := by
 fun_induction mrg key U V with
 | case1 V => exact hV
 | case2 u U => exact hU
 | case3 u U v V h ih =>
  refine List.pairwise_cons.2 ⟨fun x hx => ?_, ih hU (List.pairwise_cons.1 hV).2⟩
  rcases List.mem_append.1 ((mrg_perm key _ _).mem_iff.1 hx) with hx | hx
  ·rcases List.mem_cons.1 hx with rfl | hx
   ·omega
   ·have := (List.pairwise_cons.1 hU).1 x hx; omega
  ·exact (List.pairwise_cons.1 hV).1 x hx
 | case4 u U v V h ih =>
  refine List.pairwise_cons.2 ⟨fun x hx => ?_, ih (List.pairwise_cons.1 hU).2 hV⟩
  rcases List.mem_append.1 ((mrg_perm key _ _).mem_iff.1 hx) with hx | hx
  ·exact (List.pairwise_cons.1 hU).1 x hx
  ·rcases List.mem_cons.1 hx with rfl | hx
   ·omega
   ·have := (List.pairwise_cons.1 hV).1 x hx; omega
theorem mrg_right_first (U V1 V2 : List α) (h : ∀ x ∈ U, ∀ y ∈ V1, key y < key x) : mrg key U (V1 ++ V2) = V1 ++ mrg key U V2 := by
 induction V1 with
 | nil => rfl
 | cons v V ih =>
  cases U with
  | nil => rw [mrg_nil_left, mrg_nil_left]
  | cons u U =>
   rw [List.cons_append, mrg, if_pos (h u (by simp) v (by simp)), ih (fun x hx y hy => h x hx y (by simp [hy]))]; rfl
theorem mrg_left_first (U1 U2 V : List α) (h : ∀ x ∈ U1, ∀ y ∈ V, key x ≤ key y) : mrg key (U1 ++ U2) V = U1 ++ mrg key U2 V := by
 induction U1 with
 | nil => rfl
 | cons u U ih =>
  cases V with
  | nil => rw [mrg_nil_right, mrg_nil_right]
  | cons v V =>
   have := h u (by simp) v (by simp)
   rw [List.cons_append, mrg, if_neg (by omega), ih (fun x hx y hy => h x (by simp [hx]) y hy)]; rfl
theorem mrg_split (U1 U2 V1 V2 : List α) (h12 : ∀ x ∈ U1, ∀ y ∈ V2, key x ≤ key y) (h21 : ∀ x ∈ U2, ∀ y ∈ V1, key y < key x) :
  mrg key (U1 ++ U2) (V1 ++ V2) = mrg key U1 V1 ++ mrg key U2 V2 := by
 fun_induction mrg key U1 V1 with
 | case1 V => rw [List.nil_append]; exact mrg_right_first key U2 V V2 h21
 | case2 u U => rw [List.nil_append]; exact mrg_left_first key (u :: U) U2 V2 h12
 | case3 u U v V h ih =>
  rw [List.cons_append, List.cons_append, mrg, if_pos h]
  show v :: mrg key (u :: U ++ U2) (V ++ V2) = _
  rw [ih h12 (fun x hx y hy => h21 x hx y (by simp [hy]))]; rfl
 | case4 u U v V h ih =>
  rw [List.cons_append, List.cons_append, mrg, if_neg h]
  show u :: mrg key (U ++ U2) (v :: V ++ V2) = _
  rw [ih (fun x hx y hy => h12 x (by simp [hx]) y hy) h21]; rfl
theorem mrg_one_left (u : α) (V1 V2 : List α) (h1 : ∀ y ∈ V1, key y < key u) (h2 : ∀ y ∈ V2, key u ≤ key y) : mrg key [u] (V1 ++ V2) = V1 ++ u :: V2 := by
 rw [mrg_right_first key [u] V1 V2 (fun x hx y hy => by rw [List.mem_singleton.1 hx]; exact h1 y hy)]
 have := mrg_left_first key [u] [] V2 (fun x hx y hy => by rw [List.mem_singleton.1 hx]; exact h2 y hy)
 rw [List.append_nil, mrg_nil_left] at this
 rw [this]; rfl
theorem mrg_one_right (v : α) (U1 U2 : List α) (h1 : ∀ x ∈ U1, key x ≤ key v) (h2 : ∀ x ∈ U2, key v < key x) : mrg key (U1 ++ U2) [v] = U1 ++ v :: U2 := by
 rw [mrg_left_first key U1 U2 [v] (fun x hx y hy => by rw [List.mem_singleton.1 hy]; exact h1 x hx)]
 have := mrg_right_first key U2 [v] [] (fun x hx y hy => by rw [List.mem_singleton.1 hy]; exact h2 x hx)
 rw [List.append_nil, mrg_nil_right] at this
 rw [this]; rfl
theorem insK_eq (x : α) (L : List α) (h : Srt key L) : insK key x L = mrg key L [x] := by
 induction L with
 | nil => simp [insK, mrg]
 | cons y L ih =>
  have hs := (List.pairwise_cons.1 h)
  rw [insK, mrg]
  split
  ·rename_i hlt
   rw [mrg_nil_right]
  ·rw [ih hs.2]
theorem mrg_ins (U V : List α) (x : α) (hU : Srt key U) (hV : Srt key V) : mrg key U (insK key x V) = insK key x (mrg key U V) := by
 rw [insK_eq key x V hV, insK_eq key x _ (mrg_sorted key U V hU hV)]
 fun_induction mrg key U V with
 | case1 V => rw [mrg_nil_left]
 | case2 u U => rw [mrg_nil_left]
 | case3 u U v V h ih =>
  have i := ih hU (List.pairwise_cons.1 hV).2
  by_cases hx : key x < key v
  ·have e1 : mrg key (v :: V) [x] = x :: v :: V := by rw [mrg, if_pos hx, mrg_nil_right]
   have e2 : mrg key (v :: mrg key (u :: U) V) [x] = x :: v :: mrg key (u :: U) V := by rw [mrg, if_pos hx, mrg_nil_right]
   rw [e1, e2, mrg, if_pos (by omega), mrg, if_pos h]
  ·have e1 : mrg key (v :: V) [x] = v :: mrg key V [x] := by rw [mrg, if_neg hx]
   have e2 : mrg key (v :: mrg key (u :: U) V) [x] = v :: mrg key (mrg key (u :: U) V) [x] := by rw [mrg, if_neg hx]
   rw [e1, e2, mrg, if_pos h, i]
 | case4 u U v V h ih =>
  have i := ih (List.pairwise_cons.1 hU).2 hV
  by_cases hx : key x < key v
  ·have e1 : mrg key (v :: V) [x] = x :: v :: V := by rw [mrg, if_pos hx, mrg_nil_right]
   rw [e1] at i ⊢
   by_cases hu : key x < key u
   ·have e2 : mrg key (u :: mrg key U (v :: V)) [x] = x :: u :: mrg key U (v :: V) := by rw [mrg, if_pos hu, mrg_nil_right]
    rw [e2, mrg, if_pos hu, mrg, if_neg h]
   ·have e2 : mrg key (u :: mrg key U (v :: V)) [x] = u :: mrg key (mrg key U (v :: V)) [x] := by rw [mrg, if_neg hu]
    rw [e2, mrg, if_neg hu, i]
  ·have e1 : mrg key (v :: V) [x] = v :: mrg key V [x] := by rw [mrg, if_neg hx]
   have e2 : mrg key (u :: mrg key U (v :: V)) [x] = u :: mrg key (mrg key U (v :: V)) [x] := by rw [mrg, if_neg (by omega)]
   rw [e2, ← i, e1, mrg, if_neg h]
theorem isort_append_n (l1 : List α) : ∀ (n : Nat) (l2 : List α), l2.length = n → isort key (l1 ++ l2) = mrg key (isort key l1) (isort key l2)
 | 0, l2, h => by
  rw [List.eq_nil_of_length_eq_zero h, List.append_nil]; show _ = mrg key _ []; rw [mrg_nil_right]
 | n + 1, l2, h => by
  have hne : l2 ≠ [] := fun e => by rw [e] at h; cases h
  have e := List.dropLast_concat_getLast hne
  have hl : l2.dropLast.length = n := by rw [List.length_dropLast]; omega
  have ih := isort_append_n l1 n l2.dropLast hl
  rw [← e, ← List.append_assoc, isort_snoc, isort_snoc, ih, mrg_ins key _ _ _ (isort_sorted key l1) (isort_sorted key _)]
theorem isort_append (l1 l2 : List α) : isort key (l1 ++ l2) = mrg key (isort key l1) (isort key l2) := isort_append_n key l1 _ l2 rfl
end
section
variable {α : Type}
def sw1 (xs : List α) (p q : Nat) : List α := match xs[p]?, xs[q]? with
 | some x, some y => (xs.set p y).set q x
 | _, _ => xs
def swR (xs : List α) (a b : Nat) : Nat → List α
 | 0 => xs
 | i + 1 => sw1 (swR xs a b i) (a + i) (b + i)
theorem sw1_len (xs : List α) (p q : Nat) : (sw1 xs p q).length = xs.length := by
 unfold sw1; split <;> simp
theorem swR_len (xs : List α) (a b : Nat) : ∀ i, (swR xs a b i).length = xs.length
 | 0 => rfl
 | i + 1 => by rw [swR, sw1_len, swR_len xs a b i]
theorem sw1_eq {xs : List α} {p q : Nat} {x y : α} (hx : xs[p]? = some x) (hy : xs[q]? = some y) : sw1 xs p q = (xs.set p y).set q x := by
 unfold sw1; rw [hx, hy]
theorem swR_get (xs : List α) (a b c : Nat) (hab : a + c ≤ b) (hb : b + c ≤ xs.length) : ∀ i, i ≤ c → ∀ j, (swR xs a b i)[j]? = if a ≤ j ∧ j < a + i then xs[j - a + b]? else if b ≤ j ∧ j < b + i then xs[j - b + a]? else xs[j]? := by
 intro i
 induction i with
 | zero => intro _ j; rw [swR, if_neg (by omega), if_neg (by omega)]
 | succ i ih =>
  intro hi j
  have I := ih (by omega)
  have h1 : (swR xs a b i)[a + i]? = xs[a + i]? := by rw [I, if_neg (by omega), if_neg (by omega)]
  have h2 : (swR xs a b i)[b + i]? = xs[b + i]? := by rw [I, if_neg (by omega), if_neg (by omega)]
  have e1 : xs[a + i]? = some xs[a + i] := List.getElem?_eq_getElem (by omega)
  have e2 : xs[b + i]? = some xs[b + i] := List.getElem?_eq_getElem (by omega)
  have hl := swR_len xs a b i
  rw [swR, sw1_eq (h1.trans e1) (h2.trans e2), List.getElem?_set, List.length_set, hl]
  by_cases hj : b + i = j
  ·rw [if_pos hj, if_pos (by omega), if_neg (by omega), if_pos (by omega), ← e1]
   congr 1; omega
  ·rw [if_neg hj, List.getElem?_set, hl]
   by_cases hj2 : a + i = j
   ·rw [if_pos hj2, if_pos (by omega), if_pos (by omega), ← e2]
    congr 1; omega
   ·rw [if_neg hj2, I]
    by_cases c1 : a ≤ j ∧ j < a + i
    ·rw [if_pos c1, if_pos (by omega)]
    ·rw [if_neg c1, if_neg (show ¬ (a ≤ j ∧ j < a + (i + 1)) by omega)]
     by_cases c2 : b ≤ j ∧ j < b + i
     ·rw [if_pos c2, if_pos (by omega)]
     ·rw [if_neg c2, if_neg (show ¬ (b ≤ j ∧ j < b + (i + 1)) by omega)]
theorem swR_lists (X A Y B Z : List α) (h : A.length = B.length) : swR (X ++ (A ++ (Y ++ (B ++ Z)))) X.length (X.length + A.length + Y.length) A.length = X ++ (B ++ (Y ++ (A ++ Z))) := by
 apply List.ext_getElem?
 intro j
 rw [swR_get _ _ _ A.length (by omega) (by simp only [List.length_append]; omega) _ (Nat.le_refl _)]
 simp only [List.getElem?_append, List.length_append]
 repeat' split
 all_goals first | rfl | omega | (congr 1; omega)
end
end Go.Proofs.Ytckhjehibjdjdaa.P
namespace Go.Proofs.Ytckhjehibjdjdaa.P
open Go.RowKit Go.Shelf Go.Proofs.YtckhjehibjdjdaaW.PrintWords Go.Proofs.YtckhjehibjdjdaaW.PrintLast Go.Proofs.YtckhjehibjdjdaaW.PrintMore
attribute [local go_sem] Oper.semAt_some
set_option maxHeartbeats 8000000 in
set_option maxRecDepth 100000 in
theorem swapRange_any (g n cap base a b c : Nat) (ok : Nat → Prop) (xs : List (HV)) (w : World) (hr : Kd.R kh 41 w base ok (.slice (some ⟨g, 0, none⟩) n cap) xs) (hab : a + c ≤ b) (hb : b + c ≤ n) (hn : n ≤ 4611686018427387904) (hok : ∀ k, ok k → k < w.heap.size) :
  Calls Try.prog 139 #[.slice (some ⟨g, 0, none⟩) n cap, .int .i64 a, .int .i64 b, .int .i64 c, .func (.func 72) #[] #[]] w fun e w' => e = .returned (.tuple #[]) ∧ Kd.R kh 41 w' base ok (.slice (some ⟨g, 0, none⟩) n cap) (swR xs a b c) ∧ w.grownBy w' (some g) := by
 have hu41 := Try.underlying41
 have HR := m_ hr
 have hxl : xs.length = n := (Kd.R_reads' hr).1.symm
 clear hr
 go_enter Try.func139, Try.ntmps139
 go_wp2
 go_loopw [10] (fun v10 wr => ∃ i : Nat, i ≤ c ∧ v10 = .int .i64 (i : Int) ∧ A_ (Kd.R kh 41 wr base ok (.slice (some ⟨g, 0, none⟩) n cap) (swR xs a b i)) ∧ A_ (w.grownBy wr (some g))) (fun v10 _ => c - (intOf v10).toNat)
 case atStart => exact ⟨0, Nat.zero_le _, rfl, HR, ⟨c3_ _ _⟩⟩
 case round =>
  obtain ⟨i, hi, rfl, HA, HG⟩ := hrel
  by_cases hlt : i < c
  ·have hlt' : (i : Int) < c := by omega
   have hl := swR_len xs a b i
   have hgx := List.getElem?_eq_getElem (show a + i < (swR xs a b i).length by omega)
   have hgy := List.getElem?_eq_getElem (show b + i < (swR xs a b i).length by omega)
   have HST := m_ (show swR xs a b (i + 1) = _ from sw1_eq hgx hgy)
   generalize (swR xs a b i)[a + i] = x at *
   generalize (swR xs a b i)[b + i] = y at *
   obtain ⟨x0, x1, x2, x3, x4⟩ := at_kh HA.out (a + i) x hgx
   obtain ⟨y0, y1, y2, y3, y4⟩ := at_kh HA.out (b + i) y hgy
   obtain ⟨g', cap', cur, hv, _, _, hh⟩ := ownh HA.out (by omega)
   injection hv with ha hn1 hc1
   injection ha with ha
   injection ha with ha
   subst ha
   clear hn1 hc1 hgx hgy
   have z0 := a2_ hh ((a + i) * 5)
   have z1 := a2_ hh ((a + i) * 5 + 1)
   have z2 := a2_ hh ((a + i) * 5 + 2)
   have z3 := a2_ hh ((a + i) * 5 + 3)
   have z4 := a2_ hh ((a + i) * 5 + 4)
   have v0 := a2_ hh ((b + i) * 5)
   have v1 := a2_ hh ((b + i) * 5 + 1)
   have v2 := a2_ hh ((b + i) * 5 + 2)
   have v3 := a2_ hh ((b + i) * 5 + 3)
   have v4 := a2_ hh ((b + i) * 5 + 4)
   clear hh
   have p1 := put_kh HA.out (a + i) (by omega) y
   have p2 := put_kh p1.1 (b + i) (by omega) x
   have hR5 := Kd.R_drew p2.1
   have hG5 := grown_drew (b1_ (b1_ HG.out p1.2) p2.2)
   rw [← HST.out] at hR5
   simp only [hc, World.setCells, Nat.add_assoc, Nat.reduceAdd] at hR5 hG5
   have HR5 := m_ hR5
   have HG5 := m_ hG5
   clear hR5 hG5 p1 p2 HST
   have e1 : IntKind.i64.wrap ((a : Int) + (i : Int)) = (a : Int) + (i : Int) := by rw [IntKind.wrap_i64]; omega
   have e2 : IntKind.i64.wrap ((b : Int) + (i : Int)) = (b : Int) + (i : Int) := by rw [IntKind.wrap_i64]; omega
   have i0 : (0 : Int) ≤ (a : Int) + (i : Int) := by omega
   have i1 : (a : Int) + (i : Int) < n := by omega
   have i2 : (0 : Int) ≤ (b : Int) + (i : Int) := by omega
   have i3 : (b : Int) + (i : Int) < n := by omega
   have i4 : ((a : Int) + (i : Int)).toNat = a + i := by omega
   have i5 : ((b : Int) + (i : Int)).toNat = b + i := by omega
   go_wp2
   go_region
   revert HR5 HG5
   generalize World.drew _ = w5
   intro HR5 HG5
   go_wp2
   go_roundw
   case rel => exact ⟨i + 1, by omega, by go_num, HR5, HG5⟩
   case measure => simp [intOf]; omega
  ·obtain rfl : i = c := by omega
   go_wp2
   go_end0
   exact ⟨rfl, HA.out, HG.out⟩
theorem swap_lists (g n cap base : Nat) (ok : Nat → Prop) (X A Y B Z : List HV) (w : World) (a b c : Nat) (hr : Kd.R kh 41 w base ok (.slice (some ⟨g, 0, none⟩) n cap) (X ++ (A ++ (Y ++ (B ++ Z))))) (ha : a = X.length) (hb : b = X.length + A.length + Y.length) (hc : c = A.length) (hB : A.length = B.length) (hn : n ≤ 4611686018427387904) (hok : ∀ k, ok k → k < w.heap.size) :
  Calls Try.prog 139 #[.slice (some ⟨g, 0, none⟩) n cap, .int .i64 a, .int .i64 b, .int .i64 c, .func (.func 72) #[] #[]] w fun e w' => e = .returned (.tuple #[]) ∧ Kd.R kh 41 w' base ok (.slice (some ⟨g, 0, none⟩) n cap) (X ++ (B ++ (Y ++ (A ++ Z)))) ∧ w.grownBy w' (some g) := by
 have hl := (Kd.R_reads' hr).1
 simp only [List.length_append] at hl
 subst ha hb hc
 rw [← swR_lists X A Y B Z hB]
 exact swapRange_any g n cap base _ _ _ ok _ w hr (by omega) (by omega) hn hok
set_option maxHeartbeats 8000000 in
set_option maxRecDepth 100000 in
theorem rotate_any (g n cap base a m b : Nat) (ok : Nat → Prop) (X U V Z : List HV) (w : World) (hr : Kd.R kh 41 w base ok (.slice (some ⟨g, 0, none⟩) n cap) (X ++ (U ++ (V ++ Z)))) (ha : a = X.length) (hm : m = X.length + U.length) (hb : b = X.length + U.length + V.length) (hU : 0 < U.length) (hV : 0 < V.length) (hn : n ≤ 1000000000000) (hok : ∀ k, ok k → k < w.heap.size) :
  Calls Try.prog 136 #[.slice (some ⟨g, 0, none⟩) n cap, .int .i64 a, .int .i64 m, .int .i64 b, .func (.func 72) #[] #[]] w fun e w' => e = .returned (.tuple #[]) ∧ Kd.R kh 41 w' base ok (.slice (some ⟨g, 0, none⟩) n cap) (X ++ (V ++ (U ++ Z))) ∧ w.grownBy w' (some g) := by
 have HR := m_ hr
 have hxl := (Kd.R_reads' hr).1
 simp only [List.length_append] at hxl
 have HOK := m_ hok
 obtain ⟨ui, hui⟩ : ∃ ui, U.length = ui := ⟨_, rfl⟩
 obtain ⟨vj, hvj⟩ : ∃ vj, V.length = vj := ⟨_, rfl⟩
 have HUI := m_ hui
 have HVJ := m_ hvj
 have bm : m ≤ n ∧ b ≤ n ∧ ui ≤ m ∧ a ≤ m ∧ m ≤ b ∧ 0 < ui ∧ 0 < vj := by omega
 have hs1 : IntKind.i64.wrap ((m : Int) - (a : Int)) = (ui : Int) := by rw [IntKind.wrap_i64]; omega
 have hs2 : IntKind.i64.wrap ((b : Int) - (m : Int)) = (vj : Int) := by rw [IntKind.wrap_i64]; omega
 have hs1' : (m : Int) - (a : Int) = (ui : Int) := by omega
 have hs2' : (b : Int) - (m : Int) = (vj : Int) := by omega
 have HM := m_ hm
 have HXL := m_ hxl
 obtain ⟨b1, b2, b3, b4, b5, b6, b7⟩ := bm
 clear hr hok hui hvj hxl hm ha hb hU hV
 go_enter Try.func136, Try.ntmps136
 go_wp2
 go_loopw [10, 11] (fun v10 v11 wr => ∃ (i j : Nat) (X1 U1 V1 Z1 : List HV), v10 = .int .i64 (i : Int) ∧ v11 = .int .i64 (j : Int) ∧ 0 < i ∧ 0 < j ∧ A_ (U1.length = i) ∧ A_ (V1.length = j) ∧ A_ (X1.length + i = m) ∧ A_ (X1 ++ (V1 ++ (U1 ++ Z1)) = X ++ (V ++ (U ++ Z))) ∧
  A_ (Kd.R kh 41 wr base ok (.slice (some ⟨g, 0, none⟩) n cap) (X1 ++ (U1 ++ (V1 ++ Z1)))) ∧ A_ (w.grownBy wr (some g))) (fun v10 v11 _ => (intOf v10).toNat + (intOf v11).toNat)
 case atStart => exact ⟨ui, vj, X, U, V, Z, by first | rfl | (simp [hs1']; done), by first | rfl | (simp [hs2']; done), b6, b7, HUI, HVJ, ⟨by have := HM.out; have := HUI.out; omega⟩, ⟨rfl⟩, HR, ⟨c3_ _ _⟩⟩
 case round =>
  clear HR HUI HVJ HM
  obtain ⟨i, j, X1, U1, V1, Z1, rfl, rfl, hi, hj, HU, HV, HX, HT, HA, HG⟩ := hrel
  have hlen : X1.length + (i + (j + Z1.length)) = n := by
   have := (Kd.R_reads' HA.out).1
   simp only [List.length_append] at this
   have := HU.out; have := HV.out; omega
  have hok1 : ∀ k, ok k → k < wr.heap.size := fun k hk => Nat.lt_of_lt_of_le (HOK.out k hk) HG.out.size
  have hxm := HX.out
  by_cases hij : i = j
  ·subst hij
   have e0 : ((i : Int) != (i : Int)) = false := by simp
   have e1 : IntKind.i64.wrap ((m : Int) - (i : Int)) = ((m - i : Nat) : Int) := by rw [IntKind.wrap_i64]; omega
   have e2 : (m : Int) - (i : Int) = ((m - i : Nat) : Int) := by omega
   have hcall := swap_lists g n cap base ok X1 U1 [] V1 Z1 wr (m - i) m i HA.out (by omega) (by have := HU.out; simp; omega) HU.out.symm (by have := HU.out; have := HV.out; omega) (by omega) hok1
   rw [List.nil_append, HT.out] at hcall
   have HC := m_ hcall
   clear hcall hok1 hxm
   go_wp2_with (go_at_call 139; refine HC.out.mono ?_; rintro e w5 ⟨rfl, hr5, hg5⟩; have HR5 := m_ hr5; have HG5 := m_ (b1_ HG.out hg5); clear hr5 hg5)
   go_end0
   exact ⟨rfl, HR5.out, HG5.out⟩
  ·have e0 : ((i : Int) != (j : Int)) = true := by simp; omega
   by_cases hgt : j < i
   ·have e1 : decide ((j : Int) < (i : Int)) = true := by simp; omega
    have e2 : (m : Int) - (i : Int) = ((m - i : Nat) : Int) := by omega
    have hsp : U1 = U1.take j ++ U1.drop j := (List.take_append_drop j U1).symm
    have hl1 : (U1.take j).length = j := by rw [List.length_take]; have := HU.out; omega
    have hl2 : (U1.drop j).length = i - j := by rw [List.length_drop]; have := HU.out; omega
    generalize U1.take j = P at *
    generalize U1.drop j = Q at *
    subst hsp
    have hA := HA.out
    rw [List.append_assoc] at hA
    have hcall := swap_lists g n cap base ok X1 P Q V1 Z1 wr (m - i) m j hA (by omega) (by omega) hl1.symm (by have := HV.out; omega) (by omega) hok1
    have HC := m_ hcall
    have HT2 := m_ (show (X1 ++ V1) ++ (P ++ (Q ++ Z1)) = X ++ (V ++ (U ++ Z)) from by rw [← HT.out]; simp)
    clear hcall hok1 hA HT HU HA
    have HL1 := m_ hl1
    have HL2 := m_ hl2
    have HX2 := m_ (show (X1 ++ V1).length + (i - j) = m from by rw [List.length_append]; have := HV.out; omega)
    clear hl1 hl2 hxm HX
    go_wp2_with (go_at_call 139; refine HC.out.mono ?_; rintro e w5 ⟨rfl, hr5, hg5⟩; have HR5 := m_ (show Kd.R kh 41 w5 base ok (.slice (some ⟨g, 0, none⟩) n cap) ((X1 ++ V1) ++ (Q ++ (P ++ Z1))) from by rw [List.append_assoc]; exact hr5); have HG5 := m_ (b1_ HG.out hg5); clear hr5 hg5)
    go_roundw
    case rel => exact ⟨i - j, j, X1 ++ V1, Q, P, Z1, by go_num, rfl, by omega, hj, HL2, HL1, HX2, HT2, HR5, HG5⟩
    case measure => simp [intOf]; omega
   ·have e1 : decide ((j : Int) < (i : Int)) = false := by simp; omega
    have e2 : (m : Int) - (i : Int) = ((m - i : Nat) : Int) := by omega
    have e3 : (m : Int) + (j : Int) - (i : Int) = ((m + j - i : Nat) : Int) := by omega
    have hsp : V1 = V1.take (j - i) ++ V1.drop (j - i) := (List.take_append_drop _ V1).symm
    have hl1 : (V1.take (j - i)).length = j - i := by rw [List.length_take]; have := HV.out; omega
    have hl2 : (V1.drop (j - i)).length = i := by rw [List.length_drop]; have := HV.out; omega
    generalize V1.take (j - i) = P at *
    generalize V1.drop (j - i) = Q at *
    subst hsp
    have hA := HA.out
    rw [List.append_assoc] at hA
    have hcall := swap_lists g n cap base ok X1 U1 P Q Z1 wr (m - i) (m + j - i) i hA (by omega) (by have := HU.out; omega) HU.out.symm (by have := HU.out; omega) (by omega) hok1
    have HC := m_ hcall
    have HT2 := m_ (show X1 ++ (P ++ (Q ++ (U1 ++ Z1))) = X ++ (V ++ (U ++ Z)) from by rw [← HT.out]; simp)
    clear hcall hok1 hA HT HV HA
    have HL1 := m_ hl1
    have HL2 := m_ hl2
    clear hl1 hl2 hxm
    go_wp2_with (go_at_call 139; refine HC.out.mono ?_; rintro e w5 ⟨rfl, hr5, hg5⟩; have HR5 := m_ hr5; have HG5 := m_ (b1_ HG.out hg5); clear hr5 hg5)
    go_roundw
    case rel => exact ⟨i, j - i, X1, Q, P, U1 ++ Z1, rfl, by go_num, hi, by omega, HL2, HL1, HX, HT2, HR5, HG5⟩
    case measure => simp [intOf]; omega
theorem int_i64 {a b : Int} (h : a = b) : Value.int .i64 a = Value.int .i64 b := by rw [h]
theorem cmpI_lt (x y : Int) : decide (cmpI x y < 0) = decide (x < y) := by
 unfold cmpI
 by_cases h : x < y
 ·rw [if_pos h, decide_eq_true h]; rfl
 ·rw [if_neg h, decide_eq_false h]; split <;> rfl
theorem row_at {X V Z : List HV} (u : HV) {h m : Nat} (hm : m = X.length + 1) (h1 : m ≤ h) (h2 : h - m < V.length) : (X ++ (u :: (V ++ Z)))[h]? = some V[h - m] := by
 rw [List.getElem?_append_right (by omega), show h - X.length = (h - m) + 1 by omega, List.getElem?_cons_succ, List.getElem?_append_left h2, List.getElem?_eq_getElem h2]
theorem srt_take {V : List HV} (hV : Srt hkey V) {k : Nat} (hk : k < V.length) {u : HV} (h : hkey V[k] < hkey u) : ∀ y ∈ V.take (k + 1), hkey y < hkey u := fun y hy => by
 obtain ⟨j, hj, rfl⟩ := List.mem_iff_getElem.1 hy
 rw [List.length_take] at hj
 rw [List.getElem_take]
 by_cases e : j = k
 ·subst e; exact h
 ·have := List.pairwise_iff_getElem.1 hV j k (by omega) hk (by omega)
  omega
theorem srt_drop {V : List HV} (hV : Srt hkey V) {k : Nat} (hk : k < V.length) {u : HV} (h : ¬ hkey V[k] < hkey u) : ∀ y ∈ V.drop k, hkey u ≤ hkey y := fun y hy => by
 obtain ⟨j, hj, rfl⟩ := List.mem_iff_getElem.1 hy
 rw [List.length_drop] at hj
 rw [List.getElem_drop]
 by_cases e : j = 0
 ·subst e; simp only [Nat.add_zero]; omega
 ·have := List.pairwise_iff_getElem.1 hV k (k + j) hk (by omega) (by omega)
  omega
theorem bub (X A : List HV) (u v : HV) (B : List HV) : ((X ++ (A ++ (u :: v :: B))).set (X.length + A.length) v).set (X.length + A.length + 1) u = X ++ ((A ++ [v]) ++ (u :: B)) := by
 rw [List.set_append_right _ _ (by omega), List.set_append_right _ _ (by omega), List.set_append_right _ _ (by omega), List.set_append_right _ _ (by omega), show X.length + A.length - X.length - A.length = 0 by omega, show X.length + A.length + 1 - X.length - A.length = 1 by omega]
 simp
set_option maxHeartbeats 8000000 in
set_option maxRecDepth 100000 in
theorem symMerge_left (g n cap base a m b : Nat) (ok : Nat → Prop) (X V Z : List HV) (u : HV) (w : World) (hr : Kd.R kh 41 w base ok (.slice (some ⟨g, 0, none⟩) n cap) (X ++ (u :: (V ++ Z)))) (ha : a = X.length) (hm : m = X.length + 1) (hb : b = X.length + 1 + V.length) (hV : Srt hkey V) (hn : n ≤ 1000000000000) (hok : ∀ k, ok k → k < w.heap.size) :
  Calls Try.prog 121 #[.slice (some ⟨g, 0, none⟩) n cap, .int .i64 a, .int .i64 m, .int .i64 b, .func (.func 72) #[] #[]] w fun e w' => e = .returned (.tuple #[]) ∧ Kd.R kh 41 w' base ok (.slice (some ⟨g, 0, none⟩) n cap) (X ++ (mrg hkey [u] V ++ Z)) ∧ w.grownBy w' (some g) := by
 have hu41 := Try.underlying41
 have HR := m_ hr
 have HOK := m_ hok
 have HVS := m_ hV
 have hxl := (Kd.R_reads' hr).1
 simp only [List.length_append, List.length_cons] at hxl
 have bm : a < n ∧ m ≤ n ∧ b ≤ n ∧ m ≤ b := by omega
 obtain ⟨b1, b2, b3, b4⟩ := bm
 have hma : ((m : Int) - (a : Int) == 1) = true := by simp; omega
 have HM := m_ (And.intro hm (show m = a + 1 by omega))
 have HB := m_ (And.intro (show b = m + V.length by omega) hxl)
 have HAL := m_ ha
 clear hr hok hV hxl hm ha hb
 go_enter Try.func121, Try.ntmps121
 go_wp2
 go_loopw [10, 11] (fun v10 v11 wr => ∃ (i j : Nat), v10 = .int .i64 (i : Int) ∧ v11 = .int .i64 (j : Int) ∧ m ≤ i ∧ i ≤ j ∧ j ≤ b ∧ A_ (∀ y ∈ V.take (i - m), hkey y < hkey u) ∧ A_ (∀ y ∈ V.drop (j - m), hkey u ≤ hkey y) ∧
  A_ (Kd.R kh 41 wr base ok (.slice (some ⟨g, 0, none⟩) n cap) (X ++ (u :: (V ++ Z)))) ∧ A_ (w.grownBy wr (some g))) (fun v10 v11 _ => (intOf v11).toNat - (intOf v10).toNat)
 case atStart => exact ⟨m, b, rfl, rfl, Nat.le_refl _, b4, Nat.le_refl _, ⟨by simp⟩, ⟨by rw [List.drop_eq_nil_of_le (by have := HB.out; omega)]; simp⟩, HR, ⟨c3_ _ _⟩⟩
 case round =>
  clear HR
  obtain ⟨i, j, rfl, rfl, hi, hij, hj, HT, HD, HA, HG⟩ := hrel
  by_cases hlt : i < j
  ·have hlt' : (i : Int) < j := by omega
   obtain ⟨h, hh⟩ : ∃ h, h = (i + j) / 2 := ⟨_, rfl⟩
   have hh1 : i ≤ h ∧ h < j := by omega
   have h3 : h - m < V.length := by have := HB.out; omega
   have hry := row_at (Z := Z) u HM.out.1 (Nat.le_trans hi hh1.1) h3
   have hru : (X ++ (u :: (V ++ Z)))[a]? = some u := by rw [List.getElem?_append_right (by have := HAL.out; omega), show a - X.length = 0 by have := HAL.out; omega]; rfl
   have hgy := at_kh HA.out h V[h - m] hry
   have hgu := at_kh HA.out a u hru
   have ST := m_ (fun hl => srt_take HVS.out h3 (u := u) hl)
   have SD := m_ (fun hl => srt_drop HVS.out h3 (u := u) hl)
   generalize V[h - m] = y at *
   obtain ⟨y0, y1, y2, y3, y4⟩ := hgy
   obtain ⟨x0, x1, x2, x3, x4⟩ := hgu
   have HRY := m_ hry
   have HRU := m_ hru
   have HHH := m_ hh
   have c0 : (0 : Int) ≤ (i : Int) + (j : Int) := by omega
   have c1 : (i : Int) + (j : Int) ≤ 2000000000000 := by omega
   have i0 : (0 : Int) ≤ ((i : Int) + (j : Int)) / 2 := by omega
   have i1 : ((i : Int) + (j : Int)) / 2 < n := by omega
   have i2 : (((i : Int) + (j : Int)) / 2).toNat = h := by omega
   have i3 : (a : Int) < n := by omega
   have hh2 : (i ≤ h ∧ h < j) := hh1
   clear hry hru hh hh1
   go_wp2
   go_still_tail 9, (by kernel_rfl)
   change wpList _ _ _ _ _ wr.drew
   have hAd := Kd.R_drew HA.out
   have hGd := grown_drew HG.out
   clear x0 x1 x2 x3 x4 y0 y1 y2 y3 y4
   generalize wr.drew = w3 at *
   have HA3 := m_ hAd
   have HG3 := m_ hGd
   clear hAd hGd HA HG
   have hcl := cmpI_lt y.1.f2 u.1.f2
   by_cases hlt2 : hkey y < hkey u
   ·rw [decide_eq_true (show y.1.f2 < u.1.f2 from hlt2)] at hcl
    have HST := m_ (ST.out (by omega))
    clear hlt2 ST SD
    go_wp2_with (go_at_call 72; refine (cmpH_any y u _).mono ?_; rintro e w4 ⟨rfl, hb4⟩; have HA4 := m_ (Kd.R_below HA3.out hb4); have HG4 := m_ (d2_ HG3.out hb4); clear hb4)
    go_roundw
    case rel => exact ⟨h + 1, j, int_i64 (by have := HHH.out; omega), rfl, by omega, by omega, hj, ⟨by rw [show h + 1 - m = h - m + 1 by omega]; exact HST.out⟩, HD, HA4, HG4⟩
    case measure => simp [intOf]; omega
   ·rw [decide_eq_false (show ¬ y.1.f2 < u.1.f2 from hlt2)] at hcl
    have HSD := m_ (SD.out (by omega))
    clear hlt2 ST SD
    go_wp2_with (go_at_call 72; refine (cmpH_any y u _).mono ?_; rintro e w4 ⟨rfl, hb4⟩; have HA4 := m_ (Kd.R_below HA3.out hb4); have HG4 := m_ (d2_ HG3.out hb4); clear hb4)
    go_roundw
    case rel => exact ⟨i, h, rfl, int_i64 (by have := HHH.out; omega), hi, by omega, by omega, HT, HSD, HA4, HG4⟩
    case measure => simp [intOf]; omega
  ·obtain rfl : i = j := by omega
   have hV1 : V.take (i - m) ++ V.drop (i - m) = V := List.take_append_drop _ V
   have hml : mrg hkey [u] V = V.take (i - m) ++ u :: V.drop (i - m) := by
    have := mrg_one_left hkey u (V.take (i - m)) (V.drop (i - m)) HT.out HD.out
    rw [hV1] at this
    exact this
   have HAa := HA.out
   rw [← hV1] at HAa
   have hlA : (V.take (i - m)).length = i - m := by rw [List.length_take]; have := HB.out; omega
   have HA2 := m_ HAa
   have HLA := m_ hlA
   have HML := m_ hml
   generalize V.take (i - m) = A at *
   generalize V.drop (i - m) = B at *
   clear HT HD HA HAa hlA hV1 hml HVS
   go_wp2
   obtain ⟨wo, hwo⟩ : ∃ wo : World, wo = wr := ⟨_, rfl⟩
   subst hwo
   go_loopw [13] (fun v13 w2 => ∃ (k : Nat) (A1 A2 : List HV), v13 = .int .i64 (k : Int) ∧ a ≤ k ∧ k + 1 ≤ i ∧ A_ (A1.length = k - a) ∧ A_ (A1 ++ A2 = A) ∧ A_ (Kd.R kh 41 w2 base ok (.slice (some ⟨g, 0, none⟩) n cap) (X ++ (A1 ++ (u :: (A2 ++ (B ++ Z)))))) ∧ A_ (w.grownBy w2 (some g))) (fun v13 _ => i - (intOf v13).toNat)
   case atStart => exact ⟨a, [], A, rfl, Nat.le_refl _, by have := HM.out; omega, ⟨by simp⟩, ⟨rfl⟩, ⟨by have := HA2.out; rw [List.append_assoc] at this; exact this⟩, HG⟩
   case round =>
    clear HA2 HG
    obtain ⟨k, A1, A2, rfl, hk, hki, HL1, HAA, HA, HG⟩ := hrel
    by_cases hk2 : k + 1 < i
    ·cases A2 with
     | nil =>
      exfalso
      have h1 := HAA.out; have h2 := HL1.out; have h3 := HLA.out; have h4 := HM.out
      rw [List.append_nil] at h1
      rw [h1] at h2
      omega
     | cons v A2 =>
      have hlt' : (k : Int) < (i : Int) - 1 := by omega
      have hX := HAL.out
      have hL1 := HL1.out
      have hpos : X.length + A1.length = k := by omega
      have hru : (X ++ (A1 ++ (u :: (v :: A2 ++ (B ++ Z)))))[k]? = some u := by rw [List.getElem?_append_right (by omega), List.getElem?_append_right (by omega), show k - X.length - A1.length = 0 by omega]; rfl
      have hrv : (X ++ (A1 ++ (u :: (v :: A2 ++ (B ++ Z)))))[k + 1]? = some v := by rw [List.getElem?_append_right (by omega), List.getElem?_append_right (by omega), show k + 1 - X.length - A1.length = 1 by omega]; rfl
      obtain ⟨x0, x1, x2, x3, x4⟩ := at_kh HA.out k u hru
      obtain ⟨y0, y1, y2, y3, y4⟩ := at_kh HA.out (k + 1) v hrv
      obtain ⟨g', cap', cur, hv, _, _, hh⟩ := ownh HA.out (by simp only [List.length_append, List.length_cons]; omega)
      injection hv with ha hn1 hc1
      injection ha with ha
      injection ha with ha
      subst ha
      clear hn1 hc1 hru hrv
      have z0 := a2_ hh (k * 5)
      have z1 := a2_ hh (k * 5 + 1)
      have z2 := a2_ hh (k * 5 + 2)
      have z3 := a2_ hh (k * 5 + 3)
      have z4 := a2_ hh (k * 5 + 4)
      have v0 := a2_ hh ((k + 1) * 5)
      have v1 := a2_ hh ((k + 1) * 5 + 1)
      have v2 := a2_ hh ((k + 1) * 5 + 2)
      have v3 := a2_ hh ((k + 1) * 5 + 3)
      have v4 := a2_ hh ((k + 1) * 5 + 4)
      clear hh
      have p1 := put_kh HA.out k (by omega) v
      have p2 := put_kh p1.1 (k + 1) (by omega) u
      have hR5 := Kd.R_drew p2.1
      have hG5 := grown_drew (b1_ (b1_ HG.out p1.2) p2.2)
      have hbub := bub X A1 u v (A2 ++ (B ++ Z))
      rw [hpos] at hbub
      rw [show (X ++ (A1 ++ (u :: (v :: A2 ++ (B ++ Z))))) = X ++ (A1 ++ (u :: v :: (A2 ++ (B ++ Z)))) from rfl, hbub] at hR5
      simp only [hc, World.setCells, Nat.add_assoc, Nat.reduceAdd] at hR5 hG5
      have HR5 := m_ hR5
      have HG5 := m_ hG5
      have HL5 := m_ (show (A1 ++ [v]).length = k + 1 - a from by rw [List.length_append, List.length_singleton]; omega)
      have HA5 := m_ (show (A1 ++ [v]) ++ A2 = A from by rw [← HAA.out]; simp)
      clear hR5 hG5 p1 p2 hbub hX hL1 hpos HL1 HAA
      have e1 : IntKind.i64.wrap ((k : Int) + 1) = (k : Int) + 1 := by rw [IntKind.wrap_i64]; omega
      have i0 : (0 : Int) ≤ (k : Int) + 1 := by omega
      have i1 : (k : Int) + 1 < n := by omega
      have i2 : (k : Int) < n := by omega
      have i4 : ((k : Int) + 1).toNat = k + 1 := by omega
      go_wp2
      go_region
      revert HR5 HG5
      generalize World.drew _ = w5
      intro HR5 HG5
      go_wp2
      go_roundw
      case rel => exact ⟨k + 1, A1 ++ [v], A2, by go_num, by omega, by omega, HL5, HA5, HR5, HG5⟩
      case measure => simp [intOf]; omega
    ·have hlt' : ¬ (k : Int) < (i : Int) - 1 := by omega
     have hA2 : A2 = [] := by
      have h1 := congrArg List.length HAA.out; have h2 := HL1.out; have h3 := HLA.out; have h4 := HM.out
      rw [List.length_append] at h1
      exact List.eq_nil_of_length_eq_zero (by omega)
     subst hA2
     have hAA := HAA.out
     rw [List.append_nil] at hAA
     have hfin := HA.out
     rw [hAA] at hfin
     have HF := m_ (show Kd.R kh 41 wr base ok (.slice (some ⟨g, 0, none⟩) n cap) (X ++ ((A ++ u :: B) ++ Z)) from by simpa using hfin)
     clear hAA hfin HAA HL1
     go_wp2
     first | go_end0 | refine bodyPost_ret (results_none rfl _ _ _) rfl ?_
     exact ⟨rfl, by rw [HML.out]; exact HF.out, HG.out⟩
theorem row_at2 {X U R : List HV} {h a : Nat} (ha : a = X.length) (h1 : a ≤ h) (h2 : h - a < U.length) : (X ++ (U ++ R))[h]? = some U[h - a] := by
 rw [List.getElem?_append_right (by omega), show h - X.length = h - a by omega, List.getElem?_append_left h2, List.getElem?_eq_getElem h2]
theorem srt_take2 {U : List HV} (hU : Srt hkey U) {k : Nat} (hk : k < U.length) {v : HV} (h : ¬ hkey v < hkey U[k]) : ∀ y ∈ U.take (k + 1), hkey y ≤ hkey v := fun y hy => by
 obtain ⟨j, hj, rfl⟩ := List.mem_iff_getElem.1 hy
 rw [List.length_take] at hj
 rw [List.getElem_take]
 by_cases e : j = k
 ·subst e; omega
 ·have := List.pairwise_iff_getElem.1 hU j k (by omega) hk (by omega)
  omega
theorem srt_drop2 {U : List HV} (hU : Srt hkey U) {k : Nat} (hk : k < U.length) {v : HV} (h : hkey v < hkey U[k]) : ∀ y ∈ U.drop k, hkey v < hkey y := fun y hy => by
 obtain ⟨j, hj, rfl⟩ := List.mem_iff_getElem.1 hy
 rw [List.length_drop] at hj
 rw [List.getElem_drop]
 by_cases e : j = 0
 ·subst e; simp only [Nat.add_zero]; exact h
 ·have := List.pairwise_iff_getElem.1 hU k (k + j) hk (by omega) (by omega)
  omega
theorem bub2 (X B : List HV) (y v : HV) (R : List HV) : ((X ++ ((B ++ [y]) ++ (v :: R))).set (X.length + B.length + 1) y).set (X.length + B.length) v = X ++ (B ++ (v :: (y :: R))) := by
 rw [List.append_assoc, List.set_append_right _ _ (by omega), List.set_append_right _ _ (by omega), List.set_append_right _ _ (by omega), List.set_append_right _ _ (by omega), show X.length + B.length - X.length - B.length = 0 by omega, show X.length + B.length + 1 - X.length - B.length = 1 by omega]
 simp
theorem snoc_of {α : Type} (l : List α) (h : 0 < l.length) : ∃ l' y, l = l' ++ [y] := by
 have hne : l ≠ [] := fun e => by rw [e] at h; simp at h
 exact ⟨l.dropLast, l.getLast hne, (List.dropLast_concat_getLast hne).symm⟩
set_option maxHeartbeats 8000000 in
set_option maxRecDepth 100000 in
theorem symMerge_right (g n cap base a m b : Nat) (ok : Nat → Prop) (X U Z : List HV) (v : HV) (w : World) (hr : Kd.R kh 41 w base ok (.slice (some ⟨g, 0, none⟩) n cap) (X ++ (U ++ (v :: Z)))) (ha : a = X.length) (hm : m = X.length + U.length) (hb : b = X.length + U.length + 1) (hU1 : 1 < U.length) (hU : Srt hkey U) (hn : n ≤ 1000000000000) (hok : ∀ k, ok k → k < w.heap.size) :
  Calls Try.prog 121 #[.slice (some ⟨g, 0, none⟩) n cap, .int .i64 a, .int .i64 m, .int .i64 b, .func (.func 72) #[] #[]] w fun e w' => e = .returned (.tuple #[]) ∧ Kd.R kh 41 w' base ok (.slice (some ⟨g, 0, none⟩) n cap) (X ++ (mrg hkey U [v] ++ Z)) ∧ w.grownBy w' (some g) := by
 have hu41 := Try.underlying41
 have HR := m_ hr
 have HOK := m_ hok
 have HUS := m_ hU
 have hxl := (Kd.R_reads' hr).1
 simp only [List.length_append, List.length_cons] at hxl
 have bm : a < n ∧ m < n ∧ b ≤ n ∧ a ≤ m := by omega
 obtain ⟨b1, b2, b3, b4⟩ := bm
 have hma : ((m : Int) - (a : Int) == 1) = false := by simp; omega
 have hbm : ((b : Int) - (m : Int) == 1) = true := by simp; omega
 have HM := m_ (And.intro (show m = a + U.length by omega) hxl)
 have HAL := m_ ha
 clear hr hok hU hxl hm ha hb hU1
 go_enter Try.func121, Try.ntmps121
 go_wp2
 go_loopw [14, 15] (fun v14 v15 wr => ∃ (i j : Nat), v14 = .int .i64 (i : Int) ∧ v15 = .int .i64 (j : Int) ∧ a ≤ i ∧ i ≤ j ∧ j ≤ m ∧ A_ (∀ y ∈ U.take (i - a), hkey y ≤ hkey v) ∧ A_ (∀ y ∈ U.drop (j - a), hkey v < hkey y) ∧
  A_ (Kd.R kh 41 wr base ok (.slice (some ⟨g, 0, none⟩) n cap) (X ++ (U ++ (v :: Z)))) ∧ A_ (w.grownBy wr (some g))) (fun v14 v15 _ => (intOf v15).toNat - (intOf v14).toNat)
 case atStart => exact ⟨a, m, rfl, rfl, Nat.le_refl _, b4, Nat.le_refl _, ⟨by simp⟩, ⟨by rw [List.drop_eq_nil_of_le (by have := HM.out; omega)]; simp⟩, HR, ⟨c3_ _ _⟩⟩
 case round =>
  clear HR
  obtain ⟨i, j, rfl, rfl, hi, hij, hj, HT, HD, HA, HG⟩ := hrel
  by_cases hlt : i < j
  ·have hlt' : (i : Int) < j := by omega
   obtain ⟨h, hh⟩ : ∃ h, h = (i + j) / 2 := ⟨_, rfl⟩
   have hh1 : i ≤ h ∧ h < j := by omega
   have h3 : h - a < U.length := by have := HM.out; omega
   have hry := row_at2 (R := v :: Z) HAL.out (Nat.le_trans hi hh1.1) h3
   have hrv : (X ++ (U ++ (v :: Z)))[m]? = some v := by rw [List.getElem?_append_right (by have := HAL.out; omega), List.getElem?_append_right (by have := HAL.out; have := HM.out; omega), show m - X.length - U.length = 0 by have := HAL.out; have := HM.out; omega]; rfl
   have hgy := at_kh HA.out h U[h - a] hry
   have hgv := at_kh HA.out m v hrv
   have ST := m_ (fun hl => srt_take2 HUS.out h3 (v := v) hl)
   have SD := m_ (fun hl => srt_drop2 HUS.out h3 (v := v) hl)
   generalize U[h - a] = y at *
   obtain ⟨y0, y1, y2, y3, y4⟩ := hgy
   obtain ⟨x0, x1, x2, x3, x4⟩ := hgv
   have HHH := m_ hh
   have c0 : (0 : Int) ≤ (i : Int) + (j : Int) := by omega
   have c1 : (i : Int) + (j : Int) ≤ 2000000000000 := by omega
   have i0 : (0 : Int) ≤ ((i : Int) + (j : Int)) / 2 := by omega
   have i1 : ((i : Int) + (j : Int)) / 2 < n := by omega
   have i2 : (((i : Int) + (j : Int)) / 2).toNat = h := by omega
   have i3 : (m : Int) < n := by omega
   have hh2 : (i ≤ h ∧ h < j) := hh1
   clear hry hrv hh hh1
   go_wp2
   go_still_tail 9, (by kernel_rfl)
   change wpList _ _ _ _ _ wr.drew
   have hAd := Kd.R_drew HA.out
   have hGd := grown_drew HG.out
   clear x0 x1 x2 x3 x4 y0 y1 y2 y3 y4
   generalize wr.drew = w3 at *
   have HA3 := m_ hAd
   have HG3 := m_ hGd
   clear hAd hGd HA HG
   have hcl := cmpI_lt v.1.f2 y.1.f2
   by_cases hlt2 : hkey v < hkey y
   ·rw [decide_eq_true (show v.1.f2 < y.1.f2 from hlt2)] at hcl
    have HSD := m_ (SD.out (by omega))
    clear hlt2 ST SD
    go_wp2_with (go_at_call 72; refine (cmpH_any v y _).mono ?_; rintro e w4 ⟨rfl, hb4⟩; have HA4 := m_ (Kd.R_below HA3.out hb4); have HG4 := m_ (d2_ HG3.out hb4); clear hb4)
    go_roundw
    case rel => exact ⟨i, h, rfl, int_i64 (by have := HHH.out; omega), hi, by omega, by omega, HT, HSD, HA4, HG4⟩
    case measure => simp [intOf]; omega
   ·rw [decide_eq_false (show ¬ v.1.f2 < y.1.f2 from hlt2)] at hcl
    have HST := m_ (ST.out (by omega))
    clear hlt2 ST SD
    go_wp2_with (go_at_call 72; refine (cmpH_any v y _).mono ?_; rintro e w4 ⟨rfl, hb4⟩; have HA4 := m_ (Kd.R_below HA3.out hb4); have HG4 := m_ (d2_ HG3.out hb4); clear hb4)
    go_roundw
    case rel => exact ⟨h + 1, j, int_i64 (by have := HHH.out; omega), rfl, by omega, by omega, hj, ⟨by rw [show h + 1 - a = h - a + 1 by omega]; exact HST.out⟩, HD, HA4, HG4⟩
    case measure => simp [intOf]; omega
  ·obtain rfl : i = j := by omega
   have hV1 : U.take (i - a) ++ U.drop (i - a) = U := List.take_append_drop _ U
   have hml : mrg hkey U [v] = U.take (i - a) ++ v :: U.drop (i - a) := by
    have := mrg_one_right hkey v (U.take (i - a)) (U.drop (i - a)) HT.out HD.out
    rw [hV1] at this
    exact this
   have HAa := HA.out
   rw [← hV1] at HAa
   have hlA : (U.take (i - a)).length = i - a := by rw [List.length_take]; have := HM.out; omega
   have hlB : (U.drop (i - a)).length = m - i := by rw [List.length_drop]; have := HM.out; omega
   have HA2 := m_ HAa
   have HLA := m_ (And.intro hlA hlB)
   have HML := m_ hml
   generalize U.take (i - a) = A at *
   generalize U.drop (i - a) = B at *
   obtain ⟨XA, hXA⟩ : ∃ XA, XA = X ++ A := ⟨_, rfl⟩
   have HLX := m_ (show XA.length = i from by rw [hXA, List.length_append]; have := HAL.out; omega)
   have HXA := m_ hXA
   clear HT HD HA HAa hlA hlB hV1 hml HUS hXA
   go_wp2
   obtain ⟨wo, hwo⟩ : ∃ wo : World, wo = wr := ⟨_, rfl⟩
   subst hwo
   go_loopw [17] (fun v17 w2 => ∃ (k : Nat) (B1 B2 : List HV), v17 = .int .i64 (k : Int) ∧ i ≤ k ∧ k ≤ m ∧ A_ (B1.length = k - i) ∧ A_ (B1 ++ B2 = B) ∧ A_ (Kd.R kh 41 w2 base ok (.slice (some ⟨g, 0, none⟩) n cap) (XA ++ (B1 ++ (v :: (B2 ++ Z))))) ∧ A_ (w.grownBy w2 (some g))) (fun v17 _ => (intOf v17).toNat - i)
   case atStart => exact ⟨m, B, [], rfl, by omega, Nat.le_refl _, ⟨by have := HLA.out; omega⟩, ⟨by simp⟩, ⟨by have := HA2.out; rw [HXA.out]; simpa using this⟩, HG⟩
   case round =>
    clear HA2 HG
    obtain ⟨k, B1, B2, rfl, hk, hki, HL1, HAA, HA, HG⟩ := hrel
    by_cases hk2 : i < k
    ·obtain ⟨B', y, hB'⟩ := snoc_of B1 Z3
     subst hB'
     have hlt' : (i : Int) < (k : Int) := by omega
     have hX := HAL.out
     have hL1 := HL1.out
     rw [List.length_append, List.length_singleton] at hL1
     have hLX := HLX.out
     have hpos : XA.length + B'.length + 1 = k := by omega
     have hrv : (XA ++ ((B' ++ [y]) ++ (v :: (B2 ++ Z))))[k]? = some v := by rw [List.getElem?_append_right (by omega), List.getElem?_append_right (by simp only [List.length_append, List.length_singleton]; omega), show k - XA.length - (B' ++ [y]).length = 0 by simp only [List.length_append, List.length_singleton]; omega]; rfl
     have hry : (XA ++ ((B' ++ [y]) ++ (v :: (B2 ++ Z))))[k - 1]? = some y := by rw [List.append_assoc, List.getElem?_append_right (by omega), List.getElem?_append_right (by omega), show k - 1 - XA.length - B'.length = 0 by omega]; rfl
     obtain ⟨x0, x1, x2, x3, x4⟩ := at_kh HA.out k v hrv
     obtain ⟨y0, y1, y2, y3, y4⟩ := at_kh HA.out (k - 1) y hry
     obtain ⟨k', hk'⟩ : ∃ k', k = k' + 1 := ⟨k - 1, by omega⟩
     subst hk'
     rw [Nat.add_sub_cancel] at y0 y1 y2 y3 y4
     obtain ⟨g', cap', cur, hv, _, _, hh⟩ := ownh HA.out (by simp only [List.length_append, List.length_cons]; omega)
     injection hv with ha hn1 hc1
     injection ha with ha
     injection ha with ha
     subst ha
     clear hn1 hc1 hrv hry
     have z0 := a2_ hh (k' * 5)
     have z1 := a2_ hh (k' * 5 + 1)
     have z2 := a2_ hh (k' * 5 + 2)
     have z3 := a2_ hh (k' * 5 + 3)
     have z4 := a2_ hh (k' * 5 + 4)
     have v0 := a2_ hh ((k' + 1) * 5)
     have v1 := a2_ hh ((k' + 1) * 5 + 1)
     have v2 := a2_ hh ((k' + 1) * 5 + 2)
     have v3 := a2_ hh ((k' + 1) * 5 + 3)
     have v4 := a2_ hh ((k' + 1) * 5 + 4)
     clear hh
     have p1 := put_kh HA.out (k' + 1) (by omega) y
     have p2 := put_kh p1.1 k' (by omega) v
     have hR5 := Kd.R_drew p2.1
     have hG5 := grown_drew (b1_ (b1_ HG.out p1.2) p2.2)
     have hbub := bub2 XA B' y v (B2 ++ Z)
     rw [show XA.length + B'.length = k' by omega] at hbub
     rw [hbub] at hR5
     simp only [hc, World.setCells, Nat.add_assoc, Nat.reduceAdd] at hR5 hG5
     have HR5 := m_ hR5
     have HG5 := m_ hG5
     have HL5 := m_ (show B'.length = k' - i from by omega)
     have HA5 := m_ (show B' ++ (y :: B2) = B from by rw [← HAA.out]; simp)
     clear hR5 hG5 p1 p2 hbub hX hL1 hLX hpos HL1 HAA HA HG
     have e1 : IntKind.i64.wrap ((k' : Int) + 1 - 1) = (k' : Int) := by rw [IntKind.wrap_i64]; omega
     have i0 : (0 : Int) ≤ (k' : Int) + 1 := by omega
     have i1 : (k' : Int) + 1 < n := by omega
     have i2 : (k' : Int) < n := by omega
     have i4 : ((k' : Int) + 1).toNat = k' + 1 := by omega
     have i5 : (k' : Int) + 1 - 1 = (k' : Int) := by omega
     go_wp2
     go_region
     revert HR5 HG5
     generalize World.drew _ = w5
     intro HR5 HG5
     go_wp2
     go_roundw
     case rel => exact ⟨k', B', y :: B2, by first | rfl | exact int_i64 (by omega), by omega, by omega, HL5, HA5, HR5, HG5⟩
     case measure => simp [intOf]; omega
    ·obtain rfl : i = k := by omega
     have hlt' : ¬ (i : Int) < (i : Int) := by omega
     have hB1 : B1 = [] := List.eq_nil_of_length_eq_zero Z3
     subst hB1
     have hAA := HAA.out
     rw [List.nil_append] at hAA
     have hfin := HA.out
     rw [hAA, HXA.out] at hfin
     have HF := m_ (show Kd.R kh 41 wr base ok (.slice (some ⟨g, 0, none⟩) n cap) (X ++ ((A ++ v :: B) ++ Z)) from by simpa using hfin)
     clear hAA hfin HAA HL1
     go_wp2
     first | go_end0 | refine bodyPost_ret (results_none rfl _ _ _) rfl ?_
     exact ⟨rfl, by rw [HML.out]; exact HF.out, HG.out⟩
end Go.Proofs.Ytckhjehibjdjdaa.P
