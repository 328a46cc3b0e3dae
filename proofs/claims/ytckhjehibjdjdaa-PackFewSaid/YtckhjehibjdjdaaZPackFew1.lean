/- PackFew: part 1 of the walk and of the plain law that it comes to. No condition. -/
import Derived.Test.YtckhjehibjdjdaaZPackFew0
import Derived.ArgAppend
import Derived.Below
import Derived.BigQuiet
import Derived.BigRegion
import Derived.Carry
import Derived.Deep.AppendLies
import Derived.Deep.CutBlock
import Derived.Deep.DeepCutAuto
import Derived.Deep.Draws
import Derived.Deep.LoopGhost
import Derived.Deep.OwnRows
import Derived.Deep.QuietTactic
import Derived.Deep.RegionHeld3
import Derived.DeepKeys3
import Derived.KernelRfl
import Derived.Laws.Bits64
import Derived.Laws.Bits64b
import Derived.Laws.BitsLemmas
import Derived.Laws.BytesArg
import Derived.Laws.Externs
import Derived.Laws.IdiomCopy
import Derived.Laws.MakeOwn
import Derived.Laws.OwnMore
import Derived.Laws.Rows
import Derived.Laws.Slices
import Derived.Lib.AppendStr
import Derived.Lib.ConvBytes
import Derived.Lib.ReflectliteSlice
import Derived.Lib.ReflectliteSwap
import Derived.Lib.SliceRun
import Derived.LoopIn
import Derived.LoopN
import Derived.LoopNIn
import Derived.Maps.AppendAt
import Derived.Maps.Keyed
import Derived.Maps.Own
import Derived.Maps.OwnOps
import Derived.Maps.OwnSet
import Derived.Maps.Views
import Derived.OrdersHeld
import Derived.Outline
import Derived.OwnWalk
import Derived.OwnWalkIn
import Derived.RangeFuncBound
import Derived.RangeFuncBox
import Derived.RangeFuncCalls
import Derived.RangeFuncFrom
import Derived.RangeFuncLeaves
import Derived.RowKit
import Derived.RowKit3
import Derived.Shelf.Abstract
import Derived.Shelf.RegionOpen
import Derived.StillTailTactics
import Derived.Tactics
import Derived.TacticsInMore
import Derived.WalkKit
import Derived.WideLaws
set_option linter.unusedVariables false
set_option linter.unusedSimpArgs false
namespace Go.Proofs.YtckhjehibjdjdaaW.PrintWords
theorem here_ : True := trivial
end Go.Proofs.YtckhjehibjdjdaaW.PrintWords
namespace Go.Proofs.YtckhjehibjdjdaaW.PrintLast
theorem here_ : True := trivial
end Go.Proofs.YtckhjehibjdjdaaW.PrintLast
namespace Go.Proofs.YtckhjehibjdjdaaW.PrintMore
theorem here_ : True := trivial
end Go.Proofs.YtckhjehibjdjdaaW.PrintMore
namespace Go.Proofs.Ytckhjehibjdjdaa
theorem here_ : True := trivial
end Go.Proofs.Ytckhjehibjdjdaa
namespace Go.Proofs.Ytckhjehibjdjdaa.Bits
theorem here_ : True := trivial
end Go.Proofs.Ytckhjehibjdjdaa.Bits
namespace Go.Proofs.Ytckhjehibjdjdaa.Mp
theorem here_ : True := trivial
end Go.Proofs.Ytckhjehibjdjdaa.Mp
namespace Go.Proofs.Ytckhjehibjdjdaa.Ob
theorem here_ : True := trivial
end Go.Proofs.Ytckhjehibjdjdaa.Ob
namespace Go.Proofs.Ytckhjehibjdjdaa.P
theorem here_ : True := trivial
end Go.Proofs.Ytckhjehibjdjdaa.P
namespace Go.Proofs.Ytckhjehibjdjdaa.RF
theorem here_ : True := trivial
end Go.Proofs.Ytckhjehibjdjdaa.RF
namespace Go.Proofs.Ytckhjehibjdjdaa.packFew
theorem here_ : True := trivial
end Go.Proofs.Ytckhjehibjdjdaa.packFew
namespace Go.Proofs.Ytckhjehibjdjdaa.row0
theorem here_ : True := trivial
end Go.Proofs.Ytckhjehibjdjdaa.row0
namespace Go.Proofs.Ytckhjehibjdjdaa
section
open Go.RowKit Go.Proofs.YtckhjehibjdjdaaW.PrintWords Go.Proofs.YtckhjehibjdjdaaW.PrintLast Go.Proofs.YtckhjehibjdjdaaW.PrintMore
def bl : Nat → Nat → List Bool
 | 0, _ => []
 | n + 1, x => (x % 2 == 1) :: bl n (x / 2)
def bm (n x : Nat) : Array Bool := ⟨bl n x⟩
theorem pu {P : Program} {md : Region.Mode} {ops : Array Oper} {Q : Exit → Act → World → Prop} {S : World → Prop} {ds : List Nat} (i : Nat) (N : Option Tmp) (l' : Array Bool) {oi : Oper} {v : Value} {fuel : Nat} {l : Array Bool} {a a' : Act} {w : World} (h : c6_ P md ops Q S ds fuel l' a' w)
 (hi : ops[i]? = some oi := by exact rfl) (hN : oi.dst = N := by exact rfl) (hc : anyB md ops l l' i = true := by exact any_of HT_.out (by kernel_rfl)) (hQ : ∀ c a w, Q (.panic c) (a.put oi.dst v) w → Q (.panic c) a w := by exact fun _ _ _ h => h)
 (hy : Yields P ops oi v a := by exact Or.inl ⟨by rfl, by intro w'; go_simp; with_reducible rfl⟩) (ha : a.put N v = a' := by simp only [Act.put, List.setIfInBounds_toArray, List.set_cons_zero, List.set_cons_succ, i64_w, i32_w]; rfl) : c6_ P md ops Q S ds (fuel + 1) l a w := pure_ l' hi hN hc hQ hy ha h
theorem bx {P : Program} {ops : Array Oper} {Q : Exit → Act → World → Prop} {a : Act} {o : Oper} {rest : List Oper} {W : World} (N : Tmp) (cs : Array Value) (t : TypeId)
 (h : ∀ g, g = W.heap.size → ∀ w1, w1.heap[g]? = some (.cells cs t (0, 0)) → Below W.heap.size W w1 → wpList P ops Q rest (a.put o.dst (.pointer (some ⟨g, 0, none⟩))) w1)
 (hg : o.guard = none := by exact rfl) (hd : o.dst = some N := by exact rfl) (hr : (execOp a.eval o).run P W = .ok (.value (.pointer (some ⟨W.heap.size, 0, none⟩))) (W.alloc (.cells cs t (0, 0))) := by first | (go_simp; done) | (go_simp; rfl)) : wpList P ops Q (o :: rest) a W := box_event hg hd hr h
theorem tk {P : Program} {md : Region.Mode} {ops : Array Oper} {Q : Exit → Act → World → Prop} {S : World → Prop} {ds : List Nat} (i : Nat) (N : Option Tmp) (l' : Array Bool) {oi : Oper} {v : Value} {fuel : Nat} {l : Array Bool} {a a' : Act} {w : World} (h : c6_ P md ops Q S ds fuel l' a' w)
 (hi : ops[i]? = some oi := by exact rfl) (hN : oi.dst = N := by exact rfl) (hc : takeB md ops ds l l' i = true := by exact take_ofW HT_.out HW_.out (by kernel_rfl)) (hQ : ∀ c a w, Q (.panic c) (a.put oi.dst v) w → Q (.panic c) a w := by exact fun _ _ _ h => h)
 (hy : YieldsIf P ops S oi v a := by exact Or.inl ⟨by rfl, by intro w' h_; repeat (obtain ⟨_, h_⟩ := h_); go_simp; with_reducible rfl⟩) (hS : S w := by exact hHeld) (ha : a.put N v = a' := by simp only [Act.put, List.setIfInBounds_toArray, List.set_cons_zero, List.set_cons_succ, i64_w, i32_w]; rfl) : c6_ P md ops Q S ds (fuel + 1) l a w := take_ l' hi hN hc hQ hy hS ha h
end
section
open Go.RowKit Go.Proofs.YtckhjehibjdjdaaW.PrintWords Go.Proofs.YtckhjehibjdjdaaW.PrintLast Go.Proofs.YtckhjehibjdjdaaW.PrintMore
theorem hb_ {w W : World} (h : Below w.heap.size w W := by repeat (first | (with_reducible first | exact HB.out | apply b1_ | apply d5_ | apply b4_ | refine b2_ ?_ (A_.out (by with_reducible assumption))) | exact HB.out)) : Below w.heap.size w W := h
theorem bk_ {W W' w' : World} {g : Nat} {o : Obj} (h : A_ (W.heap[g]? = some o)) (hb : Below W'.heap.size W' w') (e : W'.heap[g]? = some o := by (with_reducible repeat (first | refine c9_ ?_ _ | refine c8_ ?_ | refine b5_ ?_ _)); exact A_.out (by with_reducible assumption)) : A_ (w'.heap[g]? = some o) := ⟨a1_ e hb⟩
theorem bo_ {W W' : World} {g : Nat} {o : Obj} (h : A_ (W.heap[g]? = some o)) (e : W'.heap[g]? = some o := by (with_reducible repeat (first | refine c9_ ?_ _ | refine c8_ ?_ | refine b5_ ?_ _)); exact A_.out (by with_reducible assumption)) : W'.heap[g]? = some o := e
theorem hs_ {w W w2 : World} (k : Below W.heap.size W w2) (h : Below w.heap.size w W := by repeat (first | (with_reducible first | exact HB.out | apply b1_ | apply d5_ | apply b4_ | refine b2_ ?_ (A_.out (by with_reducible assumption))) | exact HB.out)) : A_ (Below w.heap.size w w2) := ⟨a6_ h k⟩
theorem ge_ {w W : World} {g : Nat} (hg : g = W.heap.size) (h : Below w.heap.size w W := by repeat (first | (with_reducible first | exact HB.out | apply b1_ | apply d5_ | apply b4_ | refine b2_ ?_ (A_.out (by with_reducible assumption))) | exact HB.out)) : A_ (w.heap.size ≤ g) := ⟨hg ▸ b3_ h⟩
theorem nl_ {W W' : World} {g g' : Nat} {o : Obj} (h : A_ (W.heap[g]? = some o)) (hg : g' = W'.heap.size) (e : W'.heap[g]? = some o := by (with_reducible repeat (first | refine c9_ ?_ _ | refine c8_ ?_ | refine b5_ ?_ _)); exact A_.out (by with_reducible assumption)) : A_ (g ≠ g') := ⟨by rw [hg]; exact Nat.ne_of_lt (b7_ e)⟩
theorem nr_ {W W' : World} {g g' : Nat} {o : Obj} (h : A_ (W.heap[g]? = some o)) (hg : g' = W'.heap.size) (e : W'.heap[g]? = some o := by (with_reducible repeat (first | refine c9_ ?_ _ | refine c8_ ?_ | refine b5_ ?_ _)); exact A_.out (by with_reducible assumption)) : A_ (g' ≠ g) := ⟨by rw [hg]; exact Nat.ne_of_gt (b7_ e)⟩
theorem bs_ {p : Prop} (e : p := by (repeat (with_reducible first | refine c9_ ?_ _ | refine c8_ ?_ | refine b5_ ?_ _ | apply c5_ | apply b8_)); exact A_.out (by assumption); all_goals first | rfl | exact A_.out (by assumption)) : p := e
theorem bt_ {q p : Prop} (h : A_ q) (e : q → p := by intro h_; (repeat (with_reducible first | refine c9_ ?_ _ | refine c8_ ?_ | refine b5_ ?_ _ | apply c5_ | apply b8_)); exact h_; all_goals first | rfl | exact A_.out (by assumption)) : p := e h.out
theorem kcl_ {w : World} {g i : Nat} {t : TypeId} {cs : Array Value} {v : Value} (h : A_ (w.heap[g]? = some (.cells cs t (0, 0)))) (e : cs[i]? = some v) : w.cell? ⟨g, i, none⟩ = some v := (a0_ h.out i).trans e
theorem kcd_ {w : World} {g i n : Nat} {t : TypeId} {cs : Array Value} {v : Value} (h : A_ (w.heap[g]? = some (.cells cs t (0, 0)))) (e : cs[i]? = some v) : (w.drewN n).cell? ⟨g, i, none⟩ = some v := (a0_ h.out i).trans e
theorem kc_ {p : Prop} (e : p := by (repeat' (with_reducible refine And.intro ?_ ?_)); all_goals (first | exact kcl_ (by with_reducible assumption) (by rfl) | exact kcd_ (by with_reducible assumption) (by rfl))) : p := e
theorem cx_ {w W : World} {a : Addr} {v : Value} (h : w.cell? a = some v) (hb : Below w.heap.size w W := by exact HB.out) : W.cell? a = some v := (hb.cell (World.block_lt_of_cell? w _ h)).trans h
theorem pv {P : Program} {md : Region.Mode} {ops : Array Oper} {Q : Exit → Act → World → Prop} {S : World → Prop} {ds : List Nat} (i : Nat) (N : Option Tmp) (l' : Array Bool) {oi : Oper} {fuel : Nat} {l : Array Bool} {a a' : Act} {w : World} (h : c6_ P md ops Q S ds fuel l' a' w)
 (hi : ops[i]? = some oi := by exact rfl) (hN : oi.dst = N := by exact rfl) (hc : anyB md ops l l' i = true := by exact any_of HT_.out (by kernel_rfl)) (hQ : ∀ c a w, Q (.panic c) (a.put oi.dst undef) w → Q (.panic c) a w := by exact fun _ _ _ h => h)
 (hy : Yields P ops oi undef a := by exact Or.inr ⟨by rfl, rfl⟩) (ha : a.put N undef = a' := by simp only [Act.put, List.setIfInBounds_toArray, List.set_cons_zero, List.set_cons_succ, i64_w, i32_w]; rfl) : c6_ P md ops Q S ds (fuel + 1) l a w := pure_ l' hi hN hc hQ hy ha h
theorem bz2_ {W : World} {g : Nat} {t : TypeId} {a b : Value} (h : A_ (W.heap[g]? = some (.cells #[a, b] t (0, 0)))) : W.cell? ⟨g, 0, none⟩ = some a ∧ W.cell? ⟨g, 1, none⟩ = some b ∧ W.frozen? ⟨g, 0, none⟩ = false ∧ W.frozen? ⟨g, 1, none⟩ = false := ⟨a0_ h.out 0, a0_ h.out 1, a2_ h.out 0, a2_ h.out 1⟩
theorem cz3_ {W : World} {g : Nat} {t : TypeId} {a b c : Value} (h : A_ (W.heap[g]? = some (.cells #[a, b, c] t (0, 0)))) : W.cell? ⟨g, 0, none⟩ = some a ∧ W.cell? ⟨g, 1, none⟩ = some b ∧ W.cell? ⟨g, 2, none⟩ = some c := ⟨a0_ h.out 0, a0_ h.out 1, a0_ h.out 2⟩
theorem bz4_ {W : World} {g : Nat} {t : TypeId} {a b c d : Value} (h : A_ (W.heap[g]? = some (.cells #[a, b, c, d] t (0, 0)))) : W.cell? ⟨g, 0, none⟩ = some a ∧ W.cell? ⟨g, 1, none⟩ = some b ∧ W.cell? ⟨g, 2, none⟩ = some c ∧ W.cell? ⟨g, 3, none⟩ = some d ∧ W.frozen? ⟨g, 0, none⟩ = false ∧ W.frozen? ⟨g, 1, none⟩ = false ∧ W.frozen? ⟨g, 2, none⟩ = false ∧ W.frozen? ⟨g, 3, none⟩ = false := ⟨a0_ h.out 0, a0_ h.out 1, a0_ h.out 2, a0_ h.out 3, a2_ h.out 0, a2_ h.out 1, a2_ h.out 2, a2_ h.out 3⟩
end


theorem Z0 {p : Prop} (h : p := by (try simp only [List.map_toArray, List.map_cons, List.map_nil]); first | done | rfl | (simp only [List.length_drop, List.length_take]; rfl)) : p := h
theorem Z1 {p : Prop} (h : p := by rw [List.length_append]; have := HLN.out; have := HL1.out; omega) : p := h
theorem Z2 {p : Prop} (h : p := by have := HL1.out; omega) : p := h
theorem Z3 {p : Prop} (h : p := by first | rfl | (simp; done) | (simp [*]; done)) : p := h
theorem Z4 {p : Prop} (h : p := by have := HLN.out; omega) : p := h
theorem Z5 {p : Prop} (h : p := by first | (with_reducible assumption) | assumption) : p := h
theorem Z6 {p : Prop} (h : p := by have := HML1.out; have := HL1.out; omega) : p := h
theorem Z7 {p : Prop} (h : p := by have := HLN.out; have := HL1.out; omega) : p := h
theorem Z8 {p : Prop} (h : p := by have := HL1.out; have := HLN.out; omega) : p := h
end Go.Proofs.Ytckhjehibjdjdaa
namespace Go.Proofs.Ytckhjehibjdjdaa.P
open Go.RowKit Go.Proofs.YtckhjehibjdjdaaW.PrintWords Go.Proofs.YtckhjehibjdjdaaW.PrintLast Go.Proofs.YtckhjehibjdjdaaW.PrintMore
attribute [local go_sem] max2_int min2_int max_two min_two max_three min_three max_four min_four
def errW : Option Int → Value
 | none => .nilIface
 | some c => .iface 0 (.int .i64 c)
theorem a8_ : errW none = .nilIface := rfl
theorem a7_ (c : Int) : errW (some c) = .iface 0 (.int .i64 c) := rfl
theorem info3 : (Try.prog.info? 3).map (fun i => (i.zero, i.size, i.bytes)) = some (some (.int .i64 0), 1, 8) := by kernel_rfl
theorem info51 : (Try.prog.info? 51).map (fun i => (i.zero, i.size, i.bytes)) = some (some (.agg #[(.int .i64 0), (.int .i64 0), (.int .u64 0), (.int .i64 0)]), 4, 32) := by kernel_rfl
theorem info52 : (Try.prog.info? 52).map (fun i => (i.zero, i.size, i.bytes)) = some (some (.agg #[(.int .i64 0), (.int .i64 0), (.int .u64 0), (.int .i64 0)]), 4, 32) := by kernel_rfl
structure S48 where
 f0 : Int
 f1 : Int
def z48 : S48 := ⟨(0 : Int), (0 : Int)⟩
def k48 : Kd S48 := Kd.iso (Kd.pair (Kd.int .i64) (Kd.int .i64)) (fun x : S48 => (x.f0, x.f1))
theorem k48_open {w : World} {x : S48} {cs : List Value} (h : k48.K w x cs) : cs = [.int .i64 x.f0, .int .i64 x.f1] := by
 obtain ⟨_, _, rfl, rfl, rfl⟩ := h
 exact rfl
theorem k48_mkM (w : World) (base : Nat) (ok : Nat → Prop) (x : S48)  : k48.M w base ok x [.int .i64 x.f0, .int .i64 x.f1] := ⟨[.int .i64 x.f0], [.int .i64 x.f1], rfl, rfl, rfl⟩
structure S51 where
 f0 : S48
 f1 : Int
 f2 : Int
def z51 : S51 := ⟨z48, (0 : Int), (0 : Int)⟩
def k51 : Kd S51 := Kd.iso (Kd.pair k48 (Kd.pair (Kd.int .u64) (Kd.int .i64))) (fun x : S51 => (x.f0, x.f1, x.f2))
theorem k51_open {w : World} {x : S51} {cs : List Value} (h : k51.K w x cs) : cs = [.int .i64 x.f0.f0, .int .i64 x.f0.f1, .int .u64 x.f1, .int .i64 x.f2] := by
 obtain ⟨_, _, rfl, s0, ⟨_, _, rfl, rfl, rfl⟩⟩ := h
 obtain rfl := k48_open s0
 exact rfl
theorem k51_mkM (w : World) (base : Nat) (ok : Nat → Prop) (x : S51)  : k51.M w base ok x [.int .i64 x.f0.f0, .int .i64 x.f0.f1, .int .u64 x.f1, .int .i64 x.f2] := ⟨[.int .i64 x.f0.f0, .int .i64 x.f0.f1], [.int .u64 x.f1, .int .i64 x.f2], rfl, (k48_mkM w base ok x.f0 ), ⟨[.int .u64 x.f1], [.int .i64 x.f2], rfl, rfl, rfl⟩⟩
def a4_ (xs : List S51) (i : Int) : S51 := xs.getD i.toNat z51
theorem at_T51 {w : World} {A : Option Addr} {n : Nat} {xs : List S51} (h : Kd.C k51 w A n xs) (i : Int) (h0 : 0 ≤ i) (h1 : i < n) : ∃ ad , A = some ad ∧ w.cell? (ad.add (i.toNat * 4)) = some (.int .i64 (a4_ xs i).f0.f0) ∧ w.cell? ⟨(ad.add (i.toNat * 4)).block, (ad.add (i.toNat * 4)).off + 1, none⟩ = some (.int .i64 (a4_ xs i).f0.f1) ∧ w.cell? ⟨(ad.add (i.toNat * 4)).block, (ad.add (i.toNat * 4)).off + 2, none⟩ = some (.int .u64 (a4_ xs i).f1) ∧ w.cell? ⟨(ad.add (i.toNat * 4)).block, (ad.add (i.toNat * 4)).off + 3, none⟩ = some (.int .i64 (a4_ xs i).f2) := by
 obtain ⟨ad, c, e, _, hK, hc0⟩ := Kd.C_get h z51 i h0 h1
 have hc : ∀ j u, c[j]? = some u → w.cell? (ad.add (i.toNat * 4 + j)) = some u := hc0
 obtain rfl := k51_open hK
 exact ⟨ad, e, hc 0 _ rfl, by rw [← d8_ _ _ 1 (by omega)]; exact hc 1 _ rfl, by rw [← d8_ _ _ 2 (by omega)]; exact hc 2 _ rfl, by rw [← d8_ _ _ 3 (by omega)]; exact hc 3 _ rfl⟩
structure S52 where
 f0 : S48
 f1 : Int
 f2 : Int
def z52 : S52 := ⟨z48, (0 : Int), (0 : Int)⟩
def k52 : Kd S52 := Kd.iso (Kd.pair k48 (Kd.pair (Kd.int .u64) (Kd.int .i64))) (fun x : S52 => (x.f0, x.f1, x.f2))
theorem k52_open {w : World} {x : S52} {cs : List Value} (h : k52.K w x cs) : cs = [.int .i64 x.f0.f0, .int .i64 x.f0.f1, .int .u64 x.f1, .int .i64 x.f2] := by
 obtain ⟨_, _, rfl, s0, ⟨_, _, rfl, rfl, rfl⟩⟩ := h
 obtain rfl := k48_open s0
 exact rfl
theorem k52_mkM (w : World) (base : Nat) (ok : Nat → Prop) (x : S52)  : k52.M w base ok x [.int .i64 x.f0.f0, .int .i64 x.f0.f1, .int .u64 x.f1, .int .i64 x.f2] := ⟨[.int .i64 x.f0.f0, .int .i64 x.f0.f1], [.int .u64 x.f1, .int .i64 x.f2], rfl, (k48_mkM w base ok x.f0 ), ⟨[.int .u64 x.f1], [.int .i64 x.f2], rfl, rfl, rfl⟩⟩
def a5_ (xs : List S52) (i : Int) : S52 := xs.getD i.toNat z52
theorem at_T52 {w : World} {A : Option Addr} {n : Nat} {xs : List S52} (h : Kd.C k52 w A n xs) (i : Int) (h0 : 0 ≤ i) (h1 : i < n) : ∃ ad , A = some ad ∧ w.cell? (ad.add (i.toNat * 4)) = some (.int .i64 (a5_ xs i).f0.f0) ∧ w.cell? ⟨(ad.add (i.toNat * 4)).block, (ad.add (i.toNat * 4)).off + 1, none⟩ = some (.int .i64 (a5_ xs i).f0.f1) ∧ w.cell? ⟨(ad.add (i.toNat * 4)).block, (ad.add (i.toNat * 4)).off + 2, none⟩ = some (.int .u64 (a5_ xs i).f1) ∧ w.cell? ⟨(ad.add (i.toNat * 4)).block, (ad.add (i.toNat * 4)).off + 3, none⟩ = some (.int .i64 (a5_ xs i).f2) := by
 obtain ⟨ad, c, e, _, hK, hc0⟩ := Kd.C_get h z52 i h0 h1
 have hc : ∀ j u, c[j]? = some u → w.cell? (ad.add (i.toNat * 4 + j)) = some u := hc0
 obtain rfl := k52_open hK
 exact ⟨ad, e, hc 0 _ rfl, by rw [← d8_ _ _ 1 (by omega)]; exact hc 1 _ rfl, by rw [← d8_ _ _ 2 (by omega)]; exact hc 2 _ rfl, by rw [← d8_ _ _ 3 (by omega)]; exact hc 3 _ rfl⟩
structure S41 where
 f0 : Int
 f1 : Int
 f2 : Int
 f3 : Bool
 f4 : (List S52)
structure S27 where
 f0 : Int
 f1 : Int
 f2 : Int
 f3 : Int
def k27 : Kd S27 := Kd.iso (Kd.pair (Kd.int .i64) (Kd.pair (Kd.int .i64) (Kd.pair (Kd.int .i64) (Kd.int .i64)))) (fun x : S27 => (x.f0, x.f1, x.f2, x.f3))
theorem k27_open {w : World} {x : S27} {cs : List Value} (h : k27.K w x cs) : cs = [.int .i64 x.f0, .int .i64 x.f1, .int .i64 x.f2, .int .i64 x.f3] := by
 obtain ⟨_, _, rfl, rfl, ⟨_, _, rfl, rfl, ⟨_, _, rfl, rfl, rfl⟩⟩⟩ := h
 exact rfl
end Go.Proofs.Ytckhjehibjdjdaa.P
namespace Go.Proofs.Ytckhjehibjdjdaa.P
open Go.RowKit Go.Proofs.YtckhjehibjdjdaaW.PrintWords Go.Proofs.YtckhjehibjdjdaaW.PrintLast Go.Proofs.YtckhjehibjdjdaaW.PrintMore
class Bx (W : World) (g : Nat) (cs : outParam (Array Value)) (t : outParam TypeId) : Prop where
 out : W.heap[g]? = some (.cells cs t (0, 0))
class Bl (W : outParam World) (W' : World) : Prop where
 out : Below W.heap.size W W'
class Be (w : outParam World) (W : World) : Prop where
 out : Below w.heap.size w W
class Fr (W : outParam World) (g : Nat) : Prop where
 out : g = W.heap.size
class Nq (a b : Nat) : Prop where
 out : a ≠ b
class Ge (w : outParam World) (g : Nat) : Prop where
 out : w.heap.size ≤ g
section
variable {w W W' : World} {g g' i n : Nat} {cs : Array Value} {t : TypeId} {o : Obj} {v : Value}
instance bxDrew [h : Bx W g cs t] : Bx W.drew g cs t := ⟨c8_ h.out⟩
instance bxDrewN [h : Bx W g cs t] : Bx (W.drewN n) g cs t := ⟨c9_ h.out n⟩
instance bxAlloc [h : Bx W g cs t] : Bx (W.alloc o) g cs t := ⟨b5_ h.out o⟩
instance bxNew : Bx (W.alloc (.cells cs t)) W.heap.size cs t := ⟨blk_new W _⟩
instance bxSetS [h : Bx W g cs t] : Bx (W.setCell ⟨g, i, none⟩ v) g (cs.setIfInBounds i v) t := ⟨blk_set h.out i v⟩
instance bxSetF [e : Nq g g'] [h : Bx W g cs t] : Bx (W.setCell ⟨g', i, none⟩ v) g cs t := ⟨b8_ h.out (p := ⟨g', i, none⟩) e.out v⟩
instance bxBl [b : Bl W W'] [h : Bx W g cs t] : Bx W' g cs t := ⟨a1_ h.out b.out⟩
instance nq1 [f : Fr W g'] [h : Bx W g cs t] : Nq g g' := ⟨by rw [f.out]; exact Nat.ne_of_lt (b7_ h.out)⟩
instance nq2 [f : Fr W g'] [h : Bx W g cs t] : Nq g' g := ⟨by rw [f.out]; exact Nat.ne_of_gt (b7_ h.out)⟩
instance ge1 [f : Fr W g] [b : Be w W] : Ge w g := ⟨by rw [f.out]; exact b.out.size⟩
instance beDrew [b : Be w W] : Be w W.drew := ⟨b4_ b.out⟩
instance beDrewN [b : Be w W] : Be w (W.drewN n) := ⟨d5_ b.out n⟩
instance beAlloc [b : Be w W] : Be w (W.alloc o) := ⟨b1_ b.out o⟩
instance beSet [e : Ge w g] [b : Be w W] : Be w (W.setCell ⟨g, i, none⟩ v) := ⟨b2_ b.out e.out⟩
instance beBl [c : Bl W W'] [b : Be w W] : Be w W' := ⟨a6_ b.out c.out⟩
class Rw {α : Type} (k : Kd α) (W : World) (A : Option Addr) (c : outParam Nat) (l : List α) : Prop where
 out : Kd.C k W A l.length l
 le : l.length ≤ c
instance rwBe {α : Type} {k : Kd α} {A : Option Addr} {c : Nat} {l : List α} [b : Be w W] [r : Rw k w A c l] : Rw k W A c l := ⟨Kd.C_below r.out b.out, r.le⟩
instance rwBl {α : Type} {k : Kd α} {A : Option Addr} {c : Nat} {l : List α} [b : Bl W W'] [r : Rw k W A c l] : Rw k W' A c l := ⟨Kd.C_below r.out b.out, r.le⟩
instance rwAlloc {α : Type} {k : Kd α} {A : Option Addr} {c : Nat} {l : List α} [r : Rw k W A c l] : Rw k (W.alloc o) A c l := ⟨Kd.C_alloc r.out o, r.le⟩
instance rwDrew {α : Type} {k : Kd α} {A : Option Addr} {c : Nat} {l : List α} [r : Rw k W A c l] : Rw k W.drew A c l := ⟨Kd.C_drew r.out, r.le⟩
instance rwDrewN {α : Type} {k : Kd α} {A : Option Addr} {c : Nat} {l : List α} [r : Rw k W A c l] : Rw k (W.drewN n) A c l := ⟨Kd.C_drewN r.out n, r.le⟩
class Ro {α : Type} (k : Kd α) (e : TypeId) (base : Nat) (W : World) (v : Value) (xs : List α) : Prop where
 out : Kd.R k e W base (fun _ => True) v xs
instance roBl {α : Type} {k : Kd α} {e base : Nat} {xs : List α} [b : Bl W W'] [r : Ro k e base W v xs] : Ro k e base W' v xs := ⟨Kd.R_below r.out b.out⟩
instance roDrew {α : Type} {k : Kd α} {e base : Nat} {xs : List α} [r : Ro k e base W v xs] : Ro k e base W.drew v xs := ⟨Kd.R_drew r.out⟩
theorem cellBx [h : Bx W g cs t] (i : Nat) : W.cell? ⟨g, i, none⟩ = cs[i]? := a0_ h.out i
theorem frozBx [h : Bx W g cs t] (i : Nat) : W.frozen? ⟨g, i, none⟩ = false := a2_ h.out i
end
theorem nameA (W : World) (cs : Array Value) (t : TypeId) : ∃ g w1, Fr W g ∧ Bx w1 g cs t ∧ Bl W w1 ∧ W.heap.size = g ∧ W.alloc (.cells cs t) = w1 := ⟨_, _, ⟨rfl⟩, ⟨blk_new W _⟩, ⟨b1_ (Below.refl _ _) _⟩, rfl, rfl⟩
section
variable {P : Program} {ops : Array Oper} {rest : List Oper} {o : Oper} {a : Act} {Q : Exit → Act → World → Prop}
theorem bxT {W : World} (N : Tmp) (cs : Array Value) (t : TypeId)
  (h : ∀ g w1, Fr W g → Bx w1 g cs t → Bl W w1 → wpList P ops Q rest (a.put o.dst (.pointer (some ⟨g, 0, none⟩))) w1)
  (hg : o.guard = none := by exact rfl) (hd : o.dst = some N := by exact rfl)
  (hr : (execOp a.eval o).run P W = .ok (.value (.pointer (some ⟨W.heap.size, 0, none⟩))) (W.alloc (.cells cs t (0, 0))) := by first | (go_simp; done) | (go_simp; rfl)) : wpList P ops Q (o :: rest) a W :=
 box_event hg hd hr fun g hg w1 hb hw => h g w1 ⟨hg⟩ ⟨hb⟩ ⟨hw⟩
end
theorem bindS {α β : Type} {x : Option α} {f : α → Option β} {r : β} (H : x.bind f = some r) : ∃ a, x = some a ∧ f a = some r := Option.bind_eq_some_iff.1 H
end Go.Proofs.Ytckhjehibjdjdaa.P
namespace Go.Proofs.Ytckhjehibjdjdaa.Mp
open Go.RowKit Go.Maps
def MapI (P : Program) (k e : TypeId) (w : World) (b n : Nat) (f : Int → Int) : Prop :=
 ∃ D : DataW Unit, w.ownsMap P k (plainElem P e) b n D ∧ IsMap D ∧ ∀ i, D.atKey (.int .i64 i) (.lit (.int .i64 0)) = .lit (.int .i64 (f i))
variable {P : Program} {k e : TypeId} {w : World} {b n : Nat} {f : Int → Int}
theorem MapI.lt (h : MapI P k e w b n f) : b < w.heap.size := by
 obtain ⟨D, ⟨es, cl, hb, _⟩, _⟩ := h
 exact (Array.getElem?_eq_some_iff.1 hb).1
theorem MapI.move {w1 : World} (h : MapI P k e w b n f) (hm : w1.heap[b]? = w.heap[b]?) : MapI P k e w1 b n f := by
 obtain ⟨D, ⟨es, cl, hb, r⟩, i⟩ := h
 exact ⟨D, ⟨es, cl, hm.trans hb, r⟩, i⟩
theorem MapI.below {w1 : World} (h : MapI P k e w b n f) (hb : Below w.heap.size w w1) : MapI P k e w1 b n f := h.move (hb.block b h.lt)
theorem MapI.grown {w1 : World} {row : Option Nat} (h : MapI P k e w b n f) (hg : w.grownBy w1 row) (hne : some b ≠ row) : MapI P k e w1 b n f := h.move (hg.block b h.lt hne)
theorem MapI.alloc (h : MapI P k e w b n f) (o : Obj) : MapI P k e (w.alloc o) b n f := h.below ((Below.refl _ _).alloc (Nat.le_refl _) o)
theorem MapI.drew (h : MapI P k e w b n f) : MapI P k e w.drew b n f := h
theorem MapI.drewN (h : MapI P k e w b n f) (m : Nat) : MapI P k e (w.drewN m) b n f := h.move rfl
theorem MapI.congr {f' : Int → Int} {n' : Nat} (h : MapI P k e w b n f) (hf : ∀ i, f i = f' i) (hn : n = n') : MapI P k e w b n' f' := by
 subst hn
 obtain ⟨D, h1, h2, h3⟩ := h
 exact ⟨D, h1, h2, fun i => by rw [h3, hf]⟩
variable {ops : Array Oper} {rest : List Oper} {o : Oper} {a : Act} {Q : Exit → Act → World → Prop}
end Go.Proofs.Ytckhjehibjdjdaa.Mp
namespace Go.Proofs.Ytckhjehibjdjdaa.Mp
open Go.RowKit Go.Maps
def skey (a b : Int) : Lit := .string (keyBytes [.int .i64 a, .int .i64 b])
def W64 (x : Int) : Prop := (Lit.int .i64 x).wf = true
structure PairKey (P : Program) (k : TypeId) : Prop where
 keyed : Keyed P k
 key : ∀ {a b : Int}, W64 a → W64 b → keyOf P k (.agg #[.int .i64 a, .int .i64 b]) = some (skey a b)
theorem PairKey.inj {P : Program} {k : TypeId} (K : PairKey P k) {a b c d : Int} (ha : W64 a) (hb : W64 b) (hc : W64 c) (hd : W64 d) (h : skey a b = skey c d) : a = c ∧ b = d := by
 have h1 := K.key ha hb
 have h2 := K.key hc hd
 rw [← h] at h2
 have := K.keyed.inj h1 h2
 simp at this
 exact this
def MapS (P : Program) (k e : TypeId) (w : World) (b n : Nat) (f : Int → Int → Option Int) : Prop :=
 ∃ D : DataW Unit, w.ownsMap P k (plainElem P e) b n D ∧ IsMap D ∧ ∀ i j, W64 i → W64 j → has D (skey i j) = (f i j).isSome ∧ D.atKey (skey i j) (.lit (.int .i64 0)) = .lit (.int .i64 ((f i j).getD 0))
def updS (f : Int → Int → Option Int) (i j v : Int) : Int → Int → Option Int := fun a b => if a = i ∧ b = j then some v else f a b
variable {P : Program} {k e : TypeId} {w : World} {b n : Nat} {f : Int → Int → Option Int}
theorem MapS.lt (h : MapS P k e w b n f) : b < w.heap.size := by
 obtain ⟨D, ⟨es, cl, hb, _⟩, _⟩ := h
 exact (Array.getElem?_eq_some_iff.1 hb).1
theorem MapS.move {w1 : World} (h : MapS P k e w b n f) (hm : w1.heap[b]? = w.heap[b]?) : MapS P k e w1 b n f := by
 obtain ⟨D, ⟨es, cl, hb, r⟩, i⟩ := h
 exact ⟨D, ⟨es, cl, hm.trans hb, r⟩, i⟩
theorem MapS.below {w1 : World} (h : MapS P k e w b n f) (hb : Below w.heap.size w w1) : MapS P k e w1 b n f := h.move (hb.block b h.lt)
theorem MapS.grown {w1 : World} {row : Option Nat} (h : MapS P k e w b n f) (hg : w.grownBy w1 row) (hne : some b ≠ row) : MapS P k e w1 b n f := h.move (hg.block b h.lt hne)
theorem MapS.alloc (h : MapS P k e w b n f) (o : Obj) : MapS P k e (w.alloc o) b n f := h.below ((Below.refl _ _).alloc (Nat.le_refl _) o)
theorem MapS.congr {f' : Int → Int → Option Int} {n' : Nat} (h : MapS P k e w b n f) (hf : ∀ i j, f i j = f' i j) (hn : n ≤ n') : MapS P k e w b n' f' := by
 obtain ⟨D, ⟨es, cl, hb, F, hs, hD⟩, h2, h3⟩ := h
 exact ⟨D, ⟨es, cl, hb, F, Nat.le_trans hs hn, hD⟩, h2, fun i j hi hj => by rw [← hf]; exact h3 i j hi hj⟩
variable {ops : Array Oper} {rest : List Oper} {o : Oper} {a : Act} {Q : Exit → Act → World → Prop}
end Go.Proofs.Ytckhjehibjdjdaa.Mp
namespace Go.Proofs.Ytckhjehibjdjdaa.RF
open Go.RowKit Go.Shelf
def AbidesC {β : Type} (C : Nat) (J : β → World → Prop) : Prop :=
 ∀ s W W' row, J s W → W.grownBy W' row → (∀ r, row = some r → r = C) → J s W'
def OwnC {β : Type} (B C : Nat) (I : β → World → Prop) : Prop :=
 ∀ s W W' row, I s W → W.grownBy W' row → (∀ r, row = some r → r = C ∨ (B ≤ r ∧ ∃ o : Obj, W.heap[r]? = some o ∧ o.isCells = false)) → I s W'
def KpC (C : Nat) (W W' : World) : Prop := W'.heap[C]? = W.heap[C]?
def SeqStopsC {α : Type} (F : Fence) (n : Nat) (P : Program) (g : Nat) (lb : Array Value) (encs : α → Array Value) (C : Nat) (S Sp : List α → Prop) (w : World) : Prop :=
 ∀ (l : Nat) (J Jx : List α → World → Prop) (W : World), Below w.heap.size w W → AbidesC C J → AbidesC C Jx →
  (∀ pre x W1, J pre W1 → Sp (pre ++ [x]) → YieldAt F (n - 1) P l (encs x) W1 fun e W' =>
   (e = .returned (.bool true) ∧ J (pre ++ [x]) W' ∧ KpC C W1 W') ∨ (e = .returned (.bool false) ∧ Jx (pre ++ [x]) W')) →
  J [] W →
  CallsIn F n P g (#[.func (.yield l) #[] #[]] ++ lb) W fun e W' => (∃ v, e = .returned v) ∧ ((∃ xs, S xs ∧ J xs W') ∨ (∃ pre, Sp pre ∧ Jx pre W'))
variable {F : Fence} {n : Nat} {P : Program}
theorem kpc_put {C : Nat} (W : World) (l : Nat) (o' : Obj) (h : C ≠ l) : KpC C W (W.putObj l o') := World.putObj_heap_other h
theorem range_cap {α : Type} {g : Operand} {ps : Array Tmp} {assign body : Code} {Q : Exit → Act → World → Prop} {a : Act} {w : World} (C : Nat) (hC : C < w.heap.size)
  (hro : F.round = none) (h1 : 1 ≤ n) {gf : Nat} {lb : Array Value} (hg : a.eval g = .func (.func gf) #[] lb) (hFg : F.fn gf) (eg : ∀ args w, (callFunc gf args).run P w = .ok (.enter gf args) w)
  {encs : α → Array Value} {S Sp : List α → Prop} (hseq : SeqStopsC F (n - 1) P gf lb encs C S Sp w) (hps : ∀ x, (encs x).size = ps.size)
  (I : List α → World → Prop) (Ix : Code → List α → World → Prop) (hI : OwnC w.heap.size C I) (hIx : ∀ c, OwnC w.heap.size C (Ix c)) (h0 : I [] w) (a₁ : α → Act)
  (hassign : ∀ (l : Nat) (x : α) (W : World) (K : Act → World → Prop), K (a₁ x) W →
   assign.wpIn (F.inRound l) (n - 1 - 1) P (Exit.then K (fun _ _ _ => False)) { tmps := (ps.zip (encs x)).foldl (fun t (p, v) => t.setIfInBounds p v) a.tmps, defers := [] } W)
  (hbody : ∀ (l : Nat) (pre : List α) (x : α) (W : World), I pre W → Sp (pre ++ [x]) → body.wpIn (F.inRound l) (n - 1 - 1) P (ownPostK (KpC C) I Ix (pre ++ [x]) W) (a₁ x) W)
  (hdone : ∀ (D : Nat) (xs : List α) (W : World), w.heap.size ≤ D → S xs → I xs W → W.heap[D]? = some (.deferred (some [])) → Q .normal { a with defers := { target := .collected D, args := #[] } :: a.defers } W)
  (hstop : ∀ (D : Nat) (c : Code) (pre : List α) (W : World), w.heap.size ≤ D → Sp pre → Ix c pre W → W.heap[D]? = some (.deferred (some [])) → c.wpIn F n P Q { a with defers := { target := .collected D, args := #[] } :: a.defers } W) :
  (Code.rangeFunc g ps assign body).wpIn F n P Q a w := by
 have put : ∀ {β : Type} {J : β → World → Prop}, OwnC w.heap.size C J → ∀ {s : β} {W : World} {l : Nat} {o : Obj} (o' : Obj), J s W → w.heap.size ≤ l → W.heap[l]? = some o → o.isCells = false → J s (W.putObj l o') :=
  fun h s W l o o' hs hB hl ho => h s W _ (some l) hs (grownBy_putObj' W l o') (fun r e => by cases e; exact .inr ⟨hB, o, hl, ho⟩)
 have new : ∀ {β : Type} {J : β → World → Prop}, OwnC w.heap.size C J → ∀ {s : β} {W : World} (o : Obj), J s W → J s (W.alloc o) :=
  fun h s W o hs => h s W _ none hs (World.grownBy_alloc W o none) (fun r e => by cases e)
 refine wpIn_rangeFunc ?_
 intro fn hfn
 rw [hro]
 obtain ⟨rec, hrec⟩ : ∃ rec : LoopState → Option Code → Loop, rec = fun st pe => { state := st, pending := pe, fn, tmps := a.tmps, params := ps, assign, body, defers := w.heap.size } := ⟨_, rfl⟩
 have hrs : ∀ st pe, (rec st pe).state = st := fun st pe => by rw [hrec]
 obtain ⟨W1, hW1⟩ : ∃ W1, (w.alloc (.deferred (some []))).alloc (.loop (rec .ready none)) = W1 := ⟨_, rfl⟩
 have hL1 : W1.heap[w.heap.size + 1]? = some (.loop (rec .ready none)) := by
  rw [← hW1]; have := World.alloc_heap_new (w.alloc (.deferred (some []))) (.loop (rec .ready none)); rwa [World.size_alloc] at this
 have hK1 : W1.heap[w.heap.size]? = some (.deferred (some [])) := by
  rw [← hW1]; exact (Below.heap_alloc _ _ _ (by simp)).trans (World.alloc_heap_new w _)
 have hI1 : I [] W1 := by rw [← hW1]; exact new hI _ (new hI _ h0)
 have hb1 : Below w.heap.size w W1 := by
  rw [← hW1]; exact ((Below.refl _ w).alloc (Nat.le_refl _) _).alloc (by simp) _
 have keep : ∀ {A B : World} {row : Option Nat}, A.grownBy B row → (∀ r, row = some r → r = C) → ∀ {k : Nat} {o : Obj}, A.heap[k]? = some o → w.heap.size ≤ k → B.heap[k]? = some o := by
  intro A B row hg' hr k o hk hle
  refine (hg'.block k (Array.getElem?_eq_some_iff.1 hk).1 fun e => ?_).trans hk
  have := hr k e.symm
  omega
 refine ⟨w.heap.size + 1, [{ target := .collected w.heap.size, args := #[] }], W1, { target := .fn (.func gf) lb, args := #[.func (.yield (w.heap.size + 1)) #[] #[]] }, W1, gf,
  #[.func (.yield (w.heap.size + 1)) #[] #[]] ++ lb, W1, ?_, ?_, ?_, ?_, fun _ => h1, ?_⟩
 ·rw [← hW1, hrec]; exact run_enterLoop_outer _ _ _ _ _
 ·simp only [resolve, hg]
  simp [go_sem]
 ·intro f' hf'; simp [Target.leads] at hf'; subst hf'; exact hFg
 ·simp [invoke, go_sem, eg]
 ·refine (hseq (w.heap.size + 1)
   (fun pre W => I pre W ∧ W.heap[w.heap.size + 1]? = some (.loop (rec .ready none)) ∧ W.heap[w.heap.size]? = some (.deferred (some [])))
   (fun pre W => ∃ c, Ix c pre W ∧ W.heap[w.heap.size + 1]? = some (.loop (rec .done (some c))) ∧ W.heap[w.heap.size]? = some (.deferred (some [])))
   W1 hb1
   (fun s A B row hs hg' hr => ⟨hI s A B row hs.1 hg' (fun r e => .inl (hr r e)), keep hg' hr hs.2.1 (by omega), keep hg' hr hs.2.2 (Nat.le_refl _)⟩)
   (fun s A B row hs hg' hr => by
    obtain ⟨c, hc, hl, hk⟩ := hs
    exact ⟨c, hIx c s A B row hc hg' (fun r e => .inl (hr r e)), keep hg' hr hl (by omega), keep hg' hr hk (Nat.le_refl _)⟩)
   ?_ ⟨hI1, hL1, hK1⟩).mono ?_
  ·rintro pre x W ⟨hi, hl, hk⟩ hsp
   have hlt : w.heap.size + 1 < W.heap.size := (Array.getElem?_eq_some_iff.1 hl).1
   have hy := run_yield (P := P) (args := encs x) hl (by rw [hrec]; exact hps x)
   rw [hrec] at hy
   refine ⟨fn, _, assign, body, hy, roundIn_of_wpIn hfn (hassign _ x W _ ⟨_, run_beginRound hl (hrs _ _), ?_⟩)⟩
   obtain ⟨busy, hbusy⟩ : ∃ busy : Obj, busy = .loop { rec .ready none with state := .busy } := ⟨_, rfl⟩
   have hl2 : (W.putObj (w.heap.size + 1) busy).heap[w.heap.size + 1]? = some busy := World.putObj_heap_same hlt
   have hk2 : (W.putObj (w.heap.size + 1) busy).heap[w.heap.size]? = some (.deferred (some [])) := (World.putObj_heap_other (by omega)).trans hk
   have hb2 : KpC C W (W.putObj (w.heap.size + 1) busy) := kpc_put W _ _ (by omega)
   rw [← hbusy]
   refine wpIn_mono (hbody _ pre x _ (put hI _ hi (by omega) hl rfl) hsp) ?_
   have fin : ∀ (jump : Option Code) (W3 : World), KeepsOthers (W.putObj (w.heap.size + 1) busy) W3 →
     (Instr.endRound (w.heap.size + 1) jump).run P W3 = .ok (.bool jump.isNone) (W3.putObj (w.heap.size + 1) (.loop (rec (if jump.isNone then .ready else .done) jump))) ∧
     W3.heap[w.heap.size + 1]? = some busy ∧
     (W3.putObj (w.heap.size + 1) (.loop (rec (if jump.isNone then .ready else .done) jump))).heap[w.heap.size + 1]? = some (.loop (rec (if jump.isNone then .ready else .done) jump)) ∧
     (W3.putObj (w.heap.size + 1) (.loop (rec (if jump.isNone then .ready else .done) jump))).heap[w.heap.size]? = some (.deferred (some [])) := fun jump W3 hk3 => by
    have hl3 := hk3.same _ _ hl2 (by rw [hbusy]; rfl)
    have hl3' := hl3
    rw [hbusy] at hl3
    have := run_endRound (P := P) jump hl3
    rw [hrec] at this ⊢
    exact ⟨this, hl3', World.putObj_heap_same (Array.getElem?_eq_some_iff.1 hl3).1, (World.putObj_heap_other (by omega)).trans (hk3.same _ _ hk2 rfl)⟩
   have hbc : busy.isCells = false := by rw [hbusy]; rfl
   rintro e a3 W3 hp
   cases e with
   | normal =>
    obtain ⟨hk3, hkp3, hi3⟩ := hp
    obtain ⟨hr, hl3, hl4, hk4⟩ := fin none W3 hk3
    exact ⟨_, _, hr, .inl ⟨rfl, ⟨put hI _ hi3 (by omega) hl3 hbc, hl4, hk4⟩, ((kpc_put W3 _ _ (by omega)).trans hkp3).trans hb2⟩⟩
   | ret =>
    obtain ⟨hk3, hi3⟩ := hp
    obtain ⟨hr, hl3, hl4, hk4⟩ := fin (some .ret) W3 hk3
    exact ⟨_, _, hr, .inr ⟨rfl, .ret, put (hIx _) _ hi3 (by omega) hl3 hbc, hl4, hk4⟩⟩
   | exit id =>
    obtain ⟨hk3, hi3⟩ := hp
    obtain ⟨hr, hl3, hl4, hk4⟩ := fin (some (.exit id)) W3 hk3
    exact ⟨_, _, hr, .inr ⟨rfl, .exit id, put (hIx _) _ hi3 (by omega) hl3 hbc, hl4, hk4⟩⟩
   | goto t =>
    obtain ⟨hk3, hi3⟩ := hp
    obtain ⟨hr, hl3, hl4, hk4⟩ := fin (some (.goto t)) W3 hk3
    exact ⟨_, _, hr, .inr ⟨rfl, .goto t, put (hIx _) _ hi3 (by omega) hl3 hbc, hl4, hk4⟩⟩
   | panic ch => exact hp.elim
   | outgrown => exact hp.elim
  ·rintro e W2 ⟨⟨v, rfl⟩, (⟨xs, hS, hi, hl, hk⟩ | ⟨pre, hSp, c, hi, hl, hk⟩)⟩
   ·refine ⟨none, _, ?_, hdone _ xs (W2.putObj (w.heap.size + 1) (.loop { rec .ready none with state := .exhausted })) (Nat.le_refl _) hS (put hI _ hi (by omega) hl rfl) ((World.putObj_heap_other (by omega)).trans hk)⟩
    have := run_endLoop (P := P) hl (by rw [hrec]; simp); rw [hrec] at this ⊢; exact this
   ·refine ⟨some c, _, ?_, hstop _ c pre (W2.putObj (w.heap.size + 1) (.loop { rec .done (some c) with state := .exhausted })) (Nat.le_refl _) hSp (put (hIx c) _ hi (by omega) hl rfl) ((World.putObj_heap_other (by omega)).trans hk)⟩
    have := run_endLoop (P := P) hl (by rw [hrec]; simp); rw [hrec] at this ⊢; exact this
theorem calls_marks {f : FuncId} {fn : Func} {c : Code} {args : Array Value} {w : World} {R : Ending → World → Prop} (hf : P.funcs[f]? = some fn) (hb : fn.body = some c)
  (h : c.wp P (bodyPostM Fence.wide 6 P fn R) { tmps := args ++ Array.replicate (fn.ntmps - args.size) undef, defers := [] } w) : Calls P f args w R :=
 (callsIn_wide (n := 6)).1 (callsIn_of_wp_marks hf hb trivial (wpIn_wide.2 h))
theorem marks_ret0 {fn : Func} {tmps : Array Value} {w : World} {R : Ending → World → Prop} {v : Value} (hv : (results fn tmps).run P w = .ok v w) (hR : R (.returned v) w) :
  bodyPostM Fence.wide 6 P fn R .ret { tmps := tmps, defers := [] } w := ⟨v, hv, hR⟩
theorem marks_ret1 {fn : Func} {tmps : Array Value} {w : World} {R : Ending → World → Prop} {v : Value} {D : Nat} (hD : w.heap[D]? = some (.deferred (some [])))
  (hv : (results fn tmps).run P (w.putObj D (.deferred none)) = .ok v (w.putObj D (.deferred none))) (hR : R (.returned v) (w.putObj D (.deferred none))) :
  bodyPostM Fence.wide 6 P fn R .ret { tmps := tmps, defers := [{ target := .collected D, args := #[] }] } w :=
 ⟨by simp, .inl ⟨_, _, rfl, run_takeDeferred hD, v, hv, hR⟩⟩
theorem below_mark {B : Nat} {w W : World} {D : Nat} {o o' : Obj} (h : Below B w W) (hB : B ≤ D) (hD : W.heap[D]? = some o) : Below B w (W.putObj D o') :=
 h.trans ((Below.refl B W).grown (grownBy_putObj' W D o') (by have := (Array.getElem?_eq_some_iff.1 hD).1; omega) (fun k e => by cases e; omega))
end Go.Proofs.Ytckhjehibjdjdaa.RF
namespace Go.Proofs.Ytckhjehibjdjdaa.Bits
def pos (m : Nat) : List Nat := (List.range 64).filter fun i => m.testBit i
def orAll (l : List Nat) : Nat := l.foldl (fun a i => a ||| 2 ^ i) 0
def lowN (m n : Nat) : Nat := orAll ((pos m).take n)
def popN (m : Nat) : Nat := (pos m).length
theorem testBit_orFold (l : List Nat) (a j : Nat) : (l.foldl (fun a i => a ||| 2 ^ i) a).testBit j = (a.testBit j || decide (j ∈ l)) := by
 induction l generalizing a with
 | nil => simp
 | cons i l ih =>
  rw [List.foldl_cons, ih, Nat.testBit_or, Nat.testBit_two_pow, Bool.or_assoc]
  congr 1
  by_cases h : i = j
  ·simp [h]
  ·have h' : j ≠ i := fun e => h e.symm
   simp [h, h']
theorem testBit_orAll (l : List Nat) (j : Nat) : (orAll l).testBit j = decide (j ∈ l) := by
 unfold orAll; rw [testBit_orFold]; simp
theorem orAll_snoc (l : List Nat) (i : Nat) : orAll (l ++ [i]) = orAll l ||| 2 ^ i := by simp [orAll, List.foldl_append]
theorem mem_pos {m j : Nat} : j ∈ pos m ↔ j < 64 ∧ m.testBit j = true := by simp [pos]
theorem pos_zero : pos 0 = [] := by simp [pos]
theorem lt_of_testBit {m j : Nat} (hm : m < 2 ^ 64) (h : m.testBit j = true) : j < 64 := by
 rcases Nat.lt_or_ge j 64 with h1 | h1
 ·exact h1
 ·rw [Nat.testBit_lt_two_pow (Nat.lt_of_lt_of_le hm (Nat.pow_le_pow_right (by omega) h1))] at h
  cases h
theorem orAll_pos {m : Nat} (hm : m < 2 ^ 64) : orAll (pos m) = m := by
 apply Nat.eq_of_testBit_eq
 intro j
 rw [testBit_orAll]
 by_cases h : m.testBit j = true
 ·rw [h]; exact decide_eq_true (mem_pos.2 ⟨lt_of_testBit hm h, h⟩)
 ·have h' : m.testBit j = false := by simpa using h
  rw [h']; exact decide_eq_false (fun e => h (mem_pos.1 e).2)
theorem pos_sorted (m : Nat) : (pos m).Pairwise (· < ·) := List.Pairwise.filter _ List.pairwise_lt_range
theorem least_bit (m : Nat) (h0 : m ≠ 0) : ∃ i q, m = 2 ^ (i + 1) * q + 2 ^ i := by
 induction m using Nat.strongRecOn with
 | _ m ih =>
  rcases Nat.mod_two_eq_zero_or_one m with h | h
  ·obtain ⟨i, q, hq⟩ := ih (m / 2) (by omega) (by omega)
   refine ⟨i + 1, q, ?_⟩
   have : m = 2 * (m / 2) := by omega
   rw [this, hq, Nat.pow_succ 2 (i + 1), Nat.pow_succ 2 i]
   generalize 2 ^ i = p
   rw [Nat.mul_add, Nat.mul_comm (p * 2) 2, Nat.mul_assoc 2 (p * 2) q, Nat.mul_comm 2 p]
  ·exact ⟨0, m / 2, by simp; omega⟩
theorem tb_mul_add (i a b j : Nat) (hb : b < 2 ^ i) : (2 ^ i * a + b).testBit j = if j < i then b.testBit j else a.testBit (j - i) := Nat.testBit_two_pow_mul_add a hb j
theorem clear_low {i q : Nat} : (2 ^ (i + 1) * q + 2 ^ i) &&& (2 ^ (i + 1) * q + 2 ^ i - 1) = 2 ^ (i + 1) * q := by
 have hp : 0 < 2 ^ i := Nat.two_pow_pos i
 have hp2 : 2 ^ (i + 1) = 2 * 2 ^ i := by rw [Nat.pow_succ]; omega
 have e : 2 ^ (i + 1) * q + 2 ^ i - 1 = 2 ^ (i + 1) * q + (2 ^ i - 1) := by omega
 rw [e]
 apply Nat.eq_of_testBit_eq
 intro j
 rw [Nat.testBit_and, tb_mul_add _ _ _ _ (by omega), tb_mul_add _ _ _ _ (by omega)]
 have h0 : (2 ^ (i + 1) * q).testBit j = if j < i + 1 then false else q.testBit (j - (i + 1)) := by
  have := tb_mul_add (i + 1) q 0 j (Nat.two_pow_pos _)
  simpa using this
 rw [h0]
 by_cases hj : j < i + 1
 ·rw [if_pos hj, if_pos hj, if_pos hj, Nat.testBit_two_pow]
  by_cases h : i = j
  ·subst h; rw [Nat.testBit_lt_two_pow (by omega)]; simp
  ·simp [h]
 ·rw [if_neg hj, if_neg hj, if_neg hj, Bool.and_self]
theorem neg_low {i q : Nat} (h : 2 ^ (i + 1) * q + 2 ^ i < 2 ^ 64) : (2 ^ (i + 1) * q + 2 ^ i) &&& (2 ^ 64 - (2 ^ (i + 1) * q + 2 ^ i)) = 2 ^ i := by
 have hp : 0 < 2 ^ i := Nat.two_pow_pos i
 have hp2 : 2 ^ (i + 1) = 2 * 2 ^ i := by rw [Nat.pow_succ]; omega
 have hi : i < 64 := by
  rcases Nat.lt_or_ge i 64 with h1 | h1
  ·exact h1
  ·have := Nat.pow_le_pow_right (n := 2) (by omega) h1; omega
 have hs : 2 ^ 64 = 2 ^ (i + 1) * 2 ^ (63 - i) := by rw [← Nat.pow_add]; congr 1; omega
 have hq : q < 2 ^ (63 - i) := by
  rcases Nat.lt_or_ge q (2 ^ (63 - i)) with h1 | h1
  ·exact h1
  ·have := Nat.mul_le_mul_left (2 ^ (i + 1)) h1; omega
 have e : 2 ^ 64 - (2 ^ (i + 1) * q + 2 ^ i) = 2 ^ (i + 1) * (2 ^ (63 - i) - (q + 1)) + 2 ^ i := by
  rw [Nat.mul_sub, ← hs, Nat.mul_add]
  have := Nat.mul_le_mul_left (2 ^ (i + 1)) hq
  rw [Nat.succ_eq_add_one, Nat.mul_add] at this
  omega
 rw [e]
 apply Nat.eq_of_testBit_eq
 intro j
 rw [Nat.testBit_and, tb_mul_add _ _ _ _ (by omega), tb_mul_add _ _ _ _ (by omega), Nat.testBit_two_pow]
 by_cases hj : j < i + 1
 ·rw [if_pos hj, if_pos hj, Bool.and_self]
 ·rw [if_neg hj, if_neg hj, Nat.testBit_two_pow_sub_succ hq]
  have : i ≠ j := by omega
  rw [decide_eq_false this]
  cases q.testBit (j - (i + 1)) <;> simp
theorem pos_step {m : Nat} (h0 : m ≠ 0) (hm : m < 2 ^ 64) : ∃ i rest, pos m = i :: rest ∧ i < 64 ∧ m &&& (2 ^ 64 - m) = 2 ^ i ∧ pos (m &&& (m - 1)) = rest ∧ m &&& (m - 1) < 2 ^ 64 := by
 obtain ⟨i, q, e⟩ := least_bit m h0
 have hp : 0 < 2 ^ i := Nat.two_pow_pos i
 have hp2 : 2 ^ (i + 1) = 2 * 2 ^ i := by rw [Nat.pow_succ]; omega
 have hbit : ∀ j, m.testBit j = if j < i + 1 then decide (i = j) else q.testBit (j - (i + 1)) := by
  intro j; rw [e, tb_mul_add _ _ _ _ (by omega), Nat.testBit_two_pow]
 have hi : i < 64 := lt_of_testBit hm (by rw [hbit]; simp)
 have hc : m &&& (m - 1) = 2 ^ (i + 1) * q := by rw [e]; exact clear_low
 have hbit' : ∀ j, (m &&& (m - 1)).testBit j = if j < i + 1 then false else q.testBit (j - (i + 1)) := by
  intro j
  rw [hc]
  have := tb_mul_add (i + 1) q 0 j (Nat.two_pow_pos _)
  simpa using this
 refine ⟨i, pos (m &&& (m - 1)), ?_, hi, by rw [e]; rw [e] at hm; exact neg_low hm, rfl, Nat.lt_of_le_of_lt Nat.and_le_left hm⟩
 have hr : List.range 64 = List.range i ++ i :: (List.range (63 - i)).map (i + 1 + ·) := by
  have h1 : (64 : Nat) = i + (1 + (63 - i)) := by omega
  conv => lhs; rw [h1]
  rw [List.range_add, List.range_add (n := 1)]
  simp [Nat.add_assoc]
 have f1 : ∀ (p : Nat → Bool), (∀ j, j < i → p j = false) → (List.range i).filter p = [] := by
  intro p hp; rw [List.filter_eq_nil_iff]; intro j hj; rw [hp j (by simpa using hj)]; simp
 unfold pos
 rw [hr, List.filter_append, List.filter_append, List.filter_cons, List.filter_cons, f1 _ (fun j hj => by rw [hbit, if_pos (by omega)]; simp; omega), f1 _ (fun j hj => by rw [hbit', if_pos (by omega)])]
 have hb1 : m.testBit i = true := by rw [hbit]; simp
 have hb2 : (m &&& (m - 1)).testBit i = false := by rw [hbit']; simp
 rw [hb1, hb2]
 simp only [List.nil_append, if_true, Bool.false_eq_true, if_false]
 congr 1
 refine List.filter_congr fun j hj => ?_
 obtain ⟨k, _, rfl⟩ := List.mem_map.1 hj
 rw [hbit, hbit', if_neg (by omega), if_neg (by omega)]
def popI (m : Int) : Int := (popN m.toNat : Int)
def lowI (m n : Int) : Int := (lowN m.toNat n.toNat : Int)
theorem orAll_lt {l : List Nat} (h : ∀ i ∈ l, i < 64) : orAll l < 2 ^ 64 := by
 refine Nat.lt_pow_two_of_testBit _ fun j hj => ?_
 rw [testBit_orAll]
 exact decide_eq_false fun e => by have := h j e; omega
theorem lowN_lt (m n : Nat) : lowN m n < 2 ^ 64 := orAll_lt fun _ hi => (mem_pos.1 (List.mem_of_mem_take hi)).1
end Go.Proofs.Ytckhjehibjdjdaa.Bits
namespace Go.Proofs.Ytckhjehibjdjdaa.P
open Go.RowKit Go.Shelf Go.Proofs.YtckhjehibjdjdaaW.PrintWords Go.Proofs.YtckhjehibjdjdaaW.PrintLast Go.Proofs.YtckhjehibjdjdaaW.PrintMore
open Go.Proofs.Ytckhjehibjdjdaa.Bits Go.Proofs.Ytckhjehibjdjdaa.RF
attribute [local go_sem] max2_int min2_int max_two min_two max_three min_three max_four min_four
attribute [local go_sem] Oper.semAt_some
theorem and_neg_u64 {m : Nat} (h0 : m ≠ 0) (hm : m < 2 ^ 64) : Go.bits .and .u64 (m : Int) (IntKind.u64.wrap (-(m : Int))) = ((m &&& (2 ^ 64 - m) : Nat) : Int) := by
 have e : IntKind.u64.wrap (-(m : Int)) = ((2 ^ 64 - m : Nat) : Int) := by
  rw [IntKind.wrap_u64]; omega
 rw [e, bits_and_u64_nat _ _ (by omega) (by omega)]
theorem and_pred_u64 {m : Nat} (h0 : m ≠ 0) (hm : m < 2 ^ 64) : Go.bits .and .u64 (m : Int) (IntKind.u64.wrap ((m : Int) - 1)) = ((m &&& (m - 1) : Nat) : Int) := by
 have e : IntKind.u64.wrap ((m : Int) - 1) = ((m - 1 : Nat) : Int) := by
  rw [IntKind.wrap_u64]; omega
 rw [e, bits_and_u64_nat _ _ (by omega) (by omega)]
theorem blk_cell0 {W : World} {c : Nat} {v : Value} {t : Nat} (h : W.heap[c]? = some (.cells #[v] t (0, 0))) : W.cell? ⟨c, 0, none⟩ = some v := (a0_ h 0).trans rfl
def cntBits (c : Nat) (W : World) : Nat := match W.cell? ⟨c, 0, none⟩ with
 | some (.int _ z) => (pos z.toNat).length
 | _ => 0
theorem cntBits_of {c m : Nat} {W : World} (h : W.cell? ⟨c, 0, none⟩ = some (.int .u64 (m : Int))) : cntBits c W = (pos m).length := by
 unfold cntBits; rw [h]; simp
set_option maxHeartbeats 2000000 in
set_option maxRecDepth 100000 in
theorem lows_stops (F : Fence) (n : Nat) (hF : F.fn 138) (hro : F.round = none) (hn : 1 ≤ n) (c m : Nat) (hm : m < 2 ^ 64) (w : World) (hc : w.heap[c]? = some (.cells #[.int .u64 (m : Int)] 49 (0, 0))) :
  SeqStopsC F n Try.prog 138 #[.pointer (some ⟨c, 0, none⟩)] (fun x : Nat => #[.int .u64 ((2 : Int) ^ x)]) c (fun xs => xs = pos m) (fun pre => pre <+: pos m) w := by
 intro l J Jx W hW hJ hJx hY h0
 have hlt : c < w.heap.size := (Array.getElem?_eq_some_iff.1 hc).1
 have hcW : W.heap[c]? = some (.cells #[.int .u64 (m : Int)] 49 (0, 0)) := (hW.block c hlt).trans hc
 refine callsIn_of_wp Try.func138 rfl hF ?_ hro
 simp only [Try.ntmps138, List.size_toArray, List.length_cons, List.length_nil, Nat.reduceAdd, Nat.reduceSub, Array.replicate_succ, Array.replicate_zero, List.push_toArray, List.append_toArray, List.nil_append, List.cons_append]
 gi_wp2
 gi_loopw [3] (fun v3 wr => ∃ (pre : List Nat) (m' : Nat), pos m = pre ++ pos m' ∧ m' < 2 ^ 64 ∧ wr.heap[c]? = some (.cells #[.int .u64 (m' : Int)] 49 (0, 0)) ∧ J pre wr)
  (fun v3 wr => cntBits c wr)
 case atStart => exact ⟨[], m, rfl, hm, hcW, h0⟩
 case round =>
  obtain ⟨pre, m', hpos, hm', hcell, hJp⟩ := hrel
  have HP := m_ hpos
  have HM := m_ hm'
  have HH := m_ hcell
  clear hpos hm' hcell
  have hf0 := a2_ HH.out 0
  by_cases hz : m' = 0
  ·subst hz
   have hc0 : wr.cell? ⟨c, 0, none⟩ = some (.int .u64 0) := blk_cell0 HH.out
   gi_wp2
   go_end0
   exact ⟨⟨_, rfl⟩, .inl ⟨pos m, rfl, by rw [HP.out, pos_zero, List.append_nil]; exact hJp⟩⟩
  ·obtain ⟨i, rest, e1, hi, e2, e3, e4⟩ := pos_step hz HM.out
   have E1 := m_ e1
   have E3 := m_ e3
   have E4 := m_ e4
   clear e1 e3 e4
   have hc0 : wr.cell? ⟨c, 0, none⟩ = some (.int .u64 (m' : Int)) := blk_cell0 HH.out
   have hx := and_neg_u64 hz HM.out
   rw [e2] at hx
   have hx : Go.bits .and .u64 (m' : Int) (IntKind.u64.wrap (-(m' : Int))) = (2 : Int) ^ i := hx.trans (by simp)
   obtain ⟨fn, tmps, assign, body, hy, hR⟩ := hY pre i wr hJp ⟨rest, by rw [HP.out, E1.out]; simp⟩
   have hz' : ((m' : Int) == 0) = false := by simpa using hz
   have hz2 : ((m' : Int) != 0) = true := by simpa using hz
   clear e2
   have HZ := m_ hz
   clear hz
   gi_wp2
   refine hR.mono ?_
   rintro e W3 (⟨rfl, hJ3, hk3⟩ | ⟨rfl, hJx3⟩)
   ·have hq : W3.heap[c]? = some (.cells #[.int .u64 (m' : Int)] 49 (0, 0)) := hk3.trans HH.out
    have HQ := m_ hq
    clear hq
    have hc3 : W3.cell? ⟨c, 0, none⟩ = some (.int .u64 (m' : Int)) := blk_cell0 HQ.out
    have hf3 := a2_ HQ.out 0
    have hy2 := and_pred_u64 HZ.out HM.out
    gi_wp2
    go_roundw
    case rel => exact ⟨pre ++ [i], m' &&& (m' - 1), by rw [HP.out, E1.out, E3.out]; simp, E4.out, by simpa using blk_set HQ.out 0 _, hJ _ _ _ _ hJ3 (grownBy_setCell' _ _ _) (fun r e => by cases e; rfl)⟩
    case measure =>
     have h1 : cntBits c wr = (pos m').length := cntBits_of hc0
     refine Nat.lt_of_le_of_lt (Nat.le_of_eq (cntBits_of (m := m' &&& (m' - 1)) (World.cell?_setCell_same' _ _ _ (by rw [hc3]; rfl)))) ?_
     rw [h1, E1.out, E3.out]; simp
   ·gi_wp2
    refine bodyPost_ret (results_none rfl _ _ _) rfl ?_
    exact ⟨⟨_, rfl⟩, .inr ⟨pre ++ [i], ⟨rest, by rw [HP.out, E1.out]; simp⟩, hJx3⟩⟩
def mask_Lowest.f (a0 a1 : Int) : Option (Int × Int) := if 0 ≤ a0 ∧ a0 < 2 ^ 64 then (if a1 < 0 then some (0, 1) else if popI a0 < a1 then some (0, 2) else some (lowI a0 a1, 0)) else none
theorem lows_calls (a0 : Int) (w : World) : Calls Try.prog 133 #[.int .u64 a0] w fun e w' => e = .returned (.func (.func 138) #[] #[.pointer (some ⟨w.heap.size, 0, none⟩)]) ∧ w' = w.alloc (.cells #[.int .u64 a0] 49) := by
 have hu49 := Try.underlying49
 go_enter Try.func133, Try.ntmps133
 go_wp2
 go_ret
 exact ⟨rfl, rfl⟩
set_option maxHeartbeats 8000000 in
set_option maxRecDepth 100000 in
theorem mask_Lowest.calls0 (a0 a1 r1 r2 : Int) (w : World)  (h : mask_Lowest.f a0 a1 = some (r1, r2)) (hcount : ∀ W, Calls Try.prog 75 #[.int .u64 a0] W fun e w' => e = .returned (.int .i64 (popI a0)) ∧ Drawn0 W w') :
  Calls Try.prog 114 #[.int .u64 a0, .int .i64 a1] w fun e w' => e = .returned (.tuple #[.int .u64 r1, .int .i64 r2]) ∧ Below w.heap.size w w' := by
 have hu49 := Try.underlying49
 have hu3 := Try.underlying3
 refine calls_marks Try.func114 rfl ?_
 simp only [Try.ntmps114, List.size_toArray, List.length_cons, List.length_nil, Nat.reduceAdd, Nat.reduceSub, Array.replicate_succ, Array.replicate_zero, List.push_toArray, List.append_toArray, List.nil_append, List.cons_append]
 unfold mask_Lowest.f at h
 by_cases hr : 0 ≤ a0 ∧ a0 < 2 ^ 64
 ·rw [if_pos hr] at h
  by_cases hn : a1 < 0
  ·rw [if_pos hn] at h
   obtain ⟨rfl, rfl⟩ := Prod.mk.inj (Option.some.inj h)
   go_wp2
   exact marks_ret0 (results_tmp2 rfl _ _ _) ⟨rfl, b1_ (Below.refl _ _) _⟩
  ·rw [if_neg hn] at h
   by_cases hp : popI a0 < a1
   ·rw [if_pos hp] at h
    obtain ⟨rfl, rfl⟩ := Prod.mk.inj (Option.some.inj h)
    go_wp2
    go_quiet ((go_at_call 75; exact Calls.quiet_of ((hcount _).mono fun e w' h => ⟨h.1, h.2.out⟩)))
    go_wp2
    exact marks_ret0 (results_tmp2 rfl _ _ _) ⟨rfl, d5_ (b1_ (Below.refl _ _) _) _⟩
   ·rw [if_neg hp] at h
    obtain ⟨rfl, rfl⟩ := Prod.mk.inj (Option.some.inj h)
    clear h
    obtain ⟨m, rfl⟩ := Int.eq_ofNat_of_zero_le hr.1
    obtain ⟨j, rfl⟩ := Int.eq_ofNat_of_zero_le (by omega : 0 ≤ a1)
    have hm : m < 2 ^ 64 := by omega
    have hj : j ≤ popN m := by simp [popI] at hp; exact hp
    have HM := m_ hm
    have HJ := m_ hj
    clear hm hj hr hn
    go_wp2
    go_quiet ((go_at_call 75; exact Calls.quiet_of ((hcount _).mono fun e w' h => ⟨h.1, h.2.out⟩)))
    go_wp2_with (go_at_call 133; refine (lows_calls _ _).mono ?_; rintro e w' ⟨rfl, rfl⟩)
    have hb2 := heap_alloc_new (((w.alloc (.cells #[.int .i64 (j : Int)] 3)).drewN nq).alloc (.cells #[.int .u64 0] 49)) (.cells #[.int .u64 (m : Int)] 49)
    have hb1 := heap_alloc_new ((w.alloc (.cells #[.int .i64 (j : Int)] 3)).drewN nq) (.cells #[.int .u64 0] 49)
    have hb0 := heap_alloc_new w (.cells #[.int .i64 (j : Int)] 3)
    have hB : Below w.heap.size w ((((w.alloc (.cells #[.int .i64 (j : Int)] 3)).drewN nq).alloc (.cells #[.int .u64 0] 49)).alloc (.cells #[.int .u64 (m : Int)] 49)) :=
     b1_ (b1_ (d5_ (b1_ (Below.refl _ _) _) _) _) _
    replace hb1 := b5_ hb1 (.cells #[.int .u64 (m : Int)] 49)
    replace hb0 := b5_ (b5_ (c9_ hb0 nq) (.cells #[.int .u64 0] 49)) (.cells #[.int .u64 (m : Int)] 49)
    have hsz : ((((w.alloc (.cells #[.int .i64 (j : Int)] 3)).drewN nq).alloc (.cells #[.int .u64 0] 49)).alloc (.cells #[.int .u64 (m : Int)] 49)).heap.size = w.heap.size + 3 := by simp
    have e1 : ((w.alloc (.cells #[.int .i64 (j : Int)] 3)).drewN nq).heap.size = w.heap.size + 1 := by simp
    have e2 : (((w.alloc (.cells #[.int .i64 (j : Int)] 3)).drewN nq).alloc (.cells #[.int .u64 0] 49)).heap.size = w.heap.size + 1 + 1 := by simp
    rw [e1] at hb1
    rw [e2] at hb2
    clear e1 e2
    generalize ((((w.alloc (.cells #[.int .i64 (j : Int)] 3)).drewN nq).alloc (.cells #[.int .u64 0] 49)).alloc (.cells #[.int .u64 (m : Int)] 49)) = W0 at *
    have keep : ∀ {A B : World} {row : Option Nat}, A.grownBy B row → (∀ r, row = some r → r = w.heap.size + 1 + 1 ∨ (W0.heap.size ≤ r ∧ ∃ o : Obj, A.heap[r]? = some o ∧ o.isCells = false)) → ∀ {k : Nat} {o : Obj}, A.heap[k]? = some o → k < w.heap.size + 2 → B.heap[k]? = some o := by
     intro A B row hg hr k o hk hlt
     refine (hg.block k (Array.getElem?_eq_some_iff.1 hk).1 fun e => ?_).trans hk
     rcases hr k e.symm with h | ⟨h, _⟩ <;> omega
    have keepB : ∀ {A B : World} {row : Option Nat}, A.grownBy B row → (∀ r, row = some r → r = w.heap.size + 1 + 1 ∨ (W0.heap.size ≤ r ∧ ∃ o : Obj, A.heap[r]? = some o ∧ o.isCells = false)) → Below w.heap.size w A → Below w.heap.size w B :=
     fun hg hr hb => hb.grown hg hb.size (fun k e => by rcases hr k e with h | ⟨h, _⟩ <;> omega)
    refine wpIn_wide.1 (range_cap (F := Fence.wide) (n := 6) (α := Nat) (w.heap.size + 1 + 1) (by omega) rfl (by omega) (gf := 138) (lb := #[.pointer (some ⟨w.heap.size + 1 + 1, 0, none⟩)]) rfl trivial (enters_of Try.func138 (by kernel_rfl) rfl)
     (encs := fun x : Nat => #[.int .u64 ((2 : Int) ^ x)]) (lows_stops _ _ trivial rfl (by omega) _ m HM.out _ hb2) (fun _ => rfl)
     (fun pre W => (pre.length ≤ j ∧ W.heap[w.heap.size]? = some (.cells #[.int .i64 ((j : Int) - pre.length)] 3 (0, 0)) ∧ W.heap[w.heap.size + 1]? = some (.cells #[.int .u64 (orAll pre : Int)] 49 (0, 0))) ∧ Below w.heap.size w W)
     (fun c xs W => c = .exit 1 ∧ ∃ pre x, xs = pre ++ [x] ∧ pre.length = j ∧ W.heap[w.heap.size + 1]? = some (.cells #[.int .u64 (orAll pre : Int)] 49 (0, 0)) ∧ Below w.heap.size w W)
     ?hI ?hIx ?h0
     (fun x => { tmps := #[.int .u64 (m : Int), .int .i64 (j : Int), undef, .pointer (some ⟨w.heap.size, 0, none⟩), .int .u64 0, .int .i64 0, .pointer (some ⟨w.heap.size + 1, 0, none⟩), .int .u64 ((2 : Int) ^ x), .bool (decide ((j : Int) < 0)), .int .i64 (j : Int), .bool (decide ((j : Int) < 0)), .bool (decide (popI (m : Int) < (j : Int))), .int .i64 (j : Int), .int .u64 (m : Int), .int .i64 (popI (m : Int)), .bool (decide (popI (m : Int) < (j : Int))), .int .u64 (m : Int), .func (.func 138) #[] #[.pointer (some ⟨w.heap.size + 1 + 1, 0, none⟩)], .int .u64 ((2 : Int) ^ x), undef, undef, undef, undef, undef, undef, undef, undef], defers := [] })
     ?assign ?body ?done ?stop)
    case hI => exact fun s A B row hs hg hr => ⟨⟨hs.1.1, keep hg hr hs.1.2.1 (by omega), keep hg hr hs.1.2.2 (by omega)⟩, keepB hg hr hs.2⟩
    case hIx =>
     intro c s A B row hs hg hr
     obtain ⟨hc, pre, x, e, hl, h1, hb⟩ := hs
     exact ⟨hc, pre, x, e, hl, keep hg hr h1 (by omega), keepB hg hr hb⟩
    case h0 => exact ⟨⟨Nat.zero_le _, by simpa using hb0, hb1⟩, hB⟩
    case assign =>
     intro l x W K hK
     gi_wp2
     exact hK
    case body =>
     rintro l pre x W ⟨⟨hlen, h0, h1⟩, hBW⟩ hsp
     have hx64 : x < 64 := (mem_pos.1 (hsp.subset (by simp))).1
     have hp64 : ∀ i ∈ pre, i < 64 := fun i hi => (mem_pos.1 (hsp.subset (by simp [hi]))).1
     have hj64 : (j : Int) ≤ 64 := by
      have h1 := HJ.out
      have h2 : popN m ≤ 64 := by unfold popN pos; exact Nat.le_trans (List.length_filter_le _ _) (by simp)
      omega
     have hor : Go.bits .or .u64 (orAll pre : Int) ((2 : Int) ^ x) = ((orAll (pre ++ [x]) : Nat) : Int) := by
      have := bits_or_u64_nat (orAll pre) (2 ^ x) (orAll_lt hp64) (Nat.pow_lt_pow_right (by omega) hx64)
      rw [orAll_snoc, ← this]
      simp
     have c0 := blk_cell0 h0
     have c1 := blk_cell0 h1
     have f0 := a2_ h0 0
     have f1 := a2_ h1 0
     have H0 := m_ h0
     have H1 := m_ h1
     have HS := m_ hsp
     have HBW := m_ hBW
     clear h0 h1 hsp hBW hB hb0 hb1 hb2 hsz hp64
     by_cases hlj : pre.length = j
     ·have hz : ((j : Int) - pre.length == 0) = true := by simp; omega
      have HL := m_ hlj
      clear hlj hlen
      gi_wp2
      exact ⟨KeepsOthers.refl _, rfl, pre, x, rfl, HL.out, H1.out, HBW.out⟩
     ·have hz : ((j : Int) - pre.length == 0) = false := by simp; omega
      have hlt : pre.length < j := by omega
      have HL := m_ hlj
      clear hlj hlen
      have cc : (W.setCell ⟨w.heap.size + 1, 0, none⟩ (.int .u64 ((orAll (pre ++ [x]) : Nat) : Int))).cell? ⟨w.heap.size, 0, none⟩ = some (.int .i64 ((j : Int) - pre.length)) := by
       rw [World.cell?_setCell_other]; exact c0
       simp
      gi_wp2
      have g1 : (W.setCell ⟨w.heap.size + 1, 0, none⟩ (.int .u64 ((orAll (pre ++ [x]) : Nat) : Int))).heap[w.heap.size + 1]? = some (.cells #[.int .u64 ((orAll (pre ++ [x]) : Nat) : Int)] 49 (0, 0)) := by simpa using blk_set H1.out 0 (.int .u64 ((orAll (pre ++ [x]) : Nat) : Int))
      have g0 : (W.setCell ⟨w.heap.size + 1, 0, none⟩ (.int .u64 ((orAll (pre ++ [x]) : Nat) : Int))).heap[w.heap.size]? = some (.cells #[.int .i64 ((j : Int) - pre.length)] 3 (0, 0)) := b8_ (p := ⟨w.heap.size + 1, 0, none⟩) H0.out (by simp) _
      refine ⟨(KeepsOthers.setCell _ _ _).trans (KeepsOthers.setCell _ _ _), ?_, ⟨?_, ?_, ?_⟩, ?_⟩
      ·exact (Below.heap_setCell _ _ _ _ (by simp <;> omega)).trans (Below.heap_setCell _ _ _ _ (by simp <;> omega))
      ·simp; omega
      ·have := blk_set g0 0 (.int .i64 ((j : Int) - pre.length - 1))
       simp only [List.length_append, List.length_singleton]
       rw [show ((j : Int) - ((pre.length + 1 : Nat) : Int)) = (j : Int) - pre.length - 1 by omega]
       simpa using this
      ·exact b8_ (p := ⟨w.heap.size, 0, none⟩) g1 (by simp) _
      ·exact b2_ (b2_ HBW.out (by simp)) (by simp)
    case done =>
     rintro D xs W hD rfl ⟨⟨hlen, h0, h1⟩, hBW⟩ hK
     have hjl : j = (pos m).length := Nat.le_antisymm HJ.out hlen
     have c1 := blk_cell0 h1
     have H1 := m_ h1
     have HL := m_ hjl
     clear h0 h1 hlen hjl hB hb0 hb1 hb2
     have hres : lowI (m : Int) (j : Int) = (orAll (pos m) : Int) := by
      simp only [lowI, Int.toNat_natCast, lowN]
      rw [HL.out, List.take_length]
     go_wp2
     exact marks_ret1 hK (results_tmp2 rfl _ _ _) ⟨by rw [hres]; rfl, below_mark hBW (by omega) hK⟩
    case stop =>
     rintro D c xs W hD hsp ⟨rfl, pre, x, rfl, hlen, h1, hBW⟩ hK
     have c1 := blk_cell0 h1
     have H1 := m_ h1
     have HL := m_ hlen
     have HS := m_ hsp
     clear h1 hlen hB hb0 hb1 hb2 hsp
     have hres : lowI (m : Int) (j : Int) = (orAll pre : Int) := by
      simp only [lowI, Int.toNat_natCast, lowN]
      obtain ⟨rest, hr⟩ := HS.out
      rw [← hr, ← HL.out, List.append_assoc, List.take_left]
     rw [wpIn_wide]
     go_wp2
     exact marks_ret1 hK (results_tmp2 rfl _ _ _) ⟨by rw [hres]; rfl, below_mark hBW (by omega) hK⟩
 ·rw [if_neg hr] at h; cases h
end Go.Proofs.Ytckhjehibjdjdaa.P
namespace Go.Proofs.Ytckhjehibjdjdaa.Bits
def glue : List Nat → Nat
 | [] => 0
 | r :: l => 256 * glue l + r
def maskN (s : Nat) : Nat → Nat
 | 0 => 0
 | k + 1 => 256 * maskN s k + s
theorem and_split (q p r s : Nat) (hr : r < 256) (hs : s < 256) : (256 * q + r) &&& (256 * p + s) = 256 * (q &&& p) + (r &&& s) := by
 apply Nat.eq_of_testBit_eq
 intro j
 have hrs : (r &&& s) < 2 ^ 8 := Nat.lt_of_le_of_lt Nat.and_le_left hr
 have e1 := Nat.testBit_two_pow_mul_add q (i := 8) hr j
 have e2 := Nat.testBit_two_pow_mul_add p (i := 8) hs j
 have e3 := Nat.testBit_two_pow_mul_add (q &&& p) (i := 8) hrs j
 rw [show (2 : Nat) ^ 8 = 256 from rfl] at e1 e2 e3
 rw [Nat.testBit_and, e1, e2, e3]
 split <;> simp
theorem and_shift (q p r s j : Nat) (hj : j ≤ 8) (hr : r < 256) (hs : s < 2 ^ (8 - j)) : ((256 * q + r) / 2 ^ j) &&& (256 * p + s) = 256 * ((q / 2 ^ j) &&& p) + ((r / 2 ^ j) &&& s) := by
 have hs' : s < 256 := Nat.lt_of_lt_of_le hs (by have := Nat.pow_le_pow_right (n := 2) (by omega) (show 8 - j ≤ 8 by omega); simpa using this)
 apply Nat.eq_of_testBit_eq
 intro i
 have hrs : ((r / 2 ^ j) &&& s) < 2 ^ 8 := Nat.lt_of_le_of_lt Nat.and_le_right hs'
 have e1 := Nat.testBit_two_pow_mul_add q (i := 8) hr (i + j)
 have e2 := Nat.testBit_two_pow_mul_add p (i := 8) hs' i
 have e3 := Nat.testBit_two_pow_mul_add ((q / 2 ^ j) &&& p) (i := 8) hrs i
 rw [show (2 : Nat) ^ 8 = 256 from rfl] at e1 e2 e3
 rw [Nat.testBit_and, e2, e3, Nat.testBit_div_two_pow, e1]
 by_cases hi : i < 8
 ·rw [if_pos hi, if_pos hi, Nat.testBit_and, Nat.testBit_div_two_pow]
  by_cases h2 : i + j < 8
  ·rw [if_pos h2]
  ·rw [if_neg h2]
   have : s.testBit i = false := by
    apply Nat.testBit_lt_two_pow
    exact Nat.lt_of_lt_of_le hs (Nat.pow_le_pow_right (by omega) (by omega))
   rw [this]; simp
 ·rw [if_neg hi, if_neg hi, if_neg (by omega), Nat.testBit_and, Nat.testBit_div_two_pow]
  rw [show i + j - 8 = i - 8 + j by omega]
theorem glue_and (s : Nat) (hs : s < 256) : ∀ l : List Nat, (∀ r ∈ l, r < 256) → glue l &&& maskN s l.length = glue (l.map fun r => r &&& s)
 | [], _ => by simp [glue, maskN]
 | r :: l, h => by
  rw [glue, List.length_cons, maskN, and_split _ _ _ _ (h r (by simp)) hs, glue_and s hs l (fun x hx => h x (by simp [hx]))]; rfl
theorem glue_shift (s j : Nat) (hj : j ≤ 8) (hs : s < 2 ^ (8 - j)) : ∀ l : List Nat, (∀ r ∈ l, r < 256) → (glue l / 2 ^ j) &&& maskN s l.length = glue (l.map fun r => (r / 2 ^ j) &&& s)
 | [], _ => by simp [glue, maskN]
 | r :: l, h => by
  rw [glue, List.length_cons, maskN, and_shift _ _ _ _ _ hj (h r (by simp)) hs, glue_shift s j hj hs l (fun x hx => h x (by simp [hx]))]; rfl
theorem glue_add (f g : Nat → Nat) : ∀ l : List Nat, glue (l.map f) + glue (l.map g) = glue (l.map fun r => f r + g r)
 | [] => rfl
 | r :: l => by have := glue_add f g l; simp only [List.map_cons, glue] at *; omega
def s1 (r : Nat) : Nat := ((r / 2) &&& 85) + (r &&& 85)
def s2 (r : Nat) : Nat := ((r / 4) &&& 51) + (r &&& 51)
theorem s1_lt : ∀ r, r < 256 → s1 r < 256 := by decide +kernel
theorem s2_two : ∀ r, r < 256 → s2 (s1 r) % 16 ≤ 4 ∧ s2 (s1 r) / 16 ≤ 4 ∧ s2 (s1 r) % 16 + s2 (s1 r) / 16 = (List.range 8).countP (fun j => r.testBit j) := by decide +kernel
def bytes (m : Nat) : List Nat := [m % 256, m / 256 % 256, m / 65536 % 256, m / 16777216 % 256, m / 4294967296 % 256, m / 1099511627776 % 256, m / 281474976710656 % 256, m / 72057594037927936 % 256]
theorem glue_bytes (m : Nat) (h : m < 18446744073709551616) : glue (bytes m) = m := by
 simp only [glue, bytes]; omega
theorem bytes_lt (m : Nat) : ∀ r ∈ bytes m, r < 256 := by
 intro r hr
 simp only [bytes, List.mem_cons, List.not_mem_nil, or_false] at hr
 omega
def pairs (m : Nat) : Nat := ((m / 2) &&& 6148914691236517205) + (m &&& 6148914691236517205)
def fours (m : Nat) : Nat := ((m / 4) &&& 3689348814741910323) + (m &&& 3689348814741910323)
theorem pairs_eq (l : List Nat) (hl : l.length = 8) (h : ∀ r ∈ l, r < 256) : pairs (glue l) = glue (l.map s1) := by
 have e : (6148914691236517205 : Nat) = maskN 85 l.length := by rw [hl]; rfl
 unfold pairs
 rw [e, glue_and 85 (by omega) l h]
 have := glue_shift 85 1 (by omega) (by decide) l h
 rw [Nat.pow_one] at this
 rw [this, glue_add]
 rfl
theorem fours_eq (l : List Nat) (hl : l.length = 8) (h : ∀ r ∈ l, r < 256) : fours (glue l) = glue (l.map s2) := by
 have e : (3689348814741910323 : Nat) = maskN 51 l.length := by rw [hl]; rfl
 unfold fours
 rw [e, glue_and 51 (by omega) l h]
 have := glue_shift 51 2 (by omega) (by decide) l h
 rw [show (2 : Nat) ^ 2 = 4 from rfl] at this
 rw [this, glue_add]
 rfl
theorem and15 (u v : Nat) (hv : v < 16) (hu : u < 16) : (16 * u + v) &&& 15 = v := by
 have h : ∀ u, u < 16 → ∀ v, v < 16 → (16 * u + v) &&& 15 = v := by decide +kernel
 exact h u hu v hv
def eights (b : Nat) : Nat := ((b / 16 + b) % 18446744073709551616) &&& 1085102592571150095
theorem eights_eq (h0 h1 h2 h3 h4 h5 h6 h7 l0 l1 l2 l3 l4 l5 l6 l7 : Nat)
  (a0 : h0 ≤ 4) (a1 : h1 ≤ 4) (a2 : h2 ≤ 4) (a3 : h3 ≤ 4) (a4 : h4 ≤ 4) (a5 : h5 ≤ 4) (a6 : h6 ≤ 4) (a7 : h7 ≤ 4)
  (b0 : l0 ≤ 4) (b1 : l1 ≤ 4) (b2 : l2 ≤ 4) (b3 : l3 ≤ 4) (b4 : l4 ≤ 4) (b5 : l5 ≤ 4) (b6 : l6 ≤ 4) (b7 : l7 ≤ 4) :
  eights (glue [16 * h0 + l0, 16 * h1 + l1, 16 * h2 + l2, 16 * h3 + l3, 16 * h4 + l4, 16 * h5 + l5, 16 * h6 + l6, 16 * h7 + l7]) = glue [h0 + l0, h1 + l1, h2 + l2, h3 + l3, h4 + l4, h5 + l5, h6 + l6, h7 + l7] := by
 have e : (glue [16 * h0 + l0, 16 * h1 + l1, 16 * h2 + l2, 16 * h3 + l3, 16 * h4 + l4, 16 * h5 + l5, 16 * h6 + l6, 16 * h7 + l7] / 16 + glue [16 * h0 + l0, 16 * h1 + l1, 16 * h2 + l2, 16 * h3 + l3, 16 * h4 + l4, 16 * h5 + l5, 16 * h6 + l6, 16 * h7 + l7]) % 18446744073709551616
   = glue [16 * (h0 + l1) + (h0 + l0), 16 * (h1 + l2) + (h1 + l1), 16 * (h2 + l3) + (h2 + l2), 16 * (h3 + l4) + (h3 + l3), 16 * (h4 + l5) + (h4 + l4), 16 * (h5 + l6) + (h5 + l5), 16 * (h6 + l7) + (h6 + l6), 16 * h7 + (h7 + l7)] := by
  simp only [glue]; omega
 unfold eights
 rw [e]
 have e2 : (1085102592571150095 : Nat) = maskN 15 8 := rfl
 rw [e2, show (8 : Nat) = [16 * (h0 + l1) + (h0 + l0), 16 * (h1 + l2) + (h1 + l1), 16 * (h2 + l3) + (h2 + l2), 16 * (h3 + l4) + (h3 + l3), 16 * (h4 + l5) + (h4 + l4), 16 * (h5 + l6) + (h5 + l5), 16 * (h6 + l7) + (h6 + l6), 16 * h7 + (h7 + l7)].length from rfl, glue_and 15 (by omega)]
 ·simp only [List.map_cons, List.map_nil]
  rw [and15 _ _ (by omega) (by omega), and15 _ _ (by omega) (by omega), and15 _ _ (by omega) (by omega), and15 _ _ (by omega) (by omega), and15 _ _ (by omega) (by omega), and15 _ _ (by omega) (by omega), and15 _ _ (by omega) (by omega), and15 _ _ (by omega) (by omega)]
 ·intro r hr
  simp only [List.mem_cons, List.not_mem_nil, or_false] at hr
  omega
def tops (c : Nat) : Nat :=
 let d := (c + c / 256) % 18446744073709551616
 let e := (d + d / 65536) % 18446744073709551616
 ((e + e / 4294967296) % 18446744073709551616) % 128
theorem tops_eq (v0 v1 v2 v3 v4 v5 v6 v7 : Nat) (a0 : v0 ≤ 8) (a1 : v1 ≤ 8) (a2 : v2 ≤ 8) (a3 : v3 ≤ 8) (a4 : v4 ≤ 8) (a5 : v5 ≤ 8) (a6 : v6 ≤ 8) (a7 : v7 ≤ 8) :
  tops (glue [v0, v1, v2, v3, v4, v5, v6, v7]) = v0 + v1 + v2 + v3 + v4 + v5 + v6 + v7 := by
 have q1 : glue [v0, v1, v2, v3, v4, v5, v6, v7] / 256 = glue [v1, v2, v3, v4, v5, v6, v7] := by
  simp only [glue]; omega
 have e1 : (glue [v0, v1, v2, v3, v4, v5, v6, v7] + glue [v1, v2, v3, v4, v5, v6, v7]) % 18446744073709551616 = glue [v0 + v1, v1 + v2, v2 + v3, v3 + v4, v4 + v5, v5 + v6, v6 + v7, v7] := by
  rw [Nat.mod_eq_of_lt (by simp only [glue]; omega)]; simp only [glue]; omega
 have q2 : glue [v0 + v1, v1 + v2, v2 + v3, v3 + v4, v4 + v5, v5 + v6, v6 + v7, v7] / 65536 = glue [v2 + v3, v3 + v4, v4 + v5, v5 + v6, v6 + v7, v7] := by
  simp only [glue]; omega
 have e2 : (glue [v0 + v1, v1 + v2, v2 + v3, v3 + v4, v4 + v5, v5 + v6, v6 + v7, v7] + glue [v2 + v3, v3 + v4, v4 + v5, v5 + v6, v6 + v7, v7]) % 18446744073709551616 = glue [v0 + v1 + v2 + v3, v1 + v2 + v3 + v4, v2 + v3 + v4 + v5, v3 + v4 + v5 + v6, v4 + v5 + v6 + v7, v5 + v6 + v7, v6 + v7, v7] := by
  rw [Nat.mod_eq_of_lt (by simp only [glue]; omega)]; simp only [glue]; omega
 have q3 : glue [v0 + v1 + v2 + v3, v1 + v2 + v3 + v4, v2 + v3 + v4 + v5, v3 + v4 + v5 + v6, v4 + v5 + v6 + v7, v5 + v6 + v7, v6 + v7, v7] / 4294967296 = glue [v4 + v5 + v6 + v7, v5 + v6 + v7, v6 + v7, v7] := by
  simp only [glue]; omega
 have e3 : ((glue [v0 + v1 + v2 + v3, v1 + v2 + v3 + v4, v2 + v3 + v4 + v5, v3 + v4 + v5 + v6, v4 + v5 + v6 + v7, v5 + v6 + v7, v6 + v7, v7] + glue [v4 + v5 + v6 + v7, v5 + v6 + v7, v6 + v7, v7]) % 18446744073709551616) % 128 = v0 + v1 + v2 + v3 + v4 + v5 + v6 + v7 := by
  rw [Nat.mod_eq_of_lt (b := 18446744073709551616) (by clear q1 e1 q2 e2 q3; simp only [glue]; omega)]
  clear q1 e1 q2 e2 q3
  simp only [glue]
  omega
 unfold tops
 simp only [q1, e1, q2, e2, q3]
 exact e3
theorem countP_range64 (p : Nat → Bool) : (List.range 64).countP p = (List.range 8).countP (fun j => p j) + (List.range 8).countP (fun j => p (j + 8)) + (List.range 8).countP (fun j => p (j + 16)) + (List.range 8).countP (fun j => p (j + 24)) + (List.range 8).countP (fun j => p (j + 32)) + (List.range 8).countP (fun j => p (j + 40)) + (List.range 8).countP (fun j => p (j + 48)) + (List.range 8).countP (fun j => p (j + 56)) := by
 have e : List.range 64 = List.range 8 ++ (List.range 8).map (· + 8) ++ (List.range 8).map (· + 16) ++ (List.range 8).map (· + 24) ++ (List.range 8).map (· + 32) ++ (List.range 8).map (· + 40) ++ (List.range 8).map (· + 48) ++ (List.range 8).map (· + 56) := by decide
 rw [e]
 simp only [List.countP_append, List.countP_map]
 rfl
theorem byte_bits (m k : Nat) : (List.range 8).countP (fun j => m.testBit (j + k)) = (List.range 8).countP (fun j => (m / 2 ^ k % 256).testBit j) := by
 apply List.countP_congr
 intro j hj
 rw [List.mem_range] at hj
 rw [show (256 : Nat) = 2 ^ 8 from rfl, Nat.testBit_mod_two_pow, Nat.testBit_div_two_pow]
 simp [hj]
theorem popN_swar (m : Nat) (h : m < 18446744073709551616) : tops (eights (fours (pairs m))) = popN m := by
 have hp : popN m = (List.range 64).countP (fun j => m.testBit j) := by
  unfold popN pos; rw [List.countP_eq_length_filter]
 have e0 := byte_bits m 0
 have e1 := byte_bits m 8
 have e2 := byte_bits m 16
 have e3 := byte_bits m 24
 have e4 := byte_bits m 32
 have e5 := byte_bits m 40
 have e6 := byte_bits m 48
 have e7 := byte_bits m 56
 simp only [Nat.add_zero, Nat.pow_zero, Nat.div_one] at e0
 rw [show (2 : Nat) ^ 8 = 256 from rfl] at e1
 rw [show (2 : Nat) ^ 16 = 65536 from rfl] at e2
 rw [show (2 : Nat) ^ 24 = 16777216 from rfl] at e3
 rw [show (2 : Nat) ^ 32 = 4294967296 from rfl] at e4
 rw [show (2 : Nat) ^ 40 = 1099511627776 from rfl] at e5
 rw [show (2 : Nat) ^ 48 = 281474976710656 from rfl] at e6
 rw [show (2 : Nat) ^ 56 = 72057594037927936 from rfl] at e7
 rw [hp, countP_range64, e0, e1, e2, e3, e4, e5, e6, e7]
 have hg := glue_bytes m h
 rw [show pairs m = pairs (glue (bytes m)) by rw [hg], pairs_eq _ rfl (bytes_lt m), fours_eq _ (by simp [bytes]) (by
  intro r hr
  obtain ⟨x, hx, rfl⟩ := List.mem_map.1 hr
  exact s1_lt x (bytes_lt m x hx))]
 simp only [bytes, List.map_cons, List.map_nil]
 have q0 := s2_two (m % 256) (by omega)
 have q1 := s2_two (m / 256 % 256) (by omega)
 have q2 := s2_two (m / 65536 % 256) (by omega)
 have q3 := s2_two (m / 16777216 % 256) (by omega)
 have q4 := s2_two (m / 4294967296 % 256) (by omega)
 have q5 := s2_two (m / 1099511627776 % 256) (by omega)
 have q6 := s2_two (m / 281474976710656 % 256) (by omega)
 have q7 := s2_two (m / 72057594037927936 % 256) (by omega)
 have g : ∀ x : Nat, x = 16 * (x / 16) + x % 16 := fun x => by omega
 rw [g (s2 (s1 (m % 256))), g (s2 (s1 (m / 256 % 256))), g (s2 (s1 (m / 65536 % 256))), g (s2 (s1 (m / 16777216 % 256))), g (s2 (s1 (m / 4294967296 % 256))), g (s2 (s1 (m / 1099511627776 % 256))), g (s2 (s1 (m / 281474976710656 % 256))), g (s2 (s1 (m / 72057594037927936 % 256)))]
 rw [eights_eq _ _ _ _ _ _ _ _ _ _ _ _ _ _ _ _ q0.2.1 q1.2.1 q2.2.1 q3.2.1 q4.2.1 q5.2.1 q6.2.1 q7.2.1 q0.1 q1.1 q2.1 q3.1 q4.1 q5.1 q6.1 q7.1,
  tops_eq _ _ _ _ _ _ _ _ (by omega) (by omega) (by omega) (by omega) (by omega) (by omega) (by omega) (by omega)]
 omega
theorem wrapN (x : Nat) : IntKind.u64.wrap (x : Int) = ((x % 18446744073709551616 : Nat) : Int) := by
 rw [IntKind.wrap_u64]; omega
theorem andN (x y : Nat) (hx : x < 18446744073709551616) (hy : y < 18446744073709551616) : Go.bits .and .u64 (x : Int) (y : Int) = ((x &&& y : Nat) : Int) := bits_and_u64_nat x y hx hy
theorem and_le (x y : Nat) : x &&& y ≤ y := Nat.and_le_right
end Go.Proofs.Ytckhjehibjdjdaa.Bits
namespace Go.Proofs.Ytckhjehibjdjdaa.P
open Go.RowKit Go.Shelf Go.Proofs.YtckhjehibjdjdaaW.PrintWords Go.Proofs.YtckhjehibjdjdaaW.PrintLast Go.Proofs.YtckhjehibjdjdaaW.PrintMore
open Go.Proofs.Ytckhjehibjdjdaa.Bits Go.Proofs.Ytckhjehibjdjdaa.RF
attribute [local go_sem] max2_int min2_int max_two min_two max_three min_three max_four min_four
attribute [local go_sem] Oper.semAt_some
theorem and127 (x : Nat) (h : x < 18446744073709551616) : Go.bits .and .i64 (wrap64 (x : Int)) 127 = ((x % 128 : Nat) : Int) := by
 have h1 : (BitVec.ofInt 64 (wrap64 (x : Int))).toNat = x := by
  rw [BitVec.toNat_ofInt]
  unfold wrap64
  omega
 have h2 : (BitVec.ofInt 64 (127 : Int)).toNat = 127 := by decide
 show IntKind.i64.wrap ((BitVec.ofInt 64 (wrap64 (x : Int)) &&& BitVec.ofInt 64 (127 : Int)).toNat : Int) = _
 rw [BitVec.toNat_and, h1, h2, show (127 : Nat) = 2 ^ 7 - 1 from rfl, Nat.and_two_pow_sub_one_eq_mod, IntKind.wrap_i64]
 omega
theorem ones_int (m : Nat) (hm : m < 18446744073709551616) (a b c d e f : Int)
  (ha : a = IntKind.u64.wrap (Go.bits .and .u64 ((m : Int) / 2) 6148914691236517205 + Go.bits .and .u64 (m : Int) 6148914691236517205))
  (hb : b = IntKind.u64.wrap (Go.bits .and .u64 (a / 4) 3689348814741910323 + Go.bits .and .u64 a 3689348814741910323))
  (hc : c = Go.bits .and .u64 (IntKind.u64.wrap (b / 16 + b)) 1085102592571150095)
  (hd : d = IntKind.u64.wrap (c + c / 256)) (he : e = IntKind.u64.wrap (d + d / 65536)) (hf : f = IntKind.u64.wrap (e + e / 4294967296)) :
  Go.bits .and .i64 (wrap64 f) 127 = popI (m : Int) := by
 have A : a = ((pairs m : Nat) : Int) := by
  rw [ha, show (m : Int) / 2 = ((m / 2 : Nat) : Int) by omega, show (6148914691236517205 : Int) = ((6148914691236517205 : Nat) : Int) from rfl, andN _ _ (by omega) (by omega), andN _ _ hm (by omega), ← Int.natCast_add, wrapN]
  have := and_le (m / 2) 6148914691236517205
  have := and_le m 6148914691236517205
  unfold pairs
  omega
 have pl : pairs m < 18446744073709551616 := by
  have := and_le (m / 2) 6148914691236517205
  have := and_le m 6148914691236517205
  unfold pairs
  omega
 have B : b = ((fours (pairs m) : Nat) : Int) := by
  rw [hb, A, show ((pairs m : Nat) : Int) / 4 = ((pairs m / 4 : Nat) : Int) by omega, show (3689348814741910323 : Int) = ((3689348814741910323 : Nat) : Int) from rfl, andN _ _ (by omega) (by omega), andN _ _ pl (by omega), ← Int.natCast_add, wrapN]
  have := and_le (pairs m / 4) 3689348814741910323
  have := and_le (pairs m) 3689348814741910323
  unfold fours
  omega
 have C : c = ((eights (fours (pairs m)) : Nat) : Int) := by
  rw [hc, B, show ((fours (pairs m) : Nat) : Int) / 16 + ((fours (pairs m) : Nat) : Int) = ((fours (pairs m) / 16 + fours (pairs m) : Nat) : Int) by omega, wrapN, show (1085102592571150095 : Int) = ((1085102592571150095 : Nat) : Int) from rfl, andN _ _ (by omega) (by omega)]
  rfl
 generalize hx : eights (fours (pairs m)) = x at C
 have D : d = (((x + x / 256) % 18446744073709551616 : Nat) : Int) := by
  rw [hd, C, show (x : Int) + (x : Int) / 256 = ((x + x / 256 : Nat) : Int) by omega, wrapN]
 generalize hy : (x + x / 256) % 18446744073709551616 = y at D
 have E : e = (((y + y / 65536) % 18446744073709551616 : Nat) : Int) := by
  rw [he, D, show (y : Int) + (y : Int) / 65536 = ((y + y / 65536 : Nat) : Int) by omega, wrapN]
 generalize hz : (y + y / 65536) % 18446744073709551616 = z at E
 have F : f = (((z + z / 4294967296) % 18446744073709551616 : Nat) : Int) := by
  rw [hf, E, show (z : Int) + (z : Int) / 4294967296 = ((z + z / 4294967296 : Nat) : Int) by omega, wrapN]
 rw [F, and127 _ (by omega)]
 unfold popI
 rw [Int.toNat_natCast, ← popN_swar m hm, hx]
 unfold tops
 simp only [hy, hz]
set_option maxHeartbeats 2000000 in
set_option maxRecDepth 100000 in
theorem ones_any (m : Nat) (hm : m < 2 ^ 64) (w : World) : Calls Try.prog 105 #[.int .u64 (m : Int)] w fun e w' => e = .returned (.int .i64 (popI (m : Int))) ∧ w' = w := by
 have hu49 := Try.underlying49
 have H := fun v (h : v = popI (m : Int)) => (congrArg (fun v => Ending.returned (.int .i64 v)) h)
 go_enter Try.func105, Try.ntmps105
 go_wp2
 go_ret
 refine ⟨H _ (ones_int m hm _ _ _ _ _ _ rfl rfl rfl rfl rfl rfl), rfl⟩
theorem count_any (m : Int) (h0 : 0 ≤ m) (h1 : m < 18446744073709551616) (w : World) : Calls Try.prog 75 #[.int .u64 m] w fun e w' => e = .returned (.int .i64 (popI m)) ∧ w' = w := by
 have hu49 := Try.underlying49
 obtain ⟨m, rfl⟩ := Int.eq_ofNat_of_zero_le h0
 have H := m_ (fun w => ones_any m (by omega) w)
 clear h0 h1
 go_enter Try.func75, Try.ntmps75
 go_wp2_with (go_at_call 105; refine (H.out _).mono ?_; rintro e w' ⟨rfl, rfl⟩)
 go_ret
 exact ⟨rfl, rfl⟩
theorem mask_Lowest.calls (a0 a1 r1 r2 : Int) (w : World) (h : mask_Lowest.f a0 a1 = some (r1, r2)) :
  Calls Try.prog 114 #[.int .u64 a0, .int .i64 a1] w fun e w' => e = .returned (.tuple #[.int .u64 r1, .int .i64 r2]) ∧ Below w.heap.size w w' := by
 have hb : 0 ≤ a0 ∧ a0 < 18446744073709551616 := by
  have h2 := h
  unfold mask_Lowest.f at h2
  split at h2
  ·rename_i hh; exact ⟨hh.1, by have := hh.2; omega⟩
  ·cases h2
 exact mask_Lowest.calls0 a0 a1 r1 r2 w h (fun W => (count_any a0 hb.1 hb.2 W).mono fun e w' h => ⟨h.1, by rw [h.2]; exact Drawn0.refl _⟩)
end Go.Proofs.Ytckhjehibjdjdaa.P
namespace Go.Proofs.Ytckhjehibjdjdaa.P
open Go.RowKit Go.Shelf Go.Proofs.YtckhjehibjdjdaaW.PrintWords Go.Proofs.YtckhjehibjdjdaaW.PrintLast Go.Proofs.YtckhjehibjdjdaaW.PrintMore
open Go.Proofs.Ytckhjehibjdjdaa.Bits
attribute [local go_sem] max2_int min2_int max_two min_two max_three min_three max_four min_four
attribute [local go_sem] Oper.semAt_some
def c4_ (g c mn mx : Int) : Bool := decide (0 ≤ g) && decide (g ≤ 16) && decide (0 ≤ c) && decide (c ≤ 1024) && decide (1 ≤ mn) && decide (mn ≤ mx) && decide (1 ≤ mx) && decide (mx ≤ 16) && !(decide (g = 0) && decide (c = 0))
def shape_Check.f (a0_0 a0_1 a0_2 a0_3 : Int) : Option (Int) := some (if c4_ a0_0 a0_1 a0_2 a0_3 = true then 0 else 1)
theorem ret_i64 {a b : Int} (h : a = b) : Ending.returned (.int .i64 a) = .returned (.int .i64 b) := by rw [h]
set_option maxHeartbeats 8000000 in
set_option maxRecDepth 100000 in
theorem shape_Check.calls (a0_0 a0_1 a0_2 a0_3 r : Int) (w : World)  (h : shape_Check.f a0_0 a0_1 a0_2 a0_3 = some r) :
  Calls Try.prog 83 #[.agg #[.int .i64 a0_0, .int .i64 a0_1, .int .i64 a0_2, .int .i64 a0_3]] w fun e w' => e = .returned (.int .i64 r) ∧ Below w.heap.size w w' := by
 have H := m_ h
 clear h
 have hu27 := Try.underlying27
 have hu154 := Try.underlying154
 have hu155 := Try.underlying155
 have i0 : ∀ (W : World) (x0 x1 x2 x3 x4 x5 x6 x7 x8 x9 x10 x11 : Value), (Instr.index 155 (.agg #[x0, x1, x2, x3, x4, x5, x6, x7, x8, x9, x10, x11]) (.int .i64 0)).run Try.prog W = .ok (.agg #[x0, x1, x2]) W := fun _ _ _ _ _ _ _ _ _ _ _ _ _ => by kernel_rfl
 have i1 : ∀ (W : World) (x0 x1 x2 x3 x4 x5 x6 x7 x8 x9 x10 x11 : Value), (Instr.index 155 (.agg #[x0, x1, x2, x3, x4, x5, x6, x7, x8, x9, x10, x11]) (.int .i64 1)).run Try.prog W = .ok (.agg #[x3, x4, x5]) W := fun _ _ _ _ _ _ _ _ _ _ _ _ _ => by kernel_rfl
 have i2 : ∀ (W : World) (x0 x1 x2 x3 x4 x5 x6 x7 x8 x9 x10 x11 : Value), (Instr.index 155 (.agg #[x0, x1, x2, x3, x4, x5, x6, x7, x8, x9, x10, x11]) (.int .i64 2)).run Try.prog W = .ok (.agg #[x6, x7, x8]) W := fun _ _ _ _ _ _ _ _ _ _ _ _ _ => by kernel_rfl
 have i3 : ∀ (W : World) (x0 x1 x2 x3 x4 x5 x6 x7 x8 x9 x10 x11 : Value), (Instr.index 155 (.agg #[x0, x1, x2, x3, x4, x5, x6, x7, x8, x9, x10, x11]) (.int .i64 3)).run Try.prog W = .ok (.agg #[x9, x10, x11]) W := fun _ _ _ _ _ _ _ _ _ _ _ _ _ => by kernel_rfl
 go_enter Try.func83, Try.ntmps83
 go_wp2
 refine wp_loop_rounds 5 ?_
 rw [rounds_succ]
 go_wp2
 all_goals (try (rw [rounds_succ]; go_wp2))
 all_goals (try (rw [rounds_succ]; go_wp2))
 all_goals (try (rw [rounds_succ]; go_wp2))
 all_goals (try (rw [rounds_succ]; go_wp2))
 all_goals go_ret
 all_goals
  have h := H.out
  try simp only [beq_iff_eq, beq_eq_false_iff_ne, ne_eq] at *
  unfold shape_Check.f at h
  first
  | (rw [if_pos (by simp [c4_]; omega)] at h; exact ⟨ret_i64 (Option.some.inj h), by repeat (first | exact Below.refl _ _ | apply b1_ | refine b2_ ?_ (by simp; omega))⟩)
  | (rw [if_neg (by simp [c4_]; omega)] at h; exact ⟨ret_i64 (Option.some.inj h), by repeat (first | exact Below.refl _ _ | apply b1_ | refine b2_ ?_ (by simp; omega))⟩)
def eachI (have_ need : Int) : Int := if need = 0 then 16 else have_ / need
set_option maxHeartbeats 4000000 in
set_option maxRecDepth 100000 in
theorem each_any (a b : Int) (ha0 : 0 ≤ a) (ha : a ≤ 9223372036854775807) (hb : 0 ≤ b) (w : World) : Calls Try.prog 112 #[.int .i64 a, .int .i64 b] w fun e w' => e = .returned (.int .i64 (eachI a b)) ∧ w' = w := by
 have hu3 := Try.underlying3
 by_cases h0 : b = 0
 ·have b1 : (b == 0) = true := by simpa using h0
  have e : eachI a b = 16 := by rw [eachI, if_pos h0]
  rw [e]
  clear h0 e
  go_enter Try.func112, Try.ntmps112
  go_wp2
  all_goals go_ret
  all_goals exact ⟨rfl, rfl⟩
 ·have b1 : (b == 0) = false := by simpa using h0
  have e : eachI a b = a / b := by rw [eachI, if_neg h0]
  rw [e]
  have hne := h0
  clear e
  go_enter Try.func112, Try.ntmps112
  go_wp2
  all_goals go_ret
  all_goals exact ⟨rfl, rfl⟩
set_option maxHeartbeats 4000000 in
set_option maxRecDepth 100000 in
theorem least3 (b : Nat) (x y z : Int) (w : World) (h : w.heap[b]? = some (.cells #[.int .i64 x, .int .i64 y, .int .i64 z] 3 (0, 0))) :
  Calls Try.prog 113 #[.slice (some ⟨b, 0, none⟩) 3 3] w fun e w' => e = .returned (.int .i64 (min (min x y) z)) ∧ w' = w := by
 have hu3 := Try.underlying3
 have hu71 := Try.underlying71
 obtain ⟨c0, c1, c2⟩ := cz3_ ⟨h⟩
 clear h
 go_enter Try.func113, Try.ntmps113
 go_wp2
 refine wp_loop_rounds 3 ?_
 rw [rounds_succ]
 go_wp2
 all_goals (try (rw [rounds_succ]; go_wp2))
 all_goals (try (rw [rounds_succ]; go_wp2))
 all_goals go_ret
 all_goals exact ⟨ret_i64 (by omega), rfl⟩
def fitN (g c m cpus : Int) : Int := min 16 (min (eachI (popI m) g) (eachI cpus c))
def fitV (g c mn mx m cpus : Int) : Int := if c4_ g c mn mx = true ∧ 0 ≤ cpus then fitN g c m cpus else 0
def shape_Fits.f (a0_0 a0_1 a0_2 a0_3 a1_0 a1_1 a1_2 a1_3 : Int) : Option (Int) :=
 if 0 ≤ a1_2 ∧ a1_2 < 18446744073709551616 ∧ a1_3 ≤ 9223372036854775807 then some (fitV a0_0 a0_1 a0_2 a0_3 a1_2 a1_3) else none
theorem popN_le (m : Nat) : popN m ≤ 64 := by
 unfold popN pos
 have := List.length_filter_le (fun i => m.testBit i) (List.range 64)
 simpa using this
theorem popI_bd (m : Int) : 0 ≤ popI m ∧ popI m ≤ 64 := by
 have := popN_le m.toNat
 unfold popI; omega
set_option maxHeartbeats 8000000 in
set_option maxRecDepth 100000 in
theorem fits_any (a0_0 a0_1 a0_2 a0_3 a1_0 a1_1 a1_2 a1_3 : Int) (w : World) (hm0 : 0 ≤ a1_2) (hm1 : a1_2 < 18446744073709551616) (hc1 : a1_3 ≤ 9223372036854775807) :
  Calls Try.prog 87 #[.agg #[.int .i64 a0_0, .int .i64 a0_1, .int .i64 a0_2, .int .i64 a0_3], .agg #[.int .i64 a1_0, .int .i64 a1_1, .int .u64 a1_2, .int .i64 a1_3]] w fun e w' => e = .returned (.int .i64 (fitV a0_0 a0_1 a0_2 a0_3 a1_2 a1_3)) ∧ Below w.heap.size w w' := by
 have hu27 := Try.underlying27
 have hu51 := Try.underlying51
 have HM := m_ (And.intro hm0 hm1)
 have HC := m_ hc1
 clear hm0 hm1 hc1
 have hck := fun w => shape_Check.calls a0_0 a0_1 a0_2 a0_3 _ w rfl
 by_cases hg : c4_ a0_0 a0_1 a0_2 a0_3 = true
 ·rw [if_pos hg] at hck
  have hg' := hg
  simp only [c4_, Bool.and_eq_true, decide_eq_true_eq] at hg'
  have HG := m_ (And.intro (show 0 ≤ a0_0 by omega) (show 0 ≤ a0_1 by omega))
  have HK := m_ hck
  clear hck hg'
  by_cases hcp : a1_3 < 0
  ·have HN : fitV a0_0 a0_1 a0_2 a0_3 a1_2 a1_3 = 0 := by unfold fitV; rw [if_neg (by omega)]
   rw [HN]
   clear HN hg
   go_enter Try.func87, Try.ntmps87
   go_wp2_with (first | ((with_reducible refine a3_ (N := 2) rfl ?_); refine bx 2 #[.int .i64 a0_0, .int .i64 a0_1, .int .i64 a0_2, .int .i64 a0_3] 27 ?_; intro g2 hg2 w2 hx2 hb2; have HB2 := m_ hb2; clear hb2 hg2) | ((with_reducible refine a3_ (N := 3) rfl ?_); refine bx 3 #[.int .i64 a1_0, .int .i64 a1_1, .int .u64 a1_2, .int .i64 a1_3] 51 ?_; intro g3 hg3 w3 hx3 hb3; replace hx2 := a1_ hx2 hb3; have HB3 := m_ (a6_ HB2.out hb3); clear hb3 hg3; have e0 := (a0_ hx2 0).trans rfl; have e1 := (a0_ hx2 1).trans rfl; have e2 := (a0_ hx2 2).trans rfl; have e3 := (a0_ hx2 3).trans rfl) | (go_at_call 83; refine (HK.out _).mono ?_; rintro e w4 ⟨rfl, hb⟩; clear e0 e1 e2 e3; replace hx2 := a1_ hx2 hb; replace hx3 := a1_ hx3 hb; have HB4 := m_ (a6_ HB3.out hb); clear hb; have f0 := (a0_ hx2 0).trans rfl; have f1 := (a0_ hx2 1).trans rfl; have f2 := (a0_ hx3 2).trans rfl; have f3 := (a0_ hx3 3).trans rfl))
   all_goals go_ret
   all_goals exact ⟨rfl, HB4.out⟩
  ·have HN : fitV a0_0 a0_1 a0_2 a0_3 a1_2 a1_3 = fitN a0_0 a0_1 a1_2 a1_3 := by unfold fitV; rw [if_pos ⟨hg, by omega⟩]
   rw [HN]
   clear HN hg
   have H0 : 0 ≤ a1_3 := by omega
   have E1 := m_ (fun w => each_any (popI a1_2) a0_0 (popI_bd a1_2).1 (by have := (popI_bd a1_2).2; omega) HG.out.1 w)
   have E2 := m_ (fun w => each_any a1_3 a0_1 H0 HC.out HG.out.2 w)
   clear H0
   go_enter Try.func87, Try.ntmps87
   go_wp2_with (first | ((with_reducible refine a3_ (N := 2) rfl ?_); refine bx 2 #[.int .i64 a0_0, .int .i64 a0_1, .int .i64 a0_2, .int .i64 a0_3] 27 ?_; intro g2 hg2 w2 hx2 hb2; have HB2 := m_ hb2; clear hb2 hg2) | ((with_reducible refine a3_ (N := 3) rfl ?_); refine bx 3 #[.int .i64 a1_0, .int .i64 a1_1, .int .u64 a1_2, .int .i64 a1_3] 51 ?_; intro g3 hg3 w3 hx3 hb3; replace hx2 := a1_ hx2 hb3; have HB3 := m_ (a6_ HB2.out hb3); clear hb3 hg3; have e0 := (a0_ hx2 0).trans rfl; have e1 := (a0_ hx2 1).trans rfl; have e2 := (a0_ hx2 2).trans rfl; have e3 := (a0_ hx2 3).trans rfl) | (go_at_call 83; refine (HK.out _).mono ?_; rintro e w4 ⟨rfl, hb⟩; clear e0 e1 e2 e3; replace hx2 := a1_ hx2 hb; replace hx3 := a1_ hx3 hb; have HB4 := m_ (a6_ HB3.out hb); clear hb; have f0 := (a0_ hx2 0).trans rfl; have f1 := (a0_ hx2 1).trans rfl; have f2 := (a0_ hx3 2).trans rfl; have f3 := (a0_ hx3 3).trans rfl))
   go_still_tail 13, (by kernel_rfl)
   still_call ((count_any _ HM.out.1 HM.out.2 _))
   repeat still_step
   still_call (E1.out _)
   repeat still_step
   still_call (E2.out _)
   refine wpStill_nil ?_
   change wpList _ _ _ _ _ w4.drew
   replace HB4 := m_ (b4_ HB4.out)
   clear f0 f1 f2 f3 hx2 hx3
   generalize w4.drew = w5 at *
   have hL := m_ (least3 w5.heap.size 16 (eachI (popI a1_2) a0_0) (eachI a1_3 a0_1) _ (heap_alloc_new w5 _))
   go_wp2_with (go_at_call 113; refine hL.out.mono ?_; rintro e w6 ⟨rfl, rfl⟩)
   go_ret
   exact ⟨rfl, b1_ HB4.out _⟩
 ·rw [if_neg hg] at hck
  have HN : fitV a0_0 a0_1 a0_2 a0_3 a1_2 a1_3 = 0 := by unfold fitV; rw [if_neg (fun h => hg h.1)]
  rw [HN]
  have HK := m_ hck
  clear hck hg HN
  go_enter Try.func87, Try.ntmps87
  go_wp2_with (first | ((with_reducible refine a3_ (N := 2) rfl ?_); refine bx 2 #[.int .i64 a0_0, .int .i64 a0_1, .int .i64 a0_2, .int .i64 a0_3] 27 ?_; intro g2 hg2 w2 hx2 hb2; have HB2 := m_ hb2; clear hb2 hg2) | ((with_reducible refine a3_ (N := 3) rfl ?_); refine bx 3 #[.int .i64 a1_0, .int .i64 a1_1, .int .u64 a1_2, .int .i64 a1_3] 51 ?_; intro g3 hg3 w3 hx3 hb3; replace hx2 := a1_ hx2 hb3; have HB3 := m_ (a6_ HB2.out hb3); clear hb3 hg3; have e0 := (a0_ hx2 0).trans rfl; have e1 := (a0_ hx2 1).trans rfl; have e2 := (a0_ hx2 2).trans rfl; have e3 := (a0_ hx2 3).trans rfl) | (go_at_call 83; refine (HK.out _).mono ?_; rintro e w4 ⟨rfl, hb⟩; clear e0 e1 e2 e3; replace hx2 := a1_ hx2 hb; replace hx3 := a1_ hx3 hb; have HB4 := m_ (a6_ HB3.out hb); clear hb; have f0 := (a0_ hx2 0).trans rfl; have f1 := (a0_ hx2 1).trans rfl; have f2 := (a0_ hx3 2).trans rfl; have f3 := (a0_ hx3 3).trans rfl))
  all_goals go_ret
  all_goals exact ⟨rfl, HB4.out⟩
theorem shape_Fits.calls (a0_0 a0_1 a0_2 a0_3 a1_0 a1_1 a1_2 a1_3 r : Int) (w : World) (h : shape_Fits.f a0_0 a0_1 a0_2 a0_3 a1_0 a1_1 a1_2 a1_3 = some r) :
  Calls Try.prog 87 #[.agg #[.int .i64 a0_0, .int .i64 a0_1, .int .i64 a0_2, .int .i64 a0_3], .agg #[.int .i64 a1_0, .int .i64 a1_1, .int .u64 a1_2, .int .i64 a1_3]] w fun e w' => e = .returned (.int .i64 r) ∧ Below w.heap.size w w' := by
 unfold shape_Fits.f at h
 split at h
 ·rename_i hh
  obtain rfl := Option.some.inj h
  exact fits_any a0_0 a0_1 a0_2 a0_3 a1_0 a1_1 a1_2 a1_3 w hh.1 hh.2.1 hh.2.2
 ·cases h
end Go.Proofs.Ytckhjehibjdjdaa.P
namespace Go.Proofs.Ytckhjehibjdjdaa.P
open Go.RowKit Go.Shelf Go.Proofs.YtckhjehibjdjdaaW.PrintWords Go.Proofs.YtckhjehibjdjdaaW.PrintLast Go.Proofs.YtckhjehibjdjdaaW.PrintMore
attribute [local go_sem] Oper.semAt_some
set_option maxHeartbeats 4000000 in
set_option maxRecDepth 100000 in
theorem clone84_any (A0 : Option Addr) (c0 : Nat) (l0 : List S51) (w : World) (hr0 : Kd.C k51 w A0 l0.length l0) (hc0 : l0.length ≤ c0) (hl : l0.length < 4398046511104) :
  Calls Try.prog 84 #[.slice A0 l0.length c0] w fun e w' => ∃ v0_ : Value, e = .returned v0_ ∧ Kd.R k51 51 w' w.heap.size (fun _ => True) v0_ l0 ∧ Below w.heap.size w w' := by
 have hu22 := Try.underlying22
 have q22 : ∀ (w : World) (a : Option Addr) (n c n' c' : Nat), (binOp .eql 22 (.slice a n c) (.slice none n' c')).run Try.prog w = .ok (.bool a.isNone) w := fun w a n c n' c' => Lib.run_eql_slice_nil w _ _ a n c n' c' Try.underlying22
 have HR := m_ hr0
 have HL := m_ hl
 cases A0 with
 | none =>
  have h0 : l0 = [] := by
   rcases Nat.eq_zero_or_pos l0.length with h | h
   ·exact List.eq_nil_of_length_eq_zero h
   ·obtain ⟨ad, hA, _⟩ := hr0.2.2 h
    cases hA
  subst h0
  clear hr0 hl
  go_enter Try.func84, Try.ntmps84
  go_wp2
  all_goals go_ret
  all_goals exact ⟨_, rfl, Kd.R_nil _ _ _ _ _, Below.refl _ _⟩
 | some ad =>
  clear hr0 hl
  go_enter Try.func84, Try.ntmps84
  go_wp2_with (first | ((with_reducible refine a3_ (N := 5) rfl ?_); refine Kd.R_lit k51 _ 51 ?hg (N := 5) ?hd (xs := ([] : List (S51))) (inner := []) (ok := fun _ => True) (okp := fun _ => True) ?hr ?hp (fun _ hk => hk) trivial (Below.refl _ _) (Nat.le_refl _) (by simp) ?_; (case hd => rfl); (case hg => rfl); (case hr => first | (go_simp; done) | (go_simp; rfl)); (case hp => exact (Reps.none _ _)); intro v5 w5 ho5 hb hg_ hnew_; have HO5 := m_ ho5; have HB5 := m_ hb; clear hg_ hnew_ ho5 hb) | (refine Kd.R_append_rows k51 (w0 := w) w.heap.size rfl (.tmp 5) (.tmp 6) 22 51 (.agg #[(.int .i64 0), (.int .i64 0), (.int .u64 0), (.int .i64 0)]) 32 rfl Try.underlying22 info51 rfl (by decide) (by omega) v5 [] l0 _ _ _ (fun _ => True) (fun _ => False) rfl rfl HO5.out (Kd.C_below HR.out HB5.out) (fun _ _ h => h) (fun _ h => h.elim) (fun _ _ => trivial) HB5.out (b3_ HB5.out) (by have := HL.out; simp; omega) ?_; intro v7 w7 ho hb hg hat; have HO7 := m_ ho; have HB7 := m_ hb; clear ho hb hg hat))
  all_goals go_ret
  all_goals exact ⟨_, rfl, HO7.out, HB7.out⟩
def moreE (f : S51) (s : S52) : Int := if Go.bits .and .u64 s.f1 f.f1 ≠ 0 then 4 else if s.f2 > wrap64 (1048576 - f.f2) then 14 else 0
def moreF (f : S51) (s : S52) : S51 := ⟨f.f0, Go.bits .or .u64 f.f1 s.f1, wrap64 (f.f2 + s.f2)⟩
def lessE (f : S51) (s : S52) : Int := if Go.bits .andNot .u64 s.f1 f.f1 ≠ 0 then 5 else if s.f2 > f.f2 then 5 else 0
def lessF (f : S51) (s : S52) : S51 := ⟨f.f0, Go.bits .andNot .u64 f.f1 s.f1, wrap64 (f.f2 - s.f2)⟩
theorem grown_set {w W : World} {g j : Nat} {v : Value} (h : w.grownBy W (some g)) : w.grownBy (W.setCell ⟨g, j, none⟩ v) (some g) :=
 ⟨h.os, h.tape, h.output, by simpa using h.size, fun k hk hne => (Below.heap_setCell W _ v k (fun e => hne (by rw [e]))).trans (h.block k hk hne)⟩
theorem grown_drew {w W : World} {g : Nat} (h : w.grownBy W (some g)) : w.grownBy W.drew (some g) := ⟨h.os, h.tape, h.output, h.size, h.block⟩
theorem d9_ {w W : World} {g : Nat} (h : Below w.heap.size w W) : w.grownBy W (some g) := ⟨h.os, h.tape, h.output, h.size, fun k hk _ => h.block k hk⟩
end Go.Proofs.Ytckhjehibjdjdaa.P
namespace Go.Proofs.Ytckhjehibjdjdaa.P
open Go.RowKit Go.Shelf Go.Proofs.YtckhjehibjdjdaaW.PrintWords Go.Proofs.YtckhjehibjdjdaaW.PrintLast Go.Proofs.YtckhjehibjdjdaaW.PrintMore
open Go.Proofs.Ytckhjehibjdjdaa.Mp
attribute [local go_sem] Oper.semAt_some
def ixS (l : List S51) : Nat → Int → Int → Option Int
 | 0 => fun _ _ => none
 | i + 1 => updS (ixS l i) (a4_ l i).f0.f0 (a4_ l i).f0.f1 i
def turnedL (E : S51 → S52 → Int) (F : S51 → S52 → S51) (ix : Int → Int → Option Int) : List S51 → List S52 → List S51 × Int
 | out, [] => (out, 0)
 | out, s :: ss => if s.f2 < 0 then ([], 1) else match ix s.f0.f0 s.f0.f1 with
  | none => ([], 3)
  | some k => if E (a4_ out k) s = 0 then turnedL E F ix (out.set k.toNat (F (a4_ out k) s)) ss else ([], E (a4_ out k) s)
theorem own51 {W : World} {base : Nat} {ok : Nat → Prop} {v : Value} {out : List S51} (h : Kd.R k51 51 W base ok v out) (hn : 0 < out.length) :
  ∃ g cap cur, v = .slice (some ⟨g, 0, none⟩) out.length cap ∧ ok g ∧ base ≤ g ∧ W.heap[g]? = some (.cells cur 51 (0, 0)) := by
 obtain ⟨hok, inner, ⟨_, hv⟩, _⟩ := h
 rcases hv with ⟨_, h0⟩ | ⟨g, cap, cur, rfl, hg, hh, _⟩
 ·omega
 ·exact ⟨g, cap, cur, rfl, hok g (by simp [Value.ownBlock]), hg, hh⟩
def turned51 (E : S51 → S52 → Int) (F : S51 → S52 → S51) (l0 : List S51) (l1 : List S52) : List S51 × Int := turnedL E F (ixS l0 l0.length) l0 l1
def w64B (x : Int) : Bool := decide (-9223372036854775808 ≤ x) && decide (x ≤ 9223372036854775807)
def spotsOk (l0 : List S51) (l1 : List S52) : Bool := decide (l0.length < 4398046511104) && l0.all (fun f => w64B f.f0.f0 && w64B f.f0.f1) && l1.all (fun f => w64B f.f0.f0 && w64B f.f0.f1)
def pack_Less.f (l0 : List S51) (l1 : List S52) : Option (List S51 × Int) := if spotsOk l0 l1 = true then some (turned51 lessE lessF l0 l1) else none
end Go.Proofs.Ytckhjehibjdjdaa.P
namespace Go.Proofs.Ytckhjehibjdjdaa.P
open Go.RowKit Go.Shelf Go.Proofs.YtckhjehibjdjdaaW.PrintWords Go.Proofs.YtckhjehibjdjdaaW.PrintLast Go.Proofs.YtckhjehibjdjdaaW.PrintMore
attribute [local go_sem] Oper.semAt_some
abbrev HV := S41 × Option Addr × Nat × Nat
def hc (x : HV) : List Value := [.int .i64 x.1.f0, .int .i64 x.1.f1, .int .i64 x.1.f2, .bool x.1.f3, .slice x.2.1 x.2.2.1 x.2.2.2]
def kh : Kd (HV) where
 sz := 5
 E := []
 K := fun _ x cs => cs = hc x
 M := fun _ _ _ x cs => cs = hc x
 K_len := fun h => by rw [h]; rfl
 K_one := fun h u hu => by
  rw [h] at hu
  simp only [hc, List.mem_cons, List.not_mem_nil, or_false] at hu
  rcases hu with rfl | rfl | rfl | rfl | rfl
  ·rfl
  ·rfl
  ·rfl
  ·rfl
  ·rfl
 K_below := fun _ h => h
 K_of_M := fun h => h
 M_mono := fun _ h => h
 M_bound := fun h => h
 M_move := fun _ h => h
 M_lower := fun _ h => h
def cmpI (x y : Int) : Int := if x < y then -1 else if x > y then 1 else 0
set_option maxHeartbeats 4000000 in
set_option maxRecDepth 100000 in
theorem nan_any (x : Int) (w : World) : Calls Try.prog 104 #[.int .i64 x] w fun e w' => e = .returned (.bool false) ∧ w' = w := by
 have hu3 := Try.underlying3
 go_enter Try.func104, Try.ntmps104
 go_wp2
 all_goals go_ret
 all_goals exact ⟨by simp, rfl⟩
set_option maxHeartbeats 4000000 in
set_option maxRecDepth 100000 in
theorem cmp_any (x y : Int) (w : World) : Calls Try.prog 73 #[.int .i64 x, .int .i64 y] w fun e w' => e = .returned (.int .i64 (cmpI x y)) ∧ w' = w := by
 have hu3 := Try.underlying3
 unfold cmpI
 by_cases h1 : x < y
 ·rw [if_pos h1]
  have b1 : decide (x < y) = true := by simpa using h1
  go_enter Try.func73, Try.ntmps73
  go_wp2_with (go_at_call 104; refine (nan_any _ _).mono ?_; rintro e w' ⟨rfl, rfl⟩)
  all_goals go_ret
  all_goals exact ⟨rfl, rfl⟩
 ·rw [if_neg h1]
  have b1 : decide (x < y) = false := by simpa using h1
  by_cases h2 : x > y
  ·rw [if_pos h2]
   have b2 : decide (y < x) = true := by simpa using h2
   go_enter Try.func73, Try.ntmps73
   go_wp2_with (go_at_call 104; refine (nan_any _ _).mono ?_; rintro e w' ⟨rfl, rfl⟩)
   all_goals go_ret
   all_goals exact ⟨rfl, rfl⟩
  ·rw [if_neg h2]
   have b2 : decide (y < x) = false := by simpa using h2
   go_enter Try.func73, Try.ntmps73
   go_wp2_with (go_at_call 104; refine (nan_any _ _).mono ?_; rintro e w' ⟨rfl, rfl⟩)
   all_goals go_ret
   all_goals exact ⟨rfl, rfl⟩
section
variable {α : Type} (key : α → Int)
def insK (x : α) : List α → List α
 | [] => [x]
 | y :: l => if key x < key y then x :: y :: l else y :: insK x l
def isort (l : List α) : List α := l.foldl (fun acc x => insK key x acc) []
theorem insK_at (x : α) : ∀ (L : List α) (j : Nat), (∀ y ∈ L.take j, ¬ key x < key y) → (∀ y ∈ L.drop j, key x < key y) → insK key x L = L.take j ++ x :: L.drop j
 | [], j, _, _ => by simp [insK]
 | y :: L, 0, _, h2 => by
  have := h2 y (by simp)
  simp [insK, this]
 | y :: L, j + 1, h1, h2 => by
  have := h1 y (by simp)
  rw [insK, if_neg this, insK_at x L j (fun z hz => h1 z (by simp [hz])) (fun z hz => h2 z (by simpa using hz))]
  simp
theorem insK_perm (x : α) : ∀ L : List α, (insK key x L).Perm (x :: L)
 | [] => List.Perm.refl _
 | y :: L => by
  rw [insK]
  split
  ·exact List.Perm.refl _
  ·exact ((insK_perm x L).cons y).trans (List.Perm.swap x y L)
theorem insK_sorted (x : α) : ∀ L : List α, L.Pairwise (fun a b => key a ≤ key b) → (insK key x L).Pairwise (fun a b => key a ≤ key b)
 | [], _ => by simp [insK]
 | y :: L, h => by
  rw [insK]
  rw [List.pairwise_cons] at h
  split
  ·rename_i hlt
   rw [List.pairwise_cons, List.pairwise_cons]
   refine ⟨fun z hz => ?_, h⟩
   rcases List.mem_cons.1 hz with rfl | hz
   ·omega
   ·have := h.1 z hz; omega
  ·rename_i hlt
   rw [List.pairwise_cons]
   refine ⟨fun z hz => ?_, insK_sorted x L h.2⟩
   rcases List.mem_cons.1 ((insK_perm key x L).mem_iff.1 hz) with rfl | hz
   ·omega
   ·exact h.1 z hz
theorem isort_snoc (l : List α) (x : α) : isort key (l ++ [x]) = insK key x (isort key l) := by simp [isort, List.foldl_append]
theorem isort_take (l : List α) (i : Nat) (h : i < l.length) : isort key (l.take (i + 1)) = insK key l[i] (isort key (l.take i)) := by
 rw [List.take_succ_eq_append_getElem h, isort_snoc]
theorem isort_fold_perm : ∀ (l acc : List α), (l.foldl (fun acc x => insK key x acc) acc).Perm (acc ++ l)
 | [], acc => by simp
 | x :: l, acc => by
  refine (isort_fold_perm l _).trans ?_
  refine ((insK_perm key x acc).append_right l).trans ?_
  exact (List.perm_middle).symm
theorem isort_perm (l : List α) : (isort key l).Perm l := by have h := isort_fold_perm key l []; rw [List.nil_append] at h; exact h
theorem isort_fold_sorted : ∀ (l acc : List α), acc.Pairwise (fun a b => key a ≤ key b) → (l.foldl (fun acc x => insK key x acc) acc).Pairwise (fun a b => key a ≤ key b)
 | [], acc, h => h
 | x :: l, acc, h => isort_fold_sorted l _ (insK_sorted key x acc h)
theorem isort_sorted (l : List α) : (isort key l).Pairwise (fun a b => key a ≤ key b) := isort_fold_sorted key l [] List.Pairwise.nil
end
def zAt {α : Type} (L : List α) (x : α) (rest : List α) (j : Nat) : List α := L.take j ++ x :: (L.drop j ++ rest)
theorem zAt_step {α : Type} (L : List α) (x : α) (rest : List α) (m : Nat) (h : m < L.length) : ((zAt L x rest (m + 1)).set (m + 1) L[m]).set m x = zAt L x rest m := by
 unfold zAt
 rw [List.take_succ_eq_append_getElem h, List.drop_eq_getElem_cons h]
 have hl : (L.take m).length = m := by rw [List.length_take]; omega
 rw [List.append_assoc, List.set_append_right _ _ (by omega), hl, show m + 1 - m = 1 by omega]
 simp only [List.cons_append, List.nil_append, List.set_cons_succ, List.set_cons_zero]
 rw [List.set_append_right _ _ (by omega), hl, Nat.sub_self]
 rfl
theorem zAt_get {α : Type} (L : List α) (x : α) (rest : List α) (j : Nat) (h : j ≤ L.length) : (zAt L x rest j)[j]? = some x := by
 unfold zAt
 have hl : (L.take j).length = j := by rw [List.length_take]; omega
 rw [List.getElem?_append_right (by omega), hl]; simp
theorem zAt_get1 {α : Type} (L : List α) (x : α) (rest : List α) (m : Nat) (h : m < L.length) : (zAt L x rest (m + 1))[m]? = some L[m] := by
 unfold zAt
 rw [List.getElem?_append_left (by rw [List.length_take]; omega), List.getElem?_take, if_pos (by omega), List.getElem?_eq_getElem h]
def hkey (x : HV) : Int := x.1.f2
theorem c7_ (w : World) (r : Option Nat) : w.grownBy w r := ⟨rfl, rfl, rfl, Nat.le_refl _, fun _ _ _ => rfl⟩
theorem e0_ {w W W' : World} {g : Nat} (h : w.grownBy W (some g)) (hb : Below W.heap.size W W') : w.grownBy W' (some g) :=
 ⟨hb.os.trans h.os, hb.tape.trans h.tape, hb.output.trans h.output, Nat.le_trans h.size hb.size, fun k hk hne => (hb.block k (Nat.lt_of_lt_of_le hk h.size)).trans (h.block k hk hne)⟩
theorem b0_ {w W W' : World} {g : Nat} (h : w.grownBy W (some g)) (hb : W.grownBy W' (some g)) : w.grownBy W' (some g) :=
 ⟨hb.os.trans h.os, hb.tape.trans h.tape, hb.output.trans h.output, Nat.le_trans h.size hb.size, fun k hk hne => (hb.block k (Nat.lt_of_lt_of_le hk h.size) hne).trans (h.block k hk hne)⟩
theorem isort_one {α : Type} (key : α → Int) (xs : List α) (h : xs.length ≤ 1) : isort key xs = xs := by
 match xs, h with
 | [], _ => rfl
 | [x], _ => rfl
 | _ :: _ :: _, h => simp at h
end Go.Proofs.Ytckhjehibjdjdaa.P
namespace Go.Proofs.Ytckhjehibjdjdaa.P
section
variable {α : Type} (key : α → Int)
def mrg : List α → List α → List α
 | [], V => V
 | u :: U, [] => u :: U
 | u :: U, v :: V => if key v < key u then v :: mrg (u :: U) V else u :: mrg U (v :: V)
termination_by U V => U.length + V.length
def Srt (l : List α) : Prop := l.Pairwise (fun a b => key a ≤ key b)
theorem mrg_nil_left (V : List α) : mrg key [] V = V := by rw [mrg]
theorem mrg_nil_right (U : List α) : mrg key U [] = U := by cases U <;> rw [mrg]
theorem mrg_perm (U V : List α) : (mrg key U V).Perm (U ++ V) := by
 fun_induction mrg key U V with
 | case1 V => simp
 | case2 u U => simp
 | case3 u U v V h ih => exact (ih.cons v).trans (by simpa using (List.perm_middle (a := v) (l₁ := u :: U) (l₂ := V)).symm)
 | case4 u U v V h ih => exact ih.cons u
theorem mrg_length (U V : List α) : (mrg key U V).length = U.length + V.length := by rw [(mrg_perm key U V).length_eq, List.length_append]
theorem mrg_sorted (U V : List α) (hU : Srt key U) (hV : Srt key V) : Srt key (mrg key U V) := by
 fun_induction mrg key U V with
 | case1 V => exact hV
 | case2 u U => exact hU
 | case3 u U v V h ih =>
  refine List.pairwise_cons.2 ⟨fun x hx => ?_, ih hU (List.pairwise_cons.1 hV).2⟩
  rcases List.mem_append.1 ((mrg_perm key _ _).mem_iff.1 hx) with hx | hx
  ·rcases List.mem_cons.1 hx with rfl | hx
   ·omega
   ·have := (List.pairwise_cons.1 hU).1 x hx; omega
  ·exact (List.pairwise_cons.1 hV).1 x hx
 | case4 u U v V h ih =>
  refine List.pairwise_cons.2 ⟨fun x hx => ?_, ih (List.pairwise_cons.1 hU).2 hV⟩
  rcases List.mem_append.1 ((mrg_perm key _ _).mem_iff.1 hx) with hx | hx
  ·exact (List.pairwise_cons.1 hU).1 x hx
  ·rcases List.mem_cons.1 hx with rfl | hx
   ·omega
   ·have := (List.pairwise_cons.1 hV).1 x hx; omega
theorem mrg_right_first (U V1 V2 : List α) (h : ∀ x ∈ U, ∀ y ∈ V1, key y < key x) : mrg key U (V1 ++ V2) = V1 ++ mrg key U V2 := by
 induction V1 with
 | nil => rfl
 | cons v V ih =>
  cases U with
  | nil => rw [mrg_nil_left, mrg_nil_left]
  | cons u U =>
   rw [List.cons_append, mrg, if_pos (h u (by simp) v (by simp)), ih (fun x hx y hy => h x hx y (by simp [hy]))]; rfl
theorem mrg_left_first (U1 U2 V : List α) (h : ∀ x ∈ U1, ∀ y ∈ V, key x ≤ key y) : mrg key (U1 ++ U2) V = U1 ++ mrg key U2 V := by
 induction U1 with
 | nil => rfl
 | cons u U ih =>
  cases V with
  | nil => rw [mrg_nil_right, mrg_nil_right]
  | cons v V =>
   have := h u (by simp) v (by simp)
   rw [List.cons_append, mrg, if_neg (by omega), ih (fun x hx y hy => h x (by simp [hx]) y hy)]; rfl
theorem mrg_split (U1 U2 V1 V2 : List α) (h12 : ∀ x ∈ U1, ∀ y ∈ V2, key x ≤ key y) (h21 : ∀ x ∈ U2, ∀ y ∈ V1, key y < key x) :
  mrg key (U1 ++ U2) (V1 ++ V2) = mrg key U1 V1 ++ mrg key U2 V2 := by
 fun_induction mrg key U1 V1 with
 | case1 V => rw [List.nil_append]; exact mrg_right_first key U2 V V2 h21
 | case2 u U => rw [List.nil_append]; exact mrg_left_first key (u :: U) U2 V2 h12
 | case3 u U v V h ih =>
  rw [List.cons_append, List.cons_append, mrg, if_pos h]
  show v :: mrg key (u :: U ++ U2) (V ++ V2) = _
  rw [ih h12 (fun x hx y hy => h21 x hx y (by simp [hy]))]; rfl
 | case4 u U v V h ih =>
  rw [List.cons_append, List.cons_append, mrg, if_neg h]
  show u :: mrg key (U ++ U2) (v :: V ++ V2) = _
  rw [ih (fun x hx y hy => h12 x (by simp [hx]) y hy) h21]; rfl
theorem mrg_one_left (u : α) (V1 V2 : List α) (h1 : ∀ y ∈ V1, key y < key u) (h2 : ∀ y ∈ V2, key u ≤ key y) : mrg key [u] (V1 ++ V2) = V1 ++ u :: V2 := by
 rw [mrg_right_first key [u] V1 V2 (fun x hx y hy => by rw [List.mem_singleton.1 hx]; exact h1 y hy)]
 have := mrg_left_first key [u] [] V2 (fun x hx y hy => by rw [List.mem_singleton.1 hx]; exact h2 y hy)
 rw [List.append_nil, mrg_nil_left] at this
 rw [this]; rfl
theorem mrg_one_right (v : α) (U1 U2 : List α) (h1 : ∀ x ∈ U1, key x ≤ key v) (h2 : ∀ x ∈ U2, key v < key x) : mrg key (U1 ++ U2) [v] = U1 ++ v :: U2 := by
 rw [mrg_left_first key U1 U2 [v] (fun x hx y hy => by rw [List.mem_singleton.1 hy]; exact h1 x hx)]
 have := mrg_right_first key U2 [v] [] (fun x hx y hy => by rw [List.mem_singleton.1 hy]; exact h2 x hx)
 rw [List.append_nil, mrg_nil_right] at this
 rw [this]; rfl
theorem insK_eq (x : α) (L : List α) (h : Srt key L) : insK key x L = mrg key L [x] := by
 induction L with
 | nil => simp [insK, mrg]
 | cons y L ih =>
  have hs := (List.pairwise_cons.1 h)
  rw [insK, mrg]
  split
  ·rename_i hlt
   rw [mrg_nil_right]
  ·rw [ih hs.2]
theorem mrg_ins (U V : List α) (x : α) (hU : Srt key U) (hV : Srt key V) : mrg key U (insK key x V) = insK key x (mrg key U V) := by
 rw [insK_eq key x V hV, insK_eq key x _ (mrg_sorted key U V hU hV)]
 fun_induction mrg key U V with
 | case1 V => rw [mrg_nil_left]
 | case2 u U => rw [mrg_nil_left]
 | case3 u U v V h ih =>
  have i := ih hU (List.pairwise_cons.1 hV).2
  by_cases hx : key x < key v
  ·have e1 : mrg key (v :: V) [x] = x :: v :: V := by rw [mrg, if_pos hx, mrg_nil_right]
   have e2 : mrg key (v :: mrg key (u :: U) V) [x] = x :: v :: mrg key (u :: U) V := by rw [mrg, if_pos hx, mrg_nil_right]
   rw [e1, e2, mrg, if_pos (by omega), mrg, if_pos h]
  ·have e1 : mrg key (v :: V) [x] = v :: mrg key V [x] := by rw [mrg, if_neg hx]
   have e2 : mrg key (v :: mrg key (u :: U) V) [x] = v :: mrg key (mrg key (u :: U) V) [x] := by rw [mrg, if_neg hx]
   rw [e1, e2, mrg, if_pos h, i]
 | case4 u U v V h ih =>
  have i := ih (List.pairwise_cons.1 hU).2 hV
  by_cases hx : key x < key v
  ·have e1 : mrg key (v :: V) [x] = x :: v :: V := by rw [mrg, if_pos hx, mrg_nil_right]
   rw [e1] at i ⊢
   by_cases hu : key x < key u
   ·have e2 : mrg key (u :: mrg key U (v :: V)) [x] = x :: u :: mrg key U (v :: V) := by rw [mrg, if_pos hu, mrg_nil_right]
    rw [e2, mrg, if_pos hu, mrg, if_neg h]
   ·have e2 : mrg key (u :: mrg key U (v :: V)) [x] = u :: mrg key (mrg key U (v :: V)) [x] := by rw [mrg, if_neg hu]
    rw [e2, mrg, if_neg hu, i]
  ·have e1 : mrg key (v :: V) [x] = v :: mrg key V [x] := by rw [mrg, if_neg hx]
   have e2 : mrg key (u :: mrg key U (v :: V)) [x] = u :: mrg key (mrg key U (v :: V)) [x] := by rw [mrg, if_neg (by omega)]
   rw [e2, ← i, e1, mrg, if_neg h]
theorem isort_append_n (l1 : List α) : ∀ (n : Nat) (l2 : List α), l2.length = n → isort key (l1 ++ l2) = mrg key (isort key l1) (isort key l2)
 | 0, l2, h => by
  rw [List.eq_nil_of_length_eq_zero h, List.append_nil]; show _ = mrg key _ []; rw [mrg_nil_right]
 | n + 1, l2, h => by
  have hne : l2 ≠ [] := fun e => by rw [e] at h; cases h
  have e := List.dropLast_concat_getLast hne
  have hl : l2.dropLast.length = n := by rw [List.length_dropLast]; omega
  have ih := isort_append_n l1 n l2.dropLast hl
  rw [← e, ← List.append_assoc, isort_snoc, isort_snoc, ih, mrg_ins key _ _ _ (isort_sorted key l1) (isort_sorted key _)]
theorem isort_append (l1 l2 : List α) : isort key (l1 ++ l2) = mrg key (isort key l1) (isort key l2) := isort_append_n key l1 _ l2 rfl
end
section
variable {α : Type}
def sw1 (xs : List α) (p q : Nat) : List α := match xs[p]?, xs[q]? with
 | some x, some y => (xs.set p y).set q x
 | _, _ => xs
def swR (xs : List α) (a b : Nat) : Nat → List α
 | 0 => xs
 | i + 1 => sw1 (swR xs a b i) (a + i) (b + i)
theorem sw1_len (xs : List α) (p q : Nat) : (sw1 xs p q).length = xs.length := by
 unfold sw1; split <;> simp
theorem swR_len (xs : List α) (a b : Nat) : ∀ i, (swR xs a b i).length = xs.length
 | 0 => rfl
 | i + 1 => by rw [swR, sw1_len, swR_len xs a b i]
theorem sw1_eq {xs : List α} {p q : Nat} {x y : α} (hx : xs[p]? = some x) (hy : xs[q]? = some y) : sw1 xs p q = (xs.set p y).set q x := by
 unfold sw1; rw [hx, hy]
theorem swR_get (xs : List α) (a b c : Nat) (hab : a + c ≤ b) (hb : b + c ≤ xs.length) : ∀ i, i ≤ c → ∀ j, (swR xs a b i)[j]? = if a ≤ j ∧ j < a + i then xs[j - a + b]? else if b ≤ j ∧ j < b + i then xs[j - b + a]? else xs[j]? := by
 intro i
 induction i with
 | zero => intro _ j; rw [swR, if_neg (by omega), if_neg (by omega)]
 | succ i ih =>
  intro hi j
  have I := ih (by omega)
  have h1 : (swR xs a b i)[a + i]? = xs[a + i]? := by rw [I, if_neg (by omega), if_neg (by omega)]
  have h2 : (swR xs a b i)[b + i]? = xs[b + i]? := by rw [I, if_neg (by omega), if_neg (by omega)]
  have e1 : xs[a + i]? = some xs[a + i] := List.getElem?_eq_getElem (by omega)
  have e2 : xs[b + i]? = some xs[b + i] := List.getElem?_eq_getElem (by omega)
  have hl := swR_len xs a b i
  rw [swR, sw1_eq (h1.trans e1) (h2.trans e2), List.getElem?_set, List.length_set, hl]
  by_cases hj : b + i = j
  ·rw [if_pos hj, if_pos (by omega), if_neg (by omega), if_pos (by omega), ← e1]
   congr 1; omega
  ·rw [if_neg hj, List.getElem?_set, hl]
   by_cases hj2 : a + i = j
   ·rw [if_pos hj2, if_pos (by omega), if_pos (by omega), ← e2]
    congr 1; omega
   ·rw [if_neg hj2, I]
    by_cases c1 : a ≤ j ∧ j < a + i
    ·rw [if_pos c1, if_pos (by omega)]
    ·rw [if_neg c1, if_neg (show ¬ (a ≤ j ∧ j < a + (i + 1)) by omega)]
     by_cases c2 : b ≤ j ∧ j < b + i
     ·rw [if_pos c2, if_pos (by omega)]
     ·rw [if_neg c2, if_neg (show ¬ (b ≤ j ∧ j < b + (i + 1)) by omega)]
theorem swR_lists (X A Y B Z : List α) (h : A.length = B.length) : swR (X ++ (A ++ (Y ++ (B ++ Z)))) X.length (X.length + A.length + Y.length) A.length = X ++ (B ++ (Y ++ (A ++ Z))) := by
 apply List.ext_getElem?
 intro j
 rw [swR_get _ _ _ A.length (by omega) (by simp only [List.length_append]; omega) _ (Nat.le_refl _)]
 simp only [List.getElem?_append, List.length_append]
 repeat' split
 all_goals first | rfl | omega | (congr 1; omega)
end
end Go.Proofs.Ytckhjehibjdjdaa.P
namespace Go.Proofs.Ytckhjehibjdjdaa.P
open Go.RowKit Go.Shelf Go.Proofs.YtckhjehibjdjdaaW.PrintWords Go.Proofs.YtckhjehibjdjdaaW.PrintLast Go.Proofs.YtckhjehibjdjdaaW.PrintMore
attribute [local go_sem] Oper.semAt_some
structure SE where
 w0 : World
 base : Nat
 ok : Nat → Prop
 g : Nat
 n : Nat
 cap : Nat
 key : S51 → Int
 okf : S51 → Prop
 lb : Array Value
 sf : Nat
 sb : Array Value
structure SE.RW (E : SE) (W : World) (xs : List S51) : Prop where
 grown : E.w0.grownBy W (some E.g)
 row : Kd.R k51 51 W E.base E.ok (.slice (some ⟨E.g, 0, none⟩) E.n E.cap) xs
 mem : ∀ f ∈ xs, E.okf f
theorem SE.RW.len {E : SE} {W : World} {xs : List S51} (h : E.RW W xs) : xs.length = E.n := (Kd.R_reads' h.row).1.symm
structure SE.Ok (E : SE) : Prop where
 less : ∀ W xs (i j : Nat) x y, E.RW W xs → xs[i]? = some x → xs[j]? = some y → Calls Try.prog 86 (#[.int .i64 i, .int .i64 j] ++ E.lb) W fun e w' => e = .returned (.bool (decide (E.key x < E.key y))) ∧ Below W.heap.size W w'
 swap : ∀ W xs (i j : Nat) x y, E.RW W xs → xs[i]? = some x → xs[j]? = some y → ∃ W', (callFunc E.sf (#[.int .i64 i, .int .i64 j] ++ E.sb)).run Try.prog W = .ok (.value (.tuple #[])) W' ∧ E.RW W' ((xs.set i y).set j x) ∧ W.grownBy W' (some E.g)
 gb : E.g < E.w0.heap.size
 nb : E.n ≤ 1000000
theorem SE.RW.below {E : SE} {W W' : World} {xs : List S51} (h : E.RW W xs) (hb : Below W.heap.size W W') : E.RW W' xs :=
 ⟨b0_ h.grown ⟨hb.os, hb.tape, hb.output, hb.size, fun k hk _ => hb.block k hk⟩, Kd.R_below h.row hb, h.mem⟩
theorem SE.RW.drew {E : SE} {W : World} {xs : List S51} (h : E.RW W xs) : E.RW W.drew xs := ⟨grown_drew h.grown, Kd.R_drew h.row, h.mem⟩
theorem SE.RW.drewN {E : SE} {W : World} {xs : List S51} (h : E.RW W xs) (n : Nat) : E.RW (W.drewN n) xs := ⟨⟨h.grown.os, h.grown.tape, h.grown.output, h.grown.size, h.grown.block⟩, Kd.R_drewN h.row n, h.mem⟩
theorem grown_box {W W' : World} {g k : Nat} {o : Obj} (h : W.heap[k]? = some o) (hg : W.grownBy W' (some g)) (hne : k ≠ g) : W'.heap[k]? = some o := d4_ h hg (fun e => by injection e with e; exact hne e)
set_option maxHeartbeats 8000000 in
set_option maxRecDepth 100000 in
theorem swapRangeF (E : SE) (O : E.Ok) (a b c : Nat) (xs : List S51) (w : World) (hr : E.RW w xs) (hab : a + c ≤ b) (hb : b + c ≤ E.n) :
  Calls Try.prog 140 #[.agg #[.func (.func 86) #[] E.lb, .func (.func E.sf) #[] E.sb], .int .i64 a, .int .i64 b, .int .i64 c] w fun e w' => e = .returned (.tuple #[]) ∧ E.RW w' (swR xs a b c) ∧ w.grownBy w' (some E.g) := by
 have hu165 := Try.underlying165
 have HR := m_ hr
 have HO := m_ O
 have hxl := hr.len
 have hgw : E.g < w.heap.size := Nat.lt_of_lt_of_le O.gb hr.grown.size
 have hn := O.nb
 clear hr O
 go_enter Try.func140, Try.ntmps140
 go_wp2_with (first | ((with_reducible refine a3_ (N := 4) rfl ?_); refine box_event ?hg (N := 4) ?hd (cs := #[.func (.func 86) #[] E.lb, .func (.func E.sf) #[] E.sb]) (t := 165) ?hr ?_; (case hd => rfl); (case hg => rfl); (case hr => first | (go_simp; done) | (go_simp; rfl)); intro gb hgb wb hxb hbb; have HXB := m_ hxb; have HRB := m_ (HR.out.below hbb); have HGB := m_ (d9_ (g := E.g) hbb); have hne : gb ≠ E.g := (by omega); clear hgb hxb hbb))
 go_loopw [8] (fun v8 wr => ∃ i : Nat, i ≤ c ∧ v8 = .int .i64 (i : Int) ∧ A_ (E.RW wr (swR xs a b i)) ∧ A_ (w.grownBy wr (some E.g)) ∧ A_ (wr.heap[gb]? = some (.cells #[.func (.func 86) #[] E.lb, .func (.func E.sf) #[] E.sb] 165 (0, 0)))) (fun v8 _ => c - (intOf v8).toNat)
 case atStart => exact ⟨0, Nat.zero_le _, rfl, HRB, HGB, HXB⟩
 case round =>
  clear HXB HRB HGB HR
  obtain ⟨i, hi, rfl, HA, HG, HX⟩ := hrel
  by_cases hlt : i < c
  ·have hlt' : (i : Int) < c := by omega
   have hl := swR_len xs a b i
   have hgx := List.getElem?_eq_getElem (show a + i < (swR xs a b i).length by omega)
   have hgy := List.getElem?_eq_getElem (show b + i < (swR xs a b i).length by omega)
   have HST := m_ (show swR xs a b (i + 1) = _ from sw1_eq hgx hgy)
   obtain ⟨W', hrun, hrw, hgr⟩ := HO.out.swap wr _ (a + i) (b + i) _ _ HA.out hgx hgy
   rw [← HST.out] at hrw
   have l1 : wr.cell? ⟨gb, 1, none⟩ = some (.func (.func E.sf) #[] E.sb) := (a0_ HX.out 1).trans rfl
   have hX' := grown_box HX.out hgr hne
   have hG' := b0_ HG.out hgr
   have e1 : IntKind.i64.wrap ((a : Int) + (i : Int)) = (a : Int) + (i : Int) := by rw [IntKind.wrap_i64]; omega
   have e2 : IntKind.i64.wrap ((b : Int) + (i : Int)) = (b : Int) + (i : Int) := by rw [IntKind.wrap_i64]; omega
   push_cast at hrun
   clear hgx hgy HST
   go_wp2
   try rw [hrun, Oper.upon_value]
   try clear hrun
   have HR5 := m_ hrw
   have HG5 := m_ hG'
   have HX5 := m_ hX'
   clear hrw hG' hX' hgr
   try go_wp2
   go_roundw
   case rel => exact ⟨i + 1, by omega, by go_num, HR5, HG5, HX5⟩
   case measure => simp [intOf]; omega
  ·obtain rfl : i = c := by omega
   go_wp2
   go_end0
   exact ⟨rfl, HA.out, HG.out⟩
theorem swap_listsF (E : SE) (O : E.Ok) (X A Y B Z : List S51) (w : World) (a b c : Nat) (hr : E.RW w (X ++ (A ++ (Y ++ (B ++ Z))))) (ha : a = X.length) (hb : b = X.length + A.length + Y.length) (hc : c = A.length) (hB : A.length = B.length) :
  Calls Try.prog 140 #[.agg #[.func (.func 86) #[] E.lb, .func (.func E.sf) #[] E.sb], .int .i64 a, .int .i64 b, .int .i64 c] w fun e w' => e = .returned (.tuple #[]) ∧ E.RW w' (X ++ (B ++ (Y ++ (A ++ Z)))) ∧ w.grownBy w' (some E.g) := by
 have hl := hr.len
 simp only [List.length_append] at hl
 subst ha hb hc
 rw [← swR_lists X A Y B Z hB]
 exact swapRangeF E O _ _ _ _ w hr (by omega) (by omega)
set_option maxHeartbeats 8000000 in
set_option maxRecDepth 100000 in
theorem rotateF (E : SE) (O : E.Ok) (a m b : Nat) (X U V Z : List S51) (w : World) (hr : E.RW w (X ++ (U ++ (V ++ Z)))) (ha : a = X.length) (hm : m = X.length + U.length) (hb : b = X.length + U.length + V.length) (hU : 0 < U.length) (hV : 0 < V.length) :
  Calls Try.prog 137 #[.agg #[.func (.func 86) #[] E.lb, .func (.func E.sf) #[] E.sb], .int .i64 a, .int .i64 m, .int .i64 b] w fun e w' => e = .returned (.tuple #[]) ∧ E.RW w' (X ++ (V ++ (U ++ Z))) ∧ w.grownBy w' (some E.g) := by
 have hu165 := Try.underlying165
 have HO := m_ O
 have hn := O.nb
 have hgw : E.g < w.heap.size := Nat.lt_of_lt_of_le O.gb hr.grown.size
 have HR := m_ hr
 have hxl := hr.len.symm
 obtain ⟨n, hnE⟩ : ∃ n, E.n = n := ⟨_, rfl⟩
 rw [hnE] at hxl hn
 have HNE := m_ hnE
 clear hnE O
 simp only [List.length_append] at hxl
 obtain ⟨ui, hui⟩ : ∃ ui, U.length = ui := ⟨_, rfl⟩
 obtain ⟨vj, hvj⟩ : ∃ vj, V.length = vj := ⟨_, rfl⟩
 have HUI := m_ hui
 have HVJ := m_ hvj
 have bm : m ≤ n ∧ b ≤ n ∧ ui ≤ m ∧ a ≤ m ∧ m ≤ b ∧ 0 < ui ∧ 0 < vj := by omega
 have hs1 : IntKind.i64.wrap ((m : Int) - (a : Int)) = (ui : Int) := by rw [IntKind.wrap_i64]; omega
 have hs2 : IntKind.i64.wrap ((b : Int) - (m : Int)) = (vj : Int) := by rw [IntKind.wrap_i64]; omega
 have hs1' : (m : Int) - (a : Int) = (ui : Int) := by omega
 have hs2' : (b : Int) - (m : Int) = (vj : Int) := by omega
 have HM := m_ hm
 have HXL := m_ hxl
 obtain ⟨b1, b2, b3, b4, b5, b6, b7⟩ := bm
 clear hr hui hvj hxl hm ha hb hU hV
 go_enter Try.func137, Try.ntmps137
 go_wp2_with (first | ((with_reducible refine a3_ (N := 4) rfl ?_); refine box_event ?hg (N := 4) ?hd (cs := #[.func (.func 86) #[] E.lb, .func (.func E.sf) #[] E.sb]) (t := 165) ?hr ?_; (case hd => rfl); (case hg => rfl); (case hr => first | (go_simp; done) | (go_simp; rfl)); intro gb hgb wb hxb hbb; have HXB := m_ hxb; have HRB := m_ (HR.out.below hbb); have HGB := m_ (d9_ (g := E.g) hbb); have hne : gb ≠ E.g := (by omega); clear hgb hxb hbb HR))
 go_loopw [8, 9] (fun v8 v9 wr => ∃ (i j : Nat) (X1 U1 V1 Z1 : List S51), v8 = .int .i64 (i : Int) ∧ v9 = .int .i64 (j : Int) ∧ 0 < i ∧ 0 < j ∧ A_ (U1.length = i) ∧ A_ (V1.length = j) ∧ A_ (X1.length + i = m) ∧ A_ (X1 ++ (V1 ++ (U1 ++ Z1)) = X ++ (V ++ (U ++ Z))) ∧
  A_ (E.RW wr (X1 ++ (U1 ++ (V1 ++ Z1)))) ∧ A_ (w.grownBy wr (some E.g)) ∧ A_ (wr.heap[gb]? = some (.cells #[.func (.func 86) #[] E.lb, .func (.func E.sf) #[] E.sb] 165 (0, 0)))) (fun v8 v9 _ => (intOf v8).toNat + (intOf v9).toNat)
 case atStart => exact ⟨ui, vj, X, U, V, Z, by first | rfl | (simp [hs1']; done), by first | rfl | (simp [hs2']; done), b6, b7, HUI, HVJ, ⟨by have := HM.out; have := HUI.out; omega⟩, ⟨rfl⟩, HRB, HGB, HXB⟩
 case round =>
  clear HRB HGB HXB HUI HVJ HM
  obtain ⟨i, j, X1, U1, V1, Z1, rfl, rfl, hi, hj, HU, HV, HX, HT, HA, HG, HZ⟩ := hrel
  have hlen : X1.length + (i + (j + Z1.length)) = n := by
   have := HA.out.len
   rw [HNE.out] at this
   simp only [List.length_append] at this
   have := HU.out; have := HV.out; omega
  have hcz0 : wr.cell? ⟨gb, 0, none⟩ = some (.func (.func 86) #[] E.lb) := (a0_ HZ.out 0).trans rfl
  have hcz1 : wr.cell? ⟨gb, 1, none⟩ = some (.func (.func E.sf) #[] E.sb) := (a0_ HZ.out 1).trans rfl
  have hfz0 := a2_ HZ.out 0
  have hfz1 := a2_ HZ.out 1
  have hxm := HX.out
  by_cases hij : i = j
  ·subst hij
   have e0 : ((i : Int) != (i : Int)) = false := by simp
   have e1 : IntKind.i64.wrap ((m : Int) - (i : Int)) = ((m - i : Nat) : Int) := by rw [IntKind.wrap_i64]; omega
   have e2 : (m : Int) - (i : Int) = ((m - i : Nat) : Int) := by omega
   have hcall := swap_listsF E HO.out X1 U1 [] V1 Z1 wr (m - i) m i HA.out (by omega) (by have := HU.out; simp; omega) HU.out.symm (by have := HU.out; have := HV.out; omega)
   rw [List.nil_append, HT.out] at hcall
   have HC := m_ hcall
   clear hcall hxm
   go_wp2_with (go_at_call 140; refine HC.out.mono ?_; rintro e w5 ⟨rfl, hr5, hg5⟩; have HR5 := m_ hr5; have HG5 := m_ (b0_ HG.out hg5); have HZ5 := m_ (grown_box HZ.out hg5 hne); clear hr5 hg5)
   go_end0
   exact ⟨rfl, HR5.out, HG5.out⟩
  ·have e0 : ((i : Int) != (j : Int)) = true := by simp; omega
   by_cases hgt : j < i
   ·have e1 : decide ((j : Int) < (i : Int)) = true := by simp; omega
    have e2 : (m : Int) - (i : Int) = ((m - i : Nat) : Int) := by omega
    have hsp : U1 = U1.take j ++ U1.drop j := (List.take_append_drop j U1).symm
    have hl1 : (U1.take j).length = j := by rw [List.length_take]; have := HU.out; omega
    have hl2 : (U1.drop j).length = i - j := by rw [List.length_drop]; have := HU.out; omega
    generalize U1.take j = P at *
    generalize U1.drop j = Q at *
    subst hsp
    have hA := HA.out
    rw [List.append_assoc] at hA
    have hcall := swap_listsF E HO.out X1 P Q V1 Z1 wr (m - i) m j hA (by omega) (by omega) hl1.symm (by have := HV.out; omega)
    have HC := m_ hcall
    have HT2 := m_ (show (X1 ++ V1) ++ (P ++ (Q ++ Z1)) = X ++ (V ++ (U ++ Z)) from by rw [← HT.out]; simp)
    clear hcall hA HT HU HA
    have HL1 := m_ hl1
    have HL2 := m_ hl2
    have HX2 := m_ (show (X1 ++ V1).length + (i - j) = m from by rw [List.length_append]; have := HV.out; omega)
    clear hl1 hl2 hxm HX
    go_wp2_with (go_at_call 140; refine HC.out.mono ?_; rintro e w5 ⟨rfl, hr5, hg5⟩; have HR5 := m_ (show E.RW w5 ((X1 ++ V1) ++ (Q ++ (P ++ Z1))) from by rw [List.append_assoc]; exact hr5); have HG5 := m_ (b0_ HG.out hg5); have HZ5 := m_ (grown_box HZ.out hg5 hne); clear hr5 hg5)
    go_roundw
    case rel => exact ⟨i - j, j, X1 ++ V1, Q, P, Z1, by go_num, rfl, by omega, hj, HL2, HL1, HX2, HT2, HR5, HG5, HZ5⟩
    case measure => simp [intOf]; omega
   ·have e1 : decide ((j : Int) < (i : Int)) = false := by simp; omega
    have e2 : (m : Int) - (i : Int) = ((m - i : Nat) : Int) := by omega
    have e3 : (m : Int) + (j : Int) - (i : Int) = ((m + j - i : Nat) : Int) := by omega
    have hsp : V1 = V1.take (j - i) ++ V1.drop (j - i) := (List.take_append_drop _ V1).symm
    have hl1 : (V1.take (j - i)).length = j - i := by rw [List.length_take]; have := HV.out; omega
    have hl2 : (V1.drop (j - i)).length = i := by rw [List.length_drop]; have := HV.out; omega
    generalize V1.take (j - i) = P at *
    generalize V1.drop (j - i) = Q at *
    subst hsp
    have hA := HA.out
    rw [List.append_assoc] at hA
    have hcall := swap_listsF E HO.out X1 U1 P Q Z1 wr (m - i) (m + j - i) i hA (by omega) (by have := HU.out; omega) HU.out.symm (by have := HU.out; omega)
    have HC := m_ hcall
    have HT2 := m_ (show X1 ++ (P ++ (Q ++ (U1 ++ Z1))) = X ++ (V ++ (U ++ Z)) from by rw [← HT.out]; simp)
    clear hcall hA HT HV HA
    have HL1 := m_ hl1
    have HL2 := m_ hl2
    clear hl1 hl2 hxm
    go_wp2_with (go_at_call 140; refine HC.out.mono ?_; rintro e w5 ⟨rfl, hr5, hg5⟩; have HR5 := m_ hr5; have HG5 := m_ (b0_ HG.out hg5); have HZ5 := m_ (grown_box HZ.out hg5 hne); clear hr5 hg5)
    go_roundw
    case rel => exact ⟨i, j - i, X1, Q, P, U1 ++ Z1, rfl, by go_num, hi, by omega, HL2, HL1, HX, HT2, HR5, HG5, HZ5⟩
    case measure => simp [intOf]; omega

theorem int_i64 {a b : Int} (h : a = b) : Value.int .i64 a = Value.int .i64 b := by rw [h]
theorem snoc_of {α : Type} (l : List α) (h : 0 < l.length) : ∃ l' y, l = l' ++ [y] := by
 have hne : l ≠ [] := fun e => by rw [e] at h; simp at h
 exact ⟨l.dropLast, l.getLast hne, (List.dropLast_concat_getLast hne).symm⟩
theorem krow_at {X V Z : List S51} (u : S51) {h m : Nat} (hm : m = X.length + 1) (h1 : m ≤ h) (h2 : h - m < V.length) : (X ++ (u :: (V ++ Z)))[h]? = some V[h - m] := by
 rw [List.getElem?_append_right (by omega), show h - X.length = (h - m) + 1 by omega, List.getElem?_cons_succ, List.getElem?_append_left h2, List.getElem?_eq_getElem h2]
theorem ksrt_take {key : S51 → Int} {V : List S51} (hV : Srt key V) {k : Nat} (hk : k < V.length) {u : S51} (h : key V[k] < key u) : ∀ y ∈ V.take (k + 1), key y < key u := fun y hy => by
 obtain ⟨j, hj, rfl⟩ := List.mem_iff_getElem.1 hy
 rw [List.length_take] at hj
 rw [List.getElem_take]
 by_cases e : j = k
 ·subst e; exact h
 ·have := List.pairwise_iff_getElem.1 hV j k (by omega) hk (by omega)
  omega
theorem ksrt_drop {key : S51 → Int} {V : List S51} (hV : Srt key V) {k : Nat} (hk : k < V.length) {u : S51} (h : ¬ key V[k] < key u) : ∀ y ∈ V.drop k, key u ≤ key y := fun y hy => by
 obtain ⟨j, hj, rfl⟩ := List.mem_iff_getElem.1 hy
 rw [List.length_drop] at hj
 rw [List.getElem_drop]
 by_cases e : j = 0
 ·subst e; simp only [Nat.add_zero]; omega
 ·have := List.pairwise_iff_getElem.1 hV k (k + j) hk (by omega) (by omega)
  omega
theorem kbub (X A : List S51) (u v : S51) (B : List S51) : ((X ++ (A ++ (u :: v :: B))).set (X.length + A.length) v).set (X.length + A.length + 1) u = X ++ ((A ++ [v]) ++ (u :: B)) := by
 rw [List.set_append_right _ _ (by omega), List.set_append_right _ _ (by omega), List.set_append_right _ _ (by omega), List.set_append_right _ _ (by omega), show X.length + A.length - X.length - A.length = 0 by omega, show X.length + A.length + 1 - X.length - A.length = 1 by omega]
 simp
theorem krow_at2 {X U R : List S51} {h a : Nat} (ha : a = X.length) (h1 : a ≤ h) (h2 : h - a < U.length) : (X ++ (U ++ R))[h]? = some U[h - a] := by
 rw [List.getElem?_append_right (by omega), show h - X.length = h - a by omega, List.getElem?_append_left h2, List.getElem?_eq_getElem h2]
theorem ksrt_take2 {key : S51 → Int} {U : List S51} (hU : Srt key U) {k : Nat} (hk : k < U.length) {v : S51} (h : ¬ key v < key U[k]) : ∀ y ∈ U.take (k + 1), key y ≤ key v := fun y hy => by
 obtain ⟨j, hj, rfl⟩ := List.mem_iff_getElem.1 hy
 rw [List.length_take] at hj
 rw [List.getElem_take]
 by_cases e : j = k
 ·subst e; omega
 ·have := List.pairwise_iff_getElem.1 hU j k (by omega) hk (by omega)
  omega
theorem ksrt_drop2 {key : S51 → Int} {U : List S51} (hU : Srt key U) {k : Nat} (hk : k < U.length) {v : S51} (h : key v < key U[k]) : ∀ y ∈ U.drop k, key v < key y := fun y hy => by
 obtain ⟨j, hj, rfl⟩ := List.mem_iff_getElem.1 hy
 rw [List.length_drop] at hj
 rw [List.getElem_drop]
 by_cases e : j = 0
 ·subst e; simp only [Nat.add_zero]; exact h
 ·have := List.pairwise_iff_getElem.1 hU k (k + j) hk (by omega) (by omega)
  omega
theorem kbub2 (X B : List S51) (y v : S51) (R : List S51) : ((X ++ ((B ++ [y]) ++ (v :: R))).set (X.length + B.length + 1) y).set (X.length + B.length) v = X ++ (B ++ (v :: (y :: R))) := by
 rw [List.append_assoc, List.set_append_right _ _ (by omega), List.set_append_right _ _ (by omega), List.set_append_right _ _ (by omega), List.set_append_right _ _ (by omega), show X.length + B.length - X.length - B.length = 0 by omega, show X.length + B.length + 1 - X.length - B.length = 1 by omega]
 simp
theorem ksrt_le {key : S51 → Int} {V : List S51} (hV : Srt key V) {i j : Nat} {x y : S51} (hij : i ≤ j) (hx : V[i]? = some x) (hy : V[j]? = some y) : key x ≤ key y := by
 obtain ⟨hi, rfl⟩ := List.getElem?_eq_some_iff.1 hx
 obtain ⟨hj, rfl⟩ := List.getElem?_eq_some_iff.1 hy
 by_cases e : i = j
 ·subst e; exact Int.le_refl _
 ·exact List.pairwise_iff_getElem.1 hV i j hi hj (by omega)
theorem ksplit12 {key : S51 → Int} {U V : List S51} (hU : Srt key U) (hV : Srt key V) {p q : Nat} (hp : p ≤ U.length) (h : p = 0 ∨ V.length ≤ q ∨ ∀ x y, U[p - 1]? = some x → V[q]? = some y → key x ≤ key y) : ∀ x ∈ U.take p, ∀ y ∈ V.drop q, key x ≤ key y := fun x hx y hy => by
 obtain ⟨i, hi, rfl⟩ := List.mem_iff_getElem.1 hx
 obtain ⟨j, hj, rfl⟩ := List.mem_iff_getElem.1 hy
 rw [List.length_take] at hi
 rw [List.length_drop] at hj
 rw [List.getElem_take, List.getElem_drop]
 rcases h with h | h | h
 ·omega
 ·omega
 ·have h1 := ksrt_le hU (i := i) (j := p - 1) (by omega) (List.getElem?_eq_getElem (by omega)) (List.getElem?_eq_getElem (by omega))
  have h2 := ksrt_le hV (i := q) (j := q + j) (by omega) (List.getElem?_eq_getElem (by omega)) (List.getElem?_eq_getElem (by omega))
  have h3 := h _ _ (List.getElem?_eq_getElem (show p - 1 < U.length by omega)) (List.getElem?_eq_getElem (show q < V.length by omega))
  omega
theorem ksplit21 {key : S51 → Int} {U V : List S51} (hU : Srt key U) (hV : Srt key V) {p q : Nat} (hq : q ≤ V.length) (h : U.length ≤ p ∨ q = 0 ∨ ∀ x y, U[p]? = some x → V[q - 1]? = some y → key y < key x) : ∀ x ∈ U.drop p, ∀ y ∈ V.take q, key y < key x := fun x hx y hy => by
 obtain ⟨i, hi, rfl⟩ := List.mem_iff_getElem.1 hx
 obtain ⟨j, hj, rfl⟩ := List.mem_iff_getElem.1 hy
 rw [List.length_drop] at hi
 rw [List.length_take] at hj
 rw [List.getElem_take, List.getElem_drop]
 rcases h with h | h | h
 ·omega
 ·omega
 ·have h1 := ksrt_le hU (i := p) (j := p + i) (by omega) (List.getElem?_eq_getElem (by omega)) (List.getElem?_eq_getElem (by omega))
  have h2 := ksrt_le hV (i := j) (j := q - 1) (by omega) (List.getElem?_eq_getElem (by omega)) (List.getElem?_eq_getElem (by omega))
  have h3 := h _ _ (List.getElem?_eq_getElem (show p < U.length by omega)) (List.getElem?_eq_getElem (show q - 1 < V.length by omega))
  omega
set_option maxHeartbeats 8000000 in
set_option maxRecDepth 100000 in
theorem symMergeF_left (E : SE) (O : E.Ok) (a m b : Nat) (X V Z : List S51) (u : S51) (w : World) (hr : E.RW w (X ++ (u :: (V ++ Z)))) (ha : a = X.length) (hm : m = X.length + 1) (hb : b = X.length + 1 + V.length) (hV : Srt E.key V) :
  Calls Try.prog 132 #[.agg #[.func (.func 86) #[] E.lb, .func (.func E.sf) #[] E.sb], .int .i64 a, .int .i64 m, .int .i64 b] w fun e w' => e = .returned (.tuple #[]) ∧ E.RW w' (X ++ (mrg E.key [u] V ++ Z)) ∧ w.grownBy w' (some E.g) := by
 have hu165 := Try.underlying165
 have HO := m_ O
 have hn := O.nb
 have hgw : E.g < w.heap.size := Nat.lt_of_lt_of_le O.gb hr.grown.size
 have HR := m_ hr
 have HVS := m_ hV
 have hxl := hr.len.symm
 obtain ⟨n, hnE⟩ : ∃ n, E.n = n := ⟨_, rfl⟩
 rw [hnE] at hxl hn
 have HNE := m_ hnE
 clear hnE O
 simp only [List.length_append, List.length_cons] at hxl
 have bm : a < n ∧ m ≤ n ∧ b ≤ n ∧ m ≤ b := by omega
 obtain ⟨b1, b2, b3, b4⟩ := bm
 have hma : ((m : Int) - (a : Int) == 1) = true := by simp; omega
 have HM := m_ (And.intro hm (show m = a + 1 by omega))
 have HB := m_ (And.intro (show b = m + V.length by omega) hxl)
 have HAL := m_ ha
 clear hr hV hxl hm ha hb
 go_enter Try.func132, Try.ntmps132
 go_wp2_with (first | ((with_reducible refine a3_ (N := 4) rfl ?_); refine box_event ?hg (N := 4) ?hd (cs := #[.func (.func 86) #[] E.lb, .func (.func E.sf) #[] E.sb]) (t := 165) ?hr ?_; (case hd => rfl); (case hg => rfl); (case hr => first | (go_simp; done) | (go_simp; rfl)); intro gb hgb wb hxb hbb; have HXB := m_ hxb; have HRB := m_ (HR.out.below hbb); have HGB := m_ (d9_ (g := E.g) hbb); have hne : gb ≠ E.g := (by omega); clear hgb hxb hbb HR))
 go_loopw [8, 9] (fun v8 v9 wr => ∃ (i j : Nat), v8 = .int .i64 (i : Int) ∧ v9 = .int .i64 (j : Int) ∧ m ≤ i ∧ i ≤ j ∧ j ≤ b ∧ A_ (∀ y ∈ V.take (i - m), E.key y < E.key u) ∧ A_ (∀ y ∈ V.drop (j - m), E.key u ≤ E.key y) ∧
  A_ (E.RW wr (X ++ (u :: (V ++ Z)))) ∧ A_ (w.grownBy wr (some E.g)) ∧ A_ (wr.heap[gb]? = some (.cells #[.func (.func 86) #[] E.lb, .func (.func E.sf) #[] E.sb] 165 (0, 0)))) (fun v8 v9 _ => (intOf v9).toNat - (intOf v8).toNat)
 case atStart => exact ⟨m, b, rfl, rfl, Nat.le_refl _, b4, Nat.le_refl _, ⟨by simp⟩, ⟨by rw [List.drop_eq_nil_of_le (by have := HB.out; omega)]; simp⟩, HRB, HGB, HXB⟩
 case round =>
  clear HRB HGB HXB
  obtain ⟨i, j, rfl, rfl, hi, hij, hj, HT, HD, HA, HG, HX⟩ := hrel
  by_cases hlt : i < j
  ·have hlt' : (i : Int) < j := by omega
   obtain ⟨h, hh⟩ : ∃ h, h = (i + j) / 2 := ⟨_, rfl⟩
   have hh1 : i ≤ h ∧ h < j := by omega
   have h3 : h - m < V.length := by have := HB.out; omega
   have hry := krow_at (Z := Z) u HM.out.1 (Nat.le_trans hi hh1.1) h3
   have hru : (X ++ (u :: (V ++ Z)))[a]? = some u := by rw [List.getElem?_append_right (by have := HAL.out; omega), show a - X.length = 0 by have := HAL.out; omega]; rfl
   have ST := m_ (fun hl => ksrt_take HVS.out h3 (u := u) hl)
   have SD := m_ (fun hl => ksrt_drop HVS.out h3 (u := u) hl)
   generalize V[h - m] = y at *
   have HHH := m_ hh
   have c0 : (0 : Int) ≤ (i : Int) + (j : Int) := by omega
   have c1 : (i : Int) + (j : Int) ≤ 2000000000000 := by omega
   have hcc : ((i : Int) + (j : Int)) / 2 = (h : Int) := by omega
   have i3 : (a : Int) < n := by omega
   have hh2 : (i ≤ h ∧ h < j) := hh1
   clear hh hh1
   have hcall := HO.out.less wr _ h a _ _ HA.out hry hru
   have l0 : wr.cell? ⟨gb, 0, none⟩ = some (.func (.func 86) #[] E.lb) := (a0_ HX.out 0).trans rfl
   clear hry hru
   by_cases hlt2 : E.key y < E.key u
   ·rw [decide_eq_true hlt2] at hcall
    have HST := m_ (ST.out (by omega))
    clear hlt2 ST SD
    have HC := m_ hcall
    clear hcall
    go_wp2_with (go_at_call 86; refine HC.out.mono ?_; rintro e w4 ⟨rfl, hb4⟩; have HA4 := m_ (HA.out.below hb4); have HG4 := m_ (e0_ HG.out hb4); have HX4 := m_ (a1_ HX.out hb4); clear hb4)
    go_roundw
    case rel => exact ⟨h + 1, j, by first | exact int_i64 (by have := HHH.out; omega) | go_num, rfl, by omega, by omega, hj, ⟨by rw [show h + 1 - m = h - m + 1 by omega]; exact HST.out⟩, HD, HA4, HG4, HX4⟩
    case measure => simp [intOf]; omega
   ·rw [decide_eq_false hlt2] at hcall
    have HSD := m_ (SD.out (by omega))
    clear hlt2 ST SD
    have HC := m_ hcall
    clear hcall
    go_wp2_with (go_at_call 86; refine HC.out.mono ?_; rintro e w4 ⟨rfl, hb4⟩; have HA4 := m_ (HA.out.below hb4); have HG4 := m_ (e0_ HG.out hb4); have HX4 := m_ (a1_ HX.out hb4); clear hb4)
    go_roundw
    case rel => exact ⟨i, h, rfl, by first | rfl | exact int_i64 (by have := HHH.out; omega), hi, by omega, by omega, HT, HSD, HA4, HG4, HX4⟩
    case measure => simp [intOf]; omega
  ·obtain rfl : i = j := by omega
   have hV1 : V.take (i - m) ++ V.drop (i - m) = V := List.take_append_drop _ V
   have hml : mrg E.key [u] V = V.take (i - m) ++ u :: V.drop (i - m) := by
    have := mrg_one_left E.key u (V.take (i - m)) (V.drop (i - m)) HT.out HD.out
    rw [hV1] at this
    exact this
   have HAa := HA.out
   rw [← hV1] at HAa
   have hlA : (V.take (i - m)).length = i - m := by rw [List.length_take]; have := HB.out; omega
   have HA2 := m_ HAa
   have HLA := m_ hlA
   have HML := m_ hml
   generalize V.take (i - m) = A at *
   generalize V.drop (i - m) = B at *
   clear HT HD HA HAa hlA hV1 hml HVS
   go_wp2
   obtain ⟨wo, hwo⟩ : ∃ wo : World, wo = wr := ⟨_, rfl⟩
   subst hwo
   go_loopw [11] (fun v11_ w2 => ∃ (k : Nat) (A1 A2 : List S51), v11_ = .int .i64 (k : Int) ∧ a ≤ k ∧ k + 1 ≤ i ∧ A_ (A1.length = k - a) ∧ A_ (A1 ++ A2 = A) ∧ A_ (E.RW w2 (X ++ (A1 ++ (u :: (A2 ++ (B ++ Z)))))) ∧ A_ (w.grownBy w2 (some E.g)) ∧ A_ (w2.heap[gb]? = some (.cells #[.func (.func 86) #[] E.lb, .func (.func E.sf) #[] E.sb] 165 (0, 0)))) (fun v11_ _ => i - (intOf v11_).toNat)
   case atStart => exact ⟨a, [], A, rfl, Nat.le_refl _, by have := HM.out; omega, ⟨by simp⟩, ⟨rfl⟩, ⟨by have := HA2.out; rw [List.append_assoc] at this; exact this⟩, HG, HX⟩
   case round =>
    clear HA2 HG HX
    obtain ⟨k, A1, A2, rfl, hk, hki, HL1, HAA, HA, HG, HX⟩ := hrel
    by_cases hk2 : k + 1 < i
    ·cases A2 with
     | nil =>
      exfalso
      have h1 := HAA.out; have h2 := HL1.out; have h3 := HLA.out; have h4 := HM.out
      rw [List.append_nil] at h1
      rw [h1] at h2
      omega
     | cons v A2 =>
      have hlt' : (k : Int) < (i : Int) - 1 := by omega
      have hX := HAL.out
      have hL1 := HL1.out
      have hpos : X.length + A1.length = k := by omega
      have hru : (X ++ (A1 ++ (u :: (v :: A2 ++ (B ++ Z)))))[k]? = some u := by rw [List.getElem?_append_right (by omega), List.getElem?_append_right (by omega), show k - X.length - A1.length = 0 by omega]; rfl
      have hrv : (X ++ (A1 ++ (u :: (v :: A2 ++ (B ++ Z)))))[k + 1]? = some v := by rw [List.getElem?_append_right (by omega), List.getElem?_append_right (by omega), show k + 1 - X.length - A1.length = 1 by omega]; rfl
      obtain ⟨W', hrun, hrw, hgr⟩ := HO.out.swap wr _ k (k + 1) u v HA.out hru hrv
      have hbub := kbub X A1 u v (A2 ++ (B ++ Z))
      rw [hpos] at hbub
      rw [show (X ++ (A1 ++ (u :: (v :: A2 ++ (B ++ Z))))) = X ++ (A1 ++ (u :: v :: (A2 ++ (B ++ Z)))) from rfl, hbub] at hrw
      have l1 : wr.cell? ⟨gb, 1, none⟩ = some (.func (.func E.sf) #[] E.sb) := (a0_ HX.out 1).trans rfl
      have HR5 := m_ hrw
      have HG5 := m_ (b0_ HG.out hgr)
      have HX5 := m_ (grown_box HX.out hgr hne)
      have HL5 := m_ (show (A1 ++ [v]).length = k + 1 - a from by rw [List.length_append, List.length_singleton]; omega)
      have HA5 := m_ (show (A1 ++ [v]) ++ A2 = A from by rw [← HAA.out]; simp)
      clear hrw hgr hbub hX hL1 hpos HL1 HAA hru hrv
      have e1 : IntKind.i64.wrap ((k : Int) + 1) = (k : Int) + 1 := by rw [IntKind.wrap_i64]; omega
      push_cast at hrun
      go_wp2
      try rw [hrun, Oper.upon_value]
      try clear hrun
      try go_wp2
      go_roundw
      case rel => exact ⟨k + 1, A1 ++ [v], A2, by first | rfl | go_num | exact int_i64 (by omega), by omega, by omega, HL5, HA5, HR5, HG5, HX5⟩
      case measure => simp [intOf]; omega
    ·have hlt' : ¬ (k : Int) < (i : Int) - 1 := by omega
     have hA2 : A2 = [] := by
      have h1 := congrArg List.length HAA.out; have h2 := HL1.out; have h3 := HLA.out; have h4 := HM.out
      rw [List.length_append] at h1
      exact List.eq_nil_of_length_eq_zero (by omega)
     subst hA2
     have hAA := HAA.out
     rw [List.append_nil] at hAA
     have hfin := HA.out
     rw [hAA] at hfin
     have HF := m_ (show E.RW wr (X ++ ((A ++ u :: B) ++ Z)) from by simpa using hfin)
     clear hAA hfin HAA HL1
     go_wp2
     first | go_end0 | refine bodyPost_ret (results_none rfl _ _ _) rfl ?_
     exact ⟨rfl, by rw [HML.out]; exact HF.out, HG.out⟩
set_option maxHeartbeats 8000000 in
set_option maxRecDepth 100000 in
theorem symMergeF_right (E : SE) (O : E.Ok) (a m b : Nat) (X U Z : List S51) (v : S51) (w : World) (hr : E.RW w (X ++ (U ++ (v :: Z)))) (ha : a = X.length) (hm : m = X.length + U.length) (hb : b = X.length + U.length + 1) (hU1 : 1 < U.length) (hU : Srt E.key U) :
  Calls Try.prog 132 #[.agg #[.func (.func 86) #[] E.lb, .func (.func E.sf) #[] E.sb], .int .i64 a, .int .i64 m, .int .i64 b] w fun e w' => e = .returned (.tuple #[]) ∧ E.RW w' (X ++ (mrg E.key U [v] ++ Z)) ∧ w.grownBy w' (some E.g) := by
 have hu165 := Try.underlying165
 have HO := m_ O
 have hn := O.nb
 have hgw : E.g < w.heap.size := Nat.lt_of_lt_of_le O.gb hr.grown.size
 have HR := m_ hr
 have HUS := m_ hU
 have hxl := hr.len.symm
 obtain ⟨n, hnE⟩ : ∃ n, E.n = n := ⟨_, rfl⟩
 rw [hnE] at hxl hn
 have HNE := m_ hnE
 clear hnE O
 simp only [List.length_append, List.length_cons] at hxl
 have bm : a < n ∧ m < n ∧ b ≤ n ∧ a ≤ m := by omega
 obtain ⟨b1, b2, b3, b4⟩ := bm
 have hma : ((m : Int) - (a : Int) == 1) = false := by simp; omega
 have hbm : ((b : Int) - (m : Int) == 1) = true := by simp; omega
 have HM := m_ (And.intro (show m = a + U.length by omega) hxl)
 have HAL := m_ ha
 clear hr hU hxl hm ha hb hU1
 go_enter Try.func132, Try.ntmps132
 go_wp2_with (first | ((with_reducible refine a3_ (N := 4) rfl ?_); refine box_event ?hg (N := 4) ?hd (cs := #[.func (.func 86) #[] E.lb, .func (.func E.sf) #[] E.sb]) (t := 165) ?hr ?_; (case hd => rfl); (case hg => rfl); (case hr => first | (go_simp; done) | (go_simp; rfl)); intro gb hgb wb hxb hbb; have HXB := m_ hxb; have HRB := m_ (HR.out.below hbb); have HGB := m_ (d9_ (g := E.g) hbb); have hne : gb ≠ E.g := (by omega); clear hgb hxb hbb HR))
 go_loopw [12, 13] (fun v12 v13 wr => ∃ (i j : Nat), v12 = .int .i64 (i : Int) ∧ v13 = .int .i64 (j : Int) ∧ a ≤ i ∧ i ≤ j ∧ j ≤ m ∧ A_ (∀ y ∈ U.take (i - a), E.key y ≤ E.key v) ∧ A_ (∀ y ∈ U.drop (j - a), E.key v < E.key y) ∧
  A_ (E.RW wr (X ++ (U ++ (v :: Z)))) ∧ A_ (w.grownBy wr (some E.g)) ∧ A_ (wr.heap[gb]? = some (.cells #[.func (.func 86) #[] E.lb, .func (.func E.sf) #[] E.sb] 165 (0, 0)))) (fun v12 v13 _ => (intOf v13).toNat - (intOf v12).toNat)
 case atStart => exact ⟨a, m, rfl, rfl, Nat.le_refl _, b4, Nat.le_refl _, ⟨by simp⟩, ⟨by rw [List.drop_eq_nil_of_le (by have := HM.out; omega)]; simp⟩, HRB, HGB, HXB⟩
 case round =>
  clear HRB HGB HXB
  obtain ⟨i, j, rfl, rfl, hi, hij, hj, HT, HD, HA, HG, HX⟩ := hrel
  by_cases hlt : i < j
  ·have hlt' : (i : Int) < j := by omega
   obtain ⟨h, hh⟩ : ∃ h, h = (i + j) / 2 := ⟨_, rfl⟩
   have hh1 : i ≤ h ∧ h < j := by omega
   have h3 : h - a < U.length := by have := HM.out; omega
   have hry := krow_at2 (R := v :: Z) HAL.out (Nat.le_trans hi hh1.1) h3
   have hrv : (X ++ (U ++ (v :: Z)))[m]? = some v := by rw [List.getElem?_append_right (by have := HAL.out; omega), List.getElem?_append_right (by have := HAL.out; have := HM.out; omega), show m - X.length - U.length = 0 by have := HAL.out; have := HM.out; omega]; rfl
   have ST := m_ (fun hl => ksrt_take2 HUS.out h3 (v := v) hl)
   have SD := m_ (fun hl => ksrt_drop2 HUS.out h3 (v := v) hl)
   generalize U[h - a] = y at *
   have HHH := m_ hh
   have c0 : (0 : Int) ≤ (i : Int) + (j : Int) := by omega
   have c1 : (i : Int) + (j : Int) ≤ 2000000000000 := by omega
   have hcc : ((i : Int) + (j : Int)) / 2 = (h : Int) := by omega
   have i3 : (m : Int) < n := by omega
   have hh2 : (i ≤ h ∧ h < j) := hh1
   clear hh hh1
   have hcall := HO.out.less wr _ m h _ _ HA.out hrv hry
   have l0 : wr.cell? ⟨gb, 0, none⟩ = some (.func (.func 86) #[] E.lb) := (a0_ HX.out 0).trans rfl
   clear hry hrv
   by_cases hlt2 : E.key v < E.key y
   ·rw [decide_eq_true hlt2] at hcall
    have HSD := m_ (SD.out (by omega))
    clear hlt2 ST SD
    have HC := m_ hcall
    clear hcall
    go_wp2_with (go_at_call 86; refine HC.out.mono ?_; rintro e w4 ⟨rfl, hb4⟩; have HA4 := m_ (HA.out.below hb4); have HG4 := m_ (e0_ HG.out hb4); have HX4 := m_ (a1_ HX.out hb4); clear hb4)
    go_roundw
    case rel => exact ⟨i, h, rfl, by first | rfl | exact int_i64 (by have := HHH.out; omega), hi, by omega, by omega, HT, HSD, HA4, HG4, HX4⟩
    case measure => simp [intOf]; omega
   ·rw [decide_eq_false hlt2] at hcall
    have HST := m_ (ST.out (by omega))
    clear hlt2 ST SD
    have HC := m_ hcall
    clear hcall
    go_wp2_with (go_at_call 86; refine HC.out.mono ?_; rintro e w4 ⟨rfl, hb4⟩; have HA4 := m_ (HA.out.below hb4); have HG4 := m_ (e0_ HG.out hb4); have HX4 := m_ (a1_ HX.out hb4); clear hb4)
    go_roundw
    case rel => exact ⟨h + 1, j, by first | exact int_i64 (by have := HHH.out; omega) | go_num, rfl, by omega, by omega, hj, ⟨by rw [show h + 1 - a = h - a + 1 by omega]; exact HST.out⟩, HD, HA4, HG4, HX4⟩
    case measure => simp [intOf]; omega
  ·obtain rfl : i = j := by omega
   have hV1 : U.take (i - a) ++ U.drop (i - a) = U := List.take_append_drop _ U
   have hml : mrg E.key U [v] = U.take (i - a) ++ v :: U.drop (i - a) := by
    have := mrg_one_right E.key v (U.take (i - a)) (U.drop (i - a)) HT.out HD.out
    rw [hV1] at this
    exact this
   have HAa := HA.out
   rw [← hV1] at HAa
   have hlA : (U.take (i - a)).length = i - a := by rw [List.length_take]; have := HM.out; omega
   have hlB : (U.drop (i - a)).length = m - i := by rw [List.length_drop]; have := HM.out; omega
   have HA2 := m_ HAa
   have HLA := m_ (And.intro hlA hlB)
   have HML := m_ hml
   generalize U.take (i - a) = A at *
   generalize U.drop (i - a) = B at *
   obtain ⟨XA, hXA⟩ : ∃ XA, XA = X ++ A := ⟨_, rfl⟩
   have HLX := m_ (show XA.length = i from by rw [hXA, List.length_append]; have := HAL.out; omega)
   have HXA := m_ hXA
   clear HT HD HA HAa hlA hlB hV1 hml HUS hXA
   go_wp2
   obtain ⟨wo, hwo⟩ : ∃ wo : World, wo = wr := ⟨_, rfl⟩
   subst hwo
   go_loopw [15] (fun v15 w2 => ∃ (k : Nat) (B1 B2 : List S51), v15 = .int .i64 (k : Int) ∧ i ≤ k ∧ k ≤ m ∧ A_ (B1.length = k - i) ∧ A_ (B1 ++ B2 = B) ∧ A_ (E.RW w2 (XA ++ (B1 ++ (v :: (B2 ++ Z))))) ∧ A_ (w.grownBy w2 (some E.g)) ∧ A_ (w2.heap[gb]? = some (.cells #[.func (.func 86) #[] E.lb, .func (.func E.sf) #[] E.sb] 165 (0, 0)))) (fun v15 _ => (intOf v15).toNat - i)
   case atStart => exact ⟨m, B, [], rfl, by omega, Nat.le_refl _, ⟨by have := HLA.out; omega⟩, ⟨by simp⟩, ⟨by have := HA2.out; rw [HXA.out]; simpa using this⟩, HG, HX⟩
   case round =>
    clear HA2 HG HX
    obtain ⟨k, B1, B2, rfl, hk, hki, HL1, HAA, HA, HG, HX⟩ := hrel
    by_cases hk2 : i < k
    ·obtain ⟨B', y, hB'⟩ := snoc_of B1 Z2
     subst hB'
     have hlt' : (i : Int) < (k : Int) := by omega
     have hX := HAL.out
     have hL1 := HL1.out
     rw [List.length_append, List.length_singleton] at hL1
     have hLX := HLX.out
     have hpos : XA.length + B'.length + 1 = k := by omega
     have hrv : (XA ++ ((B' ++ [y]) ++ (v :: (B2 ++ Z))))[k]? = some v := by rw [List.getElem?_append_right (by omega), List.getElem?_append_right (by simp only [List.length_append, List.length_singleton]; omega), show k - XA.length - (B' ++ [y]).length = 0 by simp only [List.length_append, List.length_singleton]; omega]; rfl
     have hry : (XA ++ ((B' ++ [y]) ++ (v :: (B2 ++ Z))))[k - 1]? = some y := by rw [List.append_assoc, List.getElem?_append_right (by omega), List.getElem?_append_right (by omega), show k - 1 - XA.length - B'.length = 0 by omega]; rfl
     obtain ⟨k', hk'⟩ : ∃ k', k = k' + 1 := ⟨k - 1, by omega⟩
     subst hk'
     rw [Nat.add_sub_cancel] at hry
     obtain ⟨W', hrun, hrw, hgr⟩ := HO.out.swap wr _ (k' + 1) k' v y HA.out hrv hry
     have hbub := kbub2 XA B' y v (B2 ++ Z)
     rw [show XA.length + B'.length = k' by omega] at hbub
     rw [hbub] at hrw
     have l1 : wr.cell? ⟨gb, 1, none⟩ = some (.func (.func E.sf) #[] E.sb) := (a0_ HX.out 1).trans rfl
     have HR5 := m_ hrw
     have HG5 := m_ (b0_ HG.out hgr)
     have HX5 := m_ (grown_box HX.out hgr hne)
     have HL5 := m_ (show B'.length = k' - i from by omega)
     have HA5 := m_ (show B' ++ (y :: B2) = B from by rw [← HAA.out]; simp)
     clear hrw hgr hbub hX hL1 hLX hpos HL1 HAA hrv hry HA HG
     have e1 : IntKind.i64.wrap ((k' : Int) + 1 - 1) = (k' : Int) := by rw [IntKind.wrap_i64]; omega
     have i5 : (k' : Int) + 1 - 1 = (k' : Int) := by omega
     push_cast at hrun
     go_wp2
     try rw [hrun, Oper.upon_value]
     try clear hrun
     try go_wp2
     go_roundw
     case rel => exact ⟨k', B', y :: B2, by first | rfl | exact int_i64 (by omega), by omega, by omega, HL5, HA5, HR5, HG5, HX5⟩
     case measure => simp [intOf]; omega
    ·obtain rfl : i = k := by omega
     have hlt' : ¬ (i : Int) < (i : Int) := by omega
     have hB1 : B1 = [] := List.eq_nil_of_length_eq_zero Z2
     subst hB1
     have hAA := HAA.out
     rw [List.nil_append] at hAA
     have hfin := HA.out
     rw [hAA, HXA.out] at hfin
     have HF := m_ (show E.RW wr (X ++ ((A ++ v :: B) ++ Z)) from by simpa using hfin)
     clear hAA hfin HAA HL1
     go_wp2
     first | go_end0 | refine bodyPost_ret (results_none rfl _ _ _) rfl ?_
     exact ⟨rfl, by rw [HML.out]; exact HF.out, HG.out⟩
def SymF (E : SE) (sz : Nat) : Prop := ∀ (a m b : Nat) (X U V Z : List S51) (w : World), U.length + V.length = sz → E.RW w (X ++ (U ++ (V ++ Z))) → a = X.length → m = X.length + U.length → b = X.length + U.length + V.length → 0 < U.length → 0 < V.length → Srt E.key U → Srt E.key V →
  Calls Try.prog 132 #[.agg #[.func (.func 86) #[] E.lb, .func (.func E.sf) #[] E.sb], .int .i64 a, .int .i64 m, .int .i64 b] w fun e w' => e = .returned (.tuple #[]) ∧ E.RW w' (X ++ (mrg E.key U V ++ Z)) ∧ w.grownBy w' (some E.g)
set_option maxHeartbeats 16000000 in
set_option maxRecDepth 100000 in
theorem symMergeF_gen (E : SE) (O : E.Ok) (sz : Nat) (IH : ∀ s, s < sz → SymF E s) (a m b : Nat) (X U V Z : List S51) (w : World) (hsz : U.length + V.length = sz) (hr : E.RW w (X ++ (U ++ (V ++ Z)))) (ha : a = X.length) (hm : m = X.length + U.length) (hb : b = X.length + U.length + V.length) (hU2 : 1 < U.length) (hV2 : 1 < V.length) (hU : Srt E.key U) (hV : Srt E.key V) :
  Calls Try.prog 132 #[.agg #[.func (.func 86) #[] E.lb, .func (.func E.sf) #[] E.sb], .int .i64 a, .int .i64 m, .int .i64 b] w fun e w' => e = .returned (.tuple #[]) ∧ E.RW w' (X ++ (mrg E.key U V ++ Z)) ∧ w.grownBy w' (some E.g) := by
 have hu165 := Try.underlying165
 have HO := m_ O
 have hn := O.nb
 have hgw : E.g < w.heap.size := Nat.lt_of_lt_of_le O.gb hr.grown.size
 have HR := m_ hr
 have HS := m_ (And.intro hU hV)
 have HIH := m_ IH
 have hxl := hr.len.symm
 obtain ⟨n, hnE⟩ : ∃ n, E.n = n := ⟨_, rfl⟩
 rw [hnE] at hxl hn
 have HNE := m_ hnE
 clear hnE O
 simp only [List.length_append] at hxl
 obtain ⟨mid, hmid⟩ : ∃ mid, mid = (a + b) / 2 := ⟨_, rfl⟩
 have bm : a + 1 < m ∧ m + 1 < b ∧ b ≤ n ∧ a < mid ∧ mid < b ∧ 2 * mid ≤ a + b ∧ a + b ≤ 2 * mid + 1 := by omega
 obtain ⟨b1, b2, b3, b4, b5, b6, b7⟩ := bm
 obtain ⟨lo, hi, hlh⟩ : ∃ lo hi : Nat, (mid < m ∧ lo + b = mid + m ∧ hi = mid) ∨ (¬ mid < m ∧ lo = a ∧ hi = m) := by
  by_cases h : mid < m
  ·exact ⟨mid + m - b, mid, .inl ⟨h, by omega, rfl⟩⟩
  ·exact ⟨a, m, .inr ⟨h, rfl, rfl⟩⟩
 have bl : a ≤ lo ∧ lo ≤ hi ∧ hi ≤ m ∧ hi ≤ mid ∧ mid + m ≤ lo + b := by omega
 obtain ⟨l1, l2, l3, l4, l5⟩ := bl
 have HLH := m_ hlh
 have hma : ((m : Int) - (a : Int) == 1) = false := by simp; omega
 have hbm : ((b : Int) - (m : Int) == 1) = false := by simp; omega
 have hmd : ((a : Int) + (b : Int)) / 2 = (mid : Int) := by omega
 have HLN := m_ (show X.length = a ∧ U.length = m - a ∧ V.length = b - m ∧ U.length + V.length = sz from by omega)
 clear hr hU hV hxl hm ha hb hU2 hV2 IH hsz hmid
 rcases hlh with ⟨q1, q2, q3⟩ | ⟨q1, q2, q3⟩
 ·have t1 : decide ((mid : Int) < (m : Int)) = true := by simp; omega
  have t2 : (mid : Int) + (m : Int) - (b : Int) = (lo : Int) := by omega
  have t3 : (mid : Int) < (m : Int) := by omega
  subst q3
  clear q2 t1
  go_enter Try.func132, Try.ntmps132
  go_wp2_with (first | ((with_reducible refine a3_ (N := 4) rfl ?_); refine box_event ?hg (N := 4) ?hd (cs := #[.func (.func 86) #[] E.lb, .func (.func E.sf) #[] E.sb]) (t := 165) ?hr ?_; (case hd => rfl); (case hg => rfl); (case hr => first | (go_simp; done) | (go_simp; rfl)); intro gb hgb wb hxb hbb; have HXB := m_ hxb; have HRB := m_ (HR.out.below hbb); have HGB := m_ (d9_ (g := E.g) hbb); have hne : gb ≠ E.g := (by omega); clear hgb hxb hbb HR))
  go_loopw [18, 19] (fun v18 v19 wr => ∃ (s r : Nat), v18 = .int .i64 (s : Int) ∧ v19 = .int .i64 (r : Int) ∧ lo ≤ s ∧ s ≤ r ∧ r ≤ hi ∧ A_ (∀ c x y, lo ≤ c → c < s → U[c - a]? = some x → V[hi + m - 1 - c - m]? = some y → E.key x ≤ E.key y) ∧ A_ (∀ c x y, r ≤ c → c < hi → U[c - a]? = some x → V[hi + m - 1 - c - m]? = some y → E.key y < E.key x) ∧
   A_ (E.RW wr (X ++ (U ++ (V ++ Z)))) ∧ A_ (w.grownBy wr (some E.g)) ∧ A_ (wr.heap[gb]? = some (.cells #[.func (.func 86) #[] E.lb, .func (.func E.sf) #[] E.sb] 165 (0, 0)))) (fun v18 v19 _ => (intOf v19).toNat - (intOf v18).toNat)
  case atStart => exact ⟨lo, hi, rfl, rfl, Nat.le_refl _, l2, Nat.le_refl _, ⟨fun c x y h1 h2 => by omega⟩, ⟨fun c x y h1 h2 => by omega⟩, HRB, HGB, HXB⟩
  case round =>
   clear HRB HGB HXB
   obtain ⟨s, r, rfl, rfl, hls, hsr, hrh, HT, HD, HA, HG, HX⟩ := hrel
   by_cases hlt : s < r
   ·have hlt' : (s : Int) < r := by omega
    obtain ⟨c, hc⟩ : ∃ c, c = (s + r) / 2 := ⟨_, rfl⟩
    have hc1 : s ≤ c ∧ c < r := by omega
    obtain ⟨hc2, hc3⟩ := hc1
    obtain ⟨d, hd⟩ : ∃ d, d = hi + m - 1 - c := ⟨_, rfl⟩
    have hd1 : m ≤ d ∧ d < b := by omega
    have hxu : U[c - a]? = some _ := List.getElem?_eq_getElem (show c - a < U.length by have := HLN.out; omega)
    have hyv : V[d - m]? = some _ := List.getElem?_eq_getElem (show d - m < V.length by have := HLN.out; omega)
    generalize U[c - a]'_ = x at *
    generalize V[d - m]'_ = y at *
    have hrx : (X ++ (U ++ (V ++ Z)))[c]? = some x := by rw [List.getElem?_append_right Z4, List.getElem?_append_left Z4, show c - X.length = c - a by have := HLN.out; omega]; exact hxu
    have hry : (X ++ (U ++ (V ++ Z)))[d]? = some y := by rw [List.getElem?_append_right Z4, List.getElem?_append_right Z4, List.getElem?_append_left Z4, show d - X.length - U.length = d - m by have := HLN.out; omega]; exact hyv
    have HXU := m_ hxu
    have HYV := m_ hyv
    have HDD := m_ hd
    have hcc : ((s : Int) + (r : Int)) / 2 = (c : Int) := by omega
    have hdd : (hi : Int) + (m : Int) - 1 - (c : Int) = (d : Int) := by omega
    have hdw : IntKind.i64.wrap ((hi : Int) + (m : Int) - 1 - (c : Int)) = (d : Int) := by rw [IntKind.wrap_i64]; omega
    have hdw2 : IntKind.i64.wrap (d : Int) = (d : Int) := by rw [IntKind.wrap_i64]; omega
    have j0 : (c : Int) < n := by omega
    have j1 : (d : Int) < n := by omega
    have c0 : (0 : Int) ≤ (s : Int) + (r : Int) := by omega
    have c1 : (s : Int) + (r : Int) ≤ 2000000000000 := by omega
    clear hxu hyv hd hc
    have hcall := HO.out.less wr _ d c _ _ HA.out hry hrx
    have l0 : wr.cell? ⟨gb, 0, none⟩ = some (.func (.func 86) #[] E.lb) := (a0_ HX.out 0).trans rfl
    clear hrx hry
    by_cases hlt2 : E.key y < E.key x
    ·rw [decide_eq_true hlt2] at hcall
     have HLT := m_ hlt2
     clear hlt2
     have HC := m_ hcall
     clear hcall
     go_wp2_with (go_at_call 86; refine HC.out.mono ?_; rintro e w4 ⟨rfl, hb4⟩; have HA4 := m_ (HA.out.below hb4); have HG4 := m_ (e0_ HG.out hb4); have HX4 := m_ (a1_ HX.out hb4); clear hb4)
     go_roundw
     case rel => exact ⟨s, c, rfl, by first | rfl | exact int_i64 (by omega), hls, hc2, by omega, HT, ⟨fun c' x' y' h1 h2 h3 h4 => by
      by_cases e : r ≤ c'
      ·exact HD.out c' x' y' e h2 h3 h4
      ·have k1 := ksrt_le HS.out.1 (i := c - a) (j := c' - a) (by omega) HXU.out h3
       have k2 := ksrt_le HS.out.2 (i := hi + m - 1 - c' - m) (j := d - m) (by have := HDD.out; omega) h4 HYV.out
       have := HLT.out
       omega⟩, HA4, HG4, HX4⟩
     case measure => simp [intOf]; omega
    ·rw [decide_eq_false hlt2] at hcall
     have HLT := m_ (show E.key x ≤ E.key y by omega)
     clear hlt2
     have HC := m_ hcall
     clear hcall
     go_wp2_with (go_at_call 86; refine HC.out.mono ?_; rintro e w4 ⟨rfl, hb4⟩; have HA4 := m_ (HA.out.below hb4); have HG4 := m_ (e0_ HG.out hb4); have HX4 := m_ (a1_ HX.out hb4); clear hb4)
     go_roundw
     case rel => exact ⟨c + 1, r, by first | exact int_i64 (by omega) | go_num, rfl, by omega, by omega, hrh, ⟨fun c' x' y' h1 h2 h3 h4 => by
      by_cases e : c' < s
      ·exact HT.out c' x' y' h1 e h3 h4
      ·have k1 := ksrt_le HS.out.1 (i := c' - a) (j := c - a) (by omega) h3 HXU.out
       have k2 := ksrt_le HS.out.2 (i := d - m) (j := hi + m - 1 - c' - m) (by have := HDD.out; omega) HYV.out h4
       have := HLT.out
       omega⟩, HD, HA4, HG4, HX4⟩
     case measure => simp [intOf]; omega
   ·obtain rfl : s = r := by omega
    obtain ⟨e, he⟩ : ∃ e, e = hi + m - s := ⟨_, rfl⟩
    have he1 : m ≤ e ∧ e ≤ b ∧ e + s = hi + m := by omega
    obtain ⟨e1, e2, e3⟩ := he1
    have h12 := ksplit12 HS.out.1 HS.out.2 (p := s - a) (q := e - m) Z4 (by
     by_cases h1 : s = a
     ·exact .inl (by omega)
     ·by_cases h2 : e = b
      ·exact .inr (.inl Z4)
      ·exact .inr (.inr fun x y hx hy => HT.out (s - 1) x y (by have := HLH.out; omega) (by omega) (by rw [show s - 1 - a = s - a - 1 by omega]; exact hx) (by rw [show hi + m - 1 - (s - 1) - m = e - m by omega]; exact hy)))
    have h21 := ksplit21 HS.out.1 HS.out.2 (p := s - a) (q := e - m) Z4 (by
     by_cases h1 : s = m
     ·exact .inl Z4
     ·by_cases h2 : e = m
      ·exact .inr (.inl (by omega))
      ·exact .inr (.inr fun x y hx hy => HD.out s x y (by omega) (by have := HLH.out; omega) hx (by rw [show hi + m - 1 - s - m = e - m - 1 by omega]; exact hy)))
    have hU1 : U.take (s - a) ++ U.drop (s - a) = U := List.take_append_drop _ U
    have hV1 : V.take (e - m) ++ V.drop (e - m) = V := List.take_append_drop _ V
    have hml := mrg_split E.key _ _ _ _ h12 h21
    rw [hU1, hV1] at hml
    have hS1 : Srt E.key (U.take (s - a)) ∧ Srt E.key (U.drop (s - a)) ∧ Srt E.key (V.take (e - m)) ∧ Srt E.key (V.drop (e - m)) := ⟨HS.out.1.sublist (List.take_sublist _ _), HS.out.1.sublist (List.drop_sublist _ _), HS.out.2.sublist (List.take_sublist _ _), HS.out.2.sublist (List.drop_sublist _ _)⟩
    have hl1 : (U.take (s - a)).length = s - a ∧ (U.drop (s - a)).length = m - s ∧ (V.take (e - m)).length = e - m ∧ (V.drop (e - m)).length = b - e := by
     rw [List.length_take, List.length_drop, List.length_take, List.length_drop]; have := HLN.out; omega
    have hA0 := HA.out
    rw [← hU1, ← hV1] at hA0
    have HML := m_ hml
    generalize U.take (s - a) = U1 at *
    generalize U.drop (s - a) = U2 at *
    generalize V.take (e - m) = V1 at *
    generalize V.drop (e - m) = V2 at *
    have HS1 := m_ hS1
    have HL1 := m_ hl1
    have HA0 := m_ (show E.RW wr (X ++ (U1 ++ (U2 ++ (V1 ++ (V2 ++ Z))))) from by simpa using hA0)
    have hcz0 : wr.cell? ⟨gb, 0, none⟩ = some (.func (.func 86) #[] E.lb) := (a0_ HX.out 0).trans rfl
    have hcz1 : wr.cell? ⟨gb, 1, none⟩ = some (.func (.func E.sf) #[] E.sb) := (a0_ HX.out 1).trans rfl
    have hfz0 := a2_ HX.out 0
    have hfz1 := a2_ HX.out 1
    have hen : (hi : Int) + (m : Int) - (s : Int) = (e : Int) := by omega
    have hbnd : a ≤ s ∧ s ≤ m ∧ s ≤ hi := by omega
    obtain ⟨n1, n2, n3⟩ := hbnd
    clear h12 h21 hU1 hV1 hml hS1 hl1 hA0 HA HT HD he
    have hcs : (a < s ∧ m < e ∧ s < m ∧ e < b) ∨ (a < s ∧ m < e ∧ s < m ∧ b ≤ e) ∨ (a < s ∧ m < e ∧ m ≤ s ∧ e < b) ∨ (a < s ∧ e ≤ m ∧ s < m ∧ e < b) ∨ (a < s ∧ e ≤ m ∧ m ≤ s ∧ e < b) ∨ (s ≤ a ∧ m < e ∧ s < m ∧ e < b) ∨ (s ≤ a ∧ m < e ∧ s < m ∧ b ≤ e) := by omega
    rcases hcs with ⟨k1, k2, k3, k4⟩ | ⟨k1, k2, k3, k4⟩ | ⟨k1, k2, k3, k4⟩ | ⟨k1, k2, k3, k4⟩ | ⟨k1, k2, k3, k4⟩ | ⟨k1, k2, k3, k4⟩ | ⟨k1, k2, k3, k4⟩
    ·have z1 : (s : Int) < (m : Int) := by omega
     have z2 : (m : Int) < (e : Int) := by omega
     have z3 : (a : Int) < (s : Int) := by omega
     have z4 : (s : Int) < (hi : Int) := by omega
     have z5 : (hi : Int) < (e : Int) := by omega
     have z6 : (e : Int) < (b : Int) := by omega
     have HRB := m_ (show E.RW wr ((X ++ U1) ++ (U2 ++ (V1 ++ (V2 ++ Z)))) from by simpa using HA0.out)
     go_wp2_with (go_at_call 137; refine (rotateF E HO.out s m e (X ++ U1) U2 V1 (V2 ++ Z) wr HRB.out Z1 Z1 Z1 Z2 Z2).mono ?_; rintro e' w5 ⟨rfl, hr5, hg5⟩; have HR5 := m_ (show E.RW w5 (X ++ (U1 ++ (V1 ++ (U2 ++ (V2 ++ Z))))) from by simpa using hr5); have HG5 := m_ (b0_ HG.out hg5); have HX5 := m_ (grown_box HX.out hg5 hne); clear hr5 hg5 hcz0 hcz1 hfz0 hfz1; obtain ⟨hcz0, hcz1, hfz0, hfz1⟩ := bz2_ HX5)
     refine (HIH.out (U1.length + V1.length) Z8 a s hi X U1 V1 (U2 ++ (V2 ++ Z)) w5 rfl HR5.out Z4 Z7 Z7 Z2 Z2 HS1.out.1 HS1.out.2.2.1).mono ?_
     rintro e' w6 ⟨rfl, hr6, hg6⟩
     have HR6 := m_ hr6
     have HG6 := m_ (b0_ HG5.out hg6)
     have HX6 := m_ (grown_box HX5.out hg6 hne)
     clear hr6 hg6 hcz0 hcz1 hfz0 hfz1
     obtain ⟨hcz0, hcz1, hfz0, hfz1⟩ := bz2_ HX6
     go_wp2_with fail
     have HML1 := m_ (show (X ++ mrg E.key U1 V1).length = hi from by rw [List.length_append, mrg_length]; have := HLN.out; have := HL1.out; omega)
     have HR7 := m_ (show E.RW w6 ((X ++ mrg E.key U1 V1) ++ (U2 ++ (V2 ++ Z))) from by rw [List.append_assoc]; exact HR6.out)
     refine (HIH.out (U2.length + V2.length) Z8 hi e b (X ++ mrg E.key U1 V1) U2 V2 Z w6 rfl HR7.out (by have := HML1.out; omega) Z6 Z6 Z2 Z2 HS1.out.2.1 HS1.out.2.2.2).mono ?_
     rintro e' w7 ⟨rfl, hr7, hg7⟩
     have HR8 := m_ hr7
     have HG8 := m_ (b0_ HG6.out hg7)
     clear hr7 hg7
     go_wp2_with fail
     go_end0
     exact ⟨rfl, by rw [HML.out]; have := HR8.out; simpa using this, HG8.out⟩
    ·have z1 : (s : Int) < (m : Int) := by omega
     have z2 : (m : Int) < (e : Int) := by omega
     have z3 : (a : Int) < (s : Int) := by omega
     have z4 : (s : Int) < (hi : Int) := by omega
     have z5 : (hi : Int) < (e : Int) := by omega
     have z6 : decide ((e : Int) < (b : Int)) = false := by simp; omega
     have HRB := m_ (show E.RW wr ((X ++ U1) ++ (U2 ++ (V1 ++ (V2 ++ Z)))) from by simpa using HA0.out)
     go_wp2_with (go_at_call 137; refine (rotateF E HO.out s m e (X ++ U1) U2 V1 (V2 ++ Z) wr HRB.out Z1 Z1 Z1 Z2 Z2).mono ?_; rintro e' w5 ⟨rfl, hr5, hg5⟩; have HR5 := m_ (show E.RW w5 (X ++ (U1 ++ (V1 ++ (U2 ++ (V2 ++ Z))))) from by simpa using hr5); have HG5 := m_ (b0_ HG.out hg5); have HX5 := m_ (grown_box HX.out hg5 hne); clear hr5 hg5 hcz0 hcz1 hfz0 hfz1; obtain ⟨hcz0, hcz1, hfz0, hfz1⟩ := bz2_ HX5)
     refine (HIH.out (U1.length + V1.length) Z8 a s hi X U1 V1 (U2 ++ (V2 ++ Z)) w5 rfl HR5.out Z4 Z7 Z7 Z2 Z2 HS1.out.1 HS1.out.2.2.1).mono ?_
     rintro e' w6 ⟨rfl, hr6, hg6⟩
     have HR6 := m_ hr6
     have HG6 := m_ (b0_ HG5.out hg6)
     have HX6 := m_ (grown_box HX5.out hg6 hne)
     clear hr6 hg6 hcz0 hcz1 hfz0 hfz1
     obtain ⟨hcz0, hcz1, hfz0, hfz1⟩ := bz2_ HX6
     go_wp2_with fail
     have HML1 := m_ (show (X ++ mrg E.key U1 V1).length = hi from by rw [List.length_append, mrg_length]; have := HLN.out; have := HL1.out; omega)
     have HR7 := m_ (show E.RW w6 ((X ++ mrg E.key U1 V1) ++ (U2 ++ (V2 ++ Z))) from by rw [List.append_assoc]; exact HR6.out)
     have hem : V2 = [] := List.eq_nil_of_length_eq_zero Z2
     have HR8 := m_ (show E.RW w6 ((X ++ mrg E.key U1 V1) ++ (mrg E.key U2 V2 ++ Z)) from by have := HR7.out; rw [hem] at this ⊢; rw [mrg_nil_right]; simpa using this)
     have HG8 := HG6
     clear hem
     go_end0
     exact ⟨rfl, by rw [HML.out]; have := HR8.out; simpa using this, HG8.out⟩
    ·exfalso; omega
    ·have z1 : (s : Int) < (m : Int) := by omega
     have z2 : decide ((m : Int) < (e : Int)) = false := by simp; omega
     have z3 : (a : Int) < (s : Int) := by omega
     have z4 : decide ((s : Int) < (hi : Int)) = false := by simp; omega
     have z5 : (hi : Int) < (e : Int) := by omega
     have z6 : (e : Int) < (b : Int) := by omega
     have hem : V1 = [] := List.eq_nil_of_length_eq_zero Z2
     have HR5 := m_ (show E.RW wr (X ++ (U1 ++ (V1 ++ (U2 ++ (V2 ++ Z))))) from by have := HA0.out; rw [hem] at this ⊢; simpa using this)
     have HG5 := HG
     have HX5 := HX
     clear hem
     go_wp2_with fail
     have hem : V1 = [] := List.eq_nil_of_length_eq_zero Z2
     have HR6 := m_ (show E.RW wr (X ++ (mrg E.key U1 V1 ++ (U2 ++ (V2 ++ Z)))) from by have := HR5.out; rw [hem] at this ⊢; rw [mrg_nil_right]; simpa using this)
     have HG6 := HG5
     have HX6 := HX5
     clear hem
     have HML1 := m_ (show (X ++ mrg E.key U1 V1).length = hi from by rw [List.length_append, mrg_length]; have := HLN.out; have := HL1.out; omega)
     have HR7 := m_ (show E.RW wr ((X ++ mrg E.key U1 V1) ++ (U2 ++ (V2 ++ Z))) from by rw [List.append_assoc]; exact HR6.out)
     refine (HIH.out (U2.length + V2.length) Z8 hi e b (X ++ mrg E.key U1 V1) U2 V2 Z wr rfl HR7.out (by have := HML1.out; omega) Z6 Z6 Z2 Z2 HS1.out.2.1 HS1.out.2.2.2).mono ?_
     rintro e' w7 ⟨rfl, hr7, hg7⟩
     have HR8 := m_ hr7
     have HG8 := m_ (b0_ HG6.out hg7)
     clear hr7 hg7
     go_wp2_with fail
     go_end0
     exact ⟨rfl, by rw [HML.out]; have := HR8.out; simpa using this, HG8.out⟩
    ·exfalso; omega
    ·exfalso; omega
    ·have z1 : (s : Int) < (m : Int) := by omega
     have z2 : (m : Int) < (e : Int) := by omega
     have z3 : decide ((a : Int) < (s : Int)) = false := by simp; omega
     have z4 : (s : Int) < (hi : Int) := by omega
     have z5 : (hi : Int) < (e : Int) := by omega
     have z6 : decide ((e : Int) < (b : Int)) = false := by simp; omega
     have HRB := m_ (show E.RW wr ((X ++ U1) ++ (U2 ++ (V1 ++ (V2 ++ Z)))) from by simpa using HA0.out)
     go_wp2_with (go_at_call 137; refine (rotateF E HO.out s m e (X ++ U1) U2 V1 (V2 ++ Z) wr HRB.out Z1 Z1 Z1 Z2 Z2).mono ?_; rintro e' w5 ⟨rfl, hr5, hg5⟩; have HR5 := m_ (show E.RW w5 (X ++ (U1 ++ (V1 ++ (U2 ++ (V2 ++ Z))))) from by simpa using hr5); have HG5 := m_ (b0_ HG.out hg5); have HX5 := m_ (grown_box HX.out hg5 hne); clear hr5 hg5 hcz0 hcz1 hfz0 hfz1; obtain ⟨hcz0, hcz1, hfz0, hfz1⟩ := bz2_ HX5)
     have hem : U1 = [] := List.eq_nil_of_length_eq_zero Z2
     have HR6 := m_ (show E.RW w5 (X ++ (mrg E.key U1 V1 ++ (U2 ++ (V2 ++ Z)))) from by have := HR5.out; rw [hem] at this ⊢; rw [mrg_nil_left]; simpa using this)
     have HG6 := HG5
     have HX6 := HX5
     clear hem
     have HML1 := m_ (show (X ++ mrg E.key U1 V1).length = hi from by rw [List.length_append, mrg_length]; have := HLN.out; have := HL1.out; omega)
     have HR7 := m_ (show E.RW w5 ((X ++ mrg E.key U1 V1) ++ (U2 ++ (V2 ++ Z))) from by rw [List.append_assoc]; exact HR6.out)
     have hem : V2 = [] := List.eq_nil_of_length_eq_zero Z2
     have HR8 := m_ (show E.RW w5 ((X ++ mrg E.key U1 V1) ++ (mrg E.key U2 V2 ++ Z)) from by have := HR7.out; rw [hem] at this ⊢; rw [mrg_nil_right]; simpa using this)
     have HG8 := HG6
     clear hem
     go_end0
     exact ⟨rfl, by rw [HML.out]; have := HR8.out; simpa using this, HG8.out⟩
 ·have t1 : decide ((mid : Int) < (m : Int)) = false := by simp; omega
  subst q2 q3
  go_enter Try.func132, Try.ntmps132
  go_wp2_with (first | ((with_reducible refine a3_ (N := 4) rfl ?_); refine box_event ?hg (N := 4) ?hd (cs := #[.func (.func 86) #[] E.lb, .func (.func E.sf) #[] E.sb]) (t := 165) ?hr ?_; (case hd => rfl); (case hg => rfl); (case hr => first | (go_simp; done) | (go_simp; rfl)); intro gb hgb wb hxb hbb; have HXB := m_ hxb; have HRB := m_ (HR.out.below hbb); have HGB := m_ (d9_ (g := E.g) hbb); have hne : gb ≠ E.g := (by omega); clear hgb hxb hbb HR))
  go_loopw [18, 19] (fun v18 v19 wr => ∃ (s r : Nat), v18 = .int .i64 (s : Int) ∧ v19 = .int .i64 (r : Int) ∧ lo ≤ s ∧ s ≤ r ∧ r ≤ hi ∧ A_ (∀ c x y, lo ≤ c → c < s → U[c - lo]? = some x → V[mid + hi - 1 - c - hi]? = some y → E.key x ≤ E.key y) ∧ A_ (∀ c x y, r ≤ c → c < hi → U[c - lo]? = some x → V[mid + hi - 1 - c - hi]? = some y → E.key y < E.key x) ∧
   A_ (E.RW wr (X ++ (U ++ (V ++ Z)))) ∧ A_ (w.grownBy wr (some E.g)) ∧ A_ (wr.heap[gb]? = some (.cells #[.func (.func 86) #[] E.lb, .func (.func E.sf) #[] E.sb] 165 (0, 0)))) (fun v18 v19 _ => (intOf v19).toNat - (intOf v18).toNat)
  case atStart => exact ⟨lo, hi, rfl, rfl, Nat.le_refl _, l2, Nat.le_refl _, ⟨fun c x y h1 h2 => by omega⟩, ⟨fun c x y h1 h2 => by omega⟩, HRB, HGB, HXB⟩
  case round =>
   clear HRB HGB HXB
   obtain ⟨s, r, rfl, rfl, hls, hsr, hrh, HT, HD, HA, HG, HX⟩ := hrel
   by_cases hlt : s < r
   ·have hlt' : (s : Int) < r := by omega
    obtain ⟨c, hc⟩ : ∃ c, c = (s + r) / 2 := ⟨_, rfl⟩
    have hc1 : s ≤ c ∧ c < r := by omega
    obtain ⟨hc2, hc3⟩ := hc1
    obtain ⟨d, hd⟩ : ∃ d, d = mid + hi - 1 - c := ⟨_, rfl⟩
    have hd1 : hi ≤ d ∧ d < b := by omega
    have hxu : U[c - lo]? = some _ := List.getElem?_eq_getElem (show c - lo < U.length by have := HLN.out; omega)
    have hyv : V[d - hi]? = some _ := List.getElem?_eq_getElem (show d - hi < V.length by have := HLN.out; omega)
    generalize U[c - lo]'_ = x at *
    generalize V[d - hi]'_ = y at *
    have hrx : (X ++ (U ++ (V ++ Z)))[c]? = some x := by rw [List.getElem?_append_right Z4, List.getElem?_append_left Z4, show c - X.length = c - lo by have := HLN.out; omega]; exact hxu
    have hry : (X ++ (U ++ (V ++ Z)))[d]? = some y := by rw [List.getElem?_append_right Z4, List.getElem?_append_right Z4, List.getElem?_append_left Z4, show d - X.length - U.length = d - hi by have := HLN.out; omega]; exact hyv
    have HXU := m_ hxu
    have HYV := m_ hyv
    have HDD := m_ hd
    have hcc : ((s : Int) + (r : Int)) / 2 = (c : Int) := by omega
    have hdd : (mid : Int) + (hi : Int) - 1 - (c : Int) = (d : Int) := by omega
    have hdw : IntKind.i64.wrap ((mid : Int) + (hi : Int) - 1 - (c : Int)) = (d : Int) := by rw [IntKind.wrap_i64]; omega
    have hdw2 : IntKind.i64.wrap (d : Int) = (d : Int) := by rw [IntKind.wrap_i64]; omega
    have j0 : (c : Int) < n := by omega
    have j1 : (d : Int) < n := by omega
    have c0 : (0 : Int) ≤ (s : Int) + (r : Int) := by omega
    have c1 : (s : Int) + (r : Int) ≤ 2000000000000 := by omega
    clear hxu hyv hd hc
    have hcall := HO.out.less wr _ d c _ _ HA.out hry hrx
    have l0 : wr.cell? ⟨gb, 0, none⟩ = some (.func (.func 86) #[] E.lb) := (a0_ HX.out 0).trans rfl
    clear hrx hry
    by_cases hlt2 : E.key y < E.key x
    ·rw [decide_eq_true hlt2] at hcall
     have HLT := m_ hlt2
     clear hlt2
     have HC := m_ hcall
     clear hcall
     go_wp2_with (go_at_call 86; refine HC.out.mono ?_; rintro e w4 ⟨rfl, hb4⟩; have HA4 := m_ (HA.out.below hb4); have HG4 := m_ (e0_ HG.out hb4); have HX4 := m_ (a1_ HX.out hb4); clear hb4)
     go_roundw
     case rel => exact ⟨s, c, rfl, by first | rfl | exact int_i64 (by omega), hls, hc2, by omega, HT, ⟨fun c' x' y' h1 h2 h3 h4 => by
      by_cases e : r ≤ c'
      ·exact HD.out c' x' y' e h2 h3 h4
      ·have k1 := ksrt_le HS.out.1 (i := c - lo) (j := c' - lo) (by omega) HXU.out h3
       have k2 := ksrt_le HS.out.2 (i := mid + hi - 1 - c' - hi) (j := d - hi) (by have := HDD.out; omega) h4 HYV.out
       have := HLT.out
       omega⟩, HA4, HG4, HX4⟩
     case measure => simp [intOf]; omega
    ·rw [decide_eq_false hlt2] at hcall
     have HLT := m_ (show E.key x ≤ E.key y by omega)
     clear hlt2
     have HC := m_ hcall
     clear hcall
     go_wp2_with (go_at_call 86; refine HC.out.mono ?_; rintro e w4 ⟨rfl, hb4⟩; have HA4 := m_ (HA.out.below hb4); have HG4 := m_ (e0_ HG.out hb4); have HX4 := m_ (a1_ HX.out hb4); clear hb4)
     go_roundw
     case rel => exact ⟨c + 1, r, by first | exact int_i64 (by omega) | go_num, rfl, by omega, by omega, hrh, ⟨fun c' x' y' h1 h2 h3 h4 => by
      by_cases e : c' < s
      ·exact HT.out c' x' y' h1 e h3 h4
      ·have k1 := ksrt_le HS.out.1 (i := c' - lo) (j := c - lo) (by omega) h3 HXU.out
       have k2 := ksrt_le HS.out.2 (i := d - hi) (j := mid + hi - 1 - c' - hi) (by have := HDD.out; omega) HYV.out h4
       have := HLT.out
       omega⟩, HD, HA4, HG4, HX4⟩
     case measure => simp [intOf]; omega
   ·obtain rfl : s = r := by omega
    obtain ⟨e, he⟩ : ∃ e, e = mid + hi - s := ⟨_, rfl⟩
    have he1 : hi ≤ e ∧ e ≤ b ∧ e + s = mid + hi := by omega
    obtain ⟨e1, e2, e3⟩ := he1
    have h12 := ksplit12 HS.out.1 HS.out.2 (p := s - lo) (q := e - hi) Z4 (by
     by_cases h1 : s = lo
     ·exact .inl (by omega)
     ·by_cases h2 : e = b
      ·exact .inr (.inl Z4)
      ·exact .inr (.inr fun x y hx hy => HT.out (s - 1) x y (by have := HLH.out; omega) (by omega) (by rw [show s - 1 - lo = s - lo - 1 by omega]; exact hx) (by rw [show mid + hi - 1 - (s - 1) - hi = e - hi by omega]; exact hy)))
    have h21 := ksplit21 HS.out.1 HS.out.2 (p := s - lo) (q := e - hi) Z4 (by
     by_cases h1 : s = hi
     ·exact .inl Z4
     ·by_cases h2 : e = hi
      ·exact .inr (.inl (by omega))
      ·exact .inr (.inr fun x y hx hy => HD.out s x y (by omega) (by have := HLH.out; omega) hx (by rw [show mid + hi - 1 - s - hi = e - hi - 1 by omega]; exact hy)))
    have hU1 : U.take (s - lo) ++ U.drop (s - lo) = U := List.take_append_drop _ U
    have hV1 : V.take (e - hi) ++ V.drop (e - hi) = V := List.take_append_drop _ V
    have hml := mrg_split E.key _ _ _ _ h12 h21
    rw [hU1, hV1] at hml
    have hS1 : Srt E.key (U.take (s - lo)) ∧ Srt E.key (U.drop (s - lo)) ∧ Srt E.key (V.take (e - hi)) ∧ Srt E.key (V.drop (e - hi)) := ⟨HS.out.1.sublist (List.take_sublist _ _), HS.out.1.sublist (List.drop_sublist _ _), HS.out.2.sublist (List.take_sublist _ _), HS.out.2.sublist (List.drop_sublist _ _)⟩
    have hl1 : (U.take (s - lo)).length = s - lo ∧ (U.drop (s - lo)).length = hi - s ∧ (V.take (e - hi)).length = e - hi ∧ (V.drop (e - hi)).length = b - e := by
     rw [List.length_take, List.length_drop, List.length_take, List.length_drop]; have := HLN.out; omega
    have hA0 := HA.out
    rw [← hU1, ← hV1] at hA0
    have HML := m_ hml
    generalize U.take (s - lo) = U1 at *
    generalize U.drop (s - lo) = U2 at *
    generalize V.take (e - hi) = V1 at *
    generalize V.drop (e - hi) = V2 at *
    have HS1 := m_ hS1
    have HL1 := m_ hl1
    have HA0 := m_ (show E.RW wr (X ++ (U1 ++ (U2 ++ (V1 ++ (V2 ++ Z))))) from by simpa using hA0)
    have hcz0 : wr.cell? ⟨gb, 0, none⟩ = some (.func (.func 86) #[] E.lb) := (a0_ HX.out 0).trans rfl
    have hcz1 : wr.cell? ⟨gb, 1, none⟩ = some (.func (.func E.sf) #[] E.sb) := (a0_ HX.out 1).trans rfl
    have hfz0 := a2_ HX.out 0
    have hfz1 := a2_ HX.out 1
    have hen : (mid : Int) + (hi : Int) - (s : Int) = (e : Int) := by omega
    have hbnd : lo ≤ s ∧ s ≤ hi ∧ s ≤ mid := by omega
    obtain ⟨n1, n2, n3⟩ := hbnd
    clear h12 h21 hU1 hV1 hml hS1 hl1 hA0 HA HT HD he
    have hcs : (lo < s ∧ hi < e ∧ s < hi ∧ e < b) ∨ (lo < s ∧ hi < e ∧ s < hi ∧ b ≤ e) ∨ (lo < s ∧ hi < e ∧ hi ≤ s ∧ e < b) ∨ (lo < s ∧ e ≤ hi ∧ s < hi ∧ e < b) ∨ (lo < s ∧ e ≤ hi ∧ hi ≤ s ∧ e < b) ∨ (s ≤ lo ∧ hi < e ∧ s < hi ∧ e < b) ∨ (s ≤ lo ∧ hi < e ∧ s < hi ∧ b ≤ e) := by omega
    rcases hcs with ⟨k1, k2, k3, k4⟩ | ⟨k1, k2, k3, k4⟩ | ⟨k1, k2, k3, k4⟩ | ⟨k1, k2, k3, k4⟩ | ⟨k1, k2, k3, k4⟩ | ⟨k1, k2, k3, k4⟩ | ⟨k1, k2, k3, k4⟩
    ·have z1 : (s : Int) < (hi : Int) := by omega
     have z2 : (hi : Int) < (e : Int) := by omega
     have z3 : (lo : Int) < (s : Int) := by omega
     have z4 : (s : Int) < (mid : Int) := by omega
     have z5 : (mid : Int) < (e : Int) := by omega
     have z6 : (e : Int) < (b : Int) := by omega
     have HRB := m_ (show E.RW wr ((X ++ U1) ++ (U2 ++ (V1 ++ (V2 ++ Z)))) from by simpa using HA0.out)
     go_wp2_with (go_at_call 137; refine (rotateF E HO.out s hi e (X ++ U1) U2 V1 (V2 ++ Z) wr HRB.out Z1 Z1 Z1 Z2 Z2).mono ?_; rintro e' w5 ⟨rfl, hr5, hg5⟩; have HR5 := m_ (show E.RW w5 (X ++ (U1 ++ (V1 ++ (U2 ++ (V2 ++ Z))))) from by simpa using hr5); have HG5 := m_ (b0_ HG.out hg5); have HX5 := m_ (grown_box HX.out hg5 hne); clear hr5 hg5 hcz0 hcz1 hfz0 hfz1; obtain ⟨hcz0, hcz1, hfz0, hfz1⟩ := bz2_ HX5)
     refine (HIH.out (U1.length + V1.length) Z8 lo s mid X U1 V1 (U2 ++ (V2 ++ Z)) w5 rfl HR5.out Z4 Z7 Z7 Z2 Z2 HS1.out.1 HS1.out.2.2.1).mono ?_
     rintro e' w6 ⟨rfl, hr6, hg6⟩
     have HR6 := m_ hr6
     have HG6 := m_ (b0_ HG5.out hg6)
     have HX6 := m_ (grown_box HX5.out hg6 hne)
     clear hr6 hg6 hcz0 hcz1 hfz0 hfz1
     obtain ⟨hcz0, hcz1, hfz0, hfz1⟩ := bz2_ HX6
     go_wp2_with fail
     have HML1 := m_ (show (X ++ mrg E.key U1 V1).length = mid from by rw [List.length_append, mrg_length]; have := HLN.out; have := HL1.out; omega)
     have HR7 := m_ (show E.RW w6 ((X ++ mrg E.key U1 V1) ++ (U2 ++ (V2 ++ Z))) from by rw [List.append_assoc]; exact HR6.out)
     refine (HIH.out (U2.length + V2.length) Z8 mid e b (X ++ mrg E.key U1 V1) U2 V2 Z w6 rfl HR7.out (by have := HML1.out; omega) Z6 Z6 Z2 Z2 HS1.out.2.1 HS1.out.2.2.2).mono ?_
     rintro e' w7 ⟨rfl, hr7, hg7⟩
     have HR8 := m_ hr7
     have HG8 := m_ (b0_ HG6.out hg7)
     clear hr7 hg7
     go_wp2_with fail
     go_end0
     exact ⟨rfl, by rw [HML.out]; have := HR8.out; simpa using this, HG8.out⟩
    ·exfalso; omega
    ·have z1 : decide ((s : Int) < (hi : Int)) = false := by simp; omega
     have z2 : (hi : Int) < (e : Int) := by omega
     have z3 : (lo : Int) < (s : Int) := by omega
     have z4 : (s : Int) < (mid : Int) := by omega
     have z5 : decide ((mid : Int) < (e : Int)) = false := by simp; omega
     have z6 : (e : Int) < (b : Int) := by omega
     have hem : U2 = [] := List.eq_nil_of_length_eq_zero Z2
     have HR5 := m_ (show E.RW wr (X ++ (U1 ++ (V1 ++ (U2 ++ (V2 ++ Z))))) from by have := HA0.out; rw [hem] at this ⊢; simpa using this)
     have HG5 := HG
     have HX5 := HX
     clear hem
     go_wp2_with fail
     refine (HIH.out (U1.length + V1.length) Z8 lo s mid X U1 V1 (U2 ++ (V2 ++ Z)) wr rfl HR5.out Z4 Z7 Z7 Z2 Z2 HS1.out.1 HS1.out.2.2.1).mono ?_
     rintro e' w6 ⟨rfl, hr6, hg6⟩
     have HR6 := m_ hr6
     have HG6 := m_ (b0_ HG5.out hg6)
     have HX6 := m_ (grown_box HX5.out hg6 hne)
     clear hr6 hg6 hcz0 hcz1 hfz0 hfz1
     obtain ⟨hcz0, hcz1, hfz0, hfz1⟩ := bz2_ HX6
     go_wp2_with fail
     have HML1 := m_ (show (X ++ mrg E.key U1 V1).length = mid from by rw [List.length_append, mrg_length]; have := HLN.out; have := HL1.out; omega)
     have HR7 := m_ (show E.RW w6 ((X ++ mrg E.key U1 V1) ++ (U2 ++ (V2 ++ Z))) from by rw [List.append_assoc]; exact HR6.out)
     have hem : U2 = [] := List.eq_nil_of_length_eq_zero Z2
     have HR8 := m_ (show E.RW w6 ((X ++ mrg E.key U1 V1) ++ (mrg E.key U2 V2 ++ Z)) from by have := HR7.out; rw [hem] at this ⊢; rw [mrg_nil_left]; simpa using this)
     have HG8 := HG6
     clear hem
     go_end0
     exact ⟨rfl, by rw [HML.out]; have := HR8.out; simpa using this, HG8.out⟩
    ·exfalso; omega
    ·have z1 : decide ((s : Int) < (hi : Int)) = false := by simp; omega
     have z2 : decide ((hi : Int) < (e : Int)) = false := by simp; omega
     have z3 : (lo : Int) < (s : Int) := by omega
     have z4 : decide ((s : Int) < (mid : Int)) = false := by simp; omega
     have z5 : decide ((mid : Int) < (e : Int)) = false := by simp; omega
     have z6 : (e : Int) < (b : Int) := by omega
     have hem : U2 = [] := List.eq_nil_of_length_eq_zero Z2
     have HR5 := m_ (show E.RW wr (X ++ (U1 ++ (V1 ++ (U2 ++ (V2 ++ Z))))) from by have := HA0.out; rw [hem] at this ⊢; simpa using this)
     have HG5 := HG
     have HX5 := HX
     clear hem
     go_wp2_with fail
     have hem : V1 = [] := List.eq_nil_of_length_eq_zero Z2
     have HR6 := m_ (show E.RW wr (X ++ (mrg E.key U1 V1 ++ (U2 ++ (V2 ++ Z)))) from by have := HR5.out; rw [hem] at this ⊢; rw [mrg_nil_right]; simpa using this)
     have HG6 := HG5
     have HX6 := HX5
     clear hem
     have HML1 := m_ (show (X ++ mrg E.key U1 V1).length = mid from by rw [List.length_append, mrg_length]; have := HLN.out; have := HL1.out; omega)
     have HR7 := m_ (show E.RW wr ((X ++ mrg E.key U1 V1) ++ (U2 ++ (V2 ++ Z))) from by rw [List.append_assoc]; exact HR6.out)
     have hem : U2 = [] := List.eq_nil_of_length_eq_zero Z2
     have HR8 := m_ (show E.RW wr ((X ++ mrg E.key U1 V1) ++ (mrg E.key U2 V2 ++ Z)) from by have := HR7.out; rw [hem] at this ⊢; rw [mrg_nil_left]; simpa using this)
     have HG8 := HG6
     clear hem
     go_end0
     exact ⟨rfl, by rw [HML.out]; have := HR8.out; simpa using this, HG8.out⟩
    ·have z1 : (s : Int) < (hi : Int) := by omega
     have z2 : (hi : Int) < (e : Int) := by omega
     have z3 : decide ((lo : Int) < (s : Int)) = false := by simp; omega
     have z4 : (s : Int) < (mid : Int) := by omega
     have z5 : (mid : Int) < (e : Int) := by omega
     have z6 : (e : Int) < (b : Int) := by omega
     have HRB := m_ (show E.RW wr ((X ++ U1) ++ (U2 ++ (V1 ++ (V2 ++ Z)))) from by simpa using HA0.out)
     go_wp2_with (go_at_call 137; refine (rotateF E HO.out s hi e (X ++ U1) U2 V1 (V2 ++ Z) wr HRB.out Z1 Z1 Z1 Z2 Z2).mono ?_; rintro e' w5 ⟨rfl, hr5, hg5⟩; have HR5 := m_ (show E.RW w5 (X ++ (U1 ++ (V1 ++ (U2 ++ (V2 ++ Z))))) from by simpa using hr5); have HG5 := m_ (b0_ HG.out hg5); have HX5 := m_ (grown_box HX.out hg5 hne); clear hr5 hg5 hcz0 hcz1 hfz0 hfz1; obtain ⟨hcz0, hcz1, hfz0, hfz1⟩ := bz2_ HX5)
     have hem : U1 = [] := List.eq_nil_of_length_eq_zero Z2
     have HR6 := m_ (show E.RW w5 (X ++ (mrg E.key U1 V1 ++ (U2 ++ (V2 ++ Z)))) from by have := HR5.out; rw [hem] at this ⊢; rw [mrg_nil_left]; simpa using this)
     have HG6 := HG5
     have HX6 := HX5
     clear hem
     have HML1 := m_ (show (X ++ mrg E.key U1 V1).length = mid from by rw [List.length_append, mrg_length]; have := HLN.out; have := HL1.out; omega)
     have HR7 := m_ (show E.RW w5 ((X ++ mrg E.key U1 V1) ++ (U2 ++ (V2 ++ Z))) from by rw [List.append_assoc]; exact HR6.out)
     refine (HIH.out (U2.length + V2.length) Z8 mid e b (X ++ mrg E.key U1 V1) U2 V2 Z w5 rfl HR7.out (by have := HML1.out; omega) Z6 Z6 Z2 Z2 HS1.out.2.1 HS1.out.2.2.2).mono ?_
     rintro e' w7 ⟨rfl, hr7, hg7⟩
     have HR8 := m_ hr7
     have HG8 := m_ (b0_ HG6.out hg7)
     clear hr7 hg7
     go_wp2_with fail
     go_end0
     exact ⟨rfl, by rw [HML.out]; have := HR8.out; simpa using this, HG8.out⟩
    ·have z1 : (s : Int) < (hi : Int) := by omega
     have z2 : (hi : Int) < (e : Int) := by omega
     have z3 : decide ((lo : Int) < (s : Int)) = false := by simp; omega
     have z4 : (s : Int) < (mid : Int) := by omega
     have z5 : (mid : Int) < (e : Int) := by omega
     have z6 : decide ((e : Int) < (b : Int)) = false := by simp; omega
     have HRB := m_ (show E.RW wr ((X ++ U1) ++ (U2 ++ (V1 ++ (V2 ++ Z)))) from by simpa using HA0.out)
     go_wp2_with (go_at_call 137; refine (rotateF E HO.out s hi e (X ++ U1) U2 V1 (V2 ++ Z) wr HRB.out Z1 Z1 Z1 Z2 Z2).mono ?_; rintro e' w5 ⟨rfl, hr5, hg5⟩; have HR5 := m_ (show E.RW w5 (X ++ (U1 ++ (V1 ++ (U2 ++ (V2 ++ Z))))) from by simpa using hr5); have HG5 := m_ (b0_ HG.out hg5); have HX5 := m_ (grown_box HX.out hg5 hne); clear hr5 hg5 hcz0 hcz1 hfz0 hfz1; obtain ⟨hcz0, hcz1, hfz0, hfz1⟩ := bz2_ HX5)
     have hem : U1 = [] := List.eq_nil_of_length_eq_zero Z2
     have HR6 := m_ (show E.RW w5 (X ++ (mrg E.key U1 V1 ++ (U2 ++ (V2 ++ Z)))) from by have := HR5.out; rw [hem] at this ⊢; rw [mrg_nil_left]; simpa using this)
     have HG6 := HG5
     have HX6 := HX5
     clear hem
     have HML1 := m_ (show (X ++ mrg E.key U1 V1).length = mid from by rw [List.length_append, mrg_length]; have := HLN.out; have := HL1.out; omega)
     have HR7 := m_ (show E.RW w5 ((X ++ mrg E.key U1 V1) ++ (U2 ++ (V2 ++ Z))) from by rw [List.append_assoc]; exact HR6.out)
     have hem : V2 = [] := List.eq_nil_of_length_eq_zero Z2
     have HR8 := m_ (show E.RW w5 ((X ++ mrg E.key U1 V1) ++ (mrg E.key U2 V2 ++ Z)) from by have := HR7.out; rw [hem] at this ⊢; rw [mrg_nil_right]; simpa using this)
     have HG8 := HG6
     clear hem
     go_end0
     exact ⟨rfl, by rw [HML.out]; have := HR8.out; simpa using this, HG8.out⟩
theorem symMergeF_any (E : SE) (O : E.Ok) : ∀ sz, SymF E sz := fun sz => by
 induction sz using Nat.strongRecOn with
 | ind sz IH =>
  intro a m b X U V Z w hsz hr ha hm hb hU0 hV0 hU hV
  by_cases h1 : U.length = 1
  ·obtain ⟨u, rfl⟩ := List.length_eq_one_iff.1 h1
   exact symMergeF_left E O a m b X V Z u w hr ha (by simpa using hm) (by simpa using hb) hV
  ·by_cases h2 : V.length = 1
   ·obtain ⟨v, rfl⟩ := List.length_eq_one_iff.1 h2
    exact symMergeF_right E O a m b X U Z v w hr ha hm (by simpa using hb) (by omega) hU
   ·exact symMergeF_gen E O sz IH a m b X U V Z w hsz hr ha hm hb (by omega) (by omega) hU hV
theorem kpre_get (X l : List S51) {a i : Nat} (ha : a = X.length) (h : a ≤ i) : (X ++ l)[i]? = l[i - a]? := by
 rw [List.getElem?_append_right (by omega), ha]
theorem kpre_set (X l : List S51) {a i : Nat} (ha : a = X.length) (h : a ≤ i) (v : S51) : (X ++ l).set i v = X ++ l.set (i - a) v := by
 rw [List.set_append_right _ _ (by omega), ha]
set_option maxHeartbeats 8000000 in
set_option maxRecDepth 100000 in
theorem insertF_gen (E : SE) (O : E.Ok) (a b c : Nat) (X xs : List S51) (w : World) (hr : E.RW w (X ++ xs)) (ha : a = X.length) (hb : b = a + c) (hc : c ≤ xs.length) (h2 : 2 ≤ c) :
  Calls Try.prog 131 #[.agg #[.func (.func 86) #[] E.lb, .func (.func E.sf) #[] E.sb], .int .i64 a, .int .i64 b] w fun e w' => e = .returned (.tuple #[]) ∧ E.RW w' (X ++ (isort E.key (xs.take c) ++ xs.drop c)) ∧ w.grownBy w' (some E.g) := by
 have hu165 := Try.underlying165
 have HO := m_ O
 have hn := O.nb
 have hgw : E.g < w.heap.size := Nat.lt_of_lt_of_le O.gb hr.grown.size
 have HR := m_ hr
 have hxl := hr.len.symm
 obtain ⟨n, hnE⟩ : ∃ n, E.n = n := ⟨_, rfl⟩
 rw [hnE] at hxl hn
 have HNE := m_ hnE
 clear hnE O
 rw [List.length_append] at hxl
 have bb : a + 2 ≤ b ∧ b ≤ n := by omega
 obtain ⟨bb1, bb2⟩ := bb
 have HXL := m_ (show X.length = a ∧ a + xs.length = n ∧ b = a + c ∧ c ≤ xs.length from by omega)
 clear hr hxl ha hb hc h2
 go_enter Try.func131, Try.ntmps131
 go_wp2_with (first | ((with_reducible refine a3_ (N := 3) rfl ?_); refine box_event ?hg (N := 3) ?hd (cs := #[.func (.func 86) #[] E.lb, .func (.func E.sf) #[] E.sb]) (t := 165) ?hr ?_; (case hd => rfl); (case hg => rfl); (case hr => first | (go_simp; done) | (go_simp; rfl)); intro gb hgb wb hxb hbb; have HXB := m_ hxb; have HRB := m_ (HR.out.below hbb); have HGB := m_ (d9_ (g := E.g) hbb); have hne : gb ≠ E.g := (by omega); clear hgb hxb hbb HR))
 go_loopw [6] (fun v6 wr => ∃ p : Nat, a + 1 ≤ p ∧ p ≤ b ∧ v6 = .int .i64 (p : Int) ∧ A_ (E.RW wr (X ++ (isort E.key (xs.take (p - a)) ++ xs.drop (p - a)))) ∧ A_ (w.grownBy wr (some E.g)) ∧ A_ (wr.heap[gb]? = some (.cells #[.func (.func 86) #[] E.lb, .func (.func E.sf) #[] E.sb] 165 (0, 0)))) (fun v6 _ => b - (intOf v6).toNat)
 case atStart => exact ⟨a + 1, Nat.le_refl _, by omega, by go_num, ⟨by
  have : isort E.key (xs.take (a + 1 - a)) ++ xs.drop (a + 1 - a) = xs := by
   rw [show a + 1 - a = 1 by omega]
   cases xs with
   | nil => rfl
   | cons x xs => simp [isort, insK]
  rw [this]; exact HRB.out⟩, HGB, HXB⟩
 case round =>
  clear HRB HGB HXB
  obtain ⟨p, hi1, hib, rfl, HA, HG, HX⟩ := hrel
  by_cases hlt : p < b
  ·have hlt' : (p : Int) < b := by omega
   obtain ⟨i, hpi⟩ : ∃ i, i = p - a := ⟨_, rfl⟩
   have hix : i < xs.length := by have := HXL.out; omega
   have hLl : (isort E.key (xs.take i)).length = i := by rw [(isort_perm E.key _).length_eq, List.length_take]; omega
   have hz : isort E.key (xs.take i) ++ xs.drop i = zAt (isort E.key (xs.take i)) xs[i] (xs.drop (i + 1)) i := by
    unfold zAt
    have t1 : (isort E.key (xs.take i)).take i = isort E.key (xs.take i) := List.take_of_length_le (by omega)
    have t2 : (isort E.key (xs.take i)).drop i = [] := List.drop_eq_nil_of_le (by omega)
    rw [t1, t2, List.nil_append, List.drop_eq_getElem_cons hix]
   have hstep := isort_take E.key xs i hix
   have hsrt := isort_sorted E.key (xs.take i)
   rw [← hpi, hz] at HA
   have hrl : (xs.drop (i + 1)).length = xs.length - (i + 1) := List.length_drop
   clear hz
   have HST := m_ hstep
   have HPI := m_ (And.intro hpi (show p + 1 - a = i + 1 by omega))
   clear hstep
   generalize hL : isort E.key (xs.take i) = L at *
   generalize hx : xs[i] = x at *
   generalize hre : xs.drop (i + 1) = rest at *
   have HSRT := m_ hsrt
   have HRE := m_ hre
   have HLL := m_ (show L.length = i ∧ a + i + 1 + rest.length = n ∧ i + a = p from by have := HXL.out; omega)
   clear hsrt hL hx hre hpi hLl hrl
   go_wp2
   obtain ⟨wo, hwo⟩ : ∃ wo : World, wo = wr := ⟨_, rfl⟩
   subst hwo
   go_loopg [7] p (fun kq v7 w2 => ∃ q : Nat, a ≤ q ∧ q ≤ p ∧ v7 = .int .i64 (q : Int) ∧ A_ (kq = q) ∧ A_ (∀ y ∈ L.drop (q - a), E.key x < E.key y) ∧ A_ (E.RW w2 (X ++ zAt L x rest (q - a))) ∧ A_ (w.grownBy w2 (some E.g)) ∧ A_ (w2.heap[gb]? = some (.cells #[.func (.func 86) #[] E.lb, .func (.func E.sf) #[] E.sb] 165 (0, 0))))
   case atStart => exact ⟨p, by omega, Nat.le_refl _, rfl, ⟨rfl⟩, ⟨fun y hy => by rw [List.drop_eq_nil_of_le (by have := HLL.out; omega)] at hy; cases hy⟩, ⟨by rw [← HPI.out.1]; exact HA.out⟩, HG, HX⟩
   case round =>
    clear HA HG HX
    obtain ⟨q, hqa, hj, rfl, HQ, HD, HA, HG, HX⟩ := hrel
    by_cases hq0 : q ≤ a
    ·have hqe : q - a = 0 := by omega
     have hdone : X ++ (isort E.key (xs.take (p + 1 - a)) ++ xs.drop (p + 1 - a)) = X ++ zAt L x rest (q - a) := by
      have hd := HD.out
      rw [hqe] at hd ⊢
      rw [HPI.out.2, HST.out, HRE.out, insK_at E.key x L 0 (by simp) hd]
      simp [zAt]
     rw [← hdone] at HA
     have hd1 : decide ((a : Int) < (q : Int)) = false := by simp; omega
     have hd2 : decide (a < q) = false := by simp; omega
     clear hdone hqe
     go_wp2
     go_roundw
     case rel => exact ⟨p + 1, by omega, by omega, by go_num, HA, HG, HX⟩
     case measure => simp [intOf]; omega
    ·obtain ⟨m, rfl⟩ : ∃ m, q = m + 1 := ⟨q - 1, by omega⟩
     have hm : m - a < L.length := by have := HLL.out; omega
     have hxp : (X ++ zAt L x rest (m + 1 - a))[m + 1]? = some x := by
      rw [kpre_get X _ HXL.out.1.symm (by omega)]; exact zAt_get L x rest (m + 1 - a) (by omega)
     have hyp : (X ++ zAt L x rest (m + 1 - a))[m]? = some L[m - a] := by
      rw [kpre_get X _ HXL.out.1.symm (by omega), show m + 1 - a = m - a + 1 by omega]; exact zAt_get1 L x rest (m - a) hm
     have hzs : ((X ++ zAt L x rest (m + 1 - a)).set (m + 1) L[m - a]).set m x = X ++ zAt L x rest (m - a) := by
      rw [kpre_set X _ HXL.out.1.symm (by omega), kpre_set X _ HXL.out.1.symm (by omega), show m + 1 - a = m - a + 1 by omega, zAt_step L x rest (m - a) hm]
     have hd := List.drop_eq_getElem_cons hm
     have ht := List.take_succ_eq_append_getElem hm
     generalize L[m - a] = y at *
     have HZS := m_ hzs
     have HXP := m_ hxp
     have HYP := m_ hyp
     have HDR := m_ hd
     have HTK := m_ ht
     clear hzs hd ht hxp hyp
     have e1 : IntKind.i64.wrap (m : Int) = (m : Int) := by rw [IntKind.wrap_i64]; omega
     have i0 : (0 : Int) ≤ (m : Int) + 1 := by omega
     have i1 : (a : Int) < (m : Int) + 1 := by omega
     have i2 : (m : Int) + 1 < n := by omega
     have i3 : (m : Int) < n := by omega
     have i4 : ((m : Int) + 1).toNat = m + 1 := by omega
     have hcall := HO.out.less wr _ (m + 1) m x y HA.out HXP.out HYP.out
     have l0 : wr.cell? ⟨gb, 0, none⟩ = some (.func (.func 86) #[] E.lb) := (a0_ HX.out 0).trans rfl
     have i5 : (m : Int) + 1 - 1 = (m : Int) := by omega
     have i6 : IntKind.i64.wrap ((m : Int) + 1 - 1) = (m : Int) := by rw [IntKind.wrap_i64]; omega
     push_cast at hcall
     by_cases hlt2 : E.key x < E.key y
     ·rw [decide_eq_true hlt2] at hcall
      have HLT := m_ hlt2
      have HC := m_ hcall
      clear hlt2 hcall
      go_wp2_with (go_at_call 86; refine HC.out.mono ?_; rintro e w4 ⟨rfl, hb4⟩; have HA4 := m_ (HA.out.below hb4); have HG4 := m_ (e0_ HG.out hb4); have HX4 := m_ (a1_ HX.out hb4); clear hb4; have l1 : w4.cell? ⟨gb, 1, none⟩ = some (.func (.func E.sf) #[] E.sb) := (a0_ HX4.out 1).trans rfl)
      obtain ⟨W', hrun, hrw, hgr⟩ := HO.out.swap w4 _ (m + 1) m x y HA4.out HXP.out HYP.out
      rw [HZS.out] at hrw
      push_cast at hrun
      have HR5 := m_ hrw
      have HG5 := m_ (b0_ HG4.out hgr)
      have HX5 := m_ (grown_box HX4.out hgr hne)
      clear hrw hgr
      try rw [hrun, Oper.upon_value]
      try clear hrun
      go_wp2
      go_roundg m
      case rel => exact ⟨m, by omega, by omega, rfl, ⟨rfl⟩, ⟨fun z hz => by
       rw [HDR.out] at hz
       rcases List.mem_cons.1 hz with rfl | hz
       ·exact HLT.out
       ·exact HD.out z (by rw [show m + 1 - a = m - a + 1 by omega]; exact hz)⟩, HR5, HG5, HX5⟩
      case measure => have := HQ.out; omega
     ·rw [decide_eq_false hlt2] at hcall
      have HLT := m_ hlt2
      have HC := m_ hcall
      clear hlt2 hcall
      go_wp2_with (go_at_call 86; refine HC.out.mono ?_; rintro e w4 ⟨rfl, hb4⟩; have HA4 := m_ (HA.out.below hb4); have HG4 := m_ (e0_ HG.out hb4); have HX4 := m_ (a1_ HX.out hb4); clear hb4)
      have hdone : X ++ (isort E.key (xs.take (p + 1 - a)) ++ xs.drop (p + 1 - a)) = X ++ zAt L x rest (m + 1 - a) := by
       have hd := HD.out
       rw [show m + 1 - a = m - a + 1 by omega] at hd ⊢
       rw [HPI.out.2, HST.out, HRE.out, insK_at E.key x L (m - a + 1) (fun z hz => by
        rw [HTK.out] at hz
        have hp := HSRT.out
        rw [← List.take_append_drop (m - a) L, List.pairwise_append] at hp
        rcases List.mem_append.1 hz with hz | hz
        ·have := hp.2.2 z hz y (by rw [HDR.out]; simp)
         have := HLT.out
         omega
        ·obtain rfl := List.mem_singleton.1 hz
         have := HLT.out
         omega) hd]
       simp [zAt]
      rw [← hdone] at HA4
      clear hdone
      go_roundw
      case rel => exact ⟨p + 1, by omega, by omega, by go_num, HA4, HG4, HX4⟩
      case measure => simp [intOf]; omega
  ·have hlt' : ¬ (p : Int) < b := by omega
   obtain rfl : p = b := by omega
   have hpc : p - a = c := by have := HXL.out; omega
   rw [hpc] at HA
   go_wp2
   go_end0
   exact ⟨rfl, HA.out, HG.out⟩
set_option maxHeartbeats 4000000 in
theorem insertF_none (E : SE) (a b : Nat) (hb : b ≤ a + 1) (ha : a ≤ 4611686018427387904) (w : World) :
  Calls Try.prog 131 #[.agg #[.func (.func 86) #[] E.lb, .func (.func E.sf) #[] E.sb], .int .i64 a, .int .i64 b] w fun e w' => e = .returned (.tuple #[]) ∧ Below w.heap.size w w' := by
 have hu165 := Try.underlying165
 go_enter Try.func131, Try.ntmps131
 go_wp2_with (first | ((with_reducible refine a3_ (N := 3) rfl ?_); refine box_event ?hg (N := 3) ?hd (cs := #[.func (.func 86) #[] E.lb, .func (.func E.sf) #[] E.sb]) (t := 165) ?hr ?_; (case hd => rfl); (case hg => rfl); (case hr => first | (go_simp; done) | (go_simp; rfl)); intro gb hgb wb hxb hbb; have HBB := m_ hbb; clear hgb hxb hbb))
 refine wp_loop_rounds 1 ?_
 rw [rounds_succ]
 have e1 : ¬ (a : Int) + 1 < (b : Int) := by omega
 try go_wp2
 go_end0
 exact ⟨rfl, HBB.out⟩
theorem insertF_part (E : SE) (O : E.Ok) (a b c : Nat) (X xs : List S51) (w : World) (hr : E.RW w (X ++ xs)) (ha : a = X.length) (hb : b = a + c) (hc : c ≤ xs.length) :
  Calls Try.prog 131 #[.agg #[.func (.func 86) #[] E.lb, .func (.func E.sf) #[] E.sb], .int .i64 a, .int .i64 b] w fun e w' => e = .returned (.tuple #[]) ∧ E.RW w' (X ++ (isort E.key (xs.take c) ++ xs.drop c)) ∧ w.grownBy w' (some E.g) := by
 by_cases h2 : 2 ≤ c
 ·exact insertF_gen E O a b c X xs w hr ha hb hc h2
 ·have hl := hr.len
  have hn := O.nb
  rw [List.length_append] at hl
  refine (insertF_none E a b (by omega) (by omega) w).mono ?_
  rintro e w' ⟨rfl, hbl⟩
  rw [isort_one E.key (xs.take c) (by rw [List.length_take]; omega), List.take_append_drop]
  exact ⟨rfl, hr.below hbl, d9_ hbl⟩
end Go.Proofs.Ytckhjehibjdjdaa.P
namespace Go.Proofs.Ytckhjehibjdjdaa.P
section
variable {α : Type} (key : α → Int)
def sp (bs : Nat) : Nat → List α → List α
 | 0, _ => []
 | k + 1, l => isort key (l.take bs) ++ sp bs k (l.drop bs)
def sc (bs : Nat) (l : List α) : List α := sp key bs (l.length / bs) l ++ isort key (l.drop (bs * (l.length / bs)))
theorem isort_len (l : List α) : (isort key l).length = l.length := (isort_perm key l).length_eq
theorem sp_len (bs : Nat) : ∀ (k : Nat) (l : List α), bs * k ≤ l.length → (sp key bs k l).length = bs * k
 | 0, _, _ => by simp [sp]
 | k + 1, l, h => by
  rw [Nat.mul_succ] at h ⊢
  rw [sp, List.length_append, isort_len, List.length_take, sp_len bs k (l.drop bs) (by rw [List.length_drop]; omega)]
  omega
theorem sp_snoc (bs : Nat) : ∀ (k : Nat) (l : List α), sp key bs (k + 1) l = sp key bs k l ++ isort key ((l.drop (bs * k)).take bs)
 | 0, l => by simp [sp]
 | k + 1, l => by
  have e : (l.drop bs).drop (bs * k) = l.drop (bs * (k + 1)) := by rw [List.drop_drop]; congr 1; rw [Nat.mul_succ]; omega
  rw [sp, sp_snoc bs k (l.drop bs), sp, e, List.append_assoc]
theorem sc_small (bs : Nat) (l : List α) (h0 : 0 < bs) (h : l.length ≤ bs) : sc key bs l = isort key l := by
 unfold sc
 by_cases e : l.length = bs
 ·rw [e, Nat.div_self h0, sp, sp, List.take_of_length_le (by omega), List.drop_eq_nil_of_le (by omega)]
  simp [isort]
 ·rw [Nat.div_eq_of_lt (by omega)]; simp [sp]
theorem sc_cons (bs : Nat) (l : List α) (h0 : 0 < bs) (h : bs ≤ l.length) : sc key bs l = isort key (l.take bs) ++ sc key bs (l.drop bs) := by
 have e : l.length / bs = (l.drop bs).length / bs + 1 := by
  rw [List.length_drop]
  have : l.length = (l.length - bs) + bs := by omega
  rw [this, Nat.add_div_right _ h0]; simp
 have e2 : l.drop (bs * ((l.drop bs).length / bs + 1)) = (l.drop bs).drop (bs * ((l.drop bs).length / bs)) := by
  rw [List.drop_drop]; congr 1; rw [Nat.mul_succ]; omega
 unfold sc
 rw [e, sp, List.append_assoc, e2]
theorem sc_two (bs : Nat) (l : List α) (h0 : 0 < bs) (h : 2 * bs ≤ l.length) : sc key bs l = isort key (l.take bs) ++ (isort key ((l.drop bs).take bs) ++ sc key bs (l.drop (2 * bs))) := by
 rw [sc_cons key bs l h0 (by omega), sc_cons key bs (l.drop bs) h0 (by rw [List.length_drop]; omega), List.drop_drop, show bs + bs = 2 * bs by omega]
theorem take_two (bs : Nat) (l : List α) : l.take (2 * bs) = l.take bs ++ (l.drop bs).take bs := by
 rw [show 2 * bs = bs + bs by omega, List.take_add]
theorem sc_part (bs : Nat) (l : List α) (h0 : 0 < bs) (h1 : bs ≤ l.length) (h2 : l.length < 2 * bs) : sc key bs l = isort key (l.take bs) ++ isort key (l.drop bs) := by
 rw [sc_cons key bs l h0 h1, sc_small key bs (l.drop bs) h0 (by rw [List.length_drop]; omega)]
end
end Go.Proofs.Ytckhjehibjdjdaa.P
namespace Go.Proofs.Ytckhjehibjdjdaa.P
open Go.RowKit Go.Shelf Go.Proofs.YtckhjehibjdjdaaW.PrintWords Go.Proofs.YtckhjehibjdjdaaW.PrintLast Go.Proofs.YtckhjehibjdjdaaW.PrintMore
attribute [local go_sem] Oper.semAt_some
set_option maxHeartbeats 16000000 in
set_option maxRecDepth 100000 in
theorem stableF (E : SE) (O : E.Ok) (xs : List S51) (w : World) (hr : E.RW w xs) :
  Calls Try.prog 110 #[.agg #[.func (.func 86) #[] E.lb, .func (.func E.sf) #[] E.sb], .int .i64 E.n] w fun e w' => e = .returned (.tuple #[]) ∧ E.RW w' (isort E.key xs) ∧ w.grownBy w' (some E.g) := by
 have hu165 := Try.underlying165
 have HO := m_ O
 have hgw : E.g < w.heap.size := Nat.lt_of_lt_of_le O.gb hr.grown.size
 have hn := O.nb
 have hxl := hr.len.symm
 obtain ⟨n, hnE⟩ : ∃ n, E.n = n := ⟨_, rfl⟩
 rw [hnE] at hxl hn ⊢
 have HNE := m_ hnE
 clear hnE O
 have HR := m_ hr
 have HXL := m_ hxl
 clear hr hxl
 go_enter Try.func110, Try.ntmps110
 go_wp2_with (first | ((with_reducible refine a3_ (N := 2) rfl ?_); refine box_event ?hg (N := 2) ?hd (cs := #[.func (.func 86) #[] E.lb, .func (.func E.sf) #[] E.sb]) (t := 165) ?hr ?_; (case hd => rfl); (case hg => rfl); (case hr => first | (go_simp; done) | (go_simp; rfl)); intro gb hgb wb hxb hbb; have HXB := m_ hxb; have HRB := m_ (HR.out.below hbb); have HGB := m_ (d9_ (g := E.g) hbb); have hne : gb ≠ E.g := (by omega); clear hgb hxb hbb HR))
 go_loopw [5, 6] (fun v5 v6 wr => ∃ (i a b : Nat), v5 = .int .i64 (a : Int) ∧ v6 = .int .i64 (b : Int) ∧ A_ (a = 20 * i ∧ b = 20 * i + 20) ∧ a ≤ n ∧ A_ (E.RW wr (sp E.key 20 i xs ++ xs.drop (20 * i))) ∧ A_ (w.grownBy wr (some E.g)) ∧ A_ (wr.heap[gb]? = some (.cells #[.func (.func 86) #[] E.lb, .func (.func E.sf) #[] E.sb] 165 (0, 0)))) (fun v5 _ _ => n - (intOf v5).toNat)
 case atStart => exact ⟨0, 0, 20, rfl, rfl, ⟨by omega⟩, Nat.zero_le _, ⟨by simpa [sp] using HRB.out⟩, HGB, HXB⟩
 case round =>
  clear HRB HGB HXB
  obtain ⟨i, a, b, rfl, rfl, HI, han, HA, HG, HX⟩ := hrel
  by_cases hlt : b ≤ n
  ·have hlt' : (b : Int) ≤ n := by omega
   have HC := m_ (insertF_part E HO.out a b 20 (sp E.key 20 i xs) (xs.drop (20 * i)) wr HA.out (by rw [sp_len E.key 20 i xs (by have := HI.out; have := HXL.out; omega)]; exact HI.out.1) (by have := HI.out; omega) (by rw [List.length_drop]; have := HI.out; have := HXL.out; omega))
   have HE := m_ (show sp E.key 20 i xs ++ (isort E.key ((xs.drop (20 * i)).take 20) ++ (xs.drop (20 * i)).drop 20) = sp E.key 20 (i + 1) xs ++ xs.drop (20 * (i + 1)) from by
    rw [sp_snoc, List.append_assoc, List.drop_drop, Nat.mul_succ])
   clear HA
   have hcz0 : wr.cell? ⟨gb, 0, none⟩ = some (.func (.func 86) #[] E.lb) := (a0_ HX.out 0).trans rfl
   have hcz1 : wr.cell? ⟨gb, 1, none⟩ = some (.func (.func E.sf) #[] E.sb) := (a0_ HX.out 1).trans rfl
   have hfz0 := a2_ HX.out 0
   have hfz1 := a2_ HX.out 1
   go_wp2_with (go_at_call 131; refine HC.out.mono ?_; rintro e w5 ⟨rfl, hr5, hg5⟩; rw [HE.out] at hr5; have HR5 := m_ hr5; have HG5 := m_ (b0_ HG.out hg5); have HX5 := m_ (grown_box HX.out hg5 hne); clear hr5 hg5 hcz0 hcz1 hfz0 hfz1)
   go_roundw
   case rel => exact ⟨i + 1, b, b + 20, rfl, by go_num, ⟨by have := HI.out; omega⟩, hlt, HR5, HG5, HX5⟩
   case measure => simp [intOf]; have := HI.out; omega
  ·have hlt' : ¬ (b : Int) ≤ n := by omega
   have hdiv : n / 20 = i := by have := HI.out; omega
   have hC := insertF_part E HO.out a n (n - a) (sp E.key 20 i xs) (xs.drop (20 * i)) wr HA.out (by rw [sp_len E.key 20 i xs (by have := HI.out; have := HXL.out; omega)]; exact HI.out.1) (by omega) (by rw [List.length_drop]; have := HI.out; have := HXL.out; omega)
   have HE := m_ (show sp E.key 20 i xs ++ (isort E.key ((xs.drop (20 * i)).take (n - a)) ++ (xs.drop (20 * i)).drop (n - a)) = sc E.key 20 xs from by
    unfold sc
    rw [← HXL.out, hdiv, List.take_of_length_le (by rw [List.length_drop]; have := HI.out; have := HXL.out; omega), show (xs.drop (20 * i)).drop (n - a) = [] from List.drop_eq_nil_of_le (by rw [List.length_drop]; have := HI.out; have := HXL.out; omega), List.append_nil])
   have HC := m_ hC
   clear HA hC hdiv
   have hcz0 : wr.cell? ⟨gb, 0, none⟩ = some (.func (.func 86) #[] E.lb) := (a0_ HX.out 0).trans rfl
   have hcz1 : wr.cell? ⟨gb, 1, none⟩ = some (.func (.func E.sf) #[] E.sb) := (a0_ HX.out 1).trans rfl
   have hfz0 := a2_ HX.out 0
   have hfz1 := a2_ HX.out 1
   go_wp2_with (go_at_call 131; refine HC.out.mono ?_; rintro e w5 ⟨rfl, hr5, hg5⟩; rw [HE.out] at hr5; have HR5 := m_ hr5; have HG5 := m_ (b0_ HG.out hg5); have HX5 := m_ (grown_box HX.out hg5 hne); clear hr5 hg5 hcz0 hcz1 hfz0 hfz1)
   clear HC HE HG HX HI hlt hlt' han
   go_loopw [4, 5, 6, 7] (fun v4 v5 v6 v7 wr => ∃ bs : Nat, v4 = .int .i64 (bs : Int) ∧ 20 ≤ bs ∧ bs ≤ 200000000000 ∧ A_ (E.RW wr (sc E.key bs xs)) ∧ A_ (w.grownBy wr (some E.g)) ∧ A_ (wr.heap[gb]? = some (.cells #[.func (.func 86) #[] E.lb, .func (.func E.sf) #[] E.sb] 165 (0, 0)))) (fun v4 _ _ _ _ => n - (intOf v4).toNat)
   case atStart => exact ⟨20, rfl, by omega, by omega, HR5, HG5, HX5⟩
   case round =>
    clear HR5 HG5 HX5
    obtain ⟨bs, rfl, hb20, hbM, HA, HG, HX⟩ := hrel
    by_cases hbn : bs < n
    ·have hbn' : (bs : Int) < n := by omega
     go_wp2
     obtain ⟨wo, hwo⟩ : ∃ wo : World, wo = wr := ⟨_, rfl⟩
     subst hwo
     go_loopw [5, 6] (fun v5 v6 wr => ∃ (i a b : Nat), v5 = .int .i64 (a : Int) ∧ v6 = .int .i64 (b : Int) ∧ A_ (a = 2 * bs * i ∧ b = 2 * bs * i + 2 * bs) ∧ a ≤ n ∧ b ≤ n + 2 * bs ∧ A_ (E.RW wr (sp E.key (2 * bs) i xs ++ sc E.key bs (xs.drop (2 * bs * i)))) ∧ A_ (w.grownBy wr (some E.g)) ∧ A_ (wr.heap[gb]? = some (.cells #[.func (.func 86) #[] E.lb, .func (.func E.sf) #[] E.sb] 165 (0, 0)))) (fun v5 _ _ => n - (intOf v5).toNat)
     case atStart => exact ⟨0, 0, 2 * bs, rfl, by go_num, ⟨by omega⟩, Nat.zero_le _, by omega, ⟨by simpa [sp] using HA.out⟩, HG, HX⟩
     case round =>
      clear HA HG HX
      obtain ⟨i, a, b, rfl, rfl, HI, han, hbb, HA, HG, HX⟩ := hrel
      have hspl : (sp E.key (2 * bs) i xs).length = a := by rw [sp_len E.key (2 * bs) i xs (by have := HI.out; have := HXL.out; omega)]; exact HI.out.1.symm
      by_cases hlt : b ≤ n
      ·have hlt' : (b : Int) ≤ n := by omega
       have hll : 2 * bs ≤ (xs.drop (2 * bs * i)).length := by rw [List.length_drop]; have := HI.out; have := HXL.out; omega
       have h2 := sc_two E.key bs (xs.drop (2 * bs * i)) (by omega) hll
       have hAr := HA.out
       rw [h2] at hAr
       have l1 : (isort E.key ((xs.drop (2 * bs * i)).take bs)).length = bs := by rw [isort_len, List.length_take]; omega
       have l2 : (isort E.key (((xs.drop (2 * bs * i)).drop bs).take bs)).length = bs := by rw [isort_len, List.length_take, List.length_drop]; omega
       have HC := m_ (symMergeF_any E HO.out _ a (a + bs) b _ _ _ _ wr rfl hAr hspl.symm (by omega) (by have := HI.out; omega) (by omega) (by omega) (isort_sorted E.key _) (isort_sorted E.key _))
       have HE := m_ (show sp E.key (2 * bs) i xs ++ (mrg E.key (isort E.key ((xs.drop (2 * bs * i)).take bs)) (isort E.key (((xs.drop (2 * bs * i)).drop bs).take bs)) ++ sc E.key bs ((xs.drop (2 * bs * i)).drop (2 * bs))) = sp E.key (2 * bs) (i + 1) xs ++ sc E.key bs (xs.drop (2 * bs * (i + 1))) from by
        rw [← isort_append, ← take_two, sp_snoc, List.append_assoc, List.drop_drop, Nat.mul_succ])
       have e2 : IntKind.i64.wrap ((a : Int) + (bs : Int)) = ((a + bs : Nat) : Int) := by rw [IntKind.wrap_i64]; omega
       have e3 : IntKind.i64.wrap ((a + bs : Nat) : Int) = ((a + bs : Nat) : Int) := by rw [IntKind.wrap_i64]; omega
       clear HA hAr l1 l2 h2 hll hspl
       have hcz0 : wr.cell? ⟨gb, 0, none⟩ = some (.func (.func 86) #[] E.lb) := (a0_ HX.out 0).trans rfl
       have hcz1 : wr.cell? ⟨gb, 1, none⟩ = some (.func (.func E.sf) #[] E.sb) := (a0_ HX.out 1).trans rfl
       have hfz0 := a2_ HX.out 0
       have hfz1 := a2_ HX.out 1
       go_wp2_with (go_at_call 132; refine HC.out.mono ?_; rintro e w5 ⟨rfl, hr5, hg5⟩; rw [HE.out] at hr5; have HR5 := m_ hr5; have HG5 := m_ (b0_ HG.out hg5); have HX5 := m_ (grown_box HX.out hg5 hne); clear hr5 hg5 hcz0 hcz1 hfz0 hfz1)
       go_roundw
       case rel => exact ⟨i + 1, b, b + 2 * bs, rfl, by first | go_num | exact int_i64 (by omega), ⟨by have := HI.out; rw [Nat.mul_succ]; omega⟩, hlt, by omega, HR5, HG5, HX5⟩
       case measure => simp [intOf]; have := HI.out; omega
      ·have hlt' : ¬ (b : Int) ≤ n := by omega
       have hll : (xs.drop (2 * bs * i)).length = n - a ∧ n - a < 2 * bs := by rw [List.length_drop]; have := HI.out; have := HXL.out; omega
       have hdiv : n / (2 * bs) = i := by
        have h1 := HI.out
        exact Nat.div_eq_of_lt_le (by rw [Nat.mul_comm]; omega) (by rw [Nat.mul_comm, Nat.mul_succ]; omega)
       have HSC := m_ (show sc E.key (2 * bs) xs = sp E.key (2 * bs) i xs ++ isort E.key (xs.drop (2 * bs * i)) from by unfold sc; rw [← HXL.out, hdiv])
       by_cases hm : a + bs < n
       ·have hm' : (a : Int) + (bs : Int) < n := by omega
        have hm2 : ((a + bs : Nat) : Int) < n := by omega
        have h2 := sc_part E.key bs (xs.drop (2 * bs * i)) (by omega) (by omega) (by omega)
        have hAr := HA.out
        rw [h2, ← List.append_nil (isort E.key ((xs.drop (2 * bs * i)).drop bs))] at hAr
        have l1 : (isort E.key ((xs.drop (2 * bs * i)).take bs)).length = bs := by rw [isort_len, List.length_take]; omega
        have l2 : (isort E.key ((xs.drop (2 * bs * i)).drop bs)).length = n - a - bs := by rw [isort_len, List.length_drop]; omega
        have HC := m_ (symMergeF_any E HO.out _ a (a + bs) n _ _ _ _ wr rfl hAr hspl.symm (by omega) (by omega) (by omega) (by omega) (isort_sorted E.key _) (isort_sorted E.key _))
        have HE := m_ (show sp E.key (2 * bs) i xs ++ (mrg E.key (isort E.key ((xs.drop (2 * bs * i)).take bs)) (isort E.key ((xs.drop (2 * bs * i)).drop bs)) ++ []) = sc E.key (2 * bs) xs from by
         rw [← isort_append, List.take_append_drop, List.append_nil, HSC.out])
        have e2 : IntKind.i64.wrap ((a : Int) + (bs : Int)) = ((a + bs : Nat) : Int) := by rw [IntKind.wrap_i64]; omega
        have e3 : IntKind.i64.wrap ((a + bs : Nat) : Int) = ((a + bs : Nat) : Int) := by rw [IntKind.wrap_i64]; omega
        clear HA hAr l1 l2 h2 hll hspl hdiv
        have hcz0 : wr.cell? ⟨gb, 0, none⟩ = some (.func (.func 86) #[] E.lb) := (a0_ HX.out 0).trans rfl
        have hcz1 : wr.cell? ⟨gb, 1, none⟩ = some (.func (.func E.sf) #[] E.sb) := (a0_ HX.out 1).trans rfl
        have hfz0 := a2_ HX.out 0
        have hfz1 := a2_ HX.out 1
        go_wp2_with (go_at_call 132; refine HC.out.mono ?_; rintro e w5 ⟨rfl, hr5, hg5⟩; rw [HE.out] at hr5; have HR5 := m_ hr5; have HG5 := m_ (b0_ HG.out hg5); have HX5 := m_ (grown_box HX.out hg5 hne); clear hr5 hg5 hcz0 hcz1 hfz0 hfz1)
        go_roundw
        case rel => exact ⟨2 * bs, by first | go_num | exact int_i64 (by omega), by omega, by omega, HR5, HG5, HX5⟩
        case measure => simp [intOf]; omega
       ·have hm' : ¬ (a : Int) + (bs : Int) < n := by omega
        have hAr := HA.out
        rw [sc_small E.key bs (xs.drop (2 * bs * i)) (by omega) (by omega), ← HSC.out] at hAr
        have HR5 := m_ hAr
        clear HA hAr hll hspl hdiv
        go_wp2
        go_roundw
        case rel => exact ⟨2 * bs, by first | go_num | exact int_i64 (by omega), by omega, by omega, HR5, HG, HX⟩
        case measure => simp [intOf]; omega
    ·have hbn' : ¬ (bs : Int) < n := by omega
     have hfin := HA.out
     rw [sc_small E.key bs xs (by omega) (by have := HXL.out; omega)] at hfin
     have HF := m_ hfin
     clear hfin HA
     go_wp2
     go_end0
     exact ⟨rfl, HF.out, HG.out⟩
end Go.Proofs.Ytckhjehibjdjdaa.P
namespace Go.Proofs.Ytckhjehibjdjdaa.P
open Go.RowKit Go.Shelf Go.Proofs.YtckhjehibjdjdaaW.PrintWords Go.Proofs.YtckhjehibjdjdaaW.PrintLast Go.Proofs.YtckhjehibjdjdaaW.PrintMore
open Go.Proofs.Ytckhjehibjdjdaa.Bits
attribute [local go_sem] Oper.semAt_some
structure KP (w W : World) (S : Nat → Prop) : Prop where
 kept : Kept w W S
 os : W.os = w.os
 tape : W.tape = w.tape
 output : W.output = w.output
theorem KP.refl (w : World) (S : Nat → Prop) : KP w w S := ⟨Kept.refl _ _, rfl, rfl, rfl⟩
theorem KP.below {w W W' : World} {S : Nat → Prop} (h : KP w W S) (hb : Below W.heap.size W W') : KP w W' S := ⟨h.kept.below hb, hb.os.trans h.os, hb.tape.trans h.tape, hb.output.trans h.output⟩
theorem KP.set {w W : World} {S : Nat → Prop} (h : KP w W S) {g j : Nat} (hs : S g ∨ w.heap.size ≤ g) (u : Value) : KP w (W.setCell ⟨g, j, none⟩ u) S := ⟨h.kept.setCell hs u, h.os, h.tape, h.output⟩
theorem KP.drew {w W : World} {S : Nat → Prop} (h : KP w W S) : KP w W.drew S := ⟨h.kept.drew, h.os, h.tape, h.output⟩
def addU (same : Bool) (a : Int × Int) (s : S52) : Int × Int := if same = true then (wrap64 (a.1 + popI s.f1), wrap64 (a.2 + s.f2)) else a
def addL (same : Bool) (a : Int × Int) (l : List S52) : Int × Int := l.foldl (addU same) a
def maskOk (s : S52) : Bool := decide (0 ≤ s.f1) && decide (s.f1 < 18446744073709551616)
end Go.Proofs.Ytckhjehibjdjdaa.P
namespace Go.Proofs.Ytckhjehibjdjdaa.P
open Go.RowKit Go.Proofs.YtckhjehibjdjdaaW.PrintWords Go.Proofs.YtckhjehibjdjdaaW.PrintLast Go.Proofs.YtckhjehibjdjdaaW.PrintMore
attribute [local go_sem] max2_int min2_int max_two min_two max_three min_three max_four min_four

end Go.Proofs.Ytckhjehibjdjdaa.P
namespace Go.Proofs.Ytckhjehibjdjdaa.P
open Go.RowKit Go.Proofs.YtckhjehibjdjdaaW.PrintWords Go.Proofs.YtckhjehibjdjdaaW.PrintLast Go.Proofs.YtckhjehibjdjdaaW.PrintMore
attribute [local go_sem] max2_int min2_int max_two min_two max_three min_three max_four min_four
attribute [local go_sem] cellBx frozBx
end Go.Proofs.Ytckhjehibjdjdaa.P
namespace Go.Proofs.Ytckhjehibjdjdaa.P
open Go.RowKit Go.Proofs.YtckhjehibjdjdaaW.PrintWords Go.Proofs.YtckhjehibjdjdaaW.PrintLast Go.Proofs.YtckhjehibjdjdaaW.PrintMore
attribute [local go_sem] max2_int min2_int max_two min_two max_three min_three max_four min_four
end Go.Proofs.Ytckhjehibjdjdaa.P
namespace Go.Proofs.Ytckhjehibjdjdaa.P
open Go.RowKit Go.Proofs.YtckhjehibjdjdaaW.PrintWords
open Go.Proofs.Ytckhjehibjdjdaa.Bits Go.Proofs.Ytckhjehibjdjdaa.Mp
theorem w_id {x : Int} (h : -9223372036854775808 ≤ x ∧ x ≤ 9223372036854775807) : wrap64 x = x := by unfold wrap64; omega
theorem rd51' (l : List S51) (i : Nat) (h : i < l.length) : a4_ l (i : Int) = l[i] := by
 simp [a4_, List.getD_eq_getElem?_getD, List.getElem?_eq_getElem h]
def freeOk (f : S51) : Bool := decide (0 ≤ f.f1) && decide (f.f1 < 18446744073709551616) && w64B f.f2
theorem eachI_nn {a b : Int} (ha : 0 ≤ a) (hb : 0 ≤ b) : 0 ≤ eachI a b := by
 unfold eachI; split
 ·omega
 ·exact Int.ediv_nonneg ha hb
theorem fitV_bd (g c mn mx m cp : Int) : 0 ≤ fitV g c mn mx m cp ∧ fitV g c mn mx m cp ≤ 16 := by
 unfold fitV
 split
 ·rename_i h
  have hg := h.1
  simp only [c4_, Bool.and_eq_true, decide_eq_true_eq] at hg
  have h1 := eachI_nn (popI_bd m).1 (show 0 ≤ g by omega)
  have h2 := eachI_nn h.2 (show 0 ≤ c by omega)
  unfold fitN
  omega
 ·omega
def roomS (g c mn mx : Int) (view : List S51) : Int := (view.map fun f => fitV g c mn mx f.f1 f.f2).sum
def rightB (m g c mn mx : Int) : Bool := c4_ g c mn mx && decide (1 ≤ m) && decide (m ≤ 16)
def fitsB (view : List S51) (lg lc m g c mn mx : Int) : Bool := rightB m g c mn mx && decide (g * m ≤ lg) && decide (c * m ≤ lc) && decide (m ≤ roomS g c mn mx view)
def goE (q m g c mn mx : Int) : List S41 → Int → List S51 → Int × Int → Int
 | [], t, view, left => if fitsB view left.1 left.2 m g c mn mx = true then t else 1073741825
 | h :: l, t, view, left =>
  if h.f2 > t then
   if fitsB view left.1 left.2 m g c mn mx = true then t
   else if h.f2 ≥ 1073741825 then 1073741825
   else goE q m g c mn mx l h.f2 (turned51 moreE moreF view h.f4).1 (addL (decide (h.f1 = q)) left h.f4)
  else goE q m g c mn mx l t (turned51 moreE moreF view h.f4).1 (addL (decide (h.f1 = q)) left h.f4)
def skey41 (h : S41) : Int := h.f2
def earliestB (now : Int) (view : List S51) (lg lc : Int) (ends : List S41) (q m g c mn mx : Int) : Int × Int :=
 if now < 0 ∨ now > 1073741824 ∨ rightB m g c mn mx = false then (0, 1)
 else if (turned51 moreE moreF view (ends.flatMap fun h => h.f4)).2 ≠ 0 then (0, (turned51 moreE moreF view (ends.flatMap fun h => h.f4)).2)
 else (goE q m g c mn mx (isort skey41 ends) now view (lg, lc), 0)
def okE (view : List S51) (ends : List S41) : Bool := decide (ends.length ≤ 1000) && spotsOk view (ends.flatMap fun h => h.f4) && view.all freeOk && (ends.flatMap fun h => h.f4).all maskOk && decide ((ends.flatMap fun h => h.f4).length < 4000000000)
def promise_Earliest.f (now : Int) (view : List S51) (lg lc : Int) (ends : List S41) (q m g c mn mx : Int) : Option (Int × Int) := if okE view ends = true then some (earliestB now view lg lc ends q m g c mn mx) else none
theorem or_u64 {a b : Int} (ha : 0 ≤ a ∧ a < 18446744073709551616) (hb : 0 ≤ b ∧ b < 18446744073709551616) : 0 ≤ Go.bits .or .u64 a b ∧ Go.bits .or .u64 a b < 18446744073709551616 := by
 obtain ⟨x, rfl⟩ := Int.eq_ofNat_of_zero_le ha.1
 obtain ⟨y, rfl⟩ := Int.eq_ofNat_of_zero_le hb.1
 rw [bits_or_u64_nat x y (by omega) (by omega)]
 have := Nat.or_lt_two_pow (x := x) (y := y) (n := 64) (by omega) (by omega)
 omega
theorem w64_wrap (x : Int) : w64B (wrap64 x) = true := by unfold w64B wrap64; simp; omega
def viewOk (view : List S51) : Prop := view.length < 4398046511104 ∧ (∀ f ∈ view, freeOk f = true) ∧ ∀ f ∈ view, (w64B f.f0.f0 && w64B f.f0.f1) = true
theorem moreF_ok {f : S51} {s : S52} (hf : freeOk f = true) (hs : maskOk s = true) : freeOk (moreF f s) = true := by
 simp only [freeOk, maskOk, Bool.and_eq_true, decide_eq_true_eq] at *
 have := or_u64 hf.1 hs
 exact ⟨this, w64_wrap _⟩
end Go.Proofs.Ytckhjehibjdjdaa.P
namespace Go.Proofs.Ytckhjehibjdjdaa.P
open Go.RowKit Go.Shelf Go.Proofs.YtckhjehibjdjdaaW.PrintWords Go.Proofs.YtckhjehibjdjdaaW.PrintLast Go.Proofs.YtckhjehibjdjdaaW.PrintMore
attribute [local go_sem] Oper.semAt_some
def enc51 (x : S51) : List Value := [.int .i64 x.f0.f0, .int .i64 x.f0.f1, .int .u64 x.f1, .int .i64 x.f2]
theorem row51 {W : World} {base g n cap i : Nat} {ok : Nat → Prop} {xs : List S51} {x : S51} (h : Kd.R k51 51 W base ok (.slice (some ⟨g, 0, none⟩) n cap) xs) (hx : xs[i]? = some x) :
  W.cell? ⟨g, i * 4, none⟩ = some (.int .i64 x.f0.f0) ∧ W.cell? ⟨g, i * 4 + 1, none⟩ = some (.int .i64 x.f0.f1) ∧ W.cell? ⟨g, i * 4 + 2, none⟩ = some (.int .u64 x.f1) ∧ W.cell? ⟨g, i * 4 + 3, none⟩ = some (.int .i64 x.f2) := by
 obtain ⟨hn, _, hC⟩ := Kd.R_reads' h
 have hi : i < xs.length := (List.getElem?_eq_some_iff.1 hx).1
 obtain ⟨ad, e0, hc⟩ := hC.2.2 (by omega)
 cases e0
 obtain ⟨c, hl, hK, hcell⟩ := hc i x hx
 obtain rfl := k51_open hK
 have hsz : k51.sz = 4 := rfl
 rw [hsz] at hcell
 simp only [d7_, Nat.zero_add] at hcell
 exact ⟨hcell 0 _ rfl, hcell 1 _ rfl, hcell 2 _ rfl, hcell 3 _ rfl⟩
theorem put51 {W : World} {base g n cap : Nat} {ok : Nat → Prop} {xs : List S51} (h : Kd.R k51 51 W base ok (.slice (some ⟨g, 0, none⟩) n cap) xs) (i : Nat) (hi : i < n) (x : S51) :
  Kd.R k51 51 (W.setCells g (i * 4) (enc51 x)) base ok (.slice (some ⟨g, 0, none⟩) n cap) (xs.set i x) ∧ W.grownBy (W.setCells g (i * 4) (enc51 x)) (some g) := by
 obtain ⟨hn, _, hC⟩ := Kd.R_reads' h
 have hsz : k51.sz = 4 := rfl
 obtain ⟨c0, c1, c2, c3⟩ := row51 h (List.getElem?_eq_getElem (show i < xs.length by omega))
 have := Kd.R_seg h (i : Int) (by omega) (by omega) (c := enc51 xs[i]) (seg := enc51 x) (j := 0) rfl (by
  intro j u hu
  rw [Int.toNat_natCast, hsz]
  match j, hu with
  | 0, hu => cases hu; exact c0
  | 1, hu => cases hu; exact c1
  | 2, hu => cases hu; exact c2
  | 3, hu => cases hu; exact c3
  | j + 4, hu => simp [enc51] at hu) (by rw [hsz]; simp [enc51]) (x' := x) (okp := fun _ => False) (by
   have := k51_mkM W base (fun _ => False) x
   simpa [enc51] using this) (fun _ h => h.elim)
 rw [Int.toNat_natCast, hsz, Nat.add_zero] at this
 exact this
def T86 : Bool × List (List Nat × List Nat) := (true, [([], []), ([], []), ([], []), ([1, 2], [1, 2]), ([3], [3]), ([0, 4], [0, 4]), ([], []), ([], []), ([], []), ([7, 8], [7, 8]), ([9], [9]), ([6, 10, 5], [6, 10]), ([5, 11, 11], [5, 11]), ([12], [12]), ([13, 12, 0, 1, 2, 3, 4, 5, 6, 7, 8, 9, 10, 11, 12, 13], [13])])
def B86 : List Nat := [0, 0, 0, 6, 14, 31, 0, 0, 0, 384, 896, 2047, 4095, 8191, 16383]
theorem tab86 : rtab .any (opsOf Try.f86 1) = T86 := by kernel_rfl
theorem bits86 : waitsOk T86.2 B86 = true := by kernel_rfl
set_option maxHeartbeats 8000000 in
set_option maxRecDepth 100000 in
theorem lessPlace (base : Nat) (ok : Nat → Prop) (g gs gl n c i j : Nat) (s0_ s1_ s2_ s3_ : Int) (xs : List S51) (x y : S51) (W : World) (hgs : W.heap[gs]? = some (.cells #[.int .i64 s0_, .int .i64 s1_, .int .i64 s2_, .int .i64 s3_] 27 (0, 0))) (hgl : W.heap[gl]? = some (.cells #[.slice (some ⟨g, 0, none⟩) n c] 22 (0, 0)))
  (hrw : Kd.R k51 51 W base ok (.slice (some ⟨g, 0, none⟩) n c) xs) (hx : xs[i]? = some x) (hy : xs[j]? = some y) (hn : n ≤ 1000000) (fx : freeOk x = true) (fy : freeOk y = true) :
  Calls Try.prog 86 #[.int .i64 i, .int .i64 j, .pointer (some ⟨gs, 0, none⟩), .pointer (some ⟨gl, 0, none⟩)] W fun e w' => e = .returned (.bool (decide (fitV s0_ s1_ s2_ s3_ x.f1 x.f2 > fitV s0_ s1_ s2_ s3_ y.f1 y.f2))) ∧ Below W.heap.size W w' := by
 have hu27 := Try.underlying27
 have hu22 := Try.underlying22
 have hu51 := Try.underlying51
 have hl := (Kd.R_reads' hrw).1
 have hib : i < xs.length := (List.getElem?_eq_some_iff.1 hx).1
 have hjb : j < xs.length := (List.getElem?_eq_some_iff.1 hy).1
 have i0 : (i : Int) < n := by omega
 have j0 : (j : Int) < n := by omega
 have fx' : 0 ≤ x.f1 ∧ x.f1 < 18446744073709551616 ∧ x.f2 ≤ 9223372036854775807 := by simp only [freeOk, w64B, Bool.and_eq_true, decide_eq_true_eq] at fx; omega
 have fy' : 0 ≤ y.f1 ∧ y.f1 < 18446744073709551616 ∧ y.f2 ≤ 9223372036854775807 := by simp only [freeOk, w64B, Bool.and_eq_true, decide_eq_true_eq] at fy; omega
 have HFX := m_ (show shape_Fits.f s0_ s1_ s2_ s3_ x.f0.f0 x.f0.f1 x.f1 x.f2 = some (fitV s0_ s1_ s2_ s3_ x.f1 x.f2) from if_pos fx')
 have HFY := m_ (show shape_Fits.f s0_ s1_ s2_ s3_ y.f0.f0 y.f0.f1 y.f1 y.f2 = some (fitV s0_ s1_ s2_ s3_ y.f1 y.f2) from if_pos fy')
 have HGS := m_ (show W.drew.heap[gs]? = _ from hgs)
 have HGL := m_ (show W.drew.heap[gl]? = _ from hgl)
 have HRW := m_ (Kd.R_drew hrw)
 have HX := m_ hx
 have HY := m_ hy
 have HB := m_ (b4_ (Below.refl W.heap.size W))
 have HT_ := m_ tab86
 have HW_ := m_ bits86
 clear hgs hgl hrw hx hy fx fy fx' fy' hib hjb hl
 go_enter Try.func86, Try.ntmps86
 go_wp2
 refine start_ (n := 15) (S := fun w' => w'.cell? ⟨gs, 0, none⟩ = some (.int .i64 s0_) ∧ w'.cell? ⟨gs, 1, none⟩ = some (.int .i64 s1_) ∧ w'.cell? ⟨gs, 2, none⟩ = some (.int .i64 s2_) ∧ w'.cell? ⟨gs, 3, none⟩ = some (.int .i64 s3_) ∧ w'.cell? ⟨gl, 0, none⟩ = some (.slice (some ⟨g, 0, none⟩) n c) ∧ w'.cell? ⟨g, i * 4, none⟩ = some (.int .i64 x.f0.f0) ∧ w'.cell? ⟨g, i * 4 + 1, none⟩ = some (.int .i64 x.f0.f1) ∧ w'.cell? ⟨g, i * 4 + 2, none⟩ = some (.int .u64 x.f1) ∧ w'.cell? ⟨g, i * 4 + 3, none⟩ = some (.int .i64 x.f2) ∧ w'.cell? ⟨g, j * 4, none⟩ = some (.int .i64 y.f0.f0) ∧ w'.cell? ⟨g, j * 4 + 1, none⟩ = some (.int .i64 y.f0.f1) ∧ w'.cell? ⟨g, j * 4 + 2, none⟩ = some (.int .u64 y.f1) ∧ w'.cell? ⟨g, j * 4 + 3, none⟩ = some (.int .i64 y.f2)) (ds := []) (bm 15 0) (by kernel_rfl) rfl rfl ⟨(a0_ HGS.out 0).trans rfl, (a0_ HGS.out 1).trans rfl, (a0_ HGS.out 2).trans rfl, (a0_ HGS.out 3).trans rfl, (a0_ HGL.out 0).trans rfl, (row51 HRW.out HX.out).1, (row51 HRW.out HX.out).2.1, (row51 HRW.out HX.out).2.2.1, (row51 HRW.out HX.out).2.2.2, (row51 HRW.out HY.out).1, (row51 HRW.out HY.out).2.1, (row51 HRW.out HY.out).2.2.1, (row51 HRW.out HY.out).2.2.2⟩ (fun hHeld => ?_)
 generalize W.drew = w0 at HGS HGL HRW HB hHeld ⊢
 refine tk 0 (some 7) (bm 15 1) ?_
 refine tk 1 (some 8) (bm 15 3) ?_
 refine pu 2 (some 9) (bm 15 7) ?_
 refine pu 3 (some 10) (bm 15 15) ?_
 refine tk 4 (some 11) (bm 15 31) ?_
 refine tk 6 (some 13) (bm 15 95) ?_
 refine tk 7 (some 14) (bm 15 223) ?_
 refine pu 8 (some 15) (bm 15 479) ?_
 refine pu 9 (some 16) (bm 15 991) ?_
 refine tk 10 (some 17) (bm 15 2015) ?_
 refine one_ (i := 5) (N := some 12) (bm 15 2047) rfl rfl (one_of HT_.out (by kernel_rfl)) (by decide) (fun K hK => ?_)
 refine goes_ Try.func87 (by kernel_rfl) rfl #[.agg #[.int .i64 s0_, .int .i64 s1_, .int .i64 s2_, .int .i64 s3_], .agg #[.int .i64 x.f0.f0, .int .i64 x.f0.f1, .int .u64 x.f1, .int .i64 x.f2]] (by rfl) rfl rfl (by first | done | rfl | (simp only [List.map_toArray, List.map_cons, List.map_nil]; rfl)) ?_
 refine (shape_Fits.calls s0_ s1_ s2_ s3_ x.f0.f0 x.f0.f1 x.f1 x.f2 _ _ HFX.out).mono ?_
 rintro e w1 ⟨rfl, hb⟩
 refine ⟨_, rfl, ?_⟩
 replace HGS := m_ (a1_ HGS.out hb)
 replace HGL := m_ (a1_ HGL.out hb)
 replace HRW := m_ (Kd.R_below HRW.out hb)
 replace HB := m_ (a6_ HB.out hb)
 clear hb
 refine hK.out _ _ ⟨(a0_ HGS.out 0).trans rfl, (a0_ HGS.out 1).trans rfl, (a0_ HGS.out 2).trans rfl, (a0_ HGS.out 3).trans rfl, (a0_ HGL.out 0).trans rfl, (row51 HRW.out HX.out).1, (row51 HRW.out HX.out).2.1, (row51 HRW.out HX.out).2.2.1, (row51 HRW.out HX.out).2.2.2, (row51 HRW.out HY.out).1, (row51 HRW.out HY.out).2.1, (row51 HRW.out HY.out).2.2.1, (row51 HRW.out HY.out).2.2.2⟩ (fun hHeld => ?_)
 clear hK K
 refine norm_ (a' := ?_) ?_ ?_
 rotate_left
 ·show Act.put _ (some 12) _ = _
  simp only [Act.put, List.setIfInBounds_toArray, List.set_cons_zero, List.set_cons_succ, i64_w, i32_w]
  rfl
 refine one_ (i := 11) (N := some 18) (bm 15 4095) rfl rfl (one_of HT_.out (by kernel_rfl)) (by decide) (fun K hK => ?_)
 refine goes_ Try.func87 (by kernel_rfl) rfl #[.agg #[.int .i64 s0_, .int .i64 s1_, .int .i64 s2_, .int .i64 s3_], .agg #[.int .i64 y.f0.f0, .int .i64 y.f0.f1, .int .u64 y.f1, .int .i64 y.f2]] (by rfl) rfl rfl (by first | done | rfl | (simp only [List.map_toArray, List.map_cons, List.map_nil]; rfl)) ?_
 refine (shape_Fits.calls s0_ s1_ s2_ s3_ y.f0.f0 y.f0.f1 y.f1 y.f2 _ _ HFY.out).mono ?_
 rintro e w2 ⟨rfl, hb⟩
 refine ⟨_, rfl, ?_⟩
 replace HGS := m_ (a1_ HGS.out hb)
 replace HGL := m_ (a1_ HGL.out hb)
 replace HRW := m_ (Kd.R_below HRW.out hb)
 replace HB := m_ (a6_ HB.out hb)
 clear hb
 refine hK.out _ _ ⟨(a0_ HGS.out 0).trans rfl, (a0_ HGS.out 1).trans rfl, (a0_ HGS.out 2).trans rfl, (a0_ HGS.out 3).trans rfl, (a0_ HGL.out 0).trans rfl, (row51 HRW.out HX.out).1, (row51 HRW.out HX.out).2.1, (row51 HRW.out HX.out).2.2.1, (row51 HRW.out HX.out).2.2.2, (row51 HRW.out HY.out).1, (row51 HRW.out HY.out).2.1, (row51 HRW.out HY.out).2.2.1, (row51 HRW.out HY.out).2.2.2⟩ (fun hHeld => ?_)
 clear hK K
 refine norm_ (a' := ?_) ?_ ?_
 rotate_left
 ·show Act.put _ (some 18) _ = _
  simp only [Act.put, List.setIfInBounds_toArray, List.set_cons_zero, List.set_cons_succ, i64_w, i32_w]
  rfl
 refine one_ (i := 12) (N := some 19) (bm 15 8191) rfl rfl (one_of HT_.out (by kernel_rfl)) (by decide) (fun K hK => ?_)
 refine goes_ Try.func73 (by kernel_rfl) rfl #[.int .i64 (fitV s0_ s1_ s2_ s3_ x.f1 x.f2), .int .i64 (fitV s0_ s1_ s2_ s3_ y.f1 y.f2)] (by rfl) rfl rfl (by first | done | rfl | (simp only [List.map_toArray, List.map_cons, List.map_nil]; rfl)) ?_
 refine (cmp_any _ _ _).mono ?_
 rintro e w9 ⟨rfl, rfl⟩
 refine ⟨_, rfl, ?_⟩
 refine hK.out _ _ ⟨(a0_ HGS.out 0).trans rfl, (a0_ HGS.out 1).trans rfl, (a0_ HGS.out 2).trans rfl, (a0_ HGS.out 3).trans rfl, (a0_ HGL.out 0).trans rfl, (row51 HRW.out HX.out).1, (row51 HRW.out HX.out).2.1, (row51 HRW.out HX.out).2.2.1, (row51 HRW.out HX.out).2.2.2, (row51 HRW.out HY.out).1, (row51 HRW.out HY.out).2.1, (row51 HRW.out HY.out).2.2.1, (row51 HRW.out HY.out).2.2.2⟩ (fun hHeld => ?_)
 clear hK K
 refine norm_ (a' := ?_) ?_ ?_
 rotate_left
 ·show Act.put _ (some 19) _ = _
  simp only [Act.put, List.setIfInBounds_toArray, List.set_cons_zero, List.set_cons_succ, i64_w, i32_w]
  rfl
 refine pu 13 (some 20) (bm 15 16383) ?_
 refine pu 14 (some 6) (bm 15 32767) ?_
 refine done_ (done_of HT_.out (by kernel_rfl)) ?_
 go_wp2
 go_ret
 refine ⟨?_, HB.out⟩
 generalize fitV s0_ s1_ s2_ s3_ x.f1 x.f2 = a
 generalize fitV s0_ s1_ s2_ s3_ y.f1 y.f2 = b
 have : decide (0 < cmpI a b) = decide (b < a) := by
  unfold cmpI
  by_cases h : a < b
  ·rw [if_pos h, decide_eq_false (by omega), decide_eq_false (by omega)]
  ·rw [if_neg h]
   by_cases h2 : a = b
   ·subst h2; simp
   ·split <;> simp <;> omega
 simp [this]
end Go.Proofs.Ytckhjehibjdjdaa.P
namespace Go.Proofs.Ytckhjehibjdjdaa.P
open Go.RowKit Go.Shelf Go.Lib Go.Proofs.YtckhjehibjdjdaaW.PrintWords Go.Proofs.YtckhjehibjdjdaaW.PrintLast Go.Proofs.YtckhjehibjdjdaaW.PrintMore
attribute [local go_sem] Oper.semAt_some
noncomputable def freeT : TypeInfo := (Try.prog.info? 22).get (by kernel_rfl)
noncomputable def freeE : TypeInfo := (Try.prog.info? 51).get (by kernel_rfl)
theorem freeT_is : Try.prog.info? 22 = some freeT := by kernel_rfl
theorem freeE_is : Try.prog.info? 51 = some freeE := by kernel_rfl
theorem freeT_desc : freeT.desc = .slice 51 := by kernel_rfl
theorem freeE_size : freeE.size = 4 := by kernel_rfl
theorem free_swapper (n : Nat) (h2 : 2 ≤ n) : swapperK n freeE 25 = 9 := by
 have a : freeE.hasPointers = false := by kernel_rfl
 have b : freeE.bytes = 32 := by kernel_rfl
 have c : (n == 0) = false := by simp; omega
 have d : (n == 1) = false := by simp; omega
 simp [swapperK, a, b, c, d]
theorem swap_free (E : SE) (hsf : E.sf = 130) (hsb : E.sb = #[.slice (some ⟨E.g, 0, none⟩) E.n E.cap, typeHandle Try.prog 51]) (W : World) (xs : List S51) (i j : Nat) (x y : S51) (hr : E.RW W xs) (hx : xs[i]? = some x) (hy : xs[j]? = some y) :
  ∃ W', (callFunc E.sf (#[.int .i64 i, .int .i64 j] ++ E.sb)).run Try.prog W = .ok (.value (.tuple #[])) W' ∧ E.RW W' ((xs.set i y).set j x) ∧ W.grownBy W' (some E.g) := by
 have hl := hr.len
 have hi : i < xs.length := (List.getElem?_eq_some_iff.1 hx).1
 have hj : j < xs.length := (List.getElem?_eq_some_iff.1 hy).1
 have hx' := fun args W => run_callFunc_extern (P := Try.prog) Try.func130 (by kernel_rfl) (by kernel_rfl) (by kernel_rfl) (e := Extern.ReflectliteSwapper.swap false) (by kernel_rfl) args W
 obtain ⟨x0, x1, x2, x3⟩ := row51 hr.row hx
 obtain ⟨y0, y1, y2, y3⟩ := row51 hr.row hy
 obtain ⟨g', cap', cur, hv, _, _, hh⟩ := own51 hr.row (by omega)
 injection hv with ha _ _
 injection ha with ha
 injection ha with ha
 rw [← ha] at hh
 have hrun := run_swap_cells (P := Try.prog) false 51 freeE freeE_is (fun _ => by kernel_rfl) E.g 0 E.n E.cap i j (by omega) (by omega) (enc51 x) (enc51 y) freeE_size.symm freeE_size.symm (by intro v hv; simp [enc51] at hv; rcases hv with rfl | rfl | rfl | rfl <;> rfl) (by intro v hv; simp [enc51] at hv; rcases hv with rfl | rfl | rfl | rfl <;> rfl) W
  (by
   intro k v hk
   rw [freeE_size, Nat.zero_add]
   match k, hk with
   | 0, hk => cases hk; exact x0
   | 1, hk => cases hk; exact x1
   | 2, hk => cases hk; exact x2
   | 3, hk => cases hk; exact x3
   | k + 4, hk => simp [enc51] at hk)
  (by
   intro k v hk
   rw [freeE_size, Nat.zero_add]
   match k, hk with
   | 0, hk => cases hk; exact y0
   | 1, hk => cases hk; exact y1
   | 2, hk => cases hk; exact y2
   | 3, hk => cases hk; exact y3
   | k + 4, hk => simp [enc51] at hk)
  (fun k _ => a2_ hh _) (fun k _ => a2_ hh _)
 rw [freeE_size, Nat.zero_add, Nat.zero_add] at hrun
 have p1 := put51 hr.row i (by omega) y
 have p2 := put51 p1.1 j (by omega) x
 refine ⟨_, ?_, ⟨b0_ hr.grown (b0_ p1.2 p2.2), p2.1, fun f hf => ?_⟩, b0_ p1.2 p2.2⟩
 ·rw [hsf, hsb, show (#[Value.int .i64 (i : Int), Value.int .i64 (j : Int)] ++ #[Value.slice (some ⟨E.g, 0, none⟩) E.n E.cap, typeHandle Try.prog 51]) = #[.int .i64 i, .int .i64 j, .slice (some ⟨E.g, 0, none⟩) E.n E.cap, typeHandle Try.prog 51] from rfl, hx', hrun]
  rfl
 ·rcases List.mem_or_eq_of_mem_set hf with hf | rfl
  ·rcases List.mem_or_eq_of_mem_set hf with hf | rfl
   ·exact hr.mem f hf
   ·exact hr.mem _ (List.mem_of_getElem? hy)
  ·exact hr.mem _ (List.mem_of_getElem? hx)
noncomputable def stableW (p : Option Addr) (n c : Nat) (w : World) : World :=
 (w.alloc (.cells #[.slice p n c] 22)).alloc (.cells #[.pointer (some ⟨Try.prog.globals.size, 22, none⟩), .pointer (some ⟨w.heap.size, 0, none⟩), .int .u64 151] 159)
theorem stableW_below (p : Option Addr) (n c : Nat) (w : World) : Below w.heap.size w (stableW p n c w) := b1_ (b1_ (Below.refl _ _) _) _
set_option maxHeartbeats 4000000 in
set_option maxRecDepth 100000 in
theorem sliceStable_of (p : Option Addr) (n c f : Nat) (hn : n < 4611686018427387904) (hf : Try.prog.funcs.findIdx? (·.name == "internal/reflectlite" ++ ".Swapper$" ++ toString (swapperK n freeE 25)) = some f) (lb B : Array Value) (hB : B = if swapperK n freeE 25 ≤ 2 then (#[] : Array Value) else #[.slice p n c, typeHandle Try.prog 51]) (w : World) (R : World → Prop)
  (hp : Calls Try.prog 110 #[.agg #[.func (.func 86) #[] lb, .func (.func f) #[] B], .int .i64 n] (stableW p n c w) fun e w' => e = .returned (.tuple #[]) ∧ R w') :
  Calls Try.prog 85 #[.iface 22 (.slice p n c), .func (.func 86) #[] lb] w fun e w' => e = .returned (.tuple #[]) ∧ R w' := by
 have hv := run_valueOf_slice (P := Try.prog) 22 51 freeT freeT_is freeT_desc p n c w
 have hs := fun w => run_swapper_slice (P := Try.prog) 22 51 freeT freeE freeT_is freeT_desc freeE_is 25 (fun _ => by kernel_rfl) p n c f hf w
 have hl := fun a w ha => run_valueLen_slice (P := Try.prog) 22 51 freeT freeT_is freeT_desc (by kernel_rfl) a p n c w ha
 rw [← hB] at hs
 unfold stableW at hp
 simp only [typeHandle] at hv hl
 have hg0 : Try.prog.globals.size = 0 := by kernel_rfl
 rw [hg0] at hv hp
 simp only [hg0] at hl
 have hu22 := Try.underlying22
 have hu159 := Try.underlying159
 have hu165 := Try.underlying165
 have HP := m_ hp
 clear hp hB hf
 go_enter Try.func85, Try.ntmps85
 go_wp2
 rw [run_callFunc_extern Try.func108 (by kernel_rfl) (by kernel_rfl) (by kernel_rfl) (e := fun args => Extern.ReflectliteValue.unpack (args.getD 0 (.tuple #[]))) (by kernel_rfl),
  show Sem.run Try.prog ((fun args : Array Value => Extern.ReflectliteValue.unpack (args.getD 0 (.tuple #[]))) #[.iface 22 (.slice p n c)]) w = _ from hv]
 simp only [Result.andThen]
 rw [Oper.upon_value]
 go_wp2
 rw [run_callFunc_extern Try.func109 (by kernel_rfl) (by kernel_rfl) (by kernel_rfl) (e := Extern.ReflectliteSwapper.swapper "internal/reflectlite" (Extern.ReflectliteValue.valueError "Swapper")) (by kernel_rfl), hs]
 simp only [Result.andThen]
 rw [Oper.upon_value]
 go_wp2
 rw [run_callFunc_extern Try.func111 (by kernel_rfl) (by kernel_rfl) (by kernel_rfl) (e := Extern.ReflectliteValue.method (Extern.ReflectliteValue.valueError "reflectlite.Value.Len" 0) Extern.ReflectliteValue.len) (by kernel_rfl),
  hl _ _ (by simp)]
 simp only [Result.andThen]
 rw [Oper.upon_value]
 go_wp2_with (go_at_call 110; refine HP.out.mono ?_; rintro e w' ⟨rfl, hR⟩)
 go_end0
 exact ⟨rfl, hR⟩
def fkey (s0 s1 s2 s3 : Int) (f : S51) : Int := - fitV s0 s1 s2 s3 f.f1 f.f2
theorem sortPlace (base : Nat) (ok : Nat → Prop) (g gs gl n c : Nat) (s0 s1 s2 s3 : Int) (xs : List S51) (w : World) (hgs : w.heap[gs]? = some (.cells #[.int .i64 s0, .int .i64 s1, .int .i64 s2, .int .i64 s3] 27 (0, 0))) (hgl : w.heap[gl]? = some (.cells #[.slice (some ⟨g, 0, none⟩) n c] 22 (0, 0)))
  (hrw : Kd.R k51 51 w base ok (.slice (some ⟨g, 0, none⟩) n c) xs) (h2 : 2 ≤ n) (hn : n ≤ 1000000) (hf : ∀ f ∈ xs, freeOk f = true) (hs : gs ≠ g) (hl : gl ≠ g) (hg : g < w.heap.size) :
  Calls Try.prog 85 #[.iface 22 (.slice (some ⟨g, 0, none⟩) n c), .func (.func 86) #[] #[.pointer (some ⟨gs, 0, none⟩), .pointer (some ⟨gl, 0, none⟩)]] w fun e w' => e = .returned (.tuple #[]) ∧ Kd.R k51 51 w' base ok (.slice (some ⟨g, 0, none⟩) n c) (isort (fkey s0 s1 s2 s3) xs) ∧ w.grownBy w' (some g) := by
 have hk := free_swapper n h2
 refine sliceStable_of (some ⟨g, 0, none⟩) n c 130 (by omega) (by rw [hk]; kernel_rfl) _ #[.slice (some ⟨g, 0, none⟩) n c, typeHandle Try.prog 51] (by rw [hk]; rfl) w _ ?_
 have hb := stableW_below (some ⟨g, 0, none⟩) n c w
 let E : SE := ⟨w, base, ok, g, n, c, fkey s0 s1 s2 s3, fun f => freeOk f = true, #[.pointer (some ⟨gs, 0, none⟩), .pointer (some ⟨gl, 0, none⟩)], 130, #[.slice (some ⟨g, 0, none⟩) n c, typeHandle Try.prog 51]⟩
 have O : E.Ok := by
  refine ⟨fun W xs' i j x y hr hx hy => ?_, fun W xs' i j x y hr hx hy => swap_free E rfl rfl W xs' i j x y hr hx hy, hg, hn⟩
  have h1 := lessPlace base ok g gs gl n c i j s0 s1 s2 s3 xs' x y W (grown_box hgs hr.grown hs) (grown_box hgl hr.grown hl) hr.row hx hy hn (hr.mem x (List.mem_of_getElem? hx)) (hr.mem y (List.mem_of_getElem? hy))
  refine h1.mono ?_
  rintro e w' ⟨rfl, hb⟩
  refine ⟨?_, hb⟩
  show _ = Ending.returned (.bool (decide (fkey s0 s1 s2 s3 x < fkey s0 s1 s2 s3 y)))
  unfold fkey
  generalize fitV s0 s1 s2 s3 x.f1 x.f2 = a
  generalize fitV s0 s1 s2 s3 y.f1 y.f2 = b
  have : decide (a > b) = decide (-a < -b) := by rw [Bool.eq_iff_iff]; simp only [decide_eq_true_eq]; omega
  rw [this]
 have hR0 : E.RW w xs := ⟨c7_ _ _, hrw, hf⟩
 have hS := stableF E O xs _ (hR0.below hb)
 refine hS.mono ?_
 rintro e w' ⟨rfl, hr, hgr⟩
 exact ⟨rfl, hr.row, b0_ (d9_ hb) hgr⟩
set_option maxHeartbeats 4000000 in
set_option maxRecDepth 100000 in
theorem stable_tiny (lb sb : Array Value) (f n : Nat) (hn : n ≤ 1) (w : World) :
  Calls Try.prog 110 #[.agg #[.func (.func 86) #[] lb, .func (.func f) #[] sb], .int .i64 n] w fun e w' => e = .returned (.tuple #[]) ∧ Below w.heap.size w w' := by
 have hu165 := Try.underlying165
 have HC := m_ (fun W => insertF_none ⟨w, 0, fun _ => True, 0, n, 0, fun _ => 0, fun _ => True, lb, f, sb⟩ 0 n (by omega) (by omega) W)
 go_enter Try.func110, Try.ntmps110
 go_wp2_with (first | ((with_reducible refine a3_ (N := 2) rfl ?_); refine box_event ?hg (N := 2) ?hd (cs := #[.func (.func 86) #[] lb, .func (.func f) #[] sb]) (t := 165) ?hr ?_; (case hd => rfl); (case hg => rfl); (case hr => first | (go_simp; done) | (go_simp; rfl)); intro gb hgb wb hxb hbb; have HXB := m_ hxb; have HBB := m_ hbb; clear hgb hxb hbb))
 refine wp_loop_rounds 1 ?_
 rw [rounds_succ]
 have e1 : ¬ (20 : Int) ≤ (n : Int) := by omega
 obtain ⟨hcz0, hcz1, hfz0, hfz1⟩ := bz2_ HXB
 go_wp2_with (go_at_call 131; refine (HC.out _).mono ?_; rintro e w5 ⟨rfl, hb5⟩; have HB5 := m_ (a6_ HBB.out hb5); clear hb5)
 refine wp_loop_rounds 1 ?_
 rw [rounds_succ]
 have e2 : ¬ (20 : Int) < (n : Int) := by omega
 go_wp2
 go_end0
 exact ⟨rfl, HB5.out⟩
theorem sortPlace_tiny (p : Option Addr) (n c : Nat) (hn : n ≤ 1) (lb : Array Value) (w : World) :
  Calls Try.prog 85 #[.iface 22 (.slice p n c), .func (.func 86) #[] lb] w fun e w' => e = .returned (.tuple #[]) ∧ Below w.heap.size w w' := by
 have hb := stableW_below p n c w
 have go : ∀ f : Nat, Try.prog.funcs.findIdx? (·.name == "internal/reflectlite" ++ ".Swapper$" ++ toString (swapperK n freeE 25)) = some f → Calls Try.prog 85 #[.iface 22 (.slice p n c), .func (.func 86) #[] lb] w fun e w' => e = .returned (.tuple #[]) ∧ Below w.heap.size w w' := fun f hf => by
  refine sliceStable_of p n c f (by omega) hf lb _ rfl w _ ?_
  exact (stable_tiny lb _ f n hn _).mono fun e w' ⟨he, h⟩ => ⟨he, a6_ hb h⟩
 rcases Nat.le_one_iff_eq_zero_or_eq_one.1 hn with rfl | rfl
 ·exact go 122 (by kernel_rfl)
 ·exact go 123 (by kernel_rfl)
end Go.Proofs.Ytckhjehibjdjdaa.P
