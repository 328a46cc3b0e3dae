/- PromiseRoom: part 1 of the walk and of the plain law that it comes to. No condition. -/
import Derived.Test.YtckhjehibjdjdaaZPromiseRoom0
import Derived.ArgAppend
import Derived.Below
import Derived.BigQuiet
import Derived.BigRegion
import Derived.Carry
import Derived.Deep.AppendLies
import Derived.Deep.CutBlock
import Derived.Deep.DeepCutAuto
import Derived.Deep.Draws
import Derived.Deep.LoopGhost
import Derived.Deep.OwnRows
import Derived.Deep.QuietTactic
import Derived.Deep.RegionHeld3
import Derived.DeepKeys3
import Derived.KernelRfl
import Derived.Laws.Bits64
import Derived.Laws.Bits64b
import Derived.Laws.BitsLemmas
import Derived.Laws.BytesArg
import Derived.Laws.IdiomCopy
import Derived.Laws.MakeOwn
import Derived.Laws.OwnMore
import Derived.Laws.Rows
import Derived.Laws.Slices
import Derived.Lib.AppendStr
import Derived.Lib.ConvBytes
import Derived.Lib.SliceRun
import Derived.LoopIn
import Derived.LoopN
import Derived.LoopNIn
import Derived.Maps.AppendAt
import Derived.Maps.Keyed
import Derived.Maps.Own
import Derived.Maps.OwnOps
import Derived.Maps.OwnSet
import Derived.Maps.Views
import Derived.OrdersHeld
import Derived.OwnWalk
import Derived.OwnWalkIn
import Derived.RangeFuncBound
import Derived.RangeFuncBox
import Derived.RangeFuncCalls
import Derived.RangeFuncFrom
import Derived.RangeFuncLeaves
import Derived.RowKit
import Derived.RowKit3
import Derived.Shelf.Abstract
import Derived.Shelf.RegionOpen
import Derived.StillTailTactics
import Derived.Tactics
import Derived.TacticsInMore
import Derived.WalkKit
import Derived.WideLaws
namespace Go.Proofs.YtckhjehibjdjdaaW.PrintWords
theorem here_ : True := trivial
end Go.Proofs.YtckhjehibjdjdaaW.PrintWords
namespace Go.Proofs.YtckhjehibjdjdaaW.PrintLast
theorem here_ : True := trivial
end Go.Proofs.YtckhjehibjdjdaaW.PrintLast
namespace Go.Proofs.YtckhjehibjdjdaaW.PrintMore
theorem here_ : True := trivial
end Go.Proofs.YtckhjehibjdjdaaW.PrintMore
namespace Go.Proofs.Ytckhjehibjdjdaa
theorem here_ : True := trivial
end Go.Proofs.Ytckhjehibjdjdaa
namespace Go.Proofs.Ytckhjehibjdjdaa.Bits
theorem here_ : True := trivial
end Go.Proofs.Ytckhjehibjdjdaa.Bits
namespace Go.Proofs.Ytckhjehibjdjdaa.Mp
theorem here_ : True := trivial
end Go.Proofs.Ytckhjehibjdjdaa.Mp
namespace Go.Proofs.Ytckhjehibjdjdaa.Ob
theorem here_ : True := trivial
end Go.Proofs.Ytckhjehibjdjdaa.Ob
namespace Go.Proofs.Ytckhjehibjdjdaa.P
theorem here_ : True := trivial
end Go.Proofs.Ytckhjehibjdjdaa.P
namespace Go.Proofs.Ytckhjehibjdjdaa.RF
theorem here_ : True := trivial
end Go.Proofs.Ytckhjehibjdjdaa.RF
namespace Go.Proofs.Ytckhjehibjdjdaa.promiseRoom
theorem here_ : True := trivial
end Go.Proofs.Ytckhjehibjdjdaa.promiseRoom
namespace Go.Proofs.Ytckhjehibjdjdaa.row0
theorem here_ : True := trivial
end Go.Proofs.Ytckhjehibjdjdaa.row0
namespace Go.Proofs.Ytckhjehibjdjdaa
set_option linter.unusedVariables false
section
open Go.RowKit Go.Proofs.YtckhjehibjdjdaaW.PrintWords Go.Proofs.YtckhjehibjdjdaaW.PrintLast Go.Proofs.YtckhjehibjdjdaaW.PrintMore
def bl : Nat → Nat → List Bool
 | 0, _ => []
 | n + 1, x => (x % 2 == 1) :: bl n (x / 2)
def bm (n x : Nat) : Array Bool := ⟨bl n x⟩
theorem pu {P : Program} {md : Region.Mode} {ops : Array Oper} {Q : Exit → Act → World → Prop} {S : World → Prop} {ds : List Nat} (i : Nat) (N : Option Tmp) (l' : Array Bool) {oi : Oper} {v : Value} {fuel : Nat} {l : Array Bool} {a a' : Act} {w : World} (h : wpAnyLast P md ops Q S ds fuel l' a' w)
 (hi : ops[i]? = some oi := by exact rfl) (hN : oi.dst = N := by exact rfl) (hc : anyB md ops l l' i = true := by exact any_of HT_.out (by kernel_rfl)) (hQ : ∀ c a w, Q (.panic c) (a.put oi.dst v) w → Q (.panic c) a w := by exact fun _ _ _ h => h)
 (hy : Yields P ops oi v a := by exact Or.inl ⟨by rfl, by intro w'; go_simp; with_reducible rfl⟩) (ha : a.put N v = a' := by simp only [Act.put, List.setIfInBounds_toArray, List.set_cons_zero, List.set_cons_succ, i64_w, i32_w]; rfl) : wpAnyLast P md ops Q S ds (fuel + 1) l a w := pure_ l' hi hN hc hQ hy ha h
theorem bx {P : Program} {ops : Array Oper} {Q : Exit → Act → World → Prop} {a : Act} {o : Oper} {rest : List Oper} {W : World} (N : Tmp) (cs : Array Value) (t : TypeId)
 (h : ∀ g, g = W.heap.size → ∀ w1, w1.heap[g]? = some (.cells cs t (0, 0)) → Below W.heap.size W w1 → wpList P ops Q rest (a.put o.dst (.pointer (some ⟨g, 0, none⟩))) w1)
 (hg : o.guard = none := by exact rfl) (hd : o.dst = some N := by exact rfl) (hr : (execOp a.eval o).run P W = .ok (.value (.pointer (some ⟨W.heap.size, 0, none⟩))) (W.alloc (.cells cs t (0, 0))) := by first | (go_simp; done) | (go_simp; rfl)) : wpList P ops Q (o :: rest) a W := box_event hg hd hr h
theorem tk1 {P : Program} {md : Region.Mode} {ops : Array Oper} {Q : Exit → Act → World → Prop} {S : World → Prop} {ds : List Nat} (i : Nat) (N : Option Tmp) (l' : Array Bool) {oi : Oper} {v : Value} {fuel : Nat} {l : Array Bool} {a a' : Act} {w : World} (h : wpAnyLast P md ops Q S ds fuel l' a' w)
 (hi : ops[i]? = some oi := by exact rfl) (hN : oi.dst = N := by exact rfl) (hc : takeB md ops ds l l' i = true := by exact take_ofW HT_.out HW_.out (by kernel_rfl)) (hQ : ∀ c a w, Q (.panic c) (a.put oi.dst v) w → Q (.panic c) a w := by exact fun _ _ _ h => h)
 (hy : YieldsIf P ops S oi v a := by exact Or.inl ⟨by rfl, by rintro w' ⟨s0⟩; go_simp; with_reducible rfl⟩) (hS : S w := by exact hHeld) (ha : a.put N v = a' := by simp only [Act.put, List.setIfInBounds_toArray, List.set_cons_zero, List.set_cons_succ, i64_w, i32_w]; rfl) : wpAnyLast P md ops Q S ds (fuel + 1) l a w := take_ l' hi hN hc hQ hy hS ha h
theorem tk2 {P : Program} {md : Region.Mode} {ops : Array Oper} {Q : Exit → Act → World → Prop} {S : World → Prop} {ds : List Nat} (i : Nat) (N : Option Tmp) (l' : Array Bool) {oi : Oper} {v : Value} {fuel : Nat} {l : Array Bool} {a a' : Act} {w : World} (h : wpAnyLast P md ops Q S ds fuel l' a' w)
 (hi : ops[i]? = some oi := by exact rfl) (hN : oi.dst = N := by exact rfl) (hc : takeB md ops ds l l' i = true := by exact take_ofW HT_.out HW_.out (by kernel_rfl)) (hQ : ∀ c a w, Q (.panic c) (a.put oi.dst v) w → Q (.panic c) a w := by exact fun _ _ _ h => h)
 (hy : YieldsIf P ops S oi v a := by exact Or.inl ⟨by rfl, by rintro w' ⟨s0, s1⟩; go_simp; with_reducible rfl⟩) (hS : S w := by exact hHeld) (ha : a.put N v = a' := by simp only [Act.put, List.setIfInBounds_toArray, List.set_cons_zero, List.set_cons_succ, i64_w, i32_w]; rfl) : wpAnyLast P md ops Q S ds (fuel + 1) l a w := take_ l' hi hN hc hQ hy hS ha h
theorem tk3 {P : Program} {md : Region.Mode} {ops : Array Oper} {Q : Exit → Act → World → Prop} {S : World → Prop} {ds : List Nat} (i : Nat) (N : Option Tmp) (l' : Array Bool) {oi : Oper} {v : Value} {fuel : Nat} {l : Array Bool} {a a' : Act} {w : World} (h : wpAnyLast P md ops Q S ds fuel l' a' w)
 (hi : ops[i]? = some oi := by exact rfl) (hN : oi.dst = N := by exact rfl) (hc : takeB md ops ds l l' i = true := by exact take_ofW HT_.out HW_.out (by kernel_rfl)) (hQ : ∀ c a w, Q (.panic c) (a.put oi.dst v) w → Q (.panic c) a w := by exact fun _ _ _ h => h)
 (hy : YieldsIf P ops S oi v a := by exact Or.inl ⟨by rfl, by rintro w' ⟨s0, s1, s2⟩; go_simp; with_reducible rfl⟩) (hS : S w := by exact hHeld) (ha : a.put N v = a' := by simp only [Act.put, List.setIfInBounds_toArray, List.set_cons_zero, List.set_cons_succ, i64_w, i32_w]; rfl) : wpAnyLast P md ops Q S ds (fuel + 1) l a w := take_ l' hi hN hc hQ hy hS ha h
theorem tk4 {P : Program} {md : Region.Mode} {ops : Array Oper} {Q : Exit → Act → World → Prop} {S : World → Prop} {ds : List Nat} (i : Nat) (N : Option Tmp) (l' : Array Bool) {oi : Oper} {v : Value} {fuel : Nat} {l : Array Bool} {a a' : Act} {w : World} (h : wpAnyLast P md ops Q S ds fuel l' a' w)
 (hi : ops[i]? = some oi := by exact rfl) (hN : oi.dst = N := by exact rfl) (hc : takeB md ops ds l l' i = true := by exact take_ofW HT_.out HW_.out (by kernel_rfl)) (hQ : ∀ c a w, Q (.panic c) (a.put oi.dst v) w → Q (.panic c) a w := by exact fun _ _ _ h => h)
 (hy : YieldsIf P ops S oi v a := by exact Or.inl ⟨by rfl, by rintro w' ⟨s0, s1, s2, s3⟩; go_simp; with_reducible rfl⟩) (hS : S w := by exact hHeld) (ha : a.put N v = a' := by simp only [Act.put, List.setIfInBounds_toArray, List.set_cons_zero, List.set_cons_succ, i64_w, i32_w]; rfl) : wpAnyLast P md ops Q S ds (fuel + 1) l a w := take_ l' hi hN hc hQ hy hS ha h
theorem tk5 {P : Program} {md : Region.Mode} {ops : Array Oper} {Q : Exit → Act → World → Prop} {S : World → Prop} {ds : List Nat} (i : Nat) (N : Option Tmp) (l' : Array Bool) {oi : Oper} {v : Value} {fuel : Nat} {l : Array Bool} {a a' : Act} {w : World} (h : wpAnyLast P md ops Q S ds fuel l' a' w)
 (hi : ops[i]? = some oi := by exact rfl) (hN : oi.dst = N := by exact rfl) (hc : takeB md ops ds l l' i = true := by exact take_ofW HT_.out HW_.out (by kernel_rfl)) (hQ : ∀ c a w, Q (.panic c) (a.put oi.dst v) w → Q (.panic c) a w := by exact fun _ _ _ h => h)
 (hy : YieldsIf P ops S oi v a := by exact Or.inl ⟨by rfl, by rintro w' ⟨s0, s1, s2, s3, s4⟩; go_simp; with_reducible rfl⟩) (hS : S w := by exact hHeld) (ha : a.put N v = a' := by simp only [Act.put, List.setIfInBounds_toArray, List.set_cons_zero, List.set_cons_succ, i64_w, i32_w]; rfl) : wpAnyLast P md ops Q S ds (fuel + 1) l a w := take_ l' hi hN hc hQ hy hS ha h
theorem tk6 {P : Program} {md : Region.Mode} {ops : Array Oper} {Q : Exit → Act → World → Prop} {S : World → Prop} {ds : List Nat} (i : Nat) (N : Option Tmp) (l' : Array Bool) {oi : Oper} {v : Value} {fuel : Nat} {l : Array Bool} {a a' : Act} {w : World} (h : wpAnyLast P md ops Q S ds fuel l' a' w)
 (hi : ops[i]? = some oi := by exact rfl) (hN : oi.dst = N := by exact rfl) (hc : takeB md ops ds l l' i = true := by exact take_ofW HT_.out HW_.out (by kernel_rfl)) (hQ : ∀ c a w, Q (.panic c) (a.put oi.dst v) w → Q (.panic c) a w := by exact fun _ _ _ h => h)
 (hy : YieldsIf P ops S oi v a := by exact Or.inl ⟨by rfl, by rintro w' ⟨s0, s1, s2, s3, s4, s5⟩; go_simp; with_reducible rfl⟩) (hS : S w := by exact hHeld) (ha : a.put N v = a' := by simp only [Act.put, List.setIfInBounds_toArray, List.set_cons_zero, List.set_cons_succ, i64_w, i32_w]; rfl) : wpAnyLast P md ops Q S ds (fuel + 1) l a w := take_ l' hi hN hc hQ hy hS ha h
theorem tk7 {P : Program} {md : Region.Mode} {ops : Array Oper} {Q : Exit → Act → World → Prop} {S : World → Prop} {ds : List Nat} (i : Nat) (N : Option Tmp) (l' : Array Bool) {oi : Oper} {v : Value} {fuel : Nat} {l : Array Bool} {a a' : Act} {w : World} (h : wpAnyLast P md ops Q S ds fuel l' a' w)
 (hi : ops[i]? = some oi := by exact rfl) (hN : oi.dst = N := by exact rfl) (hc : takeB md ops ds l l' i = true := by exact take_ofW HT_.out HW_.out (by kernel_rfl)) (hQ : ∀ c a w, Q (.panic c) (a.put oi.dst v) w → Q (.panic c) a w := by exact fun _ _ _ h => h)
 (hy : YieldsIf P ops S oi v a := by exact Or.inl ⟨by rfl, by rintro w' ⟨s0, s1, s2, s3, s4, s5, s6⟩; go_simp; with_reducible rfl⟩) (hS : S w := by exact hHeld) (ha : a.put N v = a' := by simp only [Act.put, List.setIfInBounds_toArray, List.set_cons_zero, List.set_cons_succ, i64_w, i32_w]; rfl) : wpAnyLast P md ops Q S ds (fuel + 1) l a w := take_ l' hi hN hc hQ hy hS ha h
theorem tk8 {P : Program} {md : Region.Mode} {ops : Array Oper} {Q : Exit → Act → World → Prop} {S : World → Prop} {ds : List Nat} (i : Nat) (N : Option Tmp) (l' : Array Bool) {oi : Oper} {v : Value} {fuel : Nat} {l : Array Bool} {a a' : Act} {w : World} (h : wpAnyLast P md ops Q S ds fuel l' a' w)
 (hi : ops[i]? = some oi := by exact rfl) (hN : oi.dst = N := by exact rfl) (hc : takeB md ops ds l l' i = true := by exact take_ofW HT_.out HW_.out (by kernel_rfl)) (hQ : ∀ c a w, Q (.panic c) (a.put oi.dst v) w → Q (.panic c) a w := by exact fun _ _ _ h => h)
 (hy : YieldsIf P ops S oi v a := by exact Or.inl ⟨by rfl, by rintro w' ⟨s0, s1, s2, s3, s4, s5, s6, s7⟩; go_simp; with_reducible rfl⟩) (hS : S w := by exact hHeld) (ha : a.put N v = a' := by simp only [Act.put, List.setIfInBounds_toArray, List.set_cons_zero, List.set_cons_succ, i64_w, i32_w]; rfl) : wpAnyLast P md ops Q S ds (fuel + 1) l a w := take_ l' hi hN hc hQ hy hS ha h
theorem tk9 {P : Program} {md : Region.Mode} {ops : Array Oper} {Q : Exit → Act → World → Prop} {S : World → Prop} {ds : List Nat} (i : Nat) (N : Option Tmp) (l' : Array Bool) {oi : Oper} {v : Value} {fuel : Nat} {l : Array Bool} {a a' : Act} {w : World} (h : wpAnyLast P md ops Q S ds fuel l' a' w)
 (hi : ops[i]? = some oi := by exact rfl) (hN : oi.dst = N := by exact rfl) (hc : takeB md ops ds l l' i = true := by exact take_ofW HT_.out HW_.out (by kernel_rfl)) (hQ : ∀ c a w, Q (.panic c) (a.put oi.dst v) w → Q (.panic c) a w := by exact fun _ _ _ h => h)
 (hy : YieldsIf P ops S oi v a := by exact Or.inl ⟨by rfl, by rintro w' ⟨s0, s1, s2, s3, s4, s5, s6, s7, s8⟩; go_simp; with_reducible rfl⟩) (hS : S w := by exact hHeld) (ha : a.put N v = a' := by simp only [Act.put, List.setIfInBounds_toArray, List.set_cons_zero, List.set_cons_succ, i64_w, i32_w]; rfl) : wpAnyLast P md ops Q S ds (fuel + 1) l a w := take_ l' hi hN hc hQ hy hS ha h
theorem tk10 {P : Program} {md : Region.Mode} {ops : Array Oper} {Q : Exit → Act → World → Prop} {S : World → Prop} {ds : List Nat} (i : Nat) (N : Option Tmp) (l' : Array Bool) {oi : Oper} {v : Value} {fuel : Nat} {l : Array Bool} {a a' : Act} {w : World} (h : wpAnyLast P md ops Q S ds fuel l' a' w)
 (hi : ops[i]? = some oi := by exact rfl) (hN : oi.dst = N := by exact rfl) (hc : takeB md ops ds l l' i = true := by exact take_ofW HT_.out HW_.out (by kernel_rfl)) (hQ : ∀ c a w, Q (.panic c) (a.put oi.dst v) w → Q (.panic c) a w := by exact fun _ _ _ h => h)
 (hy : YieldsIf P ops S oi v a := by exact Or.inl ⟨by rfl, by rintro w' ⟨s0, s1, s2, s3, s4, s5, s6, s7, s8, s9⟩; go_simp; with_reducible rfl⟩) (hS : S w := by exact hHeld) (ha : a.put N v = a' := by simp only [Act.put, List.setIfInBounds_toArray, List.set_cons_zero, List.set_cons_succ, i64_w, i32_w]; rfl) : wpAnyLast P md ops Q S ds (fuel + 1) l a w := take_ l' hi hN hc hQ hy hS ha h
theorem tk11 {P : Program} {md : Region.Mode} {ops : Array Oper} {Q : Exit → Act → World → Prop} {S : World → Prop} {ds : List Nat} (i : Nat) (N : Option Tmp) (l' : Array Bool) {oi : Oper} {v : Value} {fuel : Nat} {l : Array Bool} {a a' : Act} {w : World} (h : wpAnyLast P md ops Q S ds fuel l' a' w)
 (hi : ops[i]? = some oi := by exact rfl) (hN : oi.dst = N := by exact rfl) (hc : takeB md ops ds l l' i = true := by exact take_ofW HT_.out HW_.out (by kernel_rfl)) (hQ : ∀ c a w, Q (.panic c) (a.put oi.dst v) w → Q (.panic c) a w := by exact fun _ _ _ h => h)
 (hy : YieldsIf P ops S oi v a := by exact Or.inl ⟨by rfl, by rintro w' ⟨s0, s1, s2, s3, s4, s5, s6, s7, s8, s9, s10⟩; go_simp; with_reducible rfl⟩) (hS : S w := by exact hHeld) (ha : a.put N v = a' := by simp only [Act.put, List.setIfInBounds_toArray, List.set_cons_zero, List.set_cons_succ, i64_w, i32_w]; rfl) : wpAnyLast P md ops Q S ds (fuel + 1) l a w := take_ l' hi hN hc hQ hy hS ha h
theorem tk12 {P : Program} {md : Region.Mode} {ops : Array Oper} {Q : Exit → Act → World → Prop} {S : World → Prop} {ds : List Nat} (i : Nat) (N : Option Tmp) (l' : Array Bool) {oi : Oper} {v : Value} {fuel : Nat} {l : Array Bool} {a a' : Act} {w : World} (h : wpAnyLast P md ops Q S ds fuel l' a' w)
 (hi : ops[i]? = some oi := by exact rfl) (hN : oi.dst = N := by exact rfl) (hc : takeB md ops ds l l' i = true := by exact take_ofW HT_.out HW_.out (by kernel_rfl)) (hQ : ∀ c a w, Q (.panic c) (a.put oi.dst v) w → Q (.panic c) a w := by exact fun _ _ _ h => h)
 (hy : YieldsIf P ops S oi v a := by exact Or.inl ⟨by rfl, by rintro w' ⟨s0, s1, s2, s3, s4, s5, s6, s7, s8, s9, s10, s11⟩; go_simp; with_reducible rfl⟩) (hS : S w := by exact hHeld) (ha : a.put N v = a' := by simp only [Act.put, List.setIfInBounds_toArray, List.set_cons_zero, List.set_cons_succ, i64_w, i32_w]; rfl) : wpAnyLast P md ops Q S ds (fuel + 1) l a w := take_ l' hi hN hc hQ hy hS ha h
theorem tk13 {P : Program} {md : Region.Mode} {ops : Array Oper} {Q : Exit → Act → World → Prop} {S : World → Prop} {ds : List Nat} (i : Nat) (N : Option Tmp) (l' : Array Bool) {oi : Oper} {v : Value} {fuel : Nat} {l : Array Bool} {a a' : Act} {w : World} (h : wpAnyLast P md ops Q S ds fuel l' a' w)
 (hi : ops[i]? = some oi := by exact rfl) (hN : oi.dst = N := by exact rfl) (hc : takeB md ops ds l l' i = true := by exact take_ofW HT_.out HW_.out (by kernel_rfl)) (hQ : ∀ c a w, Q (.panic c) (a.put oi.dst v) w → Q (.panic c) a w := by exact fun _ _ _ h => h)
 (hy : YieldsIf P ops S oi v a := by exact Or.inl ⟨by rfl, by rintro w' ⟨s0, s1, s2, s3, s4, s5, s6, s7, s8, s9, s10, s11, s12⟩; go_simp; with_reducible rfl⟩) (hS : S w := by exact hHeld) (ha : a.put N v = a' := by simp only [Act.put, List.setIfInBounds_toArray, List.set_cons_zero, List.set_cons_succ, i64_w, i32_w]; rfl) : wpAnyLast P md ops Q S ds (fuel + 1) l a w := take_ l' hi hN hc hQ hy hS ha h
theorem tk14 {P : Program} {md : Region.Mode} {ops : Array Oper} {Q : Exit → Act → World → Prop} {S : World → Prop} {ds : List Nat} (i : Nat) (N : Option Tmp) (l' : Array Bool) {oi : Oper} {v : Value} {fuel : Nat} {l : Array Bool} {a a' : Act} {w : World} (h : wpAnyLast P md ops Q S ds fuel l' a' w)
 (hi : ops[i]? = some oi := by exact rfl) (hN : oi.dst = N := by exact rfl) (hc : takeB md ops ds l l' i = true := by exact take_ofW HT_.out HW_.out (by kernel_rfl)) (hQ : ∀ c a w, Q (.panic c) (a.put oi.dst v) w → Q (.panic c) a w := by exact fun _ _ _ h => h)
 (hy : YieldsIf P ops S oi v a := by exact Or.inl ⟨by rfl, by rintro w' ⟨s0, s1, s2, s3, s4, s5, s6, s7, s8, s9, s10, s11, s12, s13⟩; go_simp; with_reducible rfl⟩) (hS : S w := by exact hHeld) (ha : a.put N v = a' := by simp only [Act.put, List.setIfInBounds_toArray, List.set_cons_zero, List.set_cons_succ, i64_w, i32_w]; rfl) : wpAnyLast P md ops Q S ds (fuel + 1) l a w := take_ l' hi hN hc hQ hy hS ha h
theorem tk15 {P : Program} {md : Region.Mode} {ops : Array Oper} {Q : Exit → Act → World → Prop} {S : World → Prop} {ds : List Nat} (i : Nat) (N : Option Tmp) (l' : Array Bool) {oi : Oper} {v : Value} {fuel : Nat} {l : Array Bool} {a a' : Act} {w : World} (h : wpAnyLast P md ops Q S ds fuel l' a' w)
 (hi : ops[i]? = some oi := by exact rfl) (hN : oi.dst = N := by exact rfl) (hc : takeB md ops ds l l' i = true := by exact take_ofW HT_.out HW_.out (by kernel_rfl)) (hQ : ∀ c a w, Q (.panic c) (a.put oi.dst v) w → Q (.panic c) a w := by exact fun _ _ _ h => h)
 (hy : YieldsIf P ops S oi v a := by exact Or.inl ⟨by rfl, by rintro w' ⟨s0, s1, s2, s3, s4, s5, s6, s7, s8, s9, s10, s11, s12, s13, s14⟩; go_simp; with_reducible rfl⟩) (hS : S w := by exact hHeld) (ha : a.put N v = a' := by simp only [Act.put, List.setIfInBounds_toArray, List.set_cons_zero, List.set_cons_succ, i64_w, i32_w]; rfl) : wpAnyLast P md ops Q S ds (fuel + 1) l a w := take_ l' hi hN hc hQ hy hS ha h
end
section
open Go.RowKit Go.Proofs.YtckhjehibjdjdaaW.PrintWords Go.Proofs.YtckhjehibjdjdaaW.PrintLast Go.Proofs.YtckhjehibjdjdaaW.PrintMore
theorem hb_ {w W : World} (h : Below w.heap.size w W := by repeat (first | (with_reducible first | exact HB.out | apply below_alloc | apply pw_below_drewN | apply below_drew1 | refine below_set ?_ (Aside0.out (by with_reducible assumption))) | exact HB.out)) : Below w.heap.size w W := h
theorem bk_ {W W' w' : World} {g : Nat} {o : Obj} (h : Aside0 (W.heap[g]? = some o)) (hb : Below W'.heap.size W' w') (e : W'.heap[g]? = some o := by (with_reducible repeat (first | refine blk_drewN ?_ _ | refine blk_drew ?_ | refine blk_alloc ?_ _)); exact Aside0.out (by with_reducible assumption)) : Aside0 (w'.heap[g]? = some o) := ⟨blk_below e hb⟩
theorem bo_ {W W' : World} {g : Nat} {o : Obj} (h : Aside0 (W.heap[g]? = some o)) (e : W'.heap[g]? = some o := by (with_reducible repeat (first | refine blk_drewN ?_ _ | refine blk_drew ?_ | refine blk_alloc ?_ _)); exact Aside0.out (by with_reducible assumption)) : W'.heap[g]? = some o := e
theorem hs_ {w W w2 : World} (k : Below W.heap.size W w2) (h : Below w.heap.size w W := by repeat (first | (with_reducible first | exact HB.out | apply below_alloc | apply pw_below_drewN | apply below_drew1 | refine below_set ?_ (Aside0.out (by with_reducible assumption))) | exact HB.out)) : Aside0 (Below w.heap.size w w2) := ⟨below_step h k⟩
theorem ge_ {w W : World} {g : Nat} (hg : g = W.heap.size) (h : Below w.heap.size w W := by repeat (first | (with_reducible first | exact HB.out | apply below_alloc | apply pw_below_drewN | apply below_drew1 | refine below_set ?_ (Aside0.out (by with_reducible assumption))) | exact HB.out)) : Aside0 (w.heap.size ≤ g) := ⟨hg ▸ below_size h⟩
theorem nl_ {W W' : World} {g g' : Nat} {o : Obj} (h : Aside0 (W.heap[g]? = some o)) (hg : g' = W'.heap.size) (e : W'.heap[g]? = some o := by (with_reducible repeat (first | refine blk_drewN ?_ _ | refine blk_drew ?_ | refine blk_alloc ?_ _)); exact Aside0.out (by with_reducible assumption)) : Aside0 (g ≠ g') := ⟨by rw [hg]; exact Nat.ne_of_lt (blk_lt e)⟩
theorem nr_ {W W' : World} {g g' : Nat} {o : Obj} (h : Aside0 (W.heap[g]? = some o)) (hg : g' = W'.heap.size) (e : W'.heap[g]? = some o := by (with_reducible repeat (first | refine blk_drewN ?_ _ | refine blk_drew ?_ | refine blk_alloc ?_ _)); exact Aside0.out (by with_reducible assumption)) : Aside0 (g' ≠ g) := ⟨by rw [hg]; exact Nat.ne_of_gt (blk_lt e)⟩
theorem cs_ {α : Type} {K : Kd α} {w W : World} {A : Option Addr} {n : Nat} {l : List α} (h : Aside0 (Kd.C K w A n l)) (e : Kd.C K W A n l := by repeat (first | exact Kd.C_below (Aside0.out (by with_reducible assumption)) HB.out | (with_reducible refine Kd.C_alloc ?_ _) | (with_reducible refine Kd.C_drewN ?_ _) | (with_reducible refine Kd.C_drew ?_))) : Kd.C K W A n l := e
theorem bs_ {p : Prop} (e : p := by (repeat (with_reducible first | refine blk_drewN ?_ _ | refine blk_drew ?_ | refine blk_alloc ?_ _ | apply blk_put | apply blk_far)); exact Aside0.out (by assumption); all_goals first | rfl | exact Aside0.out (by assumption)) : p := e
theorem kcl_ {w : World} {g i : Nat} {t : TypeId} {cs : Array Value} {v : Value} (h : Aside0 (w.heap[g]? = some (.cells cs t (0, 0)))) (e : cs[i]? = some v) : w.cell? ⟨g, i, none⟩ = some v := (blk_cell h.out i).trans e
theorem kcd_ {w : World} {g i n : Nat} {t : TypeId} {cs : Array Value} {v : Value} (h : Aside0 (w.heap[g]? = some (.cells cs t (0, 0)))) (e : cs[i]? = some v) : (w.drewN n).cell? ⟨g, i, none⟩ = some v := (blk_cell h.out i).trans e
theorem kc_ {p : Prop} (e : p := by (repeat' (with_reducible refine And.intro ?_ ?_)); all_goals (first | exact kcl_ (by with_reducible assumption) (by rfl) | exact kcd_ (by with_reducible assumption) (by rfl))) : p := e
theorem cx_ {w W : World} {a : Addr} {v : Value} (h : w.cell? a = some v) (hb : Below w.heap.size w W := by exact HB.out) : W.cell? a = some v := (hb.cell (World.block_lt_of_cell? w _ h)).trans h
theorem pv {P : Program} {md : Region.Mode} {ops : Array Oper} {Q : Exit → Act → World → Prop} {S : World → Prop} {ds : List Nat} (i : Nat) (N : Option Tmp) (l' : Array Bool) {oi : Oper} {fuel : Nat} {l : Array Bool} {a a' : Act} {w : World} (h : wpAnyLast P md ops Q S ds fuel l' a' w)
 (hi : ops[i]? = some oi := by exact rfl) (hN : oi.dst = N := by exact rfl) (hc : anyB md ops l l' i = true := by exact any_of HT_.out (by kernel_rfl)) (hQ : ∀ c a w, Q (.panic c) (a.put oi.dst undef) w → Q (.panic c) a w := by exact fun _ _ _ h => h)
 (hy : Yields P ops oi undef a := by exact Or.inr ⟨by rfl, rfl⟩) (ha : a.put N undef = a' := by simp only [Act.put, List.setIfInBounds_toArray, List.set_cons_zero, List.set_cons_succ, i64_w, i32_w]; rfl) : wpAnyLast P md ops Q S ds (fuel + 1) l a w := pure_ l' hi hN hc hQ hy ha h
theorem bz2_ {W : World} {g : Nat} {t : TypeId} {a b : Value} (h : Aside0 (W.heap[g]? = some (.cells #[a, b] t (0, 0)))) : W.cell? ⟨g, 0, none⟩ = some a ∧ W.cell? ⟨g, 1, none⟩ = some b ∧ W.frozen? ⟨g, 0, none⟩ = false ∧ W.frozen? ⟨g, 1, none⟩ = false := ⟨blk_cell h.out 0, blk_cell h.out 1, blk_frozen h.out 0, blk_frozen h.out 1⟩
theorem bz4_ {W : World} {g : Nat} {t : TypeId} {a b c d : Value} (h : Aside0 (W.heap[g]? = some (.cells #[a, b, c, d] t (0, 0)))) : W.cell? ⟨g, 0, none⟩ = some a ∧ W.cell? ⟨g, 1, none⟩ = some b ∧ W.cell? ⟨g, 2, none⟩ = some c ∧ W.cell? ⟨g, 3, none⟩ = some d ∧ W.frozen? ⟨g, 0, none⟩ = false ∧ W.frozen? ⟨g, 1, none⟩ = false ∧ W.frozen? ⟨g, 2, none⟩ = false ∧ W.frozen? ⟨g, 3, none⟩ = false := ⟨blk_cell h.out 0, blk_cell h.out 1, blk_cell h.out 2, blk_cell h.out 3, blk_frozen h.out 0, blk_frozen h.out 1, blk_frozen h.out 2, blk_frozen h.out 3⟩
theorem bz5_ {W : World} {g : Nat} {t : TypeId} {a b c d e : Value} (h : Aside0 (W.heap[g]? = some (.cells #[a, b, c, d, e] t (0, 0)))) : W.cell? ⟨g, 0, none⟩ = some a ∧ W.cell? ⟨g, 1, none⟩ = some b ∧ W.cell? ⟨g, 2, none⟩ = some c ∧ W.cell? ⟨g, 3, none⟩ = some d ∧ W.cell? ⟨g, 4, none⟩ = some e ∧ W.frozen? ⟨g, 0, none⟩ = false ∧ W.frozen? ⟨g, 1, none⟩ = false ∧ W.frozen? ⟨g, 2, none⟩ = false ∧ W.frozen? ⟨g, 3, none⟩ = false ∧ W.frozen? ⟨g, 4, none⟩ = false := ⟨blk_cell h.out 0, blk_cell h.out 1, blk_cell h.out 2, blk_cell h.out 3, blk_cell h.out 4, blk_frozen h.out 0, blk_frozen h.out 1, blk_frozen h.out 2, blk_frozen h.out 3, blk_frozen h.out 4⟩
theorem bz6_ {W : World} {g : Nat} {t : TypeId} {a b c d e f : Value} (h : Aside0 (W.heap[g]? = some (.cells #[a, b, c, d, e, f] t (0, 0)))) : W.cell? ⟨g, 0, none⟩ = some a ∧ W.cell? ⟨g, 1, none⟩ = some b ∧ W.cell? ⟨g, 2, none⟩ = some c ∧ W.cell? ⟨g, 3, none⟩ = some d ∧ W.cell? ⟨g, 4, none⟩ = some e ∧ W.cell? ⟨g, 5, none⟩ = some f ∧ W.frozen? ⟨g, 0, none⟩ = false ∧ W.frozen? ⟨g, 1, none⟩ = false ∧ W.frozen? ⟨g, 2, none⟩ = false ∧ W.frozen? ⟨g, 3, none⟩ = false ∧ W.frozen? ⟨g, 4, none⟩ = false ∧ W.frozen? ⟨g, 5, none⟩ = false := ⟨blk_cell h.out 0, blk_cell h.out 1, blk_cell h.out 2, blk_cell h.out 3, blk_cell h.out 4, blk_cell h.out 5, blk_frozen h.out 0, blk_frozen h.out 1, blk_frozen h.out 2, blk_frozen h.out 3, blk_frozen h.out 4, blk_frozen h.out 5⟩
end


theorem Z0 {p : Prop} (h : p := by (try simp only [List.map_toArray, List.map_cons, List.map_nil]); first | done | rfl | (simp only [List.length_drop, List.length_take]; rfl)) : p := h
theorem Z1 {p : Prop} (h : p := by first | rfl | (simp; done) | (simp [*]; done)) : p := h
theorem Z2 {p : Prop} (h : p := by first | (with_reducible assumption) | assumption) : p := h
theorem Z3 {p : Prop} (h : p := by rw [List.length_append]; have := HLN.out; have := HL1.out; omega) : p := h
theorem Z4 {p : Prop} (h : p := by have := HL1.out; omega) : p := h
theorem Z5 {p : Prop} (h : p := by (with_reducible repeat (first | apply Kd.R_alloc | apply Kd.R_drewN | apply Kd.R_drew)); exact HO_13.out) : p := h
theorem Z6 {p : Prop} (h : p := by have := HLN.out; omega) : p := h
theorem Z7 {p : Prop} (h : p := by have := HML1.out; have := HL1.out; omega) : p := h
theorem Z8 {p : Prop} (h : p := by have := HLN.out; have := HL1.out; omega) : p := h
theorem Z9 {p : Prop} (h : p := by have := HL1.out; have := HLN.out; omega) : p := h
end Go.Proofs.Ytckhjehibjdjdaa
namespace Go.Proofs.Ytckhjehibjdjdaa.P
open Go.RowKit Go.Proofs.YtckhjehibjdjdaaW.PrintWords Go.Proofs.YtckhjehibjdjdaaW.PrintLast Go.Proofs.YtckhjehibjdjdaaW.PrintMore
attribute [local go_sem] max2_int min2_int max_two min_two max_three min_three max_four min_four
set_option linter.unusedVariables false
set_option linter.unusedSimpArgs false
def errW : Option Int → Value
 | none => .nilIface
 | some c => .iface 0 (.int .i64 c)
theorem errW_none : errW none = .nilIface := rfl
theorem errW_some (c : Int) : errW (some c) = .iface 0 (.int .i64 c) := rfl
theorem info3 : (Try.prog.info? 3).map (fun i => (i.zero, i.size, i.bytes)) = some (some (.int .i64 0), 1, 8) := by kernel_rfl
theorem info41 : (Try.prog.info? 41).map (fun i => (i.zero, i.size, i.bytes)) = some (some (.agg #[(.int .i64 0), (.int .i64 0), (.int .i64 0), (.bool false), (.slice none 0 0)]), 5, 56) := by kernel_rfl
theorem info51 : (Try.prog.info? 51).map (fun i => (i.zero, i.size, i.bytes)) = some (some (.agg #[(.int .i64 0), (.int .i64 0), (.int .u64 0), (.int .i64 0)]), 4, 32) := by kernel_rfl
theorem info52 : (Try.prog.info? 52).map (fun i => (i.zero, i.size, i.bytes)) = some (some (.agg #[(.int .i64 0), (.int .i64 0), (.int .u64 0), (.int .i64 0)]), 4, 32) := by kernel_rfl
structure S48 where
 f0 : Int
 f1 : Int
def z48 : S48 := ⟨(0 : Int), (0 : Int)⟩
def k48 : Kd S48 := Kd.iso (Kd.pair (Kd.int .i64) (Kd.int .i64)) (fun x : S48 => (x.f0, x.f1))
theorem k48_heap : Kd.Heap k48 := Kd.heap_iso _ (Kd.heap_pair (Kd.heap_int .i64) (Kd.heap_int .i64))
theorem k48_open {w : World} {x : S48} {cs : List Value} (h : k48.K w x cs) : cs = [.int .i64 x.f0, .int .i64 x.f1] := by
 obtain ⟨_, _, rfl, rfl, rfl⟩ := h
 exact rfl
theorem k48_mkM (w : World) (base : Nat) (ok : Nat → Prop) (x : S48)  : k48.M w base ok x [.int .i64 x.f0, .int .i64 x.f1] := ⟨[.int .i64 x.f0], [.int .i64 x.f1], rfl, rfl, rfl⟩
structure S51 where
 f0 : S48
 f1 : Int
 f2 : Int
def z51 : S51 := ⟨z48, (0 : Int), (0 : Int)⟩
def k51 : Kd S51 := Kd.iso (Kd.pair k48 (Kd.pair (Kd.int .u64) (Kd.int .i64))) (fun x : S51 => (x.f0, x.f1, x.f2))
theorem k51_heap : Kd.Heap k51 := Kd.heap_iso _ (Kd.heap_pair k48_heap (Kd.heap_pair (Kd.heap_int .u64) (Kd.heap_int .i64)))
theorem k51_open {w : World} {x : S51} {cs : List Value} (h : k51.K w x cs) : cs = [.int .i64 x.f0.f0, .int .i64 x.f0.f1, .int .u64 x.f1, .int .i64 x.f2] := by
 obtain ⟨_, _, rfl, s0, ⟨_, _, rfl, rfl, rfl⟩⟩ := h
 obtain rfl := k48_open s0
 exact rfl
theorem k51_mkM (w : World) (base : Nat) (ok : Nat → Prop) (x : S51)  : k51.M w base ok x [.int .i64 x.f0.f0, .int .i64 x.f0.f1, .int .u64 x.f1, .int .i64 x.f2] := ⟨[.int .i64 x.f0.f0, .int .i64 x.f0.f1], [.int .u64 x.f1, .int .i64 x.f2], rfl, (k48_mkM w base ok x.f0 ), ⟨[.int .u64 x.f1], [.int .i64 x.f2], rfl, rfl, rfl⟩⟩
def rd_T51 (xs : List S51) (i : Int) : S51 := xs.getD i.toNat z51
theorem at_T51 {w : World} {A : Option Addr} {n : Nat} {xs : List S51} (h : Kd.C k51 w A n xs) (i : Int) (h0 : 0 ≤ i) (h1 : i < n) : ∃ ad , A = some ad ∧ w.cell? (ad.add (i.toNat * 4)) = some (.int .i64 (rd_T51 xs i).f0.f0) ∧ w.cell? ⟨(ad.add (i.toNat * 4)).block, (ad.add (i.toNat * 4)).off + 1, none⟩ = some (.int .i64 (rd_T51 xs i).f0.f1) ∧ w.cell? ⟨(ad.add (i.toNat * 4)).block, (ad.add (i.toNat * 4)).off + 2, none⟩ = some (.int .u64 (rd_T51 xs i).f1) ∧ w.cell? ⟨(ad.add (i.toNat * 4)).block, (ad.add (i.toNat * 4)).off + 3, none⟩ = some (.int .i64 (rd_T51 xs i).f2) := by
 obtain ⟨ad, c, e, _, hK, hc0⟩ := Kd.C_get h z51 i h0 h1
 have hc : ∀ j u, c[j]? = some u → w.cell? (ad.add (i.toNat * 4 + j)) = some u := hc0
 obtain rfl := k51_open hK
 exact ⟨ad, e, hc 0 _ rfl, by rw [← add_field _ _ 1 (by omega)]; exact hc 1 _ rfl, by rw [← add_field _ _ 2 (by omega)]; exact hc 2 _ rfl, by rw [← add_field _ _ 3 (by omega)]; exact hc 3 _ rfl⟩
structure S52 where
 f0 : S48
 f1 : Int
 f2 : Int
def z52 : S52 := ⟨z48, (0 : Int), (0 : Int)⟩
def k52 : Kd S52 := Kd.iso (Kd.pair k48 (Kd.pair (Kd.int .u64) (Kd.int .i64))) (fun x : S52 => (x.f0, x.f1, x.f2))
theorem k52_heap : Kd.Heap k52 := Kd.heap_iso _ (Kd.heap_pair k48_heap (Kd.heap_pair (Kd.heap_int .u64) (Kd.heap_int .i64)))
theorem k52_open {w : World} {x : S52} {cs : List Value} (h : k52.K w x cs) : cs = [.int .i64 x.f0.f0, .int .i64 x.f0.f1, .int .u64 x.f1, .int .i64 x.f2] := by
 obtain ⟨_, _, rfl, s0, ⟨_, _, rfl, rfl, rfl⟩⟩ := h
 obtain rfl := k48_open s0
 exact rfl
theorem k52_mkM (w : World) (base : Nat) (ok : Nat → Prop) (x : S52)  : k52.M w base ok x [.int .i64 x.f0.f0, .int .i64 x.f0.f1, .int .u64 x.f1, .int .i64 x.f2] := ⟨[.int .i64 x.f0.f0, .int .i64 x.f0.f1], [.int .u64 x.f1, .int .i64 x.f2], rfl, (k48_mkM w base ok x.f0 ), ⟨[.int .u64 x.f1], [.int .i64 x.f2], rfl, rfl, rfl⟩⟩
def rd_T52 (xs : List S52) (i : Int) : S52 := xs.getD i.toNat z52
theorem at_T52 {w : World} {A : Option Addr} {n : Nat} {xs : List S52} (h : Kd.C k52 w A n xs) (i : Int) (h0 : 0 ≤ i) (h1 : i < n) : ∃ ad , A = some ad ∧ w.cell? (ad.add (i.toNat * 4)) = some (.int .i64 (rd_T52 xs i).f0.f0) ∧ w.cell? ⟨(ad.add (i.toNat * 4)).block, (ad.add (i.toNat * 4)).off + 1, none⟩ = some (.int .i64 (rd_T52 xs i).f0.f1) ∧ w.cell? ⟨(ad.add (i.toNat * 4)).block, (ad.add (i.toNat * 4)).off + 2, none⟩ = some (.int .u64 (rd_T52 xs i).f1) ∧ w.cell? ⟨(ad.add (i.toNat * 4)).block, (ad.add (i.toNat * 4)).off + 3, none⟩ = some (.int .i64 (rd_T52 xs i).f2) := by
 obtain ⟨ad, c, e, _, hK, hc0⟩ := Kd.C_get h z52 i h0 h1
 have hc : ∀ j u, c[j]? = some u → w.cell? (ad.add (i.toNat * 4 + j)) = some u := hc0
 obtain rfl := k52_open hK
 exact ⟨ad, e, hc 0 _ rfl, by rw [← add_field _ _ 1 (by omega)]; exact hc 1 _ rfl, by rw [← add_field _ _ 2 (by omega)]; exact hc 2 _ rfl, by rw [← add_field _ _ 3 (by omega)]; exact hc 3 _ rfl⟩
structure S41 where
 f0 : Int
 f1 : Int
 f2 : Int
 f3 : Bool
 f4 : (List S52)
def z41 : S41 := ⟨(0 : Int), (0 : Int), (0 : Int), false, ([] : List S52)⟩
def k41 : Kd S41 := Kd.iso (Kd.pair (Kd.int .i64) (Kd.pair (Kd.int .i64) (Kd.pair (Kd.int .i64) (Kd.pair Kd.bool (Kd.slice 52 k52))))) (fun x : S41 => (x.f0, x.f1, x.f2, x.f3, x.f4))
theorem k41_open {w : World} {x : S41} {cs : List Value} (h : k41.K w x cs) : ∃ A4 c4, cs = [.int .i64 x.f0, .int .i64 x.f1, .int .i64 x.f2, .bool x.f3, .slice A4 x.f4.length c4] ∧ x.f4.length ≤ c4 ∧ k52.C w A4 x.f4.length x.f4 := by
 obtain ⟨_, _, rfl, rfl, ⟨_, _, rfl, rfl, ⟨_, _, rfl, rfl, ⟨_, _, rfl, rfl, ⟨A4, c4, rfl, l4, g4⟩⟩⟩⟩⟩ := h
 exact ⟨A4, c4, rfl, l4, g4⟩
theorem k41_mk (w : World) (x : S41) {A4 : Option Addr} {c4 : Nat} (l4 : x.f4.length ≤ c4) (g4 : k52.C w A4 x.f4.length x.f4) : k41.K w x [.int .i64 x.f0, .int .i64 x.f1, .int .i64 x.f2, .bool x.f3, .slice A4 x.f4.length c4] := ⟨[.int .i64 x.f0], [.int .i64 x.f1, .int .i64 x.f2, .bool x.f3, .slice A4 x.f4.length c4], rfl, rfl, ⟨[.int .i64 x.f1], [.int .i64 x.f2, .bool x.f3, .slice A4 x.f4.length c4], rfl, rfl, ⟨[.int .i64 x.f2], [.bool x.f3, .slice A4 x.f4.length c4], rfl, rfl, ⟨[.bool x.f3], [.slice A4 x.f4.length c4], rfl, rfl, ⟨A4, c4, rfl, l4, g4⟩⟩⟩⟩⟩
theorem k41_mkF (W : World) (ok : Nat → Prop) (x : S41) {A4 : Option Addr} {c4 : Nat} (l4 : x.f4.length ≤ c4) (g4 : Kd.F k52 W ok A4 x.f4.length x.f4) : Kd.FK k41 W ok x [.int .i64 x.f0, .int .i64 x.f1, .int .i64 x.f2, .bool x.f3, .slice A4 x.f4.length c4] := fun W2 hW => k41_mk W2 x l4 (g4 W2 hW)
def rd_T41 (xs : List S41) (i : Int) : S41 := xs.getD i.toNat z41
theorem at_T41 {w : World} {A : Option Addr} {n : Nat} {xs : List S41} (h : Kd.C k41 w A n xs) (i : Int) (h0 : 0 ≤ i) (h1 : i < n) : ∃ ad A4 c4, A = some ad ∧ w.cell? (ad.add (i.toNat * 5)) = some (.int .i64 (rd_T41 xs i).f0) ∧ w.cell? ⟨(ad.add (i.toNat * 5)).block, (ad.add (i.toNat * 5)).off + 1, none⟩ = some (.int .i64 (rd_T41 xs i).f1) ∧ w.cell? ⟨(ad.add (i.toNat * 5)).block, (ad.add (i.toNat * 5)).off + 2, none⟩ = some (.int .i64 (rd_T41 xs i).f2) ∧ w.cell? ⟨(ad.add (i.toNat * 5)).block, (ad.add (i.toNat * 5)).off + 3, none⟩ = some (.bool (rd_T41 xs i).f3) ∧ w.cell? ⟨(ad.add (i.toNat * 5)).block, (ad.add (i.toNat * 5)).off + 4, none⟩ = some (.slice A4 (rd_T41 xs i).f4.length c4) ∧ (rd_T41 xs i).f4.length ≤ c4 ∧ k52.C w A4 (rd_T41 xs i).f4.length (rd_T41 xs i).f4 := by
 obtain ⟨ad, c, e, _, hK, hc0⟩ := Kd.C_get h z41 i h0 h1
 have hc : ∀ j u, c[j]? = some u → w.cell? (ad.add (i.toNat * 5 + j)) = some u := hc0
 obtain ⟨A4, c4, rfl, l4, g4⟩ := k41_open hK
 exact ⟨ad, A4, c4, e, hc 0 _ rfl, by rw [← add_field _ _ 1 (by omega)]; exact hc 1 _ rfl, by rw [← add_field _ _ 2 (by omega)]; exact hc 2 _ rfl, by rw [← add_field _ _ 3 (by omega)]; exact hc 3 _ rfl, by rw [← add_field _ _ 4 (by omega)]; exact hc 4 _ rfl, l4, g4⟩
structure S27 where
 f0 : Int
 f1 : Int
 f2 : Int
 f3 : Int
def k27 : Kd S27 := Kd.iso (Kd.pair (Kd.int .i64) (Kd.pair (Kd.int .i64) (Kd.pair (Kd.int .i64) (Kd.int .i64)))) (fun x : S27 => (x.f0, x.f1, x.f2, x.f3))
theorem k27_open {w : World} {x : S27} {cs : List Value} (h : k27.K w x cs) : cs = [.int .i64 x.f0, .int .i64 x.f1, .int .i64 x.f2, .int .i64 x.f3] := by
 obtain ⟨_, _, rfl, rfl, ⟨_, _, rfl, rfl, ⟨_, _, rfl, rfl, rfl⟩⟩⟩ := h
 exact rfl
structure S29 where
 f0 : Int
 f1 : Int
 f2 : S27
def k29 : Kd S29 := Kd.iso (Kd.pair (Kd.int .i64) (Kd.pair (Kd.int .i64) k27)) (fun x : S29 => (x.f0, x.f1, x.f2))
theorem k29_open {w : World} {x : S29} {cs : List Value} (h : k29.K w x cs) : cs = [.int .i64 x.f0, .int .i64 x.f1, .int .i64 x.f2.f0, .int .i64 x.f2.f1, .int .i64 x.f2.f2, .int .i64 x.f2.f3] := by
 obtain ⟨_, _, rfl, rfl, ⟨_, _, rfl, rfl, s2⟩⟩ := h
 obtain rfl := k27_open s2
 exact rfl
end Go.Proofs.Ytckhjehibjdjdaa.P
namespace Go.Proofs.Ytckhjehibjdjdaa.P
open Go.RowKit Go.Proofs.YtckhjehibjdjdaaW.PrintWords Go.Proofs.YtckhjehibjdjdaaW.PrintLast Go.Proofs.YtckhjehibjdjdaaW.PrintMore
attribute [local go_sem] max2_int min2_int max_two min_two max_three min_three max_four min_four
set_option linter.unusedVariables false
set_option linter.unusedSimpArgs false
def ensembleref01_Has.l0 : Nat → Int → Int → Int → Option (Bool)
 | 0, _, _, _ => none
 | k + 1, x0, x1, x5 => if x5 < x1 then (ensembleref01_Has.l0 k (IntKind.u64.wrap (Int.tdiv x0 2)) x1 (wrap64 (x5 + 1))) else (if x1 ≥ 0 then (if x1 < 64 then (some ((Int.tmod x0 2) == 1)) else (some false)) else (some false))
def ensembleref01_Has.f (k : Nat) (a0 : Int) (a1 : Int) : Option (Bool) := ensembleref01_Has.l0 k a0 a1 0
set_option maxHeartbeats 8000000 in
set_option maxRecDepth 100000 in
theorem ensembleref01_Has.calls (k : Nat) (a0 : Int) (a1 : Int) (r : Bool) (w : World) (h : ensembleref01_Has.f k a0 a1 = some r) :
  Calls Try.prog 106 #[.int .u64 a0, .int .i64 a1] w fun e w' => e = .returned (.bool r) ∧ Drawn0 w w' := by
 have H : (ensembleref01_Has.l0 k a0 a1 0) = some r := h
 clear h
 have H' := Aside0.mk H
 clear H
 go_enter Try.func106, Try.ntmps106
 go_wp2
 go_loopg [0, 5] k (fun kq v0 v5 w' => ∃ (x0_1 : Int) (x5_1 : Int), v0 = .int .u64 x0_1 ∧ v5 = .int .i64 x5_1 ∧ Aside0 (ensembleref01_Has.l0 kq x0_1 a1 x5_1 = some r) ∧ Aside0 (kq ≤ k) ∧ Drawn0 w w')
 case atStart => exact ⟨(a0), (0), Z1, Z1, H', ⟨Nat.le_refl _⟩, by repeat (first | exact Drawn0.refl _ | apply Drawn0.step)⟩
 case round =>
  clear H'
  try clear c1
  try clear p2
  obtain ⟨x0_1, x5_1, rfl, rfl, HA, HK1, ⟨m1, rfl⟩⟩ := hrel
  cases gk with
  | zero => exact absurd HA.out (by simp [ensembleref01_Has.l0])
  | succ k1 =>
   have H := HA.out
   clear HA
   simp only [ensembleref01_Has.l0] at H
   by_cases c3 : x5_1 < a1
   ·rw [if_pos c3] at H
    have c3b0 : decide (x5_1 < a1) = true := decide_eq_true c3
    clear c3
    have H' := Aside0.mk H
    clear H
    go_wp2
    go_roundg k1
    case measure => have := HK1.out; omega
    case rel => exact ⟨(IntKind.u64.wrap (Int.tdiv x0_1 2)), (wrap64 (x5_1 + 1)), Z1, Z1, H', ⟨by have := HK1.out; omega⟩, by repeat (first | exact Drawn0.refl _ | apply Drawn0.step)⟩
   ·rw [if_neg c3] at H
    have c3b0 : decide (x5_1 < a1) = false := decide_eq_false c3
    clear c3
    by_cases c4 : a1 ≥ 0
    ·rw [if_pos c4] at H
     have c4b0 : decide (0 ≤ a1) = true := decide_eq_true c4
     clear c4
     by_cases c5 : a1 < 64
     ·rw [if_pos c5] at H
      have c5b0 : decide (a1 < 64) = true := decide_eq_true c5
      clear c5
      obtain rfl := Option.some.inj H
      go_wp2
      go_ret
      exact ⟨by first | rfl | (simp; done) | (simp [*]; done), by repeat (first | exact Drawn0.refl _ | apply Drawn0.step)⟩
     ·rw [if_neg c5] at H
      have c5b0 : decide (a1 < 64) = false := decide_eq_false c5
      clear c5
      obtain rfl := Option.some.inj H
      go_wp2
      go_ret
      exact ⟨by first | rfl | (simp; done) | (simp [*]; done), by repeat (first | exact Drawn0.refl _ | apply Drawn0.step)⟩
    ·rw [if_neg c4] at H
     have c4b0 : decide (0 ≤ a1) = false := decide_eq_false c4
     clear c4
     obtain rfl := Option.some.inj H
     go_wp2
     go_ret
     exact ⟨by first | rfl | (simp; done) | (simp [*]; done), by repeat (first | exact Drawn0.refl _ | apply Drawn0.step)⟩
end Go.Proofs.Ytckhjehibjdjdaa.P
namespace Go.Proofs.Ytckhjehibjdjdaa.P
open Go.RowKit Go.Proofs.YtckhjehibjdjdaaW.PrintWords Go.Proofs.YtckhjehibjdjdaaW.PrintLast Go.Proofs.YtckhjehibjdjdaaW.PrintMore
attribute [local go_sem] max2_int min2_int max_two min_two max_three min_three max_four min_four
set_option linter.unusedVariables false
set_option linter.unusedSimpArgs false
def ensembleref01_Units.l0 : Nat → Int → List Int → Int → Option (List Int)
 | 0, _, _, _ => none
 | k + 1, x0, x3, x4 => if x4 < 64 then ((ensembleref01_Has.f k x0 x4).bind fun t134 => (if t134 = true then (if x3.length < 17592186044416 then (ensembleref01_Units.l0 k x0 (x3 ++ [x4]) (wrap64 (x4 + 1))) else (none)) else (ensembleref01_Units.l0 k x0 x3 (wrap64 (x4 + 1))))) else (some x3)
def ensembleref01_Units.f (k : Nat) (a0 : Int) : Option (List Int) := ensembleref01_Units.l0 k a0 ([] : List Int) 0
set_option maxHeartbeats 8000000 in
set_option maxRecDepth 100000 in
theorem ensembleref01_Units.calls (k : Nat) (a0 : Int) (r : List Int) (w : World) (h : ensembleref01_Units.f k a0 = some r) :
  Calls Try.prog 82 #[.int .u64 a0] w fun e w' => ∃ v0_ : Value, e = .returned (v0_) ∧ Kd.R (Kd.int .i64) 3 w' w.heap.size (fun _ => True) v0_ r ∧ Below w.heap.size w w' := by
 have HB := Aside0.mk (Below.refl w.heap.size w)
 have H : (ensembleref01_Units.l0 k a0 ([] : List Int) 0) = some r := h
 clear h
 have H' := Aside0.mk H
 clear H
 go_enter Try.func82, Try.ntmps82
 go_wp2
 go_loopg [3, 4] k (fun kq v3 v4 w' => ∃ (x3_1 : List Int) (x4_1 : Int), v4 = .int .i64 x4_1 ∧ Aside0 (ensembleref01_Units.l0 kq a0 x3_1 x4_1 = some r) ∧ Aside0 (kq ≤ k) ∧ Aside0 (Kd.R (Kd.int .i64) 3 w' w.heap.size (fun _ => True) v3 x3_1) ∧ Aside0 (Below w.heap.size w w'))
 case atStart => exact ⟨(([] : List Int)), (0), Z1, H', ⟨Nat.le_refl _⟩, ⟨by first | exact Kd.R_nil _ _ _ _ _ | exact Kd.N_nil _ _ _ _ _ | exact Kd.V_nil _ _ _ _ _ | exact Kd.Q_nil _ _ _ _ _ | exact Kd.S_nil _ _ _ _ _⟩, ⟨hb_⟩⟩
 case round =>
  clear H'
  obtain ⟨x3_1, x4_1, rfl, HA, HK1, HO_3, HB⟩ := hrel
  cases gk with
  | zero => exact absurd HA.out (by simp [ensembleref01_Units.l0])
  | succ k1 =>
   have H := HA.out
   clear HA
   simp only [ensembleref01_Units.l0] at H
   by_cases c2 : x4_1 < 64
   ·rw [if_pos c2] at H
    have c2b0 : decide (x4_1 < 64) = true := decide_eq_true c2
    clear c2
    replace H := Option.bind_eq_some_iff.mp H
    obtain ⟨t134, A30, H⟩ := H
    replace H : (if t134 = true then (if x3_1.length < 17592186044416 then (ensembleref01_Units.l0 k1 a0 (x3_1 ++ [x4_1]) (wrap64 (x4_1 + 1))) else (none)) else (ensembleref01_Units.l0 k1 a0 x3_1 (wrap64 (x4_1 + 1)))) = some r := H
    have A3 := Aside0.mk A30
    clear A30
    by_cases c4 : t134 = true
    ·subst c4
     have H1 : (if x3_1.length < 17592186044416 then (ensembleref01_Units.l0 k1 a0 (x3_1 ++ [x4_1]) (wrap64 (x4_1 + 1))) else (none)) = some r := by rw [if_pos rfl] at H; exact H
     clear H
     have H := H1
     clear H1
     by_cases c5 : x3_1.length < 17592186044416
     ·rw [if_pos c5] at H
      have LMc5 := Aside0.mk c5
      clear c5
      obtain ⟨y135, hy135⟩ : ∃ y_ : List Int, y_ = (x3_1 ++ [x4_1]) := ⟨_, rfl⟩
      replace H : (ensembleref01_Units.l0 k1 a0 y135 (wrap64 (x4_1 + 1))) = some r := by first | (rw [hy135]; with_reducible exact H) | (have H2_ := (Option.bind_some _ _).symm.trans H; rw [hy135]; with_reducible exact H2_) | (have H2_ := (Option.bind_some _ _).symm.trans H; with_reducible exact H2_) | with_reducible exact H | (rw [hy135]; exact H) | exact H
      have Ny135 := Aside0.mk hy135
      clear hy135
      have H' := Aside0.mk H
      clear H
      go_wp2_with (first | ((with_reducible refine gate_callee (f := 106) rfl ?_); refine goesL_ (some 11) rfl rfl Try.func106 (by kernel_rfl) rfl #[.int .u64 a0, .int .i64 x4_1] rfl Z0 ?_; (with_reducible refine (ensembleref01_Has.calls k1 a0 x4_1 true _ A3.out).mono ?_); rintro e w' ⟨rfl, ⟨nd, rfl⟩⟩; refine ⟨_, rfl, ?_⟩) | ((with_reducible refine gate_builtin (b := .append) (xs := #[.tmp 12, .tmp 14]) rfl ?_); at_builtin; refine Kd.R_append (Kd.int .i64) (w0 := w) w.heap.size rfl (.tmp 12) (.tmp 14) 71 3 (.int .i64 0) 8 rfl Try.underlying71 info3 rfl (by decide) (by omega) u3 x3_1 x4_1 [.int .i64 x4_1] (fun _ => True) (fun _ => False) rfl rfl ?aP (fun _ hk => hk.elim) ?aF ?aO ?aB ?aS ?aL ?_; (case aP => exact rfl); (case aB => exact hb_); (case aF => exact (fun _ _ => trivial)); (case aO => exact (by (with_reducible repeat (first | apply Kd.R_alloc | apply Kd.R_drewN | apply Kd.R_drew)); exact HO_3.out)); (case aS => exact (below_size hb_)); (case aL => have := LMc5.out; omega); intro v136 w6 ho hb hg hat; rw [← Ny135.out] at ho; have HO137 := Aside0.mk (ho); replace HB := Aside0.mk (hb); clear HO_3; clear ho hb hg hat))
      go_roundg k1
      case measure => have := HK1.out; omega
      case rel => exact ⟨(y135), (wrap64 (x4_1 + 1)), Z1, H', ⟨by have := HK1.out; omega⟩, ⟨by (with_reducible repeat (first | apply Kd.R_alloc | apply Kd.R_drewN | apply Kd.R_drew)); exact HO137.out⟩, ⟨hb_⟩⟩
     ·rw [if_neg c5] at H
      exact absurd H (by simp)
    ·replace c4 := Bool.eq_false_iff.mpr c4
     subst c4
     have H1 : (ensembleref01_Units.l0 k1 a0 x3_1 (wrap64 (x4_1 + 1))) = some r := by rw [if_neg (show ¬ (false = true) by decide)] at H; exact H
     clear H
     have H := H1
     clear H1
     have H' := Aside0.mk H
     clear H
     go_wp2_with (first | ((with_reducible refine gate_callee (f := 106) rfl ?_); refine goesL_ (some 11) rfl rfl Try.func106 (by kernel_rfl) rfl #[.int .u64 a0, .int .i64 x4_1] rfl Z0 ?_; (with_reducible refine (ensembleref01_Has.calls k1 a0 x4_1 false _ A3.out).mono ?_); rintro e w' ⟨rfl, ⟨nd, rfl⟩⟩; refine ⟨_, rfl, ?_⟩))
     go_roundg k1
     case measure => have := HK1.out; omega
     case rel => exact ⟨(x3_1), (wrap64 (x4_1 + 1)), Z1, H', ⟨by have := HK1.out; omega⟩, ⟨by (with_reducible repeat (first | apply Kd.R_alloc | apply Kd.R_drewN | apply Kd.R_drew)); exact HO_3.out⟩, ⟨hb_⟩⟩
   ·rw [if_neg c2] at H
    have c2b0 : decide (x4_1 < 64) = false := decide_eq_false c2
    clear c2
    obtain rfl := Option.some.inj H
    go_wp2
    go_ret
    exact ⟨_, by first | rfl | (simp [errW_none, errW_some] <;> rfl) | (simp [*, errW_none, errW_some] <;> rfl), by (with_reducible repeat (first | apply Kd.R_alloc | apply Kd.R_drewN | apply Kd.R_drew)); exact HO_3.out, hb_⟩
end Go.Proofs.Ytckhjehibjdjdaa.P
namespace Go.Proofs.Ytckhjehibjdjdaa.P
open Go.RowKit Go.Proofs.YtckhjehibjdjdaaW.PrintWords Go.Proofs.YtckhjehibjdjdaaW.PrintLast Go.Proofs.YtckhjehibjdjdaaW.PrintMore
attribute [local go_sem] max2_int min2_int max_two min_two max_three min_three max_four min_four
set_option linter.unusedVariables false
set_option linter.unusedSimpArgs false
def ensembleref01_bit.l0 : Nat → Int → Int → Int → Option (Int)
 | 0, _, _, _ => none
 | k + 1, x0, x3, x4 => if x4 < x0 then (ensembleref01_bit.l0 k x0 (IntKind.u64.wrap (x3 * 2)) (wrap64 (x4 + 1))) else (some x3)
def ensembleref01_bit.f (k : Nat) (a0 : Int) : Option (Int) := ensembleref01_bit.l0 k a0 1 0
set_option maxHeartbeats 8000000 in
set_option maxRecDepth 100000 in
theorem ensembleref01_bit.calls (k : Nat) (a0 : Int) (r : Int) (w : World) (h : ensembleref01_bit.f k a0 = some r) :
  Calls Try.prog 134 #[.int .i64 a0] w fun e w' => e = .returned (.int .u64 r) ∧ Drawn0 w w' := by
 have H : (ensembleref01_bit.l0 k a0 1 0) = some r := h
 clear h
 have H' := Aside0.mk H
 clear H
 go_enter Try.func134, Try.ntmps134
 go_wp2
 go_loopg [3, 4] k (fun kq v3 v4 w' => ∃ (x3_1 : Int) (x4_1 : Int), v3 = .int .u64 x3_1 ∧ v4 = .int .i64 x4_1 ∧ Aside0 (ensembleref01_bit.l0 kq a0 x3_1 x4_1 = some r) ∧ Aside0 (kq ≤ k) ∧ Drawn0 w w')
 case atStart => exact ⟨(1), (0), Z1, Z1, H', ⟨Nat.le_refl _⟩, by repeat (first | exact Drawn0.refl _ | apply Drawn0.step)⟩
 case round =>
  clear H'
  try clear c1
  obtain ⟨x3_1, x4_1, rfl, rfl, HA, HK1, ⟨m1, rfl⟩⟩ := hrel
  cases gk with
  | zero => exact absurd HA.out (by simp [ensembleref01_bit.l0])
  | succ k1 =>
   have H := HA.out
   clear HA
   simp only [ensembleref01_bit.l0] at H
   by_cases c2 : x4_1 < a0
   ·rw [if_pos c2] at H
    have c2b0 : decide (x4_1 < a0) = true := decide_eq_true c2
    clear c2
    have H' := Aside0.mk H
    clear H
    go_wp2
    go_roundg k1
    case measure => have := HK1.out; omega
    case rel => exact ⟨(IntKind.u64.wrap (x3_1 * 2)), (wrap64 (x4_1 + 1)), Z1, Z1, H', ⟨by have := HK1.out; omega⟩, by repeat (first | exact Drawn0.refl _ | apply Drawn0.step)⟩
   ·rw [if_neg c2] at H
    have c2b0 : decide (x4_1 < a0) = false := decide_eq_false c2
    clear c2
    obtain rfl := Option.some.inj H
    go_wp2
    go_ret
    exact ⟨by first | rfl | (simp; done) | (simp [*]; done), by repeat (first | exact Drawn0.refl _ | apply Drawn0.step)⟩
end Go.Proofs.Ytckhjehibjdjdaa.P
namespace Go.Proofs.Ytckhjehibjdjdaa.P
open Go.RowKit Go.Proofs.YtckhjehibjdjdaaW.PrintWords Go.Proofs.YtckhjehibjdjdaaW.PrintLast Go.Proofs.YtckhjehibjdjdaaW.PrintMore
attribute [local go_sem] max2_int min2_int max_two min_two max_three min_three max_four min_four
set_option linter.unusedVariables false
set_option linter.unusedSimpArgs false
def ensembleref01_Lowest.l0 : Nat → Int → List Int → Int → Int → Option (Int × Int)
 | 0, _, _, _, _ => none
 | k + 1, x1, x6, x7, x8 => if x8 < x1 then (if 0 ≤ x8 then (if x8 < (x6.length : Int) then ((ensembleref01_bit.f k (rd x6 x8)).bind fun t142 => (ensembleref01_Lowest.l0 k x1 x6 (IntKind.u64.wrap (x7 + t142)) (wrap64 (x8 + 1)))) else (none)) else (none)) else (some (x7, 0))
def ensembleref01_Lowest.f (k : Nat) (a0 : Int) (a1 : Int) : Option (Int × Int) := if a1 < 0 then (some (0, 1)) else ((ensembleref01_Units.f k a0).bind fun t138 => (if a1 > (t138.length : Int) then (some (0, 2)) else (ensembleref01_Lowest.l0 k a1 t138 0 0)))
set_option maxHeartbeats 8000000 in
set_option maxRecDepth 100000 in
theorem ensembleref01_Lowest.calls (k : Nat) (a0 : Int) (a1 : Int) (r1 : Int) (r2 : Int) (w : World) (h : ensembleref01_Lowest.f k a0 a1 = some (r1, r2)) :
  Calls Try.prog 115 #[.int .u64 a0, .int .i64 a1] w fun e w' => e = .returned (.tuple #[.int .u64 r1, .int .i64 r2]) ∧ Below w.heap.size w w' := by
 have HB := Aside0.mk (Below.refl w.heap.size w)
 have H : (if a1 < 0 then (some (0, 1)) else ((ensembleref01_Units.f k a0).bind fun t138 => (if a1 > (t138.length : Int) then (some (0, 2)) else (ensembleref01_Lowest.l0 k a1 t138 0 0)))) = some (r1, r2) := h
 clear h
 by_cases c3 : a1 < 0
 ·rw [if_pos c3] at H
  have c3b0 : decide (a1 < 0) = true := decide_eq_true c3
  clear c3
  simp only [Option.some.injEq, Prod.mk.injEq] at H
  obtain ⟨rfl, rfl⟩ := H
  go_enter Try.func115, Try.ntmps115
  go_wp2
  go_ret2
  exact ⟨by first | rfl | (simp [errW_none, errW_some] <;> rfl) | (simp [*, errW_none, errW_some] <;> rfl), hb_⟩
 ·rw [if_neg c3] at H
  have c3b0 : decide (a1 < 0) = false := decide_eq_false c3
  clear c3
  replace H := Option.bind_eq_some_iff.mp H
  obtain ⟨t138, A40, H⟩ := H
  replace H : (if a1 > (t138.length : Int) then (some (0, 2)) else (ensembleref01_Lowest.l0 k a1 t138 0 0)) = some (r1, r2) := H
  have A4 := Aside0.mk A40
  clear A40
  by_cases c5 : a1 > (t138.length : Int)
  ·rw [if_pos c5] at H
   have c5b0 : decide ((t138.length : Int) < a1) = true := decide_eq_true c5
   clear c5
   simp only [Option.some.injEq, Prod.mk.injEq] at H
   obtain ⟨rfl, rfl⟩ := H
   go_enter Try.func115, Try.ntmps115
   go_wp2_with (first | ((with_reducible refine gate_callee (f := 82) rfl ?_); refine goesL_ (some 12) rfl rfl Try.func82 (by kernel_rfl) rfl #[.int .u64 a0] rfl Z0 ?_; (with_reducible refine (ensembleref01_Units.calls k a0 t138 _ A4.out).mono ?_); rintro e w6 ⟨v139, rfl, ho0, hb⟩; refine ⟨_, rfl, ?_⟩; have HO140 := Aside0.mk (Kd.R_lower ho0 (below_size hb_)); replace HB := hs_ hb; (try clear hb); (try clear hb2); (try clear hk); (try clear hi); (try clear ho0); obtain ⟨Ao7, co7, eo7⟩ := Kd.R_slice HO140.out; subst eo7))
   go_ret2
   exact ⟨by first | rfl | (simp [errW_none, errW_some] <;> rfl) | (simp [*, errW_none, errW_some] <;> rfl), hb_⟩
  ·rw [if_neg c5] at H
   have c5b0 : decide ((t138.length : Int) < a1) = false := decide_eq_false c5
   clear c5
   have H' := Aside0.mk H
   clear H
   go_enter Try.func115, Try.ntmps115
   go_wp2_with (first | ((with_reducible refine gate_callee (f := 82) rfl ?_); refine goesL_ (some 12) rfl rfl Try.func82 (by kernel_rfl) rfl #[.int .u64 a0] rfl Z0 ?_; (with_reducible refine (ensembleref01_Units.calls k a0 t138 _ A4.out).mono ?_); rintro e w8 ⟨v139, rfl, ho0, hb⟩; refine ⟨_, rfl, ?_⟩; have HO140 := Aside0.mk (Kd.R_lower ho0 (below_size hb_)); replace HB := hs_ hb; (try clear hb); (try clear hb2); (try clear hk); (try clear hi); (try clear ho0); obtain ⟨Ao9, co9, eo9⟩ := Kd.R_slice HO140.out; subst eo9))
   go_loopg [7, 8] k (fun kq v7 v8 w' => ∃ (x7_1 : Int) (x8_1 : Int), v7 = .int .u64 x7_1 ∧ v8 = .int .i64 x8_1 ∧ Aside0 (ensembleref01_Lowest.l0 kq a1 t138 x7_1 x8_1 = some (r1, r2)) ∧ Aside0 (kq ≤ k) ∧ Aside0 (Kd.R (Kd.int .i64) 3 w' w.heap.size (fun _ => True) (.slice Ao9 t138.length co9) t138) ∧ Aside0 (Below w.heap.size w w'))
   case atStart => exact ⟨(0), (0), Z1, Z1, H', ⟨Nat.le_refl _⟩, ⟨by (with_reducible repeat (first | apply Kd.R_alloc | apply Kd.R_drewN | apply Kd.R_drew)); exact HO140.out⟩, ⟨hb_⟩⟩
   case round =>
    clear H'
    try clear c1
    try clear p2
    try clear c3
    try clear c3b0
    try clear c5
    try clear c5b0
    try clear c8
    obtain ⟨x7_1, x8_1, rfl, rfl, HA, HK1, HO_6, HB⟩ := hrel
    cases gk with
    | zero => exact absurd HA.out (by simp [ensembleref01_Lowest.l0])
    | succ k1 =>
     have H := HA.out
     clear HA
     simp only [ensembleref01_Lowest.l0] at H
     by_cases c10 : x8_1 < a1
     ·rw [if_pos c10] at H
      have c10b0 : decide (x8_1 < a1) = true := decide_eq_true c10
      clear c10
      by_cases c11 : 0 ≤ x8_1
      ·rw [if_pos c11] at H
       have c11b0 : decide (0 ≤ x8_1) = true := decide_eq_true c11
       clear c11
       by_cases c12 : x8_1 < (t138.length : Int)
       ·rw [if_pos c12] at H
        have c12b0 : decide (x8_1 < (t138.length : Int)) = true := decide_eq_true c12
        clear c12
        replace H := Option.bind_eq_some_iff.mp H
        obtain ⟨t142, A130, H⟩ := H
        replace H : (ensembleref01_Lowest.l0 k1 a1 t138 (IntKind.u64.wrap (x7_1 + t142)) (wrap64 (x8_1 + 1))) = some (r1, r2) := H
        have A13 := Aside0.mk A130
        clear A130
        have H' := Aside0.mk H
        clear H
        have p141 : 0 ≤ (x8_1 : Int) := of_decide_eq_true Z2
        have q141 : x8_1 < (t138.length : Int) := of_decide_eq_true Z2
        obtain ⟨ad141, e141, hx141_0⟩ := Kd.at_int (Kd.R_reads' HO_6.out).2.2 x8_1 p141 q141
        cases e141
        replace p141 := eq_true p141
        replace q141 := eq_true q141
        go_wp2_with (first | ((with_reducible refine gate_callee (f := 134) rfl ?_); refine goesL_ (some 27) rfl rfl Try.func134 (by kernel_rfl) rfl #[.int .i64 (rd t138 x8_1)] rfl Z0 ?_; (with_reducible refine (ensembleref01_bit.calls k1 (rd t138 x8_1) t142 _ A13.out).mono ?_); rintro e w' ⟨rfl, ⟨nd, rfl⟩⟩; refine ⟨_, rfl, ?_⟩))
        go_roundg k1
        case measure => have := HK1.out; omega
        case rel => exact ⟨(IntKind.u64.wrap (x7_1 + t142)), (wrap64 (x8_1 + 1)), Z1, Z1, H', ⟨by have := HK1.out; omega⟩, ⟨by (with_reducible repeat (first | apply Kd.R_alloc | apply Kd.R_drewN | apply Kd.R_drew)); exact HO_6.out⟩, ⟨hb_⟩⟩
       ·rw [if_neg c12] at H
        exact absurd H (by simp)
      ·rw [if_neg c11] at H
       exact absurd H (by simp)
     ·rw [if_neg c10] at H
      have c10b0 : decide (x8_1 < a1) = false := decide_eq_false c10
      clear c10
      simp only [Option.some.injEq, Prod.mk.injEq] at H
      obtain ⟨rfl, rfl⟩ := H
      go_wp2
      go_ret2
      exact ⟨by first | rfl | (simp [errW_none, errW_some] <;> rfl) | (simp [*, errW_none, errW_some] <;> rfl), hb_⟩
end Go.Proofs.Ytckhjehibjdjdaa.P
namespace Go.Proofs.Ytckhjehibjdjdaa.P
open Go.RowKit Go.Proofs.YtckhjehibjdjdaaW.PrintWords Go.Proofs.YtckhjehibjdjdaaW.PrintLast Go.Proofs.YtckhjehibjdjdaaW.PrintMore
attribute [local go_sem] max2_int min2_int max_two min_two max_three min_three max_four min_four
set_option linter.unusedVariables false
set_option linter.unusedSimpArgs false
def ensembleref04_Piece.f (k : Nat) (a0_0 : Int) (a0_1 : Int) (a0_2 : Int) (a0_3 : Int) (a1_0 : Int) (a1_1 : Int) (a1_2 : Int) (a1_3 : Int) : Option (Int × Int × Int × Int × Int × Int × Int × Int × Int) := (ensembleref01_Lowest.f k a1_2 a0_0).bind fun bt147 => (if bt147.2 = 0 then (if a1_3 < 0 then (some (0, 0, 0, 0, 0, 0, 0, 0, 7)) else (if a1_3 < a0_1 then (some (0, 0, 0, 0, 0, 0, 0, 0, 7)) else (some (a1_0, a1_1, bt147.1, a0_1, a1_0, a1_1, IntKind.u64.wrap (a1_2 - bt147.1), wrap64 (a1_3 - a0_1), 0)))) else (some (0, 0, 0, 0, 0, 0, 0, 0, 7)))
def ensembleref04_Piece.T4 : Bool × List (List Nat × List Nat) := (true, [([], []), ([0], [0]), ([], []), ([], []), ([3], [3]), ([1, 2, 4], [1, 2, 4]), ([], []), ([6], [6]), ([], []), ([8], [8]), ([], []), ([9, 10], [9, 10]), ([], []), ([12], [12]), ([], []), ([14], [14]), ([13, 15], [13, 15]), ([7, 11, 16], [7, 11, 16]), ([5, 0, 1, 2, 3, 4, 5], [5]), ([17, 18, 0, 1, 2, 3, 4, 5, 6, 7, 8, 9, 10, 11, 12, 13, 14, 15, 16, 17, 18], [17]), ([19, 0, 1, 2, 3, 4, 5, 6, 7, 8, 9, 10, 11, 12, 13, 14, 15, 16, 17, 18, 19], [])])
def ensembleref04_Piece.B4 : List Nat := [0, 1, 0, 0, 8, 31, 0, 64, 0, 256, 0, 1792, 0, 4096, 0, 16384, 61440, 131008, 63, 524287, 1048575]
theorem ensembleref04_Piece.tab4 : rtab .any (opsOf Try.f89 4) = ensembleref04_Piece.T4 := by kernel_rfl
theorem ensembleref04_Piece.bits4 : waitsOk ensembleref04_Piece.T4.2 ensembleref04_Piece.B4 = true := by kernel_rfl
set_option maxHeartbeats 8000000 in
set_option maxRecDepth 100000 in
theorem ensembleref04_Piece.calls (k : Nat) (a0_0 : Int) (a0_1 : Int) (a0_2 : Int) (a0_3 : Int) (a1_0 : Int) (a1_1 : Int) (a1_2 : Int) (a1_3 : Int) (r1 : Int) (r2 : Int) (r3 : Int) (r4 : Int) (r5 : Int) (r6 : Int) (r7 : Int) (r8 : Int) (r9 : Int) (w : World) (h : ensembleref04_Piece.f k a0_0 a0_1 a0_2 a0_3 a1_0 a1_1 a1_2 a1_3 = some (r1, r2, r3, r4, r5, r6, r7, r8, r9)) :
  Calls Try.prog 89 #[.agg #[.int .i64 a0_0, .int .i64 a0_1, .int .i64 a0_2, .int .i64 a0_3], .agg #[.int .i64 a1_0, .int .i64 a1_1, .int .u64 a1_2, .int .i64 a1_3]] w fun e w' => e = .returned (.tuple #[.agg #[.int .i64 r1, .int .i64 r2, .int .u64 r3, .int .i64 r4], .agg #[.int .i64 r5, .int .i64 r6, .int .u64 r7, .int .i64 r8], .int .i64 r9]) ∧ Below w.heap.size w w' := by
 have hu27 := Try.underlying27
 have hu51 := Try.underlying51
 have hu52 := Try.underlying52
 have hu48 := Try.underlying48
 have HB := Aside0.mk (Below.refl w.heap.size w)
 have H : ((ensembleref01_Lowest.f k a1_2 a0_0).bind fun bt147 => (if bt147.2 = 0 then (if a1_3 < 0 then (some (0, 0, 0, 0, 0, 0, 0, 0, 7)) else (if a1_3 < a0_1 then (some (0, 0, 0, 0, 0, 0, 0, 0, 7)) else (some (a1_0, a1_1, bt147.1, a0_1, a1_0, a1_1, IntKind.u64.wrap (a1_2 - bt147.1), wrap64 (a1_3 - a0_1), 0)))) else (some (0, 0, 0, 0, 0, 0, 0, 0, 7)))) = some (r1, r2, r3, r4, r5, r6, r7, r8, r9) := h
 clear h
 replace H := Option.bind_eq_some_iff.mp H
 obtain ⟨⟨t147, t148⟩, A30, H⟩ := H
 replace H : (if t148 = 0 then (if a1_3 < 0 then (some (0, 0, 0, 0, 0, 0, 0, 0, 7)) else (if a1_3 < a0_1 then (some (0, 0, 0, 0, 0, 0, 0, 0, 7)) else (some (a1_0, a1_1, t147, a0_1, a1_0, a1_1, IntKind.u64.wrap (a1_2 - t147), wrap64 (a1_3 - a0_1), 0)))) else (some (0, 0, 0, 0, 0, 0, 0, 0, 7))) = some (r1, r2, r3, r4, r5, r6, r7, r8, r9) := H
 have A3 := Aside0.mk A30
 clear A30
 by_cases c4 : t148 = 0
 ·rw [if_pos c4] at H
  have c4b0 : (t148 == 0) = true := beq_iff_eq.mpr c4
  have c4b1 : (t148 != 0) = false := bne_eq_false_iff_eq.mpr c4
  clear c4
  by_cases c5 : a1_3 < 0
  ·rw [if_pos c5] at H
   have c5b0 : decide (a1_3 < 0) = true := decide_eq_true c5
   clear c5
   simp only [Option.some.injEq, Prod.mk.injEq] at H
   obtain ⟨rfl, rfl, rfl, rfl, rfl, rfl, rfl, rfl, rfl⟩ := H
   go_enter Try.func89, Try.ntmps89
   go_wp2_with (first | ((with_reducible refine gate_dst (N := 2) rfl ?_); refine bx 2 #[.int .i64 a0_0, .int .i64 a0_1, .int .i64 a0_2, .int .i64 a0_3] 27 ?_; intro gb143 hg w6 hbox hb; have BK143 := Aside0.mk (hbox); have GW143 := ge_ hg; have GE143 := ge_ hg; replace HB := hs_ hb; clear hb hbox hg) | ((with_reducible refine gate_dst (N := 3) rfl ?_); refine bx 3 #[.int .i64 a1_0, .int .i64 a1_1, .int .u64 a1_2, .int .i64 a1_3] 51 ?_; intro gb144 hg w7 hbox hb; have BK144 := Aside0.mk (hbox); have GW144 := ge_ hg; have GE144 := ge_ hg; have NB143_144 := nl_ BK143 hg; have NB144_143 := nr_ BK143 hg; replace BK143 := bk_ BK143 hb; replace HB := hs_ hb; clear hb hbox hg) | ((with_reducible refine gate_dst (N := 4) rfl ?_); refine bx 4 #[.int .i64 0, .int .i64 0, .int .u64 0, .int .i64 0] 52 ?_; intro gb145 hg w8 hbox hb; have BK145 := Aside0.mk (hbox); have GW145 := ge_ hg; have GE145 := ge_ hg; have NB143_145 := nl_ BK143 hg; have NB145_143 := nr_ BK143 hg; have NB144_145 := nl_ BK144 hg; have NB145_144 := nr_ BK144 hg; replace BK143 := bk_ BK143 hb; replace BK144 := bk_ BK144 hb; replace HB := hs_ hb; clear hb hbox hg) | ((with_reducible refine gate_dst (N := 5) rfl ?_); refine bx 5 #[.int .i64 0, .int .i64 0, .int .u64 0, .int .i64 0] 51 ?_; intro gb146 hg w9 hbox hb; have BK146 := Aside0.mk (hbox); have GW146 := ge_ hg; have GE146 := ge_ hg; have NB143_146 := nl_ BK143 hg; have NB146_143 := nr_ BK143 hg; have NB144_146 := nl_ BK144 hg; have NB146_144 := nr_ BK144 hg; have NB145_146 := nl_ BK145 hg; have NB146_145 := nr_ BK145 hg; replace BK143 := bk_ BK143 hb; replace BK144 := bk_ BK144 hb; replace BK145 := bk_ BK145 hb; replace HB := hs_ hb; clear hb hbox hg; have hnb10 := NB144_143.out; have hnc10 := NB143_144.out; have hnb11 := NB144_145.out; have hnc11 := NB145_144.out; have hnb12 := NB144_146.out; have hnc12 := NB146_144.out; obtain ⟨hcz13_0, hcz13_1, hcz13_2, hcz13_3, hfz13_0, hfz13_1, hfz13_2, hfz13_3⟩ := bz4_ BK144; have hnb14 := NB143_145.out; have hnc14 := NB145_143.out; have hnb15 := NB143_146.out; have hnc15 := NB146_143.out; obtain ⟨hcz16_0, hcz16_1, hcz16_2, hcz16_3, hfz16_0, hfz16_1, hfz16_2, hfz16_3⟩ := bz4_ BK143) | ((with_reducible refine gate_callee (f := 115) rfl ?_); refine goesL_ (some 14) rfl rfl Try.func115 (by kernel_rfl) rfl #[.int .u64 a1_2, .int .i64 a0_0] rfl Z0 ?_; (with_reducible refine (ensembleref01_Lowest.calls k a1_2 a0_0 t147 t148 _ A3.out).mono ?_); rintro e w17 ⟨rfl, hb⟩; refine ⟨_, rfl, ?_⟩; replace BK143 := bk_ BK143 hb; replace BK144 := bk_ BK144 hb; replace BK145 := bk_ BK145 hb; replace BK146 := bk_ BK146 hb; replace HB := hs_ hb; (try clear hb); (try clear hb2); (try clear hk); (try clear hi); obtain ⟨hcz18_0, hcz18_1, hcz18_2, hcz18_3, hfz18_0, hfz18_1, hfz18_2, hfz18_3⟩ := bz4_ BK144; have hnb19 := NB145_146.out; have hnc19 := NB146_145.out; obtain ⟨hcz20_0, hcz20_1, hcz20_2, hcz20_3, hfz20_0, hfz20_1, hfz20_2, hfz20_3⟩ := bz4_ BK145; obtain ⟨hcz21_0, hcz21_1, hcz21_2, hcz21_3, hfz21_0, hfz21_1, hfz21_2, hfz21_3⟩ := bz4_ BK146))
   refine bodyPost_ret (results_list (rs := [.cell 4 52, .cell 5 51, .tmp 6]) rfl (by simp) (.cell gb145 52 #[.int .i64 0, .int .i64 0, .int .u64 0, .int .i64 0] (0, 0) _ rfl (by (with_reducible repeat (first | refine blk_drewN ?_ _ | refine blk_drew ?_ | refine blk_alloc ?_ _)); refine blk_far ?_ NB145_146.out _; (with_reducible repeat (first | refine blk_drewN ?_ _ | refine blk_drew ?_ | refine blk_alloc ?_ _)); refine blk_far ?_ NB145_146.out _; (with_reducible repeat (first | refine blk_drewN ?_ _ | refine blk_drew ?_ | refine blk_alloc ?_ _)); refine blk_far ?_ NB145_146.out _; (with_reducible repeat (first | refine blk_drewN ?_ _ | refine blk_drew ?_ | refine blk_alloc ?_ _)); refine blk_far ?_ NB145_146.out _; (with_reducible repeat (first | refine blk_drewN ?_ _ | refine blk_drew ?_ | refine blk_alloc ?_ _)); refine blk_put (cs := #[.int .i64 0, .int .i64 0, .int .u64 0, .int .i64 0]) ?_ 3 _ rfl; (with_reducible repeat (first | refine blk_drewN ?_ _ | refine blk_drew ?_ | refine blk_alloc ?_ _)); refine blk_put (cs := #[.int .i64 0, .int .i64 0, .int .u64 0, .int .i64 0]) ?_ 2 _ rfl; (with_reducible repeat (first | refine blk_drewN ?_ _ | refine blk_drew ?_ | refine blk_alloc ?_ _)); refine blk_put (cs := #[.int .i64 0, .int .i64 0, .int .u64 0, .int .i64 0]) ?_ 1 _ rfl; (with_reducible repeat (first | refine blk_drewN ?_ _ | refine blk_drew ?_ | refine blk_alloc ?_ _)); refine blk_put (cs := #[.int .i64 0, .int .i64 0, .int .u64 0, .int .i64 0]) ?_ 0 _ rfl; (with_reducible repeat (first | refine blk_drewN ?_ _ | refine blk_drew ?_ | refine blk_alloc ?_ _)); exact BK145.out) Try.underlying52 rfl (by kernel_rfl) (.cell gb146 51 #[.int .i64 0, .int .i64 0, .int .u64 0, .int .i64 0] (0, 0) _ rfl (by (with_reducible repeat (first | refine blk_drewN ?_ _ | refine blk_drew ?_ | refine blk_alloc ?_ _)); refine blk_put (cs := #[.int .i64 0, .int .i64 0, .int .u64 0, .int .i64 0]) ?_ 3 _ rfl; (with_reducible repeat (first | refine blk_drewN ?_ _ | refine blk_drew ?_ | refine blk_alloc ?_ _)); refine blk_put (cs := #[.int .i64 0, .int .i64 0, .int .u64 0, .int .i64 0]) ?_ 2 _ rfl; (with_reducible repeat (first | refine blk_drewN ?_ _ | refine blk_drew ?_ | refine blk_alloc ?_ _)); refine blk_put (cs := #[.int .i64 0, .int .i64 0, .int .u64 0, .int .i64 0]) ?_ 1 _ rfl; (with_reducible repeat (first | refine blk_drewN ?_ _ | refine blk_drew ?_ | refine blk_alloc ?_ _)); refine blk_put (cs := #[.int .i64 0, .int .i64 0, .int .u64 0, .int .i64 0]) ?_ 0 _ rfl; (with_reducible repeat (first | refine blk_drewN ?_ _ | refine blk_drew ?_ | refine blk_alloc ?_ _)); refine blk_far ?_ NB146_145.out _; (with_reducible repeat (first | refine blk_drewN ?_ _ | refine blk_drew ?_ | refine blk_alloc ?_ _)); refine blk_far ?_ NB146_145.out _; (with_reducible repeat (first | refine blk_drewN ?_ _ | refine blk_drew ?_ | refine blk_alloc ?_ _)); refine blk_far ?_ NB146_145.out _; (with_reducible repeat (first | refine blk_drewN ?_ _ | refine blk_drew ?_ | refine blk_alloc ?_ _)); refine blk_far ?_ NB146_145.out _; (with_reducible repeat (first | refine blk_drewN ?_ _ | refine blk_drew ?_ | refine blk_alloc ?_ _)); exact BK146.out) Try.underlying51 rfl (by kernel_rfl) (.tmp .nil)))) rfl ?_
   exact ⟨by first | rfl | (simp [errW_none, errW_some] <;> rfl) | (simp [*, errW_none, errW_some] <;> rfl), hb_⟩
  ·rw [if_neg c5] at H
   have c5b0 : decide (a1_3 < 0) = false := decide_eq_false c5
   clear c5
   by_cases c22 : a1_3 < a0_1
   ·rw [if_pos c22] at H
    have c22b0 : decide (a1_3 < a0_1) = true := decide_eq_true c22
    clear c22
    simp only [Option.some.injEq, Prod.mk.injEq] at H
    obtain ⟨rfl, rfl, rfl, rfl, rfl, rfl, rfl, rfl, rfl⟩ := H
    go_enter Try.func89, Try.ntmps89
    go_wp2_with (first | ((with_reducible refine gate_dst (N := 2) rfl ?_); refine bx 2 #[.int .i64 a0_0, .int .i64 a0_1, .int .i64 a0_2, .int .i64 a0_3] 27 ?_; intro gb143 hg w23 hbox hb; have BK143 := Aside0.mk (hbox); have GW143 := ge_ hg; have GE143 := ge_ hg; replace HB := hs_ hb; clear hb hbox hg) | ((with_reducible refine gate_dst (N := 3) rfl ?_); refine bx 3 #[.int .i64 a1_0, .int .i64 a1_1, .int .u64 a1_2, .int .i64 a1_3] 51 ?_; intro gb144 hg w24 hbox hb; have BK144 := Aside0.mk (hbox); have GW144 := ge_ hg; have GE144 := ge_ hg; have NB143_144 := nl_ BK143 hg; have NB144_143 := nr_ BK143 hg; replace BK143 := bk_ BK143 hb; replace HB := hs_ hb; clear hb hbox hg) | ((with_reducible refine gate_dst (N := 4) rfl ?_); refine bx 4 #[.int .i64 0, .int .i64 0, .int .u64 0, .int .i64 0] 52 ?_; intro gb145 hg w25 hbox hb; have BK145 := Aside0.mk (hbox); have GW145 := ge_ hg; have GE145 := ge_ hg; have NB143_145 := nl_ BK143 hg; have NB145_143 := nr_ BK143 hg; have NB144_145 := nl_ BK144 hg; have NB145_144 := nr_ BK144 hg; replace BK143 := bk_ BK143 hb; replace BK144 := bk_ BK144 hb; replace HB := hs_ hb; clear hb hbox hg) | ((with_reducible refine gate_dst (N := 5) rfl ?_); refine bx 5 #[.int .i64 0, .int .i64 0, .int .u64 0, .int .i64 0] 51 ?_; intro gb146 hg w26 hbox hb; have BK146 := Aside0.mk (hbox); have GW146 := ge_ hg; have GE146 := ge_ hg; have NB143_146 := nl_ BK143 hg; have NB146_143 := nr_ BK143 hg; have NB144_146 := nl_ BK144 hg; have NB146_144 := nr_ BK144 hg; have NB145_146 := nl_ BK145 hg; have NB146_145 := nr_ BK145 hg; replace BK143 := bk_ BK143 hb; replace BK144 := bk_ BK144 hb; replace BK145 := bk_ BK145 hb; replace HB := hs_ hb; clear hb hbox hg; have hnb27 := NB144_143.out; have hnc27 := NB143_144.out; have hnb28 := NB144_145.out; have hnc28 := NB145_144.out; have hnb29 := NB144_146.out; have hnc29 := NB146_144.out; obtain ⟨hcz30_0, hcz30_1, hcz30_2, hcz30_3, hfz30_0, hfz30_1, hfz30_2, hfz30_3⟩ := bz4_ BK144; have hnb31 := NB143_145.out; have hnc31 := NB145_143.out; have hnb32 := NB143_146.out; have hnc32 := NB146_143.out; obtain ⟨hcz33_0, hcz33_1, hcz33_2, hcz33_3, hfz33_0, hfz33_1, hfz33_2, hfz33_3⟩ := bz4_ BK143) | ((with_reducible refine gate_callee (f := 115) rfl ?_); refine goesL_ (some 14) rfl rfl Try.func115 (by kernel_rfl) rfl #[.int .u64 a1_2, .int .i64 a0_0] rfl Z0 ?_; (with_reducible refine (ensembleref01_Lowest.calls k a1_2 a0_0 t147 t148 _ A3.out).mono ?_); rintro e w34 ⟨rfl, hb⟩; refine ⟨_, rfl, ?_⟩; replace BK143 := bk_ BK143 hb; replace BK144 := bk_ BK144 hb; replace BK145 := bk_ BK145 hb; replace BK146 := bk_ BK146 hb; replace HB := hs_ hb; (try clear hb); (try clear hb2); (try clear hk); (try clear hi); obtain ⟨hcz35_0, hcz35_1, hcz35_2, hcz35_3, hfz35_0, hfz35_1, hfz35_2, hfz35_3⟩ := bz4_ BK144; obtain ⟨hcz36_0, hcz36_1, hcz36_2, hcz36_3, hfz36_0, hfz36_1, hfz36_2, hfz36_3⟩ := bz4_ BK143; have hnb37 := NB145_146.out; have hnc37 := NB146_145.out; obtain ⟨hcz38_0, hcz38_1, hcz38_2, hcz38_3, hfz38_0, hfz38_1, hfz38_2, hfz38_3⟩ := bz4_ BK145; obtain ⟨hcz39_0, hcz39_1, hcz39_2, hcz39_3, hfz39_0, hfz39_1, hfz39_2, hfz39_3⟩ := bz4_ BK146))
    refine bodyPost_ret (results_list (rs := [.cell 4 52, .cell 5 51, .tmp 6]) rfl (by simp) (.cell gb145 52 #[.int .i64 0, .int .i64 0, .int .u64 0, .int .i64 0] (0, 0) _ rfl (by (with_reducible repeat (first | refine blk_drewN ?_ _ | refine blk_drew ?_ | refine blk_alloc ?_ _)); refine blk_far ?_ NB145_146.out _; (with_reducible repeat (first | refine blk_drewN ?_ _ | refine blk_drew ?_ | refine blk_alloc ?_ _)); refine blk_far ?_ NB145_146.out _; (with_reducible repeat (first | refine blk_drewN ?_ _ | refine blk_drew ?_ | refine blk_alloc ?_ _)); refine blk_far ?_ NB145_146.out _; (with_reducible repeat (first | refine blk_drewN ?_ _ | refine blk_drew ?_ | refine blk_alloc ?_ _)); refine blk_far ?_ NB145_146.out _; (with_reducible repeat (first | refine blk_drewN ?_ _ | refine blk_drew ?_ | refine blk_alloc ?_ _)); refine blk_put (cs := #[.int .i64 0, .int .i64 0, .int .u64 0, .int .i64 0]) ?_ 3 _ rfl; (with_reducible repeat (first | refine blk_drewN ?_ _ | refine blk_drew ?_ | refine blk_alloc ?_ _)); refine blk_put (cs := #[.int .i64 0, .int .i64 0, .int .u64 0, .int .i64 0]) ?_ 2 _ rfl; (with_reducible repeat (first | refine blk_drewN ?_ _ | refine blk_drew ?_ | refine blk_alloc ?_ _)); refine blk_put (cs := #[.int .i64 0, .int .i64 0, .int .u64 0, .int .i64 0]) ?_ 1 _ rfl; (with_reducible repeat (first | refine blk_drewN ?_ _ | refine blk_drew ?_ | refine blk_alloc ?_ _)); refine blk_put (cs := #[.int .i64 0, .int .i64 0, .int .u64 0, .int .i64 0]) ?_ 0 _ rfl; (with_reducible repeat (first | refine blk_drewN ?_ _ | refine blk_drew ?_ | refine blk_alloc ?_ _)); exact BK145.out) Try.underlying52 rfl (by kernel_rfl) (.cell gb146 51 #[.int .i64 0, .int .i64 0, .int .u64 0, .int .i64 0] (0, 0) _ rfl (by (with_reducible repeat (first | refine blk_drewN ?_ _ | refine blk_drew ?_ | refine blk_alloc ?_ _)); refine blk_put (cs := #[.int .i64 0, .int .i64 0, .int .u64 0, .int .i64 0]) ?_ 3 _ rfl; (with_reducible repeat (first | refine blk_drewN ?_ _ | refine blk_drew ?_ | refine blk_alloc ?_ _)); refine blk_put (cs := #[.int .i64 0, .int .i64 0, .int .u64 0, .int .i64 0]) ?_ 2 _ rfl; (with_reducible repeat (first | refine blk_drewN ?_ _ | refine blk_drew ?_ | refine blk_alloc ?_ _)); refine blk_put (cs := #[.int .i64 0, .int .i64 0, .int .u64 0, .int .i64 0]) ?_ 1 _ rfl; (with_reducible repeat (first | refine blk_drewN ?_ _ | refine blk_drew ?_ | refine blk_alloc ?_ _)); refine blk_put (cs := #[.int .i64 0, .int .i64 0, .int .u64 0, .int .i64 0]) ?_ 0 _ rfl; (with_reducible repeat (first | refine blk_drewN ?_ _ | refine blk_drew ?_ | refine blk_alloc ?_ _)); refine blk_far ?_ NB146_145.out _; (with_reducible repeat (first | refine blk_drewN ?_ _ | refine blk_drew ?_ | refine blk_alloc ?_ _)); refine blk_far ?_ NB146_145.out _; (with_reducible repeat (first | refine blk_drewN ?_ _ | refine blk_drew ?_ | refine blk_alloc ?_ _)); refine blk_far ?_ NB146_145.out _; (with_reducible repeat (first | refine blk_drewN ?_ _ | refine blk_drew ?_ | refine blk_alloc ?_ _)); refine blk_far ?_ NB146_145.out _; (with_reducible repeat (first | refine blk_drewN ?_ _ | refine blk_drew ?_ | refine blk_alloc ?_ _)); exact BK146.out) Try.underlying51 rfl (by kernel_rfl) (.tmp .nil)))) rfl ?_
    exact ⟨by first | rfl | (simp [errW_none, errW_some] <;> rfl) | (simp [*, errW_none, errW_some] <;> rfl), hb_⟩
   ·rw [if_neg c22] at H
    have c22b0 : decide (a1_3 < a0_1) = false := decide_eq_false c22
    clear c22
    simp only [Option.some.injEq, Prod.mk.injEq] at H
    obtain ⟨rfl, rfl, rfl, rfl, rfl, rfl, rfl, rfl, rfl⟩ := H
    go_enter Try.func89, Try.ntmps89
    try go_wp2_with (first | ((with_reducible refine gate_dst (N := 2) rfl ?_); refine bx 2 #[.int .i64 a0_0, .int .i64 a0_1, .int .i64 a0_2, .int .i64 a0_3] 27 ?_; intro gb143 hg w40 hbox hb; have BK143 := Aside0.mk (hbox); have GW143 := ge_ hg; have GE143 := ge_ hg; replace HB := hs_ hb; clear hb hbox hg) | ((with_reducible refine gate_dst (N := 3) rfl ?_); refine bx 3 #[.int .i64 a1_0, .int .i64 a1_1, .int .u64 a1_2, .int .i64 a1_3] 51 ?_; intro gb144 hg w41 hbox hb; have BK144 := Aside0.mk (hbox); have GW144 := ge_ hg; have GE144 := ge_ hg; have NB143_144 := nl_ BK143 hg; have NB144_143 := nr_ BK143 hg; replace BK143 := bk_ BK143 hb; replace HB := hs_ hb; clear hb hbox hg) | ((with_reducible refine gate_dst (N := 4) rfl ?_); refine bx 4 #[.int .i64 0, .int .i64 0, .int .u64 0, .int .i64 0] 52 ?_; intro gb145 hg w42 hbox hb; have BK145 := Aside0.mk (hbox); have GW145 := ge_ hg; have GE145 := ge_ hg; have NB143_145 := nl_ BK143 hg; have NB145_143 := nr_ BK143 hg; have NB144_145 := nl_ BK144 hg; have NB145_144 := nr_ BK144 hg; replace BK143 := bk_ BK143 hb; replace BK144 := bk_ BK144 hb; replace HB := hs_ hb; clear hb hbox hg) | ((with_reducible refine gate_dst (N := 5) rfl ?_); refine bx 5 #[.int .i64 0, .int .i64 0, .int .u64 0, .int .i64 0] 51 ?_; intro gb146 hg w43 hbox hb; have BK146 := Aside0.mk (hbox); have GW146 := ge_ hg; have GE146 := ge_ hg; have NB143_146 := nl_ BK143 hg; have NB146_143 := nr_ BK143 hg; have NB144_146 := nl_ BK144 hg; have NB146_144 := nr_ BK144 hg; have NB145_146 := nl_ BK145 hg; have NB146_145 := nr_ BK145 hg; replace BK143 := bk_ BK143 hb; replace BK144 := bk_ BK144 hb; replace BK145 := bk_ BK145 hb; replace HB := hs_ hb; clear hb hbox hg; have hnb44 := NB144_143.out; have hnc44 := NB143_144.out; have hnb45 := NB144_145.out; have hnc45 := NB145_144.out; have hnb46 := NB144_146.out; have hnc46 := NB146_144.out; obtain ⟨hcz47_0, hcz47_1, hcz47_2, hcz47_3, hfz47_0, hfz47_1, hfz47_2, hfz47_3⟩ := bz4_ BK144; have hnb48 := NB143_145.out; have hnc48 := NB145_143.out; have hnb49 := NB143_146.out; have hnc49 := NB146_143.out; obtain ⟨hcz50_0, hcz50_1, hcz50_2, hcz50_3, hfz50_0, hfz50_1, hfz50_2, hfz50_3⟩ := bz4_ BK143) | ((with_reducible refine gate_callee (f := 115) rfl ?_); refine goesL_ (some 14) rfl rfl Try.func115 (by kernel_rfl) rfl #[.int .u64 a1_2, .int .i64 a0_0] rfl Z0 ?_; (with_reducible refine (ensembleref01_Lowest.calls k a1_2 a0_0 t147 t148 _ A3.out).mono ?_); rintro e w51 ⟨rfl, hb⟩; refine ⟨_, rfl, ?_⟩; replace BK143 := bk_ BK143 hb; replace BK144 := bk_ BK144 hb; replace BK145 := bk_ BK145 hb; replace BK146 := bk_ BK146 hb; replace HB := hs_ hb; (try clear hb); (try clear hb2); (try clear hk); (try clear hi); obtain ⟨hcz52_0, hcz52_1, hcz52_2, hcz52_3, hfz52_0, hfz52_1, hfz52_2, hfz52_3⟩ := bz4_ BK144; obtain ⟨hcz53_0, hcz53_1, hcz53_2, hcz53_3, hfz53_0, hfz53_1, hfz53_2, hfz53_3⟩ := bz4_ BK143))
    replace BK143 := Aside0.mk (blk_drew BK143.out)
    replace BK144 := Aside0.mk (blk_drew BK144.out)
    replace BK145 := Aside0.mk (blk_drew BK145.out)
    replace BK146 := Aside0.mk (blk_drew BK146.out)
    replace HB := Aside0.mk (below_drew1 HB.out)
    refine start_ (n := 21) (S := fun w' => w'.cell? ⟨gb144, 0, none⟩ = some (.int .i64 a1_0) ∧ w'.cell? ⟨gb144, 1, none⟩ = some (.int .i64 a1_1) ∧ w'.cell? ⟨gb144, 2, none⟩ = some (.int .u64 a1_2) ∧ w'.cell? ⟨gb144, 3, none⟩ = some (.int .i64 a1_3) ∧ w'.cell? ⟨gb143, 0, none⟩ = some (.int .i64 a0_0) ∧ w'.cell? ⟨gb143, 1, none⟩ = some (.int .i64 a0_1) ∧ w'.cell? ⟨gb143, 2, none⟩ = some (.int .i64 a0_2) ∧ w'.cell? ⟨gb143, 3, none⟩ = some (.int .i64 a0_3)) (ds := []) (bm 21 0) (by kernel_rfl) rfl rfl ⟨(blk_cell BK144.out 0).trans rfl, (blk_cell BK144.out 1).trans rfl, (blk_cell BK144.out 2).trans rfl, (blk_cell BK144.out 3).trans rfl, (blk_cell BK143.out 0).trans rfl, (blk_cell BK143.out 1).trans rfl, (blk_cell BK143.out 2).trans rfl, (blk_cell BK143.out 3).trans rfl⟩ (fun hHeld => ?_); refine with_tabW ensembleref04_Piece.tab4 ensembleref04_Piece.bits4 (fun HT_ HW_ => ?_)
    generalize w51.drew = w54 at BK143 BK144 BK145 BK146 HB hHeld ⊢
    refine pu 0 (some 33) (bm 21 1) ?_
    refine pu 2 (some 35) (bm 21 5) ?_
    refine pu 3 (some 36) (bm 21 13) ?_
    refine pu 6 (some 39) (bm 21 77) ?_
    refine pu 8 (some 41) (bm 21 333) ?_
    refine pu 10 (some 43) (bm 21 1357) ?_
    refine pu 12 (some 45) (bm 21 5453) ?_
    refine pu 14 (some 47) (bm 21 21837) ?_
    refine tk8 1 (some 34) (bm 21 21839) ?_
    refine tk8 4 (some 37) (bm 21 21855) ?_
    refine pu 5 (some 38) (bm 21 21887) ?_
    refine tk8 7 (some 40) (bm 21 22015) ?_
    refine tk8 9 (some 42) (bm 21 22527) ?_
    refine pu 11 (some 44) (bm 21 24575) ?_
    refine tk8 13 (some 46) (bm 21 32767) ?_
    refine tk8 15 (some 48) (bm 21 65535) ?_
    refine pu 16 (some 49) (bm 21 131071) ?_
    refine pu 17 (some 50) (bm 21 262143) ?_
    refine one_ (i := 18) (N := none) (bm 21 524287) rfl rfl (one_of HT_.out (by kernel_rfl)) (by decide) (fun K hK => ?_)
    have hs55 : w54.cell? ⟨gb145, 0, none⟩ = some (.int .i64 0) := (blk_cell BK145.out 0).trans rfl
    have hfs55 := blk_frozen BK145.out 0
    have hns55_0 := NB143_145.out
    have hns55_1 := NB144_145.out
    have hns55_3 := NB146_145.out
    have hms55_0 := NB145_143.out
    have hms55_1 := NB145_144.out
    have hms55_3 := NB145_146.out
    have hs56 : w54.cell? ⟨gb145, 1, none⟩ = some (.int .i64 0) := (blk_cell BK145.out 1).trans rfl
    have hfs56 := blk_frozen BK145.out 1
    have hns56_0 := NB143_145.out
    have hns56_1 := NB144_145.out
    have hns56_3 := NB146_145.out
    have hms56_0 := NB145_143.out
    have hms56_1 := NB145_144.out
    have hms56_3 := NB145_146.out
    have hs57 : w54.cell? ⟨gb145, 2, none⟩ = some (.int .u64 0) := (blk_cell BK145.out 2).trans rfl
    have hfs57 := blk_frozen BK145.out 2
    have hns57_0 := NB143_145.out
    have hns57_1 := NB144_145.out
    have hns57_3 := NB146_145.out
    have hms57_0 := NB145_143.out
    have hms57_1 := NB145_144.out
    have hms57_3 := NB145_146.out
    have hs58 : w54.cell? ⟨gb145, 3, none⟩ = some (.int .i64 0) := (blk_cell BK145.out 3).trans rfl
    have hfs58 := blk_frozen BK145.out 3
    have hns58_0 := NB143_145.out
    have hns58_1 := NB144_145.out
    have hns58_3 := NB146_145.out
    have hms58_0 := NB145_143.out
    have hms58_1 := NB145_144.out
    have hms58_3 := NB145_146.out
    refine skip_ (w1 := ?_) (by rfl) rfl ?_ ?_
    rotate_left
    ·go_simp
     rfl
    refine hK.out _ _ ⟨((cell_far (p := ⟨gb145, _, none⟩) NB144_145.out _).trans (((cell_far (p := ⟨gb145, _, none⟩) NB144_145.out _).trans (((cell_far (p := ⟨gb145, _, none⟩) NB144_145.out _).trans (((cell_far (p := ⟨gb145, _, none⟩) NB144_145.out _).trans (hHeld.1)))))))), ((cell_far (p := ⟨gb145, _, none⟩) NB144_145.out _).trans (((cell_far (p := ⟨gb145, _, none⟩) NB144_145.out _).trans (((cell_far (p := ⟨gb145, _, none⟩) NB144_145.out _).trans (((cell_far (p := ⟨gb145, _, none⟩) NB144_145.out _).trans (hHeld.2.1)))))))), ((cell_far (p := ⟨gb145, _, none⟩) NB144_145.out _).trans (((cell_far (p := ⟨gb145, _, none⟩) NB144_145.out _).trans (((cell_far (p := ⟨gb145, _, none⟩) NB144_145.out _).trans (((cell_far (p := ⟨gb145, _, none⟩) NB144_145.out _).trans (hHeld.2.2.1)))))))), ((cell_far (p := ⟨gb145, _, none⟩) NB144_145.out _).trans (((cell_far (p := ⟨gb145, _, none⟩) NB144_145.out _).trans (((cell_far (p := ⟨gb145, _, none⟩) NB144_145.out _).trans (((cell_far (p := ⟨gb145, _, none⟩) NB144_145.out _).trans (hHeld.2.2.2.1)))))))), ((cell_far (p := ⟨gb145, _, none⟩) NB143_145.out _).trans (((cell_far (p := ⟨gb145, _, none⟩) NB143_145.out _).trans (((cell_far (p := ⟨gb145, _, none⟩) NB143_145.out _).trans (((cell_far (p := ⟨gb145, _, none⟩) NB143_145.out _).trans (hHeld.2.2.2.2.1)))))))), ((cell_far (p := ⟨gb145, _, none⟩) NB143_145.out _).trans (((cell_far (p := ⟨gb145, _, none⟩) NB143_145.out _).trans (((cell_far (p := ⟨gb145, _, none⟩) NB143_145.out _).trans (((cell_far (p := ⟨gb145, _, none⟩) NB143_145.out _).trans (hHeld.2.2.2.2.2.1)))))))), ((cell_far (p := ⟨gb145, _, none⟩) NB143_145.out _).trans (((cell_far (p := ⟨gb145, _, none⟩) NB143_145.out _).trans (((cell_far (p := ⟨gb145, _, none⟩) NB143_145.out _).trans (((cell_far (p := ⟨gb145, _, none⟩) NB143_145.out _).trans (hHeld.2.2.2.2.2.2.1)))))))), ((cell_far (p := ⟨gb145, _, none⟩) NB143_145.out _).trans (((cell_far (p := ⟨gb145, _, none⟩) NB143_145.out _).trans (((cell_far (p := ⟨gb145, _, none⟩) NB143_145.out _).trans (((cell_far (p := ⟨gb145, _, none⟩) NB143_145.out _).trans (hHeld.2.2.2.2.2.2.2))))))))⟩ (fun hHeld => ?_)
    clear hK K
    refine one_ (i := 19) (N := none) (bm 21 1048575) rfl rfl (one_of HT_.out (by kernel_rfl)) (by decide) (fun K hK => ?_)
    have hs59 : w54.cell? ⟨gb146, 0, none⟩ = some (.int .i64 0) := (blk_cell BK146.out 0).trans rfl
    have hfs59 := blk_frozen BK146.out 0
    have hns59_0 := NB143_146.out
    have hns59_1 := NB144_146.out
    have hns59_2 := NB145_146.out
    have hms59_0 := NB146_143.out
    have hms59_1 := NB146_144.out
    have hms59_2 := NB146_145.out
    have hs60 : w54.cell? ⟨gb146, 1, none⟩ = some (.int .i64 0) := (blk_cell BK146.out 1).trans rfl
    have hfs60 := blk_frozen BK146.out 1
    have hns60_0 := NB143_146.out
    have hns60_1 := NB144_146.out
    have hns60_2 := NB145_146.out
    have hms60_0 := NB146_143.out
    have hms60_1 := NB146_144.out
    have hms60_2 := NB146_145.out
    have hs61 : w54.cell? ⟨gb146, 2, none⟩ = some (.int .u64 0) := (blk_cell BK146.out 2).trans rfl
    have hfs61 := blk_frozen BK146.out 2
    have hns61_0 := NB143_146.out
    have hns61_1 := NB144_146.out
    have hns61_2 := NB145_146.out
    have hms61_0 := NB146_143.out
    have hms61_1 := NB146_144.out
    have hms61_2 := NB146_145.out
    have hs62 : w54.cell? ⟨gb146, 3, none⟩ = some (.int .i64 0) := (blk_cell BK146.out 3).trans rfl
    have hfs62 := blk_frozen BK146.out 3
    have hns62_0 := NB143_146.out
    have hns62_1 := NB144_146.out
    have hns62_2 := NB145_146.out
    have hms62_0 := NB146_143.out
    have hms62_1 := NB146_144.out
    have hms62_2 := NB146_145.out
    refine skip_ (w1 := ?_) (by rfl) rfl ?_ ?_
    rotate_left
    ·go_simp
     rfl
    refine hK.out _ _ ⟨((cell_far (p := ⟨gb146, _, none⟩) NB144_146.out _).trans (((cell_far (p := ⟨gb146, _, none⟩) NB144_146.out _).trans (((cell_far (p := ⟨gb146, _, none⟩) NB144_146.out _).trans (((cell_far (p := ⟨gb146, _, none⟩) NB144_146.out _).trans (hHeld.1)))))))), ((cell_far (p := ⟨gb146, _, none⟩) NB144_146.out _).trans (((cell_far (p := ⟨gb146, _, none⟩) NB144_146.out _).trans (((cell_far (p := ⟨gb146, _, none⟩) NB144_146.out _).trans (((cell_far (p := ⟨gb146, _, none⟩) NB144_146.out _).trans (hHeld.2.1)))))))), ((cell_far (p := ⟨gb146, _, none⟩) NB144_146.out _).trans (((cell_far (p := ⟨gb146, _, none⟩) NB144_146.out _).trans (((cell_far (p := ⟨gb146, _, none⟩) NB144_146.out _).trans (((cell_far (p := ⟨gb146, _, none⟩) NB144_146.out _).trans (hHeld.2.2.1)))))))), ((cell_far (p := ⟨gb146, _, none⟩) NB144_146.out _).trans (((cell_far (p := ⟨gb146, _, none⟩) NB144_146.out _).trans (((cell_far (p := ⟨gb146, _, none⟩) NB144_146.out _).trans (((cell_far (p := ⟨gb146, _, none⟩) NB144_146.out _).trans (hHeld.2.2.2.1)))))))), ((cell_far (p := ⟨gb146, _, none⟩) NB143_146.out _).trans (((cell_far (p := ⟨gb146, _, none⟩) NB143_146.out _).trans (((cell_far (p := ⟨gb146, _, none⟩) NB143_146.out _).trans (((cell_far (p := ⟨gb146, _, none⟩) NB143_146.out _).trans (hHeld.2.2.2.2.1)))))))), ((cell_far (p := ⟨gb146, _, none⟩) NB143_146.out _).trans (((cell_far (p := ⟨gb146, _, none⟩) NB143_146.out _).trans (((cell_far (p := ⟨gb146, _, none⟩) NB143_146.out _).trans (((cell_far (p := ⟨gb146, _, none⟩) NB143_146.out _).trans (hHeld.2.2.2.2.2.1)))))))), ((cell_far (p := ⟨gb146, _, none⟩) NB143_146.out _).trans (((cell_far (p := ⟨gb146, _, none⟩) NB143_146.out _).trans (((cell_far (p := ⟨gb146, _, none⟩) NB143_146.out _).trans (((cell_far (p := ⟨gb146, _, none⟩) NB143_146.out _).trans (hHeld.2.2.2.2.2.2.1)))))))), ((cell_far (p := ⟨gb146, _, none⟩) NB143_146.out _).trans (((cell_far (p := ⟨gb146, _, none⟩) NB143_146.out _).trans (((cell_far (p := ⟨gb146, _, none⟩) NB143_146.out _).trans (((cell_far (p := ⟨gb146, _, none⟩) NB143_146.out _).trans (hHeld.2.2.2.2.2.2.2))))))))⟩ (fun hHeld => ?_)
    clear hK K
    refine pu 20 (some 6) (bm 21 2097151) ?_
    refine done_ (done_of HT_.out (by kernel_rfl)) ?_
    try go_wp2
    refine bodyPost_ret (results_list (rs := [.cell 4 52, .cell 5 51, .tmp 6]) rfl (by simp) (.cell gb145 52 #[.int .i64 a1_0, .int .i64 a1_1, .int .u64 t147, .int .i64 a0_1] (0, 0) _ rfl (by (with_reducible repeat (first | refine blk_drewN ?_ _ | refine blk_drew ?_ | refine blk_alloc ?_ _)); refine blk_far ?_ NB145_146.out _; (with_reducible repeat (first | refine blk_drewN ?_ _ | refine blk_drew ?_ | refine blk_alloc ?_ _)); refine blk_far ?_ NB145_146.out _; (with_reducible repeat (first | refine blk_drewN ?_ _ | refine blk_drew ?_ | refine blk_alloc ?_ _)); refine blk_far ?_ NB145_146.out _; (with_reducible repeat (first | refine blk_drewN ?_ _ | refine blk_drew ?_ | refine blk_alloc ?_ _)); refine blk_far ?_ NB145_146.out _; (with_reducible repeat (first | refine blk_drewN ?_ _ | refine blk_drew ?_ | refine blk_alloc ?_ _)); refine blk_put (cs := #[.int .i64 a1_0, .int .i64 a1_1, .int .u64 t147, .int .i64 0]) ?_ 3 _ rfl; (with_reducible repeat (first | refine blk_drewN ?_ _ | refine blk_drew ?_ | refine blk_alloc ?_ _)); refine blk_put (cs := #[.int .i64 a1_0, .int .i64 a1_1, .int .u64 0, .int .i64 0]) ?_ 2 _ rfl; (with_reducible repeat (first | refine blk_drewN ?_ _ | refine blk_drew ?_ | refine blk_alloc ?_ _)); refine blk_put (cs := #[.int .i64 a1_0, .int .i64 0, .int .u64 0, .int .i64 0]) ?_ 1 _ rfl; (with_reducible repeat (first | refine blk_drewN ?_ _ | refine blk_drew ?_ | refine blk_alloc ?_ _)); refine blk_put (cs := #[.int .i64 0, .int .i64 0, .int .u64 0, .int .i64 0]) ?_ 0 _ rfl; (with_reducible repeat (first | refine blk_drewN ?_ _ | refine blk_drew ?_ | refine blk_alloc ?_ _)); exact BK145.out) Try.underlying52 rfl (by kernel_rfl) (.cell gb146 51 #[.int .i64 a1_0, .int .i64 a1_1, .int .u64 (IntKind.u64.wrap (a1_2 - t147)), .int .i64 (wrap64 (a1_3 - a0_1))] (0, 0) _ rfl (by (with_reducible repeat (first | refine blk_drewN ?_ _ | refine blk_drew ?_ | refine blk_alloc ?_ _)); refine blk_put (cs := #[.int .i64 a1_0, .int .i64 a1_1, .int .u64 (IntKind.u64.wrap (a1_2 - t147)), .int .i64 0]) ?_ 3 _ rfl; (with_reducible repeat (first | refine blk_drewN ?_ _ | refine blk_drew ?_ | refine blk_alloc ?_ _)); refine blk_put (cs := #[.int .i64 a1_0, .int .i64 a1_1, .int .u64 0, .int .i64 0]) ?_ 2 _ rfl; (with_reducible repeat (first | refine blk_drewN ?_ _ | refine blk_drew ?_ | refine blk_alloc ?_ _)); refine blk_put (cs := #[.int .i64 a1_0, .int .i64 0, .int .u64 0, .int .i64 0]) ?_ 1 _ rfl; (with_reducible repeat (first | refine blk_drewN ?_ _ | refine blk_drew ?_ | refine blk_alloc ?_ _)); refine blk_put (cs := #[.int .i64 0, .int .i64 0, .int .u64 0, .int .i64 0]) ?_ 0 _ rfl; (with_reducible repeat (first | refine blk_drewN ?_ _ | refine blk_drew ?_ | refine blk_alloc ?_ _)); refine blk_far ?_ NB146_145.out _; (with_reducible repeat (first | refine blk_drewN ?_ _ | refine blk_drew ?_ | refine blk_alloc ?_ _)); refine blk_far ?_ NB146_145.out _; (with_reducible repeat (first | refine blk_drewN ?_ _ | refine blk_drew ?_ | refine blk_alloc ?_ _)); refine blk_far ?_ NB146_145.out _; (with_reducible repeat (first | refine blk_drewN ?_ _ | refine blk_drew ?_ | refine blk_alloc ?_ _)); refine blk_far ?_ NB146_145.out _; (with_reducible repeat (first | refine blk_drewN ?_ _ | refine blk_drew ?_ | refine blk_alloc ?_ _)); exact BK146.out) Try.underlying51 rfl (by kernel_rfl) (.tmp .nil)))) rfl ?_
    exact ⟨by first | rfl | (simp [errW_none, errW_some] <;> rfl) | (simp [*, errW_none, errW_some] <;> rfl), hb_⟩
 ·rw [if_neg c4] at H
  have c4b0 : (t148 == 0) = false := beq_eq_false_iff_ne.mpr c4
  have c4b1 : (t148 != 0) = true := bne_iff_ne.mpr c4
  simp only [Option.some.injEq, Prod.mk.injEq] at H
  obtain ⟨rfl, rfl, rfl, rfl, rfl, rfl, rfl, rfl, rfl⟩ := H
  go_enter Try.func89, Try.ntmps89
  go_wp2_with (first | ((with_reducible refine gate_dst (N := 2) rfl ?_); refine bx 2 #[.int .i64 a0_0, .int .i64 a0_1, .int .i64 a0_2, .int .i64 a0_3] 27 ?_; intro gb143 hg w63 hbox hb; have BK143 := Aside0.mk (hbox); have GW143 := ge_ hg; have GE143 := ge_ hg; replace HB := hs_ hb; clear hb hbox hg) | ((with_reducible refine gate_dst (N := 3) rfl ?_); refine bx 3 #[.int .i64 a1_0, .int .i64 a1_1, .int .u64 a1_2, .int .i64 a1_3] 51 ?_; intro gb144 hg w64 hbox hb; have BK144 := Aside0.mk (hbox); have GW144 := ge_ hg; have GE144 := ge_ hg; have NB143_144 := nl_ BK143 hg; have NB144_143 := nr_ BK143 hg; replace BK143 := bk_ BK143 hb; replace HB := hs_ hb; clear hb hbox hg) | ((with_reducible refine gate_dst (N := 4) rfl ?_); refine bx 4 #[.int .i64 0, .int .i64 0, .int .u64 0, .int .i64 0] 52 ?_; intro gb145 hg w65 hbox hb; have BK145 := Aside0.mk (hbox); have GW145 := ge_ hg; have GE145 := ge_ hg; have NB143_145 := nl_ BK143 hg; have NB145_143 := nr_ BK143 hg; have NB144_145 := nl_ BK144 hg; have NB145_144 := nr_ BK144 hg; replace BK143 := bk_ BK143 hb; replace BK144 := bk_ BK144 hb; replace HB := hs_ hb; clear hb hbox hg) | ((with_reducible refine gate_dst (N := 5) rfl ?_); refine bx 5 #[.int .i64 0, .int .i64 0, .int .u64 0, .int .i64 0] 51 ?_; intro gb146 hg w66 hbox hb; have BK146 := Aside0.mk (hbox); have GW146 := ge_ hg; have GE146 := ge_ hg; have NB143_146 := nl_ BK143 hg; have NB146_143 := nr_ BK143 hg; have NB144_146 := nl_ BK144 hg; have NB146_144 := nr_ BK144 hg; have NB145_146 := nl_ BK145 hg; have NB146_145 := nr_ BK145 hg; replace BK143 := bk_ BK143 hb; replace BK144 := bk_ BK144 hb; replace BK145 := bk_ BK145 hb; replace HB := hs_ hb; clear hb hbox hg; have hnb67 := NB144_143.out; have hnc67 := NB143_144.out; have hnb68 := NB144_145.out; have hnc68 := NB145_144.out; have hnb69 := NB144_146.out; have hnc69 := NB146_144.out; obtain ⟨hcz70_0, hcz70_1, hcz70_2, hcz70_3, hfz70_0, hfz70_1, hfz70_2, hfz70_3⟩ := bz4_ BK144; have hnb71 := NB143_145.out; have hnc71 := NB145_143.out; have hnb72 := NB143_146.out; have hnc72 := NB146_143.out; obtain ⟨hcz73_0, hcz73_1, hcz73_2, hcz73_3, hfz73_0, hfz73_1, hfz73_2, hfz73_3⟩ := bz4_ BK143) | ((with_reducible refine gate_callee (f := 115) rfl ?_); refine goesL_ (some 14) rfl rfl Try.func115 (by kernel_rfl) rfl #[.int .u64 a1_2, .int .i64 a0_0] rfl Z0 ?_; (with_reducible refine (ensembleref01_Lowest.calls k a1_2 a0_0 t147 t148 _ A3.out).mono ?_); rintro e w74 ⟨rfl, hb⟩; refine ⟨_, rfl, ?_⟩; replace BK143 := bk_ BK143 hb; replace BK144 := bk_ BK144 hb; replace BK145 := bk_ BK145 hb; replace BK146 := bk_ BK146 hb; replace HB := hs_ hb; (try clear hb); (try clear hb2); (try clear hk); (try clear hi); have hnb75 := NB145_146.out; have hnc75 := NB146_145.out; obtain ⟨hcz76_0, hcz76_1, hcz76_2, hcz76_3, hfz76_0, hfz76_1, hfz76_2, hfz76_3⟩ := bz4_ BK145; obtain ⟨hcz77_0, hcz77_1, hcz77_2, hcz77_3, hfz77_0, hfz77_1, hfz77_2, hfz77_3⟩ := bz4_ BK146))
  refine bodyPost_ret (results_list (rs := [.cell 4 52, .cell 5 51, .tmp 6]) rfl (by simp) (.cell gb145 52 #[.int .i64 0, .int .i64 0, .int .u64 0, .int .i64 0] (0, 0) _ rfl (by (with_reducible repeat (first | refine blk_drewN ?_ _ | refine blk_drew ?_ | refine blk_alloc ?_ _)); refine blk_far ?_ NB145_146.out _; (with_reducible repeat (first | refine blk_drewN ?_ _ | refine blk_drew ?_ | refine blk_alloc ?_ _)); refine blk_far ?_ NB145_146.out _; (with_reducible repeat (first | refine blk_drewN ?_ _ | refine blk_drew ?_ | refine blk_alloc ?_ _)); refine blk_far ?_ NB145_146.out _; (with_reducible repeat (first | refine blk_drewN ?_ _ | refine blk_drew ?_ | refine blk_alloc ?_ _)); refine blk_far ?_ NB145_146.out _; (with_reducible repeat (first | refine blk_drewN ?_ _ | refine blk_drew ?_ | refine blk_alloc ?_ _)); refine blk_put (cs := #[.int .i64 0, .int .i64 0, .int .u64 0, .int .i64 0]) ?_ 3 _ rfl; (with_reducible repeat (first | refine blk_drewN ?_ _ | refine blk_drew ?_ | refine blk_alloc ?_ _)); refine blk_put (cs := #[.int .i64 0, .int .i64 0, .int .u64 0, .int .i64 0]) ?_ 2 _ rfl; (with_reducible repeat (first | refine blk_drewN ?_ _ | refine blk_drew ?_ | refine blk_alloc ?_ _)); refine blk_put (cs := #[.int .i64 0, .int .i64 0, .int .u64 0, .int .i64 0]) ?_ 1 _ rfl; (with_reducible repeat (first | refine blk_drewN ?_ _ | refine blk_drew ?_ | refine blk_alloc ?_ _)); refine blk_put (cs := #[.int .i64 0, .int .i64 0, .int .u64 0, .int .i64 0]) ?_ 0 _ rfl; (with_reducible repeat (first | refine blk_drewN ?_ _ | refine blk_drew ?_ | refine blk_alloc ?_ _)); exact BK145.out) Try.underlying52 rfl (by kernel_rfl) (.cell gb146 51 #[.int .i64 0, .int .i64 0, .int .u64 0, .int .i64 0] (0, 0) _ rfl (by (with_reducible repeat (first | refine blk_drewN ?_ _ | refine blk_drew ?_ | refine blk_alloc ?_ _)); refine blk_put (cs := #[.int .i64 0, .int .i64 0, .int .u64 0, .int .i64 0]) ?_ 3 _ rfl; (with_reducible repeat (first | refine blk_drewN ?_ _ | refine blk_drew ?_ | refine blk_alloc ?_ _)); refine blk_put (cs := #[.int .i64 0, .int .i64 0, .int .u64 0, .int .i64 0]) ?_ 2 _ rfl; (with_reducible repeat (first | refine blk_drewN ?_ _ | refine blk_drew ?_ | refine blk_alloc ?_ _)); refine blk_put (cs := #[.int .i64 0, .int .i64 0, .int .u64 0, .int .i64 0]) ?_ 1 _ rfl; (with_reducible repeat (first | refine blk_drewN ?_ _ | refine blk_drew ?_ | refine blk_alloc ?_ _)); refine blk_put (cs := #[.int .i64 0, .int .i64 0, .int .u64 0, .int .i64 0]) ?_ 0 _ rfl; (with_reducible repeat (first | refine blk_drewN ?_ _ | refine blk_drew ?_ | refine blk_alloc ?_ _)); refine blk_far ?_ NB146_145.out _; (with_reducible repeat (first | refine blk_drewN ?_ _ | refine blk_drew ?_ | refine blk_alloc ?_ _)); refine blk_far ?_ NB146_145.out _; (with_reducible repeat (first | refine blk_drewN ?_ _ | refine blk_drew ?_ | refine blk_alloc ?_ _)); refine blk_far ?_ NB146_145.out _; (with_reducible repeat (first | refine blk_drewN ?_ _ | refine blk_drew ?_ | refine blk_alloc ?_ _)); refine blk_far ?_ NB146_145.out _; (with_reducible repeat (first | refine blk_drewN ?_ _ | refine blk_drew ?_ | refine blk_alloc ?_ _)); exact BK146.out) Try.underlying51 rfl (by kernel_rfl) (.tmp .nil)))) rfl ?_
  exact ⟨by first | rfl | (simp [errW_none, errW_some] <;> rfl) | (simp [*, errW_none, errW_some] <;> rfl), hb_⟩
end Go.Proofs.Ytckhjehibjdjdaa.P
namespace Go.Proofs.Ytckhjehibjdjdaa.P
open Go.RowKit Go.Proofs.YtckhjehibjdjdaaW.PrintWords Go.Proofs.YtckhjehibjdjdaaW.PrintLast Go.Proofs.YtckhjehibjdjdaaW.PrintMore
attribute [local go_sem] max2_int min2_int max_two min_two max_three min_three max_four min_four
set_option linter.unusedVariables false
set_option linter.unusedSimpArgs false
def ensembleref04_Right.f (a0_0 : Int) (a0_1 : Int) (a0_2 : Int) (a0_3 : Int) : Option (Bool) := if a0_0 ≥ 0 then (if a0_0 ≤ 16 then (if a0_1 ≥ 0 then (if a0_1 ≤ 1024 then (if (wrap64 (a0_0 + a0_1)) > 0 then (if a0_2 ≥ 1 then (if a0_2 ≤ a0_3 then (some (decide (a0_3 ≤ 16))) else (some false)) else (some false)) else (some false)) else (some false)) else (some false)) else (some false)) else (some false)
set_option maxHeartbeats 8000000 in
set_option maxRecDepth 100000 in
theorem ensembleref04_Right.calls (a0_0 : Int) (a0_1 : Int) (a0_2 : Int) (a0_3 : Int) (r : Bool) (w : World) (h : ensembleref04_Right.f a0_0 a0_1 a0_2 a0_3 = some r) :
  Calls Try.prog 45 #[.agg #[.int .i64 a0_0, .int .i64 a0_1, .int .i64 a0_2, .int .i64 a0_3]] w fun e w' => e = .returned (.bool r) ∧ Below w.heap.size w w' := by
 have hu27 := Try.underlying27
 have HB := Aside0.mk (Below.refl w.heap.size w)
 have H : (if a0_0 ≥ 0 then (if a0_0 ≤ 16 then (if a0_1 ≥ 0 then (if a0_1 ≤ 1024 then (if (wrap64 (a0_0 + a0_1)) > 0 then (if a0_2 ≥ 1 then (if a0_2 ≤ a0_3 then (some (decide (a0_3 ≤ 16))) else (some false)) else (some false)) else (some false)) else (some false)) else (some false)) else (some false)) else (some false)) = some r := h
 clear h
 by_cases c2 : a0_0 ≥ 0
 ·rw [if_pos c2] at H
  have c2b0 : decide (0 ≤ a0_0) = true := decide_eq_true c2
  clear c2
  by_cases c3 : a0_0 ≤ 16
  ·rw [if_pos c3] at H
   have c3b0 : decide (a0_0 ≤ 16) = true := decide_eq_true c3
   clear c3
   by_cases c4 : a0_1 ≥ 0
   ·rw [if_pos c4] at H
    have c4b0 : decide (0 ≤ a0_1) = true := decide_eq_true c4
    clear c4
    by_cases c5 : a0_1 ≤ 1024
    ·rw [if_pos c5] at H
     have c5b0 : decide (a0_1 ≤ 1024) = true := decide_eq_true c5
     clear c5
     by_cases c6 : (wrap64 (a0_0 + a0_1)) > 0
     ·rw [if_pos c6] at H
      have c6b0 : decide (0 < (wrap64 (a0_0 + a0_1))) = true := decide_eq_true c6
      clear c6
      by_cases c7 : a0_2 ≥ 1
      ·rw [if_pos c7] at H
       have c7b0 : decide (1 ≤ a0_2) = true := decide_eq_true c7
       clear c7
       by_cases c8 : a0_2 ≤ a0_3
       ·rw [if_pos c8] at H
        have c8b0 : decide (a0_2 ≤ a0_3) = true := decide_eq_true c8
        clear c8
        obtain rfl := Option.some.inj H
        go_enter Try.func45, Try.ntmps45
        go_wp2_with (first | ((with_reducible refine gate_dst (N := 1) rfl ?_); refine bx 1 #[.int .i64 a0_0, .int .i64 a0_1, .int .i64 a0_2, .int .i64 a0_3] 27 ?_; intro gb131 hg w9 hbox hb; have BK131 := Aside0.mk (hbox); have GW131 := ge_ hg; have GE131 := ge_ hg; replace HB := hs_ hb; clear hb hbox hg; obtain ⟨hcz10_0, hcz10_1, hcz10_2, hcz10_3, hfz10_0, hfz10_1, hfz10_2, hfz10_3⟩ := bz4_ BK131))
        go_ret
        exact ⟨by first | rfl | (simp [errW_none, errW_some] <;> rfl) | (simp [*, errW_none, errW_some] <;> rfl), hb_⟩
       ·rw [if_neg c8] at H
        have c8b0 : decide (a0_2 ≤ a0_3) = false := decide_eq_false c8
        clear c8
        obtain rfl := Option.some.inj H
        go_enter Try.func45, Try.ntmps45
        go_wp2_with (first | ((with_reducible refine gate_dst (N := 1) rfl ?_); refine bx 1 #[.int .i64 a0_0, .int .i64 a0_1, .int .i64 a0_2, .int .i64 a0_3] 27 ?_; intro gb131 hg w11 hbox hb; have BK131 := Aside0.mk (hbox); have GW131 := ge_ hg; have GE131 := ge_ hg; replace HB := hs_ hb; clear hb hbox hg; obtain ⟨hcz12_0, hcz12_1, hcz12_2, hcz12_3, hfz12_0, hfz12_1, hfz12_2, hfz12_3⟩ := bz4_ BK131))
        go_ret
        exact ⟨by first | rfl | (simp [errW_none, errW_some] <;> rfl) | (simp [*, errW_none, errW_some] <;> rfl), hb_⟩
      ·rw [if_neg c7] at H
       have c7b0 : decide (1 ≤ a0_2) = false := decide_eq_false c7
       clear c7
       obtain rfl := Option.some.inj H
       go_enter Try.func45, Try.ntmps45
       go_wp2_with (first | ((with_reducible refine gate_dst (N := 1) rfl ?_); refine bx 1 #[.int .i64 a0_0, .int .i64 a0_1, .int .i64 a0_2, .int .i64 a0_3] 27 ?_; intro gb131 hg w13 hbox hb; have BK131 := Aside0.mk (hbox); have GW131 := ge_ hg; have GE131 := ge_ hg; replace HB := hs_ hb; clear hb hbox hg; obtain ⟨hcz14_0, hcz14_1, hcz14_2, hcz14_3, hfz14_0, hfz14_1, hfz14_2, hfz14_3⟩ := bz4_ BK131))
       go_ret
       exact ⟨by first | rfl | (simp [errW_none, errW_some] <;> rfl) | (simp [*, errW_none, errW_some] <;> rfl), hb_⟩
     ·rw [if_neg c6] at H
      have c6b0 : decide (0 < (wrap64 (a0_0 + a0_1))) = false := decide_eq_false c6
      clear c6
      obtain rfl := Option.some.inj H
      go_enter Try.func45, Try.ntmps45
      go_wp2_with (first | ((with_reducible refine gate_dst (N := 1) rfl ?_); refine bx 1 #[.int .i64 a0_0, .int .i64 a0_1, .int .i64 a0_2, .int .i64 a0_3] 27 ?_; intro gb131 hg w15 hbox hb; have BK131 := Aside0.mk (hbox); have GW131 := ge_ hg; have GE131 := ge_ hg; replace HB := hs_ hb; clear hb hbox hg; obtain ⟨hcz16_0, hcz16_1, hcz16_2, hcz16_3, hfz16_0, hfz16_1, hfz16_2, hfz16_3⟩ := bz4_ BK131))
      go_ret
      exact ⟨by first | rfl | (simp [errW_none, errW_some] <;> rfl) | (simp [*, errW_none, errW_some] <;> rfl), hb_⟩
    ·rw [if_neg c5] at H
     have c5b0 : decide (a0_1 ≤ 1024) = false := decide_eq_false c5
     clear c5
     obtain rfl := Option.some.inj H
     go_enter Try.func45, Try.ntmps45
     go_wp2_with (first | ((with_reducible refine gate_dst (N := 1) rfl ?_); refine bx 1 #[.int .i64 a0_0, .int .i64 a0_1, .int .i64 a0_2, .int .i64 a0_3] 27 ?_; intro gb131 hg w17 hbox hb; have BK131 := Aside0.mk (hbox); have GW131 := ge_ hg; have GE131 := ge_ hg; replace HB := hs_ hb; clear hb hbox hg; obtain ⟨hcz18_0, hcz18_1, hcz18_2, hcz18_3, hfz18_0, hfz18_1, hfz18_2, hfz18_3⟩ := bz4_ BK131))
     go_ret
     exact ⟨by first | rfl | (simp [errW_none, errW_some] <;> rfl) | (simp [*, errW_none, errW_some] <;> rfl), hb_⟩
   ·rw [if_neg c4] at H
    have c4b0 : decide (0 ≤ a0_1) = false := decide_eq_false c4
    clear c4
    obtain rfl := Option.some.inj H
    go_enter Try.func45, Try.ntmps45
    go_wp2_with (first | ((with_reducible refine gate_dst (N := 1) rfl ?_); refine bx 1 #[.int .i64 a0_0, .int .i64 a0_1, .int .i64 a0_2, .int .i64 a0_3] 27 ?_; intro gb131 hg w19 hbox hb; have BK131 := Aside0.mk (hbox); have GW131 := ge_ hg; have GE131 := ge_ hg; replace HB := hs_ hb; clear hb hbox hg; obtain ⟨hcz20_0, hcz20_1, hcz20_2, hcz20_3, hfz20_0, hfz20_1, hfz20_2, hfz20_3⟩ := bz4_ BK131))
    go_ret
    exact ⟨by first | rfl | (simp [errW_none, errW_some] <;> rfl) | (simp [*, errW_none, errW_some] <;> rfl), hb_⟩
  ·rw [if_neg c3] at H
   have c3b0 : decide (a0_0 ≤ 16) = false := decide_eq_false c3
   clear c3
   obtain rfl := Option.some.inj H
   go_enter Try.func45, Try.ntmps45
   go_wp2_with (first | ((with_reducible refine gate_dst (N := 1) rfl ?_); refine bx 1 #[.int .i64 a0_0, .int .i64 a0_1, .int .i64 a0_2, .int .i64 a0_3] 27 ?_; intro gb131 hg w21 hbox hb; have BK131 := Aside0.mk (hbox); have GW131 := ge_ hg; have GE131 := ge_ hg; replace HB := hs_ hb; clear hb hbox hg; obtain ⟨hcz22_0, hcz22_1, hcz22_2, hcz22_3, hfz22_0, hfz22_1, hfz22_2, hfz22_3⟩ := bz4_ BK131))
   go_ret
   exact ⟨by first | rfl | (simp [errW_none, errW_some] <;> rfl) | (simp [*, errW_none, errW_some] <;> rfl), hb_⟩
 ·rw [if_neg c2] at H
  have c2b0 : decide (0 ≤ a0_0) = false := decide_eq_false c2
  clear c2
  obtain rfl := Option.some.inj H
  go_enter Try.func45, Try.ntmps45
  go_wp2_with (first | ((with_reducible refine gate_dst (N := 1) rfl ?_); refine bx 1 #[.int .i64 a0_0, .int .i64 a0_1, .int .i64 a0_2, .int .i64 a0_3] 27 ?_; intro gb131 hg w23 hbox hb; have BK131 := Aside0.mk (hbox); have GW131 := ge_ hg; have GE131 := ge_ hg; replace HB := hs_ hb; clear hb hbox hg; obtain ⟨hcz24_0, hcz24_1, hcz24_2, hcz24_3, hfz24_0, hfz24_1, hfz24_2, hfz24_3⟩ := bz4_ BK131))
  go_ret
  exact ⟨by first | rfl | (simp [errW_none, errW_some] <;> rfl) | (simp [*, errW_none, errW_some] <;> rfl), hb_⟩
end Go.Proofs.Ytckhjehibjdjdaa.P
namespace Go.Proofs.Ytckhjehibjdjdaa.P
open Go.RowKit Go.Proofs.YtckhjehibjdjdaaW.PrintWords Go.Proofs.YtckhjehibjdjdaaW.PrintLast Go.Proofs.YtckhjehibjdjdaaW.PrintMore
attribute [local go_sem] max2_int min2_int max_two min_two max_three min_three max_four min_four
set_option linter.unusedVariables false
set_option linter.unusedSimpArgs false
def ensembleref04_Fits.l0 : Nat → Int → Int → Int → Int → Int → Int → Int → Int → Int → Option (Int)
 | 0, _, _, _, _, _, _, _, _, _ => none
 | k + 1, x5, x150000, x150001, x150002, x150003, x151000, x151001, x151002, x151003 => if x5 < 16 then ((ensembleref04_Piece.f k x150000 x150001 x150002 x150003 x151000 x151001 x151002 x151003).bind fun bt152 => (if bt152.2.2.2.2.2.2.2.2 = 0 then (ensembleref04_Fits.l0 k (wrap64 (x5 + 1)) x150000 x150001 x150002 x150003 bt152.2.2.2.2.1 bt152.2.2.2.2.2.1 bt152.2.2.2.2.2.2.1 bt152.2.2.2.2.2.2.2.1) else (some x5))) else (some x5)
def ensembleref04_Fits.f (k : Nat) (a0_0 : Int) (a0_1 : Int) (a0_2 : Int) (a0_3 : Int) (a1_0 : Int) (a1_1 : Int) (a1_2 : Int) (a1_3 : Int) : Option (Int) := (ensembleref04_Right.f a0_0 a0_1 a0_2 a0_3).bind fun t151 => (if t151 = true then (ensembleref04_Fits.l0 k 0 a0_0 a0_1 a0_2 a0_3 a1_0 a1_1 a1_2 a1_3) else (some 0))
set_option maxHeartbeats 8000000 in
set_option maxRecDepth 100000 in
theorem ensembleref04_Fits.calls (k : Nat) (a0_0 : Int) (a0_1 : Int) (a0_2 : Int) (a0_3 : Int) (a1_0 : Int) (a1_1 : Int) (a1_2 : Int) (a1_3 : Int) (r : Int) (w : World) (h : ensembleref04_Fits.f k a0_0 a0_1 a0_2 a0_3 a1_0 a1_1 a1_2 a1_3 = some r) :
  Calls Try.prog 47 #[.agg #[.int .i64 a0_0, .int .i64 a0_1, .int .i64 a0_2, .int .i64 a0_3], .agg #[.int .i64 a1_0, .int .i64 a1_1, .int .u64 a1_2, .int .i64 a1_3]] w fun e w' => e = .returned (.int .i64 r) ∧ Below w.heap.size w w' := by
 have hu27 := Try.underlying27
 have hu51 := Try.underlying51
 have hu52 := Try.underlying52
 have HB := Aside0.mk (Below.refl w.heap.size w)
 have H : ((ensembleref04_Right.f a0_0 a0_1 a0_2 a0_3).bind fun t151 => (if t151 = true then (ensembleref04_Fits.l0 k 0 a0_0 a0_1 a0_2 a0_3 a1_0 a1_1 a1_2 a1_3) else (some 0))) = some r := h
 clear h
 replace H := Option.bind_eq_some_iff.mp H
 obtain ⟨t151, A30, H⟩ := H
 replace H : (if t151 = true then (ensembleref04_Fits.l0 k 0 a0_0 a0_1 a0_2 a0_3 a1_0 a1_1 a1_2 a1_3) else (some 0)) = some r := H
 have A3 := Aside0.mk A30
 clear A30
 by_cases c4 : t151 = true
 ·subst c4
  have H1 : (ensembleref04_Fits.l0 k 0 a0_0 a0_1 a0_2 a0_3 a1_0 a1_1 a1_2 a1_3) = some r := by rw [if_pos rfl] at H; exact H
  clear H
  have H := H1
  clear H1
  have H' := Aside0.mk H
  clear H
  go_enter Try.func47, Try.ntmps47
  go_wp2_with (first | ((with_reducible refine gate_dst (N := 2) rfl ?_); refine bx 2 #[.int .i64 a0_0, .int .i64 a0_1, .int .i64 a0_2, .int .i64 a0_3] 27 ?_; intro gb149 hg w5 hbox hb; have BK149 := Aside0.mk (hbox); have GW149 := ge_ hg; have GE149 := ge_ hg; replace HB := hs_ hb; clear hb hbox hg) | ((with_reducible refine gate_dst (N := 3) rfl ?_); refine bx 3 #[.int .i64 a1_0, .int .i64 a1_1, .int .u64 a1_2, .int .i64 a1_3] 51 ?_; intro gb150 hg w6 hbox hb; have BK150 := Aside0.mk (hbox); have GW150 := ge_ hg; have GE150 := ge_ hg; have NB149_150 := nl_ BK149 hg; have NB150_149 := nr_ BK149 hg; replace BK149 := bk_ BK149 hb; replace HB := hs_ hb; clear hb hbox hg; have hnb7 := NB149_150.out; have hnc7 := NB150_149.out; obtain ⟨hcz8_0, hcz8_1, hcz8_2, hcz8_3, hfz8_0, hfz8_1, hfz8_2, hfz8_3⟩ := bz4_ BK149) | ((with_reducible refine gate_callee (f := 45) rfl ?_); refine goesL_ (some 10) rfl rfl Try.func45 (by kernel_rfl) rfl #[.agg #[.int .i64 a0_0, .int .i64 a0_1, .int .i64 a0_2, .int .i64 a0_3]] rfl Z0 ?_; (with_reducible refine (ensembleref04_Right.calls a0_0 a0_1 a0_2 a0_3 true _ A3.out).mono ?_); rintro e w9 ⟨rfl, hb⟩; refine ⟨_, rfl, ?_⟩; replace BK149 := bk_ BK149 hb; replace BK150 := bk_ BK150 hb; replace HB := hs_ hb; (try clear hb); (try clear hb2); (try clear hk); (try clear hi)))
  go_loopg [5] k (fun kq v5 w' => ∃ (x5_1 : Int) (x151000_1 : Int) (x151001_1 : Int) (x151002_1 : Int) (x151003_1 : Int), v5 = .int .i64 x5_1 ∧ Aside0 (ensembleref04_Fits.l0 kq x5_1 a0_0 a0_1 a0_2 a0_3 x151000_1 x151001_1 x151002_1 x151003_1 = some r) ∧ Aside0 (kq ≤ k) ∧ Aside0 (w'.heap[gb149]? = some (.cells #[.int .i64 a0_0, .int .i64 a0_1, .int .i64 a0_2, .int .i64 a0_3] 27 (0, 0))) ∧ Aside0 (w'.heap[gb150]? = some (.cells #[.int .i64 x151000_1, .int .i64 x151001_1, .int .u64 x151002_1, .int .i64 x151003_1] 51 (0, 0))) ∧ Aside0 (Below w.heap.size w w'))
  case atStart => exact ⟨(0), (a1_0), (a1_1), (a1_2), (a1_3), Z1, H', ⟨Nat.le_refl _⟩, ⟨bo_ BK149⟩, ⟨bo_ BK150⟩, ⟨hb_⟩⟩
  case round =>
   clear H'
   try clear p2
   try clear c4
   try clear c7
   try clear hcz8_0
   try clear hcz8_1
   try clear hcz8_2
   try clear hcz8_3
   try clear hfz8_0
   try clear hfz8_1
   try clear hfz8_2
   try clear hfz8_3
   obtain ⟨x5_1, x151000_1, x151001_1, x151002_1, x151003_1, rfl, HA, HK1, BK149, BK150, HB⟩ := hrel
   cases gk with
   | zero => exact absurd HA.out (by simp [ensembleref04_Fits.l0])
   | succ k1 =>
    have H := HA.out
    clear HA
    simp only [ensembleref04_Fits.l0] at H
    by_cases c10 : x5_1 < 16
    ·rw [if_pos c10] at H
     have c10b0 : decide (x5_1 < 16) = true := decide_eq_true c10
     clear c10
     replace H := Option.bind_eq_some_iff.mp H
     obtain ⟨⟨t152, t153, t154, t155, t156, t157, t158, t159, t160⟩, A110, H⟩ := H
     replace H : (if t160 = 0 then (ensembleref04_Fits.l0 k1 (wrap64 (x5_1 + 1)) a0_0 a0_1 a0_2 a0_3 t156 t157 t158 t159) else (some x5_1)) = some r := H
     have A11 := Aside0.mk A110
     clear A110
     by_cases c12 : t160 = 0
     ·rw [if_pos c12] at H
      have c12b0 : (t160 == 0) = true := beq_iff_eq.mpr c12
      have c12b1 : (t160 != 0) = false := bne_eq_false_iff_eq.mpr c12
      clear c12
      have H' := Aside0.mk H
      clear H
      have hnb13 := NB149_150.out
      have hnc13 := NB150_149.out
      obtain ⟨hcz14_0, hcz14_1, hcz14_2, hcz14_3, hfz14_0, hfz14_1, hfz14_2, hfz14_3⟩ := bz4_ BK149
      obtain ⟨hcz15_0, hcz15_1, hcz15_2, hcz15_3, hfz15_0, hfz15_1, hfz15_2, hfz15_3⟩ := bz4_ BK150
      go_wp2_with (first | ((with_reducible refine gate_callee (f := 89) rfl ?_); refine goesL_ (some 17) rfl rfl Try.func89 (by kernel_rfl) rfl #[.agg #[.int .i64 a0_0, .int .i64 a0_1, .int .i64 a0_2, .int .i64 a0_3], .agg #[.int .i64 x151000_1, .int .i64 x151001_1, .int .u64 x151002_1, .int .i64 x151003_1]] rfl Z0 ?_; (with_reducible refine (ensembleref04_Piece.calls k1 a0_0 a0_1 a0_2 a0_3 x151000_1 x151001_1 x151002_1 x151003_1 t152 t153 t154 t155 t156 t157 t158 t159 t160 _ A11.out).mono ?_); rintro e w16 ⟨rfl, hb⟩; refine ⟨_, rfl, ?_⟩; replace BK149 := bk_ BK149 hb; replace BK150 := bk_ BK150 hb; replace HB := hs_ hb; (try clear hb); (try clear hb2); (try clear hk); (try clear hi)) | ((with_reducible refine gate_dst (N := 6) rfl ?_); refine bx 6 #[.int .i64 0, .int .i64 0, .int .u64 0, .int .i64 0] 52 ?_; intro gb161 hg w17 hbox hb; have BK161 := Aside0.mk (hbox); have GW161 := ge_ hg; have GE161 := ge_ hg; have NB149_161 := nl_ BK149 hg; have NB161_149 := nr_ BK149 hg; have NB150_161 := nl_ BK150 hg; have NB161_150 := nr_ BK150 hg; replace BK149 := bk_ BK149 hb; replace BK150 := bk_ BK150 hb; replace HB := hs_ hb; clear hb hbox hg) | ((with_reducible refine gate_dst (N := 7) rfl ?_); refine bx 7 #[.int .i64 0, .int .i64 0, .int .u64 0, .int .i64 0] 51 ?_; intro gb162 hg w18 hbox hb; have BK162 := Aside0.mk (hbox); have GW162 := ge_ hg; have GE162 := ge_ hg; have NB149_162 := nl_ BK149 hg; have NB162_149 := nr_ BK149 hg; have NB150_162 := nl_ BK150 hg; have NB162_150 := nr_ BK150 hg; have NB161_162 := nl_ BK161 hg; have NB162_161 := nr_ BK161 hg; replace BK149 := bk_ BK149 hb; replace BK150 := bk_ BK150 hb; replace BK161 := bk_ BK161 hb; replace HB := hs_ hb; clear hb hbox hg; have hnb19 := NB161_149.out; have hnc19 := NB149_161.out; have hnb20 := NB161_150.out; have hnc20 := NB150_161.out; have hnb21 := NB161_162.out; have hnc21 := NB162_161.out; obtain ⟨hcz22_0, hcz22_1, hcz22_2, hcz22_3, hfz22_0, hfz22_1, hfz22_2, hfz22_3⟩ := bz4_ BK161; have hnb23 := NB162_149.out; have hnc23 := NB149_162.out; have hnb24 := NB162_150.out; have hnc24 := NB150_162.out; obtain ⟨hcz25_0, hcz25_1, hcz25_2, hcz25_3, hfz25_0, hfz25_1, hfz25_2, hfz25_3⟩ := bz4_ BK162; obtain ⟨hcz26_0, hcz26_1, hcz26_2, hcz26_3, hfz26_0, hfz26_1, hfz26_2, hfz26_3⟩ := bz4_ BK150))
      go_roundg k1
      case measure => have := HK1.out; omega
      case rel => exact ⟨(wrap64 (x5_1 + 1)), (t156), (t157), (t158), (t159), Z1, H', ⟨by have := HK1.out; omega⟩, ⟨bs_⟩, ⟨bs_⟩, ⟨hb_⟩⟩
     ·rw [if_neg c12] at H
      have c12b0 : (t160 == 0) = false := beq_eq_false_iff_ne.mpr c12
      have c12b1 : (t160 != 0) = true := bne_iff_ne.mpr c12
      obtain rfl := Option.some.inj H
      have hnb27 := NB149_150.out
      have hnc27 := NB150_149.out
      obtain ⟨hcz28_0, hcz28_1, hcz28_2, hcz28_3, hfz28_0, hfz28_1, hfz28_2, hfz28_3⟩ := bz4_ BK149
      obtain ⟨hcz29_0, hcz29_1, hcz29_2, hcz29_3, hfz29_0, hfz29_1, hfz29_2, hfz29_3⟩ := bz4_ BK150
      go_wp2_with (first | ((with_reducible refine gate_callee (f := 89) rfl ?_); refine goesL_ (some 17) rfl rfl Try.func89 (by kernel_rfl) rfl #[.agg #[.int .i64 a0_0, .int .i64 a0_1, .int .i64 a0_2, .int .i64 a0_3], .agg #[.int .i64 x151000_1, .int .i64 x151001_1, .int .u64 x151002_1, .int .i64 x151003_1]] rfl Z0 ?_; (with_reducible refine (ensembleref04_Piece.calls k1 a0_0 a0_1 a0_2 a0_3 x151000_1 x151001_1 x151002_1 x151003_1 t152 t153 t154 t155 t156 t157 t158 t159 t160 _ A11.out).mono ?_); rintro e w30 ⟨rfl, hb⟩; refine ⟨_, rfl, ?_⟩; replace BK149 := bk_ BK149 hb; replace BK150 := bk_ BK150 hb; replace HB := hs_ hb; (try clear hb); (try clear hb2); (try clear hk); (try clear hi)) | ((with_reducible refine gate_dst (N := 6) rfl ?_); refine bx 6 #[.int .i64 0, .int .i64 0, .int .u64 0, .int .i64 0] 52 ?_; intro gb161 hg w31 hbox hb; have BK161 := Aside0.mk (hbox); have GW161 := ge_ hg; have GE161 := ge_ hg; have NB149_161 := nl_ BK149 hg; have NB161_149 := nr_ BK149 hg; have NB150_161 := nl_ BK150 hg; have NB161_150 := nr_ BK150 hg; replace BK149 := bk_ BK149 hb; replace BK150 := bk_ BK150 hb; replace HB := hs_ hb; clear hb hbox hg) | ((with_reducible refine gate_dst (N := 7) rfl ?_); refine bx 7 #[.int .i64 0, .int .i64 0, .int .u64 0, .int .i64 0] 51 ?_; intro gb162 hg w32 hbox hb; have BK162 := Aside0.mk (hbox); have GW162 := ge_ hg; have GE162 := ge_ hg; have NB149_162 := nl_ BK149 hg; have NB162_149 := nr_ BK149 hg; have NB150_162 := nl_ BK150 hg; have NB162_150 := nr_ BK150 hg; have NB161_162 := nl_ BK161 hg; have NB162_161 := nr_ BK161 hg; replace BK149 := bk_ BK149 hb; replace BK150 := bk_ BK150 hb; replace BK161 := bk_ BK161 hb; replace HB := hs_ hb; clear hb hbox hg; have hnb33 := NB161_149.out; have hnc33 := NB149_161.out; have hnb34 := NB161_150.out; have hnc34 := NB150_161.out; have hnb35 := NB161_162.out; have hnc35 := NB162_161.out; obtain ⟨hcz36_0, hcz36_1, hcz36_2, hcz36_3, hfz36_0, hfz36_1, hfz36_2, hfz36_3⟩ := bz4_ BK161; have hnb37 := NB162_149.out; have hnc37 := NB149_162.out; have hnb38 := NB162_150.out; have hnc38 := NB150_162.out; obtain ⟨hcz39_0, hcz39_1, hcz39_2, hcz39_3, hfz39_0, hfz39_1, hfz39_2, hfz39_3⟩ := bz4_ BK162))
      go_ret
      exact ⟨by first | rfl | (simp [errW_none, errW_some] <;> rfl) | (simp [*, errW_none, errW_some] <;> rfl), hb_⟩
    ·rw [if_neg c10] at H
     have c10b0 : decide (x5_1 < 16) = false := decide_eq_false c10
     clear c10
     obtain rfl := Option.some.inj H
     go_wp2
     go_ret
     exact ⟨by first | rfl | (simp [errW_none, errW_some] <;> rfl) | (simp [*, errW_none, errW_some] <;> rfl), hb_⟩
 ·replace c4 := Bool.eq_false_iff.mpr c4
  subst c4
  have H1 : (some 0) = some r := by rw [if_neg (show ¬ (false = true) by decide)] at H; exact H
  clear H
  have H := H1
  clear H1
  obtain rfl := Option.some.inj H
  go_enter Try.func47, Try.ntmps47
  go_wp2_with (first | ((with_reducible refine gate_dst (N := 2) rfl ?_); refine bx 2 #[.int .i64 a0_0, .int .i64 a0_1, .int .i64 a0_2, .int .i64 a0_3] 27 ?_; intro gb149 hg w40 hbox hb; have BK149 := Aside0.mk (hbox); have GW149 := ge_ hg; have GE149 := ge_ hg; replace HB := hs_ hb; clear hb hbox hg) | ((with_reducible refine gate_dst (N := 3) rfl ?_); refine bx 3 #[.int .i64 a1_0, .int .i64 a1_1, .int .u64 a1_2, .int .i64 a1_3] 51 ?_; intro gb150 hg w41 hbox hb; have BK150 := Aside0.mk (hbox); have GW150 := ge_ hg; have GE150 := ge_ hg; have NB149_150 := nl_ BK149 hg; have NB150_149 := nr_ BK149 hg; replace BK149 := bk_ BK149 hb; replace HB := hs_ hb; clear hb hbox hg; have hnb42 := NB149_150.out; have hnc42 := NB150_149.out; obtain ⟨hcz43_0, hcz43_1, hcz43_2, hcz43_3, hfz43_0, hfz43_1, hfz43_2, hfz43_3⟩ := bz4_ BK149) | ((with_reducible refine gate_callee (f := 45) rfl ?_); refine goesL_ (some 10) rfl rfl Try.func45 (by kernel_rfl) rfl #[.agg #[.int .i64 a0_0, .int .i64 a0_1, .int .i64 a0_2, .int .i64 a0_3]] rfl Z0 ?_; (with_reducible refine (ensembleref04_Right.calls a0_0 a0_1 a0_2 a0_3 false _ A3.out).mono ?_); rintro e w44 ⟨rfl, hb⟩; refine ⟨_, rfl, ?_⟩; replace BK149 := bk_ BK149 hb; replace BK150 := bk_ BK150 hb; replace HB := hs_ hb; (try clear hb); (try clear hb2); (try clear hk); (try clear hi)))
  go_ret
  exact ⟨by first | rfl | (simp [errW_none, errW_some] <;> rfl) | (simp [*, errW_none, errW_some] <;> rfl), hb_⟩
end Go.Proofs.Ytckhjehibjdjdaa.P
namespace Go.Proofs.Ytckhjehibjdjdaa.P
open Go.RowKit Go.Proofs.YtckhjehibjdjdaaW.PrintWords Go.Proofs.YtckhjehibjdjdaaW.PrintLast Go.Proofs.YtckhjehibjdjdaaW.PrintMore
attribute [local go_sem] max2_int min2_int max_two min_two max_three min_three max_four min_four
set_option linter.unusedVariables false
set_option linter.unusedSimpArgs false
def ensembleref05_Room.l0 : Nat → List (S51) → Int → Int → Int → Int → Int → Int → Option (Int)
 | 0, _, _, _, _, _, _, _ => none
 | k + 1, x0, x5, x6, x164000, x164001, x164002, x164003 => if x6 < (x0.length : Int) then (if 0 ≤ x6 then ((ensembleref04_Fits.f k x164000 x164001 x164002 x164003 ((rd_T51 x0 x6).f0.f0) ((rd_T51 x0 x6).f0.f1) ((rd_T51 x0 x6).f1) ((rd_T51 x0 x6).f2)).bind fun t165 => (ensembleref05_Room.l0 k x0 (wrap64 (x5 + t165)) (wrap64 (x6 + 1)) x164000 x164001 x164002 x164003)) else (none)) else (some x5)
def ensembleref05_Room.f (k : Nat) (l0 : List (S51)) (a1_0 : Int) (a1_1 : Int) (a1_2 : Int) (a1_3 : Int) : Option (Int) := ensembleref05_Room.l0 k l0 0 0 a1_0 a1_1 a1_2 a1_3
def ensembleref05_Room.T5 : Bool × List (List Nat × List Nat) := (true, [([], []), ([], []), ([], []), ([], []), ([2, 3], [2, 3]), ([4], [4]), ([1, 5], [1, 5]), ([0, 6], [0, 6]), ([7, 6, 0, 1, 2, 3, 4, 5, 6, 7], [0, 7])])
def ensembleref05_Room.B5 : List Nat := [0, 0, 0, 0, 12, 28, 62, 127, 255]
theorem ensembleref05_Room.tab5 : rtab .any (opsOf Try.f34 5) = ensembleref05_Room.T5 := by kernel_rfl
theorem ensembleref05_Room.bits5 : waitsOk ensembleref05_Room.T5.2 ensembleref05_Room.B5 = true := by kernel_rfl
set_option maxHeartbeats 8000000 in
set_option maxRecDepth 100000 in
theorem ensembleref05_Room.calls (k : Nat) (A0 : Option Addr) (c0 : Nat) (l0 : List (S51)) (a1_0 : Int) (a1_1 : Int) (a1_2 : Int) (a1_3 : Int) (r : Int) (w : World) (hr0 : Kd.C k51 w A0 l0.length l0) (hc0 : l0.length ≤ c0) (h : ensembleref05_Room.f k l0 a1_0 a1_1 a1_2 a1_3 = some r) :
  Calls Try.prog 34 #[.slice A0 l0.length c0, .agg #[.int .i64 a1_0, .int .i64 a1_1, .int .i64 a1_2, .int .i64 a1_3]] w fun e w' => e = .returned (.int .i64 r) ∧ Below w.heap.size w w' := by
 have hu27 := Try.underlying27
 have hu51 := Try.underlying51
 have HR0 := Aside0.mk hr0
 have HC0 := Aside0.mk hc0
 clear hr0 hc0
 have HB := Aside0.mk (Below.refl w.heap.size w)
 have H : (ensembleref05_Room.l0 k l0 0 0 a1_0 a1_1 a1_2 a1_3) = some r := h
 clear h
 have H' := Aside0.mk H
 clear H
 go_enter Try.func34, Try.ntmps34
 go_wp2_with (first | ((with_reducible refine gate_dst (N := 3) rfl ?_); refine bx 3 #[.int .i64 a1_0, .int .i64 a1_1, .int .i64 a1_2, .int .i64 a1_3] 27 ?_; intro gb163 hg w3 hbox hb; have BK163 := Aside0.mk (hbox); have GW163 := ge_ hg; have GE163 := ge_ hg; replace HB := hs_ hb; clear hb hbox hg))
 go_loopg [5, 6] k (fun kq v5 v6 w' => ∃ (x5_1 : Int) (x6_1 : Int), v5 = .int .i64 x5_1 ∧ v6 = .int .i64 x6_1 ∧ Aside0 (ensembleref05_Room.l0 kq l0 x5_1 x6_1 a1_0 a1_1 a1_2 a1_3 = some r) ∧ Aside0 (kq ≤ k) ∧ Aside0 (w'.heap[gb163]? = some (.cells #[.int .i64 a1_0, .int .i64 a1_1, .int .i64 a1_2, .int .i64 a1_3] 27 (0, 0))) ∧ Aside0 (Below w.heap.size w w'))
 case atStart => exact ⟨(0), (0), Z1, Z1, H', ⟨Nat.le_refl _⟩, ⟨bo_ BK163⟩, ⟨hb_⟩⟩
 case round =>
  clear H'
  try clear p2
  try clear c3
  obtain ⟨x5_1, x6_1, rfl, rfl, HA, HK1, BK163, HB⟩ := hrel
  cases gk with
  | zero => exact absurd HA.out (by simp [ensembleref05_Room.l0])
  | succ k1 =>
   have H := HA.out
   clear HA
   simp only [ensembleref05_Room.l0] at H
   by_cases c4 : x6_1 < (l0.length : Int)
   ·rw [if_pos c4] at H
    have c4b0 : decide (x6_1 < (l0.length : Int)) = true := decide_eq_true c4
    clear c4
    by_cases c5 : 0 ≤ x6_1
    ·rw [if_pos c5] at H
     have c5b0 : decide (0 ≤ x6_1) = true := decide_eq_true c5
     clear c5
     replace H := Option.bind_eq_some_iff.mp H
     obtain ⟨t165, A60, H⟩ := H
     replace H : (ensembleref05_Room.l0 k1 l0 (wrap64 (x5_1 + t165)) (wrap64 (x6_1 + 1)) a1_0 a1_1 a1_2 a1_3) = some r := H
     have A6 := Aside0.mk A60
     clear A60
     have H' := Aside0.mk H
     clear H
     try go_wp2
     replace BK163 := Aside0.mk (blk_drew BK163.out)
     replace HB := Aside0.mk (below_drew1 HB.out)
     have p164 : 0 ≤ (x6_1 : Int) := of_decide_eq_true Z2
     have q164 : x6_1 < (l0.length : Int) := of_decide_eq_true Z2
     obtain ⟨ad164, e164, hx164_0, hx164_1, hx164_2, hx164_3⟩ := at_T51 HR0.out x6_1 p164 q164
     have hw164_3 := hx164_3
     have hw164_2 := hx164_2
     have hw164_1 := hx164_1
     have hw164_0 := hx164_0
     cases e164
     replace hx164_0 := cx_ hx164_0
     replace hx164_1 := cx_ hx164_1
     replace hx164_2 := cx_ hx164_2
     replace hx164_3 := cx_ hx164_3
     replace p164 := eq_true p164
     replace q164 := eq_true q164
     refine start_ (n := 9) (S := fun w' => w'.cell? ⟨gb163, 0, none⟩ = some (.int .i64 a1_0) ∧ w'.cell? ⟨gb163, 1, none⟩ = some (.int .i64 a1_1) ∧ w'.cell? ⟨gb163, 2, none⟩ = some (.int .i64 a1_2) ∧ w'.cell? ⟨gb163, 3, none⟩ = some (.int .i64 a1_3) ∧ w'.cell? (ad164.add ((x6_1).toNat * 4)) = some (.int .i64 ((rd_T51 l0 x6_1).f0.f0)) ∧ w'.cell? ⟨(ad164.add ((x6_1).toNat * 4)).block, (ad164.add ((x6_1).toNat * 4)).off + 1, none⟩ = some (.int .i64 ((rd_T51 l0 x6_1).f0.f1)) ∧ w'.cell? ⟨(ad164.add ((x6_1).toNat * 4)).block, (ad164.add ((x6_1).toNat * 4)).off + 2, none⟩ = some (.int .u64 ((rd_T51 l0 x6_1).f1)) ∧ w'.cell? ⟨(ad164.add ((x6_1).toNat * 4)).block, (ad164.add ((x6_1).toNat * 4)).off + 3, none⟩ = some (.int .i64 ((rd_T51 l0 x6_1).f2))) (ds := []) (bm 9 0) (by kernel_rfl) rfl rfl ⟨(blk_cell BK163.out 0).trans rfl, (blk_cell BK163.out 1).trans rfl, (blk_cell BK163.out 2).trans rfl, (blk_cell BK163.out 3).trans rfl, ((HB.out.cell (World.block_lt_of_cell? w _ hw164_0)).trans hw164_0), ((HB.out.cell (World.block_lt_of_cell? w _ hw164_1)).trans hw164_1), ((HB.out.cell (World.block_lt_of_cell? w _ hw164_2)).trans hw164_2), ((HB.out.cell (World.block_lt_of_cell? w _ hw164_3)).trans hw164_3)⟩ (fun hHeld => ?_); refine with_tabW ensembleref05_Room.tab5 ensembleref05_Room.bits5 (fun HT_ HW_ => ?_)
     generalize wr.drew = w7 at BK163 HB hx164_0 hx164_1 hx164_2 hx164_3 hHeld ⊢
     refine pu 0 (some 13) (bm 9 1) ?_
     refine pu 2 (some 15) (bm 9 5) ?_
     refine pu 3 (some 16) (bm 9 13) ?_
     refine pu 4 (some 17) (bm 9 29) ?_
     refine tk8 1 (some 14) (bm 9 31) ?_
     refine tk8 5 (some 18) (bm 9 63) ?_
     refine one_ (i := 6) (N := some 19) (bm 9 127) rfl rfl (one_of HT_.out (by kernel_rfl)) (by decide) (fun K hK => ?_)
     refine goes_ Try.func47 (by kernel_rfl) rfl #[.agg #[.int .i64 a1_0, .int .i64 a1_1, .int .i64 a1_2, .int .i64 a1_3], .agg #[.int .i64 ((rd_T51 l0 x6_1).f0.f0), .int .i64 ((rd_T51 l0 x6_1).f0.f1), .int .u64 ((rd_T51 l0 x6_1).f1), .int .i64 ((rd_T51 l0 x6_1).f2)]] (by rfl) rfl rfl Z0 ?_
     with_reducible refine (ensembleref04_Fits.calls k1 a1_0 a1_1 a1_2 a1_3 ((rd_T51 l0 x6_1).f0.f0) ((rd_T51 l0 x6_1).f0.f1) ((rd_T51 l0 x6_1).f1) ((rd_T51 l0 x6_1).f2) t165 _ A6.out).mono ?_
     rintro e w8 ⟨rfl, hb⟩
     refine ⟨_, rfl, ?_⟩
     replace BK163 := bk_ BK163 hb
     replace HB := hs_ hb
     (try clear hb)
     (try clear hb2)
     (try clear hk)
     (try clear hi)
     refine hK.out _ _ ⟨(blk_cell BK163.out 0).trans rfl, (blk_cell BK163.out 1).trans rfl, (blk_cell BK163.out 2).trans rfl, (blk_cell BK163.out 3).trans rfl, ((HB.out.cell (World.block_lt_of_cell? w _ hw164_0)).trans hw164_0), ((HB.out.cell (World.block_lt_of_cell? w _ hw164_1)).trans hw164_1), ((HB.out.cell (World.block_lt_of_cell? w _ hw164_2)).trans hw164_2), ((HB.out.cell (World.block_lt_of_cell? w _ hw164_3)).trans hw164_3)⟩ (fun hHeld => ?_)
     clear hK K
     refine norm_ (a' := ?_) ?_ ?_
     rotate_left
     ·show Act.put _ (some 19) _ = _
      simp only [Act.put, List.setIfInBounds_toArray, List.set_cons_zero, List.set_cons_succ, i64_w, i32_w]
      rfl
     refine pu 7 (some 20) (bm 9 255) ?_
     refine pu 8 (some 5) (bm 9 511) ?_
     refine done_ (done_of HT_.out (by kernel_rfl)) ?_
     try go_wp2
     go_roundg k1
     case measure => have := HK1.out; omega
     case rel => exact ⟨(wrap64 (x5_1 + t165)), (wrap64 (x6_1 + 1)), Z1, Z1, H', ⟨by have := HK1.out; omega⟩, ⟨bo_ BK163⟩, ⟨hb_⟩⟩
    ·rw [if_neg c5] at H
     exact absurd H (by simp)
   ·rw [if_neg c4] at H
    have c4b0 : decide (x6_1 < (l0.length : Int)) = false := decide_eq_false c4
    clear c4
    obtain rfl := Option.some.inj H
    go_wp2
    go_ret
    exact ⟨by first | rfl | (simp [errW_none, errW_some] <;> rfl) | (simp [*, errW_none, errW_some] <;> rfl), hb_⟩
end Go.Proofs.Ytckhjehibjdjdaa.P
namespace Go.Proofs.Ytckhjehibjdjdaa.Mp
open Go.RowKit Go.Maps
def MapI (P : Program) (k e : TypeId) (w : World) (b n : Nat) (f : Int → Int) : Prop :=
 ∃ D : DataW Unit, w.ownsMap P k (plainElem P e) b n D ∧ IsMap D ∧ ∀ i, D.atKey (.int .i64 i) (.lit (.int .i64 0)) = .lit (.int .i64 (f i))
variable {P : Program} {k e : TypeId} {w : World} {b n : Nat} {f : Int → Int}
theorem MapI.made (w : World) (P : Program) (k e : TypeId) : MapI P k e (w.alloc (.map #[] 0)) w.heap.size 0 (fun _ => 0) :=
 ⟨.map [], World.ownsMap_made _ _ _ _, ⟨_, rfl⟩, fun _ => rfl⟩
theorem MapI.lt (h : MapI P k e w b n f) : b < w.heap.size := by
 obtain ⟨D, ⟨es, cl, hb, _⟩, _⟩ := h
 exact (Array.getElem?_eq_some_iff.1 hb).1
theorem MapI.move {w1 : World} (h : MapI P k e w b n f) (hm : w1.heap[b]? = w.heap[b]?) : MapI P k e w1 b n f := by
 obtain ⟨D, ⟨es, cl, hb, r⟩, i⟩ := h
 exact ⟨D, ⟨es, cl, hm.trans hb, r⟩, i⟩
theorem MapI.below {w1 : World} (h : MapI P k e w b n f) (hb : Below w.heap.size w w1) : MapI P k e w1 b n f := h.move (hb.block b h.lt)
theorem MapI.grown {w1 : World} {row : Option Nat} (h : MapI P k e w b n f) (hg : w.grownBy w1 row) (hne : some b ≠ row) : MapI P k e w1 b n f := h.move (hg.block b h.lt hne)
theorem MapI.alloc (h : MapI P k e w b n f) (o : Obj) : MapI P k e (w.alloc o) b n f := h.below ((Below.refl _ _).alloc (Nat.le_refl _) o)
theorem MapI.drew (h : MapI P k e w b n f) : MapI P k e w.drew b n f := h
theorem MapI.drewN (h : MapI P k e w b n f) (m : Nat) : MapI P k e (w.drewN m) b n f := h.move rfl
theorem MapI.congr {f' : Int → Int} {n' : Nat} (h : MapI P k e w b n f) (hf : ∀ i, f i = f' i) (hn : n = n') : MapI P k e w b n' f' := by
 subst hn
 obtain ⟨D, h1, h2, h3⟩ := h
 exact ⟨D, h1, h2, fun i => by rw [h3, hf]⟩
variable {ops : Array Oper} {rest : List Oper} {o : Oper} {a : Act} {Q : Exit → Act → World → Prop}
end Go.Proofs.Ytckhjehibjdjdaa.Mp
namespace Go.Proofs.Ytckhjehibjdjdaa.Mp
open Go.RowKit Go.Maps
def skey (a b : Int) : Lit := .string (keyBytes [.int .i64 a, .int .i64 b])
def W64 (x : Int) : Prop := (Lit.int .i64 x).wf = true
theorem W64.mk {x : Int} (h : -9223372036854775808 ≤ x ∧ x ≤ 9223372036854775807) : W64 x := by
 unfold W64; simp [Lit.wf, IntKind.min, IntKind.max, IntKind.bits, IntKind.signed]; omega
structure PairKey (P : Program) (k : TypeId) : Prop where
 keyed : Keyed P k
 key : ∀ {a b : Int}, W64 a → W64 b → keyOf P k (.agg #[.int .i64 a, .int .i64 b]) = some (skey a b)
theorem PairKey.inj {P : Program} {k : TypeId} (K : PairKey P k) {a b c d : Int} (ha : W64 a) (hb : W64 b) (hc : W64 c) (hd : W64 d) (h : skey a b = skey c d) : a = c ∧ b = d := by
 have h1 := K.key ha hb
 have h2 := K.key hc hd
 rw [← h] at h2
 have := K.keyed.inj h1 h2
 simp at this
 exact this
def MapS (P : Program) (k e : TypeId) (w : World) (b n : Nat) (f : Int → Int → Option Int) : Prop :=
 ∃ D : DataW Unit, w.ownsMap P k (plainElem P e) b n D ∧ IsMap D ∧ ∀ i j, W64 i → W64 j → has D (skey i j) = (f i j).isSome ∧ D.atKey (skey i j) (.lit (.int .i64 0)) = .lit (.int .i64 ((f i j).getD 0))
def updS (f : Int → Int → Option Int) (i j v : Int) : Int → Int → Option Int := fun a b => if a = i ∧ b = j then some v else f a b
variable {P : Program} {k e : TypeId} {w : World} {b n : Nat} {f : Int → Int → Option Int}
theorem MapS.made (w : World) (P : Program) (k e : TypeId) : MapS P k e (w.alloc (.map #[] 0)) w.heap.size 0 (fun _ _ => none) :=
 ⟨.map [], World.ownsMap_made _ _ _ _, ⟨_, rfl⟩, fun _ _ _ _ => ⟨rfl, rfl⟩⟩
theorem MapS.lt (h : MapS P k e w b n f) : b < w.heap.size := by
 obtain ⟨D, ⟨es, cl, hb, _⟩, _⟩ := h
 exact (Array.getElem?_eq_some_iff.1 hb).1
theorem MapS.move {w1 : World} (h : MapS P k e w b n f) (hm : w1.heap[b]? = w.heap[b]?) : MapS P k e w1 b n f := by
 obtain ⟨D, ⟨es, cl, hb, r⟩, i⟩ := h
 exact ⟨D, ⟨es, cl, hm.trans hb, r⟩, i⟩
theorem MapS.below {w1 : World} (h : MapS P k e w b n f) (hb : Below w.heap.size w w1) : MapS P k e w1 b n f := h.move (hb.block b h.lt)
theorem MapS.grown {w1 : World} {row : Option Nat} (h : MapS P k e w b n f) (hg : w.grownBy w1 row) (hne : some b ≠ row) : MapS P k e w1 b n f := h.move (hg.block b h.lt hne)
theorem MapS.alloc (h : MapS P k e w b n f) (o : Obj) : MapS P k e (w.alloc o) b n f := h.below ((Below.refl _ _).alloc (Nat.le_refl _) o)
theorem MapS.congr {f' : Int → Int → Option Int} {n' : Nat} (h : MapS P k e w b n f) (hf : ∀ i j, f i j = f' i j) (hn : n ≤ n') : MapS P k e w b n' f' := by
 obtain ⟨D, ⟨es, cl, hb, F, hs, hD⟩, h2, h3⟩ := h
 exact ⟨D, ⟨es, cl, hb, F, Nat.le_trans hs hn, hD⟩, h2, fun i j hi hj => by rw [← hf]; exact h3 i j hi hj⟩
variable {ops : Array Oper} {rest : List Oper} {o : Oper} {a : Act} {Q : Exit → Act → World → Prop}
theorem wp_lookup_S (hg : o.guard = none) (K : PairKey P k) (m x : Operand) (t : TypeId) (hop : o.op = Op.lookup t m x true)
  (ht : P.underlying t = some (.map k e)) (he : P.underlying e = some (.int .i64)) (hz : (zeroValue e).run P w = .ok (.int .i64 0) w)
  (hm : a.eval m = .map (some b)) (h : MapS P k e w b n f) (i j : Int) (hx : a.eval x = .agg #[.int .i64 i, .int .i64 j]) (hi : W64 i) (hj : W64 j)
  (hK : wpList P ops Q rest (a.put o.dst (.tuple #[.int .i64 ((f i j).getD 0), .bool (f i j).isSome])) w) : wpList P ops Q (o :: rest) a w := by
 obtain ⟨D, h1, h2, h3⟩ := h
 refine wpList_lookup_own_ok_int w hg m x t hop k e .i64 K.keyed ht he hz b n D hm h1 _ _ hx (K.key hi hj) ?_
 intro c hat hwc
 obtain ⟨e1, e2⟩ := h3 i j hi hj
 rw [e2] at hat
 injection hat with hat
 injection hat with _ hat
 subst hat
 rw [e1]
 exact hK
theorem wp_update_S (hg : o.guard = none) (K : PairKey P k) (m x v : Operand) (t : TypeId) (hop : o.op = Op.mapUpdate t m x v)
  (ht : P.underlying t = some (.map k e)) (he : P.underlying e = some (.int .i64))
  (hm : a.eval m = .map (some b)) (h : MapS P k e w b n f) (hn : n < maxLen) (i j c : Int) (hx : a.eval x = .agg #[.int .i64 i, .int .i64 j]) (hv : a.eval v = .int .i64 c) (hi : W64 i) (hj : W64 j) (hc : W64 c)
  (hK : ∀ w', MapS P k e w' b (n + 1) (updS f i j c) → w.grownBy w' (some b) → wpList P ops Q rest (a.put o.dst undef) w') : wpList P ops Q (o :: rest) a w := by
 obtain ⟨D, h1, h2, h3⟩ := h
 refine wpList_mapUpdate_own w hg m x v t hop k e K.keyed ht _ b n D hm h1 hn _ _ _ hx hv (K.key hi hj) _ [] (plainElem_int he hc) ?_
 intro w' ho hgr
 refine hK w' ⟨_, ho, ?_, fun i' j' hi' hj' => ?_⟩ hgr
 ·obtain ⟨l, rfl⟩ := h2
  exact ⟨_, rfl⟩
 ·unfold updS
  by_cases hh : i' = i ∧ j' = j
  ·obtain ⟨rfl, rfl⟩ := hh
   rw [if_pos ⟨rfl, rfl⟩, atKey_put_same h2 (by simp [skey, WideAt.IsKeyLit]), has_put_same h2 (by simp [skey, WideAt.IsKeyLit])]
   exact ⟨rfl, rfl⟩
  ·have hne : skey i' j' ≠ skey i j := fun e => hh (K.inj hi' hj' hi hj e)
   rw [if_neg hh, atKey_put_other hne, has_put_other hne]
   exact h3 i' j' hi' hj'
end Go.Proofs.Ytckhjehibjdjdaa.Mp
namespace Go.Proofs.Ytckhjehibjdjdaa.Bits
def pos (m : Nat) : List Nat := (List.range 64).filter fun i => m.testBit i
def orAll (l : List Nat) : Nat := l.foldl (fun a i => a ||| 2 ^ i) 0
def lowN (m n : Nat) : Nat := orAll ((pos m).take n)
def popN (m : Nat) : Nat := (pos m).length
theorem testBit_orFold (l : List Nat) (a j : Nat) : (l.foldl (fun a i => a ||| 2 ^ i) a).testBit j = (a.testBit j || decide (j ∈ l)) := by
 induction l generalizing a with
 | nil => simp
 | cons i l ih =>
  rw [List.foldl_cons, ih, Nat.testBit_or, Nat.testBit_two_pow, Bool.or_assoc]
  congr 1
  by_cases h : i = j
  ·simp [h]
  ·have h' : j ≠ i := fun e => h e.symm
   simp [h, h']
theorem testBit_orAll (l : List Nat) (j : Nat) : (orAll l).testBit j = decide (j ∈ l) := by
 unfold orAll; rw [testBit_orFold]; simp
theorem orAll_snoc (l : List Nat) (i : Nat) : orAll (l ++ [i]) = orAll l ||| 2 ^ i := by simp [orAll, List.foldl_append]
theorem mem_pos {m j : Nat} : j ∈ pos m ↔ j < 64 ∧ m.testBit j = true := by simp [pos]
theorem lt_of_testBit {m j : Nat} (hm : m < 2 ^ 64) (h : m.testBit j = true) : j < 64 := by
 rcases Nat.lt_or_ge j 64 with h1 | h1
 ·exact h1
 ·rw [Nat.testBit_lt_two_pow (Nat.lt_of_lt_of_le hm (Nat.pow_le_pow_right (by omega) h1))] at h
  cases h
theorem orAll_pos {m : Nat} (hm : m < 2 ^ 64) : orAll (pos m) = m := by
 apply Nat.eq_of_testBit_eq
 intro j
 rw [testBit_orAll]
 by_cases h : m.testBit j = true
 ·rw [h]; exact decide_eq_true (mem_pos.2 ⟨lt_of_testBit hm h, h⟩)
 ·have h' : m.testBit j = false := by simpa using h
  rw [h']; exact decide_eq_false (fun e => h (mem_pos.1 e).2)
theorem pos_sorted (m : Nat) : (pos m).Pairwise (· < ·) := List.Pairwise.filter _ List.pairwise_lt_range
def popI (m : Int) : Int := (popN m.toNat : Int)
def lowI (m n : Int) : Int := (lowN m.toNat n.toNat : Int)
end Go.Proofs.Ytckhjehibjdjdaa.Bits
namespace Go.Proofs.Ytckhjehibjdjdaa.P
open Go.RowKit Go.Shelf Go.Proofs.YtckhjehibjdjdaaW.PrintWords Go.Proofs.YtckhjehibjdjdaaW.PrintLast Go.Proofs.YtckhjehibjdjdaaW.PrintMore
open Go.Proofs.Ytckhjehibjdjdaa.Bits Go.Proofs.Ytckhjehibjdjdaa.RF
attribute [local go_sem] max2_int min2_int max_two min_two max_three min_three max_four min_four
attribute [local go_sem] Oper.semAt_some
set_option linter.unusedVariables false
set_option linter.unusedSimpArgs false
end Go.Proofs.Ytckhjehibjdjdaa.P
namespace Go.Proofs.Ytckhjehibjdjdaa.Bits
set_option linter.unusedVariables false
set_option linter.unusedSimpArgs false
def glue : List Nat → Nat
 | [] => 0
 | r :: l => 256 * glue l + r
def maskN (s : Nat) : Nat → Nat
 | 0 => 0
 | k + 1 => 256 * maskN s k + s
theorem and_split (q p r s : Nat) (hr : r < 256) (hs : s < 256) : (256 * q + r) &&& (256 * p + s) = 256 * (q &&& p) + (r &&& s) := by
 apply Nat.eq_of_testBit_eq
 intro j
 have hrs : (r &&& s) < 2 ^ 8 := Nat.lt_of_le_of_lt Nat.and_le_left hr
 have e1 := Nat.testBit_two_pow_mul_add q (i := 8) hr j
 have e2 := Nat.testBit_two_pow_mul_add p (i := 8) hs j
 have e3 := Nat.testBit_two_pow_mul_add (q &&& p) (i := 8) hrs j
 rw [show (2 : Nat) ^ 8 = 256 from rfl] at e1 e2 e3
 rw [Nat.testBit_and, e1, e2, e3]
 split <;> simp
theorem and_shift (q p r s j : Nat) (hj : j ≤ 8) (hr : r < 256) (hs : s < 2 ^ (8 - j)) : ((256 * q + r) / 2 ^ j) &&& (256 * p + s) = 256 * ((q / 2 ^ j) &&& p) + ((r / 2 ^ j) &&& s) := by
 have hs' : s < 256 := Nat.lt_of_lt_of_le hs (by have := Nat.pow_le_pow_right (n := 2) (by omega) (show 8 - j ≤ 8 by omega); simpa using this)
 apply Nat.eq_of_testBit_eq
 intro i
 have hrs : ((r / 2 ^ j) &&& s) < 2 ^ 8 := Nat.lt_of_le_of_lt Nat.and_le_right hs'
 have e1 := Nat.testBit_two_pow_mul_add q (i := 8) hr (i + j)
 have e2 := Nat.testBit_two_pow_mul_add p (i := 8) hs' i
 have e3 := Nat.testBit_two_pow_mul_add ((q / 2 ^ j) &&& p) (i := 8) hrs i
 rw [show (2 : Nat) ^ 8 = 256 from rfl] at e1 e2 e3
 rw [Nat.testBit_and, e2, e3, Nat.testBit_div_two_pow, e1]
 by_cases hi : i < 8
 ·rw [if_pos hi, if_pos hi, Nat.testBit_and, Nat.testBit_div_two_pow]
  by_cases h2 : i + j < 8
  ·rw [if_pos h2]
  ·rw [if_neg h2]
   have : s.testBit i = false := by
    apply Nat.testBit_lt_two_pow
    exact Nat.lt_of_lt_of_le hs (Nat.pow_le_pow_right (by omega) (by omega))
   rw [this]; simp
 ·rw [if_neg hi, if_neg hi, if_neg (by omega), Nat.testBit_and, Nat.testBit_div_two_pow]
  rw [show i + j - 8 = i - 8 + j by omega]
theorem glue_and (s : Nat) (hs : s < 256) : ∀ l : List Nat, (∀ r ∈ l, r < 256) → glue l &&& maskN s l.length = glue (l.map fun r => r &&& s)
 | [], _ => by simp [glue, maskN]
 | r :: l, h => by
  rw [glue, List.length_cons, maskN, and_split _ _ _ _ (h r (by simp)) hs, glue_and s hs l (fun x hx => h x (by simp [hx]))]; rfl
theorem glue_shift (s j : Nat) (hj : j ≤ 8) (hs : s < 2 ^ (8 - j)) : ∀ l : List Nat, (∀ r ∈ l, r < 256) → (glue l / 2 ^ j) &&& maskN s l.length = glue (l.map fun r => (r / 2 ^ j) &&& s)
 | [], _ => by simp [glue, maskN]
 | r :: l, h => by
  rw [glue, List.length_cons, maskN, and_shift _ _ _ _ _ hj (h r (by simp)) hs, glue_shift s j hj hs l (fun x hx => h x (by simp [hx]))]; rfl
theorem glue_add (f g : Nat → Nat) : ∀ l : List Nat, glue (l.map f) + glue (l.map g) = glue (l.map fun r => f r + g r)
 | [] => rfl
 | r :: l => by have := glue_add f g l; simp only [List.map_cons, glue] at *; omega
def s1 (r : Nat) : Nat := ((r / 2) &&& 85) + (r &&& 85)
def s2 (r : Nat) : Nat := ((r / 4) &&& 51) + (r &&& 51)
theorem s1_lt : ∀ r, r < 256 → s1 r < 256 := by decide +kernel
theorem s2_two : ∀ r, r < 256 → s2 (s1 r) % 16 ≤ 4 ∧ s2 (s1 r) / 16 ≤ 4 ∧ s2 (s1 r) % 16 + s2 (s1 r) / 16 = (List.range 8).countP (fun j => r.testBit j) := by decide +kernel
def bytes (m : Nat) : List Nat := [m % 256, m / 256 % 256, m / 65536 % 256, m / 16777216 % 256, m / 4294967296 % 256, m / 1099511627776 % 256, m / 281474976710656 % 256, m / 72057594037927936 % 256]
theorem glue_bytes (m : Nat) (h : m < 18446744073709551616) : glue (bytes m) = m := by
 simp only [glue, bytes]; omega
theorem bytes_lt (m : Nat) : ∀ r ∈ bytes m, r < 256 := by
 intro r hr
 simp only [bytes, List.mem_cons, List.not_mem_nil, or_false] at hr
 omega
def pairs (m : Nat) : Nat := ((m / 2) &&& 6148914691236517205) + (m &&& 6148914691236517205)
def fours (m : Nat) : Nat := ((m / 4) &&& 3689348814741910323) + (m &&& 3689348814741910323)
theorem pairs_eq (l : List Nat) (hl : l.length = 8) (h : ∀ r ∈ l, r < 256) : pairs (glue l) = glue (l.map s1) := by
 have e : (6148914691236517205 : Nat) = maskN 85 l.length := by rw [hl]; rfl
 unfold pairs
 rw [e, glue_and 85 (by omega) l h]
 have := glue_shift 85 1 (by omega) (by decide) l h
 rw [Nat.pow_one] at this
 rw [this, glue_add]
 rfl
theorem fours_eq (l : List Nat) (hl : l.length = 8) (h : ∀ r ∈ l, r < 256) : fours (glue l) = glue (l.map s2) := by
 have e : (3689348814741910323 : Nat) = maskN 51 l.length := by rw [hl]; rfl
 unfold fours
 rw [e, glue_and 51 (by omega) l h]
 have := glue_shift 51 2 (by omega) (by decide) l h
 rw [show (2 : Nat) ^ 2 = 4 from rfl] at this
 rw [this, glue_add]
 rfl
theorem and15 (u v : Nat) (hv : v < 16) (hu : u < 16) : (16 * u + v) &&& 15 = v := by
 have h : ∀ u, u < 16 → ∀ v, v < 16 → (16 * u + v) &&& 15 = v := by decide +kernel
 exact h u hu v hv
def eights (b : Nat) : Nat := ((b / 16 + b) % 18446744073709551616) &&& 1085102592571150095
theorem eights_eq (h0 h1 h2 h3 h4 h5 h6 h7 l0 l1 l2 l3 l4 l5 l6 l7 : Nat)
  (a0 : h0 ≤ 4) (a1 : h1 ≤ 4) (a2 : h2 ≤ 4) (a3 : h3 ≤ 4) (a4 : h4 ≤ 4) (a5 : h5 ≤ 4) (a6 : h6 ≤ 4) (a7 : h7 ≤ 4)
  (b0 : l0 ≤ 4) (b1 : l1 ≤ 4) (b2 : l2 ≤ 4) (b3 : l3 ≤ 4) (b4 : l4 ≤ 4) (b5 : l5 ≤ 4) (b6 : l6 ≤ 4) (b7 : l7 ≤ 4) :
  eights (glue [16 * h0 + l0, 16 * h1 + l1, 16 * h2 + l2, 16 * h3 + l3, 16 * h4 + l4, 16 * h5 + l5, 16 * h6 + l6, 16 * h7 + l7]) = glue [h0 + l0, h1 + l1, h2 + l2, h3 + l3, h4 + l4, h5 + l5, h6 + l6, h7 + l7] := by
 have e : (glue [16 * h0 + l0, 16 * h1 + l1, 16 * h2 + l2, 16 * h3 + l3, 16 * h4 + l4, 16 * h5 + l5, 16 * h6 + l6, 16 * h7 + l7] / 16 + glue [16 * h0 + l0, 16 * h1 + l1, 16 * h2 + l2, 16 * h3 + l3, 16 * h4 + l4, 16 * h5 + l5, 16 * h6 + l6, 16 * h7 + l7]) % 18446744073709551616
   = glue [16 * (h0 + l1) + (h0 + l0), 16 * (h1 + l2) + (h1 + l1), 16 * (h2 + l3) + (h2 + l2), 16 * (h3 + l4) + (h3 + l3), 16 * (h4 + l5) + (h4 + l4), 16 * (h5 + l6) + (h5 + l5), 16 * (h6 + l7) + (h6 + l6), 16 * h7 + (h7 + l7)] := by
  simp only [glue]; omega
 unfold eights
 rw [e]
 have e2 : (1085102592571150095 : Nat) = maskN 15 8 := rfl
 rw [e2, show (8 : Nat) = [16 * (h0 + l1) + (h0 + l0), 16 * (h1 + l2) + (h1 + l1), 16 * (h2 + l3) + (h2 + l2), 16 * (h3 + l4) + (h3 + l3), 16 * (h4 + l5) + (h4 + l4), 16 * (h5 + l6) + (h5 + l5), 16 * (h6 + l7) + (h6 + l6), 16 * h7 + (h7 + l7)].length from rfl, glue_and 15 (by omega)]
 ·simp only [List.map_cons, List.map_nil]
  rw [and15 _ _ (by omega) (by omega), and15 _ _ (by omega) (by omega), and15 _ _ (by omega) (by omega), and15 _ _ (by omega) (by omega), and15 _ _ (by omega) (by omega), and15 _ _ (by omega) (by omega), and15 _ _ (by omega) (by omega), and15 _ _ (by omega) (by omega)]
 ·intro r hr
  simp only [List.mem_cons, List.not_mem_nil, or_false] at hr
  omega
def tops (c : Nat) : Nat :=
 let d := (c + c / 256) % 18446744073709551616
 let e := (d + d / 65536) % 18446744073709551616
 ((e + e / 4294967296) % 18446744073709551616) % 128
theorem tops_eq (v0 v1 v2 v3 v4 v5 v6 v7 : Nat) (a0 : v0 ≤ 8) (a1 : v1 ≤ 8) (a2 : v2 ≤ 8) (a3 : v3 ≤ 8) (a4 : v4 ≤ 8) (a5 : v5 ≤ 8) (a6 : v6 ≤ 8) (a7 : v7 ≤ 8) :
  tops (glue [v0, v1, v2, v3, v4, v5, v6, v7]) = v0 + v1 + v2 + v3 + v4 + v5 + v6 + v7 := by
 have q1 : glue [v0, v1, v2, v3, v4, v5, v6, v7] / 256 = glue [v1, v2, v3, v4, v5, v6, v7] := by
  simp only [glue]; omega
 have e1 : (glue [v0, v1, v2, v3, v4, v5, v6, v7] + glue [v1, v2, v3, v4, v5, v6, v7]) % 18446744073709551616 = glue [v0 + v1, v1 + v2, v2 + v3, v3 + v4, v4 + v5, v5 + v6, v6 + v7, v7] := by
  rw [Nat.mod_eq_of_lt (by simp only [glue]; omega)]; simp only [glue]; omega
 have q2 : glue [v0 + v1, v1 + v2, v2 + v3, v3 + v4, v4 + v5, v5 + v6, v6 + v7, v7] / 65536 = glue [v2 + v3, v3 + v4, v4 + v5, v5 + v6, v6 + v7, v7] := by
  simp only [glue]; omega
 have e2 : (glue [v0 + v1, v1 + v2, v2 + v3, v3 + v4, v4 + v5, v5 + v6, v6 + v7, v7] + glue [v2 + v3, v3 + v4, v4 + v5, v5 + v6, v6 + v7, v7]) % 18446744073709551616 = glue [v0 + v1 + v2 + v3, v1 + v2 + v3 + v4, v2 + v3 + v4 + v5, v3 + v4 + v5 + v6, v4 + v5 + v6 + v7, v5 + v6 + v7, v6 + v7, v7] := by
  rw [Nat.mod_eq_of_lt (by simp only [glue]; omega)]; simp only [glue]; omega
 have q3 : glue [v0 + v1 + v2 + v3, v1 + v2 + v3 + v4, v2 + v3 + v4 + v5, v3 + v4 + v5 + v6, v4 + v5 + v6 + v7, v5 + v6 + v7, v6 + v7, v7] / 4294967296 = glue [v4 + v5 + v6 + v7, v5 + v6 + v7, v6 + v7, v7] := by
  simp only [glue]; omega
 have e3 : ((glue [v0 + v1 + v2 + v3, v1 + v2 + v3 + v4, v2 + v3 + v4 + v5, v3 + v4 + v5 + v6, v4 + v5 + v6 + v7, v5 + v6 + v7, v6 + v7, v7] + glue [v4 + v5 + v6 + v7, v5 + v6 + v7, v6 + v7, v7]) % 18446744073709551616) % 128 = v0 + v1 + v2 + v3 + v4 + v5 + v6 + v7 := by
  rw [Nat.mod_eq_of_lt (b := 18446744073709551616) (by clear q1 e1 q2 e2 q3; simp only [glue]; omega)]
  clear q1 e1 q2 e2 q3
  simp only [glue]
  omega
 unfold tops
 simp only [q1, e1, q2, e2, q3]
 exact e3
theorem countP_range64 (p : Nat → Bool) : (List.range 64).countP p = (List.range 8).countP (fun j => p j) + (List.range 8).countP (fun j => p (j + 8)) + (List.range 8).countP (fun j => p (j + 16)) + (List.range 8).countP (fun j => p (j + 24)) + (List.range 8).countP (fun j => p (j + 32)) + (List.range 8).countP (fun j => p (j + 40)) + (List.range 8).countP (fun j => p (j + 48)) + (List.range 8).countP (fun j => p (j + 56)) := by
 have e : List.range 64 = List.range 8 ++ (List.range 8).map (· + 8) ++ (List.range 8).map (· + 16) ++ (List.range 8).map (· + 24) ++ (List.range 8).map (· + 32) ++ (List.range 8).map (· + 40) ++ (List.range 8).map (· + 48) ++ (List.range 8).map (· + 56) := by decide
 rw [e]
 simp only [List.countP_append, List.countP_map]
 rfl
theorem byte_bits (m k : Nat) : (List.range 8).countP (fun j => m.testBit (j + k)) = (List.range 8).countP (fun j => (m / 2 ^ k % 256).testBit j) := by
 apply List.countP_congr
 intro j hj
 rw [List.mem_range] at hj
 rw [show (256 : Nat) = 2 ^ 8 from rfl, Nat.testBit_mod_two_pow, Nat.testBit_div_two_pow]
 simp [hj]
theorem popN_swar (m : Nat) (h : m < 18446744073709551616) : tops (eights (fours (pairs m))) = popN m := by
 have hp : popN m = (List.range 64).countP (fun j => m.testBit j) := by
  unfold popN pos; rw [List.countP_eq_length_filter]
 have e0 := byte_bits m 0
 have e1 := byte_bits m 8
 have e2 := byte_bits m 16
 have e3 := byte_bits m 24
 have e4 := byte_bits m 32
 have e5 := byte_bits m 40
 have e6 := byte_bits m 48
 have e7 := byte_bits m 56
 simp only [Nat.add_zero, Nat.pow_zero, Nat.div_one] at e0
 rw [show (2 : Nat) ^ 8 = 256 from rfl] at e1
 rw [show (2 : Nat) ^ 16 = 65536 from rfl] at e2
 rw [show (2 : Nat) ^ 24 = 16777216 from rfl] at e3
 rw [show (2 : Nat) ^ 32 = 4294967296 from rfl] at e4
 rw [show (2 : Nat) ^ 40 = 1099511627776 from rfl] at e5
 rw [show (2 : Nat) ^ 48 = 281474976710656 from rfl] at e6
 rw [show (2 : Nat) ^ 56 = 72057594037927936 from rfl] at e7
 rw [hp, countP_range64, e0, e1, e2, e3, e4, e5, e6, e7]
 have hg := glue_bytes m h
 rw [show pairs m = pairs (glue (bytes m)) by rw [hg], pairs_eq _ rfl (bytes_lt m), fours_eq _ (by simp [bytes]) (by
  intro r hr
  obtain ⟨x, hx, rfl⟩ := List.mem_map.1 hr
  exact s1_lt x (bytes_lt m x hx))]
 simp only [bytes, List.map_cons, List.map_nil]
 have q0 := s2_two (m % 256) (by omega)
 have q1 := s2_two (m / 256 % 256) (by omega)
 have q2 := s2_two (m / 65536 % 256) (by omega)
 have q3 := s2_two (m / 16777216 % 256) (by omega)
 have q4 := s2_two (m / 4294967296 % 256) (by omega)
 have q5 := s2_two (m / 1099511627776 % 256) (by omega)
 have q6 := s2_two (m / 281474976710656 % 256) (by omega)
 have q7 := s2_two (m / 72057594037927936 % 256) (by omega)
 have g : ∀ x : Nat, x = 16 * (x / 16) + x % 16 := fun x => by omega
 rw [g (s2 (s1 (m % 256))), g (s2 (s1 (m / 256 % 256))), g (s2 (s1 (m / 65536 % 256))), g (s2 (s1 (m / 16777216 % 256))), g (s2 (s1 (m / 4294967296 % 256))), g (s2 (s1 (m / 1099511627776 % 256))), g (s2 (s1 (m / 281474976710656 % 256))), g (s2 (s1 (m / 72057594037927936 % 256)))]
 rw [eights_eq _ _ _ _ _ _ _ _ _ _ _ _ _ _ _ _ q0.2.1 q1.2.1 q2.2.1 q3.2.1 q4.2.1 q5.2.1 q6.2.1 q7.2.1 q0.1 q1.1 q2.1 q3.1 q4.1 q5.1 q6.1 q7.1,
  tops_eq _ _ _ _ _ _ _ _ (by omega) (by omega) (by omega) (by omega) (by omega) (by omega) (by omega) (by omega)]
 omega
theorem wrapN (x : Nat) : IntKind.u64.wrap (x : Int) = ((x % 18446744073709551616 : Nat) : Int) := by
 rw [IntKind.wrap_u64]; omega
theorem andN (x y : Nat) (hx : x < 18446744073709551616) (hy : y < 18446744073709551616) : Go.bits .and .u64 (x : Int) (y : Int) = ((x &&& y : Nat) : Int) := bits_and_u64_nat x y hx hy
theorem and_le (x y : Nat) : x &&& y ≤ y := Nat.and_le_right
end Go.Proofs.Ytckhjehibjdjdaa.Bits
namespace Go.Proofs.Ytckhjehibjdjdaa.P
open Go.RowKit Go.Shelf Go.Proofs.YtckhjehibjdjdaaW.PrintWords Go.Proofs.YtckhjehibjdjdaaW.PrintLast Go.Proofs.YtckhjehibjdjdaaW.PrintMore
open Go.Proofs.Ytckhjehibjdjdaa.Bits Go.Proofs.Ytckhjehibjdjdaa.RF
attribute [local go_sem] max2_int min2_int max_two min_two max_three min_three max_four min_four
attribute [local go_sem] Oper.semAt_some
set_option linter.unusedVariables false
set_option linter.unusedSimpArgs false
theorem and127 (x : Nat) (h : x < 18446744073709551616) : Go.bits .and .i64 (wrap64 (x : Int)) 127 = ((x % 128 : Nat) : Int) := by
 have h1 : (BitVec.ofInt 64 (wrap64 (x : Int))).toNat = x := by
  rw [BitVec.toNat_ofInt]
  unfold wrap64
  omega
 have h2 : (BitVec.ofInt 64 (127 : Int)).toNat = 127 := by decide
 show IntKind.i64.wrap ((BitVec.ofInt 64 (wrap64 (x : Int)) &&& BitVec.ofInt 64 (127 : Int)).toNat : Int) = _
 rw [BitVec.toNat_and, h1, h2, show (127 : Nat) = 2 ^ 7 - 1 from rfl, Nat.and_two_pow_sub_one_eq_mod, IntKind.wrap_i64]
 omega
theorem ones_int (m : Nat) (hm : m < 18446744073709551616) (a b c d e f : Int)
  (ha : a = IntKind.u64.wrap (Go.bits .and .u64 ((m : Int) / 2) 6148914691236517205 + Go.bits .and .u64 (m : Int) 6148914691236517205))
  (hb : b = IntKind.u64.wrap (Go.bits .and .u64 (a / 4) 3689348814741910323 + Go.bits .and .u64 a 3689348814741910323))
  (hc : c = Go.bits .and .u64 (IntKind.u64.wrap (b / 16 + b)) 1085102592571150095)
  (hd : d = IntKind.u64.wrap (c + c / 256)) (he : e = IntKind.u64.wrap (d + d / 65536)) (hf : f = IntKind.u64.wrap (e + e / 4294967296)) :
  Go.bits .and .i64 (wrap64 f) 127 = popI (m : Int) := by
 have A : a = ((pairs m : Nat) : Int) := by
  rw [ha, show (m : Int) / 2 = ((m / 2 : Nat) : Int) by omega, show (6148914691236517205 : Int) = ((6148914691236517205 : Nat) : Int) from rfl, andN _ _ (by omega) (by omega), andN _ _ hm (by omega), ← Int.natCast_add, wrapN]
  have := and_le (m / 2) 6148914691236517205
  have := and_le m 6148914691236517205
  unfold pairs
  omega
 have pl : pairs m < 18446744073709551616 := by
  have := and_le (m / 2) 6148914691236517205
  have := and_le m 6148914691236517205
  unfold pairs
  omega
 have B : b = ((fours (pairs m) : Nat) : Int) := by
  rw [hb, A, show ((pairs m : Nat) : Int) / 4 = ((pairs m / 4 : Nat) : Int) by omega, show (3689348814741910323 : Int) = ((3689348814741910323 : Nat) : Int) from rfl, andN _ _ (by omega) (by omega), andN _ _ pl (by omega), ← Int.natCast_add, wrapN]
  have := and_le (pairs m / 4) 3689348814741910323
  have := and_le (pairs m) 3689348814741910323
  unfold fours
  omega
 have C : c = ((eights (fours (pairs m)) : Nat) : Int) := by
  rw [hc, B, show ((fours (pairs m) : Nat) : Int) / 16 + ((fours (pairs m) : Nat) : Int) = ((fours (pairs m) / 16 + fours (pairs m) : Nat) : Int) by omega, wrapN, show (1085102592571150095 : Int) = ((1085102592571150095 : Nat) : Int) from rfl, andN _ _ (by omega) (by omega)]
  rfl
 generalize hx : eights (fours (pairs m)) = x at C
 have D : d = (((x + x / 256) % 18446744073709551616 : Nat) : Int) := by
  rw [hd, C, show (x : Int) + (x : Int) / 256 = ((x + x / 256 : Nat) : Int) by omega, wrapN]
 generalize hy : (x + x / 256) % 18446744073709551616 = y at D
 have E : e = (((y + y / 65536) % 18446744073709551616 : Nat) : Int) := by
  rw [he, D, show (y : Int) + (y : Int) / 65536 = ((y + y / 65536 : Nat) : Int) by omega, wrapN]
 generalize hz : (y + y / 65536) % 18446744073709551616 = z at E
 have F : f = (((z + z / 4294967296) % 18446744073709551616 : Nat) : Int) := by
  rw [hf, E, show (z : Int) + (z : Int) / 4294967296 = ((z + z / 4294967296 : Nat) : Int) by omega, wrapN]
 rw [F, and127 _ (by omega)]
 unfold popI
 rw [Int.toNat_natCast, ← popN_swar m hm, hx]
 unfold tops
 simp only [hy, hz]
set_option maxHeartbeats 2000000 in
set_option maxRecDepth 100000 in
theorem ones_any (m : Nat) (hm : m < 2 ^ 64) (w : World) : Calls Try.prog 105 #[.int .u64 (m : Int)] w fun e w' => e = .returned (.int .i64 (popI (m : Int))) ∧ w' = w := by
 have hu49 := Try.underlying49
 have H := fun v (h : v = popI (m : Int)) => (congrArg (fun v => Ending.returned (.int .i64 v)) h)
 go_enter Try.func105, Try.ntmps105
 go_wp2
 go_ret
 refine ⟨H _ (ones_int m hm _ _ _ _ _ _ rfl rfl rfl rfl rfl rfl), rfl⟩
theorem count_any (m : Int) (h0 : 0 ≤ m) (h1 : m < 18446744073709551616) (w : World) : Calls Try.prog 75 #[.int .u64 m] w fun e w' => e = .returned (.int .i64 (popI m)) ∧ w' = w := by
 have hu49 := Try.underlying49
 obtain ⟨m, rfl⟩ := Int.eq_ofNat_of_zero_le h0
 have H := Aside0.mk (fun w => ones_any m (by omega) w)
 clear h0 h1
 go_enter Try.func75, Try.ntmps75
 go_wp2_with (go_at_call 105; refine (H.out _).mono ?_; rintro e w' ⟨rfl, rfl⟩)
 go_ret
 exact ⟨rfl, rfl⟩
end Go.Proofs.Ytckhjehibjdjdaa.P
namespace Go.Proofs.Ytckhjehibjdjdaa.P
open Go.RowKit Go.Shelf Go.Proofs.YtckhjehibjdjdaaW.PrintWords Go.Proofs.YtckhjehibjdjdaaW.PrintLast Go.Proofs.YtckhjehibjdjdaaW.PrintMore
open Go.Proofs.Ytckhjehibjdjdaa.Bits
attribute [local go_sem] max2_int min2_int max_two min_two max_three min_three max_four min_four
attribute [local go_sem] Oper.semAt_some
set_option linter.unusedVariables false
set_option linter.unusedSimpArgs false
def goodShape (g c mn mx : Int) : Bool := decide (0 ≤ g) && decide (g ≤ 16) && decide (0 ≤ c) && decide (c ≤ 1024) && decide (1 ≤ mn) && decide (mn ≤ mx) && decide (1 ≤ mx) && decide (mx ≤ 16) && !(decide (g = 0) && decide (c = 0))
def shape_Check.f (a0_0 : Int) (a0_1 : Int) (a0_2 : Int) (a0_3 : Int) : Option (Int) := some (if goodShape a0_0 a0_1 a0_2 a0_3 = true then 0 else 1)
theorem ret_i64 {a b : Int} (h : a = b) : Ending.returned (.int .i64 a) = .returned (.int .i64 b) := by rw [h]
set_option maxHeartbeats 8000000 in
set_option maxRecDepth 100000 in
theorem shape_Check.calls (a0_0 : Int) (a0_1 : Int) (a0_2 : Int) (a0_3 : Int) (r : Int) (w : World)  (h : shape_Check.f a0_0 a0_1 a0_2 a0_3 = some r) :
  Calls Try.prog 83 #[.agg #[.int .i64 a0_0, .int .i64 a0_1, .int .i64 a0_2, .int .i64 a0_3]] w fun e w' => e = .returned (.int .i64 r) ∧ Below w.heap.size w w' := by
 have H := Aside0.mk h
 clear h
 have hu27 := Try.underlying27
 have hu154 := Try.underlying154
 have hu155 := Try.underlying155
 have i0 : ∀ (W : World) (x0 x1 x2 x3 x4 x5 x6 x7 x8 x9 x10 x11 : Value), (Instr.index 155 (.agg #[x0, x1, x2, x3, x4, x5, x6, x7, x8, x9, x10, x11]) (.int .i64 0)).run Try.prog W = .ok (.agg #[x0, x1, x2]) W := fun _ _ _ _ _ _ _ _ _ _ _ _ _ => by kernel_rfl
 have i1 : ∀ (W : World) (x0 x1 x2 x3 x4 x5 x6 x7 x8 x9 x10 x11 : Value), (Instr.index 155 (.agg #[x0, x1, x2, x3, x4, x5, x6, x7, x8, x9, x10, x11]) (.int .i64 1)).run Try.prog W = .ok (.agg #[x3, x4, x5]) W := fun _ _ _ _ _ _ _ _ _ _ _ _ _ => by kernel_rfl
 have i2 : ∀ (W : World) (x0 x1 x2 x3 x4 x5 x6 x7 x8 x9 x10 x11 : Value), (Instr.index 155 (.agg #[x0, x1, x2, x3, x4, x5, x6, x7, x8, x9, x10, x11]) (.int .i64 2)).run Try.prog W = .ok (.agg #[x6, x7, x8]) W := fun _ _ _ _ _ _ _ _ _ _ _ _ _ => by kernel_rfl
 have i3 : ∀ (W : World) (x0 x1 x2 x3 x4 x5 x6 x7 x8 x9 x10 x11 : Value), (Instr.index 155 (.agg #[x0, x1, x2, x3, x4, x5, x6, x7, x8, x9, x10, x11]) (.int .i64 3)).run Try.prog W = .ok (.agg #[x9, x10, x11]) W := fun _ _ _ _ _ _ _ _ _ _ _ _ _ => by kernel_rfl
 go_enter Try.func83, Try.ntmps83
 go_wp2
 refine wp_loop_rounds 5 ?_
 rw [rounds_succ]
 go_wp2
 all_goals (try (rw [rounds_succ]; go_wp2))
 all_goals (try (rw [rounds_succ]; go_wp2))
 all_goals (try (rw [rounds_succ]; go_wp2))
 all_goals (try (rw [rounds_succ]; go_wp2))
 all_goals go_ret
 all_goals
  have h := H.out
  try simp only [beq_iff_eq, beq_eq_false_iff_ne, ne_eq] at *
  unfold shape_Check.f at h
  first
  | (rw [if_pos (by simp [goodShape]; omega)] at h; exact ⟨ret_i64 (Option.some.inj h), by repeat (first | exact Below.refl _ _ | apply below_alloc | refine below_set ?_ (by simp; omega))⟩)
  | (rw [if_neg (by simp [goodShape]; omega)] at h; exact ⟨ret_i64 (Option.some.inj h), by repeat (first | exact Below.refl _ _ | apply below_alloc | refine below_set ?_ (by simp; omega))⟩)
def eachI (have_ need : Int) : Int := if need = 0 then 16 else have_ / need
set_option maxHeartbeats 4000000 in
set_option maxRecDepth 100000 in
theorem each_any (a b : Int) (ha0 : 0 ≤ a) (ha : a ≤ 9223372036854775807) (hb : 0 ≤ b) (w : World) : Calls Try.prog 112 #[.int .i64 a, .int .i64 b] w fun e w' => e = .returned (.int .i64 (eachI a b)) ∧ w' = w := by
 have hu3 := Try.underlying3
 by_cases h0 : b = 0
 ·have b1 : (b == 0) = true := by simpa using h0
  have e : eachI a b = 16 := by rw [eachI, if_pos h0]
  rw [e]
  clear h0 e
  go_enter Try.func112, Try.ntmps112
  go_wp2
  all_goals go_ret
  all_goals exact ⟨rfl, rfl⟩
 ·have b1 : (b == 0) = false := by simpa using h0
  have e : eachI a b = a / b := by rw [eachI, if_neg h0]
  rw [e]
  have hne := h0
  clear e
  go_enter Try.func112, Try.ntmps112
  go_wp2
  all_goals go_ret
  all_goals exact ⟨rfl, rfl⟩
set_option maxHeartbeats 4000000 in
set_option maxRecDepth 100000 in
theorem least3 (b : Nat) (x y z : Int) (w : World) (h : w.heap[b]? = some (.cells #[.int .i64 x, .int .i64 y, .int .i64 z] 3 (0, 0))) :
  Calls Try.prog 113 #[.slice (some ⟨b, 0, none⟩) 3 3] w fun e w' => e = .returned (.int .i64 (min (min x y) z)) ∧ w' = w := by
 have hu3 := Try.underlying3
 have hu71 := Try.underlying71
 have c0 : w.cell? ⟨b, 0, none⟩ = some (.int .i64 x) := (blk_cell h 0).trans rfl
 have c1 : w.cell? ⟨b, 1, none⟩ = some (.int .i64 y) := (blk_cell h 1).trans rfl
 have c2 : w.cell? ⟨b, 2, none⟩ = some (.int .i64 z) := (blk_cell h 2).trans rfl
 clear h
 go_enter Try.func113, Try.ntmps113
 go_wp2
 refine wp_loop_rounds 3 ?_
 rw [rounds_succ]
 go_wp2
 all_goals (try (rw [rounds_succ]; go_wp2))
 all_goals (try (rw [rounds_succ]; go_wp2))
 all_goals go_ret
 all_goals exact ⟨ret_i64 (by omega), rfl⟩
def fitN (g c m cpus : Int) : Int := min 16 (min (eachI (popI m) g) (eachI cpus c))
def fitV (g c mn mx m cpus : Int) : Int := if goodShape g c mn mx = true ∧ 0 ≤ cpus then fitN g c m cpus else 0
def shape_Fits.f (a0_0 : Int) (a0_1 : Int) (a0_2 : Int) (a0_3 : Int) (a1_0 : Int) (a1_1 : Int) (a1_2 : Int) (a1_3 : Int) : Option (Int) :=
 if 0 ≤ a1_2 ∧ a1_2 < 18446744073709551616 ∧ a1_3 ≤ 9223372036854775807 then some (fitV a0_0 a0_1 a0_2 a0_3 a1_2 a1_3) else none
theorem popN_le (m : Nat) : popN m ≤ 64 := by
 unfold popN pos
 have := List.length_filter_le (fun i => m.testBit i) (List.range 64)
 simpa using this
theorem popI_bd (m : Int) : 0 ≤ popI m ∧ popI m ≤ 64 := by
 have := popN_le m.toNat
 unfold popI; omega
set_option maxHeartbeats 8000000 in
set_option maxRecDepth 100000 in
theorem fits_any (a0_0 : Int) (a0_1 : Int) (a0_2 : Int) (a0_3 : Int) (a1_0 : Int) (a1_1 : Int) (a1_2 : Int) (a1_3 : Int) (w : World) (hm0 : 0 ≤ a1_2) (hm1 : a1_2 < 18446744073709551616) (hc1 : a1_3 ≤ 9223372036854775807) :
  Calls Try.prog 87 #[.agg #[.int .i64 a0_0, .int .i64 a0_1, .int .i64 a0_2, .int .i64 a0_3], .agg #[.int .i64 a1_0, .int .i64 a1_1, .int .u64 a1_2, .int .i64 a1_3]] w fun e w' => e = .returned (.int .i64 (fitV a0_0 a0_1 a0_2 a0_3 a1_2 a1_3)) ∧ Below w.heap.size w w' := by
 have hu27 := Try.underlying27
 have hu51 := Try.underlying51
 have HM := Aside0.mk (And.intro hm0 hm1)
 have HC := Aside0.mk hc1
 clear hm0 hm1 hc1
 have hck := fun w => shape_Check.calls a0_0 a0_1 a0_2 a0_3 _ w rfl
 by_cases hg : goodShape a0_0 a0_1 a0_2 a0_3 = true
 ·rw [if_pos hg] at hck
  have hg' := hg
  simp only [goodShape, Bool.and_eq_true, decide_eq_true_eq] at hg'
  have HG := Aside0.mk (And.intro (show 0 ≤ a0_0 by omega) (show 0 ≤ a0_1 by omega))
  have HK := Aside0.mk hck
  clear hck hg'
  by_cases hcp : a1_3 < 0
  ·have HN : fitV a0_0 a0_1 a0_2 a0_3 a1_2 a1_3 = 0 := by unfold fitV; rw [if_neg (by omega)]
   rw [HN]
   clear HN hg
   go_enter Try.func87, Try.ntmps87
   go_wp2_with (first | ((with_reducible refine gate_dst (N := 2) rfl ?_); refine bx 2 #[.int .i64 a0_0, .int .i64 a0_1, .int .i64 a0_2, .int .i64 a0_3] 27 ?_; intro g2 hg2 w2 hx2 hb2; have HB2 := Aside0.mk hb2; clear hb2 hg2) | ((with_reducible refine gate_dst (N := 3) rfl ?_); refine bx 3 #[.int .i64 a1_0, .int .i64 a1_1, .int .u64 a1_2, .int .i64 a1_3] 51 ?_; intro g3 hg3 w3 hx3 hb3; replace hx2 := blk_below hx2 hb3; have HB3 := Aside0.mk (below_step HB2.out hb3); clear hb3 hg3; have e0 := (blk_cell hx2 0).trans rfl; have e1 := (blk_cell hx2 1).trans rfl; have e2 := (blk_cell hx2 2).trans rfl; have e3 := (blk_cell hx2 3).trans rfl) | (go_at_call 83; refine (HK.out _).mono ?_; rintro e w4 ⟨rfl, hb⟩; clear e0 e1 e2 e3; replace hx2 := blk_below hx2 hb; replace hx3 := blk_below hx3 hb; have HB4 := Aside0.mk (below_step HB3.out hb); clear hb; have f0 := (blk_cell hx2 0).trans rfl; have f1 := (blk_cell hx2 1).trans rfl; have f2 := (blk_cell hx3 2).trans rfl; have f3 := (blk_cell hx3 3).trans rfl))
   all_goals go_ret
   all_goals exact ⟨rfl, HB4.out⟩
  ·have HN : fitV a0_0 a0_1 a0_2 a0_3 a1_2 a1_3 = fitN a0_0 a0_1 a1_2 a1_3 := by unfold fitV; rw [if_pos ⟨hg, by omega⟩]
   rw [HN]
   clear HN hg
   have H0 : 0 ≤ a1_3 := by omega
   have E1 := Aside0.mk (fun w => each_any (popI a1_2) a0_0 (popI_bd a1_2).1 (by have := (popI_bd a1_2).2; omega) HG.out.1 w)
   have E2 := Aside0.mk (fun w => each_any a1_3 a0_1 H0 HC.out HG.out.2 w)
   clear H0
   go_enter Try.func87, Try.ntmps87
   go_wp2_with (first | ((with_reducible refine gate_dst (N := 2) rfl ?_); refine bx 2 #[.int .i64 a0_0, .int .i64 a0_1, .int .i64 a0_2, .int .i64 a0_3] 27 ?_; intro g2 hg2 w2 hx2 hb2; have HB2 := Aside0.mk hb2; clear hb2 hg2) | ((with_reducible refine gate_dst (N := 3) rfl ?_); refine bx 3 #[.int .i64 a1_0, .int .i64 a1_1, .int .u64 a1_2, .int .i64 a1_3] 51 ?_; intro g3 hg3 w3 hx3 hb3; replace hx2 := blk_below hx2 hb3; have HB3 := Aside0.mk (below_step HB2.out hb3); clear hb3 hg3; have e0 := (blk_cell hx2 0).trans rfl; have e1 := (blk_cell hx2 1).trans rfl; have e2 := (blk_cell hx2 2).trans rfl; have e3 := (blk_cell hx2 3).trans rfl) | (go_at_call 83; refine (HK.out _).mono ?_; rintro e w4 ⟨rfl, hb⟩; clear e0 e1 e2 e3; replace hx2 := blk_below hx2 hb; replace hx3 := blk_below hx3 hb; have HB4 := Aside0.mk (below_step HB3.out hb); clear hb; have f0 := (blk_cell hx2 0).trans rfl; have f1 := (blk_cell hx2 1).trans rfl; have f2 := (blk_cell hx3 2).trans rfl; have f3 := (blk_cell hx3 3).trans rfl))
   go_still_tail 13, (by kernel_rfl)
   still_call ((count_any _ HM.out.1 HM.out.2 _))
   repeat still_step
   still_call (E1.out _)
   repeat still_step
   still_call (E2.out _)
   refine wpStill_nil ?_
   change wpList _ _ _ _ _ w4.drew
   replace HB4 := Aside0.mk (below_drew1 HB4.out)
   clear f0 f1 f2 f3 hx2 hx3
   generalize w4.drew = w5 at *
   have hL := Aside0.mk (least3 w5.heap.size 16 (eachI (popI a1_2) a0_0) (eachI a1_3 a0_1) _ (heap_alloc_new w5 _))
   go_wp2_with (go_at_call 113; refine hL.out.mono ?_; rintro e w6 ⟨rfl, rfl⟩)
   go_ret
   exact ⟨rfl, below_alloc HB4.out _⟩
 ·rw [if_neg hg] at hck
  have HN : fitV a0_0 a0_1 a0_2 a0_3 a1_2 a1_3 = 0 := by unfold fitV; rw [if_neg (fun h => hg h.1)]
  rw [HN]
  have HK := Aside0.mk hck
  clear hck hg HN
  go_enter Try.func87, Try.ntmps87
  go_wp2_with (first | ((with_reducible refine gate_dst (N := 2) rfl ?_); refine bx 2 #[.int .i64 a0_0, .int .i64 a0_1, .int .i64 a0_2, .int .i64 a0_3] 27 ?_; intro g2 hg2 w2 hx2 hb2; have HB2 := Aside0.mk hb2; clear hb2 hg2) | ((with_reducible refine gate_dst (N := 3) rfl ?_); refine bx 3 #[.int .i64 a1_0, .int .i64 a1_1, .int .u64 a1_2, .int .i64 a1_3] 51 ?_; intro g3 hg3 w3 hx3 hb3; replace hx2 := blk_below hx2 hb3; have HB3 := Aside0.mk (below_step HB2.out hb3); clear hb3 hg3; have e0 := (blk_cell hx2 0).trans rfl; have e1 := (blk_cell hx2 1).trans rfl; have e2 := (blk_cell hx2 2).trans rfl; have e3 := (blk_cell hx2 3).trans rfl) | (go_at_call 83; refine (HK.out _).mono ?_; rintro e w4 ⟨rfl, hb⟩; clear e0 e1 e2 e3; replace hx2 := blk_below hx2 hb; replace hx3 := blk_below hx3 hb; have HB4 := Aside0.mk (below_step HB3.out hb); clear hb; have f0 := (blk_cell hx2 0).trans rfl; have f1 := (blk_cell hx2 1).trans rfl; have f2 := (blk_cell hx3 2).trans rfl; have f3 := (blk_cell hx3 3).trans rfl))
  all_goals go_ret
  all_goals exact ⟨rfl, HB4.out⟩
theorem shape_Fits.calls (a0_0 : Int) (a0_1 : Int) (a0_2 : Int) (a0_3 : Int) (a1_0 : Int) (a1_1 : Int) (a1_2 : Int) (a1_3 : Int) (r : Int) (w : World) (h : shape_Fits.f a0_0 a0_1 a0_2 a0_3 a1_0 a1_1 a1_2 a1_3 = some r) :
  Calls Try.prog 87 #[.agg #[.int .i64 a0_0, .int .i64 a0_1, .int .i64 a0_2, .int .i64 a0_3], .agg #[.int .i64 a1_0, .int .i64 a1_1, .int .u64 a1_2, .int .i64 a1_3]] w fun e w' => e = .returned (.int .i64 r) ∧ Below w.heap.size w w' := by
 unfold shape_Fits.f at h
 split at h
 ·rename_i hh
  obtain rfl := Option.some.inj h
  exact fits_any a0_0 a0_1 a0_2 a0_3 a1_0 a1_1 a1_2 a1_3 w hh.1 hh.2.1 hh.2.2
 ·cases h
end Go.Proofs.Ytckhjehibjdjdaa.P
namespace Go.Proofs.Ytckhjehibjdjdaa.P
open Go.RowKit Go.Shelf Go.Proofs.YtckhjehibjdjdaaW.PrintWords Go.Proofs.YtckhjehibjdjdaaW.PrintLast Go.Proofs.YtckhjehibjdjdaaW.PrintMore
attribute [local go_sem] Oper.semAt_some
set_option linter.unusedVariables false
set_option linter.unusedSimpArgs false
set_option maxHeartbeats 4000000 in
set_option maxRecDepth 100000 in
theorem clone84_any (A0 : Option Addr) (c0 : Nat) (l0 : List S51) (w : World) (hr0 : Kd.C k51 w A0 l0.length l0) (hc0 : l0.length ≤ c0) (hl : l0.length < 4398046511104) :
  Calls Try.prog 84 #[.slice A0 l0.length c0] w fun e w' => ∃ v0_ : Value, e = .returned v0_ ∧ Kd.R k51 51 w' w.heap.size (fun _ => True) v0_ l0 ∧ Below w.heap.size w w' := by
 have hu22 := Try.underlying22
 have q22 : ∀ (w : World) (a : Option Addr) (n c n' c' : Nat), (binOp .eql 22 (.slice a n c) (.slice none n' c')).run Try.prog w = .ok (.bool a.isNone) w := fun w a n c n' c' => Lib.run_eql_slice_nil w _ _ a n c n' c' Try.underlying22
 have HR := Aside0.mk hr0
 have HL := Aside0.mk hl
 cases A0 with
 | none =>
  have h0 : l0 = [] := by
   rcases Nat.eq_zero_or_pos l0.length with h | h
   ·exact List.eq_nil_of_length_eq_zero h
   ·obtain ⟨ad, hA, _⟩ := hr0.2.2 h
    cases hA
  subst h0
  clear hr0 hl
  go_enter Try.func84, Try.ntmps84
  go_wp2
  all_goals go_ret
  all_goals exact ⟨_, rfl, Kd.R_nil _ _ _ _ _, Below.refl _ _⟩
 | some ad =>
  clear hr0 hl
  go_enter Try.func84, Try.ntmps84
  go_wp2_with (first | ((with_reducible refine gate_dst (N := 5) rfl ?_); refine Kd.R_lit k51 _ 51 ?hg (N := 5) ?hd (xs := ([] : List (S51))) (inner := []) (ok := fun _ => True) (okp := fun _ => True) ?hr ?hp (fun _ hk => hk) trivial (Below.refl _ _) (Nat.le_refl _) (by simp) ?_; (case hd => rfl); (case hg => rfl); (case hr => first | (go_simp; done) | (go_simp; rfl)); (case hp => exact (Reps.none _ _)); intro v5 w5 ho5 hb hg_ hnew_; have HO5 := Aside0.mk ho5; have HB5 := Aside0.mk hb; clear hg_ hnew_ ho5 hb) | (refine Kd.R_append_rows k51 (w0 := w) w.heap.size rfl (.tmp 5) (.tmp 6) 22 51 (.agg #[(.int .i64 0), (.int .i64 0), (.int .u64 0), (.int .i64 0)]) 32 rfl Try.underlying22 info51 rfl (by decide) (by omega) v5 [] l0 _ _ _ (fun _ => True) (fun _ => False) rfl rfl HO5.out (Kd.C_below HR.out HB5.out) (fun _ _ h => h) (fun _ h => h.elim) (fun _ _ => trivial) HB5.out (below_size HB5.out) (by have := HL.out; simp; omega) ?_; intro v7 w7 ho hb hg hat; have HO7 := Aside0.mk ho; have HB7 := Aside0.mk hb; clear ho hb hg hat))
  all_goals go_ret
  all_goals exact ⟨_, rfl, HO7.out, HB7.out⟩
end Go.Proofs.Ytckhjehibjdjdaa.P
namespace Go.Proofs.Ytckhjehibjdjdaa.P
open Go.RowKit Go.Maps Go.WideMaps Go.Proofs.Ytckhjehibjdjdaa.Mp
set_option linter.unusedVariables false
set_option linter.unusedSimpArgs false
theorem key48 : PairKey Try.prog 48 := by
 refine ⟨Keyed.of_law (deep_law (m := 3) (by omega) (by kernel_rfl) (by kernel_rfl) (by rw [Try.underlying48])), ?_⟩
 intro a b ha hb
 have hs : ∃ m, Try.prog.types.size = m + 1 := ⟨Try.prog.types.size - 1, by kernel_rfl⟩
 obtain ⟨m, hm⟩ := hs
 have hkt : Try.prog.keyType 48 = true := by kernel_rfl
 have u3 := Try.underlying3
 have c48 : Try.prog.cellsOf 48 = 2 := by kernel_rfl
 have c3 : Try.prog.cellsOf 3 = 1 := by kernel_rfl
 have ha' : (Lit.int .i64 a).wf = true := ha
 have hb' : (Lit.int .i64 b).wf = true := hb
 have hf : (Value.agg #[.int .i64 a, .int .i64 b]).formed Try.prog 48 = true := by
  simp [Value.formed, Try.underlying48, c48]
 unfold keyOf
 simp only [Try.underlying48, hkt, hf, Bool.true_and, if_true, Bool.and_self]
 rw [hm]
 simp [Program.keyLits, Try.underlying48, Value.cells, u3, ha', hb', c48, c3, skey]
end Go.Proofs.Ytckhjehibjdjdaa.P
namespace Go.Proofs.Ytckhjehibjdjdaa.P
open Go.RowKit Go.Shelf Go.Proofs.YtckhjehibjdjdaaW.PrintWords Go.Proofs.YtckhjehibjdjdaaW.PrintLast Go.Proofs.YtckhjehibjdjdaaW.PrintMore
attribute [local go_sem] Oper.semAt_some
set_option linter.unusedVariables false
set_option linter.unusedSimpArgs false
def moreE (f : S51) (s : S52) : Int := if Go.bits .and .u64 s.f1 f.f1 ≠ 0 then 4 else if s.f2 > wrap64 (1048576 - f.f2) then 14 else 0
def moreF (f : S51) (s : S52) : S51 := ⟨f.f0, Go.bits .or .u64 f.f1 s.f1, wrap64 (f.f2 + s.f2)⟩
def lessE (f : S51) (s : S52) : Int := if Go.bits .andNot .u64 s.f1 f.f1 ≠ 0 then 5 else if s.f2 > f.f2 then 5 else 0
def lessF (f : S51) (s : S52) : S51 := ⟨f.f0, Go.bits .andNot .u64 f.f1 s.f1, wrap64 (f.f2 - s.f2)⟩
def putF (cur : Array Value) (o : Nat) (f : S51) : Array Value := (cur.setIfInBounds (o + 2) (.int .u64 f.f1)).setIfInBounds (o + 3) (.int .i64 f.f2)
theorem grown_set {w W : World} {g j : Nat} {v : Value} (h : w.grownBy W (some g)) : w.grownBy (W.setCell ⟨g, j, none⟩ v) (some g) :=
 ⟨h.os, h.tape, h.output, by simpa using h.size, fun k hk hne => (Below.heap_setCell W _ v k (fun e => hne (by rw [e]))).trans (h.block k hk hne)⟩
theorem grown_drew {w W : World} {g : Nat} (h : w.grownBy W (some g)) : w.grownBy W.drew (some g) := ⟨h.os, h.tape, h.output, h.size, h.block⟩
theorem grown_of_below {w W : World} {g : Nat} (h : Below w.heap.size w W) : w.grownBy W (some g) := ⟨h.os, h.tape, h.output, h.size, fun k hk _ => h.block k hk⟩
set_option maxHeartbeats 8000000 in
set_option maxRecDepth 100000 in
theorem more1_any (g o : Nat) (cur : Array Value) (f : S51) (s : S52) (w : World) (hb : w.heap[g]? = some (.cells cur 51 (0, 0))) (h2 : cur[o + 2]? = some (.int .u64 f.f1)) (h3 : cur[o + 3]? = some (.int .i64 f.f2)) :
  Calls Try.prog 92 #[.pointer (some ⟨g, o, none⟩), .agg #[.int .i64 s.f0.f0, .int .i64 s.f0.f1, .int .u64 s.f1, .int .i64 s.f2]] w fun e w' => e = .returned (.int .i64 (moreE f s)) ∧ w.grownBy w' (some g) ∧ w'.heap[g]? = some (.cells (if moreE f s = 0 then putF cur o (moreF f s) else cur) 51 (0, 0)) := by
 have hu52 := Try.underlying52
 have hu51 := Try.underlying51
 have hu49 := Try.underlying49
 obtain ⟨⟨n0, n1⟩, m, c⟩ := f
 obtain ⟨⟨s0, s1⟩, sm, sc⟩ := s
 simp only at h2 h3
 have hlt : g < w.heap.size := (Array.getElem?_eq_some_iff.1 hb).1
 have HB := Aside0.mk hb
 have H2 := Aside0.mk h2
 have H3 := Aside0.mk h3
 clear hb h2 h3
 by_cases q1 : Go.bits .and .u64 sm m = 0
 ·have b1 : (Go.bits .and .u64 sm m != 0) = false := by simpa using q1
  by_cases q2 : sc > wrap64 (1048576 - c)
  ·have b2 : decide (wrap64 (1048576 - c) < sc) = true := by simpa using q2
   have HE : moreE ⟨⟨n0, n1⟩, m, c⟩ ⟨⟨s0, s1⟩, sm, sc⟩ = 14 := by simp only [moreE]; rw [if_neg (by simpa using q1), if_pos q2]
   rw [HE, if_neg (by decide)]
   go_enter Try.func92, Try.ntmps92
   go_wp2_with (first | ((with_reducible refine gate_dst (N := 3) rfl ?_); refine bx 3 #[.int .i64 s0, .int .i64 s1, .int .u64 sm, .int .i64 sc] 52 ?_; intro g3 hg3 w3 hx3 hb3; have hne : g ≠ g3 := (by omega); have HB3 := Aside0.mk hb3; have hbk := hb3.block g hlt; rw [HB.out] at hbk; have HX := Aside0.mk hbk; have f1 : w3.cell? ⟨g3, 2, none⟩ = some (.int .u64 sm) := (blk_cell hx3 2).trans rfl; have f2 : w3.cell? ⟨g3, 3, none⟩ = some (.int .i64 sc) := (blk_cell hx3 3).trans rfl; have k2 := (blk_cell hbk (o + 2)).trans H2.out; have k3 := (blk_cell hbk (o + 3)).trans H3.out; have z2 := blk_frozen hbk (o + 2); have z3 := blk_frozen hbk (o + 3); clear hg3 hb3 hbk))
   go_quiet (fail)
   go_wp2
   go_quiet (fail)
   go_wp2
   go_ret
   exact ⟨rfl, grown_of_below (by repeat (first | exact HB3.out | apply pw_below_drewN)), by simpa using HX.out⟩
  ·have b2 : decide (wrap64 (1048576 - c) < sc) = false := by simpa using q2
   have HE : moreE ⟨⟨n0, n1⟩, m, c⟩ ⟨⟨s0, s1⟩, sm, sc⟩ = 0 := by simp only [moreE]; rw [if_neg (by simpa using q1), if_neg q2]
   rw [HE, if_pos rfl]
   go_enter Try.func92, Try.ntmps92
   go_wp2_with (first | ((with_reducible refine gate_dst (N := 3) rfl ?_); refine bx 3 #[.int .i64 s0, .int .i64 s1, .int .u64 sm, .int .i64 sc] 52 ?_; intro g3 hg3 w3 hx3 hb3; have hne : g ≠ g3 := (by omega); have HB3 := Aside0.mk hb3; have hbk := hb3.block g hlt; rw [HB.out] at hbk; have HX := Aside0.mk hbk; have f1 : w3.cell? ⟨g3, 2, none⟩ = some (.int .u64 sm) := (blk_cell hx3 2).trans rfl; have f2 : w3.cell? ⟨g3, 3, none⟩ = some (.int .i64 sc) := (blk_cell hx3 3).trans rfl; have k2 := (blk_cell hbk (o + 2)).trans H2.out; have k3 := (blk_cell hbk (o + 3)).trans H3.out; have z2 := blk_frozen hbk (o + 2); have z3 := blk_frozen hbk (o + 3); clear hg3 hb3 hbk))
   go_quiet (fail)
   go_wp2
   go_quiet (fail)
   go_wp2
   generalize hw5 : (w3.drewN _).drewN _ = w5
   have hb5 : Below w.heap.size w w5 := by rw [← hw5]; repeat (first | exact HB3.out | apply pw_below_drewN)
   have hx5 : w5.heap[g]? = some (.cells cur 51 (0, 0)) := by rw [← hw5]; exact HX.out
   have hy5 : w5.heap[g3]? = some (.cells #[.int .i64 s0, .int .i64 s1, .int .u64 sm, .int .i64 sc] 52 (0, 0)) := by rw [← hw5]; exact hx3
   clear hx3 f1 f2 k2 k3 z2 z3 hw5
   have f1 : w5.cell? ⟨g3, 2, none⟩ = some (.int .u64 sm) := (blk_cell hy5 2).trans rfl
   have f2 : w5.cell? ⟨g3, 3, none⟩ = some (.int .i64 sc) := (blk_cell hy5 3).trans rfl
   have k2 := (blk_cell hx5 (o + 2)).trans H2.out
   have k3 := (blk_cell hx5 (o + 3)).trans H3.out
   have z2 := blk_frozen hx5 (o + 2)
   have z3 := blk_frozen hx5 (o + 3)
   have hy6 := blk_far hy5 (p := ⟨g, o + 2, none⟩) (fun e => hne e.symm) (.int .u64 (Go.bits .or .u64 m sm))
   have hx6 := blk_set hx5 (o + 2) (.int .u64 (Go.bits .or .u64 m sm))
   have f3 : (w5.setCell ⟨g, o + 2, none⟩ (.int .u64 (Go.bits .or .u64 m sm))).cell? ⟨g3, 3, none⟩ = some (.int .i64 sc) := (blk_cell hy6 3).trans rfl
   have k4 : (w5.setCell ⟨g, o + 2, none⟩ (.int .u64 (Go.bits .or .u64 m sm))).cell? ⟨g, o + 3, none⟩ = some (.int .i64 c) := (blk_cell hx6 (o + 3)).trans (by rw [Array.getElem?_setIfInBounds_ne (by omega)]; exact H3.out)
   have z4 := blk_frozen hx6 (o + 3)
   have HB5 := Aside0.mk hb5
   have HX6 := Aside0.mk hx6
   clear hb5 hx5 hy5 hy6 hx6
   go_region
   go_wp2
   go_ret
   exact ⟨rfl, grown_drew (grown_set (grown_set (grown_of_below HB5.out))), blk_set HX6.out (o + 3) _⟩
 ·have b1 : (Go.bits .and .u64 sm m != 0) = true := by simpa using q1
  have HE : moreE ⟨⟨n0, n1⟩, m, c⟩ ⟨⟨s0, s1⟩, sm, sc⟩ = 4 := by simp only [moreE]; rw [if_pos q1]
  rw [HE, if_neg (by decide)]
  go_enter Try.func92, Try.ntmps92
  go_wp2_with (first | ((with_reducible refine gate_dst (N := 3) rfl ?_); refine bx 3 #[.int .i64 s0, .int .i64 s1, .int .u64 sm, .int .i64 sc] 52 ?_; intro g3 hg3 w3 hx3 hb3; have hne : g ≠ g3 := (by omega); have HB3 := Aside0.mk hb3; have hbk := hb3.block g hlt; rw [HB.out] at hbk; have HX := Aside0.mk hbk; have f1 : w3.cell? ⟨g3, 2, none⟩ = some (.int .u64 sm) := (blk_cell hx3 2).trans rfl; have f2 : w3.cell? ⟨g3, 3, none⟩ = some (.int .i64 sc) := (blk_cell hx3 3).trans rfl; have k2 := (blk_cell hbk (o + 2)).trans H2.out; have k3 := (blk_cell hbk (o + 3)).trans H3.out; have z2 := blk_frozen hbk (o + 2); have z3 := blk_frozen hbk (o + 3); clear hg3 hb3 hbk))
  go_quiet (fail)
  go_wp2
  go_ret
  exact ⟨rfl, grown_of_below (by repeat (first | exact HB3.out | apply pw_below_drewN)), by simpa using HX.out⟩
end Go.Proofs.Ytckhjehibjdjdaa.P
namespace Go.Proofs.Ytckhjehibjdjdaa.P
open Go.RowKit Go.Shelf Go.Proofs.YtckhjehibjdjdaaW.PrintWords Go.Proofs.YtckhjehibjdjdaaW.PrintLast Go.Proofs.YtckhjehibjdjdaaW.PrintMore
open Go.Proofs.Ytckhjehibjdjdaa.Mp
attribute [local go_sem] Oper.semAt_some
set_option linter.unusedVariables false
set_option linter.unusedSimpArgs false
def ixS (l : List S51) : Nat → Int → Int → Option Int
 | 0 => fun _ _ => none
 | i + 1 => updS (ixS l i) (rd_T51 l i).f0.f0 (rd_T51 l i).f0.f1 i
def turnedL (E : S51 → S52 → Int) (F : S51 → S52 → S51) (ix : Int → Int → Option Int) : List S51 → List S52 → List S51 × Int
 | out, [] => (out, 0)
 | out, s :: ss => if s.f2 < 0 then ([], 1) else match ix s.f0.f0 s.f0.f1 with
  | none => ([], 3)
  | some k => if E (rd_T51 out k) s = 0 then turnedL E F ix (out.set k.toNat (F (rd_T51 out k) s)) ss else ([], E (rd_T51 out k) s)
theorem ixS_bd (l : List S51) : ∀ (i : Nat) (a b k : Int), ixS l i a b = some k → 0 ≤ k ∧ k < i
 | 0, _, _, _, h => by cases h
 | i + 1, a, b, k, h => by
  unfold ixS updS at h
  split at h
  ·cases h; omega
  ·have := ixS_bd l i a b k h; omega
def TurnC (fn : Nat) (E : S51 → S52 → Int) (F : S51 → S52 → S51) : Prop := ∀ (g o : Nat) (cur : Array Value) (f : S51) (s : S52) (w : World), w.heap[g]? = some (.cells cur 51 (0, 0)) → cur[o + 2]? = some (.int .u64 f.f1) → cur[o + 3]? = some (.int .i64 f.f2) →
  Calls Try.prog fn #[.pointer (some ⟨g, o, none⟩), .agg #[.int .i64 s.f0.f0, .int .i64 s.f0.f1, .int .u64 s.f1, .int .i64 s.f2]] w fun e w' => e = .returned (.int .i64 (E f s)) ∧ w.grownBy w' (some g) ∧ w'.heap[g]? = some (.cells (if E f s = 0 then putF cur o (F f s) else cur) 51 (0, 0))
theorem own51 {W : World} {base : Nat} {ok : Nat → Prop} {v : Value} {out : List S51} (h : Kd.R k51 51 W base ok v out) (hn : 0 < out.length) :
  ∃ g cap cur, v = .slice (some ⟨g, 0, none⟩) out.length cap ∧ ok g ∧ base ≤ g ∧ W.heap[g]? = some (.cells cur 51 (0, 0)) := by
 obtain ⟨hok, inner, ⟨_, hv⟩, _⟩ := h
 rcases hv with ⟨_, h0⟩ | ⟨g, cap, cur, rfl, hg, hh, _⟩
 ·omega
 ·exact ⟨g, cap, cur, rfl, hok g (by simp [Value.ownBlock]), hg, hh⟩
theorem R_turn {W W' : World} {base B0 g n cap : Nat} {cur : Array Value} {out : List S51} {k : Nat} {f' : S51} (HO : Kd.R k51 51 W base (fun k => k < B0) (.slice (some ⟨g, 0, none⟩) n cap) out) (hB0 : B0 ≤ W.heap.size) (hk : k < n)
  (hh : W.heap[g]? = some (.cells cur 51 (0, 0))) (hf0 : f'.f0 = (rd_T51 out (k : Int)).f0) (hg : W.grownBy W' (some g)) (hx : W'.heap[g]? = some (.cells (putF cur (k * 4) f') 51 (0, 0))) :
  Kd.R k51 51 W' base (fun k => k < B0) (.slice (some ⟨g, 0, none⟩) n cap) (out.set k f') := by
 obtain ⟨hn, _, hC⟩ := Kd.R_reads' HO
 obtain ⟨ad, e0, x0, x1, x2, x3⟩ := at_T51 hC (k : Int) (by omega) (by omega)
 cases e0
 have hsz : k51.sz = 4 := rfl
 simp only [Int.toNat_natCast, add_plain, Nat.zero_add] at x0 x1 x2 x3
 have hs := (Kd.R_seg HO (k : Int) (by omega) (by omega) (c := [.int .i64 (rd_T51 out (k : Int)).f0.f0, .int .i64 (rd_T51 out (k : Int)).f0.f1, .int .u64 (rd_T51 out (k : Int)).f1, .int .i64 (rd_T51 out (k : Int)).f2]) (seg := [.int .u64 f'.f1, .int .i64 f'.f2]) (j := 2) rfl (by
  intro j u hu
  rw [Int.toNat_natCast, hsz]
  match j, hu with
  | 0, hu => cases hu; exact x0
  | 1, hu => cases hu; exact x1
  | 2, hu => cases hu; exact x2
  | 3, hu => cases hu; exact x3
  | j + 4, hu => simp at hu) (by rw [hsz]; simp) (x' := f') (okp := fun _ => False) (by
   have := k51_mkM W base (fun _ => False) f'
   rw [hf0] at this
   exact this) (fun _ h => h.elim)).1
 rw [Int.toNat_natCast] at hs
 refine Kd.R_move hs (fun k' hk' => ?_)
 by_cases e : k' = g
 ·subst e
  rw [hx]
  have h1 := blk_set hh (k * 4 + 2) (.int .u64 f'.f1)
  have h2 := blk_set h1 (k * 4 + 3) (.int .i64 f'.f2)
  simp only [World.setCells, hsz]
  rw [h2]; rfl
 ·rw [hg.block k' (by omega) (by simpa using e)]
  simp only [World.setCells]
  rw [Below.heap_setCell _ _ _ _ (by simpa using e), Below.heap_setCell _ _ _ _ (by simpa using e)]
theorem turned_cons (E : S51 → S52 → Int) (F : S51 → S52 → S51) (ix : Int → Int → Option Int) (out : List S51) (l1 : List S52) (j : Nat) (h : j < l1.length) :
  turnedL E F ix out (l1.drop j) = if (rd_T52 l1 (j : Int)).f2 < 0 then ([], 1) else match ix (rd_T52 l1 (j : Int)).f0.f0 (rd_T52 l1 (j : Int)).f0.f1 with
   | none => ([], 3)
   | some k => if E (rd_T51 out k) (rd_T52 l1 (j : Int)) = 0 then turnedL E F ix (out.set k.toNat (F (rd_T51 out k) (rd_T52 l1 (j : Int)))) (l1.drop (j + 1)) else ([], E (rd_T51 out k) (rd_T52 l1 (j : Int))) := by
 have e : rd_T52 l1 (j : Int) = l1[j] := by simp [rd_T52, List.getD_eq_getElem?_getD, List.getElem?_eq_getElem h]
 rw [e, List.drop_eq_getElem_cons h, turnedL]
theorem zero3 (w : World) : (zeroValue 3).run Try.prog w = .ok (.int .i64 0) w := by kernel_rfl
set_option maxHeartbeats 8000000 in
set_option maxRecDepth 100000 in
theorem turned_any (fn : Nat) (E : S51 → S52 → Int) (F : S51 → S52 → S51) (HT : TurnC fn E F) (hent : ∀ args W, (callFunc fn args).run Try.prog W = .ok (.enter fn args) W) (hF : ∀ f s, (F f s).f0 = f.f0)
  (A0 : Option Addr) (c0 : Nat) (l0 : List S51) (A1 : Option Addr) (c1 : Nat) (l1 : List S52) (w : World) (hr0 : Kd.C k51 w A0 l0.length l0) (hc0 : l0.length ≤ c0) (hr1 : Kd.C k52 w A1 l1.length l1) (hc1 : l1.length ≤ c1)
  (hl : l0.length < 4398046511104) (hw0 : ∀ i, i < l0.length → W64 (rd_T51 l0 i).f0.f0 ∧ W64 (rd_T51 l0 i).f0.f1) (hw1 : ∀ i, i < l1.length → W64 (rd_T52 l1 i).f0.f0 ∧ W64 (rd_T52 l1 i).f0.f1) :
  Calls Try.prog 90 #[.slice A0 l0.length c0, .slice A1 l1.length c1, .func (.func fn) #[] #[]] w fun e w' => ∃ v0_ : Value, e = .returned (.tuple #[v0_, .int .i64 (turnedL E F (ixS l0 l0.length) l0 l1).2]) ∧ Kd.R k51 51 w' w.heap.size (fun _ => True) v0_ (turnedL E F (ixS l0 l0.length) l0 l1).1 ∧ Below w.heap.size w w' := by
 have hu51 := Try.underlying51
 have hu52 := Try.underlying52
 have hu48 := Try.underlying48
 have hu70 := Try.underlying70
 have hmm := @run_makeMap Try.prog
 have HR0 := Aside0.mk hr0
 have HR1 := Aside0.mk hr1
 have HW0 := Aside0.mk hw0
 have HW1 := Aside0.mk hw1
 have HTT := Aside0.mk HT
 have HL := Aside0.mk hl
 have HC0 := Aside0.mk hc0
 clear hr0 hr1 hw0 hw1 HT hl hc0
 have hlen1 : l1.length ≤ 9223372036854775807 := HR1.out.2.1
 obtain ⟨ix, hN⟩ : ∃ ix, ixS l0 l0.length = ix := ⟨_, rfl⟩
 rw [hN]
 have HN := Aside0.mk hN
 clear hN
 go_enter Try.func90, Try.ntmps90
 go_wp2_with (go_at_call 84; refine (clone84_any A0 c0 l0 _ HR0.out HC0.out HL.out).mono ?_; rintro e w8 ⟨v8, rfl, ho8, hb8⟩; obtain ⟨A8, c8, rfl, hc8, _⟩ := Kd.R_reads ho8; have HC8 := Aside0.mk hc8; clear hc8; have HB8 := Aside0.mk hb8; clear hb8; have HO8 := Aside0.mk (Kd.R_mono (Kd.R_bound ho8) (fun k hk => (hk.2.2.1 : k < w8.heap.size))); clear ho8)
 go_loopw [22] (fun v22 wr => ∃ i : Nat, i ≤ l0.length ∧ v22 = .int .i64 (i : Int) ∧ Aside0 (Kd.R k51 51 wr w.heap.size (fun k => k < w8.heap.size) (.slice A8 l0.length c8) l0) ∧ Aside0 (MapS Try.prog 48 3 wr w8.heap.size i (ixS l0 i)) ∧ Aside0 (Below w.heap.size w wr)) (fun v22 _ => l0.length - (intOf v22).toNat)
 case atStart => exact ⟨0, Nat.zero_le _, rfl, ⟨Kd.R_alloc HO8.out _⟩, ⟨MapS.made _ _ _ _⟩, ⟨below_alloc HB8.out _⟩⟩
 case round =>
  obtain ⟨i, hi, rfl, HO, HM, HB⟩ := hrel
  by_cases hlt : i < l0.length
  ·have h0 : 0 ≤ (i : Int) := by omega
   have h1' : (i : Int) < l0.length := by omega
   obtain ⟨ad, e0, x0, x1, x2, x3⟩ := at_T51 (Kd.R_reads' HO.out).2.2 (i : Int) h0 h1'
   cases e0
   simp only [Int.toNat_natCast] at x0 x1 x2 x3
   have hw := HW0.out i hlt
   have hl' := HL.out
   go_wp2_with (at_mapUpdate; refine wp_update_S rfl key48 _ _ _ 70 rfl Try.underlying70 Try.underlying3 rfl (HM.out.alloc _) (by unfold maxLen; omega) _ _ _ rfl rfl hw.1 hw.2 (W64.mk (by omega)) ?_; intro w1 hm1 hg1)
   have hsz := (below_alloc HB.out (.cells #[.int .i64 (rd_T51 l0 i).f0.f0, .int .i64 (rd_T51 l0 i).f0.f1, .int .u64 (rd_T51 l0 i).f1, .int .i64 (rd_T51 l0 i).f2] 51)).size
   have hs8 := HB8.out.size
   go_roundw
   case rel => exact ⟨i + 1, by omega, by go_num, ⟨Kd.R_grown (Kd.R_alloc HO.out _) hg1 (fun k hk e => by cases e; omega)⟩, ⟨hm1⟩, ⟨(below_alloc HB.out _).grown hg1 hsz (fun k e => by cases e; omega)⟩⟩
   case measure => simp [intOf]; omega
  ·obtain rfl : i = l0.length := by omega
   go_wp2
   clear hmm
   rw [HN.out] at HM
   have hixb := Aside0.mk (fun a b k (h : ix a b = some k) => ixS_bd l0 l0.length a b k (by rw [HN.out]; exact h))
   clear HN
   obtain ⟨wo, hwo⟩ : ∃ wo : World, wo = wr := ⟨_, rfl⟩
   subst hwo
   go_loopw [34] (fun v34 w2 => ∃ (j : Nat) (out : List S51), j ≤ l1.length ∧ v34 = .int .i64 (j : Int) ∧ Aside0 (out.length = l0.length ∧ turnedL E F ix l0 l1 = turnedL E F ix out (l1.drop j)) ∧ Aside0 (Kd.R k51 51 w2 w.heap.size (fun k => k < w8.heap.size) (.slice A8 l0.length c8) out) ∧ Aside0 (MapS Try.prog 48 3 w2 w8.heap.size l0.length ix) ∧ Aside0 (Below w.heap.size w w2) ∧ Aside0 (w8.heap.size < w2.heap.size)) (fun v34 _ => l1.length - (intOf v34).toNat)
   case atStart => exact ⟨0, l0, Nat.zero_le _, rfl, ⟨rfl, rfl⟩, HO, HM, HB, ⟨HM.out.lt⟩⟩
   case round =>
    clear HO HM HB
    obtain ⟨j, out, hj, rfl, HE, HO, HM, HB, HS⟩ := hrel
    by_cases hlt : j < l1.length
    ·have h0 : 0 ≤ (j : Int) := by omega
     have h1' : (j : Int) < l1.length := by omega
     obtain ⟨ad1, e1, y0, y1, y2, y3⟩ := at_T52 HR1.out (j : Int) h0 h1'
     cases e1
     simp only [Int.toNat_natCast] at y0 y1 y2 y3
     replace y0 := pw_cell_below HB.out y0
     replace y1 := pw_cell_below HB.out y1
     replace y2 := pw_cell_below HB.out y2
     replace y3 := pw_cell_below HB.out y3
     have HEE := Aside0.mk (HE.out.2.trans (turned_cons E F ix out l1 j hlt))
     have hlo := HE.out.1
     clear HE
     have hw := HW1.out j hlt
     generalize hs : rd_T52 l1 (j : Int) = s at *
     clear hs
     obtain ⟨⟨s0, s1⟩, sm, sc⟩ := s
     simp only at y0 y1 y2 y3 hw
     by_cases hneg : sc < 0
     ·have bn : decide (sc < 0) = true := by simpa using hneg
      rw [if_pos hneg] at HEE
      clear hneg
      go_wp2_with (at_lookup; refine wp_lookup_S rfl key48 _ _ 70 rfl Try.underlying70 Try.underlying3 (zero3 _) rfl (HM.out.alloc _) _ _ rfl hw.1 hw.2 ?_)
      go_ret2
      exact ⟨.slice none 0 0, (by rw [HEE.out]; first | done | rfl), (by rw [HEE.out]; exact Kd.R_nil _ _ _ _ _), below_alloc HB.out _⟩
     ·have bn : decide (sc < 0) = false := by simpa using hneg
      rw [if_neg hneg] at HEE
      clear hneg
      cases hix : ix s0 s1 with
      | none =>
       rw [hix] at HEE
       go_wp2_with (at_lookup; refine wp_lookup_S rfl key48 _ _ 70 rfl Try.underlying70 Try.underlying3 (zero3 _) rfl (HM.out.alloc _) _ _ rfl hw.1 hw.2 ?_; rw [hix]; simp only [Option.getD_none, Option.isSome_none])
       go_ret2
       exact ⟨.slice none 0 0, (by rw [HEE.out]; first | done | rfl), (by rw [HEE.out]; exact Kd.R_nil _ _ _ _ _), below_alloc HB.out _⟩
      | some k =>
       rw [hix] at HEE
       have hkb := hixb.out _ _ _ hix
       go_wp2_with (at_lookup; refine wp_lookup_S rfl key48 _ _ 70 rfl Try.underlying70 Try.underlying3 (zero3 _) rfl (HM.out.alloc _) _ _ rfl hw.1 hw.2 ?_; rw [hix]; simp only [Option.getD_some, Option.isSome_some])
       obtain ⟨kn, rfl⟩ := Int.eq_ofNat_of_zero_le hkb.1
       have hk1 : kn < l0.length := by omega
       obtain ⟨g, cap, cur, hv, hgk, hgb, hh⟩ := own51 HO.out (by omega)
       injection hv with ha hn hc
       subst ha
       have hC := (Kd.R_reads' HO.out).2.2
       obtain ⟨ad2, e2, _, _, z2, z3⟩ := at_T51 hC (kn : Int) (by omega) (by omega)
       cases e2
       simp only [Int.toNat_natCast, add_plain, Nat.zero_add] at z2 z3
       rw [blk_cell hh] at z2 z3
       obtain ⟨wa, hwa⟩ : ∃ wa, wr.alloc (.cells #[.int .i64 s0, .int .i64 s1, .int .u64 sm, .int .i64 sc] 52) = wa := ⟨_, rfl⟩
       have hha : wa.heap[g]? = some (.cells cur 51 (0, 0)) := by rw [← hwa]; exact blk_alloc hh _
       have hya : wa.heap[wr.heap.size]? = some (.cells #[.int .i64 s0, .int .i64 s1, .int .u64 sm, .int .i64 sc] 52 (0, 0)) := by rw [← hwa]; exact heap_alloc_new _ _
       have hOa : Kd.R k51 51 wa w.heap.size (fun k => k < w8.heap.size) (.slice (some ⟨g, 0, none⟩) l0.length c8) out := by rw [← hwa]; exact Kd.R_alloc HO.out _
       have hMa : MapS Try.prog 48 3 wa w8.heap.size l0.length ix := by rw [← hwa]; exact HM.out.alloc _
       have hBa : Below w.heap.size w wa := by rw [← hwa]; exact below_alloc HB.out _
       have hSa : w8.heap.size < wa.heap.size := by rw [← hwa]; have := HS.out; simp; omega
       rw [hwa]
       have hcall := HTT.out g (kn * 4) cur (rd_T51 out (kn : Int)) ⟨⟨s0, s1⟩, sm, sc⟩ wa.drew (blk_drew hha) z2 z3
       have hRT := fun W' (hg : wa.drew.grownBy W' (some g)) (hx : W'.heap[g]? = some (.cells (putF cur (kn * 4) (F (rd_T51 out (kn : Int)) ⟨⟨s0, s1⟩, sm, sc⟩)) 51 (0, 0))) => R_turn (Kd.R_drew hOa) (B0 := w8.heap.size) (Nat.le_of_lt hSa) hk1 (blk_drew hha) (hF _ _) hg hx
       have HRT := Aside0.mk hRT
       have HCALL := Aside0.mk hcall
       have HGB := Aside0.mk (And.intro hgk hgb)
       have HOA := Aside0.mk hOa
       have HMA := Aside0.mk hMa
       have HBA := Aside0.mk hBa
       have HSA := Aside0.mk hSa
       have q0 : wa.cell? ⟨wr.heap.size, 0, none⟩ = some (.int .i64 s0) := (blk_cell hya 0).trans rfl
       have q1 : wa.cell? ⟨wr.heap.size, 1, none⟩ = some (.int .i64 s1) := (blk_cell hya 1).trans rfl
       have q2 : wa.cell? ⟨wr.heap.size, 2, none⟩ = some (.int .u64 sm) := (blk_cell hya 2).trans rfl
       have q3 : wa.cell? ⟨wr.heap.size, 3, none⟩ = some (.int .i64 sc) := (blk_cell hya 3).trans rfl
       clear hwa hha hya hOa hMa hBa hSa hRT hcall hgk hgb hh z2 z3 hC hn hc HO HM HB HS
       go_still_tail 5, (by kernel_rfl)
       change wpList _ _ _ _ _ wa.drew
       clear q0 q1 q2 q3
       go_wp2_with (fail)
       refine HCALL.out.mono ?_
       rintro e W4 ⟨rfl, hg4, hx4⟩
       by_cases hE : E (rd_T51 out (kn : Int)) ⟨⟨s0, s1⟩, sm, sc⟩ = 0
       ·rw [if_pos hE] at hx4
        have HO4 := Aside0.mk (HRT.out W4 hg4 hx4)
        simp only [hE, if_true] at HEE
        rw [hE]
        have HM4 := Aside0.mk (HMA.out.move (hg4.block _ HMA.out.lt (by simp; have := HGB.out.1; omega)))
        have HB4 := Aside0.mk ((below_drew1 HBA.out).grown hg4 (below_drew1 HBA.out).size (fun k e => by cases e; exact HGB.out.2))
        have HS4 := Aside0.mk (Nat.lt_of_lt_of_le HSA.out hg4.size)
        clear hx4 hg4 HCALL HRT HOA HMA HBA HSA
        go_wp2
        go_roundw
        case rel => exact ⟨j + 1, _, by omega, by go_num, ⟨by rw [List.length_set]; exact hlo, HEE.out⟩, HO4, HM4, HB4, HS4⟩
        case measure => simp [intOf]; omega
       ·have bE : (E (rd_T51 out (kn : Int)) ⟨⟨s0, s1⟩, sm, sc⟩ == 0) = false := by simpa using hE
        simp only [hE, if_false] at HEE
        have HB4 := Aside0.mk ((below_drew1 HBA.out).grown hg4 (below_drew1 HBA.out).size (fun k e => by cases e; exact HGB.out.2))
        clear hx4 hg4 HCALL HRT HOA HMA HBA HSA hE
        go_wp2
        go_ret2
        exact ⟨.slice none 0 0, (by rw [HEE.out]; first | done | rfl), (by rw [HEE.out]; exact Kd.R_nil _ _ _ _ _), HB4.out⟩
    ·obtain rfl : j = l1.length := by omega
     have HEE := HE.out.2
     rw [List.drop_eq_nil_of_le (Nat.le_refl _)] at HEE
     have HE2 := Aside0.mk HEE
     have hlo := HE.out.1
     clear HEE HE
     go_wp2
     go_ret2
     exact ⟨.slice A8 l0.length c8, (by rw [HE2.out, turnedL]; first | done | rfl), (by rw [HE2.out, turnedL]; exact Kd.R_mono HO.out (fun _ _ => trivial)), HB.out⟩
def turned51 (E : S51 → S52 → Int) (F : S51 → S52 → S51) (l0 : List S51) (l1 : List S52) : List S51 × Int := turnedL E F (ixS l0 l0.length) l0 l1
def w64B (x : Int) : Bool := decide (-9223372036854775808 ≤ x) && decide (x ≤ 9223372036854775807)
def spotsOk (l0 : List S51) (l1 : List S52) : Bool := decide (l0.length < 4398046511104) && l0.all (fun f => w64B f.f0.f0 && w64B f.f0.f1) && l1.all (fun f => w64B f.f0.f0 && w64B f.f0.f1)
def pack_More.f (l0 : List S51) (l1 : List S52) : Option (List S51 × Int) := if spotsOk l0 l1 = true then some (turned51 moreE moreF l0 l1) else none
def pack_Less.f (l0 : List S51) (l1 : List S52) : Option (List S51 × Int) := if spotsOk l0 l1 = true then some (turned51 lessE lessF l0 l1) else none
theorem spotsOk_out {l0 : List S51} {l1 : List S52} (h : spotsOk l0 l1 = true) : l0.length < 4398046511104 ∧ (∀ i, i < l0.length → W64 (rd_T51 l0 i).f0.f0 ∧ W64 (rd_T51 l0 i).f0.f1) ∧ (∀ i, i < l1.length → W64 (rd_T52 l1 i).f0.f0 ∧ W64 (rd_T52 l1 i).f0.f1) := by
 unfold spotsOk at h
 simp only [Bool.and_eq_true, decide_eq_true_eq, List.all_eq_true, w64B] at h
 refine ⟨h.1.1, fun i hi => ?_, fun i hi => ?_⟩
 ·have e : rd_T51 l0 (i : Int) = l0[i] := by simp [rd_T51, List.getD_eq_getElem?_getD, List.getElem?_eq_getElem hi]
  have := h.1.2 _ (List.getElem_mem hi)
  rw [e]
  exact ⟨W64.mk this.1, W64.mk this.2⟩
 ·have e : rd_T52 l1 (i : Int) = l1[i] := by simp [rd_T52, List.getD_eq_getElem?_getD, List.getElem?_eq_getElem hi]
  have := h.2 _ (List.getElem_mem hi)
  rw [e]
  exact ⟨W64.mk this.1, W64.mk this.2⟩
set_option maxHeartbeats 4000000 in
set_option maxRecDepth 100000 in
theorem pack_More.calls (A0 : Option Addr) (c0 : Nat) (l0 : List (S51)) (A1 : Option Addr) (c1 : Nat) (l1 : List (S52)) (r1 : List (S51)) (r2 : Int) (w : World) (hr0 : Kd.C k51 w A0 l0.length l0) (hc0 : l0.length ≤ c0) (hr1 : Kd.C k52 w A1 l1.length l1) (hc1 : l1.length ≤ c1) (h : pack_More.f l0 l1 = some (r1, r2)) :
  Calls Try.prog 52 #[.slice A0 l0.length c0, .slice A1 l1.length c1] w fun e w' => ∃ v0_ : Value, e = .returned (.tuple #[v0_, .int .i64 r2]) ∧ Kd.R k51 51 w' w.heap.size (fun _ => True) v0_ r1 ∧ Below w.heap.size w w' := by
 unfold pack_More.f at h
 split at h
 case isFalse => cases h
 rename_i hok
 obtain ⟨h1, h2, h3⟩ := spotsOk_out hok
 have hr := Option.some.inj h
 unfold turned51 at hr
 have HC := turned_any 92 moreE moreF (fun g o cur f s w a b c => more1_any g o cur f s w a b c) (fun args W => by kernel_rfl) (fun _ _ => rfl) A0 c0 l0 A1 c1 l1 w hr0 hc0 hr1 hc1 h1 h2 h3
 rw [hr] at HC
 have H := Aside0.mk HC
 clear HC hr h h1 h2 h3 hok hr0 hr1
 go_enter Try.func52, Try.ntmps52
 go_wp2_with (go_at_call 90; refine H.out.mono ?_; rintro e w1 ⟨v, rfl, ho, hb⟩; have HO := Aside0.mk ho; have HB := Aside0.mk hb; clear ho hb)
 go_ret2
 exact ⟨_, rfl, HO.out, HB.out⟩
end Go.Proofs.Ytckhjehibjdjdaa.P
namespace Go.Proofs.Ytckhjehibjdjdaa.P
open Go.RowKit Go.Shelf Go.Proofs.YtckhjehibjdjdaaW.PrintWords Go.Proofs.YtckhjehibjdjdaaW.PrintLast Go.Proofs.YtckhjehibjdjdaaW.PrintMore
attribute [local go_sem] Oper.semAt_some
set_option linter.unusedVariables false
set_option linter.unusedSimpArgs false
abbrev HV := S41 × Option Addr × Nat × Nat
def hc (x : HV) : List Value := [.int .i64 x.1.f0, .int .i64 x.1.f1, .int .i64 x.1.f2, .bool x.1.f3, .slice x.2.1 x.2.2.1 x.2.2.2]
def kh : Kd (HV) where
 sz := 5
 E := []
 K := fun _ x cs => cs = hc x
 M := fun _ _ _ x cs => cs = hc x
 K_len := fun h => by rw [h]; rfl
 K_one := fun h u hu => by
  rw [h] at hu
  simp only [hc, List.mem_cons, List.not_mem_nil, or_false] at hu
  rcases hu with rfl | rfl | rfl | rfl | rfl
  ·rfl
  ·rfl
  ·rfl
  ·rfl
  ·rfl
 K_below := fun _ h => h
 K_of_M := fun h => h
 M_mono := fun _ h => h
 M_bound := fun h => h
 M_move := fun _ h => h
 M_lower := fun _ h => h
def cmpI (x y : Int) : Int := if x < y then -1 else if x > y then 1 else 0
set_option maxHeartbeats 4000000 in
set_option maxRecDepth 100000 in
theorem nan_any (x : Int) (w : World) : Calls Try.prog 104 #[.int .i64 x] w fun e w' => e = .returned (.bool false) ∧ w' = w := by
 have hu3 := Try.underlying3
 go_enter Try.func104, Try.ntmps104
 go_wp2
 all_goals go_ret
 all_goals exact ⟨by simp, rfl⟩
set_option maxHeartbeats 4000000 in
set_option maxRecDepth 100000 in
theorem cmp_any (x y : Int) (w : World) : Calls Try.prog 73 #[.int .i64 x, .int .i64 y] w fun e w' => e = .returned (.int .i64 (cmpI x y)) ∧ w' = w := by
 have hu3 := Try.underlying3
 unfold cmpI
 by_cases h1 : x < y
 ·rw [if_pos h1]
  have b1 : decide (x < y) = true := by simpa using h1
  go_enter Try.func73, Try.ntmps73
  go_wp2_with (go_at_call 104; refine (nan_any _ _).mono ?_; rintro e w' ⟨rfl, rfl⟩)
  all_goals go_ret
  all_goals exact ⟨rfl, rfl⟩
 ·rw [if_neg h1]
  have b1 : decide (x < y) = false := by simpa using h1
  by_cases h2 : x > y
  ·rw [if_pos h2]
   have b2 : decide (y < x) = true := by simpa using h2
   go_enter Try.func73, Try.ntmps73
   go_wp2_with (go_at_call 104; refine (nan_any _ _).mono ?_; rintro e w' ⟨rfl, rfl⟩)
   all_goals go_ret
   all_goals exact ⟨rfl, rfl⟩
  ·rw [if_neg h2]
   have b2 : decide (y < x) = false := by simpa using h2
   go_enter Try.func73, Try.ntmps73
   go_wp2_with (go_at_call 104; refine (nan_any _ _).mono ?_; rintro e w' ⟨rfl, rfl⟩)
   all_goals go_ret
   all_goals exact ⟨rfl, rfl⟩
set_option maxHeartbeats 4000000 in
set_option maxRecDepth 100000 in
theorem cmpH_any (x y : HV) (w : World) : Calls Try.prog 72 #[.agg #[.int .i64 x.1.f0, .int .i64 x.1.f1, .int .i64 x.1.f2, .bool x.1.f3, .slice x.2.1 x.2.2.1 x.2.2.2], .agg #[.int .i64 y.1.f0, .int .i64 y.1.f1, .int .i64 y.1.f2, .bool y.1.f3, .slice y.2.1 y.2.2.1 y.2.2.2]] w fun e w' => e = .returned (.int .i64 (cmpI x.1.f2 y.1.f2)) ∧ Below w.heap.size w w' := by
 have hu41 := Try.underlying41
 obtain ⟨⟨x0, x1, x2, x3, x4⟩, xa, xn, xc⟩ := x
 obtain ⟨⟨y0, y1, y2, y3, y4⟩, ya, yn, yc⟩ := y
 go_enter Try.func72, Try.ntmps72
 go_wp2_with (first | ((with_reducible refine gate_dst (N := 2) rfl ?_); refine bx 2 #[.int .i64 x0, .int .i64 x1, .int .i64 x2, .bool x3, .slice xa xn xc] 41 ?_; intro g2 hg2 w2 hx2 hb2; have HB2 := Aside0.mk hb2; clear hb2 hg2) | ((with_reducible refine gate_dst (N := 3) rfl ?_); refine bx 3 #[.int .i64 y0, .int .i64 y1, .int .i64 y2, .bool y3, .slice ya yn yc] 41 ?_; intro g3 hg3 w3 hx3 hb3; replace hx2 := blk_below hx2 hb3; have HB3 := Aside0.mk (below_step HB2.out hb3); clear hb3 hg3; have f0 : w3.cell? ⟨g2, 2, none⟩ = some (.int .i64 x2) := (blk_cell hx2 2).trans rfl; have f1 : w3.cell? ⟨g3, 2, none⟩ = some (.int .i64 y2) := (blk_cell hx3 2).trans rfl) | (go_at_call 73; refine (cmp_any _ _ _).mono ?_; rintro e w' ⟨rfl, rfl⟩))
 all_goals go_ret
 all_goals exact ⟨rfl, HB3.out⟩
end Go.Proofs.Ytckhjehibjdjdaa.P
namespace Go.Proofs.Ytckhjehibjdjdaa.P
open Go.RowKit Go.Shelf Go.Proofs.YtckhjehibjdjdaaW.PrintWords Go.Proofs.YtckhjehibjdjdaaW.PrintLast Go.Proofs.YtckhjehibjdjdaaW.PrintMore
attribute [local go_sem] Oper.semAt_some
set_option linter.unusedVariables false
set_option linter.unusedSimpArgs false
section
variable {α : Type} (key : α → Int)
def insK (x : α) : List α → List α
 | [] => [x]
 | y :: l => if key x < key y then x :: y :: l else y :: insK x l
def isort (l : List α) : List α := l.foldl (fun acc x => insK key x acc) []
theorem insK_at (x : α) : ∀ (L : List α) (j : Nat), (∀ y ∈ L.take j, ¬ key x < key y) → (∀ y ∈ L.drop j, key x < key y) → insK key x L = L.take j ++ x :: L.drop j
 | [], j, _, _ => by simp [insK]
 | y :: L, 0, _, h2 => by
  have := h2 y (by simp)
  simp [insK, this]
 | y :: L, j + 1, h1, h2 => by
  have := h1 y (by simp)
  rw [insK, if_neg this, insK_at x L j (fun z hz => h1 z (by simp [hz])) (fun z hz => h2 z (by simpa using hz))]
  simp
theorem insK_perm (x : α) : ∀ L : List α, (insK key x L).Perm (x :: L)
 | [] => List.Perm.refl _
 | y :: L => by
  rw [insK]
  split
  ·exact List.Perm.refl _
  ·exact ((insK_perm x L).cons y).trans (List.Perm.swap x y L)
theorem insK_sorted (x : α) : ∀ L : List α, L.Pairwise (fun a b => key a ≤ key b) → (insK key x L).Pairwise (fun a b => key a ≤ key b)
 | [], _ => by simp [insK]
 | y :: L, h => by
  rw [insK]
  rw [List.pairwise_cons] at h
  split
  ·rename_i hlt
   rw [List.pairwise_cons, List.pairwise_cons]
   refine ⟨fun z hz => ?_, h⟩
   rcases List.mem_cons.1 hz with rfl | hz
   ·omega
   ·have := h.1 z hz; omega
  ·rename_i hlt
   rw [List.pairwise_cons]
   refine ⟨fun z hz => ?_, insK_sorted x L h.2⟩
   rcases List.mem_cons.1 ((insK_perm key x L).mem_iff.1 hz) with rfl | hz
   ·omega
   ·exact h.1 z hz
theorem isort_snoc (l : List α) (x : α) : isort key (l ++ [x]) = insK key x (isort key l) := by simp [isort, List.foldl_append]
theorem isort_take (l : List α) (i : Nat) (h : i < l.length) : isort key (l.take (i + 1)) = insK key l[i] (isort key (l.take i)) := by
 rw [List.take_succ_eq_append_getElem h, isort_snoc]
theorem isort_fold_perm : ∀ (l acc : List α), (l.foldl (fun acc x => insK key x acc) acc).Perm (acc ++ l)
 | [], acc => by simp
 | x :: l, acc => by
  refine (isort_fold_perm l _).trans ?_
  refine ((insK_perm key x acc).append_right l).trans ?_
  exact (List.perm_middle).symm
theorem isort_perm (l : List α) : (isort key l).Perm l := by have h := isort_fold_perm key l []; rw [List.nil_append] at h; exact h
theorem isort_fold_sorted : ∀ (l acc : List α), acc.Pairwise (fun a b => key a ≤ key b) → (l.foldl (fun acc x => insK key x acc) acc).Pairwise (fun a b => key a ≤ key b)
 | [], acc, h => h
 | x :: l, acc, h => isort_fold_sorted l _ (insK_sorted key x acc h)
theorem isort_sorted (l : List α) : (isort key l).Pairwise (fun a b => key a ≤ key b) := isort_fold_sorted key l [] List.Pairwise.nil
theorem isort_map {β : Type} (f : β → α) : ∀ (l acc : List β), (l.foldl (fun acc x => insK (fun b => key (f b)) x acc) acc).map f = (l.map f).foldl (fun acc x => insK key x acc) (acc.map f)
 | [], acc => rfl
 | x :: l, acc => by
  have e : ∀ (L : List β), (insK (fun b => key (f b)) x L).map f = insK key (f x) (L.map f) := by
   intro L
   induction L with
   | nil => rfl
   | cons y L ih => rw [insK, List.map_cons, insK]; split <;> simp [ih]
  rw [List.foldl_cons, isort_map f l, e]; rfl
end
def zAt {α : Type} (L : List α) (x : α) (rest : List α) (j : Nat) : List α := L.take j ++ x :: (L.drop j ++ rest)
theorem zAt_step {α : Type} (L : List α) (x : α) (rest : List α) (m : Nat) (h : m < L.length) : ((zAt L x rest (m + 1)).set (m + 1) L[m]).set m x = zAt L x rest m := by
 unfold zAt
 rw [List.take_succ_eq_append_getElem h, List.drop_eq_getElem_cons h]
 have hl : (L.take m).length = m := by rw [List.length_take]; omega
 rw [List.append_assoc, List.set_append_right _ _ (by omega), hl, show m + 1 - m = 1 by omega]
 simp only [List.cons_append, List.nil_append, List.set_cons_succ, List.set_cons_zero]
 rw [List.set_append_right _ _ (by omega), hl, Nat.sub_self]
 rfl
theorem zAt_get {α : Type} (L : List α) (x : α) (rest : List α) (j : Nat) (h : j ≤ L.length) : (zAt L x rest j)[j]? = some x := by
 unfold zAt
 have hl : (L.take j).length = j := by rw [List.length_take]; omega
 rw [List.getElem?_append_right (by omega), hl]; simp
theorem zAt_get1 {α : Type} (L : List α) (x : α) (rest : List α) (m : Nat) (h : m < L.length) : (zAt L x rest (m + 1))[m]? = some L[m] := by
 unfold zAt
 rw [List.getElem?_append_left (by rw [List.length_take]; omega), List.getElem?_take, if_pos (by omega), List.getElem?_eq_getElem h]
theorem zAt_len {α : Type} (L : List α) (x : α) (rest : List α) (j : Nat) (h : j ≤ L.length) : (zAt L x rest j).length = L.length + 1 + rest.length := by
 unfold zAt; simp; omega
def hkey (x : HV) : Int := x.1.f2
theorem at_kh {W : World} {base g n cap : Nat} {ok : Nat → Prop} {xs : List (HV)} (h : Kd.R kh 41 W base ok (.slice (some ⟨g, 0, none⟩) n cap) xs) (i : Nat) (x : HV) (hx : xs[i]? = some x) :
  W.cell? ⟨g, i * 5, none⟩ = some (.int .i64 x.1.f0) ∧ W.cell? ⟨g, i * 5 + 1, none⟩ = some (.int .i64 x.1.f1) ∧ W.cell? ⟨g, i * 5 + 2, none⟩ = some (.int .i64 x.1.f2) ∧ W.cell? ⟨g, i * 5 + 3, none⟩ = some (.bool x.1.f3) ∧ W.cell? ⟨g, i * 5 + 4, none⟩ = some (.slice x.2.1 x.2.2.1 x.2.2.2) := by
 obtain ⟨hn, _, hC⟩ := Kd.R_reads' h
 have hi : i < xs.length := (List.getElem?_eq_some_iff.1 hx).1
 obtain ⟨ad, e0, hc⟩ := hC.2.2 (by omega)
 cases e0
 obtain ⟨c, hl, rfl, hcell⟩ := hc i x hx
 have hsz : kh.sz = 5 := rfl
 rw [hsz] at hcell
 simp only [add_plain, Nat.zero_add] at hcell
 exact ⟨hcell 0 _ rfl, hcell 1 _ rfl, hcell 2 _ rfl, hcell 3 _ rfl, hcell 4 _ rfl⟩
theorem ownh {W : World} {base : Nat} {ok : Nat → Prop} {v : Value} {out : List (HV)} (h : Kd.R kh 41 W base ok v out) (hn : 0 < out.length) :
  ∃ g cap cur, v = .slice (some ⟨g, 0, none⟩) out.length cap ∧ ok g ∧ base ≤ g ∧ W.heap[g]? = some (.cells cur 41 (0, 0)) := by
 obtain ⟨hok, inner, ⟨_, hv⟩, _⟩ := h
 rcases hv with ⟨_, h0⟩ | ⟨g, cap, cur, rfl, hg, hh, _⟩
 ·omega
 ·exact ⟨g, cap, cur, rfl, hok g (by simp [Value.ownBlock]), hg, hh⟩
theorem put_kh {W : World} {base g n cap : Nat} {ok : Nat → Prop} {xs : List (HV)} (h : Kd.R kh 41 W base ok (.slice (some ⟨g, 0, none⟩) n cap) xs) (i : Nat) (hi : i < n) (x : HV) :
  Kd.R kh 41 (W.setCells g (i * 5) (hc x)) base ok (.slice (some ⟨g, 0, none⟩) n cap) (xs.set i x) ∧ W.grownBy (W.setCells g (i * 5) (hc x)) (some g) := by
 obtain ⟨hn, _, hC⟩ := Kd.R_reads' h
 have hsz : kh.sz = 5 := rfl
 obtain ⟨c0, c1, c2, c3, c4⟩ := at_kh h i xs[i] (List.getElem?_eq_getElem (by omega))
 have := Kd.R_seg h (i : Int) (by omega) (by omega) (c := hc xs[i]) (seg := hc x) (j := 0) rfl (by
  intro j u hu
  rw [Int.toNat_natCast, hsz]
  match j, hu with
  | 0, hu => cases hu; exact c0
  | 1, hu => cases hu; exact c1
  | 2, hu => cases hu; exact c2
  | 3, hu => cases hu; exact c3
  | 4, hu => cases hu; exact c4
  | j + 5, hu => simp [hc] at hu) (by rw [hsz]; simp [hc]) (x' := x) (okp := fun _ => False) (by show _ = hc x; simp [hc]) (fun _ h => h.elim)
 rw [Int.toNat_natCast, hsz, Nat.add_zero] at this
 exact this
end Go.Proofs.Ytckhjehibjdjdaa.P
namespace Go.Proofs.Ytckhjehibjdjdaa.P
open Go.RowKit Go.Shelf Go.Proofs.YtckhjehibjdjdaaW.PrintWords Go.Proofs.YtckhjehibjdjdaaW.PrintLast Go.Proofs.YtckhjehibjdjdaaW.PrintMore
attribute [local go_sem] Oper.semAt_some
set_option linter.unusedVariables false
set_option linter.unusedSimpArgs false
theorem grown_refl (w : World) (r : Option Nat) : w.grownBy w r := ⟨rfl, rfl, rfl, Nat.le_refl _, fun _ _ _ => rfl⟩
theorem grown_below {w W W' : World} {g : Nat} (h : w.grownBy W (some g)) (hb : Below W.heap.size W W') : w.grownBy W' (some g) :=
 ⟨hb.os.trans h.os, hb.tape.trans h.tape, hb.output.trans h.output, Nat.le_trans h.size hb.size, fun k hk hne => (hb.block k (Nat.lt_of_lt_of_le hk h.size)).trans (h.block k hk hne)⟩
theorem grown_grown {w W W' : World} {g : Nat} (h : w.grownBy W (some g)) (hb : W.grownBy W' (some g)) : w.grownBy W' (some g) :=
 ⟨hb.os.trans h.os, hb.tape.trans h.tape, hb.output.trans h.output, Nat.le_trans h.size hb.size, fun k hk hne => (hb.block k (Nat.lt_of_lt_of_le hk h.size) hne).trans (h.block k hk hne)⟩
set_option maxHeartbeats 8000000 in
set_option maxRecDepth 100000 in
theorem insert_any (g n cap base b : Nat) (ok : Nat → Prop) (xs : List (HV)) (w : World) (hr : Kd.R kh 41 w base ok (.slice (some ⟨g, 0, none⟩) n cap) xs) (hb : b ≤ n) (hn : n ≤ 4611686018427387904) (h2 : 2 ≤ b) (hok : ∀ k, ok k → k < w.heap.size) :
  Calls Try.prog 120 #[.slice (some ⟨g, 0, none⟩) n cap, .int .i64 0, .int .i64 b, .func (.func 72) #[] #[]] w fun e w' => e = .returned (.tuple #[]) ∧ Kd.R kh 41 w' base ok (.slice (some ⟨g, 0, none⟩) n cap) (isort hkey (xs.take b) ++ xs.drop b) ∧ w.grownBy w' (some g) := by
 have hu41 := Try.underlying41
 have HR := Aside0.mk hr
 have hxl : xs.length = n := (Kd.R_reads' hr).1.symm
 have hgb := (Kd.R_base hr g (by simp [Value.ownBlock]))
 clear hr
 go_enter Try.func120, Try.ntmps120
 go_wp2
 go_loopw [8] (fun v8 wr => ∃ i : Nat, 1 ≤ i ∧ i ≤ b ∧ v8 = .int .i64 (i : Int) ∧ Aside0 (Kd.R kh 41 wr base ok (.slice (some ⟨g, 0, none⟩) n cap) (isort hkey (xs.take i) ++ xs.drop i)) ∧ Aside0 (w.grownBy wr (some g))) (fun v8 _ => b - (intOf v8).toNat)
 case atStart => exact ⟨1, Nat.le_refl _, by omega, rfl, ⟨by
  have : isort hkey (xs.take 1) ++ xs.drop 1 = xs := by
   cases xs with
   | nil => simp at hxl; omega
   | cons x xs => simp [isort, insK]
  rw [this]; exact HR.out⟩, ⟨grown_refl _ _⟩⟩
 case round =>
  obtain ⟨i, hi1, hib, rfl, HA, HG⟩ := hrel
  by_cases hlt : i < b
  ·have hlt' : (i : Int) < b := by omega
   have hix : i < xs.length := by omega
   have hLl : (isort hkey (xs.take i)).length = i := by rw [(isort_perm hkey _).length_eq, List.length_take]; omega
   have hz : isort hkey (xs.take i) ++ xs.drop i = zAt (isort hkey (xs.take i)) xs[i] (xs.drop (i + 1)) i := by
    unfold zAt
    have t1 : (isort hkey (xs.take i)).take i = isort hkey (xs.take i) := List.take_of_length_le (by omega)
    have t2 : (isort hkey (xs.take i)).drop i = [] := List.drop_eq_nil_of_le (by omega)
    rw [t1, t2, List.nil_append, List.drop_eq_getElem_cons hix]
   have hstep := isort_take hkey xs i hix
   have hsrt := isort_sorted hkey (xs.take i)
   rw [hz] at HA
   have hrl : (xs.drop (i + 1)).length = xs.length - (i + 1) := List.length_drop
   clear hz
   have HST := Aside0.mk hstep
   clear hstep
   generalize hL : isort hkey (xs.take i) = L at *
   generalize hx : xs[i] = x at *
   generalize hre : xs.drop (i + 1) = rest at *
   have HSRT := Aside0.mk hsrt
   have HRE := Aside0.mk hre
   clear hsrt hL hx hre
   go_wp2
   obtain ⟨wo, hwo⟩ : ∃ wo : World, wo = wr := ⟨_, rfl⟩
   subst hwo
   go_loopg [9] i (fun kq v9 w2 => ∃ j : Nat, j ≤ i ∧ v9 = .int .i64 (j : Int) ∧ Aside0 (kq = j) ∧ Aside0 (∀ y ∈ L.drop j, hkey x < hkey y) ∧ Aside0 (Kd.R kh 41 w2 base ok (.slice (some ⟨g, 0, none⟩) n cap) (zAt L x rest j)) ∧ Aside0 (w.grownBy w2 (some g)))
   case atStart => exact ⟨i, Nat.le_refl _, rfl, ⟨rfl⟩, ⟨fun y hy => by rw [List.drop_eq_nil_of_le (by omega)] at hy; cases hy⟩, HA, HG⟩
   case round =>
    clear HA HG
    obtain ⟨j, hj, rfl, HQ, HD, HA, HG⟩ := hrel
    cases j with
    | zero =>
     have hdone : isort hkey (xs.take (i + 1)) ++ xs.drop (i + 1) = zAt L x rest 0 := by
      rw [HST.out, HRE.out, insK_at hkey x L 0 (by simp) HD.out]
      simp [zAt]
     rw [← hdone] at HA
     clear hdone
     go_wp2
     go_quiet (fail)
     go_wp2
     go_roundw
     case rel => exact ⟨i + 1, by omega, by omega, by go_num, HA, ⟨grown_below HG.out (pw_below_drewN (Below.refl _ _) _)⟩⟩
     case measure => simp [intOf]; omega
    | succ m =>
     have hm : m < L.length := by omega
     have hgx := at_kh HA.out (m + 1) x (zAt_get L x rest (m + 1) (by omega))
     have hgy := at_kh HA.out m L[m] (zAt_get1 L x rest m hm)
     obtain ⟨x0, x1, x2, x3, x4⟩ := hgx
     obtain ⟨y0, y1, y2, y3, y4⟩ := hgy
     have hzs := zAt_step L x rest m hm
     have hy1 := zAt_get1 L x rest m hm
     have hd := List.drop_eq_getElem_cons hm
     have ht := List.take_succ_eq_append_getElem hm
     generalize L[m] = y at *
     have HZS := Aside0.mk hzs
     have HY1 := Aside0.mk hy1
     have HDR := Aside0.mk hd
     have HTK := Aside0.mk ht
     clear hzs hd ht hy1
     have e1 : IntKind.i64.wrap (m : Int) = (m : Int) := by rw [IntKind.wrap_i64]; omega
     have i0 : (0 : Int) ≤ (m : Int) + 1 := by omega
     have i1 : (0 : Int) < (m : Int) + 1 := by omega
     have i2 : (m : Int) + 1 < n := by omega
     have i3 : (m : Int) < n := by omega
     have i4 : ((m : Int) + 1).toNat = m + 1 := by omega
     go_wp2
     go_still_tail 14, (by kernel_rfl)
     change wpList _ _ _ _ _ wr.drew
     have hAd := Kd.R_drew HA.out
     have hGd := grown_drew HG.out
     clear x0 x1 x2 x3 x4 y0 y1 y2 y3 y4
     generalize wr.drew = w3 at *
     have HA3 := Aside0.mk hAd
     have HG3 := Aside0.mk hGd
     clear hAd hGd HA HG
     by_cases hlt2 : hkey x < hkey y
     ·have hcmp : cmpI x.1.f2 y.1.f2 = -1 := by unfold hkey at hlt2; unfold cmpI; rw [if_pos hlt2]
      have HLT := Aside0.mk hlt2
      clear hlt2
      go_wp2_with (go_at_call 72; refine (cmpH_any x y _).mono ?_; rintro e w4 ⟨rfl, hb4⟩; rw [hcmp]; have HA4 := Aside0.mk (Kd.R_below HA3.out hb4); have HG4 := Aside0.mk (grown_below HG3.out hb4); clear hb4)
      have hgx := at_kh HA4.out (m + 1) x (zAt_get L x rest (m + 1) (by omega))
      have hgy := at_kh HA4.out m y HY1.out
      obtain ⟨x0, x1, x2, x3, x4⟩ := hgx
      obtain ⟨y0, y1, y2, y3, y4⟩ := hgy
      obtain ⟨g', cap', cur, hv, _, _, hh⟩ := ownh HA4.out (by rw [zAt_len _ _ _ _ (by omega)]; omega)
      injection hv with ha hn1 hc1
      injection ha with ha
      injection ha with ha
      subst ha
      clear hn1 hc1
      have z0 := blk_frozen hh ((m + 1) * 5)
      have z1 := blk_frozen hh ((m + 1) * 5 + 1)
      have z2 := blk_frozen hh ((m + 1) * 5 + 2)
      have z3 := blk_frozen hh ((m + 1) * 5 + 3)
      have z4 := blk_frozen hh ((m + 1) * 5 + 4)
      have v0 := blk_frozen hh (m * 5)
      have v1 := blk_frozen hh (m * 5 + 1)
      have v2 := blk_frozen hh (m * 5 + 2)
      have v3 := blk_frozen hh (m * 5 + 3)
      have v4 := blk_frozen hh (m * 5 + 4)
      clear hh
      have p1 := put_kh HA4.out (m + 1) (by omega) y
      have p2 := put_kh p1.1 m (by omega) x
      have hR5 := Kd.R_drew p2.1
      have hG5 := grown_drew (grown_grown (grown_grown HG4.out p1.2) p2.2)
      rw [HZS.out] at hR5
      simp only [hc, World.setCells, Nat.add_assoc, Nat.reduceAdd] at hR5 hG5
      have HR5 := Aside0.mk hR5
      have HG5 := Aside0.mk hG5
      clear hR5 hG5 p1 p2
      go_region
      revert HR5 HG5
      generalize World.drew _ = w5
      intro HR5 HG5
      go_wp2
      go_roundg m
      case rel => exact ⟨m, by omega, rfl, ⟨rfl⟩, ⟨fun z hz => by
       rw [HDR.out] at hz
       rcases List.mem_cons.1 hz with rfl | hz
       ·exact HLT.out
       ·exact HD.out z hz⟩, HR5, HG5⟩
      case measure => have := HQ.out; omega
     ·have hcmp : decide (cmpI x.1.f2 y.1.f2 < 0) = false := by
       unfold hkey at hlt2; unfold cmpI; rw [if_neg hlt2]; split <;> simp
      have HLT := Aside0.mk hlt2
      clear hlt2
      go_wp2_with (go_at_call 72; refine (cmpH_any x y _).mono ?_; rintro e w4 ⟨rfl, hb4⟩; have HA4 := Aside0.mk (Kd.R_below HA3.out hb4); have HG4 := Aside0.mk (grown_below HG3.out hb4); clear hb4)
      have hdone : isort hkey (xs.take (i + 1)) ++ xs.drop (i + 1) = zAt L x rest (m + 1) := by
       rw [HST.out, HRE.out, insK_at hkey x L (m + 1) (fun z hz => by
        rw [HTK.out] at hz
        have hp := HSRT.out
        rw [← List.take_append_drop m L, List.pairwise_append] at hp
        rcases List.mem_append.1 hz with hz | hz
        ·have := hp.2.2 z hz y (by rw [HDR.out]; simp)
         have := HLT.out
         omega
        ·obtain rfl := List.mem_singleton.1 hz
         have := HLT.out
         omega) HD.out]
       simp [zAt]
      rw [← hdone] at HA4
      clear hdone
      go_roundw
      case rel => exact ⟨i + 1, by omega, by omega, by go_num, HA4, HG4⟩
      case measure => simp [intOf]; omega
  ·have hlt' : ¬ (i : Int) < b := by omega
   obtain rfl : i = b := by omega
   go_wp2
   go_end0
   exact ⟨rfl, HA.out, HG.out⟩
end Go.Proofs.Ytckhjehibjdjdaa.P
namespace Go.Proofs.Ytckhjehibjdjdaa.P
open Go.RowKit Go.Shelf Go.Proofs.YtckhjehibjdjdaaW.PrintWords Go.Proofs.YtckhjehibjdjdaaW.PrintLast Go.Proofs.YtckhjehibjdjdaaW.PrintMore
attribute [local go_sem] Oper.semAt_some
set_option linter.unusedVariables false
set_option linter.unusedSimpArgs false
set_option maxHeartbeats 4000000 in
set_option maxRecDepth 100000 in
theorem insert_none (v : Value) (a b : Nat) (hb : b ≤ a + 1) (ha : a ≤ 4611686018427387904) (w : World) :
  Calls Try.prog 120 #[v, .int .i64 a, .int .i64 b, .func (.func 72) #[] #[]] w fun e w' => e = .returned (.tuple #[]) ∧ w' = w := by
 have h1 : IntKind.i64.wrap ((a : Int) + 1) = (a : Int) + 1 := by rw [IntKind.wrap_i64]; omega
 have h2 : ¬ ((a : Int) + 1 < b) := by omega
 go_enter Try.func120, Try.ntmps120
 go_wp2
 refine wp_loop_rounds 1 ?_
 rw [rounds_succ]
 go_wp2
 go_end0
 exact ⟨rfl, rfl⟩
theorem isort_one {α : Type} (key : α → Int) (xs : List α) (h : xs.length ≤ 1) : isort key xs = xs := by
 match xs, h with
 | [], _ => rfl
 | [x], _ => rfl
 | _ :: _ :: _, h => simp at h
theorem insert_all (A : Option Addr) (n cap base b : Nat) (ok : Nat → Prop) (xs : List HV) (w : World) (hr : Kd.R kh 41 w base ok (.slice A n cap) xs) (hb : b = n) (hn : n ≤ 4611686018427387904) (hok : ∀ k, ok k → k < w.heap.size) (g : Nat) (hg : ∀ a, A = some a → a.block = g) :
  Calls Try.prog 120 #[.slice A n cap, .int .i64 0, .int .i64 b, .func (.func 72) #[] #[]] w fun e w' => e = .returned (.tuple #[]) ∧ Kd.R kh 41 w' base ok (.slice A n cap) (isort hkey xs) ∧ w.grownBy w' (some g) := by
 subst hb
 have hl : xs.length = b := (Kd.R_reads' hr).1.symm
 by_cases h2 : 2 ≤ b
 ·obtain ⟨g', cap', cur, hv, _, _, _⟩ := ownh hr (by omega)
  injection hv with ha hn1 hc1
  subst ha
  obtain rfl : g' = g := hg _ rfl
  have := insert_any g' b cap base b ok xs w hr (Nat.le_refl _) hn h2 hok
  rw [List.take_of_length_le (by omega), List.drop_eq_nil_of_le (by omega), List.append_nil] at this
  exact this
 ·refine (insert_none (.slice A b cap) 0 b (by omega) (by omega) w).mono ?_
  rintro e w' ⟨rfl, rfl⟩
  rw [isort_one hkey xs (by omega)]
  exact ⟨rfl, hr, grown_refl _ _⟩
set_option maxHeartbeats 8000000 in
set_option maxRecDepth 100000 in
theorem stable_any (A : Option Addr) (n cap base : Nat) (ok : Nat → Prop) (xs : List HV) (w : World) (hr : Kd.R kh 41 w base ok (.slice A n cap) xs) (hn : n ≤ 20) (hok : ∀ k, ok k → k < w.heap.size) (g : Nat) (hg : ∀ a, A = some a → a.block = g) :
  Calls Try.prog 103 #[.slice A n cap, .int .i64 n, .func (.func 72) #[] #[]] w fun e w' => e = .returned (.tuple #[]) ∧ Kd.R kh 41 w' base ok (.slice A n cap) (isort hkey xs) ∧ w.grownBy w' (some g) := by
 have HI := Aside0.mk (insert_all A n cap base n ok xs w hr rfl (by omega) hok g hg)
 clear hr hok hg
 by_cases h20 : n = 20
 ·subst h20
  go_enter Try.func103, Try.ntmps103
  go_wp2
  refine wp_loop_rounds 2 ?_
  rw [rounds_succ]
  go_wp2_with (go_at_call 120; refine HI.out.mono ?_; rintro e w1 ⟨rfl, hr1, hg1⟩; have HR1 := Aside0.mk hr1; have HG1 := Aside0.mk hg1; clear hr1 hg1)
  rw [rounds_succ]
  go_wp2_with (go_at_call 120; refine (insert_none _ 20 20 (by omega) (by omega) _).mono ?_; rintro e w' ⟨rfl, rfl⟩)
  refine wp_loop_rounds 1 ?_
  rw [rounds_succ]
  go_wp2
  go_end0
  exact ⟨rfl, HR1.out, HG1.out⟩
 ·have b1 : ¬ ((20 : Int) ≤ n) := by omega
  have b2 : ¬ ((20 : Int) < n) := by omega
  go_enter Try.func103, Try.ntmps103
  go_wp2
  refine wp_loop_rounds 1 ?_
  rw [rounds_succ]
  go_wp2_with (go_at_call 120; refine HI.out.mono ?_; rintro e w1 ⟨rfl, hr1, hg1⟩; have HR1 := Aside0.mk hr1; have HG1 := Aside0.mk hg1; clear hr1 hg1)
  refine wp_loop_rounds 1 ?_
  rw [rounds_succ]
  go_wp2
  go_end0
  exact ⟨rfl, HR1.out, HG1.out⟩
end Go.Proofs.Ytckhjehibjdjdaa.P
namespace Go.Proofs.Ytckhjehibjdjdaa.P
open Go.RowKit Go.Shelf Go.Proofs.YtckhjehibjdjdaaW.PrintWords Go.Proofs.YtckhjehibjdjdaaW.PrintLast Go.Proofs.YtckhjehibjdjdaaW.PrintMore
attribute [local go_sem] Oper.semAt_some
set_option linter.unusedVariables false
set_option linter.unusedSimpArgs false
def SlotsOk (W : World) (ok : Nat → Prop) (x : HV) : Prop := x.2.2.1 = x.1.f4.length ∧ x.1.f4.length ≤ x.2.2.2 ∧ Kd.F k52 W ok x.2.1 x.1.f4.length x.1.f4
theorem holds_of {W : World} {A : Option Addr} {ends : List S41} (h : Kd.C k41 W A ends.length ends) :
  ∃ ps : List HV, ps.map (fun x => x.1) = ends ∧ Kd.C kh W A ps.length ps ∧ ∀ x ∈ ps, SlotsOk W (fun k => k < W.heap.size) x := by
 rcases Nat.eq_zero_or_pos ends.length with h0 | h0
 ·have : ends = [] := List.eq_nil_of_length_eq_zero h0
  subst this
  exact ⟨[], rfl, ⟨rfl, by simp, fun h => absurd h (Nat.lt_irrefl 0)⟩, fun x hx => by cases hx⟩
 obtain ⟨_, hmax, hr⟩ := h
 obtain ⟨ad, rfl, hcc⟩ := hr h0
 have hex : ∀ j : Fin ends.length, ∃ p : Option Addr × Nat, (∀ i u, (hc (ends[j], p.1, (ends[j]).f4.length, p.2))[i]? = some u → W.cell? (ad.add (j * 5 + i)) = some u) ∧ (ends[j]).f4.length ≤ p.2 ∧ k52.C W p.1 (ends[j]).f4.length (ends[j]).f4 := by
  intro j
  obtain ⟨c, hl, hk, hcell⟩ := hcc j.val ends[j] (List.getElem?_eq_getElem j.isLt)
  obtain ⟨A4, c4, rfl, l4, g4⟩ := k41_open hk
  exact ⟨(A4, c4), hcell, l4, g4⟩
 obtain ⟨f, hf⟩ := Classical.axiomOfChoice hex
 refine ⟨List.ofFn fun j : Fin ends.length => (ends[j], (f j).1, (ends[j]).f4.length, (f j).2), ?_, ⟨rfl, by rw [List.length_ofFn]; exact hmax, fun _ => ⟨ad, rfl, fun j p hj => ?_⟩⟩, fun x hx => ?_⟩
 ·apply List.ext_getElem
  ·simp
  ·intro i h1 h2; simp
 ·have hj' : j < ends.length := by have := (List.getElem?_eq_some_iff.1 hj).1; rwa [List.length_ofFn] at this
  rw [List.getElem?_eq_getElem (by rw [List.length_ofFn]; exact hj'), List.getElem_ofFn] at hj
  cases hj
  exact ⟨_, rfl, rfl, (hf ⟨j, hj'⟩).1⟩
 ·obtain ⟨i, hi, rfl⟩ := List.mem_iff_getElem.1 hx
  rw [List.getElem_ofFn]
  rw [List.length_ofFn] at hi
  exact ⟨rfl, (hf ⟨i, hi⟩).2.1, Kd.C_F k52_heap (hf ⟨i, hi⟩).2.2⟩
set_option maxHeartbeats 4000000 in
set_option maxRecDepth 100000 in
theorem clone70_any (A0 : Option Addr) (c0 : Nat) (l0 : List HV) (w : World) (hr0 : Kd.C kh w A0 l0.length l0) (hl : l0.length < 1000000) :
  Calls Try.prog 70 #[.slice A0 l0.length c0] w fun e w' => ∃ v0_ : Value, e = .returned v0_ ∧ Kd.R kh 41 w' w.heap.size (fun _ => True) v0_ l0 ∧ Below w.heap.size w w' := by
 have hu25 := Try.underlying25
 have q25 : ∀ (w : World) (a : Option Addr) (n c n' c' : Nat), (binOp .eql 25 (.slice a n c) (.slice none n' c')).run Try.prog w = .ok (.bool a.isNone) w := fun w a n c n' c' => Lib.run_eql_slice_nil w _ _ a n c n' c' Try.underlying25
 have HR := Aside0.mk hr0
 have HL := Aside0.mk hl
 cases A0 with
 | none =>
  have h0 : l0 = [] := by
   rcases Nat.eq_zero_or_pos l0.length with h | h
   ·exact List.eq_nil_of_length_eq_zero h
   ·obtain ⟨ad, hA, _⟩ := hr0.2.2 h
    cases hA
  subst h0
  clear hr0 hl
  go_enter Try.func70, Try.ntmps70
  go_wp2
  all_goals go_ret
  all_goals exact ⟨_, rfl, Kd.R_nil _ _ _ _ _, Below.refl _ _⟩
 | some ad =>
  clear hr0 hl
  go_enter Try.func70, Try.ntmps70
  go_wp2_with (first | ((with_reducible refine gate_dst (N := 5) rfl ?_); refine Kd.R_lit kh _ 41 ?hg (N := 5) ?hd (xs := ([] : List HV)) (inner := []) (ok := fun _ => True) (okp := fun _ => True) ?hr ?hp (fun _ hk => hk) trivial (Below.refl _ _) (Nat.le_refl _) (by simp) ?_; (case hd => rfl); (case hg => rfl); (case hr => first | (go_simp; done) | (go_simp; rfl)); (case hp => exact (Reps.none _ _)); intro v5 w5 ho5 hb hg_ hnew_; have HO5 := Aside0.mk ho5; have HB5 := Aside0.mk hb; clear hg_ hnew_ ho5 hb) | (refine Kd.R_append_rows kh (w0 := w) w.heap.size rfl (.tmp 5) (.tmp 6) 25 41 (.agg #[(.int .i64 0), (.int .i64 0), (.int .i64 0), (.bool false), (.slice none 0 0)]) 56 rfl Try.underlying25 info41 rfl (by decide) (by omega) v5 [] l0 _ _ _ (fun _ => True) (fun _ => False) rfl rfl HO5.out (Kd.C_below HR.out HB5.out) (fun _ _ h => h) (fun _ h => h.elim) (fun _ _ => trivial) HB5.out (below_size HB5.out) (by have := HL.out; simp; omega) ?_; intro v7 w7 ho hb hg hat; have HO7 := Aside0.mk ho; have HB7 := Aside0.mk hb; clear ho hb hg hat))
  all_goals go_ret
  all_goals exact ⟨_, rfl, HO7.out, HB7.out⟩
theorem clone70_n (A0 : Option Addr) (c0 n : Nat) (l0 : List HV) (w : World) (hn : l0.length = n) (hr0 : Kd.C kh w A0 l0.length l0) (hl : l0.length < 1000000) :
  Calls Try.prog 70 #[.slice A0 n c0] w fun e w' => ∃ v0_ : Value, e = .returned v0_ ∧ Kd.R kh 41 w' w.heap.size (fun _ => True) v0_ l0 ∧ Below w.heap.size w w' := by
 subst hn
 exact clone70_any A0 c0 l0 w hr0 hl
def blkOf (A : Option Addr) (z : Nat) : Nat := match A with | some a => a.block | none => z
theorem blkOf_base {A : Option Addr} {n cap base : Nat} {xs : List HV} {w : World} {ok : Nat → Prop} (hr : Kd.R kh 41 w base ok (.slice A n cap) xs) (hb : base ≤ w.heap.size) : base ≤ blkOf A w.heap.size := by
 cases A with
 | none => exact hb
 | some a => exact Kd.R_base hr a.block (by simp [Value.ownBlock])
end Go.Proofs.Ytckhjehibjdjdaa.P
namespace Go.Proofs.Ytckhjehibjdjdaa.P
open Go.RowKit Go.Shelf Go.Proofs.YtckhjehibjdjdaaW.PrintWords Go.Proofs.YtckhjehibjdjdaaW.PrintLast Go.Proofs.YtckhjehibjdjdaaW.PrintMore
open Go.Proofs.Ytckhjehibjdjdaa.Bits
attribute [local go_sem] Oper.semAt_some
set_option linter.unusedVariables false
set_option linter.unusedSimpArgs false
structure KP (w W : World) (S : Nat → Prop) : Prop where
 kept : Kept w W S
 os : W.os = w.os
 tape : W.tape = w.tape
 output : W.output = w.output
theorem KP.refl (w : World) (S : Nat → Prop) : KP w w S := ⟨Kept.refl _ _, rfl, rfl, rfl⟩
theorem KP.below {w W W' : World} {S : Nat → Prop} (h : KP w W S) (hb : Below W.heap.size W W') : KP w W' S := ⟨h.kept.below hb, hb.os.trans h.os, hb.tape.trans h.tape, hb.output.trans h.output⟩
theorem KP.set {w W : World} {S : Nat → Prop} (h : KP w W S) {g j : Nat} (hs : S g ∨ w.heap.size ≤ g) (u : Value) : KP w (W.setCell ⟨g, j, none⟩ u) S := ⟨h.kept.setCell hs u, h.os, h.tape, h.output⟩
theorem KP.drew {w W : World} {S : Nat → Prop} (h : KP w W S) : KP w W.drew S := ⟨h.kept.drew, h.os, h.tape, h.output⟩
def addU (same : Bool) (a : Int × Int) (s : S52) : Int × Int := if same = true then (wrap64 (a.1 + popI s.f1), wrap64 (a.2 + s.f2)) else a
def addL (same : Bool) (a : Int × Int) (l : List S52) : Int × Int := l.foldl (addU same) a
theorem addL_step (same : Bool) (a : Int × Int) (l : List S52) (j : Nat) (h : j < l.length) : addL same a (l.take (j + 1)) = addU same (addL same a (l.take j)) (rd_T52 l (j : Int)) := by
 have e : rd_T52 l (j : Int) = l[j] := by simp [rd_T52, List.getD_eq_getElem?_getD, List.getElem?_eq_getElem h]
 unfold addL
 rw [List.take_succ_eq_append_getElem h, List.foldl_append, e]; rfl
def maskOk (s : S52) : Bool := decide (0 ≤ s.f1) && decide (s.f1 < 18446744073709551616)
set_option maxHeartbeats 8000000 in
set_option maxRecDepth 100000 in
theorem end_any (gv gw gl : Nat) (x : HV) (view : List S51) (Av : Option Addr) (cv : Nat) (wq wm s0 s1 s2 s3 lg lc : Int) (v' : List S51) (e' : Int) (w : World)
  (hv : w.heap[gv]? = some (.cells #[.slice Av view.length cv] 22 (0, 0))) (hw : w.heap[gw]? = some (.cells #[.int .i64 wq, .int .i64 wm, .int .i64 s0, .int .i64 s1, .int .i64 s2, .int .i64 s3] 29 (0, 0)))
  (hl : w.heap[gl]? = some (.cells #[.int .i64 lg, .int .i64 lc] 24 (0, 0))) (hvw : gv ≠ gw) (hvl : gv ≠ gl) (hwl : gw ≠ gl)
  (hF : Kd.F k51 w (fun k => k ≠ gv ∧ k ≠ gl) Av view.length view) (hc : view.length ≤ cv) (hS : SlotsOk w (fun k => k ≠ gv ∧ k ≠ gl) x) (hm : ∀ s ∈ x.1.f4, maskOk s = true) (hmore : pack_More.f view x.1.f4 = some (v', e')) :
  Calls Try.prog 74 #[.agg #[.int .i64 x.1.f0, .int .i64 x.1.f1, .int .i64 x.1.f2, .bool x.1.f3, .slice x.2.1 x.2.2.1 x.2.2.2], .pointer (some ⟨gv, 0, none⟩), .pointer (some ⟨gw, 0, none⟩), .pointer (some ⟨gl, 0, none⟩)] w fun e w' => e = .returned (.tuple #[]) ∧ KP w w' (fun k => k = gv ∨ k = gl) ∧
   (∃ Av' cv', w'.heap[gv]? = some (.cells #[.slice Av' v'.length cv'] 22 (0, 0)) ∧ v'.length ≤ cv' ∧ Kd.F k51 w' (fun k => k ≠ gv ∧ k ≠ gl) Av' v'.length v') ∧
   w'.heap[gl]? = some (.cells #[.int .i64 (addL (decide (x.1.f1 = wq)) (lg, lc) x.1.f4).1, .int .i64 (addL (decide (x.1.f1 = wq)) (lg, lc) x.1.f4).2] 24 (0, 0)) := by
 have hu41 := Try.underlying41
 have hu52 := Try.underlying52
 have hu24 := Try.underlying24
 have hu29 := Try.underlying29
 obtain ⟨⟨x0, x1, x2, x3, sl⟩, As, ns, cs⟩ := x
 obtain ⟨hn, hcs, hFs⟩ := hS
 simp only at hn hcs hFs hm hmore ⊢
 subst hn
 obtain ⟨same, hsm0⟩ : ∃ b : Bool, decide (x1 = wq) = b := ⟨_, rfl⟩
 rw [hsm0]
 have HSM := Aside0.mk hsm0
 clear hsm0
 have gvl := blk_lt hv
 have gwl := blk_lt hw
 have gll := blk_lt hl
 have HV0 := Aside0.mk hv
 have HW0 := Aside0.mk hw
 have HL0 := Aside0.mk hl
 have HF := Aside0.mk hF
 have HFS := Aside0.mk hFs
 have HM := Aside0.mk hm
 have HC := Aside0.mk hc
 have HCS := Aside0.mk hcs
 have HMO := Aside0.mk hmore
 clear hv hw hl hF hFs hm hc hcs hmore
 go_enter Try.func74, Try.ntmps74
 go_wp2_with (first | ((with_reducible refine gate_dst (N := 4) rfl ?_); refine bx 4 #[.int .i64 x0, .int .i64 x1, .int .i64 x2, .bool x3, .slice As sl.length cs] 41 ?_; intro g4 hg4 w4 hx4 hb4; have HX4 := Aside0.mk hx4; have HB4 := Aside0.mk hb4; have n1 : gv ≠ g4 := (by omega); have n2 : gw ≠ g4 := (by omega); have n3 : gl ≠ g4 := (by omega); have a0 := (blk_cell (blk_below HV0.out hb4) 0).trans rfl; have a1 : w4.cell? ⟨g4, 4, none⟩ = some (.slice As sl.length cs) := (blk_cell hx4 4).trans rfl; clear hg4 hx4 hb4) | (go_at_call 52; refine (pack_More.calls Av cv view As cs sl v' e' _ (Kd.F_now (Kd.F_below HF.out HB4.out)) HC.out (Kd.F_now (Kd.F_below HFS.out HB4.out)) HCS.out HMO.out).mono ?_; rintro e w5 ⟨v5, rfl, ho5, hb5⟩; have hb45 := below_step HB4.out hb5; obtain ⟨A5, c5, rfl, hc5, _⟩ := Kd.R_reads ho5; have HO5 := Aside0.mk ho5; have HB5 := Aside0.mk hb45; have HX5 := Aside0.mk (blk_below HX4.out hb5); have HC5 := Aside0.mk hc5; have HS4 := Aside0.mk HB4.out.size; have b0 := (blk_cell (blk_below HV0.out hb45) 0).trans rfl; have b1 := blk_frozen (blk_below HV0.out hb45) 0; have b2 : w5.cell? ⟨g4, 4, none⟩ = some (.slice As sl.length cs) := (blk_cell HX5.out 4).trans rfl; clear a0 a1 hb45 ho5 hb5 hc5))
 have HK6 := (KP.below (KP.refl w (fun k => k = gv ∨ k = gl)) HB5.out).set (j := 0) (g := gv) (Or.inl (Or.inl rfl)) (.slice A5 v'.length c5)
 have HV6 : (w5.setCell ⟨gv, 0, none⟩ (.slice A5 v'.length c5)).heap[gv]? = some (.cells #[.slice A5 v'.length c5] 22 (0, 0)) := blk_set (blk_below HV0.out HB5.out) 0 (.slice A5 v'.length c5)
 have HW6 := blk_far (blk_below HW0.out HB5.out) (p := ⟨gv, 0, none⟩) (fun e => hvw e.symm) (.slice A5 v'.length c5)
 have HL6 := blk_far (blk_below HL0.out HB5.out) (p := ⟨gv, 0, none⟩) (fun e => hvl e.symm) (.slice A5 v'.length c5)
 have HX6 := blk_far HX5.out (p := ⟨gv, 0, none⟩) (fun e => n1 e.symm) (.slice A5 v'.length c5)
 have HFS6 := Kd.F_far (Kd.F_below HFS.out HB5.out) (p := ⟨gv, 0, none⟩) (fun k hk => hk.1) (.slice A5 v'.length c5)
 have HF6 := Kd.F_far (Kd.F_mono (ok' := fun k => k ≠ gv ∧ k ≠ gl) (Kd.R_F (Kd.R_bound HO5.out)) (fun k hk => by have := hk.2.1; have := HS4.out; exact ⟨by omega, by omega⟩)) (p := ⟨gv, 0, none⟩) (fun k hk => hk.1) (.slice A5 v'.length c5)
 replace HK6 := Aside0.mk HK6
 replace HV6 := Aside0.mk HV6
 replace HW6 := Aside0.mk HW6
 replace HL6 := Aside0.mk HL6
 replace HX6 := Aside0.mk HX6
 replace HFS6 := Aside0.mk HFS6
 replace HF6 := Aside0.mk HF6
 clear b0 b1 b2 HO5 HB5 HX5 HX4 HB4
 generalize w5.setCell ⟨gv, 0, none⟩ (.slice A5 v'.length c5) = w6 at *
 go_loopw [17] (fun v17 wr => ∃ j : Nat, j ≤ sl.length ∧ v17 = .int .i64 (j : Int) ∧ Aside0 (KP w wr (fun k => k = gv ∨ k = gl)) ∧ Aside0 (wr.heap[gv]? = some (.cells #[.slice A5 v'.length c5] 22 (0, 0))) ∧ Aside0 (wr.heap[gw]? = some (.cells #[.int .i64 wq, .int .i64 wm, .int .i64 s0, .int .i64 s1, .int .i64 s2, .int .i64 s3] 29 (0, 0))) ∧ Aside0 (wr.heap[gl]? = some (.cells #[.int .i64 (addL same (lg, lc) (sl.take j)).1, .int .i64 (addL same (lg, lc) (sl.take j)).2] 24 (0, 0))) ∧ Aside0 (wr.heap[g4]? = some (.cells #[.int .i64 x0, .int .i64 x1, .int .i64 x2, .bool x3, .slice As sl.length cs] 41 (0, 0))) ∧ Aside0 (Kd.F k52 wr (fun k => k ≠ gv ∧ k ≠ gl) As sl.length sl) ∧ Aside0 (Kd.F k51 wr (fun k => k ≠ gv ∧ k ≠ gl) A5 v'.length v')) (fun v17 _ => sl.length - (intOf v17).toNat)
 case atStart => exact ⟨0, Nat.zero_le _, rfl, HK6, HV6, HW6, HL6, HX6, HFS6, HF6⟩
 case round =>
  clear HK6 HV6 HW6 HL6 HX6 HFS6 HF6
  obtain ⟨j, hj, rfl, HK, HV, HW, HL, HX, HFS, HFV⟩ := hrel
  have q0 : wr.cell? ⟨g4, 1, none⟩ = some (.int .i64 x1) := (blk_cell HX.out 1).trans rfl
  have q1 : wr.cell? ⟨gw, 0, none⟩ = some (.int .i64 wq) := (blk_cell HW.out 0).trans rfl
  have hlm := Kd.F_max HFS.out
  by_cases hlt : j < sl.length
  ·have h0 : 0 ≤ (j : Int) := by omega
   have h1' : (j : Int) < sl.length := by omega
   obtain ⟨ad1, ee, y0, y1, y2, y3⟩ := at_T52 (Kd.F_now HFS.out) (j : Int) h0 h1'
   cases ee
   simp only [Int.toNat_natCast] at y0 y1 y2 y3
   have hstep := addL_step same (lg, lc) sl j hlt
   have hmk := HM.out (rd_T52 sl (j : Int)) (by simp [rd_T52, List.getD_eq_getElem?_getD, List.getElem?_eq_getElem hlt])
   generalize rd_T52 sl (j : Int) = s at *
   generalize addL same (lg, lc) (sl.take j) = acc at *
   obtain ⟨⟨t0, t1⟩, sm, sc⟩ := s
   simp only [maskOk, Bool.and_eq_true, decide_eq_true_eq] at hmk
   have HMK := Aside0.mk hmk
   have HST := Aside0.mk hstep
   clear hmk hstep
   simp only at y0 y1 y2 y3
   have hKa := HK.out.below (below_alloc (Below.refl _ _) (.cells #[.int .i64 t0, .int .i64 t1, .int .u64 sm, .int .i64 sc] 52))
   have hVa := blk_alloc HV.out (.cells #[.int .i64 t0, .int .i64 t1, .int .u64 sm, .int .i64 sc] 52)
   have hWa := blk_alloc HW.out (.cells #[.int .i64 t0, .int .i64 t1, .int .u64 sm, .int .i64 sc] 52)
   have hLa := blk_alloc HL.out (.cells #[.int .i64 t0, .int .i64 t1, .int .u64 sm, .int .i64 sc] 52)
   have hXa := blk_alloc HX.out (.cells #[.int .i64 t0, .int .i64 t1, .int .u64 sm, .int .i64 sc] 52)
   have hFSa := Kd.F_alloc HFS.out (.cells #[.int .i64 t0, .int .i64 t1, .int .u64 sm, .int .i64 sc] 52)
   have hFVa := Kd.F_alloc HFV.out (.cells #[.int .i64 t0, .int .i64 t1, .int .u64 sm, .int .i64 sc] 52)
   have hBa := heap_alloc_new wr (.cells #[.int .i64 t0, .int .i64 t1, .int .u64 sm, .int .i64 sc] 52)
   have n5 : gl ≠ wr.heap.size := by have := blk_lt HL.out; omega
   have n6 : gv ≠ wr.heap.size := by have := blk_lt HV.out; omega
   have hKA := Aside0.mk hKa
   have hVA := Aside0.mk hVa
   have hWA := Aside0.mk hWa
   have hLA := Aside0.mk hLa
   have hXA := Aside0.mk hXa
   have hFSA := Aside0.mk hFSa
   have hFVA := Aside0.mk hFVa
   have hBA := Aside0.mk hBa
   have qa0 : (wr.alloc (.cells #[.int .i64 t0, .int .i64 t1, .int .u64 sm, .int .i64 sc] 52)).cell? ⟨g4, 1, none⟩ = some (.int .i64 x1) := (blk_cell hXa 1).trans rfl
   have qa1 : (wr.alloc (.cells #[.int .i64 t0, .int .i64 t1, .int .u64 sm, .int .i64 sc] 52)).cell? ⟨gw, 0, none⟩ = some (.int .i64 wq) := (blk_cell hWa 0).trans rfl
   clear hKa hVa hWa hLa hXa hFSa hFVa hBa HK HV HW HL HX HFS HFV
   by_cases hq : x1 = wq
   ·have bq : (x1 == wq) = true := by simpa using hq
    have hsm : same = true := by rw [← HSM.out]; simpa using hq
    clear HSM
    subst hsm
    clear hq
    go_wp2
    clear qa0 qa1
    generalize wr.alloc (.cells #[.int .i64 t0, .int .i64 t1, .int .u64 sm, .int .i64 sc] 52) = wa at *
    have l0 : wa.cell? ⟨gl, 0, none⟩ = some (.int .i64 acc.1) := (blk_cell hLA.out 0).trans rfl
    have b2 : wa.cell? ⟨wr.heap.size, 1 + 1, none⟩ = some (.int .u64 sm) := (blk_cell hBA.out 2).trans rfl
    go_still_tail 7, (by kernel_rfl)
    still_call ((count_any _ HMK.out.1 HMK.out.2 _))
    repeat still_step
    refine wpStill_nil ?_
    change wpList _ _ _ _ _ wa.drew
    clear l0 b2
    have l0 : wa.drew.cell? ⟨gl, 0, none⟩ = some (.int .i64 acc.1) := (blk_cell hLA.out 0).trans rfl
    have z0 : wa.drew.frozen? ⟨gl, 0, none⟩ = false := blk_frozen hLA.out 0
    have z1 : wa.frozen? ⟨gl, 1, none⟩ = false := blk_frozen hLA.out 1
    have l1 : wa.cell? ⟨gl, 1, none⟩ = some (.int .i64 acc.2) := (blk_cell hLA.out 1).trans rfl
    have b3 : wa.cell? ⟨wr.heap.size, 3, none⟩ = some (.int .i64 sc) := (blk_cell hBA.out 3).trans rfl
    go_wp2
    go_roundw
    case rel => exact ⟨j + 1, by omega, by go_num, ⟨((hKA.out.set (g := gl) (j := 0) (Or.inl (Or.inr rfl)) _).set (g := gl) (j := 1) (Or.inl (Or.inr rfl)) _).drew⟩,
     ⟨blk_far (blk_far hVA.out (p := ⟨gl, 0, none⟩) hvl _) (p := ⟨gl, 1, none⟩) hvl _⟩, ⟨blk_far (blk_far hWA.out (p := ⟨gl, 0, none⟩) hwl _) (p := ⟨gl, 1, none⟩) hwl _⟩,
     ⟨by rw [HST.out]; exact blk_set (blk_set hLA.out 0 _) 1 _⟩, ⟨blk_far (blk_far hXA.out (p := ⟨gl, 0, none⟩) (fun e => n3 e.symm) _) (p := ⟨gl, 1, none⟩) (fun e => n3 e.symm) _⟩,
     ⟨Kd.F_drew (Kd.F_far (Kd.F_far hFSA.out (p := ⟨gl, 0, none⟩) (fun k hk => hk.2) _) (p := ⟨gl, 1, none⟩) (fun k hk => hk.2) _)⟩, ⟨Kd.F_drew (Kd.F_far (Kd.F_far hFVA.out (p := ⟨gl, 0, none⟩) (fun k hk => hk.2) _) (p := ⟨gl, 1, none⟩) (fun k hk => hk.2) _)⟩⟩
    case measure => simp [intOf]; omega
   ·have bq : (x1 == wq) = false := by simpa using hq
    have hsm : same = false := by rw [← HSM.out]; simpa using hq
    clear HSM
    subst hsm
    clear hq
    go_wp2
    go_roundw
    case rel => exact ⟨j + 1, by omega, by go_num, hKA, hVA, hWA, ⟨by rw [HST.out]; exact hLA.out⟩, hXA, hFSA, hFVA⟩
    case measure => simp [intOf]; omega
  ·obtain rfl : j = sl.length := by omega
   go_wp2
   go_end0
   refine ⟨rfl, HK.out, ⟨A5, c5, HV.out, HC5.out, HFV.out⟩, ?_⟩
   have := HL.out
   rw [List.take_length] at this
   exact this
end Go.Proofs.Ytckhjehibjdjdaa.P
namespace Go.Proofs.Ytckhjehibjdjdaa.P
open Go.RowKit Go.Proofs.YtckhjehibjdjdaaW.PrintWords Go.Proofs.YtckhjehibjdjdaaW.PrintLast Go.Proofs.YtckhjehibjdjdaaW.PrintMore
attribute [local go_sem] max2_int min2_int max_two min_two max_three min_three max_four min_four
set_option linter.unusedVariables false
set_option linter.unusedSimpArgs false
def pack_Room.l0 : Nat → Int → List (S51) → Int → Int → Int → Int → Int → Int → Option (Int)
 | 0, _, _, _, _, _, _, _, _ => none
 | k + 1, x5, x8, x9, x10, x240000, x240001, x240002, x240003 => if x10 < x9 then (if 0 ≤ x10 then (if x10 < (x8.length : Int) then ((shape_Fits.f x240000 x240001 x240002 x240003 ((rd_T51 x8 x10).f0.f0) ((rd_T51 x8 x10).f0.f1) ((rd_T51 x8 x10).f1) ((rd_T51 x8 x10).f2)).bind fun t242 => (pack_Room.l0 k (wrap64 (x5 + t242)) x8 x9 (wrap64 (x10 + 1)) x240000 x240001 x240002 x240003)) else (none)) else (none)) else (some x5)
def pack_Room.f (k : Nat) (l0 : List (S51)) (a1_0 : Int) (a1_1 : Int) (a1_2 : Int) (a1_3 : Int) : Option (Int) := pack_Room.l0 k 0 l0 (l0.length : Int) 0 a1_0 a1_1 a1_2 a1_3
set_option maxHeartbeats 8000000 in
set_option maxRecDepth 100000 in
theorem pack_Room.calls (k : Nat) (A0 : Option Addr) (c0 : Nat) (l0 : List (S51)) (a1_0 : Int) (a1_1 : Int) (a1_2 : Int) (a1_3 : Int) (r : Int) (w : World) (hr0 : Kd.C k51 w A0 l0.length l0) (hc0 : l0.length ≤ c0) (h : pack_Room.f k l0 a1_0 a1_1 a1_2 a1_3 = some r) :
  Calls Try.prog 50 #[.slice A0 l0.length c0, .agg #[.int .i64 a1_0, .int .i64 a1_1, .int .i64 a1_2, .int .i64 a1_3]] w fun e w' => e = .returned (.int .i64 r) ∧ Below w.heap.size w w' := by
 have hu27 := Try.underlying27
 have hu51 := Try.underlying51
 have HR0 := Aside0.mk hr0
 have HC0 := Aside0.mk hc0
 clear hr0 hc0
 have HB := Aside0.mk (Below.refl w.heap.size w)
 have H : (pack_Room.l0 k 0 l0 (l0.length : Int) 0 a1_0 a1_1 a1_2 a1_3) = some r := h
 clear h
 have H' := Aside0.mk H
 clear H
 go_enter Try.func50, Try.ntmps50
 go_wp2_with (first | ((with_reducible refine gate_dst (N := 3) rfl ?_); refine bx 3 #[.int .i64 a1_0, .int .i64 a1_1, .int .i64 a1_2, .int .i64 a1_3] 27 ?_; intro gb239 hg w3 hbox hb; have BK239 := Aside0.mk (hbox); have GW239 := ge_ hg; have GE239 := ge_ hg; replace HB := hs_ hb; clear hb hbox hg))
 go_loopg [5, 10] k (fun kq v5 v10 w' => ∃ (x5_1 : Int) (x10_1 : Int), v5 = .int .i64 x5_1 ∧ v10 = .int .i64 x10_1 ∧ Aside0 (pack_Room.l0 kq x5_1 l0 (l0.length : Int) x10_1 a1_0 a1_1 a1_2 a1_3 = some r) ∧ Aside0 (kq ≤ k) ∧ Aside0 (w'.heap[gb239]? = some (.cells #[.int .i64 a1_0, .int .i64 a1_1, .int .i64 a1_2, .int .i64 a1_3] 27 (0, 0))) ∧ Aside0 (Below w.heap.size w w'))
 case atStart => exact ⟨(0), (0), Z1, Z1, H', ⟨Nat.le_refl _⟩, ⟨bo_ BK239⟩, ⟨hb_⟩⟩
 case round =>
  clear H'
  try clear p2
  obtain ⟨x5_1, x10_1, rfl, rfl, HA, HK1, BK239, HB⟩ := hrel
  cases gk with
  | zero => exact absurd HA.out (by simp [pack_Room.l0])
  | succ k1 =>
   have H := HA.out
   clear HA
   simp only [pack_Room.l0] at H
   by_cases c4 : x10_1 < (l0.length : Int)
   ·rw [if_pos c4] at H
    have c4b0 : decide (x10_1 < (l0.length : Int)) = true := decide_eq_true c4
    clear c4
    by_cases c5 : 0 ≤ x10_1
    ·rw [if_pos c5] at H
     have c5b0 : decide (0 ≤ x10_1) = true := decide_eq_true c5
     clear c5
     by_cases c6 : x10_1 < (l0.length : Int)
     ·rw [if_pos c6] at H
      have c6b0 : decide (x10_1 < (l0.length : Int)) = true := decide_eq_true c6
      clear c6
      replace H := Option.bind_eq_some_iff.mp H
      obtain ⟨t242, A70, H⟩ := H
      replace H : (pack_Room.l0 k1 (wrap64 (x5_1 + t242)) l0 (l0.length : Int) (wrap64 (x10_1 + 1)) a1_0 a1_1 a1_2 a1_3) = some r := H
      have A7 := Aside0.mk A70
      clear A70
      have H' := Aside0.mk H
      clear H
      have p240 : 0 ≤ (x10_1 : Int) := of_decide_eq_true Z2
      have q240 : x10_1 < (l0.length : Int) := of_decide_eq_true Z2
      obtain ⟨ad240, e240, hx240_0, hx240_1, hx240_2, hx240_3⟩ := at_T51 HR0.out x10_1 p240 q240
      cases e240
      replace hx240_0 := cx_ hx240_0
      replace hx240_1 := cx_ hx240_1
      replace hx240_2 := cx_ hx240_2
      replace hx240_3 := cx_ hx240_3
      replace p240 := eq_true p240
      replace q240 := eq_true q240
      go_wp2_with (first | ((with_reducible refine gate_dst (N := 7) rfl ?_); refine bx 7 #[.int .i64 0, .int .i64 0, .int .u64 0, .int .i64 0] 51 ?_; intro gb241 hg w8 hbox hb; have BK241 := Aside0.mk (hbox); have GW241 := ge_ hg; have GE241 := ge_ hg; have NB239_241 := nl_ BK239 hg; have NB241_239 := nr_ BK239 hg; replace BK239 := bk_ BK239 hb; replace HB := hs_ hb; clear hb hbox hg; have hnb9 := NB241_239.out; have hnc9 := NB239_241.out; obtain ⟨hcz10_0, hcz10_1, hcz10_2, hcz10_3, hfz10_0, hfz10_1, hfz10_2, hfz10_3⟩ := bz4_ BK241; obtain ⟨hcz11_0, hcz11_1, hcz11_2, hcz11_3, hfz11_0, hfz11_1, hfz11_2, hfz11_3⟩ := bz4_ BK239) | ((with_reducible refine gate_callee (f := 87) rfl ?_); refine goesL_ (some 17) rfl rfl Try.func87 (by kernel_rfl) rfl #[.agg #[.int .i64 a1_0, .int .i64 a1_1, .int .i64 a1_2, .int .i64 a1_3], .agg #[.int .i64 ((rd_T51 l0 x10_1).f0.f0), .int .i64 ((rd_T51 l0 x10_1).f0.f1), .int .u64 ((rd_T51 l0 x10_1).f1), .int .i64 ((rd_T51 l0 x10_1).f2)]] rfl Z0 ?_; (with_reducible refine (shape_Fits.calls a1_0 a1_1 a1_2 a1_3 ((rd_T51 l0 x10_1).f0.f0) ((rd_T51 l0 x10_1).f0.f1) ((rd_T51 l0 x10_1).f1) ((rd_T51 l0 x10_1).f2) t242 _ A7.out).mono ?_); rintro e w12 ⟨rfl, hb⟩; refine ⟨_, rfl, ?_⟩; replace BK239 := Aside0.mk (blk_below (g := gb239) (o := .cells #[.int .i64 a1_0, .int .i64 a1_1, .int .i64 a1_2, .int .i64 a1_3] 27 (0, 0)) (by (with_reducible repeat (first | refine blk_drewN ?_ _ | refine blk_drew ?_ | refine blk_alloc ?_ _)); refine blk_far ?_ NB239_241.out _; (with_reducible repeat (first | refine blk_drewN ?_ _ | refine blk_drew ?_ | refine blk_alloc ?_ _)); refine blk_far ?_ NB239_241.out _; (with_reducible repeat (first | refine blk_drewN ?_ _ | refine blk_drew ?_ | refine blk_alloc ?_ _)); refine blk_far ?_ NB239_241.out _; (with_reducible repeat (first | refine blk_drewN ?_ _ | refine blk_drew ?_ | refine blk_alloc ?_ _)); refine blk_far ?_ NB239_241.out _; (with_reducible repeat (first | refine blk_drewN ?_ _ | refine blk_drew ?_ | refine blk_alloc ?_ _)); exact BK239.out) hb); replace BK241 := Aside0.mk (blk_below (g := gb241) (o := .cells #[.int .i64 ((rd_T51 l0 x10_1).f0.f0), .int .i64 ((rd_T51 l0 x10_1).f0.f1), .int .u64 ((rd_T51 l0 x10_1).f1), .int .i64 ((rd_T51 l0 x10_1).f2)] 51 (0, 0)) (by (with_reducible repeat (first | refine blk_drewN ?_ _ | refine blk_drew ?_ | refine blk_alloc ?_ _)); refine blk_put (cs := #[.int .i64 ((rd_T51 l0 x10_1).f0.f0), .int .i64 ((rd_T51 l0 x10_1).f0.f1), .int .u64 ((rd_T51 l0 x10_1).f1), .int .i64 0]) ?_ 3 _ rfl; (with_reducible repeat (first | refine blk_drewN ?_ _ | refine blk_drew ?_ | refine blk_alloc ?_ _)); refine blk_put (cs := #[.int .i64 ((rd_T51 l0 x10_1).f0.f0), .int .i64 ((rd_T51 l0 x10_1).f0.f1), .int .u64 0, .int .i64 0]) ?_ 2 _ rfl; (with_reducible repeat (first | refine blk_drewN ?_ _ | refine blk_drew ?_ | refine blk_alloc ?_ _)); refine blk_put (cs := #[.int .i64 ((rd_T51 l0 x10_1).f0.f0), .int .i64 0, .int .u64 0, .int .i64 0]) ?_ 1 _ rfl; (with_reducible repeat (first | refine blk_drewN ?_ _ | refine blk_drew ?_ | refine blk_alloc ?_ _)); refine blk_put (cs := #[.int .i64 0, .int .i64 0, .int .u64 0, .int .i64 0]) ?_ 0 _ rfl; (with_reducible repeat (first | refine blk_drewN ?_ _ | refine blk_drew ?_ | refine blk_alloc ?_ _)); exact BK241.out) hb); replace HB := hs_ hb; (try clear hb); (try clear hb2); (try clear hk); (try clear hi)))
      go_roundg k1
      case measure => have := HK1.out; omega
      case rel => exact ⟨(wrap64 (x5_1 + t242)), (wrap64 (x10_1 + 1)), Z1, Z1, H', ⟨by have := HK1.out; omega⟩, ⟨bo_ BK239⟩, ⟨hb_⟩⟩
     ·rw [if_neg c6] at H
      exact absurd H (by simp)
    ·rw [if_neg c5] at H
     exact absurd H (by simp)
   ·rw [if_neg c4] at H
    have c4b0 : decide (x10_1 < (l0.length : Int)) = false := decide_eq_false c4
    clear c4
    obtain rfl := Option.some.inj H
    go_wp2
    go_ret
    exact ⟨by first | rfl | (simp [errW_none, errW_some] <;> rfl) | (simp [*, errW_none, errW_some] <;> rfl), hb_⟩
end Go.Proofs.Ytckhjehibjdjdaa.P
namespace Go.Proofs.Ytckhjehibjdjdaa.P
open Go.RowKit Go.Proofs.YtckhjehibjdjdaaW.PrintWords Go.Proofs.YtckhjehibjdjdaaW.PrintLast Go.Proofs.YtckhjehibjdjdaaW.PrintMore
attribute [local go_sem] max2_int min2_int max_two min_two max_three min_three max_four min_four
set_option linter.unusedVariables false
set_option linter.unusedSimpArgs false
def promise_right.f (a0_0 : Int) (a0_1 : Int) (a0_2 : Int) (a0_3 : Int) (a0_4 : Int) (a0_5 : Int) : Option (Bool) := (shape_Check.f a0_2 a0_3 a0_4 a0_5).bind fun t244 => (if t244 = 0 then (if a0_1 ≥ 1 then (some (decide (a0_1 ≤ 16))) else (some false)) else (some false))
set_option maxHeartbeats 8000000 in
set_option maxRecDepth 100000 in
theorem promise_right.calls (a0_0 : Int) (a0_1 : Int) (a0_2 : Int) (a0_3 : Int) (a0_4 : Int) (a0_5 : Int) (r : Bool) (w : World) (h : promise_right.f a0_0 a0_1 a0_2 a0_3 a0_4 a0_5 = some r) :
  Calls Try.prog 68 #[.agg #[.int .i64 a0_0, .int .i64 a0_1, .int .i64 a0_2, .int .i64 a0_3, .int .i64 a0_4, .int .i64 a0_5]] w fun e w' => e = .returned (.bool r) ∧ Below w.heap.size w w' := by
 have hu29 := Try.underlying29
 have hu27 := Try.underlying27
 have HB := Aside0.mk (Below.refl w.heap.size w)
 have H : ((shape_Check.f a0_2 a0_3 a0_4 a0_5).bind fun t244 => (if t244 = 0 then (if a0_1 ≥ 1 then (some (decide (a0_1 ≤ 16))) else (some false)) else (some false))) = some r := h
 clear h
 replace H := Option.bind_eq_some_iff.mp H
 obtain ⟨t244, A20, H⟩ := H
 replace H : (if t244 = 0 then (if a0_1 ≥ 1 then (some (decide (a0_1 ≤ 16))) else (some false)) else (some false)) = some r := H
 have A2 := Aside0.mk A20
 clear A20
 by_cases c3 : t244 = 0
 ·rw [if_pos c3] at H
  have c3b0 : (t244 == 0) = true := beq_iff_eq.mpr c3
  have c3b1 : (t244 != 0) = false := bne_eq_false_iff_eq.mpr c3
  clear c3
  by_cases c4 : a0_1 ≥ 1
  ·rw [if_pos c4] at H
   have c4b0 : decide (1 ≤ a0_1) = true := decide_eq_true c4
   clear c4
   obtain rfl := Option.some.inj H
   go_enter Try.func68, Try.ntmps68
   go_wp2_with (first | ((with_reducible refine gate_dst (N := 1) rfl ?_); refine bx 1 #[.int .i64 a0_0, .int .i64 a0_1, .int .i64 a0_2, .int .i64 a0_3, .int .i64 a0_4, .int .i64 a0_5] 29 ?_; intro gb243 hg w5 hbox hb; have BK243 := Aside0.mk (hbox); have GW243 := ge_ hg; have GE243 := ge_ hg; replace HB := hs_ hb; clear hb hbox hg; obtain ⟨hcz6_0, hcz6_1, hcz6_2, hcz6_3, hcz6_4, hcz6_5, hfz6_0, hfz6_1, hfz6_2, hfz6_3, hfz6_4, hfz6_5⟩ := bz6_ BK243) | ((with_reducible refine gate_callee (f := 83) rfl ?_); refine goesL_ (some 5) rfl rfl Try.func83 (by kernel_rfl) rfl #[.agg #[.int .i64 a0_2, .int .i64 a0_3, .int .i64 a0_4, .int .i64 a0_5]] rfl Z0 ?_; (with_reducible refine (shape_Check.calls a0_2 a0_3 a0_4 a0_5 t244 _ A2.out).mono ?_); rintro e w7 ⟨rfl, hb⟩; refine ⟨_, rfl, ?_⟩; replace BK243 := bk_ BK243 hb; replace HB := hs_ hb; (try clear hb); (try clear hb2); (try clear hk); (try clear hi); obtain ⟨hcz8_0, hcz8_1, hcz8_2, hcz8_3, hcz8_4, hcz8_5, hfz8_0, hfz8_1, hfz8_2, hfz8_3, hfz8_4, hfz8_5⟩ := bz6_ BK243))
   go_ret
   exact ⟨by first | rfl | (simp [errW_none, errW_some] <;> rfl) | (simp [*, errW_none, errW_some] <;> rfl), hb_⟩
  ·rw [if_neg c4] at H
   have c4b0 : decide (1 ≤ a0_1) = false := decide_eq_false c4
   clear c4
   obtain rfl := Option.some.inj H
   go_enter Try.func68, Try.ntmps68
   go_wp2_with (first | ((with_reducible refine gate_dst (N := 1) rfl ?_); refine bx 1 #[.int .i64 a0_0, .int .i64 a0_1, .int .i64 a0_2, .int .i64 a0_3, .int .i64 a0_4, .int .i64 a0_5] 29 ?_; intro gb243 hg w9 hbox hb; have BK243 := Aside0.mk (hbox); have GW243 := ge_ hg; have GE243 := ge_ hg; replace HB := hs_ hb; clear hb hbox hg; obtain ⟨hcz10_0, hcz10_1, hcz10_2, hcz10_3, hcz10_4, hcz10_5, hfz10_0, hfz10_1, hfz10_2, hfz10_3, hfz10_4, hfz10_5⟩ := bz6_ BK243) | ((with_reducible refine gate_callee (f := 83) rfl ?_); refine goesL_ (some 5) rfl rfl Try.func83 (by kernel_rfl) rfl #[.agg #[.int .i64 a0_2, .int .i64 a0_3, .int .i64 a0_4, .int .i64 a0_5]] rfl Z0 ?_; (with_reducible refine (shape_Check.calls a0_2 a0_3 a0_4 a0_5 t244 _ A2.out).mono ?_); rintro e w11 ⟨rfl, hb⟩; refine ⟨_, rfl, ?_⟩; replace BK243 := bk_ BK243 hb; replace HB := hs_ hb; (try clear hb); (try clear hb2); (try clear hk); (try clear hi); obtain ⟨hcz12_0, hcz12_1, hcz12_2, hcz12_3, hcz12_4, hcz12_5, hfz12_0, hfz12_1, hfz12_2, hfz12_3, hfz12_4, hfz12_5⟩ := bz6_ BK243))
   go_ret
   exact ⟨by first | rfl | (simp [errW_none, errW_some] <;> rfl) | (simp [*, errW_none, errW_some] <;> rfl), hb_⟩
 ·rw [if_neg c3] at H
  have c3b0 : (t244 == 0) = false := beq_eq_false_iff_ne.mpr c3
  have c3b1 : (t244 != 0) = true := bne_iff_ne.mpr c3
  obtain rfl := Option.some.inj H
  go_enter Try.func68, Try.ntmps68
  go_wp2_with (first | ((with_reducible refine gate_dst (N := 1) rfl ?_); refine bx 1 #[.int .i64 a0_0, .int .i64 a0_1, .int .i64 a0_2, .int .i64 a0_3, .int .i64 a0_4, .int .i64 a0_5] 29 ?_; intro gb243 hg w13 hbox hb; have BK243 := Aside0.mk (hbox); have GW243 := ge_ hg; have GE243 := ge_ hg; replace HB := hs_ hb; clear hb hbox hg; obtain ⟨hcz14_0, hcz14_1, hcz14_2, hcz14_3, hcz14_4, hcz14_5, hfz14_0, hfz14_1, hfz14_2, hfz14_3, hfz14_4, hfz14_5⟩ := bz6_ BK243) | ((with_reducible refine gate_callee (f := 83) rfl ?_); refine goesL_ (some 5) rfl rfl Try.func83 (by kernel_rfl) rfl #[.agg #[.int .i64 a0_2, .int .i64 a0_3, .int .i64 a0_4, .int .i64 a0_5]] rfl Z0 ?_; (with_reducible refine (shape_Check.calls a0_2 a0_3 a0_4 a0_5 t244 _ A2.out).mono ?_); rintro e w15 ⟨rfl, hb⟩; refine ⟨_, rfl, ?_⟩; replace BK243 := bk_ BK243 hb; replace HB := hs_ hb; (try clear hb); (try clear hb2); (try clear hk); (try clear hi)))
  go_ret
  exact ⟨by first | rfl | (simp [errW_none, errW_some] <;> rfl) | (simp [*, errW_none, errW_some] <;> rfl), hb_⟩
end Go.Proofs.Ytckhjehibjdjdaa.P
namespace Go.Proofs.Ytckhjehibjdjdaa.P
open Go.RowKit Go.Proofs.YtckhjehibjdjdaaW.PrintWords Go.Proofs.YtckhjehibjdjdaaW.PrintLast Go.Proofs.YtckhjehibjdjdaaW.PrintMore
attribute [local go_sem] max2_int min2_int max_two min_two max_three min_three max_four min_four
set_option linter.unusedVariables false
set_option linter.unusedSimpArgs false
def shape_Units.f (a0_0 : Int) (a0_1 : Int) (a0_2 : Int) (a0_3 : Int) (a1 : Int) : Option (Int × Int × Int) := (shape_Check.f a0_0 a0_1 a0_2 a0_3).bind fun t247 => (if t247 = 0 then (if a1 < 0 then (some (0, 0, 1)) else (if a1 > 16 then (some (0, 0, 1)) else (some (wrap64 (a0_0 * a1), wrap64 (a0_1 * a1), 0)))) else (some (0, 0, 1)))
set_option maxHeartbeats 8000000 in
set_option maxRecDepth 100000 in
theorem shape_Units.calls (a0_0 : Int) (a0_1 : Int) (a0_2 : Int) (a0_3 : Int) (a1 : Int) (r1 : Int) (r2 : Int) (r3 : Int) (w : World) (h : shape_Units.f a0_0 a0_1 a0_2 a0_3 a1 = some (r1, r2, r3)) :
  Calls Try.prog 76 #[.agg #[.int .i64 a0_0, .int .i64 a0_1, .int .i64 a0_2, .int .i64 a0_3], .int .i64 a1] w fun e w' => e = .returned (.tuple #[.agg #[.int .i64 r1, .int .i64 r2], .int .i64 r3]) ∧ Below w.heap.size w w' := by
 have hu27 := Try.underlying27
 have hu24 := Try.underlying24
 have HB := Aside0.mk (Below.refl w.heap.size w)
 have H : ((shape_Check.f a0_0 a0_1 a0_2 a0_3).bind fun t247 => (if t247 = 0 then (if a1 < 0 then (some (0, 0, 1)) else (if a1 > 16 then (some (0, 0, 1)) else (some (wrap64 (a0_0 * a1), wrap64 (a0_1 * a1), 0)))) else (some (0, 0, 1)))) = some (r1, r2, r3) := h
 clear h
 replace H := Option.bind_eq_some_iff.mp H
 obtain ⟨t247, A30, H⟩ := H
 replace H : (if t247 = 0 then (if a1 < 0 then (some (0, 0, 1)) else (if a1 > 16 then (some (0, 0, 1)) else (some (wrap64 (a0_0 * a1), wrap64 (a0_1 * a1), 0)))) else (some (0, 0, 1))) = some (r1, r2, r3) := H
 have A3 := Aside0.mk A30
 clear A30
 by_cases c4 : t247 = 0
 ·rw [if_pos c4] at H
  have c4b0 : (t247 == 0) = true := beq_iff_eq.mpr c4
  have c4b1 : (t247 != 0) = false := bne_eq_false_iff_eq.mpr c4
  clear c4
  by_cases c5 : a1 < 0
  ·rw [if_pos c5] at H
   have c5b0 : decide (a1 < 0) = true := decide_eq_true c5
   clear c5
   simp only [Option.some.injEq, Prod.mk.injEq] at H
   obtain ⟨rfl, rfl, rfl⟩ := H
   go_enter Try.func76, Try.ntmps76
   go_wp2_with (first | ((with_reducible refine gate_dst (N := 2) rfl ?_); refine bx 2 #[.int .i64 a0_0, .int .i64 a0_1, .int .i64 a0_2, .int .i64 a0_3] 27 ?_; intro gb245 hg w6 hbox hb; have BK245 := Aside0.mk (hbox); have GW245 := ge_ hg; have GE245 := ge_ hg; replace HB := hs_ hb; clear hb hbox hg) | ((with_reducible refine gate_dst (N := 4) rfl ?_); refine bx 4 #[.int .i64 0, .int .i64 0] 24 ?_; intro gb246 hg w7 hbox hb; have BK246 := Aside0.mk (hbox); have GW246 := ge_ hg; have GE246 := ge_ hg; have NB245_246 := nl_ BK245 hg; have NB246_245 := nr_ BK245 hg; replace BK245 := bk_ BK245 hb; replace HB := hs_ hb; clear hb hbox hg; have hnb8 := NB245_246.out; have hnc8 := NB246_245.out; obtain ⟨hcz9_0, hcz9_1, hcz9_2, hcz9_3, hfz9_0, hfz9_1, hfz9_2, hfz9_3⟩ := bz4_ BK245) | ((with_reducible refine gate_callee (f := 83) rfl ?_); refine goesL_ (some 7) rfl rfl Try.func83 (by kernel_rfl) rfl #[.agg #[.int .i64 a0_0, .int .i64 a0_1, .int .i64 a0_2, .int .i64 a0_3]] rfl Z0 ?_; (with_reducible refine (shape_Check.calls a0_0 a0_1 a0_2 a0_3 t247 _ A3.out).mono ?_); rintro e w10 ⟨rfl, hb⟩; refine ⟨_, rfl, ?_⟩; replace BK245 := bk_ BK245 hb; replace BK246 := bk_ BK246 hb; replace HB := hs_ hb; (try clear hb); (try clear hb2); (try clear hk); (try clear hi); obtain ⟨hcz11_0, hcz11_1, hfz11_0, hfz11_1⟩ := bz2_ BK246))
   refine bodyPost_ret (results_ct rfl _ _ gb246 24 #[.int .i64 0, .int .i64 0] (0, 0) _ rfl (by (with_reducible repeat (first | refine blk_drewN ?_ _ | refine blk_drew ?_ | refine blk_alloc ?_ _)); refine blk_put (cs := #[.int .i64 0, .int .i64 0]) ?_ 1 _ rfl; (with_reducible repeat (first | refine blk_drewN ?_ _ | refine blk_drew ?_ | refine blk_alloc ?_ _)); refine blk_put (cs := #[.int .i64 0, .int .i64 0]) ?_ 0 _ rfl; (with_reducible repeat (first | refine blk_drewN ?_ _ | refine blk_drew ?_ | refine blk_alloc ?_ _)); exact BK246.out) Try.underlying24 rfl (by kernel_rfl)) rfl ?_
   exact ⟨by first | rfl | (simp [errW_none, errW_some] <;> rfl) | (simp [*, errW_none, errW_some] <;> rfl), hb_⟩
  ·rw [if_neg c5] at H
   have c5b0 : decide (a1 < 0) = false := decide_eq_false c5
   clear c5
   by_cases c12 : a1 > 16
   ·rw [if_pos c12] at H
    have c12b0 : decide (16 < a1) = true := decide_eq_true c12
    clear c12
    simp only [Option.some.injEq, Prod.mk.injEq] at H
    obtain ⟨rfl, rfl, rfl⟩ := H
    go_enter Try.func76, Try.ntmps76
    go_wp2_with (first | ((with_reducible refine gate_dst (N := 2) rfl ?_); refine bx 2 #[.int .i64 a0_0, .int .i64 a0_1, .int .i64 a0_2, .int .i64 a0_3] 27 ?_; intro gb245 hg w13 hbox hb; have BK245 := Aside0.mk (hbox); have GW245 := ge_ hg; have GE245 := ge_ hg; replace HB := hs_ hb; clear hb hbox hg) | ((with_reducible refine gate_dst (N := 4) rfl ?_); refine bx 4 #[.int .i64 0, .int .i64 0] 24 ?_; intro gb246 hg w14 hbox hb; have BK246 := Aside0.mk (hbox); have GW246 := ge_ hg; have GE246 := ge_ hg; have NB245_246 := nl_ BK245 hg; have NB246_245 := nr_ BK245 hg; replace BK245 := bk_ BK245 hb; replace HB := hs_ hb; clear hb hbox hg; have hnb15 := NB245_246.out; have hnc15 := NB246_245.out; obtain ⟨hcz16_0, hcz16_1, hcz16_2, hcz16_3, hfz16_0, hfz16_1, hfz16_2, hfz16_3⟩ := bz4_ BK245) | ((with_reducible refine gate_callee (f := 83) rfl ?_); refine goesL_ (some 7) rfl rfl Try.func83 (by kernel_rfl) rfl #[.agg #[.int .i64 a0_0, .int .i64 a0_1, .int .i64 a0_2, .int .i64 a0_3]] rfl Z0 ?_; (with_reducible refine (shape_Check.calls a0_0 a0_1 a0_2 a0_3 t247 _ A3.out).mono ?_); rintro e w17 ⟨rfl, hb⟩; refine ⟨_, rfl, ?_⟩; replace BK245 := bk_ BK245 hb; replace BK246 := bk_ BK246 hb; replace HB := hs_ hb; (try clear hb); (try clear hb2); (try clear hk); (try clear hi); obtain ⟨hcz18_0, hcz18_1, hfz18_0, hfz18_1⟩ := bz2_ BK246))
    refine bodyPost_ret (results_ct rfl _ _ gb246 24 #[.int .i64 0, .int .i64 0] (0, 0) _ rfl (by (with_reducible repeat (first | refine blk_drewN ?_ _ | refine blk_drew ?_ | refine blk_alloc ?_ _)); refine blk_put (cs := #[.int .i64 0, .int .i64 0]) ?_ 1 _ rfl; (with_reducible repeat (first | refine blk_drewN ?_ _ | refine blk_drew ?_ | refine blk_alloc ?_ _)); refine blk_put (cs := #[.int .i64 0, .int .i64 0]) ?_ 0 _ rfl; (with_reducible repeat (first | refine blk_drewN ?_ _ | refine blk_drew ?_ | refine blk_alloc ?_ _)); exact BK246.out) Try.underlying24 rfl (by kernel_rfl)) rfl ?_
    exact ⟨by first | rfl | (simp [errW_none, errW_some] <;> rfl) | (simp [*, errW_none, errW_some] <;> rfl), hb_⟩
   ·rw [if_neg c12] at H
    have c12b0 : decide (16 < a1) = false := decide_eq_false c12
    clear c12
    simp only [Option.some.injEq, Prod.mk.injEq] at H
    obtain ⟨rfl, rfl, rfl⟩ := H
    go_enter Try.func76, Try.ntmps76
    go_wp2_with (first | ((with_reducible refine gate_dst (N := 2) rfl ?_); refine bx 2 #[.int .i64 a0_0, .int .i64 a0_1, .int .i64 a0_2, .int .i64 a0_3] 27 ?_; intro gb245 hg w19 hbox hb; have BK245 := Aside0.mk (hbox); have GW245 := ge_ hg; have GE245 := ge_ hg; replace HB := hs_ hb; clear hb hbox hg) | ((with_reducible refine gate_dst (N := 4) rfl ?_); refine bx 4 #[.int .i64 0, .int .i64 0] 24 ?_; intro gb246 hg w20 hbox hb; have BK246 := Aside0.mk (hbox); have GW246 := ge_ hg; have GE246 := ge_ hg; have NB245_246 := nl_ BK245 hg; have NB246_245 := nr_ BK245 hg; replace BK245 := bk_ BK245 hb; replace HB := hs_ hb; clear hb hbox hg; have hnb21 := NB245_246.out; have hnc21 := NB246_245.out; obtain ⟨hcz22_0, hcz22_1, hcz22_2, hcz22_3, hfz22_0, hfz22_1, hfz22_2, hfz22_3⟩ := bz4_ BK245) | ((with_reducible refine gate_callee (f := 83) rfl ?_); refine goesL_ (some 7) rfl rfl Try.func83 (by kernel_rfl) rfl #[.agg #[.int .i64 a0_0, .int .i64 a0_1, .int .i64 a0_2, .int .i64 a0_3]] rfl Z0 ?_; (with_reducible refine (shape_Check.calls a0_0 a0_1 a0_2 a0_3 t247 _ A3.out).mono ?_); rintro e w23 ⟨rfl, hb⟩; refine ⟨_, rfl, ?_⟩; replace BK245 := bk_ BK245 hb; replace BK246 := bk_ BK246 hb; replace HB := hs_ hb; (try clear hb); (try clear hb2); (try clear hk); (try clear hi); obtain ⟨hcz24_0, hcz24_1, hcz24_2, hcz24_3, hfz24_0, hfz24_1, hfz24_2, hfz24_3⟩ := bz4_ BK245; obtain ⟨hcz25_0, hcz25_1, hfz25_0, hfz25_1⟩ := bz2_ BK246))
    refine bodyPost_ret (results_ct rfl _ _ gb246 24 #[.int .i64 (wrap64 (a0_0 * a1)), .int .i64 (wrap64 (a0_1 * a1))] (0, 0) _ rfl (by (with_reducible repeat (first | refine blk_drewN ?_ _ | refine blk_drew ?_ | refine blk_alloc ?_ _)); refine blk_put (cs := #[.int .i64 (wrap64 (a0_0 * a1)), .int .i64 0]) ?_ 1 _ rfl; (with_reducible repeat (first | refine blk_drewN ?_ _ | refine blk_drew ?_ | refine blk_alloc ?_ _)); refine blk_put (cs := #[.int .i64 0, .int .i64 0]) ?_ 0 _ rfl; (with_reducible repeat (first | refine blk_drewN ?_ _ | refine blk_drew ?_ | refine blk_alloc ?_ _)); exact BK246.out) Try.underlying24 rfl (by kernel_rfl)) rfl ?_
    exact ⟨by first | rfl | (simp [errW_none, errW_some] <;> rfl) | (simp [*, errW_none, errW_some] <;> rfl), hb_⟩
 ·rw [if_neg c4] at H
  have c4b0 : (t247 == 0) = false := beq_eq_false_iff_ne.mpr c4
  have c4b1 : (t247 != 0) = true := bne_iff_ne.mpr c4
  simp only [Option.some.injEq, Prod.mk.injEq] at H
  obtain ⟨rfl, rfl, rfl⟩ := H
  go_enter Try.func76, Try.ntmps76
  go_wp2_with (first | ((with_reducible refine gate_dst (N := 2) rfl ?_); refine bx 2 #[.int .i64 a0_0, .int .i64 a0_1, .int .i64 a0_2, .int .i64 a0_3] 27 ?_; intro gb245 hg w26 hbox hb; have BK245 := Aside0.mk (hbox); have GW245 := ge_ hg; have GE245 := ge_ hg; replace HB := hs_ hb; clear hb hbox hg) | ((with_reducible refine gate_dst (N := 4) rfl ?_); refine bx 4 #[.int .i64 0, .int .i64 0] 24 ?_; intro gb246 hg w27 hbox hb; have BK246 := Aside0.mk (hbox); have GW246 := ge_ hg; have GE246 := ge_ hg; have NB245_246 := nl_ BK245 hg; have NB246_245 := nr_ BK245 hg; replace BK245 := bk_ BK245 hb; replace HB := hs_ hb; clear hb hbox hg; have hnb28 := NB245_246.out; have hnc28 := NB246_245.out; obtain ⟨hcz29_0, hcz29_1, hcz29_2, hcz29_3, hfz29_0, hfz29_1, hfz29_2, hfz29_3⟩ := bz4_ BK245) | ((with_reducible refine gate_callee (f := 83) rfl ?_); refine goesL_ (some 7) rfl rfl Try.func83 (by kernel_rfl) rfl #[.agg #[.int .i64 a0_0, .int .i64 a0_1, .int .i64 a0_2, .int .i64 a0_3]] rfl Z0 ?_; (with_reducible refine (shape_Check.calls a0_0 a0_1 a0_2 a0_3 t247 _ A3.out).mono ?_); rintro e w30 ⟨rfl, hb⟩; refine ⟨_, rfl, ?_⟩; replace BK245 := bk_ BK245 hb; replace BK246 := bk_ BK246 hb; replace HB := hs_ hb; (try clear hb); (try clear hb2); (try clear hk); (try clear hi); obtain ⟨hcz31_0, hcz31_1, hfz31_0, hfz31_1⟩ := bz2_ BK246))
  refine bodyPost_ret (results_ct rfl _ _ gb246 24 #[.int .i64 0, .int .i64 0] (0, 0) _ rfl (by (with_reducible repeat (first | refine blk_drewN ?_ _ | refine blk_drew ?_ | refine blk_alloc ?_ _)); refine blk_put (cs := #[.int .i64 0, .int .i64 0]) ?_ 1 _ rfl; (with_reducible repeat (first | refine blk_drewN ?_ _ | refine blk_drew ?_ | refine blk_alloc ?_ _)); refine blk_put (cs := #[.int .i64 0, .int .i64 0]) ?_ 0 _ rfl; (with_reducible repeat (first | refine blk_drewN ?_ _ | refine blk_drew ?_ | refine blk_alloc ?_ _)); exact BK246.out) Try.underlying24 rfl (by kernel_rfl)) rfl ?_
  exact ⟨by first | rfl | (simp [errW_none, errW_some] <;> rfl) | (simp [*, errW_none, errW_some] <;> rfl), hb_⟩
end Go.Proofs.Ytckhjehibjdjdaa.P
