/- PromiseOnly: part 1 of the walk and of the plain law that it comes to. No condition. -/
import Derived.Test.YtckhjehibjdjdaaZPromiseOnly0
import Derived.ArgAppend
import Derived.Below
import Derived.BigQuiet
import Derived.BigRegion
import Derived.Carry
import Derived.Deep.AppendLies
import Derived.Deep.CutBlock
import Derived.Deep.DeepCutAuto
import Derived.Deep.Draws
import Derived.Deep.LoopGhost
import Derived.Deep.OwnRows
import Derived.Deep.QuietTactic
import Derived.Deep.RegionHeld3
import Derived.DeepKeys3
import Derived.KernelRfl
import Derived.Laws.Bits64
import Derived.Laws.Bits64b
import Derived.Laws.BitsLemmas
import Derived.Laws.BytesArg
import Derived.Laws.IdiomCopy
import Derived.Laws.MakeOwn
import Derived.Laws.OwnMore
import Derived.Laws.Rows
import Derived.Laws.Slices
import Derived.Lib.AppendStr
import Derived.Lib.ConvBytes
import Derived.Lib.SliceRun
import Derived.LoopIn
import Derived.LoopN
import Derived.LoopNIn
import Derived.Maps.AppendAt
import Derived.Maps.Keyed
import Derived.Maps.Own
import Derived.Maps.OwnOps
import Derived.Maps.OwnSet
import Derived.Maps.Views
import Derived.OrdersHeld
import Derived.OwnWalk
import Derived.OwnWalkIn
import Derived.RangeFuncBound
import Derived.RangeFuncBox
import Derived.RangeFuncCalls
import Derived.RangeFuncFrom
import Derived.RangeFuncLeaves
import Derived.RowKit
import Derived.RowKit3
import Derived.Shelf.Abstract
import Derived.Shelf.RegionOpen
import Derived.StillTailTactics
import Derived.Tactics
import Derived.TacticsInMore
import Derived.WalkKit
import Derived.WideLaws
namespace Go.Proofs.YtckhjehibjdjdaaW.PrintWords
theorem here_ : True := trivial
end Go.Proofs.YtckhjehibjdjdaaW.PrintWords
namespace Go.Proofs.YtckhjehibjdjdaaW.PrintLast
theorem here_ : True := trivial
end Go.Proofs.YtckhjehibjdjdaaW.PrintLast
namespace Go.Proofs.YtckhjehibjdjdaaW.PrintMore
theorem here_ : True := trivial
end Go.Proofs.YtckhjehibjdjdaaW.PrintMore
namespace Go.Proofs.Ytckhjehibjdjdaa
theorem here_ : True := trivial
end Go.Proofs.Ytckhjehibjdjdaa
namespace Go.Proofs.Ytckhjehibjdjdaa.Bits
theorem here_ : True := trivial
end Go.Proofs.Ytckhjehibjdjdaa.Bits
namespace Go.Proofs.Ytckhjehibjdjdaa.Mp
theorem here_ : True := trivial
end Go.Proofs.Ytckhjehibjdjdaa.Mp
namespace Go.Proofs.Ytckhjehibjdjdaa.Ob
theorem here_ : True := trivial
end Go.Proofs.Ytckhjehibjdjdaa.Ob
namespace Go.Proofs.Ytckhjehibjdjdaa.P
theorem here_ : True := trivial
end Go.Proofs.Ytckhjehibjdjdaa.P
namespace Go.Proofs.Ytckhjehibjdjdaa.RF
theorem here_ : True := trivial
end Go.Proofs.Ytckhjehibjdjdaa.RF
namespace Go.Proofs.Ytckhjehibjdjdaa.promiseOnly
theorem here_ : True := trivial
end Go.Proofs.Ytckhjehibjdjdaa.promiseOnly
namespace Go.Proofs.Ytckhjehibjdjdaa.row0
theorem here_ : True := trivial
end Go.Proofs.Ytckhjehibjdjdaa.row0
namespace Go.Proofs.Ytckhjehibjdjdaa
set_option linter.unusedVariables false
section
open Go.RowKit Go.Proofs.YtckhjehibjdjdaaW.PrintWords Go.Proofs.YtckhjehibjdjdaaW.PrintLast Go.Proofs.YtckhjehibjdjdaaW.PrintMore
def bl : Nat → Nat → List Bool
 | 0, _ => []
 | n + 1, x => (x % 2 == 1) :: bl n (x / 2)
def bm (n x : Nat) : Array Bool := ⟨bl n x⟩
theorem pu {P : Program} {md : Region.Mode} {ops : Array Oper} {Q : Exit → Act → World → Prop} {S : World → Prop} {ds : List Nat} (i : Nat) (N : Option Tmp) (l' : Array Bool) {oi : Oper} {v : Value} {fuel : Nat} {l : Array Bool} {a a' : Act} {w : World} (h : wpAnyLast P md ops Q S ds fuel l' a' w)
 (hi : ops[i]? = some oi := by exact rfl) (hN : oi.dst = N := by exact rfl) (hc : anyB md ops l l' i = true := by exact any_of HT_.out (by kernel_rfl)) (hQ : ∀ c a w, Q (.panic c) (a.put oi.dst v) w → Q (.panic c) a w := by exact fun _ _ _ h => h)
 (hy : Yields P ops oi v a := by exact Or.inl ⟨by rfl, by intro w'; go_simp; with_reducible rfl⟩) (ha : a.put N v = a' := by simp only [Act.put, List.setIfInBounds_toArray, List.set_cons_zero, List.set_cons_succ, i64_w, i32_w]; rfl) : wpAnyLast P md ops Q S ds (fuel + 1) l a w := pure_ l' hi hN hc hQ hy ha h
theorem bx {P : Program} {ops : Array Oper} {Q : Exit → Act → World → Prop} {a : Act} {o : Oper} {rest : List Oper} {W : World} (N : Tmp) (cs : Array Value) (t : TypeId)
 (h : ∀ g, g = W.heap.size → ∀ w1, w1.heap[g]? = some (.cells cs t (0, 0)) → Below W.heap.size W w1 → wpList P ops Q rest (a.put o.dst (.pointer (some ⟨g, 0, none⟩))) w1)
 (hg : o.guard = none := by exact rfl) (hd : o.dst = some N := by exact rfl) (hr : (execOp a.eval o).run P W = .ok (.value (.pointer (some ⟨W.heap.size, 0, none⟩))) (W.alloc (.cells cs t (0, 0))) := by first | (go_simp; done) | (go_simp; rfl)) : wpList P ops Q (o :: rest) a W := box_event hg hd hr h
theorem tk1 {P : Program} {md : Region.Mode} {ops : Array Oper} {Q : Exit → Act → World → Prop} {S : World → Prop} {ds : List Nat} (i : Nat) (N : Option Tmp) (l' : Array Bool) {oi : Oper} {v : Value} {fuel : Nat} {l : Array Bool} {a a' : Act} {w : World} (h : wpAnyLast P md ops Q S ds fuel l' a' w)
 (hi : ops[i]? = some oi := by exact rfl) (hN : oi.dst = N := by exact rfl) (hc : takeB md ops ds l l' i = true := by exact take_ofW HT_.out HW_.out (by kernel_rfl)) (hQ : ∀ c a w, Q (.panic c) (a.put oi.dst v) w → Q (.panic c) a w := by exact fun _ _ _ h => h)
 (hy : YieldsIf P ops S oi v a := by exact Or.inl ⟨by rfl, by rintro w' ⟨s0⟩; go_simp; with_reducible rfl⟩) (hS : S w := by exact hHeld) (ha : a.put N v = a' := by simp only [Act.put, List.setIfInBounds_toArray, List.set_cons_zero, List.set_cons_succ, i64_w, i32_w]; rfl) : wpAnyLast P md ops Q S ds (fuel + 1) l a w := take_ l' hi hN hc hQ hy hS ha h
theorem tk2 {P : Program} {md : Region.Mode} {ops : Array Oper} {Q : Exit → Act → World → Prop} {S : World → Prop} {ds : List Nat} (i : Nat) (N : Option Tmp) (l' : Array Bool) {oi : Oper} {v : Value} {fuel : Nat} {l : Array Bool} {a a' : Act} {w : World} (h : wpAnyLast P md ops Q S ds fuel l' a' w)
 (hi : ops[i]? = some oi := by exact rfl) (hN : oi.dst = N := by exact rfl) (hc : takeB md ops ds l l' i = true := by exact take_ofW HT_.out HW_.out (by kernel_rfl)) (hQ : ∀ c a w, Q (.panic c) (a.put oi.dst v) w → Q (.panic c) a w := by exact fun _ _ _ h => h)
 (hy : YieldsIf P ops S oi v a := by exact Or.inl ⟨by rfl, by rintro w' ⟨s0, s1⟩; go_simp; with_reducible rfl⟩) (hS : S w := by exact hHeld) (ha : a.put N v = a' := by simp only [Act.put, List.setIfInBounds_toArray, List.set_cons_zero, List.set_cons_succ, i64_w, i32_w]; rfl) : wpAnyLast P md ops Q S ds (fuel + 1) l a w := take_ l' hi hN hc hQ hy hS ha h
theorem tk3 {P : Program} {md : Region.Mode} {ops : Array Oper} {Q : Exit → Act → World → Prop} {S : World → Prop} {ds : List Nat} (i : Nat) (N : Option Tmp) (l' : Array Bool) {oi : Oper} {v : Value} {fuel : Nat} {l : Array Bool} {a a' : Act} {w : World} (h : wpAnyLast P md ops Q S ds fuel l' a' w)
 (hi : ops[i]? = some oi := by exact rfl) (hN : oi.dst = N := by exact rfl) (hc : takeB md ops ds l l' i = true := by exact take_ofW HT_.out HW_.out (by kernel_rfl)) (hQ : ∀ c a w, Q (.panic c) (a.put oi.dst v) w → Q (.panic c) a w := by exact fun _ _ _ h => h)
 (hy : YieldsIf P ops S oi v a := by exact Or.inl ⟨by rfl, by rintro w' ⟨s0, s1, s2⟩; go_simp; with_reducible rfl⟩) (hS : S w := by exact hHeld) (ha : a.put N v = a' := by simp only [Act.put, List.setIfInBounds_toArray, List.set_cons_zero, List.set_cons_succ, i64_w, i32_w]; rfl) : wpAnyLast P md ops Q S ds (fuel + 1) l a w := take_ l' hi hN hc hQ hy hS ha h
theorem tk4 {P : Program} {md : Region.Mode} {ops : Array Oper} {Q : Exit → Act → World → Prop} {S : World → Prop} {ds : List Nat} (i : Nat) (N : Option Tmp) (l' : Array Bool) {oi : Oper} {v : Value} {fuel : Nat} {l : Array Bool} {a a' : Act} {w : World} (h : wpAnyLast P md ops Q S ds fuel l' a' w)
 (hi : ops[i]? = some oi := by exact rfl) (hN : oi.dst = N := by exact rfl) (hc : takeB md ops ds l l' i = true := by exact take_ofW HT_.out HW_.out (by kernel_rfl)) (hQ : ∀ c a w, Q (.panic c) (a.put oi.dst v) w → Q (.panic c) a w := by exact fun _ _ _ h => h)
 (hy : YieldsIf P ops S oi v a := by exact Or.inl ⟨by rfl, by rintro w' ⟨s0, s1, s2, s3⟩; go_simp; with_reducible rfl⟩) (hS : S w := by exact hHeld) (ha : a.put N v = a' := by simp only [Act.put, List.setIfInBounds_toArray, List.set_cons_zero, List.set_cons_succ, i64_w, i32_w]; rfl) : wpAnyLast P md ops Q S ds (fuel + 1) l a w := take_ l' hi hN hc hQ hy hS ha h
theorem tk5 {P : Program} {md : Region.Mode} {ops : Array Oper} {Q : Exit → Act → World → Prop} {S : World → Prop} {ds : List Nat} (i : Nat) (N : Option Tmp) (l' : Array Bool) {oi : Oper} {v : Value} {fuel : Nat} {l : Array Bool} {a a' : Act} {w : World} (h : wpAnyLast P md ops Q S ds fuel l' a' w)
 (hi : ops[i]? = some oi := by exact rfl) (hN : oi.dst = N := by exact rfl) (hc : takeB md ops ds l l' i = true := by exact take_ofW HT_.out HW_.out (by kernel_rfl)) (hQ : ∀ c a w, Q (.panic c) (a.put oi.dst v) w → Q (.panic c) a w := by exact fun _ _ _ h => h)
 (hy : YieldsIf P ops S oi v a := by exact Or.inl ⟨by rfl, by rintro w' ⟨s0, s1, s2, s3, s4⟩; go_simp; with_reducible rfl⟩) (hS : S w := by exact hHeld) (ha : a.put N v = a' := by simp only [Act.put, List.setIfInBounds_toArray, List.set_cons_zero, List.set_cons_succ, i64_w, i32_w]; rfl) : wpAnyLast P md ops Q S ds (fuel + 1) l a w := take_ l' hi hN hc hQ hy hS ha h
theorem tk6 {P : Program} {md : Region.Mode} {ops : Array Oper} {Q : Exit → Act → World → Prop} {S : World → Prop} {ds : List Nat} (i : Nat) (N : Option Tmp) (l' : Array Bool) {oi : Oper} {v : Value} {fuel : Nat} {l : Array Bool} {a a' : Act} {w : World} (h : wpAnyLast P md ops Q S ds fuel l' a' w)
 (hi : ops[i]? = some oi := by exact rfl) (hN : oi.dst = N := by exact rfl) (hc : takeB md ops ds l l' i = true := by exact take_ofW HT_.out HW_.out (by kernel_rfl)) (hQ : ∀ c a w, Q (.panic c) (a.put oi.dst v) w → Q (.panic c) a w := by exact fun _ _ _ h => h)
 (hy : YieldsIf P ops S oi v a := by exact Or.inl ⟨by rfl, by rintro w' ⟨s0, s1, s2, s3, s4, s5⟩; go_simp; with_reducible rfl⟩) (hS : S w := by exact hHeld) (ha : a.put N v = a' := by simp only [Act.put, List.setIfInBounds_toArray, List.set_cons_zero, List.set_cons_succ, i64_w, i32_w]; rfl) : wpAnyLast P md ops Q S ds (fuel + 1) l a w := take_ l' hi hN hc hQ hy hS ha h
theorem tk7 {P : Program} {md : Region.Mode} {ops : Array Oper} {Q : Exit → Act → World → Prop} {S : World → Prop} {ds : List Nat} (i : Nat) (N : Option Tmp) (l' : Array Bool) {oi : Oper} {v : Value} {fuel : Nat} {l : Array Bool} {a a' : Act} {w : World} (h : wpAnyLast P md ops Q S ds fuel l' a' w)
 (hi : ops[i]? = some oi := by exact rfl) (hN : oi.dst = N := by exact rfl) (hc : takeB md ops ds l l' i = true := by exact take_ofW HT_.out HW_.out (by kernel_rfl)) (hQ : ∀ c a w, Q (.panic c) (a.put oi.dst v) w → Q (.panic c) a w := by exact fun _ _ _ h => h)
 (hy : YieldsIf P ops S oi v a := by exact Or.inl ⟨by rfl, by rintro w' ⟨s0, s1, s2, s3, s4, s5, s6⟩; go_simp; with_reducible rfl⟩) (hS : S w := by exact hHeld) (ha : a.put N v = a' := by simp only [Act.put, List.setIfInBounds_toArray, List.set_cons_zero, List.set_cons_succ, i64_w, i32_w]; rfl) : wpAnyLast P md ops Q S ds (fuel + 1) l a w := take_ l' hi hN hc hQ hy hS ha h
theorem tk8 {P : Program} {md : Region.Mode} {ops : Array Oper} {Q : Exit → Act → World → Prop} {S : World → Prop} {ds : List Nat} (i : Nat) (N : Option Tmp) (l' : Array Bool) {oi : Oper} {v : Value} {fuel : Nat} {l : Array Bool} {a a' : Act} {w : World} (h : wpAnyLast P md ops Q S ds fuel l' a' w)
 (hi : ops[i]? = some oi := by exact rfl) (hN : oi.dst = N := by exact rfl) (hc : takeB md ops ds l l' i = true := by exact take_ofW HT_.out HW_.out (by kernel_rfl)) (hQ : ∀ c a w, Q (.panic c) (a.put oi.dst v) w → Q (.panic c) a w := by exact fun _ _ _ h => h)
 (hy : YieldsIf P ops S oi v a := by exact Or.inl ⟨by rfl, by rintro w' ⟨s0, s1, s2, s3, s4, s5, s6, s7⟩; go_simp; with_reducible rfl⟩) (hS : S w := by exact hHeld) (ha : a.put N v = a' := by simp only [Act.put, List.setIfInBounds_toArray, List.set_cons_zero, List.set_cons_succ, i64_w, i32_w]; rfl) : wpAnyLast P md ops Q S ds (fuel + 1) l a w := take_ l' hi hN hc hQ hy hS ha h
theorem tk9 {P : Program} {md : Region.Mode} {ops : Array Oper} {Q : Exit → Act → World → Prop} {S : World → Prop} {ds : List Nat} (i : Nat) (N : Option Tmp) (l' : Array Bool) {oi : Oper} {v : Value} {fuel : Nat} {l : Array Bool} {a a' : Act} {w : World} (h : wpAnyLast P md ops Q S ds fuel l' a' w)
 (hi : ops[i]? = some oi := by exact rfl) (hN : oi.dst = N := by exact rfl) (hc : takeB md ops ds l l' i = true := by exact take_ofW HT_.out HW_.out (by kernel_rfl)) (hQ : ∀ c a w, Q (.panic c) (a.put oi.dst v) w → Q (.panic c) a w := by exact fun _ _ _ h => h)
 (hy : YieldsIf P ops S oi v a := by exact Or.inl ⟨by rfl, by rintro w' ⟨s0, s1, s2, s3, s4, s5, s6, s7, s8⟩; go_simp; with_reducible rfl⟩) (hS : S w := by exact hHeld) (ha : a.put N v = a' := by simp only [Act.put, List.setIfInBounds_toArray, List.set_cons_zero, List.set_cons_succ, i64_w, i32_w]; rfl) : wpAnyLast P md ops Q S ds (fuel + 1) l a w := take_ l' hi hN hc hQ hy hS ha h
theorem tk10 {P : Program} {md : Region.Mode} {ops : Array Oper} {Q : Exit → Act → World → Prop} {S : World → Prop} {ds : List Nat} (i : Nat) (N : Option Tmp) (l' : Array Bool) {oi : Oper} {v : Value} {fuel : Nat} {l : Array Bool} {a a' : Act} {w : World} (h : wpAnyLast P md ops Q S ds fuel l' a' w)
 (hi : ops[i]? = some oi := by exact rfl) (hN : oi.dst = N := by exact rfl) (hc : takeB md ops ds l l' i = true := by exact take_ofW HT_.out HW_.out (by kernel_rfl)) (hQ : ∀ c a w, Q (.panic c) (a.put oi.dst v) w → Q (.panic c) a w := by exact fun _ _ _ h => h)
 (hy : YieldsIf P ops S oi v a := by exact Or.inl ⟨by rfl, by rintro w' ⟨s0, s1, s2, s3, s4, s5, s6, s7, s8, s9⟩; go_simp; with_reducible rfl⟩) (hS : S w := by exact hHeld) (ha : a.put N v = a' := by simp only [Act.put, List.setIfInBounds_toArray, List.set_cons_zero, List.set_cons_succ, i64_w, i32_w]; rfl) : wpAnyLast P md ops Q S ds (fuel + 1) l a w := take_ l' hi hN hc hQ hy hS ha h
theorem tk11 {P : Program} {md : Region.Mode} {ops : Array Oper} {Q : Exit → Act → World → Prop} {S : World → Prop} {ds : List Nat} (i : Nat) (N : Option Tmp) (l' : Array Bool) {oi : Oper} {v : Value} {fuel : Nat} {l : Array Bool} {a a' : Act} {w : World} (h : wpAnyLast P md ops Q S ds fuel l' a' w)
 (hi : ops[i]? = some oi := by exact rfl) (hN : oi.dst = N := by exact rfl) (hc : takeB md ops ds l l' i = true := by exact take_ofW HT_.out HW_.out (by kernel_rfl)) (hQ : ∀ c a w, Q (.panic c) (a.put oi.dst v) w → Q (.panic c) a w := by exact fun _ _ _ h => h)
 (hy : YieldsIf P ops S oi v a := by exact Or.inl ⟨by rfl, by rintro w' ⟨s0, s1, s2, s3, s4, s5, s6, s7, s8, s9, s10⟩; go_simp; with_reducible rfl⟩) (hS : S w := by exact hHeld) (ha : a.put N v = a' := by simp only [Act.put, List.setIfInBounds_toArray, List.set_cons_zero, List.set_cons_succ, i64_w, i32_w]; rfl) : wpAnyLast P md ops Q S ds (fuel + 1) l a w := take_ l' hi hN hc hQ hy hS ha h
theorem tk12 {P : Program} {md : Region.Mode} {ops : Array Oper} {Q : Exit → Act → World → Prop} {S : World → Prop} {ds : List Nat} (i : Nat) (N : Option Tmp) (l' : Array Bool) {oi : Oper} {v : Value} {fuel : Nat} {l : Array Bool} {a a' : Act} {w : World} (h : wpAnyLast P md ops Q S ds fuel l' a' w)
 (hi : ops[i]? = some oi := by exact rfl) (hN : oi.dst = N := by exact rfl) (hc : takeB md ops ds l l' i = true := by exact take_ofW HT_.out HW_.out (by kernel_rfl)) (hQ : ∀ c a w, Q (.panic c) (a.put oi.dst v) w → Q (.panic c) a w := by exact fun _ _ _ h => h)
 (hy : YieldsIf P ops S oi v a := by exact Or.inl ⟨by rfl, by rintro w' ⟨s0, s1, s2, s3, s4, s5, s6, s7, s8, s9, s10, s11⟩; go_simp; with_reducible rfl⟩) (hS : S w := by exact hHeld) (ha : a.put N v = a' := by simp only [Act.put, List.setIfInBounds_toArray, List.set_cons_zero, List.set_cons_succ, i64_w, i32_w]; rfl) : wpAnyLast P md ops Q S ds (fuel + 1) l a w := take_ l' hi hN hc hQ hy hS ha h
theorem tk13 {P : Program} {md : Region.Mode} {ops : Array Oper} {Q : Exit → Act → World → Prop} {S : World → Prop} {ds : List Nat} (i : Nat) (N : Option Tmp) (l' : Array Bool) {oi : Oper} {v : Value} {fuel : Nat} {l : Array Bool} {a a' : Act} {w : World} (h : wpAnyLast P md ops Q S ds fuel l' a' w)
 (hi : ops[i]? = some oi := by exact rfl) (hN : oi.dst = N := by exact rfl) (hc : takeB md ops ds l l' i = true := by exact take_ofW HT_.out HW_.out (by kernel_rfl)) (hQ : ∀ c a w, Q (.panic c) (a.put oi.dst v) w → Q (.panic c) a w := by exact fun _ _ _ h => h)
 (hy : YieldsIf P ops S oi v a := by exact Or.inl ⟨by rfl, by rintro w' ⟨s0, s1, s2, s3, s4, s5, s6, s7, s8, s9, s10, s11, s12⟩; go_simp; with_reducible rfl⟩) (hS : S w := by exact hHeld) (ha : a.put N v = a' := by simp only [Act.put, List.setIfInBounds_toArray, List.set_cons_zero, List.set_cons_succ, i64_w, i32_w]; rfl) : wpAnyLast P md ops Q S ds (fuel + 1) l a w := take_ l' hi hN hc hQ hy hS ha h
theorem tk14 {P : Program} {md : Region.Mode} {ops : Array Oper} {Q : Exit → Act → World → Prop} {S : World → Prop} {ds : List Nat} (i : Nat) (N : Option Tmp) (l' : Array Bool) {oi : Oper} {v : Value} {fuel : Nat} {l : Array Bool} {a a' : Act} {w : World} (h : wpAnyLast P md ops Q S ds fuel l' a' w)
 (hi : ops[i]? = some oi := by exact rfl) (hN : oi.dst = N := by exact rfl) (hc : takeB md ops ds l l' i = true := by exact take_ofW HT_.out HW_.out (by kernel_rfl)) (hQ : ∀ c a w, Q (.panic c) (a.put oi.dst v) w → Q (.panic c) a w := by exact fun _ _ _ h => h)
 (hy : YieldsIf P ops S oi v a := by exact Or.inl ⟨by rfl, by rintro w' ⟨s0, s1, s2, s3, s4, s5, s6, s7, s8, s9, s10, s11, s12, s13⟩; go_simp; with_reducible rfl⟩) (hS : S w := by exact hHeld) (ha : a.put N v = a' := by simp only [Act.put, List.setIfInBounds_toArray, List.set_cons_zero, List.set_cons_succ, i64_w, i32_w]; rfl) : wpAnyLast P md ops Q S ds (fuel + 1) l a w := take_ l' hi hN hc hQ hy hS ha h
theorem tk15 {P : Program} {md : Region.Mode} {ops : Array Oper} {Q : Exit → Act → World → Prop} {S : World → Prop} {ds : List Nat} (i : Nat) (N : Option Tmp) (l' : Array Bool) {oi : Oper} {v : Value} {fuel : Nat} {l : Array Bool} {a a' : Act} {w : World} (h : wpAnyLast P md ops Q S ds fuel l' a' w)
 (hi : ops[i]? = some oi := by exact rfl) (hN : oi.dst = N := by exact rfl) (hc : takeB md ops ds l l' i = true := by exact take_ofW HT_.out HW_.out (by kernel_rfl)) (hQ : ∀ c a w, Q (.panic c) (a.put oi.dst v) w → Q (.panic c) a w := by exact fun _ _ _ h => h)
 (hy : YieldsIf P ops S oi v a := by exact Or.inl ⟨by rfl, by rintro w' ⟨s0, s1, s2, s3, s4, s5, s6, s7, s8, s9, s10, s11, s12, s13, s14⟩; go_simp; with_reducible rfl⟩) (hS : S w := by exact hHeld) (ha : a.put N v = a' := by simp only [Act.put, List.setIfInBounds_toArray, List.set_cons_zero, List.set_cons_succ, i64_w, i32_w]; rfl) : wpAnyLast P md ops Q S ds (fuel + 1) l a w := take_ l' hi hN hc hQ hy hS ha h
end

theorem Z0 {p : Prop} (h : p := by repeat (first | (with_reducible first | exact HB.out | apply below_alloc | apply pw_below_drewN | apply below_drew1) | exact HB.out)) : p := h
theorem Z1 {p : Prop} (h : p := by (try simp only [List.map_toArray, List.map_cons, List.map_nil]); first | done | rfl | (simp only [List.length_drop, List.length_take]; rfl)) : p := h
theorem Z2 {p : Prop} (h : p := by first | (with_reducible assumption) | assumption) : p := h
theorem Z3 {p : Prop} (h : p := by (with_reducible repeat (first | apply Kd.R_alloc | apply Kd.R_drewN | apply Kd.R_drew)); exact (Kd.R_mono (Kd.R_far (p := ⟨gb101, 1, none⟩) (Kd.R_types HO110.out BK101.out (by decide)) (fun _ hk => hk.2) (.int .i64 1)) (fun _ h_ => h_.1))) : p := h
theorem Z4 {p : Prop} (h : p := by first | rfl | (simp; done) | (simp [*]; done)) : p := h
theorem Z5 {p : Prop} (h : p := by (with_reducible repeat (first | apply Kd.N_alloc | apply Kd.N_drewN | apply Kd.N_drew)); exact HO107.out) : p := h
theorem Z6 {p : Prop} (h : p := by (with_reducible repeat (first | apply Kd.N_alloc | apply Kd.N_drewN | apply Kd.N_drew)); exact (Kd.N_mono (Kd.N_far (p := ⟨gb101, 1, none⟩) (Kd.N_mono HO107.out (fun k_ hk => (⟨hk, hk.1⟩ : _ ∧ k_ ≠ gb101))) (fun _ hk => hk.2) (.int .i64 1)) (fun _ h_ => h_.1))) : p := h
theorem Z7 {p : Prop} (h : p := by (with_reducible repeat (first | apply Kd.R_alloc | apply Kd.R_drewN | apply Kd.R_drew)); exact HO110.out) : p := h
theorem Z8 {p : Prop} (h : p := by (with_reducible repeat (first | apply Kd.R_alloc | apply Kd.R_drewN | apply Kd.R_drew)); exact HO115.out) : p := h
end Go.Proofs.Ytckhjehibjdjdaa
namespace Go.Proofs.Ytckhjehibjdjdaa.P
open Go.RowKit Go.Proofs.YtckhjehibjdjdaaW.PrintWords Go.Proofs.YtckhjehibjdjdaaW.PrintLast Go.Proofs.YtckhjehibjdjdaaW.PrintMore
attribute [local go_sem] max2_int min2_int max_two min_two max_three min_three max_four min_four
set_option linter.unusedVariables false
set_option linter.unusedSimpArgs false
def errW : Option Int → Value
 | none => .nilIface
 | some c => .iface 0 (.int .i64 c)
theorem errW_none : errW none = .nilIface := rfl
theorem errW_some (c : Int) : errW (some c) = .iface 0 (.int .i64 c) := rfl
theorem info41 : (Try.prog.info? 41).map (fun i => (i.zero, i.size, i.bytes)) = some (some (.agg #[(.int .i64 0), (.int .i64 0), (.int .i64 0), (.bool false), (.slice none 0 0)]), 5, 56) := by kernel_rfl
theorem info51 : (Try.prog.info? 51).map (fun i => (i.zero, i.size, i.bytes)) = some (some (.agg #[(.int .i64 0), (.int .i64 0), (.int .u64 0), (.int .i64 0)]), 4, 32) := by kernel_rfl
theorem info52 : (Try.prog.info? 52).map (fun i => (i.zero, i.size, i.bytes)) = some (some (.agg #[(.int .i64 0), (.int .i64 0), (.int .u64 0), (.int .i64 0)]), 4, 32) := by kernel_rfl
structure S48 where
 f0 : Int
 f1 : Int
def z48 : S48 := ⟨(0 : Int), (0 : Int)⟩
def k48 : Kd S48 := Kd.iso (Kd.pair (Kd.int .i64) (Kd.int .i64)) (fun x : S48 => (x.f0, x.f1))
theorem k48_heap : Kd.Heap k48 := Kd.heap_iso _ (Kd.heap_pair (Kd.heap_int .i64) (Kd.heap_int .i64))
theorem k48_open {w : World} {x : S48} {cs : List Value} (h : k48.K w x cs) : cs = [.int .i64 x.f0, .int .i64 x.f1] := by
 obtain ⟨_, _, rfl, rfl, rfl⟩ := h
 exact rfl
theorem k48_mkM (w : World) (base : Nat) (ok : Nat → Prop) (x : S48)  : k48.M w base ok x [.int .i64 x.f0, .int .i64 x.f1] := ⟨[.int .i64 x.f0], [.int .i64 x.f1], rfl, rfl, rfl⟩
structure S51 where
 f0 : S48
 f1 : Int
 f2 : Int
def z51 : S51 := ⟨z48, (0 : Int), (0 : Int)⟩
def k51 : Kd S51 := Kd.iso (Kd.pair k48 (Kd.pair (Kd.int .u64) (Kd.int .i64))) (fun x : S51 => (x.f0, x.f1, x.f2))
theorem k51_heap : Kd.Heap k51 := Kd.heap_iso _ (Kd.heap_pair k48_heap (Kd.heap_pair (Kd.heap_int .u64) (Kd.heap_int .i64)))
theorem k51_open {w : World} {x : S51} {cs : List Value} (h : k51.K w x cs) : cs = [.int .i64 x.f0.f0, .int .i64 x.f0.f1, .int .u64 x.f1, .int .i64 x.f2] := by
 obtain ⟨_, _, rfl, s0, ⟨_, _, rfl, rfl, rfl⟩⟩ := h
 obtain rfl := k48_open s0
 exact rfl
theorem k51_mkM (w : World) (base : Nat) (ok : Nat → Prop) (x : S51)  : k51.M w base ok x [.int .i64 x.f0.f0, .int .i64 x.f0.f1, .int .u64 x.f1, .int .i64 x.f2] := ⟨[.int .i64 x.f0.f0, .int .i64 x.f0.f1], [.int .u64 x.f1, .int .i64 x.f2], rfl, (k48_mkM w base ok x.f0 ), ⟨[.int .u64 x.f1], [.int .i64 x.f2], rfl, rfl, rfl⟩⟩
def rd_T51 (xs : List S51) (i : Int) : S51 := xs.getD i.toNat z51
theorem at_T51 {w : World} {A : Option Addr} {n : Nat} {xs : List S51} (h : Kd.C k51 w A n xs) (i : Int) (h0 : 0 ≤ i) (h1 : i < n) : ∃ ad , A = some ad ∧ w.cell? (ad.add (i.toNat * 4)) = some (.int .i64 (rd_T51 xs i).f0.f0) ∧ w.cell? ⟨(ad.add (i.toNat * 4)).block, (ad.add (i.toNat * 4)).off + 1, none⟩ = some (.int .i64 (rd_T51 xs i).f0.f1) ∧ w.cell? ⟨(ad.add (i.toNat * 4)).block, (ad.add (i.toNat * 4)).off + 2, none⟩ = some (.int .u64 (rd_T51 xs i).f1) ∧ w.cell? ⟨(ad.add (i.toNat * 4)).block, (ad.add (i.toNat * 4)).off + 3, none⟩ = some (.int .i64 (rd_T51 xs i).f2) := by
 obtain ⟨ad, c, e, _, hK, hc0⟩ := Kd.C_get h z51 i h0 h1
 have hc : ∀ j u, c[j]? = some u → w.cell? (ad.add (i.toNat * 4 + j)) = some u := hc0
 obtain rfl := k51_open hK
 exact ⟨ad, e, hc 0 _ rfl, by rw [← add_field _ _ 1 (by omega)]; exact hc 1 _ rfl, by rw [← add_field _ _ 2 (by omega)]; exact hc 2 _ rfl, by rw [← add_field _ _ 3 (by omega)]; exact hc 3 _ rfl⟩
structure S24 where
 f0 : Int
 f1 : Int
def k24 : Kd S24 := Kd.iso (Kd.pair (Kd.int .i64) (Kd.int .i64)) (fun x : S24 => (x.f0, x.f1))
theorem k24_open {w : World} {x : S24} {cs : List Value} (h : k24.K w x cs) : cs = [.int .i64 x.f0, .int .i64 x.f1] := by
 obtain ⟨_, _, rfl, rfl, rfl⟩ := h
 exact rfl
structure S52 where
 f0 : S48
 f1 : Int
 f2 : Int
def z52 : S52 := ⟨z48, (0 : Int), (0 : Int)⟩
def k52 : Kd S52 := Kd.iso (Kd.pair k48 (Kd.pair (Kd.int .u64) (Kd.int .i64))) (fun x : S52 => (x.f0, x.f1, x.f2))
theorem k52_heap : Kd.Heap k52 := Kd.heap_iso _ (Kd.heap_pair k48_heap (Kd.heap_pair (Kd.heap_int .u64) (Kd.heap_int .i64)))
theorem k52_open {w : World} {x : S52} {cs : List Value} (h : k52.K w x cs) : cs = [.int .i64 x.f0.f0, .int .i64 x.f0.f1, .int .u64 x.f1, .int .i64 x.f2] := by
 obtain ⟨_, _, rfl, s0, ⟨_, _, rfl, rfl, rfl⟩⟩ := h
 obtain rfl := k48_open s0
 exact rfl
theorem k52_mkM (w : World) (base : Nat) (ok : Nat → Prop) (x : S52)  : k52.M w base ok x [.int .i64 x.f0.f0, .int .i64 x.f0.f1, .int .u64 x.f1, .int .i64 x.f2] := ⟨[.int .i64 x.f0.f0, .int .i64 x.f0.f1], [.int .u64 x.f1, .int .i64 x.f2], rfl, (k48_mkM w base ok x.f0 ), ⟨[.int .u64 x.f1], [.int .i64 x.f2], rfl, rfl, rfl⟩⟩
def rd_T52 (xs : List S52) (i : Int) : S52 := xs.getD i.toNat z52
theorem at_T52 {w : World} {A : Option Addr} {n : Nat} {xs : List S52} (h : Kd.C k52 w A n xs) (i : Int) (h0 : 0 ≤ i) (h1 : i < n) : ∃ ad , A = some ad ∧ w.cell? (ad.add (i.toNat * 4)) = some (.int .i64 (rd_T52 xs i).f0.f0) ∧ w.cell? ⟨(ad.add (i.toNat * 4)).block, (ad.add (i.toNat * 4)).off + 1, none⟩ = some (.int .i64 (rd_T52 xs i).f0.f1) ∧ w.cell? ⟨(ad.add (i.toNat * 4)).block, (ad.add (i.toNat * 4)).off + 2, none⟩ = some (.int .u64 (rd_T52 xs i).f1) ∧ w.cell? ⟨(ad.add (i.toNat * 4)).block, (ad.add (i.toNat * 4)).off + 3, none⟩ = some (.int .i64 (rd_T52 xs i).f2) := by
 obtain ⟨ad, c, e, _, hK, hc0⟩ := Kd.C_get h z52 i h0 h1
 have hc : ∀ j u, c[j]? = some u → w.cell? (ad.add (i.toNat * 4 + j)) = some u := hc0
 obtain rfl := k52_open hK
 exact ⟨ad, e, hc 0 _ rfl, by rw [← add_field _ _ 1 (by omega)]; exact hc 1 _ rfl, by rw [← add_field _ _ 2 (by omega)]; exact hc 2 _ rfl, by rw [← add_field _ _ 3 (by omega)]; exact hc 3 _ rfl⟩
structure S41 where
 f0 : Int
 f1 : Int
 f2 : Int
 f3 : Bool
 f4 : (List S52)
def z41 : S41 := ⟨(0 : Int), (0 : Int), (0 : Int), false, ([] : List S52)⟩
def k41 : Kd S41 := Kd.iso (Kd.pair (Kd.int .i64) (Kd.pair (Kd.int .i64) (Kd.pair (Kd.int .i64) (Kd.pair Kd.bool (Kd.slice 52 k52))))) (fun x : S41 => (x.f0, x.f1, x.f2, x.f3, x.f4))
theorem k41_open {w : World} {x : S41} {cs : List Value} (h : k41.K w x cs) : ∃ A4 c4, cs = [.int .i64 x.f0, .int .i64 x.f1, .int .i64 x.f2, .bool x.f3, .slice A4 x.f4.length c4] ∧ x.f4.length ≤ c4 ∧ k52.C w A4 x.f4.length x.f4 := by
 obtain ⟨_, _, rfl, rfl, ⟨_, _, rfl, rfl, ⟨_, _, rfl, rfl, ⟨_, _, rfl, rfl, ⟨A4, c4, rfl, l4, g4⟩⟩⟩⟩⟩ := h
 exact ⟨A4, c4, rfl, l4, g4⟩
theorem k41_mk (w : World) (x : S41) {A4 : Option Addr} {c4 : Nat} (l4 : x.f4.length ≤ c4) (g4 : k52.C w A4 x.f4.length x.f4) : k41.K w x [.int .i64 x.f0, .int .i64 x.f1, .int .i64 x.f2, .bool x.f3, .slice A4 x.f4.length c4] := ⟨[.int .i64 x.f0], [.int .i64 x.f1, .int .i64 x.f2, .bool x.f3, .slice A4 x.f4.length c4], rfl, rfl, ⟨[.int .i64 x.f1], [.int .i64 x.f2, .bool x.f3, .slice A4 x.f4.length c4], rfl, rfl, ⟨[.int .i64 x.f2], [.bool x.f3, .slice A4 x.f4.length c4], rfl, rfl, ⟨[.bool x.f3], [.slice A4 x.f4.length c4], rfl, rfl, ⟨A4, c4, rfl, l4, g4⟩⟩⟩⟩⟩
theorem k41_mkF (W : World) (ok : Nat → Prop) (x : S41) {A4 : Option Addr} {c4 : Nat} (l4 : x.f4.length ≤ c4) (g4 : Kd.F k52 W ok A4 x.f4.length x.f4) : Kd.FK k41 W ok x [.int .i64 x.f0, .int .i64 x.f1, .int .i64 x.f2, .bool x.f3, .slice A4 x.f4.length c4] := fun W2 hW => k41_mk W2 x l4 (g4 W2 hW)
def rd_T41 (xs : List S41) (i : Int) : S41 := xs.getD i.toNat z41
theorem at_T41 {w : World} {A : Option Addr} {n : Nat} {xs : List S41} (h : Kd.C k41 w A n xs) (i : Int) (h0 : 0 ≤ i) (h1 : i < n) : ∃ ad A4 c4, A = some ad ∧ w.cell? (ad.add (i.toNat * 5)) = some (.int .i64 (rd_T41 xs i).f0) ∧ w.cell? ⟨(ad.add (i.toNat * 5)).block, (ad.add (i.toNat * 5)).off + 1, none⟩ = some (.int .i64 (rd_T41 xs i).f1) ∧ w.cell? ⟨(ad.add (i.toNat * 5)).block, (ad.add (i.toNat * 5)).off + 2, none⟩ = some (.int .i64 (rd_T41 xs i).f2) ∧ w.cell? ⟨(ad.add (i.toNat * 5)).block, (ad.add (i.toNat * 5)).off + 3, none⟩ = some (.bool (rd_T41 xs i).f3) ∧ w.cell? ⟨(ad.add (i.toNat * 5)).block, (ad.add (i.toNat * 5)).off + 4, none⟩ = some (.slice A4 (rd_T41 xs i).f4.length c4) ∧ (rd_T41 xs i).f4.length ≤ c4 ∧ k52.C w A4 (rd_T41 xs i).f4.length (rd_T41 xs i).f4 := by
 obtain ⟨ad, c, e, _, hK, hc0⟩ := Kd.C_get h z41 i h0 h1
 have hc : ∀ j u, c[j]? = some u → w.cell? (ad.add (i.toNat * 5 + j)) = some u := hc0
 obtain ⟨A4, c4, rfl, l4, g4⟩ := k41_open hK
 exact ⟨ad, A4, c4, e, hc 0 _ rfl, by rw [← add_field _ _ 1 (by omega)]; exact hc 1 _ rfl, by rw [← add_field _ _ 2 (by omega)]; exact hc 2 _ rfl, by rw [← add_field _ _ 3 (by omega)]; exact hc 3 _ rfl, by rw [← add_field _ _ 4 (by omega)]; exact hc 4 _ rfl, l4, g4⟩
structure S27 where
 f0 : Int
 f1 : Int
 f2 : Int
 f3 : Int
def k27 : Kd S27 := Kd.iso (Kd.pair (Kd.int .i64) (Kd.pair (Kd.int .i64) (Kd.pair (Kd.int .i64) (Kd.int .i64)))) (fun x : S27 => (x.f0, x.f1, x.f2, x.f3))
theorem k27_open {w : World} {x : S27} {cs : List Value} (h : k27.K w x cs) : cs = [.int .i64 x.f0, .int .i64 x.f1, .int .i64 x.f2, .int .i64 x.f3] := by
 obtain ⟨_, _, rfl, rfl, ⟨_, _, rfl, rfl, ⟨_, _, rfl, rfl, rfl⟩⟩⟩ := h
 exact rfl
structure S29 where
 f0 : Int
 f1 : Int
 f2 : S27
def k29 : Kd S29 := Kd.iso (Kd.pair (Kd.int .i64) (Kd.pair (Kd.int .i64) k27)) (fun x : S29 => (x.f0, x.f1, x.f2))
theorem k29_open {w : World} {x : S29} {cs : List Value} (h : k29.K w x cs) : cs = [.int .i64 x.f0, .int .i64 x.f1, .int .i64 x.f2.f0, .int .i64 x.f2.f1, .int .i64 x.f2.f2, .int .i64 x.f2.f3] := by
 obtain ⟨_, _, rfl, rfl, ⟨_, _, rfl, rfl, s2⟩⟩ := h
 obtain rfl := k27_open s2
 exact rfl
end Go.Proofs.Ytckhjehibjdjdaa.P
namespace Go.Proofs.Ytckhjehibjdjdaa.Bits
def pos (m : Nat) : List Nat := (List.range 64).filter fun i => m.testBit i
def popN (m : Nat) : Nat := (pos m).length
def popI (m : Int) : Int := (popN m.toNat : Int)
end Go.Proofs.Ytckhjehibjdjdaa.Bits
namespace Go.Proofs.Ytckhjehibjdjdaa.P
open Go.RowKit Go.Shelf Go.Proofs.YtckhjehibjdjdaaW.PrintWords Go.Proofs.YtckhjehibjdjdaaW.PrintLast Go.Proofs.YtckhjehibjdjdaaW.PrintMore
open Go.Proofs.Ytckhjehibjdjdaa.Bits Go.Proofs.Ytckhjehibjdjdaa.RF
attribute [local go_sem] max2_int min2_int max_two min_two max_three min_three max_four min_four
attribute [local go_sem] Oper.semAt_some
set_option linter.unusedVariables false
set_option linter.unusedSimpArgs false
end Go.Proofs.Ytckhjehibjdjdaa.P
namespace Go.Proofs.Ytckhjehibjdjdaa.Bits
set_option linter.unusedVariables false
set_option linter.unusedSimpArgs false
def glue : List Nat → Nat
 | [] => 0
 | r :: l => 256 * glue l + r
def maskN (s : Nat) : Nat → Nat
 | 0 => 0
 | k + 1 => 256 * maskN s k + s
theorem and_split (q p r s : Nat) (hr : r < 256) (hs : s < 256) : (256 * q + r) &&& (256 * p + s) = 256 * (q &&& p) + (r &&& s) := by
 apply Nat.eq_of_testBit_eq
 intro j
 have hrs : (r &&& s) < 2 ^ 8 := Nat.lt_of_le_of_lt Nat.and_le_left hr
 have e1 := Nat.testBit_two_pow_mul_add q (i := 8) hr j
 have e2 := Nat.testBit_two_pow_mul_add p (i := 8) hs j
 have e3 := Nat.testBit_two_pow_mul_add (q &&& p) (i := 8) hrs j
 rw [show (2 : Nat) ^ 8 = 256 from rfl] at e1 e2 e3
 rw [Nat.testBit_and, e1, e2, e3]
 split <;> simp
theorem and_shift (q p r s j : Nat) (hj : j ≤ 8) (hr : r < 256) (hs : s < 2 ^ (8 - j)) : ((256 * q + r) / 2 ^ j) &&& (256 * p + s) = 256 * ((q / 2 ^ j) &&& p) + ((r / 2 ^ j) &&& s) := by
 have hs' : s < 256 := Nat.lt_of_lt_of_le hs (by have := Nat.pow_le_pow_right (n := 2) (by omega) (show 8 - j ≤ 8 by omega); simpa using this)
 apply Nat.eq_of_testBit_eq
 intro i
 have hrs : ((r / 2 ^ j) &&& s) < 2 ^ 8 := Nat.lt_of_le_of_lt Nat.and_le_right hs'
 have e1 := Nat.testBit_two_pow_mul_add q (i := 8) hr (i + j)
 have e2 := Nat.testBit_two_pow_mul_add p (i := 8) hs' i
 have e3 := Nat.testBit_two_pow_mul_add ((q / 2 ^ j) &&& p) (i := 8) hrs i
 rw [show (2 : Nat) ^ 8 = 256 from rfl] at e1 e2 e3
 rw [Nat.testBit_and, e2, e3, Nat.testBit_div_two_pow, e1]
 by_cases hi : i < 8
 ·rw [if_pos hi, if_pos hi, Nat.testBit_and, Nat.testBit_div_two_pow]
  by_cases h2 : i + j < 8
  ·rw [if_pos h2]
  ·rw [if_neg h2]
   have : s.testBit i = false := by
    apply Nat.testBit_lt_two_pow
    exact Nat.lt_of_lt_of_le hs (Nat.pow_le_pow_right (by omega) (by omega))
   rw [this]; simp
 ·rw [if_neg hi, if_neg hi, if_neg (by omega), Nat.testBit_and, Nat.testBit_div_two_pow]
  rw [show i + j - 8 = i - 8 + j by omega]
theorem glue_and (s : Nat) (hs : s < 256) : ∀ l : List Nat, (∀ r ∈ l, r < 256) → glue l &&& maskN s l.length = glue (l.map fun r => r &&& s)
 | [], _ => by simp [glue, maskN]
 | r :: l, h => by
  rw [glue, List.length_cons, maskN, and_split _ _ _ _ (h r (by simp)) hs, glue_and s hs l (fun x hx => h x (by simp [hx]))]; rfl
theorem glue_shift (s j : Nat) (hj : j ≤ 8) (hs : s < 2 ^ (8 - j)) : ∀ l : List Nat, (∀ r ∈ l, r < 256) → (glue l / 2 ^ j) &&& maskN s l.length = glue (l.map fun r => (r / 2 ^ j) &&& s)
 | [], _ => by simp [glue, maskN]
 | r :: l, h => by
  rw [glue, List.length_cons, maskN, and_shift _ _ _ _ _ hj (h r (by simp)) hs, glue_shift s j hj hs l (fun x hx => h x (by simp [hx]))]; rfl
theorem glue_add (f g : Nat → Nat) : ∀ l : List Nat, glue (l.map f) + glue (l.map g) = glue (l.map fun r => f r + g r)
 | [] => rfl
 | r :: l => by have := glue_add f g l; simp only [List.map_cons, glue] at *; omega
def s1 (r : Nat) : Nat := ((r / 2) &&& 85) + (r &&& 85)
def s2 (r : Nat) : Nat := ((r / 4) &&& 51) + (r &&& 51)
theorem s1_lt : ∀ r, r < 256 → s1 r < 256 := by decide +kernel
theorem s2_two : ∀ r, r < 256 → s2 (s1 r) % 16 ≤ 4 ∧ s2 (s1 r) / 16 ≤ 4 ∧ s2 (s1 r) % 16 + s2 (s1 r) / 16 = (List.range 8).countP (fun j => r.testBit j) := by decide +kernel
def bytes (m : Nat) : List Nat := [m % 256, m / 256 % 256, m / 65536 % 256, m / 16777216 % 256, m / 4294967296 % 256, m / 1099511627776 % 256, m / 281474976710656 % 256, m / 72057594037927936 % 256]
theorem glue_bytes (m : Nat) (h : m < 18446744073709551616) : glue (bytes m) = m := by
 simp only [glue, bytes]; omega
theorem bytes_lt (m : Nat) : ∀ r ∈ bytes m, r < 256 := by
 intro r hr
 simp only [bytes, List.mem_cons, List.not_mem_nil, or_false] at hr
 omega
def pairs (m : Nat) : Nat := ((m / 2) &&& 6148914691236517205) + (m &&& 6148914691236517205)
def fours (m : Nat) : Nat := ((m / 4) &&& 3689348814741910323) + (m &&& 3689348814741910323)
theorem pairs_eq (l : List Nat) (hl : l.length = 8) (h : ∀ r ∈ l, r < 256) : pairs (glue l) = glue (l.map s1) := by
 have e : (6148914691236517205 : Nat) = maskN 85 l.length := by rw [hl]; rfl
 unfold pairs
 rw [e, glue_and 85 (by omega) l h]
 have := glue_shift 85 1 (by omega) (by decide) l h
 rw [Nat.pow_one] at this
 rw [this, glue_add]
 rfl
theorem fours_eq (l : List Nat) (hl : l.length = 8) (h : ∀ r ∈ l, r < 256) : fours (glue l) = glue (l.map s2) := by
 have e : (3689348814741910323 : Nat) = maskN 51 l.length := by rw [hl]; rfl
 unfold fours
 rw [e, glue_and 51 (by omega) l h]
 have := glue_shift 51 2 (by omega) (by decide) l h
 rw [show (2 : Nat) ^ 2 = 4 from rfl] at this
 rw [this, glue_add]
 rfl
theorem and15 (u v : Nat) (hv : v < 16) (hu : u < 16) : (16 * u + v) &&& 15 = v := by
 have h : ∀ u, u < 16 → ∀ v, v < 16 → (16 * u + v) &&& 15 = v := by decide +kernel
 exact h u hu v hv
def eights (b : Nat) : Nat := ((b / 16 + b) % 18446744073709551616) &&& 1085102592571150095
theorem eights_eq (h0 h1 h2 h3 h4 h5 h6 h7 l0 l1 l2 l3 l4 l5 l6 l7 : Nat)
  (a0 : h0 ≤ 4) (a1 : h1 ≤ 4) (a2 : h2 ≤ 4) (a3 : h3 ≤ 4) (a4 : h4 ≤ 4) (a5 : h5 ≤ 4) (a6 : h6 ≤ 4) (a7 : h7 ≤ 4)
  (b0 : l0 ≤ 4) (b1 : l1 ≤ 4) (b2 : l2 ≤ 4) (b3 : l3 ≤ 4) (b4 : l4 ≤ 4) (b5 : l5 ≤ 4) (b6 : l6 ≤ 4) (b7 : l7 ≤ 4) :
  eights (glue [16 * h0 + l0, 16 * h1 + l1, 16 * h2 + l2, 16 * h3 + l3, 16 * h4 + l4, 16 * h5 + l5, 16 * h6 + l6, 16 * h7 + l7]) = glue [h0 + l0, h1 + l1, h2 + l2, h3 + l3, h4 + l4, h5 + l5, h6 + l6, h7 + l7] := by
 have e : (glue [16 * h0 + l0, 16 * h1 + l1, 16 * h2 + l2, 16 * h3 + l3, 16 * h4 + l4, 16 * h5 + l5, 16 * h6 + l6, 16 * h7 + l7] / 16 + glue [16 * h0 + l0, 16 * h1 + l1, 16 * h2 + l2, 16 * h3 + l3, 16 * h4 + l4, 16 * h5 + l5, 16 * h6 + l6, 16 * h7 + l7]) % 18446744073709551616
   = glue [16 * (h0 + l1) + (h0 + l0), 16 * (h1 + l2) + (h1 + l1), 16 * (h2 + l3) + (h2 + l2), 16 * (h3 + l4) + (h3 + l3), 16 * (h4 + l5) + (h4 + l4), 16 * (h5 + l6) + (h5 + l5), 16 * (h6 + l7) + (h6 + l6), 16 * h7 + (h7 + l7)] := by
  simp only [glue]; omega
 unfold eights
 rw [e]
 have e2 : (1085102592571150095 : Nat) = maskN 15 8 := rfl
 rw [e2, show (8 : Nat) = [16 * (h0 + l1) + (h0 + l0), 16 * (h1 + l2) + (h1 + l1), 16 * (h2 + l3) + (h2 + l2), 16 * (h3 + l4) + (h3 + l3), 16 * (h4 + l5) + (h4 + l4), 16 * (h5 + l6) + (h5 + l5), 16 * (h6 + l7) + (h6 + l6), 16 * h7 + (h7 + l7)].length from rfl, glue_and 15 (by omega)]
 ·simp only [List.map_cons, List.map_nil]
  rw [and15 _ _ (by omega) (by omega), and15 _ _ (by omega) (by omega), and15 _ _ (by omega) (by omega), and15 _ _ (by omega) (by omega), and15 _ _ (by omega) (by omega), and15 _ _ (by omega) (by omega), and15 _ _ (by omega) (by omega), and15 _ _ (by omega) (by omega)]
 ·intro r hr
  simp only [List.mem_cons, List.not_mem_nil, or_false] at hr
  omega
def tops (c : Nat) : Nat :=
 let d := (c + c / 256) % 18446744073709551616
 let e := (d + d / 65536) % 18446744073709551616
 ((e + e / 4294967296) % 18446744073709551616) % 128
theorem tops_eq (v0 v1 v2 v3 v4 v5 v6 v7 : Nat) (a0 : v0 ≤ 8) (a1 : v1 ≤ 8) (a2 : v2 ≤ 8) (a3 : v3 ≤ 8) (a4 : v4 ≤ 8) (a5 : v5 ≤ 8) (a6 : v6 ≤ 8) (a7 : v7 ≤ 8) :
  tops (glue [v0, v1, v2, v3, v4, v5, v6, v7]) = v0 + v1 + v2 + v3 + v4 + v5 + v6 + v7 := by
 have q1 : glue [v0, v1, v2, v3, v4, v5, v6, v7] / 256 = glue [v1, v2, v3, v4, v5, v6, v7] := by
  simp only [glue]; omega
 have e1 : (glue [v0, v1, v2, v3, v4, v5, v6, v7] + glue [v1, v2, v3, v4, v5, v6, v7]) % 18446744073709551616 = glue [v0 + v1, v1 + v2, v2 + v3, v3 + v4, v4 + v5, v5 + v6, v6 + v7, v7] := by
  rw [Nat.mod_eq_of_lt (by simp only [glue]; omega)]; simp only [glue]; omega
 have q2 : glue [v0 + v1, v1 + v2, v2 + v3, v3 + v4, v4 + v5, v5 + v6, v6 + v7, v7] / 65536 = glue [v2 + v3, v3 + v4, v4 + v5, v5 + v6, v6 + v7, v7] := by
  simp only [glue]; omega
 have e2 : (glue [v0 + v1, v1 + v2, v2 + v3, v3 + v4, v4 + v5, v5 + v6, v6 + v7, v7] + glue [v2 + v3, v3 + v4, v4 + v5, v5 + v6, v6 + v7, v7]) % 18446744073709551616 = glue [v0 + v1 + v2 + v3, v1 + v2 + v3 + v4, v2 + v3 + v4 + v5, v3 + v4 + v5 + v6, v4 + v5 + v6 + v7, v5 + v6 + v7, v6 + v7, v7] := by
  rw [Nat.mod_eq_of_lt (by simp only [glue]; omega)]; simp only [glue]; omega
 have q3 : glue [v0 + v1 + v2 + v3, v1 + v2 + v3 + v4, v2 + v3 + v4 + v5, v3 + v4 + v5 + v6, v4 + v5 + v6 + v7, v5 + v6 + v7, v6 + v7, v7] / 4294967296 = glue [v4 + v5 + v6 + v7, v5 + v6 + v7, v6 + v7, v7] := by
  simp only [glue]; omega
 have e3 : ((glue [v0 + v1 + v2 + v3, v1 + v2 + v3 + v4, v2 + v3 + v4 + v5, v3 + v4 + v5 + v6, v4 + v5 + v6 + v7, v5 + v6 + v7, v6 + v7, v7] + glue [v4 + v5 + v6 + v7, v5 + v6 + v7, v6 + v7, v7]) % 18446744073709551616) % 128 = v0 + v1 + v2 + v3 + v4 + v5 + v6 + v7 := by
  rw [Nat.mod_eq_of_lt (b := 18446744073709551616) (by clear q1 e1 q2 e2 q3; simp only [glue]; omega)]
  clear q1 e1 q2 e2 q3
  simp only [glue]
  omega
 unfold tops
 simp only [q1, e1, q2, e2, q3]
 exact e3
theorem countP_range64 (p : Nat → Bool) : (List.range 64).countP p = (List.range 8).countP (fun j => p j) + (List.range 8).countP (fun j => p (j + 8)) + (List.range 8).countP (fun j => p (j + 16)) + (List.range 8).countP (fun j => p (j + 24)) + (List.range 8).countP (fun j => p (j + 32)) + (List.range 8).countP (fun j => p (j + 40)) + (List.range 8).countP (fun j => p (j + 48)) + (List.range 8).countP (fun j => p (j + 56)) := by
 have e : List.range 64 = List.range 8 ++ (List.range 8).map (· + 8) ++ (List.range 8).map (· + 16) ++ (List.range 8).map (· + 24) ++ (List.range 8).map (· + 32) ++ (List.range 8).map (· + 40) ++ (List.range 8).map (· + 48) ++ (List.range 8).map (· + 56) := by decide
 rw [e]
 simp only [List.countP_append, List.countP_map]
 rfl
theorem byte_bits (m k : Nat) : (List.range 8).countP (fun j => m.testBit (j + k)) = (List.range 8).countP (fun j => (m / 2 ^ k % 256).testBit j) := by
 apply List.countP_congr
 intro j hj
 rw [List.mem_range] at hj
 rw [show (256 : Nat) = 2 ^ 8 from rfl, Nat.testBit_mod_two_pow, Nat.testBit_div_two_pow]
 simp [hj]
theorem popN_swar (m : Nat) (h : m < 18446744073709551616) : tops (eights (fours (pairs m))) = popN m := by
 have hp : popN m = (List.range 64).countP (fun j => m.testBit j) := by
  unfold popN pos; rw [List.countP_eq_length_filter]
 have e0 := byte_bits m 0
 have e1 := byte_bits m 8
 have e2 := byte_bits m 16
 have e3 := byte_bits m 24
 have e4 := byte_bits m 32
 have e5 := byte_bits m 40
 have e6 := byte_bits m 48
 have e7 := byte_bits m 56
 simp only [Nat.add_zero, Nat.pow_zero, Nat.div_one] at e0
 rw [show (2 : Nat) ^ 8 = 256 from rfl] at e1
 rw [show (2 : Nat) ^ 16 = 65536 from rfl] at e2
 rw [show (2 : Nat) ^ 24 = 16777216 from rfl] at e3
 rw [show (2 : Nat) ^ 32 = 4294967296 from rfl] at e4
 rw [show (2 : Nat) ^ 40 = 1099511627776 from rfl] at e5
 rw [show (2 : Nat) ^ 48 = 281474976710656 from rfl] at e6
 rw [show (2 : Nat) ^ 56 = 72057594037927936 from rfl] at e7
 rw [hp, countP_range64, e0, e1, e2, e3, e4, e5, e6, e7]
 have hg := glue_bytes m h
 rw [show pairs m = pairs (glue (bytes m)) by rw [hg], pairs_eq _ rfl (bytes_lt m), fours_eq _ (by simp [bytes]) (by
  intro r hr
  obtain ⟨x, hx, rfl⟩ := List.mem_map.1 hr
  exact s1_lt x (bytes_lt m x hx))]
 simp only [bytes, List.map_cons, List.map_nil]
 have q0 := s2_two (m % 256) (by omega)
 have q1 := s2_two (m / 256 % 256) (by omega)
 have q2 := s2_two (m / 65536 % 256) (by omega)
 have q3 := s2_two (m / 16777216 % 256) (by omega)
 have q4 := s2_two (m / 4294967296 % 256) (by omega)
 have q5 := s2_two (m / 1099511627776 % 256) (by omega)
 have q6 := s2_two (m / 281474976710656 % 256) (by omega)
 have q7 := s2_two (m / 72057594037927936 % 256) (by omega)
 have g : ∀ x : Nat, x = 16 * (x / 16) + x % 16 := fun x => by omega
 rw [g (s2 (s1 (m % 256))), g (s2 (s1 (m / 256 % 256))), g (s2 (s1 (m / 65536 % 256))), g (s2 (s1 (m / 16777216 % 256))), g (s2 (s1 (m / 4294967296 % 256))), g (s2 (s1 (m / 1099511627776 % 256))), g (s2 (s1 (m / 281474976710656 % 256))), g (s2 (s1 (m / 72057594037927936 % 256)))]
 rw [eights_eq _ _ _ _ _ _ _ _ _ _ _ _ _ _ _ _ q0.2.1 q1.2.1 q2.2.1 q3.2.1 q4.2.1 q5.2.1 q6.2.1 q7.2.1 q0.1 q1.1 q2.1 q3.1 q4.1 q5.1 q6.1 q7.1,
  tops_eq _ _ _ _ _ _ _ _ (by omega) (by omega) (by omega) (by omega) (by omega) (by omega) (by omega) (by omega)]
 omega
theorem wrapN (x : Nat) : IntKind.u64.wrap (x : Int) = ((x % 18446744073709551616 : Nat) : Int) := by
 rw [IntKind.wrap_u64]; omega
theorem andN (x y : Nat) (hx : x < 18446744073709551616) (hy : y < 18446744073709551616) : Go.bits .and .u64 (x : Int) (y : Int) = ((x &&& y : Nat) : Int) := bits_and_u64_nat x y hx hy
theorem and_le (x y : Nat) : x &&& y ≤ y := Nat.and_le_right
end Go.Proofs.Ytckhjehibjdjdaa.Bits
namespace Go.Proofs.Ytckhjehibjdjdaa.P
open Go.RowKit Go.Shelf Go.Proofs.YtckhjehibjdjdaaW.PrintWords Go.Proofs.YtckhjehibjdjdaaW.PrintLast Go.Proofs.YtckhjehibjdjdaaW.PrintMore
open Go.Proofs.Ytckhjehibjdjdaa.Bits Go.Proofs.Ytckhjehibjdjdaa.RF
attribute [local go_sem] max2_int min2_int max_two min_two max_three min_three max_four min_four
attribute [local go_sem] Oper.semAt_some
set_option linter.unusedVariables false
set_option linter.unusedSimpArgs false
theorem and127 (x : Nat) (h : x < 18446744073709551616) : Go.bits .and .i64 (wrap64 (x : Int)) 127 = ((x % 128 : Nat) : Int) := by
 have h1 : (BitVec.ofInt 64 (wrap64 (x : Int))).toNat = x := by
  rw [BitVec.toNat_ofInt]
  unfold wrap64
  omega
 have h2 : (BitVec.ofInt 64 (127 : Int)).toNat = 127 := by decide
 show IntKind.i64.wrap ((BitVec.ofInt 64 (wrap64 (x : Int)) &&& BitVec.ofInt 64 (127 : Int)).toNat : Int) = _
 rw [BitVec.toNat_and, h1, h2, show (127 : Nat) = 2 ^ 7 - 1 from rfl, Nat.and_two_pow_sub_one_eq_mod, IntKind.wrap_i64]
 omega
theorem ones_int (m : Nat) (hm : m < 18446744073709551616) (a b c d e f : Int)
  (ha : a = IntKind.u64.wrap (Go.bits .and .u64 ((m : Int) / 2) 6148914691236517205 + Go.bits .and .u64 (m : Int) 6148914691236517205))
  (hb : b = IntKind.u64.wrap (Go.bits .and .u64 (a / 4) 3689348814741910323 + Go.bits .and .u64 a 3689348814741910323))
  (hc : c = Go.bits .and .u64 (IntKind.u64.wrap (b / 16 + b)) 1085102592571150095)
  (hd : d = IntKind.u64.wrap (c + c / 256)) (he : e = IntKind.u64.wrap (d + d / 65536)) (hf : f = IntKind.u64.wrap (e + e / 4294967296)) :
  Go.bits .and .i64 (wrap64 f) 127 = popI (m : Int) := by
 have A : a = ((pairs m : Nat) : Int) := by
  rw [ha, show (m : Int) / 2 = ((m / 2 : Nat) : Int) by omega, show (6148914691236517205 : Int) = ((6148914691236517205 : Nat) : Int) from rfl, andN _ _ (by omega) (by omega), andN _ _ hm (by omega), ← Int.natCast_add, wrapN]
  have := and_le (m / 2) 6148914691236517205
  have := and_le m 6148914691236517205
  unfold pairs
  omega
 have pl : pairs m < 18446744073709551616 := by
  have := and_le (m / 2) 6148914691236517205
  have := and_le m 6148914691236517205
  unfold pairs
  omega
 have B : b = ((fours (pairs m) : Nat) : Int) := by
  rw [hb, A, show ((pairs m : Nat) : Int) / 4 = ((pairs m / 4 : Nat) : Int) by omega, show (3689348814741910323 : Int) = ((3689348814741910323 : Nat) : Int) from rfl, andN _ _ (by omega) (by omega), andN _ _ pl (by omega), ← Int.natCast_add, wrapN]
  have := and_le (pairs m / 4) 3689348814741910323
  have := and_le (pairs m) 3689348814741910323
  unfold fours
  omega
 have C : c = ((eights (fours (pairs m)) : Nat) : Int) := by
  rw [hc, B, show ((fours (pairs m) : Nat) : Int) / 16 + ((fours (pairs m) : Nat) : Int) = ((fours (pairs m) / 16 + fours (pairs m) : Nat) : Int) by omega, wrapN, show (1085102592571150095 : Int) = ((1085102592571150095 : Nat) : Int) from rfl, andN _ _ (by omega) (by omega)]
  rfl
 generalize hx : eights (fours (pairs m)) = x at C
 have D : d = (((x + x / 256) % 18446744073709551616 : Nat) : Int) := by
  rw [hd, C, show (x : Int) + (x : Int) / 256 = ((x + x / 256 : Nat) : Int) by omega, wrapN]
 generalize hy : (x + x / 256) % 18446744073709551616 = y at D
 have E : e = (((y + y / 65536) % 18446744073709551616 : Nat) : Int) := by
  rw [he, D, show (y : Int) + (y : Int) / 65536 = ((y + y / 65536 : Nat) : Int) by omega, wrapN]
 generalize hz : (y + y / 65536) % 18446744073709551616 = z at E
 have F : f = (((z + z / 4294967296) % 18446744073709551616 : Nat) : Int) := by
  rw [hf, E, show (z : Int) + (z : Int) / 4294967296 = ((z + z / 4294967296 : Nat) : Int) by omega, wrapN]
 rw [F, and127 _ (by omega)]
 unfold popI
 rw [Int.toNat_natCast, ← popN_swar m hm, hx]
 unfold tops
 simp only [hy, hz]
set_option maxHeartbeats 2000000 in
set_option maxRecDepth 100000 in
theorem ones_any (m : Nat) (hm : m < 2 ^ 64) (w : World) : Calls Try.prog 105 #[.int .u64 (m : Int)] w fun e w' => e = .returned (.int .i64 (popI (m : Int))) ∧ w' = w := by
 have hu49 := Try.underlying49
 have H := fun v (h : v = popI (m : Int)) => (congrArg (fun v => Ending.returned (.int .i64 v)) h)
 go_enter Try.func105, Try.ntmps105
 go_wp2
 go_ret
 refine ⟨H _ (ones_int m hm _ _ _ _ _ _ rfl rfl rfl rfl rfl rfl), rfl⟩
theorem count_any (m : Int) (h0 : 0 ≤ m) (h1 : m < 18446744073709551616) (w : World) : Calls Try.prog 75 #[.int .u64 m] w fun e w' => e = .returned (.int .i64 (popI m)) ∧ w' = w := by
 have hu49 := Try.underlying49
 obtain ⟨m, rfl⟩ := Int.eq_ofNat_of_zero_le h0
 have H := Aside0.mk (fun w => ones_any m (by omega) w)
 clear h0 h1
 go_enter Try.func75, Try.ntmps75
 go_wp2_with (go_at_call 105; refine (H.out _).mono ?_; rintro e w' ⟨rfl, rfl⟩)
 go_ret
 exact ⟨rfl, rfl⟩
end Go.Proofs.Ytckhjehibjdjdaa.P
namespace Go.Proofs.Ytckhjehibjdjdaa.P
open Go.RowKit Go.Shelf Go.Proofs.YtckhjehibjdjdaaW.PrintWords Go.Proofs.YtckhjehibjdjdaaW.PrintLast Go.Proofs.YtckhjehibjdjdaaW.PrintMore
open Go.Proofs.Ytckhjehibjdjdaa.Bits
attribute [local go_sem] max2_int min2_int max_two min_two max_three min_three max_four min_four
attribute [local go_sem] Oper.semAt_some
set_option linter.unusedVariables false
set_option linter.unusedSimpArgs false
def goodShape (g c mn mx : Int) : Bool := decide (0 ≤ g) && decide (g ≤ 16) && decide (0 ≤ c) && decide (c ≤ 1024) && decide (1 ≤ mn) && decide (mn ≤ mx) && decide (1 ≤ mx) && decide (mx ≤ 16) && !(decide (g = 0) && decide (c = 0))
def shape_Check.f (a0_0 : Int) (a0_1 : Int) (a0_2 : Int) (a0_3 : Int) : Option (Int) := some (if goodShape a0_0 a0_1 a0_2 a0_3 = true then 0 else 1)
theorem ret_i64 {a b : Int} (h : a = b) : Ending.returned (.int .i64 a) = .returned (.int .i64 b) := by rw [h]
set_option maxHeartbeats 8000000 in
set_option maxRecDepth 100000 in
theorem shape_Check.calls (a0_0 : Int) (a0_1 : Int) (a0_2 : Int) (a0_3 : Int) (r : Int) (w : World)  (h : shape_Check.f a0_0 a0_1 a0_2 a0_3 = some r) :
  Calls Try.prog 83 #[.agg #[.int .i64 a0_0, .int .i64 a0_1, .int .i64 a0_2, .int .i64 a0_3]] w fun e w' => e = .returned (.int .i64 r) ∧ Below w.heap.size w w' := by
 have H := Aside0.mk h
 clear h
 have hu27 := Try.underlying27
 have hu154 := Try.underlying154
 have hu155 := Try.underlying155
 have i0 : ∀ (W : World) (x0 x1 x2 x3 x4 x5 x6 x7 x8 x9 x10 x11 : Value), (Instr.index 155 (.agg #[x0, x1, x2, x3, x4, x5, x6, x7, x8, x9, x10, x11]) (.int .i64 0)).run Try.prog W = .ok (.agg #[x0, x1, x2]) W := fun _ _ _ _ _ _ _ _ _ _ _ _ _ => by kernel_rfl
 have i1 : ∀ (W : World) (x0 x1 x2 x3 x4 x5 x6 x7 x8 x9 x10 x11 : Value), (Instr.index 155 (.agg #[x0, x1, x2, x3, x4, x5, x6, x7, x8, x9, x10, x11]) (.int .i64 1)).run Try.prog W = .ok (.agg #[x3, x4, x5]) W := fun _ _ _ _ _ _ _ _ _ _ _ _ _ => by kernel_rfl
 have i2 : ∀ (W : World) (x0 x1 x2 x3 x4 x5 x6 x7 x8 x9 x10 x11 : Value), (Instr.index 155 (.agg #[x0, x1, x2, x3, x4, x5, x6, x7, x8, x9, x10, x11]) (.int .i64 2)).run Try.prog W = .ok (.agg #[x6, x7, x8]) W := fun _ _ _ _ _ _ _ _ _ _ _ _ _ => by kernel_rfl
 have i3 : ∀ (W : World) (x0 x1 x2 x3 x4 x5 x6 x7 x8 x9 x10 x11 : Value), (Instr.index 155 (.agg #[x0, x1, x2, x3, x4, x5, x6, x7, x8, x9, x10, x11]) (.int .i64 3)).run Try.prog W = .ok (.agg #[x9, x10, x11]) W := fun _ _ _ _ _ _ _ _ _ _ _ _ _ => by kernel_rfl
 go_enter Try.func83, Try.ntmps83
 go_wp2
 refine wp_loop_rounds 5 ?_
 rw [rounds_succ]
 go_wp2
 all_goals (try (rw [rounds_succ]; go_wp2))
 all_goals (try (rw [rounds_succ]; go_wp2))
 all_goals (try (rw [rounds_succ]; go_wp2))
 all_goals (try (rw [rounds_succ]; go_wp2))
 all_goals go_ret
 all_goals
  have h := H.out
  try simp only [beq_iff_eq, beq_eq_false_iff_ne, ne_eq] at *
  unfold shape_Check.f at h
  first
  | (rw [if_pos (by simp [goodShape]; omega)] at h; exact ⟨ret_i64 (Option.some.inj h), by repeat (first | exact Below.refl _ _ | apply below_alloc | refine below_set ?_ (by simp; omega))⟩)
  | (rw [if_neg (by simp [goodShape]; omega)] at h; exact ⟨ret_i64 (Option.some.inj h), by repeat (first | exact Below.refl _ _ | apply below_alloc | refine below_set ?_ (by simp; omega))⟩)
def eachI (have_ need : Int) : Int := if need = 0 then 16 else have_ / need
set_option maxHeartbeats 4000000 in
set_option maxRecDepth 100000 in
theorem each_any (a b : Int) (ha0 : 0 ≤ a) (ha : a ≤ 9223372036854775807) (hb : 0 ≤ b) (w : World) : Calls Try.prog 112 #[.int .i64 a, .int .i64 b] w fun e w' => e = .returned (.int .i64 (eachI a b)) ∧ w' = w := by
 have hu3 := Try.underlying3
 by_cases h0 : b = 0
 ·have b1 : (b == 0) = true := by simpa using h0
  have e : eachI a b = 16 := by rw [eachI, if_pos h0]
  rw [e]
  clear h0 e
  go_enter Try.func112, Try.ntmps112
  go_wp2
  all_goals go_ret
  all_goals exact ⟨rfl, rfl⟩
 ·have b1 : (b == 0) = false := by simpa using h0
  have e : eachI a b = a / b := by rw [eachI, if_neg h0]
  rw [e]
  have hne := h0
  clear e
  go_enter Try.func112, Try.ntmps112
  go_wp2
  all_goals go_ret
  all_goals exact ⟨rfl, rfl⟩
set_option maxHeartbeats 4000000 in
set_option maxRecDepth 100000 in
theorem least3 (b : Nat) (x y z : Int) (w : World) (h : w.heap[b]? = some (.cells #[.int .i64 x, .int .i64 y, .int .i64 z] 3 (0, 0))) :
  Calls Try.prog 113 #[.slice (some ⟨b, 0, none⟩) 3 3] w fun e w' => e = .returned (.int .i64 (min (min x y) z)) ∧ w' = w := by
 have hu3 := Try.underlying3
 have hu71 := Try.underlying71
 have c0 : w.cell? ⟨b, 0, none⟩ = some (.int .i64 x) := (blk_cell h 0).trans rfl
 have c1 : w.cell? ⟨b, 1, none⟩ = some (.int .i64 y) := (blk_cell h 1).trans rfl
 have c2 : w.cell? ⟨b, 2, none⟩ = some (.int .i64 z) := (blk_cell h 2).trans rfl
 clear h
 go_enter Try.func113, Try.ntmps113
 go_wp2
 refine wp_loop_rounds 3 ?_
 rw [rounds_succ]
 go_wp2
 all_goals (try (rw [rounds_succ]; go_wp2))
 all_goals (try (rw [rounds_succ]; go_wp2))
 all_goals go_ret
 all_goals exact ⟨ret_i64 (by omega), rfl⟩
def fitN (g c m cpus : Int) : Int := min 16 (min (eachI (popI m) g) (eachI cpus c))
def fitV (g c mn mx m cpus : Int) : Int := if goodShape g c mn mx = true ∧ 0 ≤ cpus then fitN g c m cpus else 0
def shape_Fits.f (a0_0 : Int) (a0_1 : Int) (a0_2 : Int) (a0_3 : Int) (a1_0 : Int) (a1_1 : Int) (a1_2 : Int) (a1_3 : Int) : Option (Int) :=
 if 0 ≤ a1_2 ∧ a1_2 < 18446744073709551616 ∧ a1_3 ≤ 9223372036854775807 then some (fitV a0_0 a0_1 a0_2 a0_3 a1_2 a1_3) else none
theorem popN_le (m : Nat) : popN m ≤ 64 := by
 unfold popN pos
 have := List.length_filter_le (fun i => m.testBit i) (List.range 64)
 simpa using this
theorem popI_bd (m : Int) : 0 ≤ popI m ∧ popI m ≤ 64 := by
 have := popN_le m.toNat
 unfold popI; omega
set_option maxHeartbeats 8000000 in
set_option maxRecDepth 100000 in
theorem fits_any (a0_0 : Int) (a0_1 : Int) (a0_2 : Int) (a0_3 : Int) (a1_0 : Int) (a1_1 : Int) (a1_2 : Int) (a1_3 : Int) (w : World) (hm0 : 0 ≤ a1_2) (hm1 : a1_2 < 18446744073709551616) (hc1 : a1_3 ≤ 9223372036854775807) :
  Calls Try.prog 87 #[.agg #[.int .i64 a0_0, .int .i64 a0_1, .int .i64 a0_2, .int .i64 a0_3], .agg #[.int .i64 a1_0, .int .i64 a1_1, .int .u64 a1_2, .int .i64 a1_3]] w fun e w' => e = .returned (.int .i64 (fitV a0_0 a0_1 a0_2 a0_3 a1_2 a1_3)) ∧ Below w.heap.size w w' := by
 have hu27 := Try.underlying27
 have hu51 := Try.underlying51
 have HM := Aside0.mk (And.intro hm0 hm1)
 have HC := Aside0.mk hc1
 clear hm0 hm1 hc1
 have hck := fun w => shape_Check.calls a0_0 a0_1 a0_2 a0_3 _ w rfl
 by_cases hg : goodShape a0_0 a0_1 a0_2 a0_3 = true
 ·rw [if_pos hg] at hck
  have hg' := hg
  simp only [goodShape, Bool.and_eq_true, decide_eq_true_eq] at hg'
  have HG := Aside0.mk (And.intro (show 0 ≤ a0_0 by omega) (show 0 ≤ a0_1 by omega))
  have HK := Aside0.mk hck
  clear hck hg'
  by_cases hcp : a1_3 < 0
  ·have HN : fitV a0_0 a0_1 a0_2 a0_3 a1_2 a1_3 = 0 := by unfold fitV; rw [if_neg (by omega)]
   rw [HN]
   clear HN hg
   go_enter Try.func87, Try.ntmps87
   go_wp2_with (first | ((with_reducible refine gate_dst (N := 2) rfl ?_); refine bx 2 #[.int .i64 a0_0, .int .i64 a0_1, .int .i64 a0_2, .int .i64 a0_3] 27 ?_; intro g2 hg2 w2 hx2 hb2; have HB2 := Aside0.mk hb2; clear hb2 hg2) | ((with_reducible refine gate_dst (N := 3) rfl ?_); refine bx 3 #[.int .i64 a1_0, .int .i64 a1_1, .int .u64 a1_2, .int .i64 a1_3] 51 ?_; intro g3 hg3 w3 hx3 hb3; replace hx2 := blk_below hx2 hb3; have HB3 := Aside0.mk (below_step HB2.out hb3); clear hb3 hg3; have e0 := (blk_cell hx2 0).trans rfl; have e1 := (blk_cell hx2 1).trans rfl; have e2 := (blk_cell hx2 2).trans rfl; have e3 := (blk_cell hx2 3).trans rfl) | (go_at_call 83; refine (HK.out _).mono ?_; rintro e w4 ⟨rfl, hb⟩; clear e0 e1 e2 e3; replace hx2 := blk_below hx2 hb; replace hx3 := blk_below hx3 hb; have HB4 := Aside0.mk (below_step HB3.out hb); clear hb; have f0 := (blk_cell hx2 0).trans rfl; have f1 := (blk_cell hx2 1).trans rfl; have f2 := (blk_cell hx3 2).trans rfl; have f3 := (blk_cell hx3 3).trans rfl))
   all_goals go_ret
   all_goals exact ⟨rfl, HB4.out⟩
  ·have HN : fitV a0_0 a0_1 a0_2 a0_3 a1_2 a1_3 = fitN a0_0 a0_1 a1_2 a1_3 := by unfold fitV; rw [if_pos ⟨hg, by omega⟩]
   rw [HN]
   clear HN hg
   have H0 : 0 ≤ a1_3 := by omega
   have E1 := Aside0.mk (fun w => each_any (popI a1_2) a0_0 (popI_bd a1_2).1 (by have := (popI_bd a1_2).2; omega) HG.out.1 w)
   have E2 := Aside0.mk (fun w => each_any a1_3 a0_1 H0 HC.out HG.out.2 w)
   clear H0
   go_enter Try.func87, Try.ntmps87
   go_wp2_with (first | ((with_reducible refine gate_dst (N := 2) rfl ?_); refine bx 2 #[.int .i64 a0_0, .int .i64 a0_1, .int .i64 a0_2, .int .i64 a0_3] 27 ?_; intro g2 hg2 w2 hx2 hb2; have HB2 := Aside0.mk hb2; clear hb2 hg2) | ((with_reducible refine gate_dst (N := 3) rfl ?_); refine bx 3 #[.int .i64 a1_0, .int .i64 a1_1, .int .u64 a1_2, .int .i64 a1_3] 51 ?_; intro g3 hg3 w3 hx3 hb3; replace hx2 := blk_below hx2 hb3; have HB3 := Aside0.mk (below_step HB2.out hb3); clear hb3 hg3; have e0 := (blk_cell hx2 0).trans rfl; have e1 := (blk_cell hx2 1).trans rfl; have e2 := (blk_cell hx2 2).trans rfl; have e3 := (blk_cell hx2 3).trans rfl) | (go_at_call 83; refine (HK.out _).mono ?_; rintro e w4 ⟨rfl, hb⟩; clear e0 e1 e2 e3; replace hx2 := blk_below hx2 hb; replace hx3 := blk_below hx3 hb; have HB4 := Aside0.mk (below_step HB3.out hb); clear hb; have f0 := (blk_cell hx2 0).trans rfl; have f1 := (blk_cell hx2 1).trans rfl; have f2 := (blk_cell hx3 2).trans rfl; have f3 := (blk_cell hx3 3).trans rfl))
   go_still_tail 13, (by kernel_rfl)
   still_call ((count_any _ HM.out.1 HM.out.2 _))
   repeat still_step
   still_call (E1.out _)
   repeat still_step
   still_call (E2.out _)
   refine wpStill_nil ?_
   change wpList _ _ _ _ _ w4.drew
   replace HB4 := Aside0.mk (below_drew1 HB4.out)
   clear f0 f1 f2 f3 hx2 hx3
   generalize w4.drew = w5 at *
   have hL := Aside0.mk (least3 w5.heap.size 16 (eachI (popI a1_2) a0_0) (eachI a1_3 a0_1) _ (heap_alloc_new w5 _))
   go_wp2_with (go_at_call 113; refine hL.out.mono ?_; rintro e w6 ⟨rfl, rfl⟩)
   go_ret
   exact ⟨rfl, below_alloc HB4.out _⟩
 ·rw [if_neg hg] at hck
  have HN : fitV a0_0 a0_1 a0_2 a0_3 a1_2 a1_3 = 0 := by unfold fitV; rw [if_neg (fun h => hg h.1)]
  rw [HN]
  have HK := Aside0.mk hck
  clear hck hg HN
  go_enter Try.func87, Try.ntmps87
  go_wp2_with (first | ((with_reducible refine gate_dst (N := 2) rfl ?_); refine bx 2 #[.int .i64 a0_0, .int .i64 a0_1, .int .i64 a0_2, .int .i64 a0_3] 27 ?_; intro g2 hg2 w2 hx2 hb2; have HB2 := Aside0.mk hb2; clear hb2 hg2) | ((with_reducible refine gate_dst (N := 3) rfl ?_); refine bx 3 #[.int .i64 a1_0, .int .i64 a1_1, .int .u64 a1_2, .int .i64 a1_3] 51 ?_; intro g3 hg3 w3 hx3 hb3; replace hx2 := blk_below hx2 hb3; have HB3 := Aside0.mk (below_step HB2.out hb3); clear hb3 hg3; have e0 := (blk_cell hx2 0).trans rfl; have e1 := (blk_cell hx2 1).trans rfl; have e2 := (blk_cell hx2 2).trans rfl; have e3 := (blk_cell hx2 3).trans rfl) | (go_at_call 83; refine (HK.out _).mono ?_; rintro e w4 ⟨rfl, hb⟩; clear e0 e1 e2 e3; replace hx2 := blk_below hx2 hb; replace hx3 := blk_below hx3 hb; have HB4 := Aside0.mk (below_step HB3.out hb); clear hb; have f0 := (blk_cell hx2 0).trans rfl; have f1 := (blk_cell hx2 1).trans rfl; have f2 := (blk_cell hx3 2).trans rfl; have f3 := (blk_cell hx3 3).trans rfl))
  all_goals go_ret
  all_goals exact ⟨rfl, HB4.out⟩
theorem shape_Fits.calls (a0_0 : Int) (a0_1 : Int) (a0_2 : Int) (a0_3 : Int) (a1_0 : Int) (a1_1 : Int) (a1_2 : Int) (a1_3 : Int) (r : Int) (w : World) (h : shape_Fits.f a0_0 a0_1 a0_2 a0_3 a1_0 a1_1 a1_2 a1_3 = some r) :
  Calls Try.prog 87 #[.agg #[.int .i64 a0_0, .int .i64 a0_1, .int .i64 a0_2, .int .i64 a0_3], .agg #[.int .i64 a1_0, .int .i64 a1_1, .int .u64 a1_2, .int .i64 a1_3]] w fun e w' => e = .returned (.int .i64 r) ∧ Below w.heap.size w w' := by
 unfold shape_Fits.f at h
 split at h
 ·rename_i hh
  obtain rfl := Option.some.inj h
  exact fits_any a0_0 a0_1 a0_2 a0_3 a1_0 a1_1 a1_2 a1_3 w hh.1 hh.2.1 hh.2.2
 ·cases h
end Go.Proofs.Ytckhjehibjdjdaa.P
namespace Go.Proofs.Ytckhjehibjdjdaa.P
open Go.RowKit Go.Proofs.YtckhjehibjdjdaaW.PrintWords Go.Proofs.YtckhjehibjdjdaaW.PrintLast Go.Proofs.YtckhjehibjdjdaaW.PrintMore
attribute [local go_sem] max2_int min2_int max_two min_two max_three min_three max_four min_four
set_option linter.unusedVariables false
set_option linter.unusedSimpArgs false
def pack_Room.l0 : Nat → Int → List (S51) → Int → Int → Int → Int → Int → Int → Option (Int)
 | 0, _, _, _, _, _, _, _, _ => none
 | k + 1, x5, x8, x9, x10, x240000, x240001, x240002, x240003 => if x10 < x9 then (if 0 ≤ x10 then (if x10 < (x8.length : Int) then ((shape_Fits.f x240000 x240001 x240002 x240003 ((rd_T51 x8 x10).f0.f0) ((rd_T51 x8 x10).f0.f1) ((rd_T51 x8 x10).f1) ((rd_T51 x8 x10).f2)).bind fun t242 => (pack_Room.l0 k (wrap64 (x5 + t242)) x8 x9 (wrap64 (x10 + 1)) x240000 x240001 x240002 x240003)) else (none)) else (none)) else (some x5)
def pack_Room.f (k : Nat) (l0 : List (S51)) (a1_0 : Int) (a1_1 : Int) (a1_2 : Int) (a1_3 : Int) : Option (Int) := pack_Room.l0 k 0 l0 (l0.length : Int) 0 a1_0 a1_1 a1_2 a1_3
set_option maxHeartbeats 8000000 in
set_option maxRecDepth 100000 in
theorem pack_Room.calls (k : Nat) (A0 : Option Addr) (c0 : Nat) (l0 : List (S51)) (a1_0 : Int) (a1_1 : Int) (a1_2 : Int) (a1_3 : Int) (r : Int) (w : World) (hr0 : Kd.C k51 w A0 l0.length l0) (hc0 : l0.length ≤ c0) (h : pack_Room.f k l0 a1_0 a1_1 a1_2 a1_3 = some r) :
  Calls Try.prog 50 #[.slice A0 l0.length c0, .agg #[.int .i64 a1_0, .int .i64 a1_1, .int .i64 a1_2, .int .i64 a1_3]] w fun e w' => e = .returned (.int .i64 r) ∧ Below w.heap.size w w' := by
 have hu27 := Try.underlying27
 have hu51 := Try.underlying51
 have HR0 := Aside0.mk hr0
 have HC0 := Aside0.mk hc0
 clear hr0 hc0
 have HB := Aside0.mk (Below.refl w.heap.size w)
 have H : (pack_Room.l0 k 0 l0 (l0.length : Int) 0 a1_0 a1_1 a1_2 a1_3) = some r := h
 clear h
 have H' := Aside0.mk H
 clear H
 go_enter Try.func50, Try.ntmps50
 go_wp2_with (first | ((with_reducible refine gate_dst (N := 3) rfl ?_); refine bx 3 #[.int .i64 a1_0, .int .i64 a1_1, .int .i64 a1_2, .int .i64 a1_3] 27 ?_; intro gb239 hg w3 hbox hb; have n0_ := Aside0.mk (below_step Z0 hb); have n1_ := Aside0.mk (hbox); have n2_ := Aside0.mk ((by rw [hg]; exact (below_size Z0) : w.heap.size ≤ gb239)); have n3_ := Aside0.mk ((by rw [hg]; exact (below_size Z0) : w.heap.size ≤ gb239)); clear HB; have HB := n0_; have BK239 := n1_; have GW239 := n2_; have GE239 := n3_; clear n0_ n1_ n2_ n3_; clear hb hbox hg))
 go_loopg [5, 10] k (fun kq v5 v10 w' => ∃ (x5_1 : Int) (x10_1 : Int), v5 = .int .i64 x5_1 ∧ v10 = .int .i64 x10_1 ∧ Aside0 (pack_Room.l0 kq x5_1 l0 (l0.length : Int) x10_1 a1_0 a1_1 a1_2 a1_3 = some r) ∧ Aside0 (kq ≤ k) ∧ Aside0 (w'.heap[gb239]? = some (.cells #[.int .i64 a1_0, .int .i64 a1_1, .int .i64 a1_2, .int .i64 a1_3] 27 (0, 0))) ∧ Aside0 (Below w.heap.size w w'))
 case atStart => exact ⟨(0), (0), Z4, Z4, H', ⟨Nat.le_refl _⟩, ⟨by (with_reducible repeat (first | refine blk_drewN ?_ _ | refine blk_drew ?_ | refine blk_alloc ?_ _)); exact BK239.out⟩, ⟨by repeat (first | (with_reducible first | exact HB.out | apply below_alloc | apply pw_below_drewN | apply below_drew1 | refine below_set ?_ GE239.out) | exact HB.out)⟩⟩
 case round =>
  clear H'
  try clear p2
  obtain ⟨x5_1, x10_1, rfl, rfl, HA, HK1, BK239, HB⟩ := hrel
  cases gk with
  | zero => exact absurd HA.out (by simp [pack_Room.l0])
  | succ k1 =>
   have H := HA.out
   clear HA
   simp only [pack_Room.l0] at H
   by_cases c4 : x10_1 < (l0.length : Int)
   ·rw [if_pos c4] at H
    have c4b0 : decide (x10_1 < (l0.length : Int)) = true := decide_eq_true c4
    clear c4
    by_cases c5 : 0 ≤ x10_1
    ·rw [if_pos c5] at H
     have c5b0 : decide (0 ≤ x10_1) = true := decide_eq_true c5
     clear c5
     by_cases c6 : x10_1 < (l0.length : Int)
     ·rw [if_pos c6] at H
      have c6b0 : decide (x10_1 < (l0.length : Int)) = true := decide_eq_true c6
      clear c6
      replace H := Option.bind_eq_some_iff.mp H
      obtain ⟨t242, A70, H⟩ := H
      replace H : (pack_Room.l0 k1 (wrap64 (x5_1 + t242)) l0 (l0.length : Int) (wrap64 (x10_1 + 1)) a1_0 a1_1 a1_2 a1_3) = some r := H
      have A7 := Aside0.mk A70
      clear A70
      have H' := Aside0.mk H
      clear H
      have p240 : 0 ≤ (x10_1 : Int) := of_decide_eq_true Z2
      have q240 : x10_1 < (l0.length : Int) := of_decide_eq_true Z2
      obtain ⟨ad240, e240, hx240_0, hx240_1, hx240_2, hx240_3⟩ := at_T51 HR0.out x10_1 p240 q240
      cases e240
      replace hx240_0 := (HB.out.cell (World.block_lt_of_cell? w _ hx240_0)).trans hx240_0
      replace hx240_1 := (HB.out.cell (World.block_lt_of_cell? w _ hx240_1)).trans hx240_1
      replace hx240_2 := (HB.out.cell (World.block_lt_of_cell? w _ hx240_2)).trans hx240_2
      replace hx240_3 := (HB.out.cell (World.block_lt_of_cell? w _ hx240_3)).trans hx240_3
      replace p240 := eq_true p240
      replace q240 := eq_true q240
      go_wp2_with (first | ((with_reducible refine gate_dst (N := 7) rfl ?_); refine bx 7 #[.int .i64 0, .int .i64 0, .int .u64 0, .int .i64 0] 51 ?_; intro gb241 hg w8 hbox hb; have n0_ := Aside0.mk (blk_below (g := gb239) (o := .cells #[.int .i64 a1_0, .int .i64 a1_1, .int .i64 a1_2, .int .i64 a1_3] 27 (0, 0)) (by (with_reducible repeat (first | refine blk_drewN ?_ _ | refine blk_drew ?_ | refine blk_alloc ?_ _)); exact BK239.out) hb); have n1_ := Aside0.mk (below_step (by repeat (first | (with_reducible first | exact HB.out | apply below_alloc | apply pw_below_drewN | apply below_drew1 | refine below_set ?_ GE239.out) | exact HB.out)) hb); have n2_ := Aside0.mk (hbox); have n3_ := Aside0.mk ((by rw [hg]; exact (below_size (by repeat (first | (with_reducible first | exact HB.out | apply below_alloc | apply pw_below_drewN | apply below_drew1 | refine below_set ?_ GE239.out) | exact HB.out))) : w.heap.size ≤ gb241)); have n4_ := Aside0.mk ((by rw [hg]; exact (below_size (by repeat (first | (with_reducible first | exact HB.out | apply below_alloc | apply pw_below_drewN | apply below_drew1 | refine below_set ?_ GE239.out) | exact HB.out))) : w.heap.size ≤ gb241)); have n5_ := Aside0.mk ((by rw [hg]; exact Nat.ne_of_lt (blk_lt (g := gb239) (o := .cells #[.int .i64 a1_0, .int .i64 a1_1, .int .i64 a1_2, .int .i64 a1_3] 27 (0, 0)) (by (with_reducible repeat (first | refine blk_drewN ?_ _ | refine blk_drew ?_ | refine blk_alloc ?_ _)); exact BK239.out)) : gb239 ≠ gb241)); have n6_ := Aside0.mk ((by rw [hg]; exact Nat.ne_of_gt (blk_lt (g := gb239) (o := .cells #[.int .i64 a1_0, .int .i64 a1_1, .int .i64 a1_2, .int .i64 a1_3] 27 (0, 0)) (by (with_reducible repeat (first | refine blk_drewN ?_ _ | refine blk_drew ?_ | refine blk_alloc ?_ _)); exact BK239.out)) : gb241 ≠ gb239)); clear BK239; clear HB; have BK239 := n0_; have HB := n1_; have BK241 := n2_; have GW241 := n3_; have GE241 := n4_; have NB239_241 := n5_; have NB241_239 := n6_; clear n0_ n1_ n2_ n3_ n4_ n5_ n6_; clear hb hbox hg; have hnb9 := NB241_239.out; have hnc9 := NB239_241.out; have hcz10_0 : w8.cell? ⟨gb241, 0, none⟩ = some (.int .i64 0) := (blk_cell BK241.out 0).trans rfl; have hcz10_1 : w8.cell? ⟨gb241, 1, none⟩ = some (.int .i64 0) := (blk_cell BK241.out 1).trans rfl; have hcz10_2 : w8.cell? ⟨gb241, 2, none⟩ = some (.int .u64 0) := (blk_cell BK241.out 2).trans rfl; have hcz10_3 : w8.cell? ⟨gb241, 3, none⟩ = some (.int .i64 0) := (blk_cell BK241.out 3).trans rfl; have hfz10_0 := blk_frozen BK241.out 0; have hfz10_1 := blk_frozen BK241.out 1; have hfz10_2 := blk_frozen BK241.out 2; have hfz10_3 := blk_frozen BK241.out 3; have hcz11_0 : w8.cell? ⟨gb239, 0, none⟩ = some (.int .i64 a1_0) := (blk_cell BK239.out 0).trans rfl; have hcz11_1 : w8.cell? ⟨gb239, 1, none⟩ = some (.int .i64 a1_1) := (blk_cell BK239.out 1).trans rfl; have hcz11_2 : w8.cell? ⟨gb239, 2, none⟩ = some (.int .i64 a1_2) := (blk_cell BK239.out 2).trans rfl; have hcz11_3 : w8.cell? ⟨gb239, 3, none⟩ = some (.int .i64 a1_3) := (blk_cell BK239.out 3).trans rfl; have hfz11_0 := blk_frozen BK239.out 0; have hfz11_1 := blk_frozen BK239.out 1; have hfz11_2 := blk_frozen BK239.out 2; have hfz11_3 := blk_frozen BK239.out 3) | ((with_reducible refine gate_callee (f := 87) rfl ?_); refine goesL_ (some 17) rfl rfl Try.func87 (by kernel_rfl) rfl #[.agg #[.int .i64 a1_0, .int .i64 a1_1, .int .i64 a1_2, .int .i64 a1_3], .agg #[.int .i64 ((rd_T51 l0 x10_1).f0.f0), .int .i64 ((rd_T51 l0 x10_1).f0.f1), .int .u64 ((rd_T51 l0 x10_1).f1), .int .i64 ((rd_T51 l0 x10_1).f2)]] rfl Z1 ?_; (with_reducible refine (shape_Fits.calls a1_0 a1_1 a1_2 a1_3 ((rd_T51 l0 x10_1).f0.f0) ((rd_T51 l0 x10_1).f0.f1) ((rd_T51 l0 x10_1).f1) ((rd_T51 l0 x10_1).f2) t242 _ A7.out).mono ?_); rintro e w12 ⟨rfl, hb⟩; refine ⟨_, rfl, ?_⟩; have n0_ := Aside0.mk (blk_below (g := gb239) (o := .cells #[.int .i64 a1_0, .int .i64 a1_1, .int .i64 a1_2, .int .i64 a1_3] 27 (0, 0)) (by (with_reducible repeat (first | refine blk_drewN ?_ _ | refine blk_drew ?_ | refine blk_alloc ?_ _)); refine blk_far ?_ NB239_241.out _; (with_reducible repeat (first | refine blk_drewN ?_ _ | refine blk_drew ?_ | refine blk_alloc ?_ _)); refine blk_far ?_ NB239_241.out _; (with_reducible repeat (first | refine blk_drewN ?_ _ | refine blk_drew ?_ | refine blk_alloc ?_ _)); refine blk_far ?_ NB239_241.out _; (with_reducible repeat (first | refine blk_drewN ?_ _ | refine blk_drew ?_ | refine blk_alloc ?_ _)); refine blk_far ?_ NB239_241.out _; (with_reducible repeat (first | refine blk_drewN ?_ _ | refine blk_drew ?_ | refine blk_alloc ?_ _)); exact BK239.out) hb); have n1_ := Aside0.mk (blk_below (g := gb241) (o := .cells #[.int .i64 ((rd_T51 l0 x10_1).f0.f0), .int .i64 ((rd_T51 l0 x10_1).f0.f1), .int .u64 ((rd_T51 l0 x10_1).f1), .int .i64 ((rd_T51 l0 x10_1).f2)] 51 (0, 0)) (by (with_reducible repeat (first | refine blk_drewN ?_ _ | refine blk_drew ?_ | refine blk_alloc ?_ _)); refine blk_put (cs := #[.int .i64 ((rd_T51 l0 x10_1).f0.f0), .int .i64 ((rd_T51 l0 x10_1).f0.f1), .int .u64 ((rd_T51 l0 x10_1).f1), .int .i64 0]) ?_ 3 _ rfl; (with_reducible repeat (first | refine blk_drewN ?_ _ | refine blk_drew ?_ | refine blk_alloc ?_ _)); refine blk_put (cs := #[.int .i64 ((rd_T51 l0 x10_1).f0.f0), .int .i64 ((rd_T51 l0 x10_1).f0.f1), .int .u64 0, .int .i64 0]) ?_ 2 _ rfl; (with_reducible repeat (first | refine blk_drewN ?_ _ | refine blk_drew ?_ | refine blk_alloc ?_ _)); refine blk_put (cs := #[.int .i64 ((rd_T51 l0 x10_1).f0.f0), .int .i64 0, .int .u64 0, .int .i64 0]) ?_ 1 _ rfl; (with_reducible repeat (first | refine blk_drewN ?_ _ | refine blk_drew ?_ | refine blk_alloc ?_ _)); refine blk_put (cs := #[.int .i64 0, .int .i64 0, .int .u64 0, .int .i64 0]) ?_ 0 _ rfl; (with_reducible repeat (first | refine blk_drewN ?_ _ | refine blk_drew ?_ | refine blk_alloc ?_ _)); exact BK241.out) hb); have n2_ := Aside0.mk (below_step (by repeat (first | (with_reducible first | exact HB.out | apply below_alloc | apply pw_below_drewN | apply below_drew1 | refine below_set ?_ GE239.out | refine below_set ?_ GE241.out) | exact HB.out)) hb); clear BK239; clear BK241; clear HB; have BK239 := n0_; have BK241 := n1_; have HB := n2_; clear n0_ n1_ n2_; (try clear hb); (try clear hb2); (try clear hk); (try clear hi)))
      go_roundg k1
      case measure => have := HK1.out; omega
      case rel => exact ⟨(wrap64 (x5_1 + t242)), (wrap64 (x10_1 + 1)), Z4, Z4, H', ⟨by have := HK1.out; omega⟩, ⟨by (with_reducible repeat (first | refine blk_drewN ?_ _ | refine blk_drew ?_ | refine blk_alloc ?_ _)); exact BK239.out⟩, ⟨by repeat (first | (with_reducible first | exact HB.out | apply below_alloc | apply pw_below_drewN | apply below_drew1 | refine below_set ?_ GE239.out | refine below_set ?_ GE241.out) | exact HB.out)⟩⟩
     ·rw [if_neg c6] at H
      exact absurd H (by simp)
    ·rw [if_neg c5] at H
     exact absurd H (by simp)
   ·rw [if_neg c4] at H
    have c4b0 : decide (x10_1 < (l0.length : Int)) = false := decide_eq_false c4
    clear c4
    obtain rfl := Option.some.inj H
    go_wp2
    go_ret
    exact ⟨by first | rfl | (simp [errW_none, errW_some] <;> rfl) | (simp [*, errW_none, errW_some] <;> rfl), by repeat (first | (with_reducible first | exact HB.out | apply below_alloc | apply pw_below_drewN | apply below_drew1 | refine below_set ?_ GE239.out) | exact HB.out)⟩
end Go.Proofs.Ytckhjehibjdjdaa.P
namespace Go.Proofs.Ytckhjehibjdjdaa.P
open Go.RowKit Go.Proofs.YtckhjehibjdjdaaW.PrintWords Go.Proofs.YtckhjehibjdjdaaW.PrintLast Go.Proofs.YtckhjehibjdjdaaW.PrintMore
attribute [local go_sem] max2_int min2_int max_two min_two max_three min_three max_four min_four
set_option linter.unusedVariables false
set_option linter.unusedSimpArgs false
def promise_right.f (a0_0 : Int) (a0_1 : Int) (a0_2 : Int) (a0_3 : Int) (a0_4 : Int) (a0_5 : Int) : Option (Bool) := (shape_Check.f a0_2 a0_3 a0_4 a0_5).bind fun t244 => (if t244 = 0 then (if a0_1 ≥ 1 then (some (decide (a0_1 ≤ 16))) else (some false)) else (some false))
set_option maxHeartbeats 8000000 in
set_option maxRecDepth 100000 in
theorem promise_right.calls (a0_0 : Int) (a0_1 : Int) (a0_2 : Int) (a0_3 : Int) (a0_4 : Int) (a0_5 : Int) (r : Bool) (w : World) (h : promise_right.f a0_0 a0_1 a0_2 a0_3 a0_4 a0_5 = some r) :
  Calls Try.prog 68 #[.agg #[.int .i64 a0_0, .int .i64 a0_1, .int .i64 a0_2, .int .i64 a0_3, .int .i64 a0_4, .int .i64 a0_5]] w fun e w' => e = .returned (.bool r) ∧ Below w.heap.size w w' := by
 have hu29 := Try.underlying29
 have hu27 := Try.underlying27
 have HB := Aside0.mk (Below.refl w.heap.size w)
 have H : ((shape_Check.f a0_2 a0_3 a0_4 a0_5).bind fun t244 => (if t244 = 0 then (if a0_1 ≥ 1 then (some (decide (a0_1 ≤ 16))) else (some false)) else (some false))) = some r := h
 clear h
 replace H := Option.bind_eq_some_iff.mp H
 obtain ⟨t244, A20, H⟩ := H
 replace H : (if t244 = 0 then (if a0_1 ≥ 1 then (some (decide (a0_1 ≤ 16))) else (some false)) else (some false)) = some r := H
 have A2 := Aside0.mk A20
 clear A20
 by_cases c3 : t244 = 0
 ·rw [if_pos c3] at H
  have c3b0 : (t244 == 0) = true := beq_iff_eq.mpr c3
  have c3b1 : (t244 != 0) = false := bne_eq_false_iff_eq.mpr c3
  clear c3
  by_cases c4 : a0_1 ≥ 1
  ·rw [if_pos c4] at H
   have c4b0 : decide (1 ≤ a0_1) = true := decide_eq_true c4
   clear c4
   obtain rfl := Option.some.inj H
   go_enter Try.func68, Try.ntmps68
   go_wp2_with (first | ((with_reducible refine gate_dst (N := 1) rfl ?_); refine bx 1 #[.int .i64 a0_0, .int .i64 a0_1, .int .i64 a0_2, .int .i64 a0_3, .int .i64 a0_4, .int .i64 a0_5] 29 ?_; intro gb243 hg w5 hbox hb; have n0_ := Aside0.mk (below_step Z0 hb); have n1_ := Aside0.mk (hbox); have n2_ := Aside0.mk ((by rw [hg]; exact (below_size Z0) : w.heap.size ≤ gb243)); have n3_ := Aside0.mk ((by rw [hg]; exact (below_size Z0) : w.heap.size ≤ gb243)); clear HB; have HB := n0_; have BK243 := n1_; have GW243 := n2_; have GE243 := n3_; clear n0_ n1_ n2_ n3_; clear hb hbox hg; have hcz6_0 : w5.cell? ⟨gb243, 0, none⟩ = some (.int .i64 a0_0) := (blk_cell BK243.out 0).trans rfl; have hcz6_1 : w5.cell? ⟨gb243, 1, none⟩ = some (.int .i64 a0_1) := (blk_cell BK243.out 1).trans rfl; have hcz6_2 : w5.cell? ⟨gb243, 2, none⟩ = some (.int .i64 a0_2) := (blk_cell BK243.out 2).trans rfl; have hcz6_3 : w5.cell? ⟨gb243, 3, none⟩ = some (.int .i64 a0_3) := (blk_cell BK243.out 3).trans rfl; have hcz6_4 : w5.cell? ⟨gb243, 4, none⟩ = some (.int .i64 a0_4) := (blk_cell BK243.out 4).trans rfl; have hcz6_5 : w5.cell? ⟨gb243, 5, none⟩ = some (.int .i64 a0_5) := (blk_cell BK243.out 5).trans rfl; have hfz6_0 := blk_frozen BK243.out 0; have hfz6_1 := blk_frozen BK243.out 1; have hfz6_2 := blk_frozen BK243.out 2; have hfz6_3 := blk_frozen BK243.out 3; have hfz6_4 := blk_frozen BK243.out 4; have hfz6_5 := blk_frozen BK243.out 5) | ((with_reducible refine gate_callee (f := 83) rfl ?_); refine goesL_ (some 5) rfl rfl Try.func83 (by kernel_rfl) rfl #[.agg #[.int .i64 a0_2, .int .i64 a0_3, .int .i64 a0_4, .int .i64 a0_5]] rfl Z1 ?_; (with_reducible refine (shape_Check.calls a0_2 a0_3 a0_4 a0_5 t244 _ A2.out).mono ?_); rintro e w7 ⟨rfl, hb⟩; refine ⟨_, rfl, ?_⟩; have n0_ := Aside0.mk (blk_below (g := gb243) (o := .cells #[.int .i64 a0_0, .int .i64 a0_1, .int .i64 a0_2, .int .i64 a0_3, .int .i64 a0_4, .int .i64 a0_5] 29 (0, 0)) (by (with_reducible repeat (first | refine blk_drewN ?_ _ | refine blk_drew ?_ | refine blk_alloc ?_ _)); exact BK243.out) hb); have n1_ := Aside0.mk (below_step (by repeat (first | (with_reducible first | exact HB.out | apply below_alloc | apply pw_below_drewN | apply below_drew1 | refine below_set ?_ GE243.out) | exact HB.out)) hb); clear BK243; clear HB; have BK243 := n0_; have HB := n1_; clear n0_ n1_; (try clear hb); (try clear hb2); (try clear hk); (try clear hi); have hcz8_0 : w7.cell? ⟨gb243, 0, none⟩ = some (.int .i64 a0_0) := (blk_cell BK243.out 0).trans rfl; have hcz8_1 : w7.cell? ⟨gb243, 1, none⟩ = some (.int .i64 a0_1) := (blk_cell BK243.out 1).trans rfl; have hcz8_2 : w7.cell? ⟨gb243, 2, none⟩ = some (.int .i64 a0_2) := (blk_cell BK243.out 2).trans rfl; have hcz8_3 : w7.cell? ⟨gb243, 3, none⟩ = some (.int .i64 a0_3) := (blk_cell BK243.out 3).trans rfl; have hcz8_4 : w7.cell? ⟨gb243, 4, none⟩ = some (.int .i64 a0_4) := (blk_cell BK243.out 4).trans rfl; have hcz8_5 : w7.cell? ⟨gb243, 5, none⟩ = some (.int .i64 a0_5) := (blk_cell BK243.out 5).trans rfl; have hfz8_0 := blk_frozen BK243.out 0; have hfz8_1 := blk_frozen BK243.out 1; have hfz8_2 := blk_frozen BK243.out 2; have hfz8_3 := blk_frozen BK243.out 3; have hfz8_4 := blk_frozen BK243.out 4; have hfz8_5 := blk_frozen BK243.out 5))
   go_ret
   exact ⟨by first | rfl | (simp [errW_none, errW_some] <;> rfl) | (simp [*, errW_none, errW_some] <;> rfl), by repeat (first | (with_reducible first | exact HB.out | apply below_alloc | apply pw_below_drewN | apply below_drew1 | refine below_set ?_ GE243.out) | exact HB.out)⟩
  ·rw [if_neg c4] at H
   have c4b0 : decide (1 ≤ a0_1) = false := decide_eq_false c4
   clear c4
   obtain rfl := Option.some.inj H
   go_enter Try.func68, Try.ntmps68
   go_wp2_with (first | ((with_reducible refine gate_dst (N := 1) rfl ?_); refine bx 1 #[.int .i64 a0_0, .int .i64 a0_1, .int .i64 a0_2, .int .i64 a0_3, .int .i64 a0_4, .int .i64 a0_5] 29 ?_; intro gb243 hg w9 hbox hb; have n0_ := Aside0.mk (below_step Z0 hb); have n1_ := Aside0.mk (hbox); have n2_ := Aside0.mk ((by rw [hg]; exact (below_size Z0) : w.heap.size ≤ gb243)); have n3_ := Aside0.mk ((by rw [hg]; exact (below_size Z0) : w.heap.size ≤ gb243)); clear HB; have HB := n0_; have BK243 := n1_; have GW243 := n2_; have GE243 := n3_; clear n0_ n1_ n2_ n3_; clear hb hbox hg; have hcz10_0 : w9.cell? ⟨gb243, 0, none⟩ = some (.int .i64 a0_0) := (blk_cell BK243.out 0).trans rfl; have hcz10_1 : w9.cell? ⟨gb243, 1, none⟩ = some (.int .i64 a0_1) := (blk_cell BK243.out 1).trans rfl; have hcz10_2 : w9.cell? ⟨gb243, 2, none⟩ = some (.int .i64 a0_2) := (blk_cell BK243.out 2).trans rfl; have hcz10_3 : w9.cell? ⟨gb243, 3, none⟩ = some (.int .i64 a0_3) := (blk_cell BK243.out 3).trans rfl; have hcz10_4 : w9.cell? ⟨gb243, 4, none⟩ = some (.int .i64 a0_4) := (blk_cell BK243.out 4).trans rfl; have hcz10_5 : w9.cell? ⟨gb243, 5, none⟩ = some (.int .i64 a0_5) := (blk_cell BK243.out 5).trans rfl; have hfz10_0 := blk_frozen BK243.out 0; have hfz10_1 := blk_frozen BK243.out 1; have hfz10_2 := blk_frozen BK243.out 2; have hfz10_3 := blk_frozen BK243.out 3; have hfz10_4 := blk_frozen BK243.out 4; have hfz10_5 := blk_frozen BK243.out 5) | ((with_reducible refine gate_callee (f := 83) rfl ?_); refine goesL_ (some 5) rfl rfl Try.func83 (by kernel_rfl) rfl #[.agg #[.int .i64 a0_2, .int .i64 a0_3, .int .i64 a0_4, .int .i64 a0_5]] rfl Z1 ?_; (with_reducible refine (shape_Check.calls a0_2 a0_3 a0_4 a0_5 t244 _ A2.out).mono ?_); rintro e w11 ⟨rfl, hb⟩; refine ⟨_, rfl, ?_⟩; have n0_ := Aside0.mk (blk_below (g := gb243) (o := .cells #[.int .i64 a0_0, .int .i64 a0_1, .int .i64 a0_2, .int .i64 a0_3, .int .i64 a0_4, .int .i64 a0_5] 29 (0, 0)) (by (with_reducible repeat (first | refine blk_drewN ?_ _ | refine blk_drew ?_ | refine blk_alloc ?_ _)); exact BK243.out) hb); have n1_ := Aside0.mk (below_step (by repeat (first | (with_reducible first | exact HB.out | apply below_alloc | apply pw_below_drewN | apply below_drew1 | refine below_set ?_ GE243.out) | exact HB.out)) hb); clear BK243; clear HB; have BK243 := n0_; have HB := n1_; clear n0_ n1_; (try clear hb); (try clear hb2); (try clear hk); (try clear hi); have hcz12_0 : w11.cell? ⟨gb243, 0, none⟩ = some (.int .i64 a0_0) := (blk_cell BK243.out 0).trans rfl; have hcz12_1 : w11.cell? ⟨gb243, 1, none⟩ = some (.int .i64 a0_1) := (blk_cell BK243.out 1).trans rfl; have hcz12_2 : w11.cell? ⟨gb243, 2, none⟩ = some (.int .i64 a0_2) := (blk_cell BK243.out 2).trans rfl; have hcz12_3 : w11.cell? ⟨gb243, 3, none⟩ = some (.int .i64 a0_3) := (blk_cell BK243.out 3).trans rfl; have hcz12_4 : w11.cell? ⟨gb243, 4, none⟩ = some (.int .i64 a0_4) := (blk_cell BK243.out 4).trans rfl; have hcz12_5 : w11.cell? ⟨gb243, 5, none⟩ = some (.int .i64 a0_5) := (blk_cell BK243.out 5).trans rfl; have hfz12_0 := blk_frozen BK243.out 0; have hfz12_1 := blk_frozen BK243.out 1; have hfz12_2 := blk_frozen BK243.out 2; have hfz12_3 := blk_frozen BK243.out 3; have hfz12_4 := blk_frozen BK243.out 4; have hfz12_5 := blk_frozen BK243.out 5))
   go_ret
   exact ⟨by first | rfl | (simp [errW_none, errW_some] <;> rfl) | (simp [*, errW_none, errW_some] <;> rfl), by repeat (first | (with_reducible first | exact HB.out | apply below_alloc | apply pw_below_drewN | apply below_drew1 | refine below_set ?_ GE243.out) | exact HB.out)⟩
 ·rw [if_neg c3] at H
  have c3b0 : (t244 == 0) = false := beq_eq_false_iff_ne.mpr c3
  have c3b1 : (t244 != 0) = true := bne_iff_ne.mpr c3
  obtain rfl := Option.some.inj H
  go_enter Try.func68, Try.ntmps68
  go_wp2_with (first | ((with_reducible refine gate_dst (N := 1) rfl ?_); refine bx 1 #[.int .i64 a0_0, .int .i64 a0_1, .int .i64 a0_2, .int .i64 a0_3, .int .i64 a0_4, .int .i64 a0_5] 29 ?_; intro gb243 hg w13 hbox hb; have n0_ := Aside0.mk (below_step Z0 hb); have n1_ := Aside0.mk (hbox); have n2_ := Aside0.mk ((by rw [hg]; exact (below_size Z0) : w.heap.size ≤ gb243)); have n3_ := Aside0.mk ((by rw [hg]; exact (below_size Z0) : w.heap.size ≤ gb243)); clear HB; have HB := n0_; have BK243 := n1_; have GW243 := n2_; have GE243 := n3_; clear n0_ n1_ n2_ n3_; clear hb hbox hg; have hcz14_0 : w13.cell? ⟨gb243, 0, none⟩ = some (.int .i64 a0_0) := (blk_cell BK243.out 0).trans rfl; have hcz14_1 : w13.cell? ⟨gb243, 1, none⟩ = some (.int .i64 a0_1) := (blk_cell BK243.out 1).trans rfl; have hcz14_2 : w13.cell? ⟨gb243, 2, none⟩ = some (.int .i64 a0_2) := (blk_cell BK243.out 2).trans rfl; have hcz14_3 : w13.cell? ⟨gb243, 3, none⟩ = some (.int .i64 a0_3) := (blk_cell BK243.out 3).trans rfl; have hcz14_4 : w13.cell? ⟨gb243, 4, none⟩ = some (.int .i64 a0_4) := (blk_cell BK243.out 4).trans rfl; have hcz14_5 : w13.cell? ⟨gb243, 5, none⟩ = some (.int .i64 a0_5) := (blk_cell BK243.out 5).trans rfl; have hfz14_0 := blk_frozen BK243.out 0; have hfz14_1 := blk_frozen BK243.out 1; have hfz14_2 := blk_frozen BK243.out 2; have hfz14_3 := blk_frozen BK243.out 3; have hfz14_4 := blk_frozen BK243.out 4; have hfz14_5 := blk_frozen BK243.out 5) | ((with_reducible refine gate_callee (f := 83) rfl ?_); refine goesL_ (some 5) rfl rfl Try.func83 (by kernel_rfl) rfl #[.agg #[.int .i64 a0_2, .int .i64 a0_3, .int .i64 a0_4, .int .i64 a0_5]] rfl Z1 ?_; (with_reducible refine (shape_Check.calls a0_2 a0_3 a0_4 a0_5 t244 _ A2.out).mono ?_); rintro e w15 ⟨rfl, hb⟩; refine ⟨_, rfl, ?_⟩; have n0_ := Aside0.mk (blk_below (g := gb243) (o := .cells #[.int .i64 a0_0, .int .i64 a0_1, .int .i64 a0_2, .int .i64 a0_3, .int .i64 a0_4, .int .i64 a0_5] 29 (0, 0)) (by (with_reducible repeat (first | refine blk_drewN ?_ _ | refine blk_drew ?_ | refine blk_alloc ?_ _)); exact BK243.out) hb); have n1_ := Aside0.mk (below_step (by repeat (first | (with_reducible first | exact HB.out | apply below_alloc | apply pw_below_drewN | apply below_drew1 | refine below_set ?_ GE243.out) | exact HB.out)) hb); clear BK243; clear HB; have BK243 := n0_; have HB := n1_; clear n0_ n1_; (try clear hb); (try clear hb2); (try clear hk); (try clear hi)))
  go_ret
  exact ⟨by first | rfl | (simp [errW_none, errW_some] <;> rfl) | (simp [*, errW_none, errW_some] <;> rfl), by repeat (first | (with_reducible first | exact HB.out | apply below_alloc | apply pw_below_drewN | apply below_drew1 | refine below_set ?_ GE243.out) | exact HB.out)⟩
end Go.Proofs.Ytckhjehibjdjdaa.P
namespace Go.Proofs.Ytckhjehibjdjdaa.P
open Go.RowKit Go.Proofs.YtckhjehibjdjdaaW.PrintWords Go.Proofs.YtckhjehibjdjdaaW.PrintLast Go.Proofs.YtckhjehibjdjdaaW.PrintMore
attribute [local go_sem] max2_int min2_int max_two min_two max_three min_three max_four min_four
set_option linter.unusedVariables false
set_option linter.unusedSimpArgs false
def shape_Units.f (a0_0 : Int) (a0_1 : Int) (a0_2 : Int) (a0_3 : Int) (a1 : Int) : Option (Int × Int × Int) := (shape_Check.f a0_0 a0_1 a0_2 a0_3).bind fun t247 => (if t247 = 0 then (if a1 < 0 then (some (0, 0, 1)) else (if a1 > 16 then (some (0, 0, 1)) else (some (wrap64 (a0_0 * a1), wrap64 (a0_1 * a1), 0)))) else (some (0, 0, 1)))
set_option maxHeartbeats 8000000 in
set_option maxRecDepth 100000 in
theorem shape_Units.calls (a0_0 : Int) (a0_1 : Int) (a0_2 : Int) (a0_3 : Int) (a1 : Int) (r1 : Int) (r2 : Int) (r3 : Int) (w : World) (h : shape_Units.f a0_0 a0_1 a0_2 a0_3 a1 = some (r1, r2, r3)) :
  Calls Try.prog 76 #[.agg #[.int .i64 a0_0, .int .i64 a0_1, .int .i64 a0_2, .int .i64 a0_3], .int .i64 a1] w fun e w' => e = .returned (.tuple #[.agg #[.int .i64 r1, .int .i64 r2], .int .i64 r3]) ∧ Below w.heap.size w w' := by
 have hu27 := Try.underlying27
 have hu24 := Try.underlying24
 have HB := Aside0.mk (Below.refl w.heap.size w)
 have H : ((shape_Check.f a0_0 a0_1 a0_2 a0_3).bind fun t247 => (if t247 = 0 then (if a1 < 0 then (some (0, 0, 1)) else (if a1 > 16 then (some (0, 0, 1)) else (some (wrap64 (a0_0 * a1), wrap64 (a0_1 * a1), 0)))) else (some (0, 0, 1)))) = some (r1, r2, r3) := h
 clear h
 replace H := Option.bind_eq_some_iff.mp H
 obtain ⟨t247, A30, H⟩ := H
 replace H : (if t247 = 0 then (if a1 < 0 then (some (0, 0, 1)) else (if a1 > 16 then (some (0, 0, 1)) else (some (wrap64 (a0_0 * a1), wrap64 (a0_1 * a1), 0)))) else (some (0, 0, 1))) = some (r1, r2, r3) := H
 have A3 := Aside0.mk A30
 clear A30
 by_cases c4 : t247 = 0
 ·rw [if_pos c4] at H
  have c4b0 : (t247 == 0) = true := beq_iff_eq.mpr c4
  have c4b1 : (t247 != 0) = false := bne_eq_false_iff_eq.mpr c4
  clear c4
  by_cases c5 : a1 < 0
  ·rw [if_pos c5] at H
   have c5b0 : decide (a1 < 0) = true := decide_eq_true c5
   clear c5
   simp only [Option.some.injEq, Prod.mk.injEq] at H
   obtain ⟨rfl, rfl, rfl⟩ := H
   go_enter Try.func76, Try.ntmps76
   go_wp2_with (first | ((with_reducible refine gate_dst (N := 2) rfl ?_); refine bx 2 #[.int .i64 a0_0, .int .i64 a0_1, .int .i64 a0_2, .int .i64 a0_3] 27 ?_; intro gb245 hg w6 hbox hb; have n0_ := Aside0.mk (below_step Z0 hb); have n1_ := Aside0.mk (hbox); have n2_ := Aside0.mk ((by rw [hg]; exact (below_size Z0) : w.heap.size ≤ gb245)); have n3_ := Aside0.mk ((by rw [hg]; exact (below_size Z0) : w.heap.size ≤ gb245)); clear HB; have HB := n0_; have BK245 := n1_; have GW245 := n2_; have GE245 := n3_; clear n0_ n1_ n2_ n3_; clear hb hbox hg) | ((with_reducible refine gate_dst (N := 4) rfl ?_); refine bx 4 #[.int .i64 0, .int .i64 0] 24 ?_; intro gb246 hg w7 hbox hb; have n0_ := Aside0.mk (blk_below (g := gb245) (o := .cells #[.int .i64 a0_0, .int .i64 a0_1, .int .i64 a0_2, .int .i64 a0_3] 27 (0, 0)) (by (with_reducible repeat (first | refine blk_drewN ?_ _ | refine blk_drew ?_ | refine blk_alloc ?_ _)); exact BK245.out) hb); have n1_ := Aside0.mk (below_step (by repeat (first | (with_reducible first | exact HB.out | apply below_alloc | apply pw_below_drewN | apply below_drew1 | refine below_set ?_ GE245.out) | exact HB.out)) hb); have n2_ := Aside0.mk (hbox); have n3_ := Aside0.mk ((by rw [hg]; exact (below_size (by repeat (first | (with_reducible first | exact HB.out | apply below_alloc | apply pw_below_drewN | apply below_drew1 | refine below_set ?_ GE245.out) | exact HB.out))) : w.heap.size ≤ gb246)); have n4_ := Aside0.mk ((by rw [hg]; exact (below_size (by repeat (first | (with_reducible first | exact HB.out | apply below_alloc | apply pw_below_drewN | apply below_drew1 | refine below_set ?_ GE245.out) | exact HB.out))) : w.heap.size ≤ gb246)); have n5_ := Aside0.mk ((by rw [hg]; exact Nat.ne_of_lt (blk_lt (g := gb245) (o := .cells #[.int .i64 a0_0, .int .i64 a0_1, .int .i64 a0_2, .int .i64 a0_3] 27 (0, 0)) (by (with_reducible repeat (first | refine blk_drewN ?_ _ | refine blk_drew ?_ | refine blk_alloc ?_ _)); exact BK245.out)) : gb245 ≠ gb246)); have n6_ := Aside0.mk ((by rw [hg]; exact Nat.ne_of_gt (blk_lt (g := gb245) (o := .cells #[.int .i64 a0_0, .int .i64 a0_1, .int .i64 a0_2, .int .i64 a0_3] 27 (0, 0)) (by (with_reducible repeat (first | refine blk_drewN ?_ _ | refine blk_drew ?_ | refine blk_alloc ?_ _)); exact BK245.out)) : gb246 ≠ gb245)); clear BK245; clear HB; have BK245 := n0_; have HB := n1_; have BK246 := n2_; have GW246 := n3_; have GE246 := n4_; have NB245_246 := n5_; have NB246_245 := n6_; clear n0_ n1_ n2_ n3_ n4_ n5_ n6_; clear hb hbox hg; have hnb8 := NB245_246.out; have hnc8 := NB246_245.out; have hcz9_0 : w7.cell? ⟨gb245, 0, none⟩ = some (.int .i64 a0_0) := (blk_cell BK245.out 0).trans rfl; have hcz9_1 : w7.cell? ⟨gb245, 1, none⟩ = some (.int .i64 a0_1) := (blk_cell BK245.out 1).trans rfl; have hcz9_2 : w7.cell? ⟨gb245, 2, none⟩ = some (.int .i64 a0_2) := (blk_cell BK245.out 2).trans rfl; have hcz9_3 : w7.cell? ⟨gb245, 3, none⟩ = some (.int .i64 a0_3) := (blk_cell BK245.out 3).trans rfl; have hfz9_0 := blk_frozen BK245.out 0; have hfz9_1 := blk_frozen BK245.out 1; have hfz9_2 := blk_frozen BK245.out 2; have hfz9_3 := blk_frozen BK245.out 3) | ((with_reducible refine gate_callee (f := 83) rfl ?_); refine goesL_ (some 7) rfl rfl Try.func83 (by kernel_rfl) rfl #[.agg #[.int .i64 a0_0, .int .i64 a0_1, .int .i64 a0_2, .int .i64 a0_3]] rfl Z1 ?_; (with_reducible refine (shape_Check.calls a0_0 a0_1 a0_2 a0_3 t247 _ A3.out).mono ?_); rintro e w10 ⟨rfl, hb⟩; refine ⟨_, rfl, ?_⟩; have n0_ := Aside0.mk (blk_below (g := gb245) (o := .cells #[.int .i64 a0_0, .int .i64 a0_1, .int .i64 a0_2, .int .i64 a0_3] 27 (0, 0)) (by (with_reducible repeat (first | refine blk_drewN ?_ _ | refine blk_drew ?_ | refine blk_alloc ?_ _)); exact BK245.out) hb); have n1_ := Aside0.mk (blk_below (g := gb246) (o := .cells #[.int .i64 0, .int .i64 0] 24 (0, 0)) (by (with_reducible repeat (first | refine blk_drewN ?_ _ | refine blk_drew ?_ | refine blk_alloc ?_ _)); exact BK246.out) hb); have n2_ := Aside0.mk (below_step (by repeat (first | (with_reducible first | exact HB.out | apply below_alloc | apply pw_below_drewN | apply below_drew1 | refine below_set ?_ GE245.out | refine below_set ?_ GE246.out) | exact HB.out)) hb); clear BK245; clear BK246; clear HB; have BK245 := n0_; have BK246 := n1_; have HB := n2_; clear n0_ n1_ n2_; (try clear hb); (try clear hb2); (try clear hk); (try clear hi); have hcz11_0 : w10.cell? ⟨gb246, 0, none⟩ = some (.int .i64 0) := (blk_cell BK246.out 0).trans rfl; have hcz11_1 : w10.cell? ⟨gb246, 1, none⟩ = some (.int .i64 0) := (blk_cell BK246.out 1).trans rfl; have hfz11_0 := blk_frozen BK246.out 0; have hfz11_1 := blk_frozen BK246.out 1))
   refine bodyPost_ret (results_ct rfl _ _ gb246 24 #[.int .i64 0, .int .i64 0] (0, 0) _ rfl (by (with_reducible repeat (first | refine blk_drewN ?_ _ | refine blk_drew ?_ | refine blk_alloc ?_ _)); refine blk_put (cs := #[.int .i64 0, .int .i64 0]) ?_ 1 _ rfl; (with_reducible repeat (first | refine blk_drewN ?_ _ | refine blk_drew ?_ | refine blk_alloc ?_ _)); refine blk_put (cs := #[.int .i64 0, .int .i64 0]) ?_ 0 _ rfl; (with_reducible repeat (first | refine blk_drewN ?_ _ | refine blk_drew ?_ | refine blk_alloc ?_ _)); exact BK246.out) Try.underlying24 rfl (by kernel_rfl)) rfl ?_
   exact ⟨by first | rfl | (simp [errW_none, errW_some] <;> rfl) | (simp [*, errW_none, errW_some] <;> rfl), by repeat (first | (with_reducible first | exact HB.out | apply below_alloc | apply pw_below_drewN | apply below_drew1 | refine below_set ?_ GE245.out | refine below_set ?_ GE246.out) | exact HB.out)⟩
  ·rw [if_neg c5] at H
   have c5b0 : decide (a1 < 0) = false := decide_eq_false c5
   clear c5
   by_cases c12 : a1 > 16
   ·rw [if_pos c12] at H
    have c12b0 : decide (16 < a1) = true := decide_eq_true c12
    clear c12
    simp only [Option.some.injEq, Prod.mk.injEq] at H
    obtain ⟨rfl, rfl, rfl⟩ := H
    go_enter Try.func76, Try.ntmps76
    go_wp2_with (first | ((with_reducible refine gate_dst (N := 2) rfl ?_); refine bx 2 #[.int .i64 a0_0, .int .i64 a0_1, .int .i64 a0_2, .int .i64 a0_3] 27 ?_; intro gb245 hg w13 hbox hb; have n0_ := Aside0.mk (below_step Z0 hb); have n1_ := Aside0.mk (hbox); have n2_ := Aside0.mk ((by rw [hg]; exact (below_size Z0) : w.heap.size ≤ gb245)); have n3_ := Aside0.mk ((by rw [hg]; exact (below_size Z0) : w.heap.size ≤ gb245)); clear HB; have HB := n0_; have BK245 := n1_; have GW245 := n2_; have GE245 := n3_; clear n0_ n1_ n2_ n3_; clear hb hbox hg) | ((with_reducible refine gate_dst (N := 4) rfl ?_); refine bx 4 #[.int .i64 0, .int .i64 0] 24 ?_; intro gb246 hg w14 hbox hb; have n0_ := Aside0.mk (blk_below (g := gb245) (o := .cells #[.int .i64 a0_0, .int .i64 a0_1, .int .i64 a0_2, .int .i64 a0_3] 27 (0, 0)) (by (with_reducible repeat (first | refine blk_drewN ?_ _ | refine blk_drew ?_ | refine blk_alloc ?_ _)); exact BK245.out) hb); have n1_ := Aside0.mk (below_step (by repeat (first | (with_reducible first | exact HB.out | apply below_alloc | apply pw_below_drewN | apply below_drew1 | refine below_set ?_ GE245.out) | exact HB.out)) hb); have n2_ := Aside0.mk (hbox); have n3_ := Aside0.mk ((by rw [hg]; exact (below_size (by repeat (first | (with_reducible first | exact HB.out | apply below_alloc | apply pw_below_drewN | apply below_drew1 | refine below_set ?_ GE245.out) | exact HB.out))) : w.heap.size ≤ gb246)); have n4_ := Aside0.mk ((by rw [hg]; exact (below_size (by repeat (first | (with_reducible first | exact HB.out | apply below_alloc | apply pw_below_drewN | apply below_drew1 | refine below_set ?_ GE245.out) | exact HB.out))) : w.heap.size ≤ gb246)); have n5_ := Aside0.mk ((by rw [hg]; exact Nat.ne_of_lt (blk_lt (g := gb245) (o := .cells #[.int .i64 a0_0, .int .i64 a0_1, .int .i64 a0_2, .int .i64 a0_3] 27 (0, 0)) (by (with_reducible repeat (first | refine blk_drewN ?_ _ | refine blk_drew ?_ | refine blk_alloc ?_ _)); exact BK245.out)) : gb245 ≠ gb246)); have n6_ := Aside0.mk ((by rw [hg]; exact Nat.ne_of_gt (blk_lt (g := gb245) (o := .cells #[.int .i64 a0_0, .int .i64 a0_1, .int .i64 a0_2, .int .i64 a0_3] 27 (0, 0)) (by (with_reducible repeat (first | refine blk_drewN ?_ _ | refine blk_drew ?_ | refine blk_alloc ?_ _)); exact BK245.out)) : gb246 ≠ gb245)); clear BK245; clear HB; have BK245 := n0_; have HB := n1_; have BK246 := n2_; have GW246 := n3_; have GE246 := n4_; have NB245_246 := n5_; have NB246_245 := n6_; clear n0_ n1_ n2_ n3_ n4_ n5_ n6_; clear hb hbox hg; have hnb15 := NB245_246.out; have hnc15 := NB246_245.out; have hcz16_0 : w14.cell? ⟨gb245, 0, none⟩ = some (.int .i64 a0_0) := (blk_cell BK245.out 0).trans rfl; have hcz16_1 : w14.cell? ⟨gb245, 1, none⟩ = some (.int .i64 a0_1) := (blk_cell BK245.out 1).trans rfl; have hcz16_2 : w14.cell? ⟨gb245, 2, none⟩ = some (.int .i64 a0_2) := (blk_cell BK245.out 2).trans rfl; have hcz16_3 : w14.cell? ⟨gb245, 3, none⟩ = some (.int .i64 a0_3) := (blk_cell BK245.out 3).trans rfl; have hfz16_0 := blk_frozen BK245.out 0; have hfz16_1 := blk_frozen BK245.out 1; have hfz16_2 := blk_frozen BK245.out 2; have hfz16_3 := blk_frozen BK245.out 3) | ((with_reducible refine gate_callee (f := 83) rfl ?_); refine goesL_ (some 7) rfl rfl Try.func83 (by kernel_rfl) rfl #[.agg #[.int .i64 a0_0, .int .i64 a0_1, .int .i64 a0_2, .int .i64 a0_3]] rfl Z1 ?_; (with_reducible refine (shape_Check.calls a0_0 a0_1 a0_2 a0_3 t247 _ A3.out).mono ?_); rintro e w17 ⟨rfl, hb⟩; refine ⟨_, rfl, ?_⟩; have n0_ := Aside0.mk (blk_below (g := gb245) (o := .cells #[.int .i64 a0_0, .int .i64 a0_1, .int .i64 a0_2, .int .i64 a0_3] 27 (0, 0)) (by (with_reducible repeat (first | refine blk_drewN ?_ _ | refine blk_drew ?_ | refine blk_alloc ?_ _)); exact BK245.out) hb); have n1_ := Aside0.mk (blk_below (g := gb246) (o := .cells #[.int .i64 0, .int .i64 0] 24 (0, 0)) (by (with_reducible repeat (first | refine blk_drewN ?_ _ | refine blk_drew ?_ | refine blk_alloc ?_ _)); exact BK246.out) hb); have n2_ := Aside0.mk (below_step (by repeat (first | (with_reducible first | exact HB.out | apply below_alloc | apply pw_below_drewN | apply below_drew1 | refine below_set ?_ GE245.out | refine below_set ?_ GE246.out) | exact HB.out)) hb); clear BK245; clear BK246; clear HB; have BK245 := n0_; have BK246 := n1_; have HB := n2_; clear n0_ n1_ n2_; (try clear hb); (try clear hb2); (try clear hk); (try clear hi); have hcz18_0 : w17.cell? ⟨gb246, 0, none⟩ = some (.int .i64 0) := (blk_cell BK246.out 0).trans rfl; have hcz18_1 : w17.cell? ⟨gb246, 1, none⟩ = some (.int .i64 0) := (blk_cell BK246.out 1).trans rfl; have hfz18_0 := blk_frozen BK246.out 0; have hfz18_1 := blk_frozen BK246.out 1))
    refine bodyPost_ret (results_ct rfl _ _ gb246 24 #[.int .i64 0, .int .i64 0] (0, 0) _ rfl (by (with_reducible repeat (first | refine blk_drewN ?_ _ | refine blk_drew ?_ | refine blk_alloc ?_ _)); refine blk_put (cs := #[.int .i64 0, .int .i64 0]) ?_ 1 _ rfl; (with_reducible repeat (first | refine blk_drewN ?_ _ | refine blk_drew ?_ | refine blk_alloc ?_ _)); refine blk_put (cs := #[.int .i64 0, .int .i64 0]) ?_ 0 _ rfl; (with_reducible repeat (first | refine blk_drewN ?_ _ | refine blk_drew ?_ | refine blk_alloc ?_ _)); exact BK246.out) Try.underlying24 rfl (by kernel_rfl)) rfl ?_
    exact ⟨by first | rfl | (simp [errW_none, errW_some] <;> rfl) | (simp [*, errW_none, errW_some] <;> rfl), by repeat (first | (with_reducible first | exact HB.out | apply below_alloc | apply pw_below_drewN | apply below_drew1 | refine below_set ?_ GE245.out | refine below_set ?_ GE246.out) | exact HB.out)⟩
   ·rw [if_neg c12] at H
    have c12b0 : decide (16 < a1) = false := decide_eq_false c12
    clear c12
    simp only [Option.some.injEq, Prod.mk.injEq] at H
    obtain ⟨rfl, rfl, rfl⟩ := H
    go_enter Try.func76, Try.ntmps76
    go_wp2_with (first | ((with_reducible refine gate_dst (N := 2) rfl ?_); refine bx 2 #[.int .i64 a0_0, .int .i64 a0_1, .int .i64 a0_2, .int .i64 a0_3] 27 ?_; intro gb245 hg w19 hbox hb; have n0_ := Aside0.mk (below_step Z0 hb); have n1_ := Aside0.mk (hbox); have n2_ := Aside0.mk ((by rw [hg]; exact (below_size Z0) : w.heap.size ≤ gb245)); have n3_ := Aside0.mk ((by rw [hg]; exact (below_size Z0) : w.heap.size ≤ gb245)); clear HB; have HB := n0_; have BK245 := n1_; have GW245 := n2_; have GE245 := n3_; clear n0_ n1_ n2_ n3_; clear hb hbox hg) | ((with_reducible refine gate_dst (N := 4) rfl ?_); refine bx 4 #[.int .i64 0, .int .i64 0] 24 ?_; intro gb246 hg w20 hbox hb; have n0_ := Aside0.mk (blk_below (g := gb245) (o := .cells #[.int .i64 a0_0, .int .i64 a0_1, .int .i64 a0_2, .int .i64 a0_3] 27 (0, 0)) (by (with_reducible repeat (first | refine blk_drewN ?_ _ | refine blk_drew ?_ | refine blk_alloc ?_ _)); exact BK245.out) hb); have n1_ := Aside0.mk (below_step (by repeat (first | (with_reducible first | exact HB.out | apply below_alloc | apply pw_below_drewN | apply below_drew1 | refine below_set ?_ GE245.out) | exact HB.out)) hb); have n2_ := Aside0.mk (hbox); have n3_ := Aside0.mk ((by rw [hg]; exact (below_size (by repeat (first | (with_reducible first | exact HB.out | apply below_alloc | apply pw_below_drewN | apply below_drew1 | refine below_set ?_ GE245.out) | exact HB.out))) : w.heap.size ≤ gb246)); have n4_ := Aside0.mk ((by rw [hg]; exact (below_size (by repeat (first | (with_reducible first | exact HB.out | apply below_alloc | apply pw_below_drewN | apply below_drew1 | refine below_set ?_ GE245.out) | exact HB.out))) : w.heap.size ≤ gb246)); have n5_ := Aside0.mk ((by rw [hg]; exact Nat.ne_of_lt (blk_lt (g := gb245) (o := .cells #[.int .i64 a0_0, .int .i64 a0_1, .int .i64 a0_2, .int .i64 a0_3] 27 (0, 0)) (by (with_reducible repeat (first | refine blk_drewN ?_ _ | refine blk_drew ?_ | refine blk_alloc ?_ _)); exact BK245.out)) : gb245 ≠ gb246)); have n6_ := Aside0.mk ((by rw [hg]; exact Nat.ne_of_gt (blk_lt (g := gb245) (o := .cells #[.int .i64 a0_0, .int .i64 a0_1, .int .i64 a0_2, .int .i64 a0_3] 27 (0, 0)) (by (with_reducible repeat (first | refine blk_drewN ?_ _ | refine blk_drew ?_ | refine blk_alloc ?_ _)); exact BK245.out)) : gb246 ≠ gb245)); clear BK245; clear HB; have BK245 := n0_; have HB := n1_; have BK246 := n2_; have GW246 := n3_; have GE246 := n4_; have NB245_246 := n5_; have NB246_245 := n6_; clear n0_ n1_ n2_ n3_ n4_ n5_ n6_; clear hb hbox hg; have hnb21 := NB245_246.out; have hnc21 := NB246_245.out; have hcz22_0 : w20.cell? ⟨gb245, 0, none⟩ = some (.int .i64 a0_0) := (blk_cell BK245.out 0).trans rfl; have hcz22_1 : w20.cell? ⟨gb245, 1, none⟩ = some (.int .i64 a0_1) := (blk_cell BK245.out 1).trans rfl; have hcz22_2 : w20.cell? ⟨gb245, 2, none⟩ = some (.int .i64 a0_2) := (blk_cell BK245.out 2).trans rfl; have hcz22_3 : w20.cell? ⟨gb245, 3, none⟩ = some (.int .i64 a0_3) := (blk_cell BK245.out 3).trans rfl; have hfz22_0 := blk_frozen BK245.out 0; have hfz22_1 := blk_frozen BK245.out 1; have hfz22_2 := blk_frozen BK245.out 2; have hfz22_3 := blk_frozen BK245.out 3) | ((with_reducible refine gate_callee (f := 83) rfl ?_); refine goesL_ (some 7) rfl rfl Try.func83 (by kernel_rfl) rfl #[.agg #[.int .i64 a0_0, .int .i64 a0_1, .int .i64 a0_2, .int .i64 a0_3]] rfl Z1 ?_; (with_reducible refine (shape_Check.calls a0_0 a0_1 a0_2 a0_3 t247 _ A3.out).mono ?_); rintro e w23 ⟨rfl, hb⟩; refine ⟨_, rfl, ?_⟩; have n0_ := Aside0.mk (blk_below (g := gb245) (o := .cells #[.int .i64 a0_0, .int .i64 a0_1, .int .i64 a0_2, .int .i64 a0_3] 27 (0, 0)) (by (with_reducible repeat (first | refine blk_drewN ?_ _ | refine blk_drew ?_ | refine blk_alloc ?_ _)); exact BK245.out) hb); have n1_ := Aside0.mk (blk_below (g := gb246) (o := .cells #[.int .i64 0, .int .i64 0] 24 (0, 0)) (by (with_reducible repeat (first | refine blk_drewN ?_ _ | refine blk_drew ?_ | refine blk_alloc ?_ _)); exact BK246.out) hb); have n2_ := Aside0.mk (below_step (by repeat (first | (with_reducible first | exact HB.out | apply below_alloc | apply pw_below_drewN | apply below_drew1 | refine below_set ?_ GE245.out | refine below_set ?_ GE246.out) | exact HB.out)) hb); clear BK245; clear BK246; clear HB; have BK245 := n0_; have BK246 := n1_; have HB := n2_; clear n0_ n1_ n2_; (try clear hb); (try clear hb2); (try clear hk); (try clear hi); have hcz24_0 : w23.cell? ⟨gb245, 0, none⟩ = some (.int .i64 a0_0) := (blk_cell BK245.out 0).trans rfl; have hcz24_1 : w23.cell? ⟨gb245, 1, none⟩ = some (.int .i64 a0_1) := (blk_cell BK245.out 1).trans rfl; have hcz24_2 : w23.cell? ⟨gb245, 2, none⟩ = some (.int .i64 a0_2) := (blk_cell BK245.out 2).trans rfl; have hcz24_3 : w23.cell? ⟨gb245, 3, none⟩ = some (.int .i64 a0_3) := (blk_cell BK245.out 3).trans rfl; have hfz24_0 := blk_frozen BK245.out 0; have hfz24_1 := blk_frozen BK245.out 1; have hfz24_2 := blk_frozen BK245.out 2; have hfz24_3 := blk_frozen BK245.out 3; have hcz25_0 : w23.cell? ⟨gb246, 0, none⟩ = some (.int .i64 0) := (blk_cell BK246.out 0).trans rfl; have hcz25_1 : w23.cell? ⟨gb246, 1, none⟩ = some (.int .i64 0) := (blk_cell BK246.out 1).trans rfl; have hfz25_0 := blk_frozen BK246.out 0; have hfz25_1 := blk_frozen BK246.out 1))
    refine bodyPost_ret (results_ct rfl _ _ gb246 24 #[.int .i64 (wrap64 (a0_0 * a1)), .int .i64 (wrap64 (a0_1 * a1))] (0, 0) _ rfl (by (with_reducible repeat (first | refine blk_drewN ?_ _ | refine blk_drew ?_ | refine blk_alloc ?_ _)); refine blk_put (cs := #[.int .i64 (wrap64 (a0_0 * a1)), .int .i64 0]) ?_ 1 _ rfl; (with_reducible repeat (first | refine blk_drewN ?_ _ | refine blk_drew ?_ | refine blk_alloc ?_ _)); refine blk_put (cs := #[.int .i64 0, .int .i64 0]) ?_ 0 _ rfl; (with_reducible repeat (first | refine blk_drewN ?_ _ | refine blk_drew ?_ | refine blk_alloc ?_ _)); exact BK246.out) Try.underlying24 rfl (by kernel_rfl)) rfl ?_
    exact ⟨by first | rfl | (simp [errW_none, errW_some] <;> rfl) | (simp [*, errW_none, errW_some] <;> rfl), by repeat (first | (with_reducible first | exact HB.out | apply below_alloc | apply pw_below_drewN | apply below_drew1 | refine below_set ?_ GE245.out | refine below_set ?_ GE246.out) | exact HB.out)⟩
 ·rw [if_neg c4] at H
  have c4b0 : (t247 == 0) = false := beq_eq_false_iff_ne.mpr c4
  have c4b1 : (t247 != 0) = true := bne_iff_ne.mpr c4
  simp only [Option.some.injEq, Prod.mk.injEq] at H
  obtain ⟨rfl, rfl, rfl⟩ := H
  go_enter Try.func76, Try.ntmps76
  go_wp2_with (first | ((with_reducible refine gate_dst (N := 2) rfl ?_); refine bx 2 #[.int .i64 a0_0, .int .i64 a0_1, .int .i64 a0_2, .int .i64 a0_3] 27 ?_; intro gb245 hg w26 hbox hb; have n0_ := Aside0.mk (below_step Z0 hb); have n1_ := Aside0.mk (hbox); have n2_ := Aside0.mk ((by rw [hg]; exact (below_size Z0) : w.heap.size ≤ gb245)); have n3_ := Aside0.mk ((by rw [hg]; exact (below_size Z0) : w.heap.size ≤ gb245)); clear HB; have HB := n0_; have BK245 := n1_; have GW245 := n2_; have GE245 := n3_; clear n0_ n1_ n2_ n3_; clear hb hbox hg) | ((with_reducible refine gate_dst (N := 4) rfl ?_); refine bx 4 #[.int .i64 0, .int .i64 0] 24 ?_; intro gb246 hg w27 hbox hb; have n0_ := Aside0.mk (blk_below (g := gb245) (o := .cells #[.int .i64 a0_0, .int .i64 a0_1, .int .i64 a0_2, .int .i64 a0_3] 27 (0, 0)) (by (with_reducible repeat (first | refine blk_drewN ?_ _ | refine blk_drew ?_ | refine blk_alloc ?_ _)); exact BK245.out) hb); have n1_ := Aside0.mk (below_step (by repeat (first | (with_reducible first | exact HB.out | apply below_alloc | apply pw_below_drewN | apply below_drew1 | refine below_set ?_ GE245.out) | exact HB.out)) hb); have n2_ := Aside0.mk (hbox); have n3_ := Aside0.mk ((by rw [hg]; exact (below_size (by repeat (first | (with_reducible first | exact HB.out | apply below_alloc | apply pw_below_drewN | apply below_drew1 | refine below_set ?_ GE245.out) | exact HB.out))) : w.heap.size ≤ gb246)); have n4_ := Aside0.mk ((by rw [hg]; exact (below_size (by repeat (first | (with_reducible first | exact HB.out | apply below_alloc | apply pw_below_drewN | apply below_drew1 | refine below_set ?_ GE245.out) | exact HB.out))) : w.heap.size ≤ gb246)); have n5_ := Aside0.mk ((by rw [hg]; exact Nat.ne_of_lt (blk_lt (g := gb245) (o := .cells #[.int .i64 a0_0, .int .i64 a0_1, .int .i64 a0_2, .int .i64 a0_3] 27 (0, 0)) (by (with_reducible repeat (first | refine blk_drewN ?_ _ | refine blk_drew ?_ | refine blk_alloc ?_ _)); exact BK245.out)) : gb245 ≠ gb246)); have n6_ := Aside0.mk ((by rw [hg]; exact Nat.ne_of_gt (blk_lt (g := gb245) (o := .cells #[.int .i64 a0_0, .int .i64 a0_1, .int .i64 a0_2, .int .i64 a0_3] 27 (0, 0)) (by (with_reducible repeat (first | refine blk_drewN ?_ _ | refine blk_drew ?_ | refine blk_alloc ?_ _)); exact BK245.out)) : gb246 ≠ gb245)); clear BK245; clear HB; have BK245 := n0_; have HB := n1_; have BK246 := n2_; have GW246 := n3_; have GE246 := n4_; have NB245_246 := n5_; have NB246_245 := n6_; clear n0_ n1_ n2_ n3_ n4_ n5_ n6_; clear hb hbox hg; have hnb28 := NB245_246.out; have hnc28 := NB246_245.out; have hcz29_0 : w27.cell? ⟨gb245, 0, none⟩ = some (.int .i64 a0_0) := (blk_cell BK245.out 0).trans rfl; have hcz29_1 : w27.cell? ⟨gb245, 1, none⟩ = some (.int .i64 a0_1) := (blk_cell BK245.out 1).trans rfl; have hcz29_2 : w27.cell? ⟨gb245, 2, none⟩ = some (.int .i64 a0_2) := (blk_cell BK245.out 2).trans rfl; have hcz29_3 : w27.cell? ⟨gb245, 3, none⟩ = some (.int .i64 a0_3) := (blk_cell BK245.out 3).trans rfl; have hfz29_0 := blk_frozen BK245.out 0; have hfz29_1 := blk_frozen BK245.out 1; have hfz29_2 := blk_frozen BK245.out 2; have hfz29_3 := blk_frozen BK245.out 3) | ((with_reducible refine gate_callee (f := 83) rfl ?_); refine goesL_ (some 7) rfl rfl Try.func83 (by kernel_rfl) rfl #[.agg #[.int .i64 a0_0, .int .i64 a0_1, .int .i64 a0_2, .int .i64 a0_3]] rfl Z1 ?_; (with_reducible refine (shape_Check.calls a0_0 a0_1 a0_2 a0_3 t247 _ A3.out).mono ?_); rintro e w30 ⟨rfl, hb⟩; refine ⟨_, rfl, ?_⟩; have n0_ := Aside0.mk (blk_below (g := gb245) (o := .cells #[.int .i64 a0_0, .int .i64 a0_1, .int .i64 a0_2, .int .i64 a0_3] 27 (0, 0)) (by (with_reducible repeat (first | refine blk_drewN ?_ _ | refine blk_drew ?_ | refine blk_alloc ?_ _)); exact BK245.out) hb); have n1_ := Aside0.mk (blk_below (g := gb246) (o := .cells #[.int .i64 0, .int .i64 0] 24 (0, 0)) (by (with_reducible repeat (first | refine blk_drewN ?_ _ | refine blk_drew ?_ | refine blk_alloc ?_ _)); exact BK246.out) hb); have n2_ := Aside0.mk (below_step (by repeat (first | (with_reducible first | exact HB.out | apply below_alloc | apply pw_below_drewN | apply below_drew1 | refine below_set ?_ GE245.out | refine below_set ?_ GE246.out) | exact HB.out)) hb); clear BK245; clear BK246; clear HB; have BK245 := n0_; have BK246 := n1_; have HB := n2_; clear n0_ n1_ n2_; (try clear hb); (try clear hb2); (try clear hk); (try clear hi); have hcz31_0 : w30.cell? ⟨gb246, 0, none⟩ = some (.int .i64 0) := (blk_cell BK246.out 0).trans rfl; have hcz31_1 : w30.cell? ⟨gb246, 1, none⟩ = some (.int .i64 0) := (blk_cell BK246.out 1).trans rfl; have hfz31_0 := blk_frozen BK246.out 0; have hfz31_1 := blk_frozen BK246.out 1))
  refine bodyPost_ret (results_ct rfl _ _ gb246 24 #[.int .i64 0, .int .i64 0] (0, 0) _ rfl (by (with_reducible repeat (first | refine blk_drewN ?_ _ | refine blk_drew ?_ | refine blk_alloc ?_ _)); refine blk_put (cs := #[.int .i64 0, .int .i64 0]) ?_ 1 _ rfl; (with_reducible repeat (first | refine blk_drewN ?_ _ | refine blk_drew ?_ | refine blk_alloc ?_ _)); refine blk_put (cs := #[.int .i64 0, .int .i64 0]) ?_ 0 _ rfl; (with_reducible repeat (first | refine blk_drewN ?_ _ | refine blk_drew ?_ | refine blk_alloc ?_ _)); exact BK246.out) Try.underlying24 rfl (by kernel_rfl)) rfl ?_
  exact ⟨by first | rfl | (simp [errW_none, errW_some] <;> rfl) | (simp [*, errW_none, errW_some] <;> rfl), by repeat (first | (with_reducible first | exact HB.out | apply below_alloc | apply pw_below_drewN | apply below_drew1 | refine below_set ?_ GE245.out | refine below_set ?_ GE246.out) | exact HB.out)⟩
end Go.Proofs.Ytckhjehibjdjdaa.P
namespace Go.Proofs.Ytckhjehibjdjdaa.P
open Go.RowKit Go.Proofs.YtckhjehibjdjdaaW.PrintWords Go.Proofs.YtckhjehibjdjdaaW.PrintLast Go.Proofs.YtckhjehibjdjdaaW.PrintMore
attribute [local go_sem] max2_int min2_int max_two min_two max_three min_three max_four min_four
set_option linter.unusedVariables false
set_option linter.unusedSimpArgs false
def promise_Fits.f (k : Nat) (l0 : List (S51)) (a1_0 : Int) (a1_1 : Int) (a2_0 : Int) (a2_1 : Int) (a2_2 : Int) (a2_3 : Int) (a2_4 : Int) (a2_5 : Int) : Option (Bool) := (promise_right.f a2_0 a2_1 a2_2 a2_3 a2_4 a2_5).bind fun t250 => (if t250 = true then ((shape_Units.f a2_2 a2_3 a2_4 a2_5 a2_1).bind fun bt251 => (if bt251.1 ≤ a1_0 then (if bt251.2.1 ≤ a1_1 then ((pack_Room.f k l0 a2_2 a2_3 a2_4 a2_5).bind fun t255 => (some (decide (t255 ≥ a2_1)))) else (some false)) else (some false))) else (some false))
def promise_Fits.T4 : Bool × List (List Nat × List Nat) := (true, [([], []), ([0], [0]), ([], []), ([2], [2]), ([1, 3], [1, 3]), ([4], [4]), ([5], [5]), ([6, 5], [5, 6]), ([5], [5]), ([8, 5], [5, 8]), ([7, 9, 5], [5, 7, 9]), ([5, 10], [5, 10]), ([11, 5], [11]), ([12], [12]), ([12], [12]), ([14, 12], [12, 14]), ([13, 15, 12, 12], [12, 13, 15]), ([12], [12]), ([17, 12], [12, 17]), ([16, 18, 12], [12, 16, 18]), ([12, 19], [12, 19]), ([20, 16, 0, 1, 2, 3, 4, 5, 6, 7, 8, 9, 10, 11, 12, 13, 14, 15, 16, 17, 18, 19, 20], [20])])
def promise_Fits.B4 : List Nat := [0, 1, 0, 4, 15, 31, 63, 127, 63, 319, 1023, 2047, 4095, 8191, 8191, 24575, 65535, 8191, 139263, 524287, 1048575, 2097151]
theorem promise_Fits.tab4 : rtab .any (opsOf Try.f29 4) = promise_Fits.T4 := by kernel_rfl
theorem promise_Fits.bits4 : waitsOk promise_Fits.T4.2 promise_Fits.B4 = true := by kernel_rfl
set_option maxHeartbeats 8000000 in
set_option maxRecDepth 100000 in
theorem promise_Fits.calls (k : Nat) (A0 : Option Addr) (c0 : Nat) (l0 : List (S51)) (a1_0 : Int) (a1_1 : Int) (a2_0 : Int) (a2_1 : Int) (a2_2 : Int) (a2_3 : Int) (a2_4 : Int) (a2_5 : Int) (r : Bool) (w : World) (hr0 : Kd.C k51 w A0 l0.length l0) (hc0 : l0.length ≤ c0) (h : promise_Fits.f k l0 a1_0 a1_1 a2_0 a2_1 a2_2 a2_3 a2_4 a2_5 = some r) :
  Calls Try.prog 29 #[.slice A0 l0.length c0, .agg #[.int .i64 a1_0, .int .i64 a1_1], .agg #[.int .i64 a2_0, .int .i64 a2_1, .int .i64 a2_2, .int .i64 a2_3, .int .i64 a2_4, .int .i64 a2_5]] w fun e w' => e = .returned (.bool r) ∧ Below w.heap.size w w' := by
 have hu24 := Try.underlying24
 have hu29 := Try.underlying29
 have hu27 := Try.underlying27
 have HR0 := Aside0.mk hr0
 have HC0 := Aside0.mk hc0
 clear hr0 hc0
 have HB := Aside0.mk (Below.refl w.heap.size w)
 have H : ((promise_right.f a2_0 a2_1 a2_2 a2_3 a2_4 a2_5).bind fun t250 => (if t250 = true then ((shape_Units.f a2_2 a2_3 a2_4 a2_5 a2_1).bind fun bt251 => (if bt251.1 ≤ a1_0 then (if bt251.2.1 ≤ a1_1 then ((pack_Room.f k l0 a2_2 a2_3 a2_4 a2_5).bind fun t255 => (some (decide (t255 ≥ a2_1)))) else (some false)) else (some false))) else (some false))) = some r := h
 clear h
 replace H := Option.bind_eq_some_iff.mp H
 obtain ⟨t250, A40, H⟩ := H
 replace H : (if t250 = true then ((shape_Units.f a2_2 a2_3 a2_4 a2_5 a2_1).bind fun bt251 => (if bt251.1 ≤ a1_0 then (if bt251.2.1 ≤ a1_1 then ((pack_Room.f k l0 a2_2 a2_3 a2_4 a2_5).bind fun t255 => (some (decide (t255 ≥ a2_1)))) else (some false)) else (some false))) else (some false)) = some r := H
 have A4 := Aside0.mk A40
 clear A40
 by_cases c5 : t250 = true
 ·subst c5
  have H1 : ((shape_Units.f a2_2 a2_3 a2_4 a2_5 a2_1).bind fun bt251 => (if bt251.1 ≤ a1_0 then (if bt251.2.1 ≤ a1_1 then ((pack_Room.f k l0 a2_2 a2_3 a2_4 a2_5).bind fun t255 => (some (decide (t255 ≥ a2_1)))) else (some false)) else (some false))) = some r := by rw [if_pos rfl] at H; exact H
  clear H
  have H := H1
  clear H1
  replace H := Option.bind_eq_some_iff.mp H
  obtain ⟨⟨t251, t252, t253⟩, A60, H⟩ := H
  replace H : (if t251 ≤ a1_0 then (if t252 ≤ a1_1 then ((pack_Room.f k l0 a2_2 a2_3 a2_4 a2_5).bind fun t255 => (some (decide (t255 ≥ a2_1)))) else (some false)) else (some false)) = some r := H
  have A6 := Aside0.mk A60
  clear A60
  by_cases c7 : t251 ≤ a1_0
  ·rw [if_pos c7] at H
   have c7b0 : decide (t251 ≤ a1_0) = true := decide_eq_true c7
   clear c7
   by_cases c8 : t252 ≤ a1_1
   ·rw [if_pos c8] at H
    have c8b0 : decide (t252 ≤ a1_1) = true := decide_eq_true c8
    clear c8
    replace H := Option.bind_eq_some_iff.mp H
    obtain ⟨t255, A90, H⟩ := H
    replace H : (some (decide (t255 ≥ a2_1))) = some r := H
    have A9 := Aside0.mk A90
    clear A90
    obtain rfl := Option.some.inj H
    go_enter Try.func29, Try.ntmps29
    try go_wp2_with (first | ((with_reducible refine gate_dst (N := 4) rfl ?_); refine bx 4 #[.int .i64 a1_0, .int .i64 a1_1] 24 ?_; intro gb248 hg w10 hbox hb; have n0_ := Aside0.mk (below_step Z0 hb); have n1_ := Aside0.mk (hbox); have n2_ := Aside0.mk ((by rw [hg]; exact (below_size Z0) : w.heap.size ≤ gb248)); have n3_ := Aside0.mk ((by rw [hg]; exact (below_size Z0) : w.heap.size ≤ gb248)); clear HB; have HB := n0_; have BK248 := n1_; have GW248 := n2_; have GE248 := n3_; clear n0_ n1_ n2_ n3_; clear hb hbox hg) | ((with_reducible refine gate_dst (N := 5) rfl ?_); refine bx 5 #[.int .i64 a2_0, .int .i64 a2_1, .int .i64 a2_2, .int .i64 a2_3, .int .i64 a2_4, .int .i64 a2_5] 29 ?_; intro gb249 hg w11 hbox hb; have n0_ := Aside0.mk (blk_below (g := gb248) (o := .cells #[.int .i64 a1_0, .int .i64 a1_1] 24 (0, 0)) (by (with_reducible repeat (first | refine blk_drewN ?_ _ | refine blk_drew ?_ | refine blk_alloc ?_ _)); exact BK248.out) hb); have n1_ := Aside0.mk (below_step (by repeat (first | (with_reducible first | exact HB.out | apply below_alloc | apply pw_below_drewN | apply below_drew1 | refine below_set ?_ GE248.out) | exact HB.out)) hb); have n2_ := Aside0.mk (hbox); have n3_ := Aside0.mk ((by rw [hg]; exact (below_size (by repeat (first | (with_reducible first | exact HB.out | apply below_alloc | apply pw_below_drewN | apply below_drew1 | refine below_set ?_ GE248.out) | exact HB.out))) : w.heap.size ≤ gb249)); have n4_ := Aside0.mk ((by rw [hg]; exact (below_size (by repeat (first | (with_reducible first | exact HB.out | apply below_alloc | apply pw_below_drewN | apply below_drew1 | refine below_set ?_ GE248.out) | exact HB.out))) : w.heap.size ≤ gb249)); have n5_ := Aside0.mk ((by rw [hg]; exact Nat.ne_of_lt (blk_lt (g := gb248) (o := .cells #[.int .i64 a1_0, .int .i64 a1_1] 24 (0, 0)) (by (with_reducible repeat (first | refine blk_drewN ?_ _ | refine blk_drew ?_ | refine blk_alloc ?_ _)); exact BK248.out)) : gb248 ≠ gb249)); have n6_ := Aside0.mk ((by rw [hg]; exact Nat.ne_of_gt (blk_lt (g := gb248) (o := .cells #[.int .i64 a1_0, .int .i64 a1_1] 24 (0, 0)) (by (with_reducible repeat (first | refine blk_drewN ?_ _ | refine blk_drew ?_ | refine blk_alloc ?_ _)); exact BK248.out)) : gb249 ≠ gb248)); clear BK248; clear HB; have BK248 := n0_; have HB := n1_; have BK249 := n2_; have GW249 := n3_; have GE249 := n4_; have NB248_249 := n5_; have NB249_248 := n6_; clear n0_ n1_ n2_ n3_ n4_ n5_ n6_; clear hb hbox hg; have hnb12 := NB249_248.out; have hnc12 := NB248_249.out; have hcz13_0 : w11.cell? ⟨gb249, 0, none⟩ = some (.int .i64 a2_0) := (blk_cell BK249.out 0).trans rfl; have hcz13_1 : w11.cell? ⟨gb249, 1, none⟩ = some (.int .i64 a2_1) := (blk_cell BK249.out 1).trans rfl; have hcz13_2 : w11.cell? ⟨gb249, 2, none⟩ = some (.int .i64 a2_2) := (blk_cell BK249.out 2).trans rfl; have hcz13_3 : w11.cell? ⟨gb249, 3, none⟩ = some (.int .i64 a2_3) := (blk_cell BK249.out 3).trans rfl; have hcz13_4 : w11.cell? ⟨gb249, 4, none⟩ = some (.int .i64 a2_4) := (blk_cell BK249.out 4).trans rfl; have hcz13_5 : w11.cell? ⟨gb249, 5, none⟩ = some (.int .i64 a2_5) := (blk_cell BK249.out 5).trans rfl; have hfz13_0 := blk_frozen BK249.out 0; have hfz13_1 := blk_frozen BK249.out 1; have hfz13_2 := blk_frozen BK249.out 2; have hfz13_3 := blk_frozen BK249.out 3; have hfz13_4 := blk_frozen BK249.out 4; have hfz13_5 := blk_frozen BK249.out 5) | ((with_reducible refine gate_callee (f := 68) rfl ?_); refine goesL_ (some 10) rfl rfl Try.func68 (by kernel_rfl) rfl #[.agg #[.int .i64 a2_0, .int .i64 a2_1, .int .i64 a2_2, .int .i64 a2_3, .int .i64 a2_4, .int .i64 a2_5]] rfl Z1 ?_; (with_reducible refine (promise_right.calls a2_0 a2_1 a2_2 a2_3 a2_4 a2_5 true _ A4.out).mono ?_); rintro e w14 ⟨rfl, hb⟩; refine ⟨_, rfl, ?_⟩; have n0_ := Aside0.mk (blk_below (g := gb248) (o := .cells #[.int .i64 a1_0, .int .i64 a1_1] 24 (0, 0)) (by (with_reducible repeat (first | refine blk_drewN ?_ _ | refine blk_drew ?_ | refine blk_alloc ?_ _)); exact BK248.out) hb); have n1_ := Aside0.mk (blk_below (g := gb249) (o := .cells #[.int .i64 a2_0, .int .i64 a2_1, .int .i64 a2_2, .int .i64 a2_3, .int .i64 a2_4, .int .i64 a2_5] 29 (0, 0)) (by (with_reducible repeat (first | refine blk_drewN ?_ _ | refine blk_drew ?_ | refine blk_alloc ?_ _)); exact BK249.out) hb); have n2_ := Aside0.mk (below_step (by repeat (first | (with_reducible first | exact HB.out | apply below_alloc | apply pw_below_drewN | apply below_drew1 | refine below_set ?_ GE248.out | refine below_set ?_ GE249.out) | exact HB.out)) hb); clear BK248; clear BK249; clear HB; have BK248 := n0_; have BK249 := n1_; have HB := n2_; clear n0_ n1_ n2_; (try clear hb); (try clear hb2); (try clear hk); (try clear hi); have hcz15_0 : w14.cell? ⟨gb249, 0, none⟩ = some (.int .i64 a2_0) := (blk_cell BK249.out 0).trans rfl; have hcz15_1 : w14.cell? ⟨gb249, 1, none⟩ = some (.int .i64 a2_1) := (blk_cell BK249.out 1).trans rfl; have hcz15_2 : w14.cell? ⟨gb249, 2, none⟩ = some (.int .i64 a2_2) := (blk_cell BK249.out 2).trans rfl; have hcz15_3 : w14.cell? ⟨gb249, 3, none⟩ = some (.int .i64 a2_3) := (blk_cell BK249.out 3).trans rfl; have hcz15_4 : w14.cell? ⟨gb249, 4, none⟩ = some (.int .i64 a2_4) := (blk_cell BK249.out 4).trans rfl; have hcz15_5 : w14.cell? ⟨gb249, 5, none⟩ = some (.int .i64 a2_5) := (blk_cell BK249.out 5).trans rfl; have hfz15_0 := blk_frozen BK249.out 0; have hfz15_1 := blk_frozen BK249.out 1; have hfz15_2 := blk_frozen BK249.out 2; have hfz15_3 := blk_frozen BK249.out 3; have hfz15_4 := blk_frozen BK249.out 4; have hfz15_5 := blk_frozen BK249.out 5) | ((with_reducible refine gate_callee (f := 76) rfl ?_); refine goesL_ (some 17) rfl rfl Try.func76 (by kernel_rfl) rfl #[.agg #[.int .i64 a2_2, .int .i64 a2_3, .int .i64 a2_4, .int .i64 a2_5], .int .i64 a2_1] rfl Z1 ?_; (with_reducible refine (shape_Units.calls a2_2 a2_3 a2_4 a2_5 a2_1 t251 t252 t253 _ A6.out).mono ?_); rintro e w16 ⟨rfl, hb⟩; refine ⟨_, rfl, ?_⟩; have n0_ := Aside0.mk (blk_below (g := gb248) (o := .cells #[.int .i64 a1_0, .int .i64 a1_1] 24 (0, 0)) (by (with_reducible repeat (first | refine blk_drewN ?_ _ | refine blk_drew ?_ | refine blk_alloc ?_ _)); exact BK248.out) hb); have n1_ := Aside0.mk (blk_below (g := gb249) (o := .cells #[.int .i64 a2_0, .int .i64 a2_1, .int .i64 a2_2, .int .i64 a2_3, .int .i64 a2_4, .int .i64 a2_5] 29 (0, 0)) (by (with_reducible repeat (first | refine blk_drewN ?_ _ | refine blk_drew ?_ | refine blk_alloc ?_ _)); exact BK249.out) hb); have n2_ := Aside0.mk (below_step (by repeat (first | (with_reducible first | exact HB.out | apply below_alloc | apply pw_below_drewN | apply below_drew1 | refine below_set ?_ GE248.out | refine below_set ?_ GE249.out) | exact HB.out)) hb); clear BK248; clear BK249; clear HB; have BK248 := n0_; have BK249 := n1_; have HB := n2_; clear n0_ n1_ n2_; (try clear hb); (try clear hb2); (try clear hk); (try clear hi)) | ((with_reducible refine gate_dst (N := 7) rfl ?_); refine bx 7 #[.int .i64 0, .int .i64 0] 24 ?_; intro gb254 hg w17 hbox hb; have n0_ := Aside0.mk (blk_below (g := gb248) (o := .cells #[.int .i64 a1_0, .int .i64 a1_1] 24 (0, 0)) (by (with_reducible repeat (first | refine blk_drewN ?_ _ | refine blk_drew ?_ | refine blk_alloc ?_ _)); exact BK248.out) hb); have n1_ := Aside0.mk (blk_below (g := gb249) (o := .cells #[.int .i64 a2_0, .int .i64 a2_1, .int .i64 a2_2, .int .i64 a2_3, .int .i64 a2_4, .int .i64 a2_5] 29 (0, 0)) (by (with_reducible repeat (first | refine blk_drewN ?_ _ | refine blk_drew ?_ | refine blk_alloc ?_ _)); exact BK249.out) hb); have n2_ := Aside0.mk (below_step (by repeat (first | (with_reducible first | exact HB.out | apply below_alloc | apply pw_below_drewN | apply below_drew1 | refine below_set ?_ GE248.out | refine below_set ?_ GE249.out) | exact HB.out)) hb); have n3_ := Aside0.mk (hbox); have n4_ := Aside0.mk ((by rw [hg]; exact (below_size (by repeat (first | (with_reducible first | exact HB.out | apply below_alloc | apply pw_below_drewN | apply below_drew1 | refine below_set ?_ GE248.out | refine below_set ?_ GE249.out) | exact HB.out))) : w.heap.size ≤ gb254)); have n5_ := Aside0.mk ((by rw [hg]; exact (below_size (by repeat (first | (with_reducible first | exact HB.out | apply below_alloc | apply pw_below_drewN | apply below_drew1 | refine below_set ?_ GE248.out | refine below_set ?_ GE249.out) | exact HB.out))) : w.heap.size ≤ gb254)); have n6_ := Aside0.mk ((by rw [hg]; exact Nat.ne_of_lt (blk_lt (g := gb248) (o := .cells #[.int .i64 a1_0, .int .i64 a1_1] 24 (0, 0)) (by (with_reducible repeat (first | refine blk_drewN ?_ _ | refine blk_drew ?_ | refine blk_alloc ?_ _)); exact BK248.out)) : gb248 ≠ gb254)); have n7_ := Aside0.mk ((by rw [hg]; exact Nat.ne_of_gt (blk_lt (g := gb248) (o := .cells #[.int .i64 a1_0, .int .i64 a1_1] 24 (0, 0)) (by (with_reducible repeat (first | refine blk_drewN ?_ _ | refine blk_drew ?_ | refine blk_alloc ?_ _)); exact BK248.out)) : gb254 ≠ gb248)); have n8_ := Aside0.mk ((by rw [hg]; exact Nat.ne_of_lt (blk_lt (g := gb249) (o := .cells #[.int .i64 a2_0, .int .i64 a2_1, .int .i64 a2_2, .int .i64 a2_3, .int .i64 a2_4, .int .i64 a2_5] 29 (0, 0)) (by (with_reducible repeat (first | refine blk_drewN ?_ _ | refine blk_drew ?_ | refine blk_alloc ?_ _)); exact BK249.out)) : gb249 ≠ gb254)); have n9_ := Aside0.mk ((by rw [hg]; exact Nat.ne_of_gt (blk_lt (g := gb249) (o := .cells #[.int .i64 a2_0, .int .i64 a2_1, .int .i64 a2_2, .int .i64 a2_3, .int .i64 a2_4, .int .i64 a2_5] 29 (0, 0)) (by (with_reducible repeat (first | refine blk_drewN ?_ _ | refine blk_drew ?_ | refine blk_alloc ?_ _)); exact BK249.out)) : gb254 ≠ gb249)); clear BK248; clear BK249; clear HB; have BK248 := n0_; have BK249 := n1_; have HB := n2_; have BK254 := n3_; have GW254 := n4_; have GE254 := n5_; have NB248_254 := n6_; have NB254_248 := n7_; have NB249_254 := n8_; have NB254_249 := n9_; clear n0_ n1_ n2_ n3_ n4_ n5_ n6_ n7_ n8_ n9_; clear hb hbox hg; have hnb18 := NB254_248.out; have hnc18 := NB248_254.out; have hnb19 := NB254_249.out; have hnc19 := NB249_254.out; have hcz20_0 : w17.cell? ⟨gb254, 0, none⟩ = some (.int .i64 0) := (blk_cell BK254.out 0).trans rfl; have hcz20_1 : w17.cell? ⟨gb254, 1, none⟩ = some (.int .i64 0) := (blk_cell BK254.out 1).trans rfl; have hfz20_0 := blk_frozen BK254.out 0; have hfz20_1 := blk_frozen BK254.out 1))
    have n0_ : Aside0 (((w17.setCell ⟨gb254, 0, none⟩ (.int .i64 t251)).setCell ⟨gb254, 1, none⟩ (.int .i64 t252)).heap[gb248]? = some (.cells #[.int .i64 a1_0, .int .i64 a1_1] 24 (0, 0))) := ⟨by (with_reducible repeat (first | refine blk_drewN ?_ _ | refine blk_drew ?_ | refine blk_alloc ?_ _)); refine blk_far ?_ NB248_254.out _; (with_reducible repeat (first | refine blk_drewN ?_ _ | refine blk_drew ?_ | refine blk_alloc ?_ _)); refine blk_far ?_ NB248_254.out _; (with_reducible repeat (first | refine blk_drewN ?_ _ | refine blk_drew ?_ | refine blk_alloc ?_ _)); exact BK248.out⟩
    have n1_ : Aside0 (((w17.setCell ⟨gb254, 0, none⟩ (.int .i64 t251)).setCell ⟨gb254, 1, none⟩ (.int .i64 t252)).heap[gb249]? = some (.cells #[.int .i64 a2_0, .int .i64 a2_1, .int .i64 a2_2, .int .i64 a2_3, .int .i64 a2_4, .int .i64 a2_5] 29 (0, 0))) := ⟨by (with_reducible repeat (first | refine blk_drewN ?_ _ | refine blk_drew ?_ | refine blk_alloc ?_ _)); refine blk_far ?_ NB249_254.out _; (with_reducible repeat (first | refine blk_drewN ?_ _ | refine blk_drew ?_ | refine blk_alloc ?_ _)); refine blk_far ?_ NB249_254.out _; (with_reducible repeat (first | refine blk_drewN ?_ _ | refine blk_drew ?_ | refine blk_alloc ?_ _)); exact BK249.out⟩
    have n2_ : Aside0 (((w17.setCell ⟨gb254, 0, none⟩ (.int .i64 t251)).setCell ⟨gb254, 1, none⟩ (.int .i64 t252)).heap[gb254]? = some (.cells #[.int .i64 t251, .int .i64 t252] 24 (0, 0))) := ⟨by (with_reducible repeat (first | refine blk_drewN ?_ _ | refine blk_drew ?_ | refine blk_alloc ?_ _)); refine blk_put (cs := #[.int .i64 t251, .int .i64 0]) ?_ 1 _ rfl; (with_reducible repeat (first | refine blk_drewN ?_ _ | refine blk_drew ?_ | refine blk_alloc ?_ _)); refine blk_put (cs := #[.int .i64 0, .int .i64 0]) ?_ 0 _ rfl; (with_reducible repeat (first | refine blk_drewN ?_ _ | refine blk_drew ?_ | refine blk_alloc ?_ _)); exact BK254.out⟩
    have n3_ : Aside0 (Below w.heap.size w ((w17.setCell ⟨gb254, 0, none⟩ (.int .i64 t251)).setCell ⟨gb254, 1, none⟩ (.int .i64 t252))) := ⟨by repeat (first | (with_reducible first | exact HB.out | apply below_alloc | apply pw_below_drewN | apply below_drew1 | refine below_set ?_ GE248.out | refine below_set ?_ GE249.out | refine below_set ?_ GE254.out) | exact HB.out)⟩
    (try clear BK248)
    (try clear BK249)
    (try clear BK254)
    (try clear HB)
    generalize ((w17.setCell ⟨gb254, 0, none⟩ (.int .i64 t251)).setCell ⟨gb254, 1, none⟩ (.int .i64 t252)) = w21 at n0_ n1_ n2_ n3_ ⊢
    have BK248 := n0_
    have BK249 := n1_
    have BK254 := n2_
    have HB := n3_
    clear n0_ n1_ n2_ n3_
    have n0_ := Aside0.mk (blk_drew BK248.out)
    have n1_ := Aside0.mk (blk_drew BK249.out)
    have n2_ := Aside0.mk (blk_drew BK254.out)
    have n3_ := Aside0.mk (below_drew1 HB.out)
    clear BK248
    clear BK249
    clear BK254
    clear HB
    have BK248 := n0_
    have BK249 := n1_
    have BK254 := n2_
    have HB := n3_
    clear n0_ n1_ n2_ n3_
    refine start_ (n := 22) (S := fun w' => w'.cell? ⟨gb254, 0, none⟩ = some (.int .i64 t251) ∧ w'.cell? ⟨gb254, 1, none⟩ = some (.int .i64 t252) ∧ w'.cell? ⟨gb248, 0, none⟩ = some (.int .i64 a1_0) ∧ w'.cell? ⟨gb248, 1, none⟩ = some (.int .i64 a1_1) ∧ w'.cell? ⟨gb249, 0, none⟩ = some (.int .i64 a2_0) ∧ w'.cell? ⟨gb249, 1, none⟩ = some (.int .i64 a2_1) ∧ w'.cell? ⟨gb249, 2, none⟩ = some (.int .i64 a2_2) ∧ w'.cell? ⟨gb249, 3, none⟩ = some (.int .i64 a2_3) ∧ w'.cell? ⟨gb249, 4, none⟩ = some (.int .i64 a2_4) ∧ w'.cell? ⟨gb249, 5, none⟩ = some (.int .i64 a2_5)) (ds := []) (bm 22 0) (by kernel_rfl) rfl rfl ⟨(blk_cell BK254.out 0).trans rfl, (blk_cell BK254.out 1).trans rfl, (blk_cell BK248.out 0).trans rfl, (blk_cell BK248.out 1).trans rfl, (blk_cell BK249.out 0).trans rfl, (blk_cell BK249.out 1).trans rfl, (blk_cell BK249.out 2).trans rfl, (blk_cell BK249.out 3).trans rfl, (blk_cell BK249.out 4).trans rfl, (blk_cell BK249.out 5).trans rfl⟩ (fun hHeld => ?_); refine with_tabW promise_Fits.tab4 promise_Fits.bits4 (fun HT_ HW_ => ?_)
    generalize w21.drew = w22 at BK248 BK249 BK254 HB hHeld ⊢
    refine pu 0 (some 20) (bm 22 1) ?_
    refine pu 2 (some 22) (bm 22 5) ?_
    refine tk10 1 (some 21) (bm 22 7) ?_
    refine tk10 3 (some 23) (bm 22 15) ?_
    refine pu 4 (some 24) (bm 22 31) ?_
    refine pu 5 (some 25) (bm 22 63) ?_
    refine pu 6 (some 26) (bm 22 127) ?_
    refine pu 8 (some 28) (bm 22 383) ?_
    refine tk10 7 (some 27) (bm 22 511) ?_
    refine tk10 9 (some 29) (bm 22 1023) ?_
    refine pu 10 (some 30) (bm 22 2047) ?_
    refine pu 11 (some 31) (bm 22 4095) ?_
    refine pu 12 (some 32) (bm 22 8191) ?_
    refine pu 13 (some 33) (bm 22 16383) ?_
    refine pu 14 (some 34) (bm 22 32767) ?_
    refine pu 17 (some 37) (bm 22 163839) ?_
    refine tk10 15 (some 35) (bm 22 196607) ?_
    refine tk10 18 (some 38) (bm 22 458751) ?_
    refine one_ (i := 16) (N := some 36) (bm 22 524287) rfl rfl (one_of HT_.out (by kernel_rfl)) (by decide) (fun K hK => ?_)
    refine goes_ Try.func50 (by kernel_rfl) rfl #[.slice A0 l0.length c0, .agg #[.int .i64 a2_2, .int .i64 a2_3, .int .i64 a2_4, .int .i64 a2_5]] (by rfl) rfl rfl Z1 ?_
    with_reducible refine (pack_Room.calls k _ _ l0 a2_2 a2_3 a2_4 a2_5 t255 _ ?side1 ?side2 A9.out).mono ?_
    (case side1 => repeat (first | exact (Kd.C_below HR0.out HB.out) | (with_reducible refine Kd.C_alloc ?_ _) | (with_reducible refine Kd.C_drewN ?_ _) | (with_reducible refine Kd.C_drew ?_)))
    (case side2 => exact HC0.out)
    rintro e w23 ⟨rfl, hb⟩
    refine ⟨_, rfl, ?_⟩
    have n0_ := Aside0.mk (blk_below (g := gb248) (o := .cells #[.int .i64 a1_0, .int .i64 a1_1] 24 (0, 0)) (by (with_reducible repeat (first | refine blk_drewN ?_ _ | refine blk_drew ?_ | refine blk_alloc ?_ _)); exact BK248.out) hb)
    have n1_ := Aside0.mk (blk_below (g := gb249) (o := .cells #[.int .i64 a2_0, .int .i64 a2_1, .int .i64 a2_2, .int .i64 a2_3, .int .i64 a2_4, .int .i64 a2_5] 29 (0, 0)) (by (with_reducible repeat (first | refine blk_drewN ?_ _ | refine blk_drew ?_ | refine blk_alloc ?_ _)); exact BK249.out) hb)
    have n2_ := Aside0.mk (blk_below (g := gb254) (o := .cells #[.int .i64 t251, .int .i64 t252] 24 (0, 0)) (by (with_reducible repeat (first | refine blk_drewN ?_ _ | refine blk_drew ?_ | refine blk_alloc ?_ _)); exact BK254.out) hb)
    have n3_ := Aside0.mk (below_step (by repeat (first | (with_reducible first | exact HB.out | apply below_alloc | apply pw_below_drewN | apply below_drew1 | refine below_set ?_ GE248.out | refine below_set ?_ GE249.out | refine below_set ?_ GE254.out) | exact HB.out)) hb)
    clear BK248
    clear BK249
    clear BK254
    clear HB
    have BK248 := n0_
    have BK249 := n1_
    have BK254 := n2_
    have HB := n3_
    clear n0_ n1_ n2_ n3_
    (try clear hb)
    (try clear hb2)
    (try clear hk)
    (try clear hi)
    refine hK.out _ _ ⟨(blk_cell BK254.out 0).trans rfl, (blk_cell BK254.out 1).trans rfl, (blk_cell BK248.out 0).trans rfl, (blk_cell BK248.out 1).trans rfl, (blk_cell BK249.out 0).trans rfl, (blk_cell BK249.out 1).trans rfl, (blk_cell BK249.out 2).trans rfl, (blk_cell BK249.out 3).trans rfl, (blk_cell BK249.out 4).trans rfl, (blk_cell BK249.out 5).trans rfl⟩ (fun hHeld => ?_)
    clear hK K
    refine norm_ (a' := ?_) ?_ ?_
    rotate_left
    ·show Act.put _ (some 36) _ = _
     simp only [Act.put, List.setIfInBounds_toArray, List.set_cons_zero, List.set_cons_succ, i64_w, i32_w]
     rfl
    refine pu 19 (some 39) (bm 22 1048575) ?_
    refine pu 20 (some 40) (bm 22 2097151) ?_
    refine pu 21 (some 6) (bm 22 4194303) ?_
    refine done_ (done_of HT_.out (by kernel_rfl)) ?_
    try go_wp2
    go_ret
    exact ⟨by first | rfl | (simp [errW_none, errW_some] <;> rfl) | (simp [*, errW_none, errW_some] <;> rfl), by repeat (first | (with_reducible first | exact HB.out | apply below_alloc | apply pw_below_drewN | apply below_drew1 | refine below_set ?_ GE248.out | refine below_set ?_ GE249.out | refine below_set ?_ GE254.out) | exact HB.out)⟩
   ·rw [if_neg c8] at H
    have c8b0 : decide (t252 ≤ a1_1) = false := decide_eq_false c8
    clear c8
    obtain rfl := Option.some.inj H
    go_enter Try.func29, Try.ntmps29
    try go_wp2_with (first | ((with_reducible refine gate_dst (N := 4) rfl ?_); refine bx 4 #[.int .i64 a1_0, .int .i64 a1_1] 24 ?_; intro gb248 hg w24 hbox hb; have n0_ := Aside0.mk (below_step Z0 hb); have n1_ := Aside0.mk (hbox); have n2_ := Aside0.mk ((by rw [hg]; exact (below_size Z0) : w.heap.size ≤ gb248)); have n3_ := Aside0.mk ((by rw [hg]; exact (below_size Z0) : w.heap.size ≤ gb248)); clear HB; have HB := n0_; have BK248 := n1_; have GW248 := n2_; have GE248 := n3_; clear n0_ n1_ n2_ n3_; clear hb hbox hg) | ((with_reducible refine gate_dst (N := 5) rfl ?_); refine bx 5 #[.int .i64 a2_0, .int .i64 a2_1, .int .i64 a2_2, .int .i64 a2_3, .int .i64 a2_4, .int .i64 a2_5] 29 ?_; intro gb249 hg w25 hbox hb; have n0_ := Aside0.mk (blk_below (g := gb248) (o := .cells #[.int .i64 a1_0, .int .i64 a1_1] 24 (0, 0)) (by (with_reducible repeat (first | refine blk_drewN ?_ _ | refine blk_drew ?_ | refine blk_alloc ?_ _)); exact BK248.out) hb); have n1_ := Aside0.mk (below_step (by repeat (first | (with_reducible first | exact HB.out | apply below_alloc | apply pw_below_drewN | apply below_drew1 | refine below_set ?_ GE248.out) | exact HB.out)) hb); have n2_ := Aside0.mk (hbox); have n3_ := Aside0.mk ((by rw [hg]; exact (below_size (by repeat (first | (with_reducible first | exact HB.out | apply below_alloc | apply pw_below_drewN | apply below_drew1 | refine below_set ?_ GE248.out) | exact HB.out))) : w.heap.size ≤ gb249)); have n4_ := Aside0.mk ((by rw [hg]; exact (below_size (by repeat (first | (with_reducible first | exact HB.out | apply below_alloc | apply pw_below_drewN | apply below_drew1 | refine below_set ?_ GE248.out) | exact HB.out))) : w.heap.size ≤ gb249)); have n5_ := Aside0.mk ((by rw [hg]; exact Nat.ne_of_lt (blk_lt (g := gb248) (o := .cells #[.int .i64 a1_0, .int .i64 a1_1] 24 (0, 0)) (by (with_reducible repeat (first | refine blk_drewN ?_ _ | refine blk_drew ?_ | refine blk_alloc ?_ _)); exact BK248.out)) : gb248 ≠ gb249)); have n6_ := Aside0.mk ((by rw [hg]; exact Nat.ne_of_gt (blk_lt (g := gb248) (o := .cells #[.int .i64 a1_0, .int .i64 a1_1] 24 (0, 0)) (by (with_reducible repeat (first | refine blk_drewN ?_ _ | refine blk_drew ?_ | refine blk_alloc ?_ _)); exact BK248.out)) : gb249 ≠ gb248)); clear BK248; clear HB; have BK248 := n0_; have HB := n1_; have BK249 := n2_; have GW249 := n3_; have GE249 := n4_; have NB248_249 := n5_; have NB249_248 := n6_; clear n0_ n1_ n2_ n3_ n4_ n5_ n6_; clear hb hbox hg; have hnb26 := NB249_248.out; have hnc26 := NB248_249.out; have hcz27_0 : w25.cell? ⟨gb249, 0, none⟩ = some (.int .i64 a2_0) := (blk_cell BK249.out 0).trans rfl; have hcz27_1 : w25.cell? ⟨gb249, 1, none⟩ = some (.int .i64 a2_1) := (blk_cell BK249.out 1).trans rfl; have hcz27_2 : w25.cell? ⟨gb249, 2, none⟩ = some (.int .i64 a2_2) := (blk_cell BK249.out 2).trans rfl; have hcz27_3 : w25.cell? ⟨gb249, 3, none⟩ = some (.int .i64 a2_3) := (blk_cell BK249.out 3).trans rfl; have hcz27_4 : w25.cell? ⟨gb249, 4, none⟩ = some (.int .i64 a2_4) := (blk_cell BK249.out 4).trans rfl; have hcz27_5 : w25.cell? ⟨gb249, 5, none⟩ = some (.int .i64 a2_5) := (blk_cell BK249.out 5).trans rfl; have hfz27_0 := blk_frozen BK249.out 0; have hfz27_1 := blk_frozen BK249.out 1; have hfz27_2 := blk_frozen BK249.out 2; have hfz27_3 := blk_frozen BK249.out 3; have hfz27_4 := blk_frozen BK249.out 4; have hfz27_5 := blk_frozen BK249.out 5) | ((with_reducible refine gate_callee (f := 68) rfl ?_); refine goesL_ (some 10) rfl rfl Try.func68 (by kernel_rfl) rfl #[.agg #[.int .i64 a2_0, .int .i64 a2_1, .int .i64 a2_2, .int .i64 a2_3, .int .i64 a2_4, .int .i64 a2_5]] rfl Z1 ?_; (with_reducible refine (promise_right.calls a2_0 a2_1 a2_2 a2_3 a2_4 a2_5 true _ A4.out).mono ?_); rintro e w28 ⟨rfl, hb⟩; refine ⟨_, rfl, ?_⟩; have n0_ := Aside0.mk (blk_below (g := gb248) (o := .cells #[.int .i64 a1_0, .int .i64 a1_1] 24 (0, 0)) (by (with_reducible repeat (first | refine blk_drewN ?_ _ | refine blk_drew ?_ | refine blk_alloc ?_ _)); exact BK248.out) hb); have n1_ := Aside0.mk (blk_below (g := gb249) (o := .cells #[.int .i64 a2_0, .int .i64 a2_1, .int .i64 a2_2, .int .i64 a2_3, .int .i64 a2_4, .int .i64 a2_5] 29 (0, 0)) (by (with_reducible repeat (first | refine blk_drewN ?_ _ | refine blk_drew ?_ | refine blk_alloc ?_ _)); exact BK249.out) hb); have n2_ := Aside0.mk (below_step (by repeat (first | (with_reducible first | exact HB.out | apply below_alloc | apply pw_below_drewN | apply below_drew1 | refine below_set ?_ GE248.out | refine below_set ?_ GE249.out) | exact HB.out)) hb); clear BK248; clear BK249; clear HB; have BK248 := n0_; have BK249 := n1_; have HB := n2_; clear n0_ n1_ n2_; (try clear hb); (try clear hb2); (try clear hk); (try clear hi); have hcz29_0 : w28.cell? ⟨gb249, 0, none⟩ = some (.int .i64 a2_0) := (blk_cell BK249.out 0).trans rfl; have hcz29_1 : w28.cell? ⟨gb249, 1, none⟩ = some (.int .i64 a2_1) := (blk_cell BK249.out 1).trans rfl; have hcz29_2 : w28.cell? ⟨gb249, 2, none⟩ = some (.int .i64 a2_2) := (blk_cell BK249.out 2).trans rfl; have hcz29_3 : w28.cell? ⟨gb249, 3, none⟩ = some (.int .i64 a2_3) := (blk_cell BK249.out 3).trans rfl; have hcz29_4 : w28.cell? ⟨gb249, 4, none⟩ = some (.int .i64 a2_4) := (blk_cell BK249.out 4).trans rfl; have hcz29_5 : w28.cell? ⟨gb249, 5, none⟩ = some (.int .i64 a2_5) := (blk_cell BK249.out 5).trans rfl; have hfz29_0 := blk_frozen BK249.out 0; have hfz29_1 := blk_frozen BK249.out 1; have hfz29_2 := blk_frozen BK249.out 2; have hfz29_3 := blk_frozen BK249.out 3; have hfz29_4 := blk_frozen BK249.out 4; have hfz29_5 := blk_frozen BK249.out 5) | ((with_reducible refine gate_callee (f := 76) rfl ?_); refine goesL_ (some 17) rfl rfl Try.func76 (by kernel_rfl) rfl #[.agg #[.int .i64 a2_2, .int .i64 a2_3, .int .i64 a2_4, .int .i64 a2_5], .int .i64 a2_1] rfl Z1 ?_; (with_reducible refine (shape_Units.calls a2_2 a2_3 a2_4 a2_5 a2_1 t251 t252 t253 _ A6.out).mono ?_); rintro e w30 ⟨rfl, hb⟩; refine ⟨_, rfl, ?_⟩; have n0_ := Aside0.mk (blk_below (g := gb248) (o := .cells #[.int .i64 a1_0, .int .i64 a1_1] 24 (0, 0)) (by (with_reducible repeat (first | refine blk_drewN ?_ _ | refine blk_drew ?_ | refine blk_alloc ?_ _)); exact BK248.out) hb); have n1_ := Aside0.mk (blk_below (g := gb249) (o := .cells #[.int .i64 a2_0, .int .i64 a2_1, .int .i64 a2_2, .int .i64 a2_3, .int .i64 a2_4, .int .i64 a2_5] 29 (0, 0)) (by (with_reducible repeat (first | refine blk_drewN ?_ _ | refine blk_drew ?_ | refine blk_alloc ?_ _)); exact BK249.out) hb); have n2_ := Aside0.mk (below_step (by repeat (first | (with_reducible first | exact HB.out | apply below_alloc | apply pw_below_drewN | apply below_drew1 | refine below_set ?_ GE248.out | refine below_set ?_ GE249.out) | exact HB.out)) hb); clear BK248; clear BK249; clear HB; have BK248 := n0_; have BK249 := n1_; have HB := n2_; clear n0_ n1_ n2_; (try clear hb); (try clear hb2); (try clear hk); (try clear hi)) | ((with_reducible refine gate_dst (N := 7) rfl ?_); refine bx 7 #[.int .i64 0, .int .i64 0] 24 ?_; intro gb254 hg w31 hbox hb; have n0_ := Aside0.mk (blk_below (g := gb248) (o := .cells #[.int .i64 a1_0, .int .i64 a1_1] 24 (0, 0)) (by (with_reducible repeat (first | refine blk_drewN ?_ _ | refine blk_drew ?_ | refine blk_alloc ?_ _)); exact BK248.out) hb); have n1_ := Aside0.mk (blk_below (g := gb249) (o := .cells #[.int .i64 a2_0, .int .i64 a2_1, .int .i64 a2_2, .int .i64 a2_3, .int .i64 a2_4, .int .i64 a2_5] 29 (0, 0)) (by (with_reducible repeat (first | refine blk_drewN ?_ _ | refine blk_drew ?_ | refine blk_alloc ?_ _)); exact BK249.out) hb); have n2_ := Aside0.mk (below_step (by repeat (first | (with_reducible first | exact HB.out | apply below_alloc | apply pw_below_drewN | apply below_drew1 | refine below_set ?_ GE248.out | refine below_set ?_ GE249.out) | exact HB.out)) hb); have n3_ := Aside0.mk (hbox); have n4_ := Aside0.mk ((by rw [hg]; exact (below_size (by repeat (first | (with_reducible first | exact HB.out | apply below_alloc | apply pw_below_drewN | apply below_drew1 | refine below_set ?_ GE248.out | refine below_set ?_ GE249.out) | exact HB.out))) : w.heap.size ≤ gb254)); have n5_ := Aside0.mk ((by rw [hg]; exact (below_size (by repeat (first | (with_reducible first | exact HB.out | apply below_alloc | apply pw_below_drewN | apply below_drew1 | refine below_set ?_ GE248.out | refine below_set ?_ GE249.out) | exact HB.out))) : w.heap.size ≤ gb254)); have n6_ := Aside0.mk ((by rw [hg]; exact Nat.ne_of_lt (blk_lt (g := gb248) (o := .cells #[.int .i64 a1_0, .int .i64 a1_1] 24 (0, 0)) (by (with_reducible repeat (first | refine blk_drewN ?_ _ | refine blk_drew ?_ | refine blk_alloc ?_ _)); exact BK248.out)) : gb248 ≠ gb254)); have n7_ := Aside0.mk ((by rw [hg]; exact Nat.ne_of_gt (blk_lt (g := gb248) (o := .cells #[.int .i64 a1_0, .int .i64 a1_1] 24 (0, 0)) (by (with_reducible repeat (first | refine blk_drewN ?_ _ | refine blk_drew ?_ | refine blk_alloc ?_ _)); exact BK248.out)) : gb254 ≠ gb248)); have n8_ := Aside0.mk ((by rw [hg]; exact Nat.ne_of_lt (blk_lt (g := gb249) (o := .cells #[.int .i64 a2_0, .int .i64 a2_1, .int .i64 a2_2, .int .i64 a2_3, .int .i64 a2_4, .int .i64 a2_5] 29 (0, 0)) (by (with_reducible repeat (first | refine blk_drewN ?_ _ | refine blk_drew ?_ | refine blk_alloc ?_ _)); exact BK249.out)) : gb249 ≠ gb254)); have n9_ := Aside0.mk ((by rw [hg]; exact Nat.ne_of_gt (blk_lt (g := gb249) (o := .cells #[.int .i64 a2_0, .int .i64 a2_1, .int .i64 a2_2, .int .i64 a2_3, .int .i64 a2_4, .int .i64 a2_5] 29 (0, 0)) (by (with_reducible repeat (first | refine blk_drewN ?_ _ | refine blk_drew ?_ | refine blk_alloc ?_ _)); exact BK249.out)) : gb254 ≠ gb249)); clear BK248; clear BK249; clear HB; have BK248 := n0_; have BK249 := n1_; have HB := n2_; have BK254 := n3_; have GW254 := n4_; have GE254 := n5_; have NB248_254 := n6_; have NB254_248 := n7_; have NB249_254 := n8_; have NB254_249 := n9_; clear n0_ n1_ n2_ n3_ n4_ n5_ n6_ n7_ n8_ n9_; clear hb hbox hg; have hnb32 := NB254_248.out; have hnc32 := NB248_254.out; have hnb33 := NB254_249.out; have hnc33 := NB249_254.out; have hcz34_0 : w31.cell? ⟨gb254, 0, none⟩ = some (.int .i64 0) := (blk_cell BK254.out 0).trans rfl; have hcz34_1 : w31.cell? ⟨gb254, 1, none⟩ = some (.int .i64 0) := (blk_cell BK254.out 1).trans rfl; have hfz34_0 := blk_frozen BK254.out 0; have hfz34_1 := blk_frozen BK254.out 1))
    have n0_ : Aside0 (((w31.setCell ⟨gb254, 0, none⟩ (.int .i64 t251)).setCell ⟨gb254, 1, none⟩ (.int .i64 t252)).heap[gb248]? = some (.cells #[.int .i64 a1_0, .int .i64 a1_1] 24 (0, 0))) := ⟨by (with_reducible repeat (first | refine blk_drewN ?_ _ | refine blk_drew ?_ | refine blk_alloc ?_ _)); refine blk_far ?_ NB248_254.out _; (with_reducible repeat (first | refine blk_drewN ?_ _ | refine blk_drew ?_ | refine blk_alloc ?_ _)); refine blk_far ?_ NB248_254.out _; (with_reducible repeat (first | refine blk_drewN ?_ _ | refine blk_drew ?_ | refine blk_alloc ?_ _)); exact BK248.out⟩
    have n1_ : Aside0 (((w31.setCell ⟨gb254, 0, none⟩ (.int .i64 t251)).setCell ⟨gb254, 1, none⟩ (.int .i64 t252)).heap[gb249]? = some (.cells #[.int .i64 a2_0, .int .i64 a2_1, .int .i64 a2_2, .int .i64 a2_3, .int .i64 a2_4, .int .i64 a2_5] 29 (0, 0))) := ⟨by (with_reducible repeat (first | refine blk_drewN ?_ _ | refine blk_drew ?_ | refine blk_alloc ?_ _)); refine blk_far ?_ NB249_254.out _; (with_reducible repeat (first | refine blk_drewN ?_ _ | refine blk_drew ?_ | refine blk_alloc ?_ _)); refine blk_far ?_ NB249_254.out _; (with_reducible repeat (first | refine blk_drewN ?_ _ | refine blk_drew ?_ | refine blk_alloc ?_ _)); exact BK249.out⟩
    have n2_ : Aside0 (((w31.setCell ⟨gb254, 0, none⟩ (.int .i64 t251)).setCell ⟨gb254, 1, none⟩ (.int .i64 t252)).heap[gb254]? = some (.cells #[.int .i64 t251, .int .i64 t252] 24 (0, 0))) := ⟨by (with_reducible repeat (first | refine blk_drewN ?_ _ | refine blk_drew ?_ | refine blk_alloc ?_ _)); refine blk_put (cs := #[.int .i64 t251, .int .i64 0]) ?_ 1 _ rfl; (with_reducible repeat (first | refine blk_drewN ?_ _ | refine blk_drew ?_ | refine blk_alloc ?_ _)); refine blk_put (cs := #[.int .i64 0, .int .i64 0]) ?_ 0 _ rfl; (with_reducible repeat (first | refine blk_drewN ?_ _ | refine blk_drew ?_ | refine blk_alloc ?_ _)); exact BK254.out⟩
    have n3_ : Aside0 (Below w.heap.size w ((w31.setCell ⟨gb254, 0, none⟩ (.int .i64 t251)).setCell ⟨gb254, 1, none⟩ (.int .i64 t252))) := ⟨by repeat (first | (with_reducible first | exact HB.out | apply below_alloc | apply pw_below_drewN | apply below_drew1 | refine below_set ?_ GE248.out | refine below_set ?_ GE249.out | refine below_set ?_ GE254.out) | exact HB.out)⟩
    (try clear BK248)
    (try clear BK249)
    (try clear BK254)
    (try clear HB)
    generalize ((w31.setCell ⟨gb254, 0, none⟩ (.int .i64 t251)).setCell ⟨gb254, 1, none⟩ (.int .i64 t252)) = w35 at n0_ n1_ n2_ n3_ ⊢
    have BK248 := n0_
    have BK249 := n1_
    have BK254 := n2_
    have HB := n3_
    clear n0_ n1_ n2_ n3_
    have n0_ := Aside0.mk (blk_drew BK248.out)
    have n1_ := Aside0.mk (blk_drew BK249.out)
    have n2_ := Aside0.mk (blk_drew BK254.out)
    have n3_ := Aside0.mk (below_drew1 HB.out)
    clear BK248
    clear BK249
    clear BK254
    clear HB
    have BK248 := n0_
    have BK249 := n1_
    have BK254 := n2_
    have HB := n3_
    clear n0_ n1_ n2_ n3_
    refine start_ (n := 22) (S := fun w' => w'.cell? ⟨gb254, 0, none⟩ = some (.int .i64 t251) ∧ w'.cell? ⟨gb254, 1, none⟩ = some (.int .i64 t252) ∧ w'.cell? ⟨gb248, 0, none⟩ = some (.int .i64 a1_0) ∧ w'.cell? ⟨gb248, 1, none⟩ = some (.int .i64 a1_1)) (ds := []) (bm 22 0) (by kernel_rfl) rfl rfl ⟨(blk_cell BK254.out 0).trans rfl, (blk_cell BK254.out 1).trans rfl, (blk_cell BK248.out 0).trans rfl, (blk_cell BK248.out 1).trans rfl⟩ (fun hHeld => ?_); refine with_tabW promise_Fits.tab4 promise_Fits.bits4 (fun HT_ HW_ => ?_)
    generalize w35.drew = w36 at BK248 BK249 BK254 HB hHeld ⊢
    refine pu 0 (some 20) (bm 22 1) ?_
    refine pu 2 (some 22) (bm 22 5) ?_
    refine tk4 1 (some 21) (bm 22 7) ?_
    refine tk4 3 (some 23) (bm 22 15) ?_
    refine pu 4 (some 24) (bm 22 31) ?_
    refine pu 5 (some 25) (bm 22 63) ?_
    refine pu 6 (some 26) (bm 22 127) ?_
    refine pu 8 (some 28) (bm 22 383) ?_
    refine tk4 7 (some 27) (bm 22 511) ?_
    refine tk4 9 (some 29) (bm 22 1023) ?_
    refine pu 10 (some 30) (bm 22 2047) ?_
    refine pu 11 (some 31) (bm 22 4095) ?_
    refine pu 12 (some 32) (bm 22 8191) ?_
    refine pure_ (i := 13) (N := some 33) (v := undef) (a' := ?_) (bm 22 16383) rfl rfl (any_of HT_.out (by kernel_rfl)) (fun _ _ _ h => h) (Or.inr ⟨by rfl, rfl⟩) ?_ ?_
    rotate_left
    ·simp only [Act.put, List.setIfInBounds_toArray, List.set_cons_zero, List.set_cons_succ, i64_w, i32_w]
     rfl
    refine pure_ (i := 14) (N := some 34) (v := undef) (a' := ?_) (bm 22 32767) rfl rfl (any_of HT_.out (by kernel_rfl)) (fun _ _ _ h => h) (Or.inr ⟨by rfl, rfl⟩) ?_ ?_
    rotate_left
    ·simp only [Act.put, List.setIfInBounds_toArray, List.set_cons_zero, List.set_cons_succ, i64_w, i32_w]
     rfl
    refine pure_ (i := 15) (N := some 35) (v := undef) (a' := ?_) (bm 22 65535) rfl rfl (any_of HT_.out (by kernel_rfl)) (fun _ _ _ h => h) (Or.inr ⟨by rfl, rfl⟩) ?_ ?_
    rotate_left
    ·simp only [Act.put, List.setIfInBounds_toArray, List.set_cons_zero, List.set_cons_succ, i64_w, i32_w]
     rfl
    refine pure_ (i := 16) (N := some 36) (v := undef) (a' := ?_) (bm 22 131071) rfl rfl (any_of HT_.out (by kernel_rfl)) (fun _ _ _ h => h) (Or.inr ⟨by rfl, rfl⟩) ?_ ?_
    rotate_left
    ·simp only [Act.put, List.setIfInBounds_toArray, List.set_cons_zero, List.set_cons_succ, i64_w, i32_w]
     rfl
    refine pure_ (i := 17) (N := some 37) (v := undef) (a' := ?_) (bm 22 262143) rfl rfl (any_of HT_.out (by kernel_rfl)) (fun _ _ _ h => h) (Or.inr ⟨by rfl, rfl⟩) ?_ ?_
    rotate_left
    ·simp only [Act.put, List.setIfInBounds_toArray, List.set_cons_zero, List.set_cons_succ, i64_w, i32_w]
     rfl
    refine pure_ (i := 18) (N := some 38) (v := undef) (a' := ?_) (bm 22 524287) rfl rfl (any_of HT_.out (by kernel_rfl)) (fun _ _ _ h => h) (Or.inr ⟨by rfl, rfl⟩) ?_ ?_
    rotate_left
    ·simp only [Act.put, List.setIfInBounds_toArray, List.set_cons_zero, List.set_cons_succ, i64_w, i32_w]
     rfl
    refine pure_ (i := 19) (N := some 39) (v := undef) (a' := ?_) (bm 22 1048575) rfl rfl (any_of HT_.out (by kernel_rfl)) (fun _ _ _ h => h) (Or.inr ⟨by rfl, rfl⟩) ?_ ?_
    rotate_left
    ·simp only [Act.put, List.setIfInBounds_toArray, List.set_cons_zero, List.set_cons_succ, i64_w, i32_w]
     rfl
    refine pu 20 (some 40) (bm 22 2097151) ?_
    refine pu 21 (some 6) (bm 22 4194303) ?_
    refine done_ (done_of HT_.out (by kernel_rfl)) ?_
    try go_wp2
    go_ret
    exact ⟨by first | rfl | (simp [errW_none, errW_some] <;> rfl) | (simp [*, errW_none, errW_some] <;> rfl), by repeat (first | (with_reducible first | exact HB.out | apply below_alloc | apply pw_below_drewN | apply below_drew1 | refine below_set ?_ GE248.out | refine below_set ?_ GE249.out | refine below_set ?_ GE254.out) | exact HB.out)⟩
  ·rw [if_neg c7] at H
   have c7b0 : decide (t251 ≤ a1_0) = false := decide_eq_false c7
   clear c7
   obtain rfl := Option.some.inj H
   go_enter Try.func29, Try.ntmps29
   try go_wp2_with (first | ((with_reducible refine gate_dst (N := 4) rfl ?_); refine bx 4 #[.int .i64 a1_0, .int .i64 a1_1] 24 ?_; intro gb248 hg w37 hbox hb; have n0_ := Aside0.mk (below_step Z0 hb); have n1_ := Aside0.mk (hbox); have n2_ := Aside0.mk ((by rw [hg]; exact (below_size Z0) : w.heap.size ≤ gb248)); have n3_ := Aside0.mk ((by rw [hg]; exact (below_size Z0) : w.heap.size ≤ gb248)); clear HB; have HB := n0_; have BK248 := n1_; have GW248 := n2_; have GE248 := n3_; clear n0_ n1_ n2_ n3_; clear hb hbox hg) | ((with_reducible refine gate_dst (N := 5) rfl ?_); refine bx 5 #[.int .i64 a2_0, .int .i64 a2_1, .int .i64 a2_2, .int .i64 a2_3, .int .i64 a2_4, .int .i64 a2_5] 29 ?_; intro gb249 hg w38 hbox hb; have n0_ := Aside0.mk (blk_below (g := gb248) (o := .cells #[.int .i64 a1_0, .int .i64 a1_1] 24 (0, 0)) (by (with_reducible repeat (first | refine blk_drewN ?_ _ | refine blk_drew ?_ | refine blk_alloc ?_ _)); exact BK248.out) hb); have n1_ := Aside0.mk (below_step (by repeat (first | (with_reducible first | exact HB.out | apply below_alloc | apply pw_below_drewN | apply below_drew1 | refine below_set ?_ GE248.out) | exact HB.out)) hb); have n2_ := Aside0.mk (hbox); have n3_ := Aside0.mk ((by rw [hg]; exact (below_size (by repeat (first | (with_reducible first | exact HB.out | apply below_alloc | apply pw_below_drewN | apply below_drew1 | refine below_set ?_ GE248.out) | exact HB.out))) : w.heap.size ≤ gb249)); have n4_ := Aside0.mk ((by rw [hg]; exact (below_size (by repeat (first | (with_reducible first | exact HB.out | apply below_alloc | apply pw_below_drewN | apply below_drew1 | refine below_set ?_ GE248.out) | exact HB.out))) : w.heap.size ≤ gb249)); have n5_ := Aside0.mk ((by rw [hg]; exact Nat.ne_of_lt (blk_lt (g := gb248) (o := .cells #[.int .i64 a1_0, .int .i64 a1_1] 24 (0, 0)) (by (with_reducible repeat (first | refine blk_drewN ?_ _ | refine blk_drew ?_ | refine blk_alloc ?_ _)); exact BK248.out)) : gb248 ≠ gb249)); have n6_ := Aside0.mk ((by rw [hg]; exact Nat.ne_of_gt (blk_lt (g := gb248) (o := .cells #[.int .i64 a1_0, .int .i64 a1_1] 24 (0, 0)) (by (with_reducible repeat (first | refine blk_drewN ?_ _ | refine blk_drew ?_ | refine blk_alloc ?_ _)); exact BK248.out)) : gb249 ≠ gb248)); clear BK248; clear HB; have BK248 := n0_; have HB := n1_; have BK249 := n2_; have GW249 := n3_; have GE249 := n4_; have NB248_249 := n5_; have NB249_248 := n6_; clear n0_ n1_ n2_ n3_ n4_ n5_ n6_; clear hb hbox hg; have hnb39 := NB249_248.out; have hnc39 := NB248_249.out; have hcz40_0 : w38.cell? ⟨gb249, 0, none⟩ = some (.int .i64 a2_0) := (blk_cell BK249.out 0).trans rfl; have hcz40_1 : w38.cell? ⟨gb249, 1, none⟩ = some (.int .i64 a2_1) := (blk_cell BK249.out 1).trans rfl; have hcz40_2 : w38.cell? ⟨gb249, 2, none⟩ = some (.int .i64 a2_2) := (blk_cell BK249.out 2).trans rfl; have hcz40_3 : w38.cell? ⟨gb249, 3, none⟩ = some (.int .i64 a2_3) := (blk_cell BK249.out 3).trans rfl; have hcz40_4 : w38.cell? ⟨gb249, 4, none⟩ = some (.int .i64 a2_4) := (blk_cell BK249.out 4).trans rfl; have hcz40_5 : w38.cell? ⟨gb249, 5, none⟩ = some (.int .i64 a2_5) := (blk_cell BK249.out 5).trans rfl; have hfz40_0 := blk_frozen BK249.out 0; have hfz40_1 := blk_frozen BK249.out 1; have hfz40_2 := blk_frozen BK249.out 2; have hfz40_3 := blk_frozen BK249.out 3; have hfz40_4 := blk_frozen BK249.out 4; have hfz40_5 := blk_frozen BK249.out 5) | ((with_reducible refine gate_callee (f := 68) rfl ?_); refine goesL_ (some 10) rfl rfl Try.func68 (by kernel_rfl) rfl #[.agg #[.int .i64 a2_0, .int .i64 a2_1, .int .i64 a2_2, .int .i64 a2_3, .int .i64 a2_4, .int .i64 a2_5]] rfl Z1 ?_; (with_reducible refine (promise_right.calls a2_0 a2_1 a2_2 a2_3 a2_4 a2_5 true _ A4.out).mono ?_); rintro e w41 ⟨rfl, hb⟩; refine ⟨_, rfl, ?_⟩; have n0_ := Aside0.mk (blk_below (g := gb248) (o := .cells #[.int .i64 a1_0, .int .i64 a1_1] 24 (0, 0)) (by (with_reducible repeat (first | refine blk_drewN ?_ _ | refine blk_drew ?_ | refine blk_alloc ?_ _)); exact BK248.out) hb); have n1_ := Aside0.mk (blk_below (g := gb249) (o := .cells #[.int .i64 a2_0, .int .i64 a2_1, .int .i64 a2_2, .int .i64 a2_3, .int .i64 a2_4, .int .i64 a2_5] 29 (0, 0)) (by (with_reducible repeat (first | refine blk_drewN ?_ _ | refine blk_drew ?_ | refine blk_alloc ?_ _)); exact BK249.out) hb); have n2_ := Aside0.mk (below_step (by repeat (first | (with_reducible first | exact HB.out | apply below_alloc | apply pw_below_drewN | apply below_drew1 | refine below_set ?_ GE248.out | refine below_set ?_ GE249.out) | exact HB.out)) hb); clear BK248; clear BK249; clear HB; have BK248 := n0_; have BK249 := n1_; have HB := n2_; clear n0_ n1_ n2_; (try clear hb); (try clear hb2); (try clear hk); (try clear hi); have hcz42_0 : w41.cell? ⟨gb249, 0, none⟩ = some (.int .i64 a2_0) := (blk_cell BK249.out 0).trans rfl; have hcz42_1 : w41.cell? ⟨gb249, 1, none⟩ = some (.int .i64 a2_1) := (blk_cell BK249.out 1).trans rfl; have hcz42_2 : w41.cell? ⟨gb249, 2, none⟩ = some (.int .i64 a2_2) := (blk_cell BK249.out 2).trans rfl; have hcz42_3 : w41.cell? ⟨gb249, 3, none⟩ = some (.int .i64 a2_3) := (blk_cell BK249.out 3).trans rfl; have hcz42_4 : w41.cell? ⟨gb249, 4, none⟩ = some (.int .i64 a2_4) := (blk_cell BK249.out 4).trans rfl; have hcz42_5 : w41.cell? ⟨gb249, 5, none⟩ = some (.int .i64 a2_5) := (blk_cell BK249.out 5).trans rfl; have hfz42_0 := blk_frozen BK249.out 0; have hfz42_1 := blk_frozen BK249.out 1; have hfz42_2 := blk_frozen BK249.out 2; have hfz42_3 := blk_frozen BK249.out 3; have hfz42_4 := blk_frozen BK249.out 4; have hfz42_5 := blk_frozen BK249.out 5) | ((with_reducible refine gate_callee (f := 76) rfl ?_); refine goesL_ (some 17) rfl rfl Try.func76 (by kernel_rfl) rfl #[.agg #[.int .i64 a2_2, .int .i64 a2_3, .int .i64 a2_4, .int .i64 a2_5], .int .i64 a2_1] rfl Z1 ?_; (with_reducible refine (shape_Units.calls a2_2 a2_3 a2_4 a2_5 a2_1 t251 t252 t253 _ A6.out).mono ?_); rintro e w43 ⟨rfl, hb⟩; refine ⟨_, rfl, ?_⟩; have n0_ := Aside0.mk (blk_below (g := gb248) (o := .cells #[.int .i64 a1_0, .int .i64 a1_1] 24 (0, 0)) (by (with_reducible repeat (first | refine blk_drewN ?_ _ | refine blk_drew ?_ | refine blk_alloc ?_ _)); exact BK248.out) hb); have n1_ := Aside0.mk (blk_below (g := gb249) (o := .cells #[.int .i64 a2_0, .int .i64 a2_1, .int .i64 a2_2, .int .i64 a2_3, .int .i64 a2_4, .int .i64 a2_5] 29 (0, 0)) (by (with_reducible repeat (first | refine blk_drewN ?_ _ | refine blk_drew ?_ | refine blk_alloc ?_ _)); exact BK249.out) hb); have n2_ := Aside0.mk (below_step (by repeat (first | (with_reducible first | exact HB.out | apply below_alloc | apply pw_below_drewN | apply below_drew1 | refine below_set ?_ GE248.out | refine below_set ?_ GE249.out) | exact HB.out)) hb); clear BK248; clear BK249; clear HB; have BK248 := n0_; have BK249 := n1_; have HB := n2_; clear n0_ n1_ n2_; (try clear hb); (try clear hb2); (try clear hk); (try clear hi)) | ((with_reducible refine gate_dst (N := 7) rfl ?_); refine bx 7 #[.int .i64 0, .int .i64 0] 24 ?_; intro gb254 hg w44 hbox hb; have n0_ := Aside0.mk (blk_below (g := gb248) (o := .cells #[.int .i64 a1_0, .int .i64 a1_1] 24 (0, 0)) (by (with_reducible repeat (first | refine blk_drewN ?_ _ | refine blk_drew ?_ | refine blk_alloc ?_ _)); exact BK248.out) hb); have n1_ := Aside0.mk (blk_below (g := gb249) (o := .cells #[.int .i64 a2_0, .int .i64 a2_1, .int .i64 a2_2, .int .i64 a2_3, .int .i64 a2_4, .int .i64 a2_5] 29 (0, 0)) (by (with_reducible repeat (first | refine blk_drewN ?_ _ | refine blk_drew ?_ | refine blk_alloc ?_ _)); exact BK249.out) hb); have n2_ := Aside0.mk (below_step (by repeat (first | (with_reducible first | exact HB.out | apply below_alloc | apply pw_below_drewN | apply below_drew1 | refine below_set ?_ GE248.out | refine below_set ?_ GE249.out) | exact HB.out)) hb); have n3_ := Aside0.mk (hbox); have n4_ := Aside0.mk ((by rw [hg]; exact (below_size (by repeat (first | (with_reducible first | exact HB.out | apply below_alloc | apply pw_below_drewN | apply below_drew1 | refine below_set ?_ GE248.out | refine below_set ?_ GE249.out) | exact HB.out))) : w.heap.size ≤ gb254)); have n5_ := Aside0.mk ((by rw [hg]; exact (below_size (by repeat (first | (with_reducible first | exact HB.out | apply below_alloc | apply pw_below_drewN | apply below_drew1 | refine below_set ?_ GE248.out | refine below_set ?_ GE249.out) | exact HB.out))) : w.heap.size ≤ gb254)); have n6_ := Aside0.mk ((by rw [hg]; exact Nat.ne_of_lt (blk_lt (g := gb248) (o := .cells #[.int .i64 a1_0, .int .i64 a1_1] 24 (0, 0)) (by (with_reducible repeat (first | refine blk_drewN ?_ _ | refine blk_drew ?_ | refine blk_alloc ?_ _)); exact BK248.out)) : gb248 ≠ gb254)); have n7_ := Aside0.mk ((by rw [hg]; exact Nat.ne_of_gt (blk_lt (g := gb248) (o := .cells #[.int .i64 a1_0, .int .i64 a1_1] 24 (0, 0)) (by (with_reducible repeat (first | refine blk_drewN ?_ _ | refine blk_drew ?_ | refine blk_alloc ?_ _)); exact BK248.out)) : gb254 ≠ gb248)); have n8_ := Aside0.mk ((by rw [hg]; exact Nat.ne_of_lt (blk_lt (g := gb249) (o := .cells #[.int .i64 a2_0, .int .i64 a2_1, .int .i64 a2_2, .int .i64 a2_3, .int .i64 a2_4, .int .i64 a2_5] 29 (0, 0)) (by (with_reducible repeat (first | refine blk_drewN ?_ _ | refine blk_drew ?_ | refine blk_alloc ?_ _)); exact BK249.out)) : gb249 ≠ gb254)); have n9_ := Aside0.mk ((by rw [hg]; exact Nat.ne_of_gt (blk_lt (g := gb249) (o := .cells #[.int .i64 a2_0, .int .i64 a2_1, .int .i64 a2_2, .int .i64 a2_3, .int .i64 a2_4, .int .i64 a2_5] 29 (0, 0)) (by (with_reducible repeat (first | refine blk_drewN ?_ _ | refine blk_drew ?_ | refine blk_alloc ?_ _)); exact BK249.out)) : gb254 ≠ gb249)); clear BK248; clear BK249; clear HB; have BK248 := n0_; have BK249 := n1_; have HB := n2_; have BK254 := n3_; have GW254 := n4_; have GE254 := n5_; have NB248_254 := n6_; have NB254_248 := n7_; have NB249_254 := n8_; have NB254_249 := n9_; clear n0_ n1_ n2_ n3_ n4_ n5_ n6_ n7_ n8_ n9_; clear hb hbox hg; have hnb45 := NB254_248.out; have hnc45 := NB248_254.out; have hnb46 := NB254_249.out; have hnc46 := NB249_254.out; have hcz47_0 : w44.cell? ⟨gb254, 0, none⟩ = some (.int .i64 0) := (blk_cell BK254.out 0).trans rfl; have hcz47_1 : w44.cell? ⟨gb254, 1, none⟩ = some (.int .i64 0) := (blk_cell BK254.out 1).trans rfl; have hfz47_0 := blk_frozen BK254.out 0; have hfz47_1 := blk_frozen BK254.out 1))
   have n0_ : Aside0 (((w44.setCell ⟨gb254, 0, none⟩ (.int .i64 t251)).setCell ⟨gb254, 1, none⟩ (.int .i64 t252)).heap[gb248]? = some (.cells #[.int .i64 a1_0, .int .i64 a1_1] 24 (0, 0))) := ⟨by (with_reducible repeat (first | refine blk_drewN ?_ _ | refine blk_drew ?_ | refine blk_alloc ?_ _)); refine blk_far ?_ NB248_254.out _; (with_reducible repeat (first | refine blk_drewN ?_ _ | refine blk_drew ?_ | refine blk_alloc ?_ _)); refine blk_far ?_ NB248_254.out _; (with_reducible repeat (first | refine blk_drewN ?_ _ | refine blk_drew ?_ | refine blk_alloc ?_ _)); exact BK248.out⟩
   have n1_ : Aside0 (((w44.setCell ⟨gb254, 0, none⟩ (.int .i64 t251)).setCell ⟨gb254, 1, none⟩ (.int .i64 t252)).heap[gb249]? = some (.cells #[.int .i64 a2_0, .int .i64 a2_1, .int .i64 a2_2, .int .i64 a2_3, .int .i64 a2_4, .int .i64 a2_5] 29 (0, 0))) := ⟨by (with_reducible repeat (first | refine blk_drewN ?_ _ | refine blk_drew ?_ | refine blk_alloc ?_ _)); refine blk_far ?_ NB249_254.out _; (with_reducible repeat (first | refine blk_drewN ?_ _ | refine blk_drew ?_ | refine blk_alloc ?_ _)); refine blk_far ?_ NB249_254.out _; (with_reducible repeat (first | refine blk_drewN ?_ _ | refine blk_drew ?_ | refine blk_alloc ?_ _)); exact BK249.out⟩
   have n2_ : Aside0 (((w44.setCell ⟨gb254, 0, none⟩ (.int .i64 t251)).setCell ⟨gb254, 1, none⟩ (.int .i64 t252)).heap[gb254]? = some (.cells #[.int .i64 t251, .int .i64 t252] 24 (0, 0))) := ⟨by (with_reducible repeat (first | refine blk_drewN ?_ _ | refine blk_drew ?_ | refine blk_alloc ?_ _)); refine blk_put (cs := #[.int .i64 t251, .int .i64 0]) ?_ 1 _ rfl; (with_reducible repeat (first | refine blk_drewN ?_ _ | refine blk_drew ?_ | refine blk_alloc ?_ _)); refine blk_put (cs := #[.int .i64 0, .int .i64 0]) ?_ 0 _ rfl; (with_reducible repeat (first | refine blk_drewN ?_ _ | refine blk_drew ?_ | refine blk_alloc ?_ _)); exact BK254.out⟩
   have n3_ : Aside0 (Below w.heap.size w ((w44.setCell ⟨gb254, 0, none⟩ (.int .i64 t251)).setCell ⟨gb254, 1, none⟩ (.int .i64 t252))) := ⟨by repeat (first | (with_reducible first | exact HB.out | apply below_alloc | apply pw_below_drewN | apply below_drew1 | refine below_set ?_ GE248.out | refine below_set ?_ GE249.out | refine below_set ?_ GE254.out) | exact HB.out)⟩
   (try clear BK248)
   (try clear BK249)
   (try clear BK254)
   (try clear HB)
   generalize ((w44.setCell ⟨gb254, 0, none⟩ (.int .i64 t251)).setCell ⟨gb254, 1, none⟩ (.int .i64 t252)) = w48 at n0_ n1_ n2_ n3_ ⊢
   have BK248 := n0_
   have BK249 := n1_
   have BK254 := n2_
   have HB := n3_
   clear n0_ n1_ n2_ n3_
   have n0_ := Aside0.mk (blk_drew BK248.out)
   have n1_ := Aside0.mk (blk_drew BK249.out)
   have n2_ := Aside0.mk (blk_drew BK254.out)
   have n3_ := Aside0.mk (below_drew1 HB.out)
   clear BK248
   clear BK249
   clear BK254
   clear HB
   have BK248 := n0_
   have BK249 := n1_
   have BK254 := n2_
   have HB := n3_
   clear n0_ n1_ n2_ n3_
   refine start_ (n := 22) (S := fun w' => w'.cell? ⟨gb254, 0, none⟩ = some (.int .i64 t251) ∧ w'.cell? ⟨gb254, 1, none⟩ = some (.int .i64 t252) ∧ w'.cell? ⟨gb248, 0, none⟩ = some (.int .i64 a1_0) ∧ w'.cell? ⟨gb248, 1, none⟩ = some (.int .i64 a1_1)) (ds := []) (bm 22 0) (by kernel_rfl) rfl rfl ⟨(blk_cell BK254.out 0).trans rfl, (blk_cell BK254.out 1).trans rfl, (blk_cell BK248.out 0).trans rfl, (blk_cell BK248.out 1).trans rfl⟩ (fun hHeld => ?_); refine with_tabW promise_Fits.tab4 promise_Fits.bits4 (fun HT_ HW_ => ?_)
   generalize w48.drew = w49 at BK248 BK249 BK254 HB hHeld ⊢
   refine pu 0 (some 20) (bm 22 1) ?_
   refine pu 2 (some 22) (bm 22 5) ?_
   refine tk4 1 (some 21) (bm 22 7) ?_
   refine tk4 3 (some 23) (bm 22 15) ?_
   refine pu 4 (some 24) (bm 22 31) ?_
   refine pu 5 (some 25) (bm 22 63) ?_
   refine pure_ (i := 6) (N := some 26) (v := undef) (a' := ?_) (bm 22 127) rfl rfl (any_of HT_.out (by kernel_rfl)) (fun _ _ _ h => h) (Or.inr ⟨by rfl, rfl⟩) ?_ ?_
   rotate_left
   ·simp only [Act.put, List.setIfInBounds_toArray, List.set_cons_zero, List.set_cons_succ, i64_w, i32_w]
    rfl
   refine pure_ (i := 7) (N := some 27) (v := undef) (a' := ?_) (bm 22 255) rfl rfl (any_of HT_.out (by kernel_rfl)) (fun _ _ _ h => h) (Or.inr ⟨by rfl, rfl⟩) ?_ ?_
   rotate_left
   ·simp only [Act.put, List.setIfInBounds_toArray, List.set_cons_zero, List.set_cons_succ, i64_w, i32_w]
    rfl
   refine pure_ (i := 8) (N := some 28) (v := undef) (a' := ?_) (bm 22 511) rfl rfl (any_of HT_.out (by kernel_rfl)) (fun _ _ _ h => h) (Or.inr ⟨by rfl, rfl⟩) ?_ ?_
   rotate_left
   ·simp only [Act.put, List.setIfInBounds_toArray, List.set_cons_zero, List.set_cons_succ, i64_w, i32_w]
    rfl
   refine pure_ (i := 9) (N := some 29) (v := undef) (a' := ?_) (bm 22 1023) rfl rfl (any_of HT_.out (by kernel_rfl)) (fun _ _ _ h => h) (Or.inr ⟨by rfl, rfl⟩) ?_ ?_
   rotate_left
   ·simp only [Act.put, List.setIfInBounds_toArray, List.set_cons_zero, List.set_cons_succ, i64_w, i32_w]
    rfl
   refine pure_ (i := 10) (N := some 30) (v := undef) (a' := ?_) (bm 22 2047) rfl rfl (any_of HT_.out (by kernel_rfl)) (fun _ _ _ h => h) (Or.inr ⟨by rfl, rfl⟩) ?_ ?_
   rotate_left
   ·simp only [Act.put, List.setIfInBounds_toArray, List.set_cons_zero, List.set_cons_succ, i64_w, i32_w]
    rfl
   refine pu 11 (some 31) (bm 22 4095) ?_
   refine pu 12 (some 32) (bm 22 8191) ?_
   refine pure_ (i := 13) (N := some 33) (v := undef) (a' := ?_) (bm 22 16383) rfl rfl (any_of HT_.out (by kernel_rfl)) (fun _ _ _ h => h) (Or.inr ⟨by rfl, rfl⟩) ?_ ?_
   rotate_left
   ·simp only [Act.put, List.setIfInBounds_toArray, List.set_cons_zero, List.set_cons_succ, i64_w, i32_w]
    rfl
   refine pure_ (i := 14) (N := some 34) (v := undef) (a' := ?_) (bm 22 32767) rfl rfl (any_of HT_.out (by kernel_rfl)) (fun _ _ _ h => h) (Or.inr ⟨by rfl, rfl⟩) ?_ ?_
   rotate_left
   ·simp only [Act.put, List.setIfInBounds_toArray, List.set_cons_zero, List.set_cons_succ, i64_w, i32_w]
    rfl
   refine pure_ (i := 15) (N := some 35) (v := undef) (a' := ?_) (bm 22 65535) rfl rfl (any_of HT_.out (by kernel_rfl)) (fun _ _ _ h => h) (Or.inr ⟨by rfl, rfl⟩) ?_ ?_
   rotate_left
   ·simp only [Act.put, List.setIfInBounds_toArray, List.set_cons_zero, List.set_cons_succ, i64_w, i32_w]
    rfl
   refine pure_ (i := 16) (N := some 36) (v := undef) (a' := ?_) (bm 22 131071) rfl rfl (any_of HT_.out (by kernel_rfl)) (fun _ _ _ h => h) (Or.inr ⟨by rfl, rfl⟩) ?_ ?_
   rotate_left
   ·simp only [Act.put, List.setIfInBounds_toArray, List.set_cons_zero, List.set_cons_succ, i64_w, i32_w]
    rfl
   refine pure_ (i := 17) (N := some 37) (v := undef) (a' := ?_) (bm 22 262143) rfl rfl (any_of HT_.out (by kernel_rfl)) (fun _ _ _ h => h) (Or.inr ⟨by rfl, rfl⟩) ?_ ?_
   rotate_left
   ·simp only [Act.put, List.setIfInBounds_toArray, List.set_cons_zero, List.set_cons_succ, i64_w, i32_w]
    rfl
   refine pure_ (i := 18) (N := some 38) (v := undef) (a' := ?_) (bm 22 524287) rfl rfl (any_of HT_.out (by kernel_rfl)) (fun _ _ _ h => h) (Or.inr ⟨by rfl, rfl⟩) ?_ ?_
   rotate_left
   ·simp only [Act.put, List.setIfInBounds_toArray, List.set_cons_zero, List.set_cons_succ, i64_w, i32_w]
    rfl
   refine pure_ (i := 19) (N := some 39) (v := undef) (a' := ?_) (bm 22 1048575) rfl rfl (any_of HT_.out (by kernel_rfl)) (fun _ _ _ h => h) (Or.inr ⟨by rfl, rfl⟩) ?_ ?_
   rotate_left
   ·simp only [Act.put, List.setIfInBounds_toArray, List.set_cons_zero, List.set_cons_succ, i64_w, i32_w]
    rfl
   refine pu 20 (some 40) (bm 22 2097151) ?_
   refine pu 21 (some 6) (bm 22 4194303) ?_
   refine done_ (done_of HT_.out (by kernel_rfl)) ?_
   try go_wp2
   go_ret
   exact ⟨by first | rfl | (simp [errW_none, errW_some] <;> rfl) | (simp [*, errW_none, errW_some] <;> rfl), by repeat (first | (with_reducible first | exact HB.out | apply below_alloc | apply pw_below_drewN | apply below_drew1 | refine below_set ?_ GE248.out | refine below_set ?_ GE249.out | refine below_set ?_ GE254.out) | exact HB.out)⟩
 ·replace c5 := Bool.eq_false_iff.mpr c5
  subst c5
  have H1 : (some false) = some r := by rw [if_neg (show ¬ (false = true) by decide)] at H; exact H
  clear H
  have H := H1
  clear H1
  obtain rfl := Option.some.inj H
  go_enter Try.func29, Try.ntmps29
  go_wp2_with (first | ((with_reducible refine gate_dst (N := 4) rfl ?_); refine bx 4 #[.int .i64 a1_0, .int .i64 a1_1] 24 ?_; intro gb248 hg w50 hbox hb; have n0_ := Aside0.mk (below_step Z0 hb); have n1_ := Aside0.mk (hbox); have n2_ := Aside0.mk ((by rw [hg]; exact (below_size Z0) : w.heap.size ≤ gb248)); have n3_ := Aside0.mk ((by rw [hg]; exact (below_size Z0) : w.heap.size ≤ gb248)); clear HB; have HB := n0_; have BK248 := n1_; have GW248 := n2_; have GE248 := n3_; clear n0_ n1_ n2_ n3_; clear hb hbox hg) | ((with_reducible refine gate_dst (N := 5) rfl ?_); refine bx 5 #[.int .i64 a2_0, .int .i64 a2_1, .int .i64 a2_2, .int .i64 a2_3, .int .i64 a2_4, .int .i64 a2_5] 29 ?_; intro gb249 hg w51 hbox hb; have n0_ := Aside0.mk (blk_below (g := gb248) (o := .cells #[.int .i64 a1_0, .int .i64 a1_1] 24 (0, 0)) (by (with_reducible repeat (first | refine blk_drewN ?_ _ | refine blk_drew ?_ | refine blk_alloc ?_ _)); exact BK248.out) hb); have n1_ := Aside0.mk (below_step (by repeat (first | (with_reducible first | exact HB.out | apply below_alloc | apply pw_below_drewN | apply below_drew1 | refine below_set ?_ GE248.out) | exact HB.out)) hb); have n2_ := Aside0.mk (hbox); have n3_ := Aside0.mk ((by rw [hg]; exact (below_size (by repeat (first | (with_reducible first | exact HB.out | apply below_alloc | apply pw_below_drewN | apply below_drew1 | refine below_set ?_ GE248.out) | exact HB.out))) : w.heap.size ≤ gb249)); have n4_ := Aside0.mk ((by rw [hg]; exact (below_size (by repeat (first | (with_reducible first | exact HB.out | apply below_alloc | apply pw_below_drewN | apply below_drew1 | refine below_set ?_ GE248.out) | exact HB.out))) : w.heap.size ≤ gb249)); have n5_ := Aside0.mk ((by rw [hg]; exact Nat.ne_of_lt (blk_lt (g := gb248) (o := .cells #[.int .i64 a1_0, .int .i64 a1_1] 24 (0, 0)) (by (with_reducible repeat (first | refine blk_drewN ?_ _ | refine blk_drew ?_ | refine blk_alloc ?_ _)); exact BK248.out)) : gb248 ≠ gb249)); have n6_ := Aside0.mk ((by rw [hg]; exact Nat.ne_of_gt (blk_lt (g := gb248) (o := .cells #[.int .i64 a1_0, .int .i64 a1_1] 24 (0, 0)) (by (with_reducible repeat (first | refine blk_drewN ?_ _ | refine blk_drew ?_ | refine blk_alloc ?_ _)); exact BK248.out)) : gb249 ≠ gb248)); clear BK248; clear HB; have BK248 := n0_; have HB := n1_; have BK249 := n2_; have GW249 := n3_; have GE249 := n4_; have NB248_249 := n5_; have NB249_248 := n6_; clear n0_ n1_ n2_ n3_ n4_ n5_ n6_; clear hb hbox hg; have hnb52 := NB249_248.out; have hnc52 := NB248_249.out; have hcz53_0 : w51.cell? ⟨gb249, 0, none⟩ = some (.int .i64 a2_0) := (blk_cell BK249.out 0).trans rfl; have hcz53_1 : w51.cell? ⟨gb249, 1, none⟩ = some (.int .i64 a2_1) := (blk_cell BK249.out 1).trans rfl; have hcz53_2 : w51.cell? ⟨gb249, 2, none⟩ = some (.int .i64 a2_2) := (blk_cell BK249.out 2).trans rfl; have hcz53_3 : w51.cell? ⟨gb249, 3, none⟩ = some (.int .i64 a2_3) := (blk_cell BK249.out 3).trans rfl; have hcz53_4 : w51.cell? ⟨gb249, 4, none⟩ = some (.int .i64 a2_4) := (blk_cell BK249.out 4).trans rfl; have hcz53_5 : w51.cell? ⟨gb249, 5, none⟩ = some (.int .i64 a2_5) := (blk_cell BK249.out 5).trans rfl; have hfz53_0 := blk_frozen BK249.out 0; have hfz53_1 := blk_frozen BK249.out 1; have hfz53_2 := blk_frozen BK249.out 2; have hfz53_3 := blk_frozen BK249.out 3; have hfz53_4 := blk_frozen BK249.out 4; have hfz53_5 := blk_frozen BK249.out 5) | ((with_reducible refine gate_callee (f := 68) rfl ?_); refine goesL_ (some 10) rfl rfl Try.func68 (by kernel_rfl) rfl #[.agg #[.int .i64 a2_0, .int .i64 a2_1, .int .i64 a2_2, .int .i64 a2_3, .int .i64 a2_4, .int .i64 a2_5]] rfl Z1 ?_; (with_reducible refine (promise_right.calls a2_0 a2_1 a2_2 a2_3 a2_4 a2_5 false _ A4.out).mono ?_); rintro e w54 ⟨rfl, hb⟩; refine ⟨_, rfl, ?_⟩; have n0_ := Aside0.mk (blk_below (g := gb248) (o := .cells #[.int .i64 a1_0, .int .i64 a1_1] 24 (0, 0)) (by (with_reducible repeat (first | refine blk_drewN ?_ _ | refine blk_drew ?_ | refine blk_alloc ?_ _)); exact BK248.out) hb); have n1_ := Aside0.mk (blk_below (g := gb249) (o := .cells #[.int .i64 a2_0, .int .i64 a2_1, .int .i64 a2_2, .int .i64 a2_3, .int .i64 a2_4, .int .i64 a2_5] 29 (0, 0)) (by (with_reducible repeat (first | refine blk_drewN ?_ _ | refine blk_drew ?_ | refine blk_alloc ?_ _)); exact BK249.out) hb); have n2_ := Aside0.mk (below_step (by repeat (first | (with_reducible first | exact HB.out | apply below_alloc | apply pw_below_drewN | apply below_drew1 | refine below_set ?_ GE248.out | refine below_set ?_ GE249.out) | exact HB.out)) hb); clear BK248; clear BK249; clear HB; have BK248 := n0_; have BK249 := n1_; have HB := n2_; clear n0_ n1_ n2_; (try clear hb); (try clear hb2); (try clear hk); (try clear hi)))
  go_ret
  exact ⟨by first | rfl | (simp [errW_none, errW_some] <;> rfl) | (simp [*, errW_none, errW_some] <;> rfl), by repeat (first | (with_reducible first | exact HB.out | apply below_alloc | apply pw_below_drewN | apply below_drew1 | refine below_set ?_ GE248.out | refine below_set ?_ GE249.out) | exact HB.out)⟩
end Go.Proofs.Ytckhjehibjdjdaa.P
namespace Go.Proofs.Ytckhjehibjdjdaa.Mp
open Go.RowKit Go.Maps
def MapI (P : Program) (k e : TypeId) (w : World) (b n : Nat) (f : Int → Int) : Prop :=
 ∃ D : DataW Unit, w.ownsMap P k (plainElem P e) b n D ∧ IsMap D ∧ ∀ i, D.atKey (.int .i64 i) (.lit (.int .i64 0)) = .lit (.int .i64 (f i))
variable {P : Program} {k e : TypeId} {w : World} {b n : Nat} {f : Int → Int}
theorem MapI.made (w : World) (P : Program) (k e : TypeId) : MapI P k e (w.alloc (.map #[] 0)) w.heap.size 0 (fun _ => 0) :=
 ⟨.map [], World.ownsMap_made _ _ _ _, ⟨_, rfl⟩, fun _ => rfl⟩
theorem MapI.lt (h : MapI P k e w b n f) : b < w.heap.size := by
 obtain ⟨D, ⟨es, cl, hb, _⟩, _⟩ := h
 exact (Array.getElem?_eq_some_iff.1 hb).1
theorem MapI.move {w1 : World} (h : MapI P k e w b n f) (hm : w1.heap[b]? = w.heap[b]?) : MapI P k e w1 b n f := by
 obtain ⟨D, ⟨es, cl, hb, r⟩, i⟩ := h
 exact ⟨D, ⟨es, cl, hm.trans hb, r⟩, i⟩
theorem MapI.below {w1 : World} (h : MapI P k e w b n f) (hb : Below w.heap.size w w1) : MapI P k e w1 b n f := h.move (hb.block b h.lt)
theorem MapI.grown {w1 : World} {row : Option Nat} (h : MapI P k e w b n f) (hg : w.grownBy w1 row) (hne : some b ≠ row) : MapI P k e w1 b n f := h.move (hg.block b h.lt hne)
theorem MapI.alloc (h : MapI P k e w b n f) (o : Obj) : MapI P k e (w.alloc o) b n f := h.below ((Below.refl _ _).alloc (Nat.le_refl _) o)
theorem MapI.drew (h : MapI P k e w b n f) : MapI P k e w.drew b n f := h
theorem MapI.drewN (h : MapI P k e w b n f) (m : Nat) : MapI P k e (w.drewN m) b n f := h.move rfl
theorem MapI.congr {f' : Int → Int} {n' : Nat} (h : MapI P k e w b n f) (hf : ∀ i, f i = f' i) (hn : n = n') : MapI P k e w b n' f' := by
 subst hn
 obtain ⟨D, h1, h2, h3⟩ := h
 exact ⟨D, h1, h2, fun i => by rw [h3, hf]⟩
variable {ops : Array Oper} {rest : List Oper} {o : Oper} {a : Act} {Q : Exit → Act → World → Prop}
end Go.Proofs.Ytckhjehibjdjdaa.Mp
namespace Go.Proofs.Ytckhjehibjdjdaa.Mp
open Go.RowKit Go.Maps
def skey (a b : Int) : Lit := .string (keyBytes [.int .i64 a, .int .i64 b])
def W64 (x : Int) : Prop := (Lit.int .i64 x).wf = true
theorem W64.mk {x : Int} (h : -9223372036854775808 ≤ x ∧ x ≤ 9223372036854775807) : W64 x := by
 unfold W64; simp [Lit.wf, IntKind.min, IntKind.max, IntKind.bits, IntKind.signed]; omega
structure PairKey (P : Program) (k : TypeId) : Prop where
 keyed : Keyed P k
 key : ∀ {a b : Int}, W64 a → W64 b → keyOf P k (.agg #[.int .i64 a, .int .i64 b]) = some (skey a b)
theorem PairKey.inj {P : Program} {k : TypeId} (K : PairKey P k) {a b c d : Int} (ha : W64 a) (hb : W64 b) (hc : W64 c) (hd : W64 d) (h : skey a b = skey c d) : a = c ∧ b = d := by
 have h1 := K.key ha hb
 have h2 := K.key hc hd
 rw [← h] at h2
 have := K.keyed.inj h1 h2
 simp at this
 exact this
def MapS (P : Program) (k e : TypeId) (w : World) (b n : Nat) (f : Int → Int → Option Int) : Prop :=
 ∃ D : DataW Unit, w.ownsMap P k (plainElem P e) b n D ∧ IsMap D ∧ ∀ i j, W64 i → W64 j → has D (skey i j) = (f i j).isSome ∧ D.atKey (skey i j) (.lit (.int .i64 0)) = .lit (.int .i64 ((f i j).getD 0))
def updS (f : Int → Int → Option Int) (i j v : Int) : Int → Int → Option Int := fun a b => if a = i ∧ b = j then some v else f a b
variable {P : Program} {k e : TypeId} {w : World} {b n : Nat} {f : Int → Int → Option Int}
theorem MapS.made (w : World) (P : Program) (k e : TypeId) : MapS P k e (w.alloc (.map #[] 0)) w.heap.size 0 (fun _ _ => none) :=
 ⟨.map [], World.ownsMap_made _ _ _ _, ⟨_, rfl⟩, fun _ _ _ _ => ⟨rfl, rfl⟩⟩
theorem MapS.lt (h : MapS P k e w b n f) : b < w.heap.size := by
 obtain ⟨D, ⟨es, cl, hb, _⟩, _⟩ := h
 exact (Array.getElem?_eq_some_iff.1 hb).1
theorem MapS.move {w1 : World} (h : MapS P k e w b n f) (hm : w1.heap[b]? = w.heap[b]?) : MapS P k e w1 b n f := by
 obtain ⟨D, ⟨es, cl, hb, r⟩, i⟩ := h
 exact ⟨D, ⟨es, cl, hm.trans hb, r⟩, i⟩
theorem MapS.below {w1 : World} (h : MapS P k e w b n f) (hb : Below w.heap.size w w1) : MapS P k e w1 b n f := h.move (hb.block b h.lt)
theorem MapS.grown {w1 : World} {row : Option Nat} (h : MapS P k e w b n f) (hg : w.grownBy w1 row) (hne : some b ≠ row) : MapS P k e w1 b n f := h.move (hg.block b h.lt hne)
theorem MapS.alloc (h : MapS P k e w b n f) (o : Obj) : MapS P k e (w.alloc o) b n f := h.below ((Below.refl _ _).alloc (Nat.le_refl _) o)
theorem MapS.congr {f' : Int → Int → Option Int} {n' : Nat} (h : MapS P k e w b n f) (hf : ∀ i j, f i j = f' i j) (hn : n ≤ n') : MapS P k e w b n' f' := by
 obtain ⟨D, ⟨es, cl, hb, F, hs, hD⟩, h2, h3⟩ := h
 exact ⟨D, ⟨es, cl, hb, F, Nat.le_trans hs hn, hD⟩, h2, fun i j hi hj => by rw [← hf]; exact h3 i j hi hj⟩
variable {ops : Array Oper} {rest : List Oper} {o : Oper} {a : Act} {Q : Exit → Act → World → Prop}
theorem wp_lookup_S (hg : o.guard = none) (K : PairKey P k) (m x : Operand) (t : TypeId) (hop : o.op = Op.lookup t m x true)
  (ht : P.underlying t = some (.map k e)) (he : P.underlying e = some (.int .i64)) (hz : (zeroValue e).run P w = .ok (.int .i64 0) w)
  (hm : a.eval m = .map (some b)) (h : MapS P k e w b n f) (i j : Int) (hx : a.eval x = .agg #[.int .i64 i, .int .i64 j]) (hi : W64 i) (hj : W64 j)
  (hK : wpList P ops Q rest (a.put o.dst (.tuple #[.int .i64 ((f i j).getD 0), .bool (f i j).isSome])) w) : wpList P ops Q (o :: rest) a w := by
 obtain ⟨D, h1, h2, h3⟩ := h
 refine wpList_lookup_own_ok_int w hg m x t hop k e .i64 K.keyed ht he hz b n D hm h1 _ _ hx (K.key hi hj) ?_
 intro c hat hwc
 obtain ⟨e1, e2⟩ := h3 i j hi hj
 rw [e2] at hat
 injection hat with hat
 injection hat with _ hat
 subst hat
 rw [e1]
 exact hK
theorem wp_update_S (hg : o.guard = none) (K : PairKey P k) (m x v : Operand) (t : TypeId) (hop : o.op = Op.mapUpdate t m x v)
  (ht : P.underlying t = some (.map k e)) (he : P.underlying e = some (.int .i64))
  (hm : a.eval m = .map (some b)) (h : MapS P k e w b n f) (hn : n < maxLen) (i j c : Int) (hx : a.eval x = .agg #[.int .i64 i, .int .i64 j]) (hv : a.eval v = .int .i64 c) (hi : W64 i) (hj : W64 j) (hc : W64 c)
  (hK : ∀ w', MapS P k e w' b (n + 1) (updS f i j c) → w.grownBy w' (some b) → wpList P ops Q rest (a.put o.dst undef) w') : wpList P ops Q (o :: rest) a w := by
 obtain ⟨D, h1, h2, h3⟩ := h
 refine wpList_mapUpdate_own w hg m x v t hop k e K.keyed ht _ b n D hm h1 hn _ _ _ hx hv (K.key hi hj) _ [] (plainElem_int he hc) ?_
 intro w' ho hgr
 refine hK w' ⟨_, ho, ?_, fun i' j' hi' hj' => ?_⟩ hgr
 ·obtain ⟨l, rfl⟩ := h2
  exact ⟨_, rfl⟩
 ·unfold updS
  by_cases hh : i' = i ∧ j' = j
  ·obtain ⟨rfl, rfl⟩ := hh
   rw [if_pos ⟨rfl, rfl⟩, atKey_put_same h2 (by simp [skey, WideAt.IsKeyLit]), has_put_same h2 (by simp [skey, WideAt.IsKeyLit])]
   exact ⟨rfl, rfl⟩
  ·have hne : skey i' j' ≠ skey i j := fun e => hh (K.inj hi' hj' hi hj e)
   rw [if_neg hh, atKey_put_other hne, has_put_other hne]
   exact h3 i' j' hi' hj'
end Go.Proofs.Ytckhjehibjdjdaa.Mp
namespace Go.Proofs.Ytckhjehibjdjdaa.P
open Go.RowKit Go.Shelf Go.Proofs.YtckhjehibjdjdaaW.PrintWords Go.Proofs.YtckhjehibjdjdaaW.PrintLast Go.Proofs.YtckhjehibjdjdaaW.PrintMore
attribute [local go_sem] Oper.semAt_some
set_option linter.unusedVariables false
set_option linter.unusedSimpArgs false
set_option maxHeartbeats 4000000 in
set_option maxRecDepth 100000 in
theorem clone84_any (A0 : Option Addr) (c0 : Nat) (l0 : List S51) (w : World) (hr0 : Kd.C k51 w A0 l0.length l0) (hc0 : l0.length ≤ c0) (hl : l0.length < 4398046511104) :
  Calls Try.prog 84 #[.slice A0 l0.length c0] w fun e w' => ∃ v0_ : Value, e = .returned v0_ ∧ Kd.R k51 51 w' w.heap.size (fun _ => True) v0_ l0 ∧ Below w.heap.size w w' := by
 have hu22 := Try.underlying22
 have q22 : ∀ (w : World) (a : Option Addr) (n c n' c' : Nat), (binOp .eql 22 (.slice a n c) (.slice none n' c')).run Try.prog w = .ok (.bool a.isNone) w := fun w a n c n' c' => Lib.run_eql_slice_nil w _ _ a n c n' c' Try.underlying22
 have HR := Aside0.mk hr0
 have HL := Aside0.mk hl
 cases A0 with
 | none =>
  have h0 : l0 = [] := by
   rcases Nat.eq_zero_or_pos l0.length with h | h
   ·exact List.eq_nil_of_length_eq_zero h
   ·obtain ⟨ad, hA, _⟩ := hr0.2.2 h
    cases hA
  subst h0
  clear hr0 hl
  go_enter Try.func84, Try.ntmps84
  go_wp2
  all_goals go_ret
  all_goals exact ⟨_, rfl, Kd.R_nil _ _ _ _ _, Below.refl _ _⟩
 | some ad =>
  clear hr0 hl
  go_enter Try.func84, Try.ntmps84
  go_wp2_with (first | ((with_reducible refine gate_dst (N := 5) rfl ?_); refine Kd.R_lit k51 _ 51 ?hg (N := 5) ?hd (xs := ([] : List (S51))) (inner := []) (ok := fun _ => True) (okp := fun _ => True) ?hr ?hp (fun _ hk => hk) trivial (Below.refl _ _) (Nat.le_refl _) (by simp) ?_; (case hd => rfl); (case hg => rfl); (case hr => first | (go_simp; done) | (go_simp; rfl)); (case hp => exact (Reps.none _ _)); intro v5 w5 ho5 hb hg_ hnew_; have HO5 := Aside0.mk ho5; have HB5 := Aside0.mk hb; clear hg_ hnew_ ho5 hb) | (refine Kd.R_append_rows k51 (w0 := w) w.heap.size rfl (.tmp 5) (.tmp 6) 22 51 (.agg #[(.int .i64 0), (.int .i64 0), (.int .u64 0), (.int .i64 0)]) 32 rfl Try.underlying22 info51 rfl (by decide) (by omega) v5 [] l0 _ _ _ (fun _ => True) (fun _ => False) rfl rfl HO5.out (Kd.C_below HR.out HB5.out) (fun _ _ h => h) (fun _ h => h.elim) (fun _ _ => trivial) HB5.out (below_size HB5.out) (by have := HL.out; simp; omega) ?_; intro v7 w7 ho hb hg hat; have HO7 := Aside0.mk ho; have HB7 := Aside0.mk hb; clear ho hb hg hat))
  all_goals go_ret
  all_goals exact ⟨_, rfl, HO7.out, HB7.out⟩
end Go.Proofs.Ytckhjehibjdjdaa.P
namespace Go.Proofs.Ytckhjehibjdjdaa.P
open Go.RowKit Go.Maps Go.WideMaps Go.Proofs.Ytckhjehibjdjdaa.Mp
set_option linter.unusedVariables false
set_option linter.unusedSimpArgs false
theorem key48 : PairKey Try.prog 48 := by
 refine ⟨Keyed.of_law (deep_law (m := 3) (by omega) (by kernel_rfl) (by kernel_rfl) (by rw [Try.underlying48])), ?_⟩
 intro a b ha hb
 have hs : ∃ m, Try.prog.types.size = m + 1 := ⟨Try.prog.types.size - 1, by kernel_rfl⟩
 obtain ⟨m, hm⟩ := hs
 have hkt : Try.prog.keyType 48 = true := by kernel_rfl
 have u3 := Try.underlying3
 have c48 : Try.prog.cellsOf 48 = 2 := by kernel_rfl
 have c3 : Try.prog.cellsOf 3 = 1 := by kernel_rfl
 have ha' : (Lit.int .i64 a).wf = true := ha
 have hb' : (Lit.int .i64 b).wf = true := hb
 have hf : (Value.agg #[.int .i64 a, .int .i64 b]).formed Try.prog 48 = true := by
  simp [Value.formed, Try.underlying48, c48]
 unfold keyOf
 simp only [Try.underlying48, hkt, hf, Bool.true_and, if_true, Bool.and_self]
 rw [hm]
 simp [Program.keyLits, Try.underlying48, Value.cells, u3, ha', hb', c48, c3, skey]
end Go.Proofs.Ytckhjehibjdjdaa.P
namespace Go.Proofs.Ytckhjehibjdjdaa.P
open Go.RowKit Go.Shelf Go.Proofs.YtckhjehibjdjdaaW.PrintWords Go.Proofs.YtckhjehibjdjdaaW.PrintLast Go.Proofs.YtckhjehibjdjdaaW.PrintMore
attribute [local go_sem] Oper.semAt_some
set_option linter.unusedVariables false
set_option linter.unusedSimpArgs false
def moreE (f : S51) (s : S52) : Int := if Go.bits .and .u64 s.f1 f.f1 ≠ 0 then 4 else if s.f2 > wrap64 (1048576 - f.f2) then 14 else 0
def moreF (f : S51) (s : S52) : S51 := ⟨f.f0, Go.bits .or .u64 f.f1 s.f1, wrap64 (f.f2 + s.f2)⟩
def putF (cur : Array Value) (o : Nat) (f : S51) : Array Value := (cur.setIfInBounds (o + 2) (.int .u64 f.f1)).setIfInBounds (o + 3) (.int .i64 f.f2)
theorem grown_set {w W : World} {g j : Nat} {v : Value} (h : w.grownBy W (some g)) : w.grownBy (W.setCell ⟨g, j, none⟩ v) (some g) :=
 ⟨h.os, h.tape, h.output, by simpa using h.size, fun k hk hne => (Below.heap_setCell W _ v k (fun e => hne (by rw [e]))).trans (h.block k hk hne)⟩
theorem grown_drew {w W : World} {g : Nat} (h : w.grownBy W (some g)) : w.grownBy W.drew (some g) := ⟨h.os, h.tape, h.output, h.size, h.block⟩
theorem grown_of_below {w W : World} {g : Nat} (h : Below w.heap.size w W) : w.grownBy W (some g) := ⟨h.os, h.tape, h.output, h.size, fun k hk _ => h.block k hk⟩
set_option maxHeartbeats 8000000 in
set_option maxRecDepth 100000 in
theorem more1_any (g o : Nat) (cur : Array Value) (f : S51) (s : S52) (w : World) (hb : w.heap[g]? = some (.cells cur 51 (0, 0))) (h2 : cur[o + 2]? = some (.int .u64 f.f1)) (h3 : cur[o + 3]? = some (.int .i64 f.f2)) :
  Calls Try.prog 92 #[.pointer (some ⟨g, o, none⟩), .agg #[.int .i64 s.f0.f0, .int .i64 s.f0.f1, .int .u64 s.f1, .int .i64 s.f2]] w fun e w' => e = .returned (.int .i64 (moreE f s)) ∧ w.grownBy w' (some g) ∧ w'.heap[g]? = some (.cells (if moreE f s = 0 then putF cur o (moreF f s) else cur) 51 (0, 0)) := by
 have hu52 := Try.underlying52
 have hu51 := Try.underlying51
 have hu49 := Try.underlying49
 obtain ⟨⟨n0, n1⟩, m, c⟩ := f
 obtain ⟨⟨s0, s1⟩, sm, sc⟩ := s
 simp only at h2 h3
 have hlt : g < w.heap.size := (Array.getElem?_eq_some_iff.1 hb).1
 have HB := Aside0.mk hb
 have H2 := Aside0.mk h2
 have H3 := Aside0.mk h3
 clear hb h2 h3
 by_cases q1 : Go.bits .and .u64 sm m = 0
 ·have b1 : (Go.bits .and .u64 sm m != 0) = false := by simpa using q1
  by_cases q2 : sc > wrap64 (1048576 - c)
  ·have b2 : decide (wrap64 (1048576 - c) < sc) = true := by simpa using q2
   have HE : moreE ⟨⟨n0, n1⟩, m, c⟩ ⟨⟨s0, s1⟩, sm, sc⟩ = 14 := by simp only [moreE]; rw [if_neg (by simpa using q1), if_pos q2]
   rw [HE, if_neg (by decide)]
   go_enter Try.func92, Try.ntmps92
   go_wp2_with (first | ((with_reducible refine gate_dst (N := 3) rfl ?_); refine bx 3 #[.int .i64 s0, .int .i64 s1, .int .u64 sm, .int .i64 sc] 52 ?_; intro g3 hg3 w3 hx3 hb3; have hne : g ≠ g3 := (by omega); have HB3 := Aside0.mk hb3; have hbk := hb3.block g hlt; rw [HB.out] at hbk; have HX := Aside0.mk hbk; have f1 : w3.cell? ⟨g3, 2, none⟩ = some (.int .u64 sm) := (blk_cell hx3 2).trans rfl; have f2 : w3.cell? ⟨g3, 3, none⟩ = some (.int .i64 sc) := (blk_cell hx3 3).trans rfl; have k2 := (blk_cell hbk (o + 2)).trans H2.out; have k3 := (blk_cell hbk (o + 3)).trans H3.out; have z2 := blk_frozen hbk (o + 2); have z3 := blk_frozen hbk (o + 3); clear hg3 hb3 hbk))
   go_quiet (fail)
   go_wp2
   go_quiet (fail)
   go_wp2
   go_ret
   exact ⟨rfl, grown_of_below (by repeat (first | exact HB3.out | apply pw_below_drewN)), by simpa using HX.out⟩
  ·have b2 : decide (wrap64 (1048576 - c) < sc) = false := by simpa using q2
   have HE : moreE ⟨⟨n0, n1⟩, m, c⟩ ⟨⟨s0, s1⟩, sm, sc⟩ = 0 := by simp only [moreE]; rw [if_neg (by simpa using q1), if_neg q2]
   rw [HE, if_pos rfl]
   go_enter Try.func92, Try.ntmps92
   go_wp2_with (first | ((with_reducible refine gate_dst (N := 3) rfl ?_); refine bx 3 #[.int .i64 s0, .int .i64 s1, .int .u64 sm, .int .i64 sc] 52 ?_; intro g3 hg3 w3 hx3 hb3; have hne : g ≠ g3 := (by omega); have HB3 := Aside0.mk hb3; have hbk := hb3.block g hlt; rw [HB.out] at hbk; have HX := Aside0.mk hbk; have f1 : w3.cell? ⟨g3, 2, none⟩ = some (.int .u64 sm) := (blk_cell hx3 2).trans rfl; have f2 : w3.cell? ⟨g3, 3, none⟩ = some (.int .i64 sc) := (blk_cell hx3 3).trans rfl; have k2 := (blk_cell hbk (o + 2)).trans H2.out; have k3 := (blk_cell hbk (o + 3)).trans H3.out; have z2 := blk_frozen hbk (o + 2); have z3 := blk_frozen hbk (o + 3); clear hg3 hb3 hbk))
   go_quiet (fail)
   go_wp2
   go_quiet (fail)
   go_wp2
   generalize hw5 : (w3.drewN _).drewN _ = w5
   have hb5 : Below w.heap.size w w5 := by rw [← hw5]; repeat (first | exact HB3.out | apply pw_below_drewN)
   have hx5 : w5.heap[g]? = some (.cells cur 51 (0, 0)) := by rw [← hw5]; exact HX.out
   have hy5 : w5.heap[g3]? = some (.cells #[.int .i64 s0, .int .i64 s1, .int .u64 sm, .int .i64 sc] 52 (0, 0)) := by rw [← hw5]; exact hx3
   clear hx3 f1 f2 k2 k3 z2 z3 hw5
   have f1 : w5.cell? ⟨g3, 2, none⟩ = some (.int .u64 sm) := (blk_cell hy5 2).trans rfl
   have f2 : w5.cell? ⟨g3, 3, none⟩ = some (.int .i64 sc) := (blk_cell hy5 3).trans rfl
   have k2 := (blk_cell hx5 (o + 2)).trans H2.out
   have k3 := (blk_cell hx5 (o + 3)).trans H3.out
   have z2 := blk_frozen hx5 (o + 2)
   have z3 := blk_frozen hx5 (o + 3)
   have hy6 := blk_far hy5 (p := ⟨g, o + 2, none⟩) (fun e => hne e.symm) (.int .u64 (Go.bits .or .u64 m sm))
   have hx6 := blk_set hx5 (o + 2) (.int .u64 (Go.bits .or .u64 m sm))
   have f3 : (w5.setCell ⟨g, o + 2, none⟩ (.int .u64 (Go.bits .or .u64 m sm))).cell? ⟨g3, 3, none⟩ = some (.int .i64 sc) := (blk_cell hy6 3).trans rfl
   have k4 : (w5.setCell ⟨g, o + 2, none⟩ (.int .u64 (Go.bits .or .u64 m sm))).cell? ⟨g, o + 3, none⟩ = some (.int .i64 c) := (blk_cell hx6 (o + 3)).trans (by rw [Array.getElem?_setIfInBounds_ne (by omega)]; exact H3.out)
   have z4 := blk_frozen hx6 (o + 3)
   have HB5 := Aside0.mk hb5
   have HX6 := Aside0.mk hx6
   clear hb5 hx5 hy5 hy6 hx6
   go_region
   go_wp2
   go_ret
   exact ⟨rfl, grown_drew (grown_set (grown_set (grown_of_below HB5.out))), blk_set HX6.out (o + 3) _⟩
 ·have b1 : (Go.bits .and .u64 sm m != 0) = true := by simpa using q1
  have HE : moreE ⟨⟨n0, n1⟩, m, c⟩ ⟨⟨s0, s1⟩, sm, sc⟩ = 4 := by simp only [moreE]; rw [if_pos q1]
  rw [HE, if_neg (by decide)]
  go_enter Try.func92, Try.ntmps92
  go_wp2_with (first | ((with_reducible refine gate_dst (N := 3) rfl ?_); refine bx 3 #[.int .i64 s0, .int .i64 s1, .int .u64 sm, .int .i64 sc] 52 ?_; intro g3 hg3 w3 hx3 hb3; have hne : g ≠ g3 := (by omega); have HB3 := Aside0.mk hb3; have hbk := hb3.block g hlt; rw [HB.out] at hbk; have HX := Aside0.mk hbk; have f1 : w3.cell? ⟨g3, 2, none⟩ = some (.int .u64 sm) := (blk_cell hx3 2).trans rfl; have f2 : w3.cell? ⟨g3, 3, none⟩ = some (.int .i64 sc) := (blk_cell hx3 3).trans rfl; have k2 := (blk_cell hbk (o + 2)).trans H2.out; have k3 := (blk_cell hbk (o + 3)).trans H3.out; have z2 := blk_frozen hbk (o + 2); have z3 := blk_frozen hbk (o + 3); clear hg3 hb3 hbk))
  go_quiet (fail)
  go_wp2
  go_ret
  exact ⟨rfl, grown_of_below (by repeat (first | exact HB3.out | apply pw_below_drewN)), by simpa using HX.out⟩
end Go.Proofs.Ytckhjehibjdjdaa.P
namespace Go.Proofs.Ytckhjehibjdjdaa.P
open Go.RowKit Go.Shelf Go.Proofs.YtckhjehibjdjdaaW.PrintWords Go.Proofs.YtckhjehibjdjdaaW.PrintLast Go.Proofs.YtckhjehibjdjdaaW.PrintMore
open Go.Proofs.Ytckhjehibjdjdaa.Mp
attribute [local go_sem] Oper.semAt_some
set_option linter.unusedVariables false
set_option linter.unusedSimpArgs false
def ixS (l : List S51) : Nat → Int → Int → Option Int
 | 0 => fun _ _ => none
 | i + 1 => updS (ixS l i) (rd_T51 l i).f0.f0 (rd_T51 l i).f0.f1 i
def turnedL (E : S51 → S52 → Int) (F : S51 → S52 → S51) (ix : Int → Int → Option Int) : List S51 → List S52 → List S51 × Int
 | out, [] => (out, 0)
 | out, s :: ss => if s.f2 < 0 then ([], 1) else match ix s.f0.f0 s.f0.f1 with
  | none => ([], 3)
  | some k => if E (rd_T51 out k) s = 0 then turnedL E F ix (out.set k.toNat (F (rd_T51 out k) s)) ss else ([], E (rd_T51 out k) s)
theorem ixS_bd (l : List S51) : ∀ (i : Nat) (a b k : Int), ixS l i a b = some k → 0 ≤ k ∧ k < i
 | 0, _, _, _, h => by cases h
 | i + 1, a, b, k, h => by
  unfold ixS updS at h
  split at h
  ·cases h; omega
  ·have := ixS_bd l i a b k h; omega
def TurnC (fn : Nat) (E : S51 → S52 → Int) (F : S51 → S52 → S51) : Prop := ∀ (g o : Nat) (cur : Array Value) (f : S51) (s : S52) (w : World), w.heap[g]? = some (.cells cur 51 (0, 0)) → cur[o + 2]? = some (.int .u64 f.f1) → cur[o + 3]? = some (.int .i64 f.f2) →
  Calls Try.prog fn #[.pointer (some ⟨g, o, none⟩), .agg #[.int .i64 s.f0.f0, .int .i64 s.f0.f1, .int .u64 s.f1, .int .i64 s.f2]] w fun e w' => e = .returned (.int .i64 (E f s)) ∧ w.grownBy w' (some g) ∧ w'.heap[g]? = some (.cells (if E f s = 0 then putF cur o (F f s) else cur) 51 (0, 0))
theorem own51 {W : World} {base : Nat} {ok : Nat → Prop} {v : Value} {out : List S51} (h : Kd.R k51 51 W base ok v out) (hn : 0 < out.length) :
  ∃ g cap cur, v = .slice (some ⟨g, 0, none⟩) out.length cap ∧ ok g ∧ base ≤ g ∧ W.heap[g]? = some (.cells cur 51 (0, 0)) := by
 obtain ⟨hok, inner, ⟨_, hv⟩, _⟩ := h
 rcases hv with ⟨_, h0⟩ | ⟨g, cap, cur, rfl, hg, hh, _⟩
 ·omega
 ·exact ⟨g, cap, cur, rfl, hok g (by simp [Value.ownBlock]), hg, hh⟩
theorem R_turn {W W' : World} {base B0 g n cap : Nat} {cur : Array Value} {out : List S51} {k : Nat} {f' : S51} (HO : Kd.R k51 51 W base (fun k => k < B0) (.slice (some ⟨g, 0, none⟩) n cap) out) (hB0 : B0 ≤ W.heap.size) (hk : k < n)
  (hh : W.heap[g]? = some (.cells cur 51 (0, 0))) (hf0 : f'.f0 = (rd_T51 out (k : Int)).f0) (hg : W.grownBy W' (some g)) (hx : W'.heap[g]? = some (.cells (putF cur (k * 4) f') 51 (0, 0))) :
  Kd.R k51 51 W' base (fun k => k < B0) (.slice (some ⟨g, 0, none⟩) n cap) (out.set k f') := by
 obtain ⟨hn, _, hC⟩ := Kd.R_reads' HO
 obtain ⟨ad, e0, x0, x1, x2, x3⟩ := at_T51 hC (k : Int) (by omega) (by omega)
 cases e0
 have hsz : k51.sz = 4 := rfl
 simp only [Int.toNat_natCast, add_plain, Nat.zero_add] at x0 x1 x2 x3
 have hs := (Kd.R_seg HO (k : Int) (by omega) (by omega) (c := [.int .i64 (rd_T51 out (k : Int)).f0.f0, .int .i64 (rd_T51 out (k : Int)).f0.f1, .int .u64 (rd_T51 out (k : Int)).f1, .int .i64 (rd_T51 out (k : Int)).f2]) (seg := [.int .u64 f'.f1, .int .i64 f'.f2]) (j := 2) rfl (by
  intro j u hu
  rw [Int.toNat_natCast, hsz]
  match j, hu with
  | 0, hu => cases hu; exact x0
  | 1, hu => cases hu; exact x1
  | 2, hu => cases hu; exact x2
  | 3, hu => cases hu; exact x3
  | j + 4, hu => simp at hu) (by rw [hsz]; simp) (x' := f') (okp := fun _ => False) (by
   have := k51_mkM W base (fun _ => False) f'
   rw [hf0] at this
   exact this) (fun _ h => h.elim)).1
 rw [Int.toNat_natCast] at hs
 refine Kd.R_move hs (fun k' hk' => ?_)
 by_cases e : k' = g
 ·subst e
  rw [hx]
  have h1 := blk_set hh (k * 4 + 2) (.int .u64 f'.f1)
  have h2 := blk_set h1 (k * 4 + 3) (.int .i64 f'.f2)
  simp only [World.setCells, hsz]
  rw [h2]; rfl
 ·rw [hg.block k' (by omega) (by simpa using e)]
  simp only [World.setCells]
  rw [Below.heap_setCell _ _ _ _ (by simpa using e), Below.heap_setCell _ _ _ _ (by simpa using e)]
theorem turned_cons (E : S51 → S52 → Int) (F : S51 → S52 → S51) (ix : Int → Int → Option Int) (out : List S51) (l1 : List S52) (j : Nat) (h : j < l1.length) :
  turnedL E F ix out (l1.drop j) = if (rd_T52 l1 (j : Int)).f2 < 0 then ([], 1) else match ix (rd_T52 l1 (j : Int)).f0.f0 (rd_T52 l1 (j : Int)).f0.f1 with
   | none => ([], 3)
   | some k => if E (rd_T51 out k) (rd_T52 l1 (j : Int)) = 0 then turnedL E F ix (out.set k.toNat (F (rd_T51 out k) (rd_T52 l1 (j : Int)))) (l1.drop (j + 1)) else ([], E (rd_T51 out k) (rd_T52 l1 (j : Int))) := by
 have e : rd_T52 l1 (j : Int) = l1[j] := by simp [rd_T52, List.getD_eq_getElem?_getD, List.getElem?_eq_getElem h]
 rw [e, List.drop_eq_getElem_cons h, turnedL]
theorem zero3 (w : World) : (zeroValue 3).run Try.prog w = .ok (.int .i64 0) w := by kernel_rfl
set_option maxHeartbeats 8000000 in
set_option maxRecDepth 100000 in
theorem turned_any (fn : Nat) (E : S51 → S52 → Int) (F : S51 → S52 → S51) (HT : TurnC fn E F) (hent : ∀ args W, (callFunc fn args).run Try.prog W = .ok (.enter fn args) W) (hF : ∀ f s, (F f s).f0 = f.f0)
  (A0 : Option Addr) (c0 : Nat) (l0 : List S51) (A1 : Option Addr) (c1 : Nat) (l1 : List S52) (w : World) (hr0 : Kd.C k51 w A0 l0.length l0) (hc0 : l0.length ≤ c0) (hr1 : Kd.C k52 w A1 l1.length l1) (hc1 : l1.length ≤ c1)
  (hl : l0.length < 4398046511104) (hw0 : ∀ i, i < l0.length → W64 (rd_T51 l0 i).f0.f0 ∧ W64 (rd_T51 l0 i).f0.f1) (hw1 : ∀ i, i < l1.length → W64 (rd_T52 l1 i).f0.f0 ∧ W64 (rd_T52 l1 i).f0.f1) :
  Calls Try.prog 90 #[.slice A0 l0.length c0, .slice A1 l1.length c1, .func (.func fn) #[] #[]] w fun e w' => ∃ v0_ : Value, e = .returned (.tuple #[v0_, .int .i64 (turnedL E F (ixS l0 l0.length) l0 l1).2]) ∧ Kd.R k51 51 w' w.heap.size (fun _ => True) v0_ (turnedL E F (ixS l0 l0.length) l0 l1).1 ∧ Below w.heap.size w w' := by
 have hu51 := Try.underlying51
 have hu52 := Try.underlying52
 have hu48 := Try.underlying48
 have hu70 := Try.underlying70
 have hmm := @run_makeMap Try.prog
 have HR0 := Aside0.mk hr0
 have HR1 := Aside0.mk hr1
 have HW0 := Aside0.mk hw0
 have HW1 := Aside0.mk hw1
 have HTT := Aside0.mk HT
 have HL := Aside0.mk hl
 have HC0 := Aside0.mk hc0
 clear hr0 hr1 hw0 hw1 HT hl hc0
 have hlen1 : l1.length ≤ 9223372036854775807 := HR1.out.2.1
 obtain ⟨ix, hN⟩ : ∃ ix, ixS l0 l0.length = ix := ⟨_, rfl⟩
 rw [hN]
 have HN := Aside0.mk hN
 clear hN
 go_enter Try.func90, Try.ntmps90
 go_wp2_with (go_at_call 84; refine (clone84_any A0 c0 l0 _ HR0.out HC0.out HL.out).mono ?_; rintro e w8 ⟨v8, rfl, ho8, hb8⟩; obtain ⟨A8, c8, rfl, hc8, _⟩ := Kd.R_reads ho8; have HC8 := Aside0.mk hc8; clear hc8; have HB8 := Aside0.mk hb8; clear hb8; have HO8 := Aside0.mk (Kd.R_mono (Kd.R_bound ho8) (fun k hk => (hk.2.2.1 : k < w8.heap.size))); clear ho8)
 go_loopw [22] (fun v22 wr => ∃ i : Nat, i ≤ l0.length ∧ v22 = .int .i64 (i : Int) ∧ Aside0 (Kd.R k51 51 wr w.heap.size (fun k => k < w8.heap.size) (.slice A8 l0.length c8) l0) ∧ Aside0 (MapS Try.prog 48 3 wr w8.heap.size i (ixS l0 i)) ∧ Aside0 (Below w.heap.size w wr)) (fun v22 _ => l0.length - (intOf v22).toNat)
 case atStart => exact ⟨0, Nat.zero_le _, rfl, ⟨Kd.R_alloc HO8.out _⟩, ⟨MapS.made _ _ _ _⟩, ⟨below_alloc HB8.out _⟩⟩
 case round =>
  obtain ⟨i, hi, rfl, HO, HM, HB⟩ := hrel
  by_cases hlt : i < l0.length
  ·have h0 : 0 ≤ (i : Int) := by omega
   have h1' : (i : Int) < l0.length := by omega
   obtain ⟨ad, e0, x0, x1, x2, x3⟩ := at_T51 (Kd.R_reads' HO.out).2.2 (i : Int) h0 h1'
   cases e0
   simp only [Int.toNat_natCast] at x0 x1 x2 x3
   have hw := HW0.out i hlt
   have hl' := HL.out
   go_wp2_with (at_mapUpdate; refine wp_update_S rfl key48 _ _ _ 70 rfl Try.underlying70 Try.underlying3 rfl (HM.out.alloc _) (by unfold maxLen; omega) _ _ _ rfl rfl hw.1 hw.2 (W64.mk (by omega)) ?_; intro w1 hm1 hg1)
   have hsz := (below_alloc HB.out (.cells #[.int .i64 (rd_T51 l0 i).f0.f0, .int .i64 (rd_T51 l0 i).f0.f1, .int .u64 (rd_T51 l0 i).f1, .int .i64 (rd_T51 l0 i).f2] 51)).size
   have hs8 := HB8.out.size
   go_roundw
   case rel => exact ⟨i + 1, by omega, by go_num, ⟨Kd.R_grown (Kd.R_alloc HO.out _) hg1 (fun k hk e => by cases e; omega)⟩, ⟨hm1⟩, ⟨(below_alloc HB.out _).grown hg1 hsz (fun k e => by cases e; omega)⟩⟩
   case measure => simp [intOf]; omega
  ·obtain rfl : i = l0.length := by omega
   go_wp2
   clear hmm
   rw [HN.out] at HM
   have hixb := Aside0.mk (fun a b k (h : ix a b = some k) => ixS_bd l0 l0.length a b k (by rw [HN.out]; exact h))
   clear HN
   obtain ⟨wo, hwo⟩ : ∃ wo : World, wo = wr := ⟨_, rfl⟩
   subst hwo
   go_loopw [34] (fun v34 w2 => ∃ (j : Nat) (out : List S51), j ≤ l1.length ∧ v34 = .int .i64 (j : Int) ∧ Aside0 (out.length = l0.length ∧ turnedL E F ix l0 l1 = turnedL E F ix out (l1.drop j)) ∧ Aside0 (Kd.R k51 51 w2 w.heap.size (fun k => k < w8.heap.size) (.slice A8 l0.length c8) out) ∧ Aside0 (MapS Try.prog 48 3 w2 w8.heap.size l0.length ix) ∧ Aside0 (Below w.heap.size w w2) ∧ Aside0 (w8.heap.size < w2.heap.size)) (fun v34 _ => l1.length - (intOf v34).toNat)
   case atStart => exact ⟨0, l0, Nat.zero_le _, rfl, ⟨rfl, rfl⟩, HO, HM, HB, ⟨HM.out.lt⟩⟩
   case round =>
    clear HO HM HB
    obtain ⟨j, out, hj, rfl, HE, HO, HM, HB, HS⟩ := hrel
    by_cases hlt : j < l1.length
    ·have h0 : 0 ≤ (j : Int) := by omega
     have h1' : (j : Int) < l1.length := by omega
     obtain ⟨ad1, e1, y0, y1, y2, y3⟩ := at_T52 HR1.out (j : Int) h0 h1'
     cases e1
     simp only [Int.toNat_natCast] at y0 y1 y2 y3
     replace y0 := pw_cell_below HB.out y0
     replace y1 := pw_cell_below HB.out y1
     replace y2 := pw_cell_below HB.out y2
     replace y3 := pw_cell_below HB.out y3
     have HEE := Aside0.mk (HE.out.2.trans (turned_cons E F ix out l1 j hlt))
     have hlo := HE.out.1
     clear HE
     have hw := HW1.out j hlt
     generalize hs : rd_T52 l1 (j : Int) = s at *
     clear hs
     obtain ⟨⟨s0, s1⟩, sm, sc⟩ := s
     simp only at y0 y1 y2 y3 hw
     by_cases hneg : sc < 0
     ·have bn : decide (sc < 0) = true := by simpa using hneg
      rw [if_pos hneg] at HEE
      clear hneg
      go_wp2_with (at_lookup; refine wp_lookup_S rfl key48 _ _ 70 rfl Try.underlying70 Try.underlying3 (zero3 _) rfl (HM.out.alloc _) _ _ rfl hw.1 hw.2 ?_)
      go_ret2
      exact ⟨.slice none 0 0, (by rw [HEE.out]; first | done | rfl), (by rw [HEE.out]; exact Kd.R_nil _ _ _ _ _), below_alloc HB.out _⟩
     ·have bn : decide (sc < 0) = false := by simpa using hneg
      rw [if_neg hneg] at HEE
      clear hneg
      cases hix : ix s0 s1 with
      | none =>
       rw [hix] at HEE
       go_wp2_with (at_lookup; refine wp_lookup_S rfl key48 _ _ 70 rfl Try.underlying70 Try.underlying3 (zero3 _) rfl (HM.out.alloc _) _ _ rfl hw.1 hw.2 ?_; rw [hix]; simp only [Option.getD_none, Option.isSome_none])
       go_ret2
       exact ⟨.slice none 0 0, (by rw [HEE.out]; first | done | rfl), (by rw [HEE.out]; exact Kd.R_nil _ _ _ _ _), below_alloc HB.out _⟩
      | some k =>
       rw [hix] at HEE
       have hkb := hixb.out _ _ _ hix
       go_wp2_with (at_lookup; refine wp_lookup_S rfl key48 _ _ 70 rfl Try.underlying70 Try.underlying3 (zero3 _) rfl (HM.out.alloc _) _ _ rfl hw.1 hw.2 ?_; rw [hix]; simp only [Option.getD_some, Option.isSome_some])
       obtain ⟨kn, rfl⟩ := Int.eq_ofNat_of_zero_le hkb.1
       have hk1 : kn < l0.length := by omega
       obtain ⟨g, cap, cur, hv, hgk, hgb, hh⟩ := own51 HO.out (by omega)
       injection hv with ha hn hc
       subst ha
       have hC := (Kd.R_reads' HO.out).2.2
       obtain ⟨ad2, e2, _, _, z2, z3⟩ := at_T51 hC (kn : Int) (by omega) (by omega)
       cases e2
       simp only [Int.toNat_natCast, add_plain, Nat.zero_add] at z2 z3
       rw [blk_cell hh] at z2 z3
       obtain ⟨wa, hwa⟩ : ∃ wa, wr.alloc (.cells #[.int .i64 s0, .int .i64 s1, .int .u64 sm, .int .i64 sc] 52) = wa := ⟨_, rfl⟩
       have hha : wa.heap[g]? = some (.cells cur 51 (0, 0)) := by rw [← hwa]; exact blk_alloc hh _
       have hya : wa.heap[wr.heap.size]? = some (.cells #[.int .i64 s0, .int .i64 s1, .int .u64 sm, .int .i64 sc] 52 (0, 0)) := by rw [← hwa]; exact heap_alloc_new _ _
       have hOa : Kd.R k51 51 wa w.heap.size (fun k => k < w8.heap.size) (.slice (some ⟨g, 0, none⟩) l0.length c8) out := by rw [← hwa]; exact Kd.R_alloc HO.out _
       have hMa : MapS Try.prog 48 3 wa w8.heap.size l0.length ix := by rw [← hwa]; exact HM.out.alloc _
       have hBa : Below w.heap.size w wa := by rw [← hwa]; exact below_alloc HB.out _
       have hSa : w8.heap.size < wa.heap.size := by rw [← hwa]; have := HS.out; simp; omega
       rw [hwa]
       have hcall := HTT.out g (kn * 4) cur (rd_T51 out (kn : Int)) ⟨⟨s0, s1⟩, sm, sc⟩ wa.drew (blk_drew hha) z2 z3
       have hRT := fun W' (hg : wa.drew.grownBy W' (some g)) (hx : W'.heap[g]? = some (.cells (putF cur (kn * 4) (F (rd_T51 out (kn : Int)) ⟨⟨s0, s1⟩, sm, sc⟩)) 51 (0, 0))) => R_turn (Kd.R_drew hOa) (B0 := w8.heap.size) (Nat.le_of_lt hSa) hk1 (blk_drew hha) (hF _ _) hg hx
       have HRT := Aside0.mk hRT
       have HCALL := Aside0.mk hcall
       have HGB := Aside0.mk (And.intro hgk hgb)
       have HOA := Aside0.mk hOa
       have HMA := Aside0.mk hMa
       have HBA := Aside0.mk hBa
       have HSA := Aside0.mk hSa
       have q0 : wa.cell? ⟨wr.heap.size, 0, none⟩ = some (.int .i64 s0) := (blk_cell hya 0).trans rfl
       have q1 : wa.cell? ⟨wr.heap.size, 1, none⟩ = some (.int .i64 s1) := (blk_cell hya 1).trans rfl
       have q2 : wa.cell? ⟨wr.heap.size, 2, none⟩ = some (.int .u64 sm) := (blk_cell hya 2).trans rfl
       have q3 : wa.cell? ⟨wr.heap.size, 3, none⟩ = some (.int .i64 sc) := (blk_cell hya 3).trans rfl
       clear hwa hha hya hOa hMa hBa hSa hRT hcall hgk hgb hh z2 z3 hC hn hc HO HM HB HS
       go_still_tail 5, (by kernel_rfl)
       change wpList _ _ _ _ _ wa.drew
       clear q0 q1 q2 q3
       go_wp2_with (fail)
       refine HCALL.out.mono ?_
       rintro e W4 ⟨rfl, hg4, hx4⟩
       by_cases hE : E (rd_T51 out (kn : Int)) ⟨⟨s0, s1⟩, sm, sc⟩ = 0
       ·rw [if_pos hE] at hx4
        have HO4 := Aside0.mk (HRT.out W4 hg4 hx4)
        simp only [hE, if_true] at HEE
        rw [hE]
        have HM4 := Aside0.mk (HMA.out.move (hg4.block _ HMA.out.lt (by simp; have := HGB.out.1; omega)))
        have HB4 := Aside0.mk ((below_drew1 HBA.out).grown hg4 (below_drew1 HBA.out).size (fun k e => by cases e; exact HGB.out.2))
        have HS4 := Aside0.mk (Nat.lt_of_lt_of_le HSA.out hg4.size)
        clear hx4 hg4 HCALL HRT HOA HMA HBA HSA
        go_wp2
        go_roundw
        case rel => exact ⟨j + 1, _, by omega, by go_num, ⟨by rw [List.length_set]; exact hlo, HEE.out⟩, HO4, HM4, HB4, HS4⟩
        case measure => simp [intOf]; omega
       ·have bE : (E (rd_T51 out (kn : Int)) ⟨⟨s0, s1⟩, sm, sc⟩ == 0) = false := by simpa using hE
        simp only [hE, if_false] at HEE
        have HB4 := Aside0.mk ((below_drew1 HBA.out).grown hg4 (below_drew1 HBA.out).size (fun k e => by cases e; exact HGB.out.2))
        clear hx4 hg4 HCALL HRT HOA HMA HBA HSA hE
        go_wp2
        go_ret2
        exact ⟨.slice none 0 0, (by rw [HEE.out]; first | done | rfl), (by rw [HEE.out]; exact Kd.R_nil _ _ _ _ _), HB4.out⟩
    ·obtain rfl : j = l1.length := by omega
     have HEE := HE.out.2
     rw [List.drop_eq_nil_of_le (Nat.le_refl _)] at HEE
     have HE2 := Aside0.mk HEE
     have hlo := HE.out.1
     clear HEE HE
     go_wp2
     go_ret2
     exact ⟨.slice A8 l0.length c8, (by rw [HE2.out, turnedL]; first | done | rfl), (by rw [HE2.out, turnedL]; exact Kd.R_mono HO.out (fun _ _ => trivial)), HB.out⟩
def turned51 (E : S51 → S52 → Int) (F : S51 → S52 → S51) (l0 : List S51) (l1 : List S52) : List S51 × Int := turnedL E F (ixS l0 l0.length) l0 l1
def w64B (x : Int) : Bool := decide (-9223372036854775808 ≤ x) && decide (x ≤ 9223372036854775807)
def spotsOk (l0 : List S51) (l1 : List S52) : Bool := decide (l0.length < 4398046511104) && l0.all (fun f => w64B f.f0.f0 && w64B f.f0.f1) && l1.all (fun f => w64B f.f0.f0 && w64B f.f0.f1)
def pack_More.f (l0 : List S51) (l1 : List S52) : Option (List S51 × Int) := if spotsOk l0 l1 = true then some (turned51 moreE moreF l0 l1) else none
theorem spotsOk_out {l0 : List S51} {l1 : List S52} (h : spotsOk l0 l1 = true) : l0.length < 4398046511104 ∧ (∀ i, i < l0.length → W64 (rd_T51 l0 i).f0.f0 ∧ W64 (rd_T51 l0 i).f0.f1) ∧ (∀ i, i < l1.length → W64 (rd_T52 l1 i).f0.f0 ∧ W64 (rd_T52 l1 i).f0.f1) := by
 unfold spotsOk at h
 simp only [Bool.and_eq_true, decide_eq_true_eq, List.all_eq_true, w64B] at h
 refine ⟨h.1.1, fun i hi => ?_, fun i hi => ?_⟩
 ·have e : rd_T51 l0 (i : Int) = l0[i] := by simp [rd_T51, List.getD_eq_getElem?_getD, List.getElem?_eq_getElem hi]
  have := h.1.2 _ (List.getElem_mem hi)
  rw [e]
  exact ⟨W64.mk this.1, W64.mk this.2⟩
 ·have e : rd_T52 l1 (i : Int) = l1[i] := by simp [rd_T52, List.getD_eq_getElem?_getD, List.getElem?_eq_getElem hi]
  have := h.2 _ (List.getElem_mem hi)
  rw [e]
  exact ⟨W64.mk this.1, W64.mk this.2⟩
set_option maxHeartbeats 4000000 in
set_option maxRecDepth 100000 in
theorem pack_More.calls (A0 : Option Addr) (c0 : Nat) (l0 : List (S51)) (A1 : Option Addr) (c1 : Nat) (l1 : List (S52)) (r1 : List (S51)) (r2 : Int) (w : World) (hr0 : Kd.C k51 w A0 l0.length l0) (hc0 : l0.length ≤ c0) (hr1 : Kd.C k52 w A1 l1.length l1) (hc1 : l1.length ≤ c1) (h : pack_More.f l0 l1 = some (r1, r2)) :
  Calls Try.prog 52 #[.slice A0 l0.length c0, .slice A1 l1.length c1] w fun e w' => ∃ v0_ : Value, e = .returned (.tuple #[v0_, .int .i64 r2]) ∧ Kd.R k51 51 w' w.heap.size (fun _ => True) v0_ r1 ∧ Below w.heap.size w w' := by
 unfold pack_More.f at h
 split at h
 case isFalse => cases h
 rename_i hok
 obtain ⟨h1, h2, h3⟩ := spotsOk_out hok
 have hr := Option.some.inj h
 unfold turned51 at hr
 have HC := turned_any 92 moreE moreF (fun g o cur f s w a b c => more1_any g o cur f s w a b c) (fun args W => by kernel_rfl) (fun _ _ => rfl) A0 c0 l0 A1 c1 l1 w hr0 hc0 hr1 hc1 h1 h2 h3
 rw [hr] at HC
 have H := Aside0.mk HC
 clear HC hr h h1 h2 h3 hok hr0 hr1
 go_enter Try.func52, Try.ntmps52
 go_wp2_with (go_at_call 90; refine H.out.mono ?_; rintro e w1 ⟨v, rfl, ho, hb⟩; have HO := Aside0.mk ho; have HB := Aside0.mk hb; clear ho hb)
 go_ret2
 exact ⟨_, rfl, HO.out, HB.out⟩
end Go.Proofs.Ytckhjehibjdjdaa.P
namespace Go.Proofs.Ytckhjehibjdjdaa.P
open Go.RowKit Go.Shelf Go.Proofs.YtckhjehibjdjdaaW.PrintWords Go.Proofs.YtckhjehibjdjdaaW.PrintLast Go.Proofs.YtckhjehibjdjdaaW.PrintMore
attribute [local go_sem] Oper.semAt_some
set_option linter.unusedVariables false
set_option linter.unusedSimpArgs false
abbrev HV := S41 × Option Addr × Nat × Nat
def hc (x : HV) : List Value := [.int .i64 x.1.f0, .int .i64 x.1.f1, .int .i64 x.1.f2, .bool x.1.f3, .slice x.2.1 x.2.2.1 x.2.2.2]
def kh : Kd (HV) where
 sz := 5
 E := []
 K := fun _ x cs => cs = hc x
 M := fun _ _ _ x cs => cs = hc x
 K_len := fun h => by rw [h]; rfl
 K_one := fun h u hu => by
  rw [h] at hu
  simp only [hc, List.mem_cons, List.not_mem_nil, or_false] at hu
  rcases hu with rfl | rfl | rfl | rfl | rfl
  ·rfl
  ·rfl
  ·rfl
  ·rfl
  ·rfl
 K_below := fun _ h => h
 K_of_M := fun h => h
 M_mono := fun _ h => h
 M_bound := fun h => h
 M_move := fun _ h => h
 M_lower := fun _ h => h
def cmpI (x y : Int) : Int := if x < y then -1 else if x > y then 1 else 0
set_option maxHeartbeats 4000000 in
set_option maxRecDepth 100000 in
theorem nan_any (x : Int) (w : World) : Calls Try.prog 104 #[.int .i64 x] w fun e w' => e = .returned (.bool false) ∧ w' = w := by
 have hu3 := Try.underlying3
 go_enter Try.func104, Try.ntmps104
 go_wp2
 all_goals go_ret
 all_goals exact ⟨by simp, rfl⟩
set_option maxHeartbeats 4000000 in
set_option maxRecDepth 100000 in
theorem cmp_any (x y : Int) (w : World) : Calls Try.prog 73 #[.int .i64 x, .int .i64 y] w fun e w' => e = .returned (.int .i64 (cmpI x y)) ∧ w' = w := by
 have hu3 := Try.underlying3
 unfold cmpI
 by_cases h1 : x < y
 ·rw [if_pos h1]
  have b1 : decide (x < y) = true := by simpa using h1
  go_enter Try.func73, Try.ntmps73
  go_wp2_with (go_at_call 104; refine (nan_any _ _).mono ?_; rintro e w' ⟨rfl, rfl⟩)
  all_goals go_ret
  all_goals exact ⟨rfl, rfl⟩
 ·rw [if_neg h1]
  have b1 : decide (x < y) = false := by simpa using h1
  by_cases h2 : x > y
  ·rw [if_pos h2]
   have b2 : decide (y < x) = true := by simpa using h2
   go_enter Try.func73, Try.ntmps73
   go_wp2_with (go_at_call 104; refine (nan_any _ _).mono ?_; rintro e w' ⟨rfl, rfl⟩)
   all_goals go_ret
   all_goals exact ⟨rfl, rfl⟩
  ·rw [if_neg h2]
   have b2 : decide (y < x) = false := by simpa using h2
   go_enter Try.func73, Try.ntmps73
   go_wp2_with (go_at_call 104; refine (nan_any _ _).mono ?_; rintro e w' ⟨rfl, rfl⟩)
   all_goals go_ret
   all_goals exact ⟨rfl, rfl⟩
set_option maxHeartbeats 4000000 in
set_option maxRecDepth 100000 in
theorem cmpH_any (x y : HV) (w : World) : Calls Try.prog 72 #[.agg #[.int .i64 x.1.f0, .int .i64 x.1.f1, .int .i64 x.1.f2, .bool x.1.f3, .slice x.2.1 x.2.2.1 x.2.2.2], .agg #[.int .i64 y.1.f0, .int .i64 y.1.f1, .int .i64 y.1.f2, .bool y.1.f3, .slice y.2.1 y.2.2.1 y.2.2.2]] w fun e w' => e = .returned (.int .i64 (cmpI x.1.f2 y.1.f2)) ∧ Below w.heap.size w w' := by
 have hu41 := Try.underlying41
 obtain ⟨⟨x0, x1, x2, x3, x4⟩, xa, xn, xc⟩ := x
 obtain ⟨⟨y0, y1, y2, y3, y4⟩, ya, yn, yc⟩ := y
 go_enter Try.func72, Try.ntmps72
 go_wp2_with (first | ((with_reducible refine gate_dst (N := 2) rfl ?_); refine bx 2 #[.int .i64 x0, .int .i64 x1, .int .i64 x2, .bool x3, .slice xa xn xc] 41 ?_; intro g2 hg2 w2 hx2 hb2; have HB2 := Aside0.mk hb2; clear hb2 hg2) | ((with_reducible refine gate_dst (N := 3) rfl ?_); refine bx 3 #[.int .i64 y0, .int .i64 y1, .int .i64 y2, .bool y3, .slice ya yn yc] 41 ?_; intro g3 hg3 w3 hx3 hb3; replace hx2 := blk_below hx2 hb3; have HB3 := Aside0.mk (below_step HB2.out hb3); clear hb3 hg3; have f0 : w3.cell? ⟨g2, 2, none⟩ = some (.int .i64 x2) := (blk_cell hx2 2).trans rfl; have f1 : w3.cell? ⟨g3, 2, none⟩ = some (.int .i64 y2) := (blk_cell hx3 2).trans rfl) | (go_at_call 73; refine (cmp_any _ _ _).mono ?_; rintro e w' ⟨rfl, rfl⟩))
 all_goals go_ret
 all_goals exact ⟨rfl, HB3.out⟩
end Go.Proofs.Ytckhjehibjdjdaa.P
namespace Go.Proofs.Ytckhjehibjdjdaa.P
open Go.RowKit Go.Shelf Go.Proofs.YtckhjehibjdjdaaW.PrintWords Go.Proofs.YtckhjehibjdjdaaW.PrintLast Go.Proofs.YtckhjehibjdjdaaW.PrintMore
attribute [local go_sem] Oper.semAt_some
set_option linter.unusedVariables false
set_option linter.unusedSimpArgs false
section
variable {α : Type} (key : α → Int)
def insK (x : α) : List α → List α
 | [] => [x]
 | y :: l => if key x < key y then x :: y :: l else y :: insK x l
def isort (l : List α) : List α := l.foldl (fun acc x => insK key x acc) []
theorem insK_at (x : α) : ∀ (L : List α) (j : Nat), (∀ y ∈ L.take j, ¬ key x < key y) → (∀ y ∈ L.drop j, key x < key y) → insK key x L = L.take j ++ x :: L.drop j
 | [], j, _, _ => by simp [insK]
 | y :: L, 0, _, h2 => by
  have := h2 y (by simp)
  simp [insK, this]
 | y :: L, j + 1, h1, h2 => by
  have := h1 y (by simp)
  rw [insK, if_neg this, insK_at x L j (fun z hz => h1 z (by simp [hz])) (fun z hz => h2 z (by simpa using hz))]
  simp
theorem insK_perm (x : α) : ∀ L : List α, (insK key x L).Perm (x :: L)
 | [] => List.Perm.refl _
 | y :: L => by
  rw [insK]
  split
  ·exact List.Perm.refl _
  ·exact ((insK_perm x L).cons y).trans (List.Perm.swap x y L)
theorem insK_sorted (x : α) : ∀ L : List α, L.Pairwise (fun a b => key a ≤ key b) → (insK key x L).Pairwise (fun a b => key a ≤ key b)
 | [], _ => by simp [insK]
 | y :: L, h => by
  rw [insK]
  rw [List.pairwise_cons] at h
  split
  ·rename_i hlt
   rw [List.pairwise_cons, List.pairwise_cons]
   refine ⟨fun z hz => ?_, h⟩
   rcases List.mem_cons.1 hz with rfl | hz
   ·omega
   ·have := h.1 z hz; omega
  ·rename_i hlt
   rw [List.pairwise_cons]
   refine ⟨fun z hz => ?_, insK_sorted x L h.2⟩
   rcases List.mem_cons.1 ((insK_perm key x L).mem_iff.1 hz) with rfl | hz
   ·omega
   ·exact h.1 z hz
theorem isort_snoc (l : List α) (x : α) : isort key (l ++ [x]) = insK key x (isort key l) := by simp [isort, List.foldl_append]
theorem isort_take (l : List α) (i : Nat) (h : i < l.length) : isort key (l.take (i + 1)) = insK key l[i] (isort key (l.take i)) := by
 rw [List.take_succ_eq_append_getElem h, isort_snoc]
theorem isort_fold_perm : ∀ (l acc : List α), (l.foldl (fun acc x => insK key x acc) acc).Perm (acc ++ l)
 | [], acc => by simp
 | x :: l, acc => by
  refine (isort_fold_perm l _).trans ?_
  refine ((insK_perm key x acc).append_right l).trans ?_
  exact (List.perm_middle).symm
theorem isort_perm (l : List α) : (isort key l).Perm l := by have h := isort_fold_perm key l []; rw [List.nil_append] at h; exact h
theorem isort_fold_sorted : ∀ (l acc : List α), acc.Pairwise (fun a b => key a ≤ key b) → (l.foldl (fun acc x => insK key x acc) acc).Pairwise (fun a b => key a ≤ key b)
 | [], acc, h => h
 | x :: l, acc, h => isort_fold_sorted l _ (insK_sorted key x acc h)
theorem isort_sorted (l : List α) : (isort key l).Pairwise (fun a b => key a ≤ key b) := isort_fold_sorted key l [] List.Pairwise.nil
theorem isort_map {β : Type} (f : β → α) : ∀ (l acc : List β), (l.foldl (fun acc x => insK (fun b => key (f b)) x acc) acc).map f = (l.map f).foldl (fun acc x => insK key x acc) (acc.map f)
 | [], acc => rfl
 | x :: l, acc => by
  have e : ∀ (L : List β), (insK (fun b => key (f b)) x L).map f = insK key (f x) (L.map f) := by
   intro L
   induction L with
   | nil => rfl
   | cons y L ih => rw [insK, List.map_cons, insK]; split <;> simp [ih]
  rw [List.foldl_cons, isort_map f l, e]; rfl
end
def zAt {α : Type} (L : List α) (x : α) (rest : List α) (j : Nat) : List α := L.take j ++ x :: (L.drop j ++ rest)
theorem zAt_step {α : Type} (L : List α) (x : α) (rest : List α) (m : Nat) (h : m < L.length) : ((zAt L x rest (m + 1)).set (m + 1) L[m]).set m x = zAt L x rest m := by
 unfold zAt
 rw [List.take_succ_eq_append_getElem h, List.drop_eq_getElem_cons h]
 have hl : (L.take m).length = m := by rw [List.length_take]; omega
 rw [List.append_assoc, List.set_append_right _ _ (by omega), hl, show m + 1 - m = 1 by omega]
 simp only [List.cons_append, List.nil_append, List.set_cons_succ, List.set_cons_zero]
 rw [List.set_append_right _ _ (by omega), hl, Nat.sub_self]
 rfl
theorem zAt_get {α : Type} (L : List α) (x : α) (rest : List α) (j : Nat) (h : j ≤ L.length) : (zAt L x rest j)[j]? = some x := by
 unfold zAt
 have hl : (L.take j).length = j := by rw [List.length_take]; omega
 rw [List.getElem?_append_right (by omega), hl]; simp
theorem zAt_get1 {α : Type} (L : List α) (x : α) (rest : List α) (m : Nat) (h : m < L.length) : (zAt L x rest (m + 1))[m]? = some L[m] := by
 unfold zAt
 rw [List.getElem?_append_left (by rw [List.length_take]; omega), List.getElem?_take, if_pos (by omega), List.getElem?_eq_getElem h]
theorem zAt_len {α : Type} (L : List α) (x : α) (rest : List α) (j : Nat) (h : j ≤ L.length) : (zAt L x rest j).length = L.length + 1 + rest.length := by
 unfold zAt; simp; omega
def hkey (x : HV) : Int := x.1.f2
theorem at_kh {W : World} {base g n cap : Nat} {ok : Nat → Prop} {xs : List (HV)} (h : Kd.R kh 41 W base ok (.slice (some ⟨g, 0, none⟩) n cap) xs) (i : Nat) (x : HV) (hx : xs[i]? = some x) :
  W.cell? ⟨g, i * 5, none⟩ = some (.int .i64 x.1.f0) ∧ W.cell? ⟨g, i * 5 + 1, none⟩ = some (.int .i64 x.1.f1) ∧ W.cell? ⟨g, i * 5 + 2, none⟩ = some (.int .i64 x.1.f2) ∧ W.cell? ⟨g, i * 5 + 3, none⟩ = some (.bool x.1.f3) ∧ W.cell? ⟨g, i * 5 + 4, none⟩ = some (.slice x.2.1 x.2.2.1 x.2.2.2) := by
 obtain ⟨hn, _, hC⟩ := Kd.R_reads' h
 have hi : i < xs.length := (List.getElem?_eq_some_iff.1 hx).1
 obtain ⟨ad, e0, hc⟩ := hC.2.2 (by omega)
 cases e0
 obtain ⟨c, hl, rfl, hcell⟩ := hc i x hx
 have hsz : kh.sz = 5 := rfl
 rw [hsz] at hcell
 simp only [add_plain, Nat.zero_add] at hcell
 exact ⟨hcell 0 _ rfl, hcell 1 _ rfl, hcell 2 _ rfl, hcell 3 _ rfl, hcell 4 _ rfl⟩
theorem ownh {W : World} {base : Nat} {ok : Nat → Prop} {v : Value} {out : List (HV)} (h : Kd.R kh 41 W base ok v out) (hn : 0 < out.length) :
  ∃ g cap cur, v = .slice (some ⟨g, 0, none⟩) out.length cap ∧ ok g ∧ base ≤ g ∧ W.heap[g]? = some (.cells cur 41 (0, 0)) := by
 obtain ⟨hok, inner, ⟨_, hv⟩, _⟩ := h
 rcases hv with ⟨_, h0⟩ | ⟨g, cap, cur, rfl, hg, hh, _⟩
 ·omega
 ·exact ⟨g, cap, cur, rfl, hok g (by simp [Value.ownBlock]), hg, hh⟩
theorem put_kh {W : World} {base g n cap : Nat} {ok : Nat → Prop} {xs : List (HV)} (h : Kd.R kh 41 W base ok (.slice (some ⟨g, 0, none⟩) n cap) xs) (i : Nat) (hi : i < n) (x : HV) :
  Kd.R kh 41 (W.setCells g (i * 5) (hc x)) base ok (.slice (some ⟨g, 0, none⟩) n cap) (xs.set i x) ∧ W.grownBy (W.setCells g (i * 5) (hc x)) (some g) := by
 obtain ⟨hn, _, hC⟩ := Kd.R_reads' h
 have hsz : kh.sz = 5 := rfl
 obtain ⟨c0, c1, c2, c3, c4⟩ := at_kh h i xs[i] (List.getElem?_eq_getElem (by omega))
 have := Kd.R_seg h (i : Int) (by omega) (by omega) (c := hc xs[i]) (seg := hc x) (j := 0) rfl (by
  intro j u hu
  rw [Int.toNat_natCast, hsz]
  match j, hu with
  | 0, hu => cases hu; exact c0
  | 1, hu => cases hu; exact c1
  | 2, hu => cases hu; exact c2
  | 3, hu => cases hu; exact c3
  | 4, hu => cases hu; exact c4
  | j + 5, hu => simp [hc] at hu) (by rw [hsz]; simp [hc]) (x' := x) (okp := fun _ => False) (by show _ = hc x; simp [hc]) (fun _ h => h.elim)
 rw [Int.toNat_natCast, hsz, Nat.add_zero] at this
 exact this
end Go.Proofs.Ytckhjehibjdjdaa.P
namespace Go.Proofs.Ytckhjehibjdjdaa.P
open Go.RowKit Go.Shelf Go.Proofs.YtckhjehibjdjdaaW.PrintWords Go.Proofs.YtckhjehibjdjdaaW.PrintLast Go.Proofs.YtckhjehibjdjdaaW.PrintMore
attribute [local go_sem] Oper.semAt_some
set_option linter.unusedVariables false
set_option linter.unusedSimpArgs false
theorem grown_refl (w : World) (r : Option Nat) : w.grownBy w r := ⟨rfl, rfl, rfl, Nat.le_refl _, fun _ _ _ => rfl⟩
theorem grown_below {w W W' : World} {g : Nat} (h : w.grownBy W (some g)) (hb : Below W.heap.size W W') : w.grownBy W' (some g) :=
 ⟨hb.os.trans h.os, hb.tape.trans h.tape, hb.output.trans h.output, Nat.le_trans h.size hb.size, fun k hk hne => (hb.block k (Nat.lt_of_lt_of_le hk h.size)).trans (h.block k hk hne)⟩
theorem grown_grown {w W W' : World} {g : Nat} (h : w.grownBy W (some g)) (hb : W.grownBy W' (some g)) : w.grownBy W' (some g) :=
 ⟨hb.os.trans h.os, hb.tape.trans h.tape, hb.output.trans h.output, Nat.le_trans h.size hb.size, fun k hk hne => (hb.block k (Nat.lt_of_lt_of_le hk h.size) hne).trans (h.block k hk hne)⟩
set_option maxHeartbeats 8000000 in
set_option maxRecDepth 100000 in
theorem insert_any (g n cap base b : Nat) (ok : Nat → Prop) (xs : List (HV)) (w : World) (hr : Kd.R kh 41 w base ok (.slice (some ⟨g, 0, none⟩) n cap) xs) (hb : b ≤ n) (hn : n ≤ 4611686018427387904) (h2 : 2 ≤ b) (hok : ∀ k, ok k → k < w.heap.size) :
  Calls Try.prog 120 #[.slice (some ⟨g, 0, none⟩) n cap, .int .i64 0, .int .i64 b, .func (.func 72) #[] #[]] w fun e w' => e = .returned (.tuple #[]) ∧ Kd.R kh 41 w' base ok (.slice (some ⟨g, 0, none⟩) n cap) (isort hkey (xs.take b) ++ xs.drop b) ∧ w.grownBy w' (some g) := by
 have hu41 := Try.underlying41
 have HR := Aside0.mk hr
 have hxl : xs.length = n := (Kd.R_reads' hr).1.symm
 have hgb := (Kd.R_base hr g (by simp [Value.ownBlock]))
 clear hr
 go_enter Try.func120, Try.ntmps120
 go_wp2
 go_loopw [8] (fun v8 wr => ∃ i : Nat, 1 ≤ i ∧ i ≤ b ∧ v8 = .int .i64 (i : Int) ∧ Aside0 (Kd.R kh 41 wr base ok (.slice (some ⟨g, 0, none⟩) n cap) (isort hkey (xs.take i) ++ xs.drop i)) ∧ Aside0 (w.grownBy wr (some g))) (fun v8 _ => b - (intOf v8).toNat)
 case atStart => exact ⟨1, Nat.le_refl _, by omega, rfl, ⟨by
  have : isort hkey (xs.take 1) ++ xs.drop 1 = xs := by
   cases xs with
   | nil => simp at hxl; omega
   | cons x xs => simp [isort, insK]
  rw [this]; exact HR.out⟩, ⟨grown_refl _ _⟩⟩
 case round =>
  obtain ⟨i, hi1, hib, rfl, HA, HG⟩ := hrel
  by_cases hlt : i < b
  ·have hlt' : (i : Int) < b := by omega
   have hix : i < xs.length := by omega
   have hLl : (isort hkey (xs.take i)).length = i := by rw [(isort_perm hkey _).length_eq, List.length_take]; omega
   have hz : isort hkey (xs.take i) ++ xs.drop i = zAt (isort hkey (xs.take i)) xs[i] (xs.drop (i + 1)) i := by
    unfold zAt
    have t1 : (isort hkey (xs.take i)).take i = isort hkey (xs.take i) := List.take_of_length_le (by omega)
    have t2 : (isort hkey (xs.take i)).drop i = [] := List.drop_eq_nil_of_le (by omega)
    rw [t1, t2, List.nil_append, List.drop_eq_getElem_cons hix]
   have hstep := isort_take hkey xs i hix
   have hsrt := isort_sorted hkey (xs.take i)
   rw [hz] at HA
   have hrl : (xs.drop (i + 1)).length = xs.length - (i + 1) := List.length_drop
   clear hz
   have HST := Aside0.mk hstep
   clear hstep
   generalize hL : isort hkey (xs.take i) = L at *
   generalize hx : xs[i] = x at *
   generalize hre : xs.drop (i + 1) = rest at *
   have HSRT := Aside0.mk hsrt
   have HRE := Aside0.mk hre
   clear hsrt hL hx hre
   go_wp2
   obtain ⟨wo, hwo⟩ : ∃ wo : World, wo = wr := ⟨_, rfl⟩
   subst hwo
   go_loopg [9] i (fun kq v9 w2 => ∃ j : Nat, j ≤ i ∧ v9 = .int .i64 (j : Int) ∧ Aside0 (kq = j) ∧ Aside0 (∀ y ∈ L.drop j, hkey x < hkey y) ∧ Aside0 (Kd.R kh 41 w2 base ok (.slice (some ⟨g, 0, none⟩) n cap) (zAt L x rest j)) ∧ Aside0 (w.grownBy w2 (some g)))
   case atStart => exact ⟨i, Nat.le_refl _, rfl, ⟨rfl⟩, ⟨fun y hy => by rw [List.drop_eq_nil_of_le (by omega)] at hy; cases hy⟩, HA, HG⟩
   case round =>
    clear HA HG
    obtain ⟨j, hj, rfl, HQ, HD, HA, HG⟩ := hrel
    cases j with
    | zero =>
     have hdone : isort hkey (xs.take (i + 1)) ++ xs.drop (i + 1) = zAt L x rest 0 := by
      rw [HST.out, HRE.out, insK_at hkey x L 0 (by simp) HD.out]
      simp [zAt]
     rw [← hdone] at HA
     clear hdone
     go_wp2
     go_quiet (fail)
     go_wp2
     go_roundw
     case rel => exact ⟨i + 1, by omega, by omega, by go_num, HA, ⟨grown_below HG.out (pw_below_drewN (Below.refl _ _) _)⟩⟩
     case measure => simp [intOf]; omega
    | succ m =>
     have hm : m < L.length := by omega
     have hgx := at_kh HA.out (m + 1) x (zAt_get L x rest (m + 1) (by omega))
     have hgy := at_kh HA.out m L[m] (zAt_get1 L x rest m hm)
     obtain ⟨x0, x1, x2, x3, x4⟩ := hgx
     obtain ⟨y0, y1, y2, y3, y4⟩ := hgy
     have hzs := zAt_step L x rest m hm
     have hy1 := zAt_get1 L x rest m hm
     have hd := List.drop_eq_getElem_cons hm
     have ht := List.take_succ_eq_append_getElem hm
     generalize L[m] = y at *
     have HZS := Aside0.mk hzs
     have HY1 := Aside0.mk hy1
     have HDR := Aside0.mk hd
     have HTK := Aside0.mk ht
     clear hzs hd ht hy1
     have e1 : IntKind.i64.wrap (m : Int) = (m : Int) := by rw [IntKind.wrap_i64]; omega
     have i0 : (0 : Int) ≤ (m : Int) + 1 := by omega
     have i1 : (0 : Int) < (m : Int) + 1 := by omega
     have i2 : (m : Int) + 1 < n := by omega
     have i3 : (m : Int) < n := by omega
     have i4 : ((m : Int) + 1).toNat = m + 1 := by omega
     go_wp2
     go_still_tail 14, (by kernel_rfl)
     change wpList _ _ _ _ _ wr.drew
     have hAd := Kd.R_drew HA.out
     have hGd := grown_drew HG.out
     clear x0 x1 x2 x3 x4 y0 y1 y2 y3 y4
     generalize wr.drew = w3 at *
     have HA3 := Aside0.mk hAd
     have HG3 := Aside0.mk hGd
     clear hAd hGd HA HG
     by_cases hlt2 : hkey x < hkey y
     ·have hcmp : cmpI x.1.f2 y.1.f2 = -1 := by unfold hkey at hlt2; unfold cmpI; rw [if_pos hlt2]
      have HLT := Aside0.mk hlt2
      clear hlt2
      go_wp2_with (go_at_call 72; refine (cmpH_any x y _).mono ?_; rintro e w4 ⟨rfl, hb4⟩; rw [hcmp]; have HA4 := Aside0.mk (Kd.R_below HA3.out hb4); have HG4 := Aside0.mk (grown_below HG3.out hb4); clear hb4)
      have hgx := at_kh HA4.out (m + 1) x (zAt_get L x rest (m + 1) (by omega))
      have hgy := at_kh HA4.out m y HY1.out
      obtain ⟨x0, x1, x2, x3, x4⟩ := hgx
      obtain ⟨y0, y1, y2, y3, y4⟩ := hgy
      obtain ⟨g', cap', cur, hv, _, _, hh⟩ := ownh HA4.out (by rw [zAt_len _ _ _ _ (by omega)]; omega)
      injection hv with ha hn1 hc1
      injection ha with ha
      injection ha with ha
      subst ha
      clear hn1 hc1
      have z0 := blk_frozen hh ((m + 1) * 5)
      have z1 := blk_frozen hh ((m + 1) * 5 + 1)
      have z2 := blk_frozen hh ((m + 1) * 5 + 2)
      have z3 := blk_frozen hh ((m + 1) * 5 + 3)
      have z4 := blk_frozen hh ((m + 1) * 5 + 4)
      have v0 := blk_frozen hh (m * 5)
      have v1 := blk_frozen hh (m * 5 + 1)
      have v2 := blk_frozen hh (m * 5 + 2)
      have v3 := blk_frozen hh (m * 5 + 3)
      have v4 := blk_frozen hh (m * 5 + 4)
      clear hh
      have p1 := put_kh HA4.out (m + 1) (by omega) y
      have p2 := put_kh p1.1 m (by omega) x
      have hR5 := Kd.R_drew p2.1
      have hG5 := grown_drew (grown_grown (grown_grown HG4.out p1.2) p2.2)
      rw [HZS.out] at hR5
      simp only [hc, World.setCells, Nat.add_assoc, Nat.reduceAdd] at hR5 hG5
      have HR5 := Aside0.mk hR5
      have HG5 := Aside0.mk hG5
      clear hR5 hG5 p1 p2
      go_region
      revert HR5 HG5
      generalize World.drew _ = w5
      intro HR5 HG5
      go_wp2
      go_roundg m
      case rel => exact ⟨m, by omega, rfl, ⟨rfl⟩, ⟨fun z hz => by
       rw [HDR.out] at hz
       rcases List.mem_cons.1 hz with rfl | hz
       ·exact HLT.out
       ·exact HD.out z hz⟩, HR5, HG5⟩
      case measure => have := HQ.out; omega
     ·have hcmp : decide (cmpI x.1.f2 y.1.f2 < 0) = false := by
       unfold hkey at hlt2; unfold cmpI; rw [if_neg hlt2]; split <;> simp
      have HLT := Aside0.mk hlt2
      clear hlt2
      go_wp2_with (go_at_call 72; refine (cmpH_any x y _).mono ?_; rintro e w4 ⟨rfl, hb4⟩; have HA4 := Aside0.mk (Kd.R_below HA3.out hb4); have HG4 := Aside0.mk (grown_below HG3.out hb4); clear hb4)
      have hdone : isort hkey (xs.take (i + 1)) ++ xs.drop (i + 1) = zAt L x rest (m + 1) := by
       rw [HST.out, HRE.out, insK_at hkey x L (m + 1) (fun z hz => by
        rw [HTK.out] at hz
        have hp := HSRT.out
        rw [← List.take_append_drop m L, List.pairwise_append] at hp
        rcases List.mem_append.1 hz with hz | hz
        ·have := hp.2.2 z hz y (by rw [HDR.out]; simp)
         have := HLT.out
         omega
        ·obtain rfl := List.mem_singleton.1 hz
         have := HLT.out
         omega) HD.out]
       simp [zAt]
      rw [← hdone] at HA4
      clear hdone
      go_roundw
      case rel => exact ⟨i + 1, by omega, by omega, by go_num, HA4, HG4⟩
      case measure => simp [intOf]; omega
  ·have hlt' : ¬ (i : Int) < b := by omega
   obtain rfl : i = b := by omega
   go_wp2
   go_end0
   exact ⟨rfl, HA.out, HG.out⟩
end Go.Proofs.Ytckhjehibjdjdaa.P
namespace Go.Proofs.Ytckhjehibjdjdaa.P
open Go.RowKit Go.Shelf Go.Proofs.YtckhjehibjdjdaaW.PrintWords Go.Proofs.YtckhjehibjdjdaaW.PrintLast Go.Proofs.YtckhjehibjdjdaaW.PrintMore
attribute [local go_sem] Oper.semAt_some
set_option linter.unusedVariables false
set_option linter.unusedSimpArgs false
set_option maxHeartbeats 4000000 in
set_option maxRecDepth 100000 in
theorem insert_none (v : Value) (a b : Nat) (hb : b ≤ a + 1) (ha : a ≤ 4611686018427387904) (w : World) :
  Calls Try.prog 120 #[v, .int .i64 a, .int .i64 b, .func (.func 72) #[] #[]] w fun e w' => e = .returned (.tuple #[]) ∧ w' = w := by
 have h1 : IntKind.i64.wrap ((a : Int) + 1) = (a : Int) + 1 := by rw [IntKind.wrap_i64]; omega
 have h2 : ¬ ((a : Int) + 1 < b) := by omega
 go_enter Try.func120, Try.ntmps120
 go_wp2
 refine wp_loop_rounds 1 ?_
 rw [rounds_succ]
 go_wp2
 go_end0
 exact ⟨rfl, rfl⟩
theorem isort_one {α : Type} (key : α → Int) (xs : List α) (h : xs.length ≤ 1) : isort key xs = xs := by
 match xs, h with
 | [], _ => rfl
 | [x], _ => rfl
 | _ :: _ :: _, h => simp at h
theorem insert_all (A : Option Addr) (n cap base b : Nat) (ok : Nat → Prop) (xs : List HV) (w : World) (hr : Kd.R kh 41 w base ok (.slice A n cap) xs) (hb : b = n) (hn : n ≤ 4611686018427387904) (hok : ∀ k, ok k → k < w.heap.size) (g : Nat) (hg : ∀ a, A = some a → a.block = g) :
  Calls Try.prog 120 #[.slice A n cap, .int .i64 0, .int .i64 b, .func (.func 72) #[] #[]] w fun e w' => e = .returned (.tuple #[]) ∧ Kd.R kh 41 w' base ok (.slice A n cap) (isort hkey xs) ∧ w.grownBy w' (some g) := by
 subst hb
 have hl : xs.length = b := (Kd.R_reads' hr).1.symm
 by_cases h2 : 2 ≤ b
 ·obtain ⟨g', cap', cur, hv, _, _, _⟩ := ownh hr (by omega)
  injection hv with ha hn1 hc1
  subst ha
  obtain rfl : g' = g := hg _ rfl
  have := insert_any g' b cap base b ok xs w hr (Nat.le_refl _) hn h2 hok
  rw [List.take_of_length_le (by omega), List.drop_eq_nil_of_le (by omega), List.append_nil] at this
  exact this
 ·refine (insert_none (.slice A b cap) 0 b (by omega) (by omega) w).mono ?_
  rintro e w' ⟨rfl, rfl⟩
  rw [isort_one hkey xs (by omega)]
  exact ⟨rfl, hr, grown_refl _ _⟩
set_option maxHeartbeats 8000000 in
set_option maxRecDepth 100000 in
theorem stable_any (A : Option Addr) (n cap base : Nat) (ok : Nat → Prop) (xs : List HV) (w : World) (hr : Kd.R kh 41 w base ok (.slice A n cap) xs) (hn : n ≤ 20) (hok : ∀ k, ok k → k < w.heap.size) (g : Nat) (hg : ∀ a, A = some a → a.block = g) :
  Calls Try.prog 103 #[.slice A n cap, .int .i64 n, .func (.func 72) #[] #[]] w fun e w' => e = .returned (.tuple #[]) ∧ Kd.R kh 41 w' base ok (.slice A n cap) (isort hkey xs) ∧ w.grownBy w' (some g) := by
 have HI := Aside0.mk (insert_all A n cap base n ok xs w hr rfl (by omega) hok g hg)
 clear hr hok hg
 by_cases h20 : n = 20
 ·subst h20
  go_enter Try.func103, Try.ntmps103
  go_wp2
  refine wp_loop_rounds 2 ?_
  rw [rounds_succ]
  go_wp2_with (go_at_call 120; refine HI.out.mono ?_; rintro e w1 ⟨rfl, hr1, hg1⟩; have HR1 := Aside0.mk hr1; have HG1 := Aside0.mk hg1; clear hr1 hg1)
  rw [rounds_succ]
  go_wp2_with (go_at_call 120; refine (insert_none _ 20 20 (by omega) (by omega) _).mono ?_; rintro e w' ⟨rfl, rfl⟩)
  refine wp_loop_rounds 1 ?_
  rw [rounds_succ]
  go_wp2
  go_end0
  exact ⟨rfl, HR1.out, HG1.out⟩
 ·have b1 : ¬ ((20 : Int) ≤ n) := by omega
  have b2 : ¬ ((20 : Int) < n) := by omega
  go_enter Try.func103, Try.ntmps103
  go_wp2
  refine wp_loop_rounds 1 ?_
  rw [rounds_succ]
  go_wp2_with (go_at_call 120; refine HI.out.mono ?_; rintro e w1 ⟨rfl, hr1, hg1⟩; have HR1 := Aside0.mk hr1; have HG1 := Aside0.mk hg1; clear hr1 hg1)
  refine wp_loop_rounds 1 ?_
  rw [rounds_succ]
  go_wp2
  go_end0
  exact ⟨rfl, HR1.out, HG1.out⟩
set_option maxHeartbeats 8000000 in
set_option maxRecDepth 100000 in
theorem sort_any (A : Option Addr) (n cap base : Nat) (ok : Nat → Prop) (xs : List HV) (w : World) (hr : Kd.R kh 41 w base ok (.slice A n cap) xs) (hn : n ≤ 20) (hok : ∀ k, ok k → k < w.heap.size) (g : Nat) (hg : ∀ a, A = some a → a.block = g) :
  Calls Try.prog 71 #[.slice A n cap, .func (.func 72) #[] #[]] w fun e w' => e = .returned (.tuple #[]) ∧ Kd.R kh 41 w' base ok (.slice A n cap) (isort hkey xs) ∧ w.grownBy w' (some g) := by
 have HI := Aside0.mk (stable_any A n cap base ok xs w hr hn hok g hg)
 clear hr hok hg
 go_enter Try.func71, Try.ntmps71
 go_wp2_with (go_at_call 103; refine HI.out.mono ?_; rintro e w1 ⟨rfl, hr1, hg1⟩; have HR1 := Aside0.mk hr1; have HG1 := Aside0.mk hg1; clear hr1 hg1)
 go_end0
 exact ⟨rfl, HR1.out, HG1.out⟩
end Go.Proofs.Ytckhjehibjdjdaa.P
namespace Go.Proofs.Ytckhjehibjdjdaa.P
open Go.RowKit Go.Shelf Go.Proofs.YtckhjehibjdjdaaW.PrintWords Go.Proofs.YtckhjehibjdjdaaW.PrintLast Go.Proofs.YtckhjehibjdjdaaW.PrintMore
attribute [local go_sem] Oper.semAt_some
set_option linter.unusedVariables false
set_option linter.unusedSimpArgs false
def SlotsOk (W : World) (ok : Nat → Prop) (x : HV) : Prop := x.2.2.1 = x.1.f4.length ∧ x.1.f4.length ≤ x.2.2.2 ∧ Kd.F k52 W ok x.2.1 x.1.f4.length x.1.f4
theorem holds_of {W : World} {A : Option Addr} {ends : List S41} (h : Kd.C k41 W A ends.length ends) :
  ∃ ps : List HV, ps.map (fun x => x.1) = ends ∧ Kd.C kh W A ps.length ps ∧ ∀ x ∈ ps, SlotsOk W (fun k => k < W.heap.size) x := by
 rcases Nat.eq_zero_or_pos ends.length with h0 | h0
 ·have : ends = [] := List.eq_nil_of_length_eq_zero h0
  subst this
  exact ⟨[], rfl, ⟨rfl, by simp, fun h => absurd h (Nat.lt_irrefl 0)⟩, fun x hx => by cases hx⟩
 obtain ⟨_, hmax, hr⟩ := h
 obtain ⟨ad, rfl, hcc⟩ := hr h0
 have hex : ∀ j : Fin ends.length, ∃ p : Option Addr × Nat, (∀ i u, (hc (ends[j], p.1, (ends[j]).f4.length, p.2))[i]? = some u → W.cell? (ad.add (j * 5 + i)) = some u) ∧ (ends[j]).f4.length ≤ p.2 ∧ k52.C W p.1 (ends[j]).f4.length (ends[j]).f4 := by
  intro j
  obtain ⟨c, hl, hk, hcell⟩ := hcc j.val ends[j] (List.getElem?_eq_getElem j.isLt)
  obtain ⟨A4, c4, rfl, l4, g4⟩ := k41_open hk
  exact ⟨(A4, c4), hcell, l4, g4⟩
 obtain ⟨f, hf⟩ := Classical.axiomOfChoice hex
 refine ⟨List.ofFn fun j : Fin ends.length => (ends[j], (f j).1, (ends[j]).f4.length, (f j).2), ?_, ⟨rfl, by rw [List.length_ofFn]; exact hmax, fun _ => ⟨ad, rfl, fun j p hj => ?_⟩⟩, fun x hx => ?_⟩
 ·apply List.ext_getElem
  ·simp
  ·intro i h1 h2; simp
 ·have hj' : j < ends.length := by have := (List.getElem?_eq_some_iff.1 hj).1; rwa [List.length_ofFn] at this
  rw [List.getElem?_eq_getElem (by rw [List.length_ofFn]; exact hj'), List.getElem_ofFn] at hj
  cases hj
  exact ⟨_, rfl, rfl, (hf ⟨j, hj'⟩).1⟩
 ·obtain ⟨i, hi, rfl⟩ := List.mem_iff_getElem.1 hx
  rw [List.getElem_ofFn]
  rw [List.length_ofFn] at hi
  exact ⟨rfl, (hf ⟨i, hi⟩).2.1, Kd.C_F k52_heap (hf ⟨i, hi⟩).2.2⟩
set_option maxHeartbeats 4000000 in
set_option maxRecDepth 100000 in
theorem clone70_any (A0 : Option Addr) (c0 : Nat) (l0 : List HV) (w : World) (hr0 : Kd.C kh w A0 l0.length l0) (hl : l0.length < 1000000) :
  Calls Try.prog 70 #[.slice A0 l0.length c0] w fun e w' => ∃ v0_ : Value, e = .returned v0_ ∧ Kd.R kh 41 w' w.heap.size (fun _ => True) v0_ l0 ∧ Below w.heap.size w w' := by
 have hu25 := Try.underlying25
 have q25 : ∀ (w : World) (a : Option Addr) (n c n' c' : Nat), (binOp .eql 25 (.slice a n c) (.slice none n' c')).run Try.prog w = .ok (.bool a.isNone) w := fun w a n c n' c' => Lib.run_eql_slice_nil w _ _ a n c n' c' Try.underlying25
 have HR := Aside0.mk hr0
 have HL := Aside0.mk hl
 cases A0 with
 | none =>
  have h0 : l0 = [] := by
   rcases Nat.eq_zero_or_pos l0.length with h | h
   ·exact List.eq_nil_of_length_eq_zero h
   ·obtain ⟨ad, hA, _⟩ := hr0.2.2 h
    cases hA
  subst h0
  clear hr0 hl
  go_enter Try.func70, Try.ntmps70
  go_wp2
  all_goals go_ret
  all_goals exact ⟨_, rfl, Kd.R_nil _ _ _ _ _, Below.refl _ _⟩
 | some ad =>
  clear hr0 hl
  go_enter Try.func70, Try.ntmps70
  go_wp2_with (first | ((with_reducible refine gate_dst (N := 5) rfl ?_); refine Kd.R_lit kh _ 41 ?hg (N := 5) ?hd (xs := ([] : List HV)) (inner := []) (ok := fun _ => True) (okp := fun _ => True) ?hr ?hp (fun _ hk => hk) trivial (Below.refl _ _) (Nat.le_refl _) (by simp) ?_; (case hd => rfl); (case hg => rfl); (case hr => first | (go_simp; done) | (go_simp; rfl)); (case hp => exact (Reps.none _ _)); intro v5 w5 ho5 hb hg_ hnew_; have HO5 := Aside0.mk ho5; have HB5 := Aside0.mk hb; clear hg_ hnew_ ho5 hb) | (refine Kd.R_append_rows kh (w0 := w) w.heap.size rfl (.tmp 5) (.tmp 6) 25 41 (.agg #[(.int .i64 0), (.int .i64 0), (.int .i64 0), (.bool false), (.slice none 0 0)]) 56 rfl Try.underlying25 info41 rfl (by decide) (by omega) v5 [] l0 _ _ _ (fun _ => True) (fun _ => False) rfl rfl HO5.out (Kd.C_below HR.out HB5.out) (fun _ _ h => h) (fun _ h => h.elim) (fun _ _ => trivial) HB5.out (below_size HB5.out) (by have := HL.out; simp; omega) ?_; intro v7 w7 ho hb hg hat; have HO7 := Aside0.mk ho; have HB7 := Aside0.mk hb; clear ho hb hg hat))
  all_goals go_ret
  all_goals exact ⟨_, rfl, HO7.out, HB7.out⟩
theorem clone70_n (A0 : Option Addr) (c0 n : Nat) (l0 : List HV) (w : World) (hn : l0.length = n) (hr0 : Kd.C kh w A0 l0.length l0) (hl : l0.length < 1000000) :
  Calls Try.prog 70 #[.slice A0 n c0] w fun e w' => ∃ v0_ : Value, e = .returned v0_ ∧ Kd.R kh 41 w' w.heap.size (fun _ => True) v0_ l0 ∧ Below w.heap.size w w' := by
 subst hn
 exact clone70_any A0 c0 l0 w hr0 hl
def blkOf (A : Option Addr) (z : Nat) : Nat := match A with | some a => a.block | none => z
theorem sort_n (A : Option Addr) (n cap base : Nat) (xs : List HV) (w : World) (hr : Kd.R kh 41 w base (fun _ => True) (.slice A n cap) xs) (hn : n ≤ 20) :
  Calls Try.prog 71 #[.slice A n cap, .func (.func 72) #[] #[]] w fun e w' => e = .returned (.tuple #[]) ∧ Kd.R kh 41 w' base (fun k => base ≤ k ∧ k < w.heap.size) (.slice A n cap) (isort hkey xs) ∧ w.grownBy w' (some (blkOf A w.heap.size)) :=
 sort_any A n cap base _ xs w (Kd.R_mono (Kd.R_bound hr) (fun k hk => ⟨hk.2.1, hk.2.2.1⟩)) hn (fun k hk => hk.2) (blkOf A w.heap.size) (fun a ha => by rw [ha]; rfl)
theorem blkOf_base {A : Option Addr} {n cap base : Nat} {xs : List HV} {w : World} {ok : Nat → Prop} (hr : Kd.R kh 41 w base ok (.slice A n cap) xs) (hb : base ≤ w.heap.size) : base ≤ blkOf A w.heap.size := by
 cases A with
 | none => exact hb
 | some a => exact Kd.R_base hr a.block (by simp [Value.ownBlock])
end Go.Proofs.Ytckhjehibjdjdaa.P
namespace Go.Proofs.Ytckhjehibjdjdaa.P
open Go.RowKit Go.Shelf Go.Proofs.YtckhjehibjdjdaaW.PrintWords Go.Proofs.YtckhjehibjdjdaaW.PrintLast Go.Proofs.YtckhjehibjdjdaaW.PrintMore
open Go.Proofs.Ytckhjehibjdjdaa.Bits
attribute [local go_sem] Oper.semAt_some
set_option linter.unusedVariables false
set_option linter.unusedSimpArgs false
structure KP (w W : World) (S : Nat → Prop) : Prop where
 kept : Kept w W S
 os : W.os = w.os
 tape : W.tape = w.tape
 output : W.output = w.output
theorem KP.refl (w : World) (S : Nat → Prop) : KP w w S := ⟨Kept.refl _ _, rfl, rfl, rfl⟩
theorem KP.below {w W W' : World} {S : Nat → Prop} (h : KP w W S) (hb : Below W.heap.size W W') : KP w W' S := ⟨h.kept.below hb, hb.os.trans h.os, hb.tape.trans h.tape, hb.output.trans h.output⟩
theorem KP.set {w W : World} {S : Nat → Prop} (h : KP w W S) {g j : Nat} (hs : S g ∨ w.heap.size ≤ g) (u : Value) : KP w (W.setCell ⟨g, j, none⟩ u) S := ⟨h.kept.setCell hs u, h.os, h.tape, h.output⟩
theorem KP.drew {w W : World} {S : Nat → Prop} (h : KP w W S) : KP w W.drew S := ⟨h.kept.drew, h.os, h.tape, h.output⟩
def addU (same : Bool) (a : Int × Int) (s : S52) : Int × Int := if same = true then (wrap64 (a.1 + popI s.f1), wrap64 (a.2 + s.f2)) else a
def addL (same : Bool) (a : Int × Int) (l : List S52) : Int × Int := l.foldl (addU same) a
theorem addL_step (same : Bool) (a : Int × Int) (l : List S52) (j : Nat) (h : j < l.length) : addL same a (l.take (j + 1)) = addU same (addL same a (l.take j)) (rd_T52 l (j : Int)) := by
 have e : rd_T52 l (j : Int) = l[j] := by simp [rd_T52, List.getD_eq_getElem?_getD, List.getElem?_eq_getElem h]
 unfold addL
 rw [List.take_succ_eq_append_getElem h, List.foldl_append, e]; rfl
def maskOk (s : S52) : Bool := decide (0 ≤ s.f1) && decide (s.f1 < 18446744073709551616)
set_option maxHeartbeats 8000000 in
set_option maxRecDepth 100000 in
theorem end_any (gv gw gl : Nat) (x : HV) (view : List S51) (Av : Option Addr) (cv : Nat) (wq wm s0 s1 s2 s3 lg lc : Int) (v' : List S51) (e' : Int) (w : World)
  (hv : w.heap[gv]? = some (.cells #[.slice Av view.length cv] 22 (0, 0))) (hw : w.heap[gw]? = some (.cells #[.int .i64 wq, .int .i64 wm, .int .i64 s0, .int .i64 s1, .int .i64 s2, .int .i64 s3] 29 (0, 0)))
  (hl : w.heap[gl]? = some (.cells #[.int .i64 lg, .int .i64 lc] 24 (0, 0))) (hvw : gv ≠ gw) (hvl : gv ≠ gl) (hwl : gw ≠ gl)
  (hF : Kd.F k51 w (fun k => k ≠ gv ∧ k ≠ gl) Av view.length view) (hc : view.length ≤ cv) (hS : SlotsOk w (fun k => k ≠ gv ∧ k ≠ gl) x) (hm : ∀ s ∈ x.1.f4, maskOk s = true) (hmore : pack_More.f view x.1.f4 = some (v', e')) :
  Calls Try.prog 74 #[.agg #[.int .i64 x.1.f0, .int .i64 x.1.f1, .int .i64 x.1.f2, .bool x.1.f3, .slice x.2.1 x.2.2.1 x.2.2.2], .pointer (some ⟨gv, 0, none⟩), .pointer (some ⟨gw, 0, none⟩), .pointer (some ⟨gl, 0, none⟩)] w fun e w' => e = .returned (.tuple #[]) ∧ KP w w' (fun k => k = gv ∨ k = gl) ∧
   (∃ Av' cv', w'.heap[gv]? = some (.cells #[.slice Av' v'.length cv'] 22 (0, 0)) ∧ v'.length ≤ cv' ∧ Kd.F k51 w' (fun k => k ≠ gv ∧ k ≠ gl) Av' v'.length v') ∧
   w'.heap[gl]? = some (.cells #[.int .i64 (addL (decide (x.1.f1 = wq)) (lg, lc) x.1.f4).1, .int .i64 (addL (decide (x.1.f1 = wq)) (lg, lc) x.1.f4).2] 24 (0, 0)) := by
 have hu41 := Try.underlying41
 have hu52 := Try.underlying52
 have hu24 := Try.underlying24
 have hu29 := Try.underlying29
 obtain ⟨⟨x0, x1, x2, x3, sl⟩, As, ns, cs⟩ := x
 obtain ⟨hn, hcs, hFs⟩ := hS
 simp only at hn hcs hFs hm hmore ⊢
 subst hn
 obtain ⟨same, hsm0⟩ : ∃ b : Bool, decide (x1 = wq) = b := ⟨_, rfl⟩
 rw [hsm0]
 have HSM := Aside0.mk hsm0
 clear hsm0
 have gvl := blk_lt hv
 have gwl := blk_lt hw
 have gll := blk_lt hl
 have HV0 := Aside0.mk hv
 have HW0 := Aside0.mk hw
 have HL0 := Aside0.mk hl
 have HF := Aside0.mk hF
 have HFS := Aside0.mk hFs
 have HM := Aside0.mk hm
 have HC := Aside0.mk hc
 have HCS := Aside0.mk hcs
 have HMO := Aside0.mk hmore
 clear hv hw hl hF hFs hm hc hcs hmore
 go_enter Try.func74, Try.ntmps74
 go_wp2_with (first | ((with_reducible refine gate_dst (N := 4) rfl ?_); refine bx 4 #[.int .i64 x0, .int .i64 x1, .int .i64 x2, .bool x3, .slice As sl.length cs] 41 ?_; intro g4 hg4 w4 hx4 hb4; have HX4 := Aside0.mk hx4; have HB4 := Aside0.mk hb4; have n1 : gv ≠ g4 := (by omega); have n2 : gw ≠ g4 := (by omega); have n3 : gl ≠ g4 := (by omega); have a0 := (blk_cell (blk_below HV0.out hb4) 0).trans rfl; have a1 : w4.cell? ⟨g4, 4, none⟩ = some (.slice As sl.length cs) := (blk_cell hx4 4).trans rfl; clear hg4 hx4 hb4) | (go_at_call 52; refine (pack_More.calls Av cv view As cs sl v' e' _ (Kd.F_now (Kd.F_below HF.out HB4.out)) HC.out (Kd.F_now (Kd.F_below HFS.out HB4.out)) HCS.out HMO.out).mono ?_; rintro e w5 ⟨v5, rfl, ho5, hb5⟩; have hb45 := below_step HB4.out hb5; obtain ⟨A5, c5, rfl, hc5, _⟩ := Kd.R_reads ho5; have HO5 := Aside0.mk ho5; have HB5 := Aside0.mk hb45; have HX5 := Aside0.mk (blk_below HX4.out hb5); have HC5 := Aside0.mk hc5; have HS4 := Aside0.mk HB4.out.size; have b0 := (blk_cell (blk_below HV0.out hb45) 0).trans rfl; have b1 := blk_frozen (blk_below HV0.out hb45) 0; have b2 : w5.cell? ⟨g4, 4, none⟩ = some (.slice As sl.length cs) := (blk_cell HX5.out 4).trans rfl; clear a0 a1 hb45 ho5 hb5 hc5))
 have HK6 := (KP.below (KP.refl w (fun k => k = gv ∨ k = gl)) HB5.out).set (j := 0) (g := gv) (Or.inl (Or.inl rfl)) (.slice A5 v'.length c5)
 have HV6 : (w5.setCell ⟨gv, 0, none⟩ (.slice A5 v'.length c5)).heap[gv]? = some (.cells #[.slice A5 v'.length c5] 22 (0, 0)) := blk_set (blk_below HV0.out HB5.out) 0 (.slice A5 v'.length c5)
 have HW6 := blk_far (blk_below HW0.out HB5.out) (p := ⟨gv, 0, none⟩) (fun e => hvw e.symm) (.slice A5 v'.length c5)
 have HL6 := blk_far (blk_below HL0.out HB5.out) (p := ⟨gv, 0, none⟩) (fun e => hvl e.symm) (.slice A5 v'.length c5)
 have HX6 := blk_far HX5.out (p := ⟨gv, 0, none⟩) (fun e => n1 e.symm) (.slice A5 v'.length c5)
 have HFS6 := Kd.F_far (Kd.F_below HFS.out HB5.out) (p := ⟨gv, 0, none⟩) (fun k hk => hk.1) (.slice A5 v'.length c5)
 have HF6 := Kd.F_far (Kd.F_mono (ok' := fun k => k ≠ gv ∧ k ≠ gl) (Kd.R_F (Kd.R_bound HO5.out)) (fun k hk => by have := hk.2.1; have := HS4.out; exact ⟨by omega, by omega⟩)) (p := ⟨gv, 0, none⟩) (fun k hk => hk.1) (.slice A5 v'.length c5)
 replace HK6 := Aside0.mk HK6
 replace HV6 := Aside0.mk HV6
 replace HW6 := Aside0.mk HW6
 replace HL6 := Aside0.mk HL6
 replace HX6 := Aside0.mk HX6
 replace HFS6 := Aside0.mk HFS6
 replace HF6 := Aside0.mk HF6
 clear b0 b1 b2 HO5 HB5 HX5 HX4 HB4
 generalize w5.setCell ⟨gv, 0, none⟩ (.slice A5 v'.length c5) = w6 at *
 go_loopw [17] (fun v17 wr => ∃ j : Nat, j ≤ sl.length ∧ v17 = .int .i64 (j : Int) ∧ Aside0 (KP w wr (fun k => k = gv ∨ k = gl)) ∧ Aside0 (wr.heap[gv]? = some (.cells #[.slice A5 v'.length c5] 22 (0, 0))) ∧ Aside0 (wr.heap[gw]? = some (.cells #[.int .i64 wq, .int .i64 wm, .int .i64 s0, .int .i64 s1, .int .i64 s2, .int .i64 s3] 29 (0, 0))) ∧ Aside0 (wr.heap[gl]? = some (.cells #[.int .i64 (addL same (lg, lc) (sl.take j)).1, .int .i64 (addL same (lg, lc) (sl.take j)).2] 24 (0, 0))) ∧ Aside0 (wr.heap[g4]? = some (.cells #[.int .i64 x0, .int .i64 x1, .int .i64 x2, .bool x3, .slice As sl.length cs] 41 (0, 0))) ∧ Aside0 (Kd.F k52 wr (fun k => k ≠ gv ∧ k ≠ gl) As sl.length sl) ∧ Aside0 (Kd.F k51 wr (fun k => k ≠ gv ∧ k ≠ gl) A5 v'.length v')) (fun v17 _ => sl.length - (intOf v17).toNat)
 case atStart => exact ⟨0, Nat.zero_le _, rfl, HK6, HV6, HW6, HL6, HX6, HFS6, HF6⟩
 case round =>
  clear HK6 HV6 HW6 HL6 HX6 HFS6 HF6
  obtain ⟨j, hj, rfl, HK, HV, HW, HL, HX, HFS, HFV⟩ := hrel
  have q0 : wr.cell? ⟨g4, 1, none⟩ = some (.int .i64 x1) := (blk_cell HX.out 1).trans rfl
  have q1 : wr.cell? ⟨gw, 0, none⟩ = some (.int .i64 wq) := (blk_cell HW.out 0).trans rfl
  have hlm := Kd.F_max HFS.out
  by_cases hlt : j < sl.length
  ·have h0 : 0 ≤ (j : Int) := by omega
   have h1' : (j : Int) < sl.length := by omega
   obtain ⟨ad1, ee, y0, y1, y2, y3⟩ := at_T52 (Kd.F_now HFS.out) (j : Int) h0 h1'
   cases ee
   simp only [Int.toNat_natCast] at y0 y1 y2 y3
   have hstep := addL_step same (lg, lc) sl j hlt
   have hmk := HM.out (rd_T52 sl (j : Int)) (by simp [rd_T52, List.getD_eq_getElem?_getD, List.getElem?_eq_getElem hlt])
   generalize rd_T52 sl (j : Int) = s at *
   generalize addL same (lg, lc) (sl.take j) = acc at *
   obtain ⟨⟨t0, t1⟩, sm, sc⟩ := s
   simp only [maskOk, Bool.and_eq_true, decide_eq_true_eq] at hmk
   have HMK := Aside0.mk hmk
   have HST := Aside0.mk hstep
   clear hmk hstep
   simp only at y0 y1 y2 y3
   have hKa := HK.out.below (below_alloc (Below.refl _ _) (.cells #[.int .i64 t0, .int .i64 t1, .int .u64 sm, .int .i64 sc] 52))
   have hVa := blk_alloc HV.out (.cells #[.int .i64 t0, .int .i64 t1, .int .u64 sm, .int .i64 sc] 52)
   have hWa := blk_alloc HW.out (.cells #[.int .i64 t0, .int .i64 t1, .int .u64 sm, .int .i64 sc] 52)
   have hLa := blk_alloc HL.out (.cells #[.int .i64 t0, .int .i64 t1, .int .u64 sm, .int .i64 sc] 52)
   have hXa := blk_alloc HX.out (.cells #[.int .i64 t0, .int .i64 t1, .int .u64 sm, .int .i64 sc] 52)
   have hFSa := Kd.F_alloc HFS.out (.cells #[.int .i64 t0, .int .i64 t1, .int .u64 sm, .int .i64 sc] 52)
   have hFVa := Kd.F_alloc HFV.out (.cells #[.int .i64 t0, .int .i64 t1, .int .u64 sm, .int .i64 sc] 52)
   have hBa := heap_alloc_new wr (.cells #[.int .i64 t0, .int .i64 t1, .int .u64 sm, .int .i64 sc] 52)
   have n5 : gl ≠ wr.heap.size := by have := blk_lt HL.out; omega
   have n6 : gv ≠ wr.heap.size := by have := blk_lt HV.out; omega
   have hKA := Aside0.mk hKa
   have hVA := Aside0.mk hVa
   have hWA := Aside0.mk hWa
   have hLA := Aside0.mk hLa
   have hXA := Aside0.mk hXa
   have hFSA := Aside0.mk hFSa
   have hFVA := Aside0.mk hFVa
   have hBA := Aside0.mk hBa
   have qa0 : (wr.alloc (.cells #[.int .i64 t0, .int .i64 t1, .int .u64 sm, .int .i64 sc] 52)).cell? ⟨g4, 1, none⟩ = some (.int .i64 x1) := (blk_cell hXa 1).trans rfl
   have qa1 : (wr.alloc (.cells #[.int .i64 t0, .int .i64 t1, .int .u64 sm, .int .i64 sc] 52)).cell? ⟨gw, 0, none⟩ = some (.int .i64 wq) := (blk_cell hWa 0).trans rfl
   clear hKa hVa hWa hLa hXa hFSa hFVa hBa HK HV HW HL HX HFS HFV
   by_cases hq : x1 = wq
   ·have bq : (x1 == wq) = true := by simpa using hq
    have hsm : same = true := by rw [← HSM.out]; simpa using hq
    clear HSM
    subst hsm
    clear hq
    go_wp2
    clear qa0 qa1
    generalize wr.alloc (.cells #[.int .i64 t0, .int .i64 t1, .int .u64 sm, .int .i64 sc] 52) = wa at *
    have l0 : wa.cell? ⟨gl, 0, none⟩ = some (.int .i64 acc.1) := (blk_cell hLA.out 0).trans rfl
    have b2 : wa.cell? ⟨wr.heap.size, 1 + 1, none⟩ = some (.int .u64 sm) := (blk_cell hBA.out 2).trans rfl
    go_still_tail 7, (by kernel_rfl)
    still_call ((count_any _ HMK.out.1 HMK.out.2 _))
    repeat still_step
    refine wpStill_nil ?_
    change wpList _ _ _ _ _ wa.drew
    clear l0 b2
    have l0 : wa.drew.cell? ⟨gl, 0, none⟩ = some (.int .i64 acc.1) := (blk_cell hLA.out 0).trans rfl
    have z0 : wa.drew.frozen? ⟨gl, 0, none⟩ = false := blk_frozen hLA.out 0
    have z1 : wa.frozen? ⟨gl, 1, none⟩ = false := blk_frozen hLA.out 1
    have l1 : wa.cell? ⟨gl, 1, none⟩ = some (.int .i64 acc.2) := (blk_cell hLA.out 1).trans rfl
    have b3 : wa.cell? ⟨wr.heap.size, 3, none⟩ = some (.int .i64 sc) := (blk_cell hBA.out 3).trans rfl
    go_wp2
    go_roundw
    case rel => exact ⟨j + 1, by omega, by go_num, ⟨((hKA.out.set (g := gl) (j := 0) (Or.inl (Or.inr rfl)) _).set (g := gl) (j := 1) (Or.inl (Or.inr rfl)) _).drew⟩,
     ⟨blk_far (blk_far hVA.out (p := ⟨gl, 0, none⟩) hvl _) (p := ⟨gl, 1, none⟩) hvl _⟩, ⟨blk_far (blk_far hWA.out (p := ⟨gl, 0, none⟩) hwl _) (p := ⟨gl, 1, none⟩) hwl _⟩,
     ⟨by rw [HST.out]; exact blk_set (blk_set hLA.out 0 _) 1 _⟩, ⟨blk_far (blk_far hXA.out (p := ⟨gl, 0, none⟩) (fun e => n3 e.symm) _) (p := ⟨gl, 1, none⟩) (fun e => n3 e.symm) _⟩,
     ⟨Kd.F_drew (Kd.F_far (Kd.F_far hFSA.out (p := ⟨gl, 0, none⟩) (fun k hk => hk.2) _) (p := ⟨gl, 1, none⟩) (fun k hk => hk.2) _)⟩, ⟨Kd.F_drew (Kd.F_far (Kd.F_far hFVA.out (p := ⟨gl, 0, none⟩) (fun k hk => hk.2) _) (p := ⟨gl, 1, none⟩) (fun k hk => hk.2) _)⟩⟩
    case measure => simp [intOf]; omega
   ·have bq : (x1 == wq) = false := by simpa using hq
    have hsm : same = false := by rw [← HSM.out]; simpa using hq
    clear HSM
    subst hsm
    clear hq
    go_wp2
    go_roundw
    case rel => exact ⟨j + 1, by omega, by go_num, hKA, hVA, hWA, ⟨by rw [HST.out]; exact hLA.out⟩, hXA, hFSA, hFVA⟩
    case measure => simp [intOf]; omega
  ·obtain rfl : j = sl.length := by omega
   go_wp2
   go_end0
   refine ⟨rfl, HK.out, ⟨A5, c5, HV.out, HC5.out, HFV.out⟩, ?_⟩
   have := HL.out
   rw [List.take_length] at this
   exact this
end Go.Proofs.Ytckhjehibjdjdaa.P
namespace Go.Proofs.Ytckhjehibjdjdaa.P
open Go.RowKit Go.Proofs.YtckhjehibjdjdaaW.PrintWords Go.Proofs.YtckhjehibjdjdaaW.PrintLast Go.Proofs.YtckhjehibjdjdaaW.PrintMore
attribute [local go_sem] max2_int min2_int max_two min_two max_three min_three max_four min_four
set_option linter.unusedVariables false
set_option linter.unusedSimpArgs false
def promise_all.l0 : Nat → List (S52) → List (S41) → Int → Int → Option ((List (S52)))
 | 0, _, _, _, _ => none
 | k + 1, x3, x6, x7, x8 => if x8 < x7 then (if 0 ≤ x8 then (if x8 < (x6.length : Int) then (if x3.length + ((rd_T41 x6 x8).f4).length < 4398046511104 then (promise_all.l0 k (x3 ++ ((rd_T41 x6 x8).f4)) x6 x7 (wrap64 (x8 + 1))) else (none)) else (none)) else (none)) else (some x3)
def promise_all.f (k : Nat) (l0 : List (S41)) : Option ((List (S52))) := promise_all.l0 k ([] : List (S52)) l0 (l0.length : Int) 0
set_option maxHeartbeats 8000000 in
set_option maxRecDepth 100000 in
theorem promise_all.calls (k : Nat) (A0 : Option Addr) (c0 : Nat) (l0 : List (S41)) (r : List (S52)) (w : World) (hr0 : Kd.C k41 w A0 l0.length l0) (hc0 : l0.length ≤ c0) (h : promise_all.f k l0 = some r) :
  Calls Try.prog 69 #[.slice A0 l0.length c0] w fun e w' => ∃ v0_ : Value, e = .returned (v0_) ∧ Kd.R k52 52 w' w.heap.size (fun _ => True) v0_ r ∧ Below w.heap.size w w' := by
 have hu41 := Try.underlying41
 have HR0 := Aside0.mk hr0
 have HC0 := Aside0.mk hc0
 clear hr0 hc0
 have HB := Aside0.mk (Below.refl w.heap.size w)
 have H : (promise_all.l0 k ([] : List (S52)) l0 (l0.length : Int) 0) = some r := h
 clear h
 have H' := Aside0.mk H
 clear H
 go_enter Try.func69, Try.ntmps69
 go_wp2
 go_loopg [3, 8] k (fun kq v3 v8 w' => ∃ (x3_1 : List (S52)) (x8_1 : Int), v8 = .int .i64 x8_1 ∧ Aside0 (promise_all.l0 kq x3_1 l0 (l0.length : Int) x8_1 = some r) ∧ Aside0 (kq ≤ k) ∧ Aside0 (Kd.R k52 52 w' w.heap.size (fun _ => True) v3 x3_1) ∧ Aside0 (Below w.heap.size w w'))
 case atStart => exact ⟨(([] : List (S52))), (0), Z4, H', ⟨Nat.le_refl _⟩, ⟨by first | exact Kd.R_nil _ _ _ _ _ | exact Kd.N_nil _ _ _ _ _ | exact Kd.V_nil _ _ _ _ _ | exact Kd.Q_nil _ _ _ _ _ | exact Kd.S_nil _ _ _ _ _⟩, ⟨by repeat (first | (with_reducible first | exact HB.out | apply below_alloc | apply pw_below_drewN | apply below_drew1) | exact HB.out)⟩⟩
 case round =>
  clear H'
  obtain ⟨x3_1, x8_1, rfl, HA, HK1, HO_3, HB⟩ := hrel
  cases gk with
  | zero => exact absurd HA.out (by simp [promise_all.l0])
  | succ k1 =>
   have H := HA.out
   clear HA
   simp only [promise_all.l0] at H
   by_cases c2 : x8_1 < (l0.length : Int)
   ·rw [if_pos c2] at H
    have c2b0 : decide (x8_1 < (l0.length : Int)) = true := decide_eq_true c2
    clear c2
    by_cases c3 : 0 ≤ x8_1
    ·rw [if_pos c3] at H
     have c3b0 : decide (0 ≤ x8_1) = true := decide_eq_true c3
     clear c3
     by_cases c4 : x8_1 < (l0.length : Int)
     ·rw [if_pos c4] at H
      have c4b0 : decide (x8_1 < (l0.length : Int)) = true := decide_eq_true c4
      clear c4
      by_cases c5 : x3_1.length + ((rd_T41 l0 x8_1).f4).length < 4398046511104
      ·rw [if_pos c5] at H
       have LMc5 := Aside0.mk c5
       clear c5
       obtain ⟨y920, hy920⟩ : ∃ y_ : List (S52), y_ = (x3_1 ++ ((rd_T41 l0 x8_1).f4)) := ⟨_, rfl⟩
       replace H : (promise_all.l0 k1 y920 l0 (l0.length : Int) (wrap64 (x8_1 + 1))) = some r := by first | (rw [hy920]; with_reducible exact H) | (have H2_ := (Option.bind_some _ _).symm.trans H; rw [hy920]; with_reducible exact H2_) | (have H2_ := (Option.bind_some _ _).symm.trans H; with_reducible exact H2_) | with_reducible exact H | (rw [hy920]; exact H) | exact H
       have Ny920 := Aside0.mk hy920
       clear hy920
       have H' := Aside0.mk H
       clear H
       have p918 : 0 ≤ (x8_1 : Int) := of_decide_eq_true Z2
       have q918 : x8_1 < (l0.length : Int) := of_decide_eq_true Z2
       obtain ⟨ad918, A918_4, c918_4, e918, hx918_0, hx918_1, hx918_2, hx918_3, hx918_4, hl918_4, hi918_4⟩ := at_T41 HR0.out x8_1 p918 q918
       cases e918
       replace hx918_0 := (HB.out.cell (World.block_lt_of_cell? w _ hx918_0)).trans hx918_0
       replace hx918_1 := (HB.out.cell (World.block_lt_of_cell? w _ hx918_1)).trans hx918_1
       replace hx918_2 := (HB.out.cell (World.block_lt_of_cell? w _ hx918_2)).trans hx918_2
       replace hx918_3 := (HB.out.cell (World.block_lt_of_cell? w _ hx918_3)).trans hx918_3
       replace hx918_4 := (HB.out.cell (World.block_lt_of_cell? w _ hx918_4)).trans hx918_4
       have HR918_4 := Aside0.mk hi918_4
       have HC918_4 := Aside0.mk hl918_4
       clear hi918_4 hl918_4
       replace p918 := eq_true p918
       replace q918 := eq_true q918
       go_wp2_with (first | ((with_reducible refine gate_dst (N := 5) rfl ?_); refine bx 5 #[.int .i64 0, .int .i64 0, .int .i64 0, .bool false, .slice none 0 0] 41 ?_; intro gb919 hg w6 hbox hb; have n0_ := Aside0.mk (Kd.R_below (by (with_reducible repeat (first | apply Kd.R_alloc | apply Kd.R_drewN | apply Kd.R_drew)); exact HO_3.out) hb); have n1_ := Aside0.mk (below_step Z0 hb); have n2_ := Aside0.mk (hbox); have n3_ := Aside0.mk ((by rw [hg]; exact (below_size Z0) : w.heap.size ≤ gb919)); have n4_ := Aside0.mk ((by rw [hg]; exact (below_size Z0) : w.heap.size ≤ gb919)); clear HO_3; clear HB; have HO_3 := n0_; have HB := n1_; have BK919 := n2_; have GW919 := n3_; have GE919 := n4_; clear n0_ n1_ n2_ n3_ n4_; clear hb hbox hg; have hcz7_0 : w6.cell? ⟨gb919, 0, none⟩ = some (.int .i64 0) := (blk_cell BK919.out 0).trans rfl; have hcz7_1 : w6.cell? ⟨gb919, 1, none⟩ = some (.int .i64 0) := (blk_cell BK919.out 1).trans rfl; have hcz7_2 : w6.cell? ⟨gb919, 2, none⟩ = some (.int .i64 0) := (blk_cell BK919.out 2).trans rfl; have hcz7_3 : w6.cell? ⟨gb919, 3, none⟩ = some (.bool false) := (blk_cell BK919.out 3).trans rfl; have hcz7_4 : w6.cell? ⟨gb919, 4, none⟩ = some (.slice none 0 0) := (blk_cell BK919.out 4).trans rfl; have hfz7_0 := blk_frozen BK919.out 0; have hfz7_1 := blk_frozen BK919.out 1; have hfz7_2 := blk_frozen BK919.out 2; have hfz7_3 := blk_frozen BK919.out 3; have hfz7_4 := blk_frozen BK919.out 4) | ((with_reducible refine gate_builtin (b := .append) (xs := #[.tmp 12, .tmp 14]) rfl ?_); at_builtin; refine Kd.R_append_rows k52 (w0 := w) w.heap.size rfl (.tmp 12) (.tmp 14) 39 52 (.agg #[(.int .i64 0), (.int .i64 0), (.int .u64 0), (.int .i64 0)]) 32 rfl Try.underlying39 info52 rfl (by decide) (by omega) u3 x3_1 ((rd_T41 l0 x8_1).f4) _ _ _ (fun _ => True) (fun _ => False) rfl rfl ?aO ?aR (fun _ _ h => h) (fun _ h => h.elim) ?aF ?aB ?aS ?aL ?_; (case aR => exact Kd.C_below HR918_4.out (by repeat (first | (with_reducible first | exact HB.out | apply below_alloc | apply pw_below_drewN | apply below_drew1 | refine below_set ?_ GE919.out) | exact HB.out))); (case aB => exact (by repeat (first | (with_reducible first | exact HB.out | apply below_alloc | apply pw_below_drewN | apply below_drew1 | refine below_set ?_ GE919.out) | exact HB.out))); (case aF => exact (fun _ _ => trivial)); (case aO => exact (by (with_reducible repeat (first | apply Kd.R_alloc | apply Kd.R_drewN | apply Kd.R_drew)); exact Kd.R_mono (Kd.R_far (p := ⟨gb919, 4, none⟩) (Kd.R_far (p := ⟨gb919, 3, none⟩) (Kd.R_far (p := ⟨gb919, 2, none⟩) (Kd.R_far (p := ⟨gb919, 1, none⟩) (Kd.R_far (p := ⟨gb919, 0, none⟩) (Kd.R_types HO_3.out BK919.out (by decide)) (fun _ hk => hk.2) (.int .i64 ((rd_T41 l0 x8_1).f0))) (fun _ hk => hk.2) (.int .i64 ((rd_T41 l0 x8_1).f1))) (fun _ hk => hk.2) (.int .i64 ((rd_T41 l0 x8_1).f2))) (fun _ hk => hk.2) (.bool ((rd_T41 l0 x8_1).f3))) (fun _ hk => hk.2) (.slice A918_4 ((rd_T41 l0 x8_1).f4).length c918_4)) (fun _ hk => trivial))); (case aS => exact (below_size (by repeat (first | (with_reducible first | exact HB.out | apply below_alloc | apply pw_below_drewN | apply below_drew1 | refine below_set ?_ GE919.out) | exact HB.out)))); (case aL => have := LMc5.out; omega); intro v921 w8 ho hb hg hat; rw [← Ny920.out] at ho; have n0_ := Aside0.mk (blk_grown (g := gb919) (o := .cells #[.int .i64 ((rd_T41 l0 x8_1).f0), .int .i64 ((rd_T41 l0 x8_1).f1), .int .i64 ((rd_T41 l0 x8_1).f2), .bool ((rd_T41 l0 x8_1).f3), .slice A918_4 ((rd_T41 l0 x8_1).f4).length c918_4] 41 (0, 0)) (by (with_reducible repeat (first | refine blk_drewN ?_ _ | refine blk_drew ?_ | refine blk_alloc ?_ _)); refine blk_put (cs := #[.int .i64 ((rd_T41 l0 x8_1).f0), .int .i64 ((rd_T41 l0 x8_1).f1), .int .i64 ((rd_T41 l0 x8_1).f2), .bool ((rd_T41 l0 x8_1).f3), .slice none 0 0]) ?_ 4 _ rfl; (with_reducible repeat (first | refine blk_drewN ?_ _ | refine blk_drew ?_ | refine blk_alloc ?_ _)); refine blk_put (cs := #[.int .i64 ((rd_T41 l0 x8_1).f0), .int .i64 ((rd_T41 l0 x8_1).f1), .int .i64 ((rd_T41 l0 x8_1).f2), .bool false, .slice none 0 0]) ?_ 3 _ rfl; (with_reducible repeat (first | refine blk_drewN ?_ _ | refine blk_drew ?_ | refine blk_alloc ?_ _)); refine blk_put (cs := #[.int .i64 ((rd_T41 l0 x8_1).f0), .int .i64 ((rd_T41 l0 x8_1).f1), .int .i64 0, .bool false, .slice none 0 0]) ?_ 2 _ rfl; (with_reducible repeat (first | refine blk_drewN ?_ _ | refine blk_drew ?_ | refine blk_alloc ?_ _)); refine blk_put (cs := #[.int .i64 ((rd_T41 l0 x8_1).f0), .int .i64 0, .int .i64 0, .bool false, .slice none 0 0]) ?_ 1 _ rfl; (with_reducible repeat (first | refine blk_drewN ?_ _ | refine blk_drew ?_ | refine blk_alloc ?_ _)); refine blk_put (cs := #[.int .i64 0, .int .i64 0, .int .i64 0, .bool false, .slice none 0 0]) ?_ 0 _ rfl; (with_reducible repeat (first | refine blk_drewN ?_ _ | refine blk_drew ?_ | refine blk_alloc ?_ _)); exact BK919.out) hg (Kd.R_ne HO_3.out BK919.out (by decide))); have n1_ := Aside0.mk (hb); have n2_ := Aside0.mk (ho); clear BK919; clear HB; clear HO_3; have BK919 := n0_; have HB := n1_; have HO922 := n2_; clear n0_ n1_ n2_; clear ho hb hg hat))
       go_roundg k1
       case measure => have := HK1.out; omega
       case rel => exact ⟨(y920), (wrap64 (x8_1 + 1)), Z4, H', ⟨by have := HK1.out; omega⟩, ⟨by (with_reducible repeat (first | apply Kd.R_alloc | apply Kd.R_drewN | apply Kd.R_drew)); exact HO922.out⟩, ⟨by repeat (first | (with_reducible first | exact HB.out | apply below_alloc | apply pw_below_drewN | apply below_drew1 | refine below_set ?_ GE919.out) | exact HB.out)⟩⟩
      ·rw [if_neg c5] at H
       exact absurd H (by simp)
     ·rw [if_neg c4] at H
      exact absurd H (by simp)
    ·rw [if_neg c3] at H
     exact absurd H (by simp)
   ·rw [if_neg c2] at H
    have c2b0 : decide (x8_1 < (l0.length : Int)) = false := decide_eq_false c2
    clear c2
    obtain rfl := Option.some.inj H
    go_wp2
    go_ret
    exact ⟨_, by first | rfl | (simp [errW_none, errW_some] <;> rfl) | (simp [*, errW_none, errW_some] <;> rfl), by (with_reducible repeat (first | apply Kd.R_alloc | apply Kd.R_drewN | apply Kd.R_drew)); exact HO_3.out, by repeat (first | (with_reducible first | exact HB.out | apply below_alloc | apply pw_below_drewN | apply below_drew1) | exact HB.out)⟩
end Go.Proofs.Ytckhjehibjdjdaa.P
