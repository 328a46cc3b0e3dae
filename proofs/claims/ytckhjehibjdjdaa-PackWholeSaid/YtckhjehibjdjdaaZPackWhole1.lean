/- PackWhole: part 1 of the walk and of the plain law that it comes to. No condition. -/
import Derived.Test.YtckhjehibjdjdaaZPackWhole0
import Derived.ArgAppend
import Derived.Below
import Derived.BigQuiet
import Derived.BigRegion
import Derived.Carry
import Derived.Deep.AppendLies
import Derived.Deep.CutBlock
import Derived.Deep.DeepCutAuto
import Derived.Deep.Draws
import Derived.Deep.LoopGhost
import Derived.Deep.OwnRows
import Derived.Deep.QuietTactic
import Derived.Deep.RegionHeld3
import Derived.DeepKeys3
import Derived.KernelRfl
import Derived.Laws.Bits64
import Derived.Laws.Bits64b
import Derived.Laws.BitsLemmas
import Derived.Laws.BytesArg
import Derived.Laws.IdiomCopy
import Derived.Laws.MakeOwn
import Derived.Laws.OwnMore
import Derived.Laws.Rows
import Derived.Laws.Slices
import Derived.Lib.AppendStr
import Derived.Lib.ConvBytes
import Derived.Lib.SliceRun
import Derived.LoopIn
import Derived.LoopN
import Derived.LoopNIn
import Derived.Maps.AppendAt
import Derived.Maps.Keyed
import Derived.Maps.Own
import Derived.Maps.OwnOps
import Derived.Maps.OwnSet
import Derived.Maps.Views
import Derived.OrdersHeld
import Derived.Outline
import Derived.OwnWalk
import Derived.OwnWalkIn
import Derived.RangeFuncBound
import Derived.RangeFuncBox
import Derived.RangeFuncCalls
import Derived.RangeFuncFrom
import Derived.RangeFuncLeaves
import Derived.RowKit
import Derived.RowKit3
import Derived.Shelf.Abstract
import Derived.Shelf.RegionOpen
import Derived.StillTailTactics
import Derived.Tactics
import Derived.TacticsInMore
import Derived.WalkKit
import Derived.WideLaws
namespace Go.Proofs.YtckhjehibjdjdaaW.PrintWords
theorem here_ : True := trivial
end Go.Proofs.YtckhjehibjdjdaaW.PrintWords
namespace Go.Proofs.YtckhjehibjdjdaaW.PrintLast
theorem here_ : True := trivial
end Go.Proofs.YtckhjehibjdjdaaW.PrintLast
namespace Go.Proofs.YtckhjehibjdjdaaW.PrintMore
theorem here_ : True := trivial
end Go.Proofs.YtckhjehibjdjdaaW.PrintMore
namespace Go.Proofs.Ytckhjehibjdjdaa
theorem here_ : True := trivial
end Go.Proofs.Ytckhjehibjdjdaa
namespace Go.Proofs.Ytckhjehibjdjdaa.Bits
theorem here_ : True := trivial
end Go.Proofs.Ytckhjehibjdjdaa.Bits
namespace Go.Proofs.Ytckhjehibjdjdaa.Mp
theorem here_ : True := trivial
end Go.Proofs.Ytckhjehibjdjdaa.Mp
namespace Go.Proofs.Ytckhjehibjdjdaa.Ob
theorem here_ : True := trivial
end Go.Proofs.Ytckhjehibjdjdaa.Ob
namespace Go.Proofs.Ytckhjehibjdjdaa.P
theorem here_ : True := trivial
end Go.Proofs.Ytckhjehibjdjdaa.P
namespace Go.Proofs.Ytckhjehibjdjdaa.RF
theorem here_ : True := trivial
end Go.Proofs.Ytckhjehibjdjdaa.RF
namespace Go.Proofs.Ytckhjehibjdjdaa.packWhole
theorem here_ : True := trivial
end Go.Proofs.Ytckhjehibjdjdaa.packWhole
namespace Go.Proofs.Ytckhjehibjdjdaa.row0
theorem here_ : True := trivial
end Go.Proofs.Ytckhjehibjdjdaa.row0
namespace Go.Proofs.Ytckhjehibjdjdaa
set_option linter.unusedVariables false
section
open Go.RowKit Go.Proofs.YtckhjehibjdjdaaW.PrintWords Go.Proofs.YtckhjehibjdjdaaW.PrintLast Go.Proofs.YtckhjehibjdjdaaW.PrintMore
def bl : Nat → Nat → List Bool
 | 0, _ => []
 | n + 1, x => (x % 2 == 1) :: bl n (x / 2)
def bm (n x : Nat) : Array Bool := ⟨bl n x⟩
theorem pu {P : Program} {md : Region.Mode} {ops : Array Oper} {Q : Exit → Act → World → Prop} {S : World → Prop} {ds : List Nat} (i : Nat) (N : Option Tmp) (l' : Array Bool) {oi : Oper} {v : Value} {fuel : Nat} {l : Array Bool} {a a' : Act} {w : World} (h : wpAnyLast P md ops Q S ds fuel l' a' w)
 (hi : ops[i]? = some oi := by exact rfl) (hN : oi.dst = N := by exact rfl) (hc : anyB md ops l l' i = true := by exact any_of HT_.out (by kernel_rfl)) (hQ : ∀ c a w, Q (.panic c) (a.put oi.dst v) w → Q (.panic c) a w := by exact fun _ _ _ h => h)
 (hy : Yields P ops oi v a := by exact Or.inl ⟨by rfl, by intro w'; go_simp; with_reducible rfl⟩) (ha : a.put N v = a' := by simp only [Act.put, List.setIfInBounds_toArray, List.set_cons_zero, List.set_cons_succ, i64_w, i32_w]; rfl) : wpAnyLast P md ops Q S ds (fuel + 1) l a w := pure_ l' hi hN hc hQ hy ha h
theorem bx {P : Program} {ops : Array Oper} {Q : Exit → Act → World → Prop} {a : Act} {o : Oper} {rest : List Oper} {W : World} (N : Tmp) (cs : Array Value) (t : TypeId)
 (h : ∀ g, g = W.heap.size → ∀ w1, w1.heap[g]? = some (.cells cs t (0, 0)) → Below W.heap.size W w1 → wpList P ops Q rest (a.put o.dst (.pointer (some ⟨g, 0, none⟩))) w1)
 (hg : o.guard = none := by exact rfl) (hd : o.dst = some N := by exact rfl) (hr : (execOp a.eval o).run P W = .ok (.value (.pointer (some ⟨W.heap.size, 0, none⟩))) (W.alloc (.cells cs t (0, 0))) := by first | (go_simp; done) | (go_simp; rfl)) : wpList P ops Q (o :: rest) a W := box_event hg hd hr h
theorem tk1 {P : Program} {md : Region.Mode} {ops : Array Oper} {Q : Exit → Act → World → Prop} {S : World → Prop} {ds : List Nat} (i : Nat) (N : Option Tmp) (l' : Array Bool) {oi : Oper} {v : Value} {fuel : Nat} {l : Array Bool} {a a' : Act} {w : World} (h : wpAnyLast P md ops Q S ds fuel l' a' w)
 (hi : ops[i]? = some oi := by exact rfl) (hN : oi.dst = N := by exact rfl) (hc : takeB md ops ds l l' i = true := by exact take_ofW HT_.out HW_.out (by kernel_rfl)) (hQ : ∀ c a w, Q (.panic c) (a.put oi.dst v) w → Q (.panic c) a w := by exact fun _ _ _ h => h)
 (hy : YieldsIf P ops S oi v a := by exact Or.inl ⟨by rfl, by rintro w' ⟨s0⟩; go_simp; with_reducible rfl⟩) (hS : S w := by exact hHeld) (ha : a.put N v = a' := by simp only [Act.put, List.setIfInBounds_toArray, List.set_cons_zero, List.set_cons_succ, i64_w, i32_w]; rfl) : wpAnyLast P md ops Q S ds (fuel + 1) l a w := take_ l' hi hN hc hQ hy hS ha h
theorem tk2 {P : Program} {md : Region.Mode} {ops : Array Oper} {Q : Exit → Act → World → Prop} {S : World → Prop} {ds : List Nat} (i : Nat) (N : Option Tmp) (l' : Array Bool) {oi : Oper} {v : Value} {fuel : Nat} {l : Array Bool} {a a' : Act} {w : World} (h : wpAnyLast P md ops Q S ds fuel l' a' w)
 (hi : ops[i]? = some oi := by exact rfl) (hN : oi.dst = N := by exact rfl) (hc : takeB md ops ds l l' i = true := by exact take_ofW HT_.out HW_.out (by kernel_rfl)) (hQ : ∀ c a w, Q (.panic c) (a.put oi.dst v) w → Q (.panic c) a w := by exact fun _ _ _ h => h)
 (hy : YieldsIf P ops S oi v a := by exact Or.inl ⟨by rfl, by rintro w' ⟨s0, s1⟩; go_simp; with_reducible rfl⟩) (hS : S w := by exact hHeld) (ha : a.put N v = a' := by simp only [Act.put, List.setIfInBounds_toArray, List.set_cons_zero, List.set_cons_succ, i64_w, i32_w]; rfl) : wpAnyLast P md ops Q S ds (fuel + 1) l a w := take_ l' hi hN hc hQ hy hS ha h
theorem tk3 {P : Program} {md : Region.Mode} {ops : Array Oper} {Q : Exit → Act → World → Prop} {S : World → Prop} {ds : List Nat} (i : Nat) (N : Option Tmp) (l' : Array Bool) {oi : Oper} {v : Value} {fuel : Nat} {l : Array Bool} {a a' : Act} {w : World} (h : wpAnyLast P md ops Q S ds fuel l' a' w)
 (hi : ops[i]? = some oi := by exact rfl) (hN : oi.dst = N := by exact rfl) (hc : takeB md ops ds l l' i = true := by exact take_ofW HT_.out HW_.out (by kernel_rfl)) (hQ : ∀ c a w, Q (.panic c) (a.put oi.dst v) w → Q (.panic c) a w := by exact fun _ _ _ h => h)
 (hy : YieldsIf P ops S oi v a := by exact Or.inl ⟨by rfl, by rintro w' ⟨s0, s1, s2⟩; go_simp; with_reducible rfl⟩) (hS : S w := by exact hHeld) (ha : a.put N v = a' := by simp only [Act.put, List.setIfInBounds_toArray, List.set_cons_zero, List.set_cons_succ, i64_w, i32_w]; rfl) : wpAnyLast P md ops Q S ds (fuel + 1) l a w := take_ l' hi hN hc hQ hy hS ha h
theorem tk4 {P : Program} {md : Region.Mode} {ops : Array Oper} {Q : Exit → Act → World → Prop} {S : World → Prop} {ds : List Nat} (i : Nat) (N : Option Tmp) (l' : Array Bool) {oi : Oper} {v : Value} {fuel : Nat} {l : Array Bool} {a a' : Act} {w : World} (h : wpAnyLast P md ops Q S ds fuel l' a' w)
 (hi : ops[i]? = some oi := by exact rfl) (hN : oi.dst = N := by exact rfl) (hc : takeB md ops ds l l' i = true := by exact take_ofW HT_.out HW_.out (by kernel_rfl)) (hQ : ∀ c a w, Q (.panic c) (a.put oi.dst v) w → Q (.panic c) a w := by exact fun _ _ _ h => h)
 (hy : YieldsIf P ops S oi v a := by exact Or.inl ⟨by rfl, by rintro w' ⟨s0, s1, s2, s3⟩; go_simp; with_reducible rfl⟩) (hS : S w := by exact hHeld) (ha : a.put N v = a' := by simp only [Act.put, List.setIfInBounds_toArray, List.set_cons_zero, List.set_cons_succ, i64_w, i32_w]; rfl) : wpAnyLast P md ops Q S ds (fuel + 1) l a w := take_ l' hi hN hc hQ hy hS ha h
theorem tk5 {P : Program} {md : Region.Mode} {ops : Array Oper} {Q : Exit → Act → World → Prop} {S : World → Prop} {ds : List Nat} (i : Nat) (N : Option Tmp) (l' : Array Bool) {oi : Oper} {v : Value} {fuel : Nat} {l : Array Bool} {a a' : Act} {w : World} (h : wpAnyLast P md ops Q S ds fuel l' a' w)
 (hi : ops[i]? = some oi := by exact rfl) (hN : oi.dst = N := by exact rfl) (hc : takeB md ops ds l l' i = true := by exact take_ofW HT_.out HW_.out (by kernel_rfl)) (hQ : ∀ c a w, Q (.panic c) (a.put oi.dst v) w → Q (.panic c) a w := by exact fun _ _ _ h => h)
 (hy : YieldsIf P ops S oi v a := by exact Or.inl ⟨by rfl, by rintro w' ⟨s0, s1, s2, s3, s4⟩; go_simp; with_reducible rfl⟩) (hS : S w := by exact hHeld) (ha : a.put N v = a' := by simp only [Act.put, List.setIfInBounds_toArray, List.set_cons_zero, List.set_cons_succ, i64_w, i32_w]; rfl) : wpAnyLast P md ops Q S ds (fuel + 1) l a w := take_ l' hi hN hc hQ hy hS ha h
theorem tk6 {P : Program} {md : Region.Mode} {ops : Array Oper} {Q : Exit → Act → World → Prop} {S : World → Prop} {ds : List Nat} (i : Nat) (N : Option Tmp) (l' : Array Bool) {oi : Oper} {v : Value} {fuel : Nat} {l : Array Bool} {a a' : Act} {w : World} (h : wpAnyLast P md ops Q S ds fuel l' a' w)
 (hi : ops[i]? = some oi := by exact rfl) (hN : oi.dst = N := by exact rfl) (hc : takeB md ops ds l l' i = true := by exact take_ofW HT_.out HW_.out (by kernel_rfl)) (hQ : ∀ c a w, Q (.panic c) (a.put oi.dst v) w → Q (.panic c) a w := by exact fun _ _ _ h => h)
 (hy : YieldsIf P ops S oi v a := by exact Or.inl ⟨by rfl, by rintro w' ⟨s0, s1, s2, s3, s4, s5⟩; go_simp; with_reducible rfl⟩) (hS : S w := by exact hHeld) (ha : a.put N v = a' := by simp only [Act.put, List.setIfInBounds_toArray, List.set_cons_zero, List.set_cons_succ, i64_w, i32_w]; rfl) : wpAnyLast P md ops Q S ds (fuel + 1) l a w := take_ l' hi hN hc hQ hy hS ha h
theorem tk7 {P : Program} {md : Region.Mode} {ops : Array Oper} {Q : Exit → Act → World → Prop} {S : World → Prop} {ds : List Nat} (i : Nat) (N : Option Tmp) (l' : Array Bool) {oi : Oper} {v : Value} {fuel : Nat} {l : Array Bool} {a a' : Act} {w : World} (h : wpAnyLast P md ops Q S ds fuel l' a' w)
 (hi : ops[i]? = some oi := by exact rfl) (hN : oi.dst = N := by exact rfl) (hc : takeB md ops ds l l' i = true := by exact take_ofW HT_.out HW_.out (by kernel_rfl)) (hQ : ∀ c a w, Q (.panic c) (a.put oi.dst v) w → Q (.panic c) a w := by exact fun _ _ _ h => h)
 (hy : YieldsIf P ops S oi v a := by exact Or.inl ⟨by rfl, by rintro w' ⟨s0, s1, s2, s3, s4, s5, s6⟩; go_simp; with_reducible rfl⟩) (hS : S w := by exact hHeld) (ha : a.put N v = a' := by simp only [Act.put, List.setIfInBounds_toArray, List.set_cons_zero, List.set_cons_succ, i64_w, i32_w]; rfl) : wpAnyLast P md ops Q S ds (fuel + 1) l a w := take_ l' hi hN hc hQ hy hS ha h
theorem tk8 {P : Program} {md : Region.Mode} {ops : Array Oper} {Q : Exit → Act → World → Prop} {S : World → Prop} {ds : List Nat} (i : Nat) (N : Option Tmp) (l' : Array Bool) {oi : Oper} {v : Value} {fuel : Nat} {l : Array Bool} {a a' : Act} {w : World} (h : wpAnyLast P md ops Q S ds fuel l' a' w)
 (hi : ops[i]? = some oi := by exact rfl) (hN : oi.dst = N := by exact rfl) (hc : takeB md ops ds l l' i = true := by exact take_ofW HT_.out HW_.out (by kernel_rfl)) (hQ : ∀ c a w, Q (.panic c) (a.put oi.dst v) w → Q (.panic c) a w := by exact fun _ _ _ h => h)
 (hy : YieldsIf P ops S oi v a := by exact Or.inl ⟨by rfl, by rintro w' ⟨s0, s1, s2, s3, s4, s5, s6, s7⟩; go_simp; with_reducible rfl⟩) (hS : S w := by exact hHeld) (ha : a.put N v = a' := by simp only [Act.put, List.setIfInBounds_toArray, List.set_cons_zero, List.set_cons_succ, i64_w, i32_w]; rfl) : wpAnyLast P md ops Q S ds (fuel + 1) l a w := take_ l' hi hN hc hQ hy hS ha h
theorem tk9 {P : Program} {md : Region.Mode} {ops : Array Oper} {Q : Exit → Act → World → Prop} {S : World → Prop} {ds : List Nat} (i : Nat) (N : Option Tmp) (l' : Array Bool) {oi : Oper} {v : Value} {fuel : Nat} {l : Array Bool} {a a' : Act} {w : World} (h : wpAnyLast P md ops Q S ds fuel l' a' w)
 (hi : ops[i]? = some oi := by exact rfl) (hN : oi.dst = N := by exact rfl) (hc : takeB md ops ds l l' i = true := by exact take_ofW HT_.out HW_.out (by kernel_rfl)) (hQ : ∀ c a w, Q (.panic c) (a.put oi.dst v) w → Q (.panic c) a w := by exact fun _ _ _ h => h)
 (hy : YieldsIf P ops S oi v a := by exact Or.inl ⟨by rfl, by rintro w' ⟨s0, s1, s2, s3, s4, s5, s6, s7, s8⟩; go_simp; with_reducible rfl⟩) (hS : S w := by exact hHeld) (ha : a.put N v = a' := by simp only [Act.put, List.setIfInBounds_toArray, List.set_cons_zero, List.set_cons_succ, i64_w, i32_w]; rfl) : wpAnyLast P md ops Q S ds (fuel + 1) l a w := take_ l' hi hN hc hQ hy hS ha h
theorem tk10 {P : Program} {md : Region.Mode} {ops : Array Oper} {Q : Exit → Act → World → Prop} {S : World → Prop} {ds : List Nat} (i : Nat) (N : Option Tmp) (l' : Array Bool) {oi : Oper} {v : Value} {fuel : Nat} {l : Array Bool} {a a' : Act} {w : World} (h : wpAnyLast P md ops Q S ds fuel l' a' w)
 (hi : ops[i]? = some oi := by exact rfl) (hN : oi.dst = N := by exact rfl) (hc : takeB md ops ds l l' i = true := by exact take_ofW HT_.out HW_.out (by kernel_rfl)) (hQ : ∀ c a w, Q (.panic c) (a.put oi.dst v) w → Q (.panic c) a w := by exact fun _ _ _ h => h)
 (hy : YieldsIf P ops S oi v a := by exact Or.inl ⟨by rfl, by rintro w' ⟨s0, s1, s2, s3, s4, s5, s6, s7, s8, s9⟩; go_simp; with_reducible rfl⟩) (hS : S w := by exact hHeld) (ha : a.put N v = a' := by simp only [Act.put, List.setIfInBounds_toArray, List.set_cons_zero, List.set_cons_succ, i64_w, i32_w]; rfl) : wpAnyLast P md ops Q S ds (fuel + 1) l a w := take_ l' hi hN hc hQ hy hS ha h
theorem tk11 {P : Program} {md : Region.Mode} {ops : Array Oper} {Q : Exit → Act → World → Prop} {S : World → Prop} {ds : List Nat} (i : Nat) (N : Option Tmp) (l' : Array Bool) {oi : Oper} {v : Value} {fuel : Nat} {l : Array Bool} {a a' : Act} {w : World} (h : wpAnyLast P md ops Q S ds fuel l' a' w)
 (hi : ops[i]? = some oi := by exact rfl) (hN : oi.dst = N := by exact rfl) (hc : takeB md ops ds l l' i = true := by exact take_ofW HT_.out HW_.out (by kernel_rfl)) (hQ : ∀ c a w, Q (.panic c) (a.put oi.dst v) w → Q (.panic c) a w := by exact fun _ _ _ h => h)
 (hy : YieldsIf P ops S oi v a := by exact Or.inl ⟨by rfl, by rintro w' ⟨s0, s1, s2, s3, s4, s5, s6, s7, s8, s9, s10⟩; go_simp; with_reducible rfl⟩) (hS : S w := by exact hHeld) (ha : a.put N v = a' := by simp only [Act.put, List.setIfInBounds_toArray, List.set_cons_zero, List.set_cons_succ, i64_w, i32_w]; rfl) : wpAnyLast P md ops Q S ds (fuel + 1) l a w := take_ l' hi hN hc hQ hy hS ha h
theorem tk12 {P : Program} {md : Region.Mode} {ops : Array Oper} {Q : Exit → Act → World → Prop} {S : World → Prop} {ds : List Nat} (i : Nat) (N : Option Tmp) (l' : Array Bool) {oi : Oper} {v : Value} {fuel : Nat} {l : Array Bool} {a a' : Act} {w : World} (h : wpAnyLast P md ops Q S ds fuel l' a' w)
 (hi : ops[i]? = some oi := by exact rfl) (hN : oi.dst = N := by exact rfl) (hc : takeB md ops ds l l' i = true := by exact take_ofW HT_.out HW_.out (by kernel_rfl)) (hQ : ∀ c a w, Q (.panic c) (a.put oi.dst v) w → Q (.panic c) a w := by exact fun _ _ _ h => h)
 (hy : YieldsIf P ops S oi v a := by exact Or.inl ⟨by rfl, by rintro w' ⟨s0, s1, s2, s3, s4, s5, s6, s7, s8, s9, s10, s11⟩; go_simp; with_reducible rfl⟩) (hS : S w := by exact hHeld) (ha : a.put N v = a' := by simp only [Act.put, List.setIfInBounds_toArray, List.set_cons_zero, List.set_cons_succ, i64_w, i32_w]; rfl) : wpAnyLast P md ops Q S ds (fuel + 1) l a w := take_ l' hi hN hc hQ hy hS ha h
theorem tk13 {P : Program} {md : Region.Mode} {ops : Array Oper} {Q : Exit → Act → World → Prop} {S : World → Prop} {ds : List Nat} (i : Nat) (N : Option Tmp) (l' : Array Bool) {oi : Oper} {v : Value} {fuel : Nat} {l : Array Bool} {a a' : Act} {w : World} (h : wpAnyLast P md ops Q S ds fuel l' a' w)
 (hi : ops[i]? = some oi := by exact rfl) (hN : oi.dst = N := by exact rfl) (hc : takeB md ops ds l l' i = true := by exact take_ofW HT_.out HW_.out (by kernel_rfl)) (hQ : ∀ c a w, Q (.panic c) (a.put oi.dst v) w → Q (.panic c) a w := by exact fun _ _ _ h => h)
 (hy : YieldsIf P ops S oi v a := by exact Or.inl ⟨by rfl, by rintro w' ⟨s0, s1, s2, s3, s4, s5, s6, s7, s8, s9, s10, s11, s12⟩; go_simp; with_reducible rfl⟩) (hS : S w := by exact hHeld) (ha : a.put N v = a' := by simp only [Act.put, List.setIfInBounds_toArray, List.set_cons_zero, List.set_cons_succ, i64_w, i32_w]; rfl) : wpAnyLast P md ops Q S ds (fuel + 1) l a w := take_ l' hi hN hc hQ hy hS ha h
theorem tk14 {P : Program} {md : Region.Mode} {ops : Array Oper} {Q : Exit → Act → World → Prop} {S : World → Prop} {ds : List Nat} (i : Nat) (N : Option Tmp) (l' : Array Bool) {oi : Oper} {v : Value} {fuel : Nat} {l : Array Bool} {a a' : Act} {w : World} (h : wpAnyLast P md ops Q S ds fuel l' a' w)
 (hi : ops[i]? = some oi := by exact rfl) (hN : oi.dst = N := by exact rfl) (hc : takeB md ops ds l l' i = true := by exact take_ofW HT_.out HW_.out (by kernel_rfl)) (hQ : ∀ c a w, Q (.panic c) (a.put oi.dst v) w → Q (.panic c) a w := by exact fun _ _ _ h => h)
 (hy : YieldsIf P ops S oi v a := by exact Or.inl ⟨by rfl, by rintro w' ⟨s0, s1, s2, s3, s4, s5, s6, s7, s8, s9, s10, s11, s12, s13⟩; go_simp; with_reducible rfl⟩) (hS : S w := by exact hHeld) (ha : a.put N v = a' := by simp only [Act.put, List.setIfInBounds_toArray, List.set_cons_zero, List.set_cons_succ, i64_w, i32_w]; rfl) : wpAnyLast P md ops Q S ds (fuel + 1) l a w := take_ l' hi hN hc hQ hy hS ha h
theorem tk15 {P : Program} {md : Region.Mode} {ops : Array Oper} {Q : Exit → Act → World → Prop} {S : World → Prop} {ds : List Nat} (i : Nat) (N : Option Tmp) (l' : Array Bool) {oi : Oper} {v : Value} {fuel : Nat} {l : Array Bool} {a a' : Act} {w : World} (h : wpAnyLast P md ops Q S ds fuel l' a' w)
 (hi : ops[i]? = some oi := by exact rfl) (hN : oi.dst = N := by exact rfl) (hc : takeB md ops ds l l' i = true := by exact take_ofW HT_.out HW_.out (by kernel_rfl)) (hQ : ∀ c a w, Q (.panic c) (a.put oi.dst v) w → Q (.panic c) a w := by exact fun _ _ _ h => h)
 (hy : YieldsIf P ops S oi v a := by exact Or.inl ⟨by rfl, by rintro w' ⟨s0, s1, s2, s3, s4, s5, s6, s7, s8, s9, s10, s11, s12, s13, s14⟩; go_simp; with_reducible rfl⟩) (hS : S w := by exact hHeld) (ha : a.put N v = a' := by simp only [Act.put, List.setIfInBounds_toArray, List.set_cons_zero, List.set_cons_succ, i64_w, i32_w]; rfl) : wpAnyLast P md ops Q S ds (fuel + 1) l a w := take_ l' hi hN hc hQ hy hS ha h
end
section
open Go.RowKit Go.Proofs.YtckhjehibjdjdaaW.PrintWords Go.Proofs.YtckhjehibjdjdaaW.PrintLast Go.Proofs.YtckhjehibjdjdaaW.PrintMore
theorem hb_ {w W : World} (h : Below w.heap.size w W := by repeat (first | (with_reducible first | exact HB.out | apply below_alloc | apply pw_below_drewN | apply below_drew1 | refine below_set ?_ (Aside0.out (by with_reducible assumption))) | exact HB.out)) : Below w.heap.size w W := h
theorem bk_ {W W' w' : World} {g : Nat} {o : Obj} (h : Aside0 (W.heap[g]? = some o)) (hb : Below W'.heap.size W' w') (e : W'.heap[g]? = some o := by (with_reducible repeat (first | refine blk_drewN ?_ _ | refine blk_drew ?_ | refine blk_alloc ?_ _)); exact Aside0.out (by with_reducible assumption)) : Aside0 (w'.heap[g]? = some o) := ⟨blk_below e hb⟩
theorem bo_ {W W' : World} {g : Nat} {o : Obj} (h : Aside0 (W.heap[g]? = some o)) (e : W'.heap[g]? = some o := by (with_reducible repeat (first | refine blk_drewN ?_ _ | refine blk_drew ?_ | refine blk_alloc ?_ _)); exact Aside0.out (by with_reducible assumption)) : W'.heap[g]? = some o := e
theorem hs_ {w W w2 : World} (k : Below W.heap.size W w2) (h : Below w.heap.size w W := by repeat (first | (with_reducible first | exact HB.out | apply below_alloc | apply pw_below_drewN | apply below_drew1 | refine below_set ?_ (Aside0.out (by with_reducible assumption))) | exact HB.out)) : Aside0 (Below w.heap.size w w2) := ⟨below_step h k⟩
theorem ge_ {w W : World} {g : Nat} (hg : g = W.heap.size) (h : Below w.heap.size w W := by repeat (first | (with_reducible first | exact HB.out | apply below_alloc | apply pw_below_drewN | apply below_drew1 | refine below_set ?_ (Aside0.out (by with_reducible assumption))) | exact HB.out)) : Aside0 (w.heap.size ≤ g) := ⟨hg ▸ below_size h⟩
theorem nl_ {W W' : World} {g g' : Nat} {o : Obj} (h : Aside0 (W.heap[g]? = some o)) (hg : g' = W'.heap.size) (e : W'.heap[g]? = some o := by (with_reducible repeat (first | refine blk_drewN ?_ _ | refine blk_drew ?_ | refine blk_alloc ?_ _)); exact Aside0.out (by with_reducible assumption)) : Aside0 (g ≠ g') := ⟨by rw [hg]; exact Nat.ne_of_lt (blk_lt e)⟩
theorem nr_ {W W' : World} {g g' : Nat} {o : Obj} (h : Aside0 (W.heap[g]? = some o)) (hg : g' = W'.heap.size) (e : W'.heap[g]? = some o := by (with_reducible repeat (first | refine blk_drewN ?_ _ | refine blk_drew ?_ | refine blk_alloc ?_ _)); exact Aside0.out (by with_reducible assumption)) : Aside0 (g' ≠ g) := ⟨by rw [hg]; exact Nat.ne_of_gt (blk_lt e)⟩
theorem cs_ {α : Type} {K : Kd α} {w W : World} {A : Option Addr} {n : Nat} {l : List α} (h : Aside0 (Kd.C K w A n l)) (e : Kd.C K W A n l := by repeat (first | exact Kd.C_below (Aside0.out (by with_reducible assumption)) HB.out | (with_reducible refine Kd.C_alloc ?_ _) | (with_reducible refine Kd.C_drewN ?_ _) | (with_reducible refine Kd.C_drew ?_))) : Kd.C K W A n l := e
theorem bs_ {p : Prop} (e : p := by (repeat (with_reducible first | refine blk_drewN ?_ _ | refine blk_drew ?_ | refine blk_alloc ?_ _ | apply blk_put | apply blk_far)); exact Aside0.out (by assumption); all_goals first | rfl | exact Aside0.out (by assumption)) : p := e
theorem kcl_ {w : World} {g i : Nat} {t : TypeId} {cs : Array Value} {v : Value} (h : Aside0 (w.heap[g]? = some (.cells cs t (0, 0)))) (e : cs[i]? = some v) : w.cell? ⟨g, i, none⟩ = some v := (blk_cell h.out i).trans e
theorem kcd_ {w : World} {g i n : Nat} {t : TypeId} {cs : Array Value} {v : Value} (h : Aside0 (w.heap[g]? = some (.cells cs t (0, 0)))) (e : cs[i]? = some v) : (w.drewN n).cell? ⟨g, i, none⟩ = some v := (blk_cell h.out i).trans e
theorem cx_ {w W : World} {a : Addr} {v : Value} (h : w.cell? a = some v) (hb : Below w.heap.size w W := by exact HB.out) : W.cell? a = some v := (hb.cell (World.block_lt_of_cell? w _ h)).trans h
theorem pv {P : Program} {md : Region.Mode} {ops : Array Oper} {Q : Exit → Act → World → Prop} {S : World → Prop} {ds : List Nat} (i : Nat) (N : Option Tmp) (l' : Array Bool) {oi : Oper} {fuel : Nat} {l : Array Bool} {a a' : Act} {w : World} (h : wpAnyLast P md ops Q S ds fuel l' a' w)
 (hi : ops[i]? = some oi := by exact rfl) (hN : oi.dst = N := by exact rfl) (hc : anyB md ops l l' i = true := by exact any_of HT_.out (by kernel_rfl)) (hQ : ∀ c a w, Q (.panic c) (a.put oi.dst undef) w → Q (.panic c) a w := by exact fun _ _ _ h => h)
 (hy : Yields P ops oi undef a := by exact Or.inr ⟨by rfl, rfl⟩) (ha : a.put N undef = a' := by simp only [Act.put, List.setIfInBounds_toArray, List.set_cons_zero, List.set_cons_succ, i64_w, i32_w]; rfl) : wpAnyLast P md ops Q S ds (fuel + 1) l a w := pure_ l' hi hN hc hQ hy ha h
theorem bz2_ {W : World} {g : Nat} {t : TypeId} {a b : Value} (h : Aside0 (W.heap[g]? = some (.cells #[a, b] t (0, 0)))) : W.cell? ⟨g, 0, none⟩ = some a ∧ W.cell? ⟨g, 1, none⟩ = some b ∧ W.frozen? ⟨g, 0, none⟩ = false ∧ W.frozen? ⟨g, 1, none⟩ = false := ⟨blk_cell h.out 0, blk_cell h.out 1, blk_frozen h.out 0, blk_frozen h.out 1⟩
theorem bz4_ {W : World} {g : Nat} {t : TypeId} {a b c d : Value} (h : Aside0 (W.heap[g]? = some (.cells #[a, b, c, d] t (0, 0)))) : W.cell? ⟨g, 0, none⟩ = some a ∧ W.cell? ⟨g, 1, none⟩ = some b ∧ W.cell? ⟨g, 2, none⟩ = some c ∧ W.cell? ⟨g, 3, none⟩ = some d ∧ W.frozen? ⟨g, 0, none⟩ = false ∧ W.frozen? ⟨g, 1, none⟩ = false ∧ W.frozen? ⟨g, 2, none⟩ = false ∧ W.frozen? ⟨g, 3, none⟩ = false := ⟨blk_cell h.out 0, blk_cell h.out 1, blk_cell h.out 2, blk_cell h.out 3, blk_frozen h.out 0, blk_frozen h.out 1, blk_frozen h.out 2, blk_frozen h.out 3⟩
end


theorem Z0 {p : Prop} (h : p := by (try simp only [List.map_toArray, List.map_cons, List.map_nil]); first | done | rfl | (simp only [List.length_drop, List.length_take]; rfl)) : p := h
theorem Z1 {p : Prop} (h : p := by first | (with_reducible assumption) | assumption) : p := h
theorem Z2 {p : Prop} (h : p := by first | rfl | (simp; done) | (simp [*]; done)) : p := h
theorem Z3 {p : Prop} (h : p := by rw [List.length_append]; have := HLN.out; have := HL1.out; omega) : p := h
theorem Z4 {p : Prop} (h : p := by have := HL1.out; omega) : p := h
theorem Z5 {p : Prop} (h : p := by (with_reducible repeat (first | apply Kd.R_alloc | apply Kd.R_drewN | apply Kd.R_drew)); exact HO_8.out) : p := h
theorem Z6 {p : Prop} (h : p := by (with_reducible repeat (first | apply Kd.R_alloc | apply Kd.R_drewN | apply Kd.R_drew)); exact HO634.out) : p := h
theorem Z7 {p : Prop} (h : p := by have := HLN.out; omega) : p := h
theorem Z8 {p : Prop} (h : p := by have := HML1.out; have := HL1.out; omega) : p := h
theorem Z9 {p : Prop} (h : p := by have := HLN.out; have := HL1.out; omega) : p := h
theorem Z10 {p : Prop} (h : p := by have := HL1.out; have := HLN.out; omega) : p := h
end Go.Proofs.Ytckhjehibjdjdaa
namespace Go.Proofs.Ytckhjehibjdjdaa.P
open Go.RowKit Go.Proofs.YtckhjehibjdjdaaW.PrintWords Go.Proofs.YtckhjehibjdjdaaW.PrintLast Go.Proofs.YtckhjehibjdjdaaW.PrintMore
attribute [local go_sem] max2_int min2_int max_two min_two max_three min_three max_four min_four
set_option linter.unusedVariables false
set_option linter.unusedSimpArgs false
def errW : Option Int → Value
 | none => .nilIface
 | some c => .iface 0 (.int .i64 c)
theorem errW_none : errW none = .nilIface := rfl
theorem errW_some (c : Int) : errW (some c) = .iface 0 (.int .i64 c) := rfl
theorem info3 : (Try.prog.info? 3).map (fun i => (i.zero, i.size, i.bytes)) = some (some (.int .i64 0), 1, 8) := by kernel_rfl
theorem info51 : (Try.prog.info? 51).map (fun i => (i.zero, i.size, i.bytes)) = some (some (.agg #[(.int .i64 0), (.int .i64 0), (.int .u64 0), (.int .i64 0)]), 4, 32) := by kernel_rfl
theorem info52 : (Try.prog.info? 52).map (fun i => (i.zero, i.size, i.bytes)) = some (some (.agg #[(.int .i64 0), (.int .i64 0), (.int .u64 0), (.int .i64 0)]), 4, 32) := by kernel_rfl
structure S48 where
 f0 : Int
 f1 : Int
def z48 : S48 := ⟨(0 : Int), (0 : Int)⟩
def k48 : Kd S48 := Kd.iso (Kd.pair (Kd.int .i64) (Kd.int .i64)) (fun x : S48 => (x.f0, x.f1))
theorem k48_open {w : World} {x : S48} {cs : List Value} (h : k48.K w x cs) : cs = [.int .i64 x.f0, .int .i64 x.f1] := by
 obtain ⟨_, _, rfl, rfl, rfl⟩ := h
 exact rfl
theorem k48_mkM (w : World) (base : Nat) (ok : Nat → Prop) (x : S48)  : k48.M w base ok x [.int .i64 x.f0, .int .i64 x.f1] := ⟨[.int .i64 x.f0], [.int .i64 x.f1], rfl, rfl, rfl⟩
structure S51 where
 f0 : S48
 f1 : Int
 f2 : Int
def z51 : S51 := ⟨z48, (0 : Int), (0 : Int)⟩
def k51 : Kd S51 := Kd.iso (Kd.pair k48 (Kd.pair (Kd.int .u64) (Kd.int .i64))) (fun x : S51 => (x.f0, x.f1, x.f2))
theorem k51_open {w : World} {x : S51} {cs : List Value} (h : k51.K w x cs) : cs = [.int .i64 x.f0.f0, .int .i64 x.f0.f1, .int .u64 x.f1, .int .i64 x.f2] := by
 obtain ⟨_, _, rfl, s0, ⟨_, _, rfl, rfl, rfl⟩⟩ := h
 obtain rfl := k48_open s0
 exact rfl
theorem k51_mkM (w : World) (base : Nat) (ok : Nat → Prop) (x : S51)  : k51.M w base ok x [.int .i64 x.f0.f0, .int .i64 x.f0.f1, .int .u64 x.f1, .int .i64 x.f2] := ⟨[.int .i64 x.f0.f0, .int .i64 x.f0.f1], [.int .u64 x.f1, .int .i64 x.f2], rfl, (k48_mkM w base ok x.f0 ), ⟨[.int .u64 x.f1], [.int .i64 x.f2], rfl, rfl, rfl⟩⟩
def rd_T51 (xs : List S51) (i : Int) : S51 := xs.getD i.toNat z51
theorem at_T51 {w : World} {A : Option Addr} {n : Nat} {xs : List S51} (h : Kd.C k51 w A n xs) (i : Int) (h0 : 0 ≤ i) (h1 : i < n) : ∃ ad , A = some ad ∧ w.cell? (ad.add (i.toNat * 4)) = some (.int .i64 (rd_T51 xs i).f0.f0) ∧ w.cell? ⟨(ad.add (i.toNat * 4)).block, (ad.add (i.toNat * 4)).off + 1, none⟩ = some (.int .i64 (rd_T51 xs i).f0.f1) ∧ w.cell? ⟨(ad.add (i.toNat * 4)).block, (ad.add (i.toNat * 4)).off + 2, none⟩ = some (.int .u64 (rd_T51 xs i).f1) ∧ w.cell? ⟨(ad.add (i.toNat * 4)).block, (ad.add (i.toNat * 4)).off + 3, none⟩ = some (.int .i64 (rd_T51 xs i).f2) := by
 obtain ⟨ad, c, e, _, hK, hc0⟩ := Kd.C_get h z51 i h0 h1
 have hc : ∀ j u, c[j]? = some u → w.cell? (ad.add (i.toNat * 4 + j)) = some u := hc0
 obtain rfl := k51_open hK
 exact ⟨ad, e, hc 0 _ rfl, by rw [← add_field _ _ 1 (by omega)]; exact hc 1 _ rfl, by rw [← add_field _ _ 2 (by omega)]; exact hc 2 _ rfl, by rw [← add_field _ _ 3 (by omega)]; exact hc 3 _ rfl⟩
structure S52 where
 f0 : S48
 f1 : Int
 f2 : Int
def z52 : S52 := ⟨z48, (0 : Int), (0 : Int)⟩
def k52 : Kd S52 := Kd.iso (Kd.pair k48 (Kd.pair (Kd.int .u64) (Kd.int .i64))) (fun x : S52 => (x.f0, x.f1, x.f2))
theorem k52_open {w : World} {x : S52} {cs : List Value} (h : k52.K w x cs) : cs = [.int .i64 x.f0.f0, .int .i64 x.f0.f1, .int .u64 x.f1, .int .i64 x.f2] := by
 obtain ⟨_, _, rfl, s0, ⟨_, _, rfl, rfl, rfl⟩⟩ := h
 obtain rfl := k48_open s0
 exact rfl
theorem k52_mkM (w : World) (base : Nat) (ok : Nat → Prop) (x : S52)  : k52.M w base ok x [.int .i64 x.f0.f0, .int .i64 x.f0.f1, .int .u64 x.f1, .int .i64 x.f2] := ⟨[.int .i64 x.f0.f0, .int .i64 x.f0.f1], [.int .u64 x.f1, .int .i64 x.f2], rfl, (k48_mkM w base ok x.f0 ), ⟨[.int .u64 x.f1], [.int .i64 x.f2], rfl, rfl, rfl⟩⟩
def rd_T52 (xs : List S52) (i : Int) : S52 := xs.getD i.toNat z52
theorem at_T52 {w : World} {A : Option Addr} {n : Nat} {xs : List S52} (h : Kd.C k52 w A n xs) (i : Int) (h0 : 0 ≤ i) (h1 : i < n) : ∃ ad , A = some ad ∧ w.cell? (ad.add (i.toNat * 4)) = some (.int .i64 (rd_T52 xs i).f0.f0) ∧ w.cell? ⟨(ad.add (i.toNat * 4)).block, (ad.add (i.toNat * 4)).off + 1, none⟩ = some (.int .i64 (rd_T52 xs i).f0.f1) ∧ w.cell? ⟨(ad.add (i.toNat * 4)).block, (ad.add (i.toNat * 4)).off + 2, none⟩ = some (.int .u64 (rd_T52 xs i).f1) ∧ w.cell? ⟨(ad.add (i.toNat * 4)).block, (ad.add (i.toNat * 4)).off + 3, none⟩ = some (.int .i64 (rd_T52 xs i).f2) := by
 obtain ⟨ad, c, e, _, hK, hc0⟩ := Kd.C_get h z52 i h0 h1
 have hc : ∀ j u, c[j]? = some u → w.cell? (ad.add (i.toNat * 4 + j)) = some u := hc0
 obtain rfl := k52_open hK
 exact ⟨ad, e, hc 0 _ rfl, by rw [← add_field _ _ 1 (by omega)]; exact hc 1 _ rfl, by rw [← add_field _ _ 2 (by omega)]; exact hc 2 _ rfl, by rw [← add_field _ _ 3 (by omega)]; exact hc 3 _ rfl⟩
structure S41 where
 f0 : Int
 f1 : Int
 f2 : Int
 f3 : Bool
 f4 : (List S52)
structure S27 where
 f0 : Int
 f1 : Int
 f2 : Int
 f3 : Int
def k27 : Kd S27 := Kd.iso (Kd.pair (Kd.int .i64) (Kd.pair (Kd.int .i64) (Kd.pair (Kd.int .i64) (Kd.int .i64)))) (fun x : S27 => (x.f0, x.f1, x.f2, x.f3))
theorem k27_open {w : World} {x : S27} {cs : List Value} (h : k27.K w x cs) : cs = [.int .i64 x.f0, .int .i64 x.f1, .int .i64 x.f2, .int .i64 x.f3] := by
 obtain ⟨_, _, rfl, rfl, ⟨_, _, rfl, rfl, ⟨_, _, rfl, rfl, rfl⟩⟩⟩ := h
 exact rfl
end Go.Proofs.Ytckhjehibjdjdaa.P
namespace Go.Proofs.Ytckhjehibjdjdaa.RF
open Go.RowKit Go.Shelf
def AbidesC {β : Type} (C : Nat) (J : β → World → Prop) : Prop :=
 ∀ s W W' row, J s W → W.grownBy W' row → (∀ r, row = some r → r = C) → J s W'
def OwnC {β : Type} (B C : Nat) (I : β → World → Prop) : Prop :=
 ∀ s W W' row, I s W → W.grownBy W' row → (∀ r, row = some r → r = C ∨ (B ≤ r ∧ ∃ o : Obj, W.heap[r]? = some o ∧ o.isCells = false)) → I s W'
def KpC (C : Nat) (W W' : World) : Prop := W'.heap[C]? = W.heap[C]?
def SeqStopsC {α : Type} (F : Fence) (n : Nat) (P : Program) (g : Nat) (lb : Array Value) (encs : α → Array Value) (C : Nat) (S Sp : List α → Prop) (w : World) : Prop :=
 ∀ (l : Nat) (J Jx : List α → World → Prop) (W : World), Below w.heap.size w W → AbidesC C J → AbidesC C Jx →
  (∀ pre x W1, J pre W1 → Sp (pre ++ [x]) → YieldAt F (n - 1) P l (encs x) W1 fun e W' =>
   (e = .returned (.bool true) ∧ J (pre ++ [x]) W' ∧ KpC C W1 W') ∨ (e = .returned (.bool false) ∧ Jx (pre ++ [x]) W')) →
  J [] W →
  CallsIn F n P g (#[.func (.yield l) #[] #[]] ++ lb) W fun e W' => (∃ v, e = .returned v) ∧ ((∃ xs, S xs ∧ J xs W') ∨ (∃ pre, Sp pre ∧ Jx pre W'))
variable {F : Fence} {n : Nat} {P : Program}
theorem kpc_put {C : Nat} (W : World) (l : Nat) (o' : Obj) (h : C ≠ l) : KpC C W (W.putObj l o') := World.putObj_heap_other h
theorem range_cap {α : Type} {g : Operand} {ps : Array Tmp} {assign body : Code} {Q : Exit → Act → World → Prop} {a : Act} {w : World} (C : Nat) (hC : C < w.heap.size)
  (hro : F.round = none) (h1 : 1 ≤ n) {gf : Nat} {lb : Array Value} (hg : a.eval g = .func (.func gf) #[] lb) (hFg : F.fn gf) (eg : ∀ args w, (callFunc gf args).run P w = .ok (.enter gf args) w)
  {encs : α → Array Value} {S Sp : List α → Prop} (hseq : SeqStopsC F (n - 1) P gf lb encs C S Sp w) (hps : ∀ x, (encs x).size = ps.size)
  (I : List α → World → Prop) (Ix : Code → List α → World → Prop) (hI : OwnC w.heap.size C I) (hIx : ∀ c, OwnC w.heap.size C (Ix c)) (h0 : I [] w) (a₁ : α → Act)
  (hassign : ∀ (l : Nat) (x : α) (W : World) (K : Act → World → Prop), K (a₁ x) W →
   assign.wpIn (F.inRound l) (n - 1 - 1) P (Exit.then K (fun _ _ _ => False)) { tmps := (ps.zip (encs x)).foldl (fun t (p, v) => t.setIfInBounds p v) a.tmps, defers := [] } W)
  (hbody : ∀ (l : Nat) (pre : List α) (x : α) (W : World), I pre W → Sp (pre ++ [x]) → body.wpIn (F.inRound l) (n - 1 - 1) P (ownPostK (KpC C) I Ix (pre ++ [x]) W) (a₁ x) W)
  (hdone : ∀ (D : Nat) (xs : List α) (W : World), w.heap.size ≤ D → S xs → I xs W → W.heap[D]? = some (.deferred (some [])) → Q .normal { a with defers := { target := .collected D, args := #[] } :: a.defers } W)
  (hstop : ∀ (D : Nat) (c : Code) (pre : List α) (W : World), w.heap.size ≤ D → Sp pre → Ix c pre W → W.heap[D]? = some (.deferred (some [])) → c.wpIn F n P Q { a with defers := { target := .collected D, args := #[] } :: a.defers } W) :
  (Code.rangeFunc g ps assign body).wpIn F n P Q a w := by
 have put : ∀ {β : Type} {J : β → World → Prop}, OwnC w.heap.size C J → ∀ {s : β} {W : World} {l : Nat} {o : Obj} (o' : Obj), J s W → w.heap.size ≤ l → W.heap[l]? = some o → o.isCells = false → J s (W.putObj l o') :=
  fun h s W l o o' hs hB hl ho => h s W _ (some l) hs (grownBy_putObj' W l o') (fun r e => by cases e; exact .inr ⟨hB, o, hl, ho⟩)
 have new : ∀ {β : Type} {J : β → World → Prop}, OwnC w.heap.size C J → ∀ {s : β} {W : World} (o : Obj), J s W → J s (W.alloc o) :=
  fun h s W o hs => h s W _ none hs (World.grownBy_alloc W o none) (fun r e => by cases e)
 refine wpIn_rangeFunc ?_
 intro fn hfn
 rw [hro]
 obtain ⟨rec, hrec⟩ : ∃ rec : LoopState → Option Code → Loop, rec = fun st pe => { state := st, pending := pe, fn, tmps := a.tmps, params := ps, assign, body, defers := w.heap.size } := ⟨_, rfl⟩
 have hrs : ∀ st pe, (rec st pe).state = st := fun st pe => by rw [hrec]
 obtain ⟨W1, hW1⟩ : ∃ W1, (w.alloc (.deferred (some []))).alloc (.loop (rec .ready none)) = W1 := ⟨_, rfl⟩
 have hL1 : W1.heap[w.heap.size + 1]? = some (.loop (rec .ready none)) := by
  rw [← hW1]; have := World.alloc_heap_new (w.alloc (.deferred (some []))) (.loop (rec .ready none)); rwa [World.size_alloc] at this
 have hK1 : W1.heap[w.heap.size]? = some (.deferred (some [])) := by
  rw [← hW1]; exact (Below.heap_alloc _ _ _ (by simp)).trans (World.alloc_heap_new w _)
 have hI1 : I [] W1 := by rw [← hW1]; exact new hI _ (new hI _ h0)
 have hb1 : Below w.heap.size w W1 := by
  rw [← hW1]; exact ((Below.refl _ w).alloc (Nat.le_refl _) _).alloc (by simp) _
 have keep : ∀ {A B : World} {row : Option Nat}, A.grownBy B row → (∀ r, row = some r → r = C) → ∀ {k : Nat} {o : Obj}, A.heap[k]? = some o → w.heap.size ≤ k → B.heap[k]? = some o := by
  intro A B row hg' hr k o hk hle
  refine (hg'.block k (Array.getElem?_eq_some_iff.1 hk).1 fun e => ?_).trans hk
  have := hr k e.symm
  omega
 refine ⟨w.heap.size + 1, [{ target := .collected w.heap.size, args := #[] }], W1, { target := .fn (.func gf) lb, args := #[.func (.yield (w.heap.size + 1)) #[] #[]] }, W1, gf,
  #[.func (.yield (w.heap.size + 1)) #[] #[]] ++ lb, W1, ?_, ?_, ?_, ?_, fun _ => h1, ?_⟩
 ·rw [← hW1, hrec]; exact run_enterLoop_outer _ _ _ _ _
 ·simp only [resolve, hg]
  simp [go_sem]
 ·intro f' hf'; simp [Target.leads] at hf'; subst hf'; exact hFg
 ·simp [invoke, go_sem, eg]
 ·refine (hseq (w.heap.size + 1)
   (fun pre W => I pre W ∧ W.heap[w.heap.size + 1]? = some (.loop (rec .ready none)) ∧ W.heap[w.heap.size]? = some (.deferred (some [])))
   (fun pre W => ∃ c, Ix c pre W ∧ W.heap[w.heap.size + 1]? = some (.loop (rec .done (some c))) ∧ W.heap[w.heap.size]? = some (.deferred (some [])))
   W1 hb1
   (fun s A B row hs hg' hr => ⟨hI s A B row hs.1 hg' (fun r e => .inl (hr r e)), keep hg' hr hs.2.1 (by omega), keep hg' hr hs.2.2 (Nat.le_refl _)⟩)
   (fun s A B row hs hg' hr => by
    obtain ⟨c, hc, hl, hk⟩ := hs
    exact ⟨c, hIx c s A B row hc hg' (fun r e => .inl (hr r e)), keep hg' hr hl (by omega), keep hg' hr hk (Nat.le_refl _)⟩)
   ?_ ⟨hI1, hL1, hK1⟩).mono ?_
  ·rintro pre x W ⟨hi, hl, hk⟩ hsp
   have hlt : w.heap.size + 1 < W.heap.size := (Array.getElem?_eq_some_iff.1 hl).1
   have hy := run_yield (P := P) (args := encs x) hl (by rw [hrec]; exact hps x)
   rw [hrec] at hy
   refine ⟨fn, _, assign, body, hy, roundIn_of_wpIn hfn (hassign _ x W _ ⟨_, run_beginRound hl (hrs _ _), ?_⟩)⟩
   obtain ⟨busy, hbusy⟩ : ∃ busy : Obj, busy = .loop { rec .ready none with state := .busy } := ⟨_, rfl⟩
   have hl2 : (W.putObj (w.heap.size + 1) busy).heap[w.heap.size + 1]? = some busy := World.putObj_heap_same hlt
   have hk2 : (W.putObj (w.heap.size + 1) busy).heap[w.heap.size]? = some (.deferred (some [])) := (World.putObj_heap_other (by omega)).trans hk
   have hb2 : KpC C W (W.putObj (w.heap.size + 1) busy) := kpc_put W _ _ (by omega)
   rw [← hbusy]
   refine wpIn_mono (hbody _ pre x _ (put hI _ hi (by omega) hl rfl) hsp) ?_
   have fin : ∀ (jump : Option Code) (W3 : World), KeepsOthers (W.putObj (w.heap.size + 1) busy) W3 →
     (Instr.endRound (w.heap.size + 1) jump).run P W3 = .ok (.bool jump.isNone) (W3.putObj (w.heap.size + 1) (.loop (rec (if jump.isNone then .ready else .done) jump))) ∧
     W3.heap[w.heap.size + 1]? = some busy ∧
     (W3.putObj (w.heap.size + 1) (.loop (rec (if jump.isNone then .ready else .done) jump))).heap[w.heap.size + 1]? = some (.loop (rec (if jump.isNone then .ready else .done) jump)) ∧
     (W3.putObj (w.heap.size + 1) (.loop (rec (if jump.isNone then .ready else .done) jump))).heap[w.heap.size]? = some (.deferred (some [])) := fun jump W3 hk3 => by
    have hl3 := hk3.same _ _ hl2 (by rw [hbusy]; rfl)
    have hl3' := hl3
    rw [hbusy] at hl3
    have := run_endRound (P := P) jump hl3
    rw [hrec] at this ⊢
    exact ⟨this, hl3', World.putObj_heap_same (Array.getElem?_eq_some_iff.1 hl3).1, (World.putObj_heap_other (by omega)).trans (hk3.same _ _ hk2 rfl)⟩
   have hbc : busy.isCells = false := by rw [hbusy]; rfl
   rintro e a3 W3 hp
   cases e with
   | normal =>
    obtain ⟨hk3, hkp3, hi3⟩ := hp
    obtain ⟨hr, hl3, hl4, hk4⟩ := fin none W3 hk3
    exact ⟨_, _, hr, .inl ⟨rfl, ⟨put hI _ hi3 (by omega) hl3 hbc, hl4, hk4⟩, ((kpc_put W3 _ _ (by omega)).trans hkp3).trans hb2⟩⟩
   | ret =>
    obtain ⟨hk3, hi3⟩ := hp
    obtain ⟨hr, hl3, hl4, hk4⟩ := fin (some .ret) W3 hk3
    exact ⟨_, _, hr, .inr ⟨rfl, .ret, put (hIx _) _ hi3 (by omega) hl3 hbc, hl4, hk4⟩⟩
   | exit id =>
    obtain ⟨hk3, hi3⟩ := hp
    obtain ⟨hr, hl3, hl4, hk4⟩ := fin (some (.exit id)) W3 hk3
    exact ⟨_, _, hr, .inr ⟨rfl, .exit id, put (hIx _) _ hi3 (by omega) hl3 hbc, hl4, hk4⟩⟩
   | goto t =>
    obtain ⟨hk3, hi3⟩ := hp
    obtain ⟨hr, hl3, hl4, hk4⟩ := fin (some (.goto t)) W3 hk3
    exact ⟨_, _, hr, .inr ⟨rfl, .goto t, put (hIx _) _ hi3 (by omega) hl3 hbc, hl4, hk4⟩⟩
   | panic ch => exact hp.elim
   | outgrown => exact hp.elim
  ·rintro e W2 ⟨⟨v, rfl⟩, (⟨xs, hS, hi, hl, hk⟩ | ⟨pre, hSp, c, hi, hl, hk⟩)⟩
   ·refine ⟨none, _, ?_, hdone _ xs (W2.putObj (w.heap.size + 1) (.loop { rec .ready none with state := .exhausted })) (Nat.le_refl _) hS (put hI _ hi (by omega) hl rfl) ((World.putObj_heap_other (by omega)).trans hk)⟩
    have := run_endLoop (P := P) hl (by rw [hrec]; simp); rw [hrec] at this ⊢; exact this
   ·refine ⟨some c, _, ?_, hstop _ c pre (W2.putObj (w.heap.size + 1) (.loop { rec .done (some c) with state := .exhausted })) (Nat.le_refl _) hSp (put (hIx c) _ hi (by omega) hl rfl) ((World.putObj_heap_other (by omega)).trans hk)⟩
    have := run_endLoop (P := P) hl (by rw [hrec]; simp); rw [hrec] at this ⊢; exact this
theorem calls_marks {f : FuncId} {fn : Func} {c : Code} {args : Array Value} {w : World} {R : Ending → World → Prop} (hf : P.funcs[f]? = some fn) (hb : fn.body = some c)
  (h : c.wp P (bodyPostM Fence.wide 6 P fn R) { tmps := args ++ Array.replicate (fn.ntmps - args.size) undef, defers := [] } w) : Calls P f args w R :=
 (callsIn_wide (n := 6)).1 (callsIn_of_wp_marks hf hb trivial (wpIn_wide.2 h))
theorem marks_ret0 {fn : Func} {tmps : Array Value} {w : World} {R : Ending → World → Prop} {v : Value} (hv : (results fn tmps).run P w = .ok v w) (hR : R (.returned v) w) :
  bodyPostM Fence.wide 6 P fn R .ret { tmps := tmps, defers := [] } w := ⟨v, hv, hR⟩
theorem marks_ret1 {fn : Func} {tmps : Array Value} {w : World} {R : Ending → World → Prop} {v : Value} {D : Nat} (hD : w.heap[D]? = some (.deferred (some [])))
  (hv : (results fn tmps).run P (w.putObj D (.deferred none)) = .ok v (w.putObj D (.deferred none))) (hR : R (.returned v) (w.putObj D (.deferred none))) :
  bodyPostM Fence.wide 6 P fn R .ret { tmps := tmps, defers := [{ target := .collected D, args := #[] }] } w :=
 ⟨by simp, .inl ⟨_, _, rfl, run_takeDeferred hD, v, hv, hR⟩⟩
theorem below_mark {B : Nat} {w W : World} {D : Nat} {o o' : Obj} (h : Below B w W) (hB : B ≤ D) (hD : W.heap[D]? = some o) : Below B w (W.putObj D o') :=
 h.trans ((Below.refl B W).grown (grownBy_putObj' W D o') (by have := (Array.getElem?_eq_some_iff.1 hD).1; omega) (fun k e => by cases e; omega))
end Go.Proofs.Ytckhjehibjdjdaa.RF
namespace Go.Proofs.Ytckhjehibjdjdaa.Bits
def pos (m : Nat) : List Nat := (List.range 64).filter fun i => m.testBit i
def orAll (l : List Nat) : Nat := l.foldl (fun a i => a ||| 2 ^ i) 0
def lowN (m n : Nat) : Nat := orAll ((pos m).take n)
def popN (m : Nat) : Nat := (pos m).length
theorem testBit_orFold (l : List Nat) (a j : Nat) : (l.foldl (fun a i => a ||| 2 ^ i) a).testBit j = (a.testBit j || decide (j ∈ l)) := by
 induction l generalizing a with
 | nil => simp
 | cons i l ih =>
  rw [List.foldl_cons, ih, Nat.testBit_or, Nat.testBit_two_pow, Bool.or_assoc]
  congr 1
  by_cases h : i = j
  ·simp [h]
  ·have h' : j ≠ i := fun e => h e.symm
   simp [h, h']
theorem testBit_orAll (l : List Nat) (j : Nat) : (orAll l).testBit j = decide (j ∈ l) := by
 unfold orAll; rw [testBit_orFold]; simp
theorem orAll_snoc (l : List Nat) (i : Nat) : orAll (l ++ [i]) = orAll l ||| 2 ^ i := by simp [orAll, List.foldl_append]
theorem mem_pos {m j : Nat} : j ∈ pos m ↔ j < 64 ∧ m.testBit j = true := by simp [pos]
theorem pos_zero : pos 0 = [] := by simp [pos]
theorem lt_of_testBit {m j : Nat} (hm : m < 2 ^ 64) (h : m.testBit j = true) : j < 64 := by
 rcases Nat.lt_or_ge j 64 with h1 | h1
 ·exact h1
 ·rw [Nat.testBit_lt_two_pow (Nat.lt_of_lt_of_le hm (Nat.pow_le_pow_right (by omega) h1))] at h
  cases h
theorem orAll_pos {m : Nat} (hm : m < 2 ^ 64) : orAll (pos m) = m := by
 apply Nat.eq_of_testBit_eq
 intro j
 rw [testBit_orAll]
 by_cases h : m.testBit j = true
 ·rw [h]; exact decide_eq_true (mem_pos.2 ⟨lt_of_testBit hm h, h⟩)
 ·have h' : m.testBit j = false := by simpa using h
  rw [h']; exact decide_eq_false (fun e => h (mem_pos.1 e).2)
theorem pos_sorted (m : Nat) : (pos m).Pairwise (· < ·) := List.Pairwise.filter _ List.pairwise_lt_range
theorem least_bit (m : Nat) (h0 : m ≠ 0) : ∃ i q, m = 2 ^ (i + 1) * q + 2 ^ i := by
 induction m using Nat.strongRecOn with
 | _ m ih =>
  rcases Nat.mod_two_eq_zero_or_one m with h | h
  ·obtain ⟨i, q, hq⟩ := ih (m / 2) (by omega) (by omega)
   refine ⟨i + 1, q, ?_⟩
   have : m = 2 * (m / 2) := by omega
   rw [this, hq, Nat.pow_succ 2 (i + 1), Nat.pow_succ 2 i]
   generalize 2 ^ i = p
   rw [Nat.mul_add, Nat.mul_comm (p * 2) 2, Nat.mul_assoc 2 (p * 2) q, Nat.mul_comm 2 p]
  ·exact ⟨0, m / 2, by simp; omega⟩
theorem tb_mul_add (i a b j : Nat) (hb : b < 2 ^ i) : (2 ^ i * a + b).testBit j = if j < i then b.testBit j else a.testBit (j - i) := Nat.testBit_two_pow_mul_add a hb j
theorem clear_low {i q : Nat} : (2 ^ (i + 1) * q + 2 ^ i) &&& (2 ^ (i + 1) * q + 2 ^ i - 1) = 2 ^ (i + 1) * q := by
 have hp : 0 < 2 ^ i := Nat.two_pow_pos i
 have hp2 : 2 ^ (i + 1) = 2 * 2 ^ i := by rw [Nat.pow_succ]; omega
 have e : 2 ^ (i + 1) * q + 2 ^ i - 1 = 2 ^ (i + 1) * q + (2 ^ i - 1) := by omega
 rw [e]
 apply Nat.eq_of_testBit_eq
 intro j
 rw [Nat.testBit_and, tb_mul_add _ _ _ _ (by omega), tb_mul_add _ _ _ _ (by omega)]
 have h0 : (2 ^ (i + 1) * q).testBit j = if j < i + 1 then false else q.testBit (j - (i + 1)) := by
  have := tb_mul_add (i + 1) q 0 j (Nat.two_pow_pos _)
  simpa using this
 rw [h0]
 by_cases hj : j < i + 1
 ·rw [if_pos hj, if_pos hj, if_pos hj, Nat.testBit_two_pow]
  by_cases h : i = j
  ·subst h; rw [Nat.testBit_lt_two_pow (by omega)]; simp
  ·simp [h]
 ·rw [if_neg hj, if_neg hj, if_neg hj, Bool.and_self]
theorem neg_low {i q : Nat} (h : 2 ^ (i + 1) * q + 2 ^ i < 2 ^ 64) : (2 ^ (i + 1) * q + 2 ^ i) &&& (2 ^ 64 - (2 ^ (i + 1) * q + 2 ^ i)) = 2 ^ i := by
 have hp : 0 < 2 ^ i := Nat.two_pow_pos i
 have hp2 : 2 ^ (i + 1) = 2 * 2 ^ i := by rw [Nat.pow_succ]; omega
 have hi : i < 64 := by
  rcases Nat.lt_or_ge i 64 with h1 | h1
  ·exact h1
  ·have := Nat.pow_le_pow_right (n := 2) (by omega) h1; omega
 have hs : 2 ^ 64 = 2 ^ (i + 1) * 2 ^ (63 - i) := by rw [← Nat.pow_add]; congr 1; omega
 have hq : q < 2 ^ (63 - i) := by
  rcases Nat.lt_or_ge q (2 ^ (63 - i)) with h1 | h1
  ·exact h1
  ·have := Nat.mul_le_mul_left (2 ^ (i + 1)) h1; omega
 have e : 2 ^ 64 - (2 ^ (i + 1) * q + 2 ^ i) = 2 ^ (i + 1) * (2 ^ (63 - i) - (q + 1)) + 2 ^ i := by
  rw [Nat.mul_sub, ← hs, Nat.mul_add]
  have := Nat.mul_le_mul_left (2 ^ (i + 1)) hq
  rw [Nat.succ_eq_add_one, Nat.mul_add] at this
  omega
 rw [e]
 apply Nat.eq_of_testBit_eq
 intro j
 rw [Nat.testBit_and, tb_mul_add _ _ _ _ (by omega), tb_mul_add _ _ _ _ (by omega), Nat.testBit_two_pow]
 by_cases hj : j < i + 1
 ·rw [if_pos hj, if_pos hj, Bool.and_self]
 ·rw [if_neg hj, if_neg hj, Nat.testBit_two_pow_sub_succ hq]
  have : i ≠ j := by omega
  rw [decide_eq_false this]
  cases q.testBit (j - (i + 1)) <;> simp
theorem pos_step {m : Nat} (h0 : m ≠ 0) (hm : m < 2 ^ 64) : ∃ i rest, pos m = i :: rest ∧ i < 64 ∧ m &&& (2 ^ 64 - m) = 2 ^ i ∧ pos (m &&& (m - 1)) = rest ∧ m &&& (m - 1) < 2 ^ 64 := by
 obtain ⟨i, q, e⟩ := least_bit m h0
 have hp : 0 < 2 ^ i := Nat.two_pow_pos i
 have hp2 : 2 ^ (i + 1) = 2 * 2 ^ i := by rw [Nat.pow_succ]; omega
 have hbit : ∀ j, m.testBit j = if j < i + 1 then decide (i = j) else q.testBit (j - (i + 1)) := by
  intro j; rw [e, tb_mul_add _ _ _ _ (by omega), Nat.testBit_two_pow]
 have hi : i < 64 := lt_of_testBit hm (by rw [hbit]; simp)
 have hc : m &&& (m - 1) = 2 ^ (i + 1) * q := by rw [e]; exact clear_low
 have hbit' : ∀ j, (m &&& (m - 1)).testBit j = if j < i + 1 then false else q.testBit (j - (i + 1)) := by
  intro j
  rw [hc]
  have := tb_mul_add (i + 1) q 0 j (Nat.two_pow_pos _)
  simpa using this
 refine ⟨i, pos (m &&& (m - 1)), ?_, hi, by rw [e]; rw [e] at hm; exact neg_low hm, rfl, Nat.lt_of_le_of_lt Nat.and_le_left hm⟩
 have hr : List.range 64 = List.range i ++ i :: (List.range (63 - i)).map (i + 1 + ·) := by
  have h1 : (64 : Nat) = i + (1 + (63 - i)) := by omega
  conv => lhs; rw [h1]
  rw [List.range_add, List.range_add (n := 1)]
  simp [Nat.add_assoc]
 have f1 : ∀ (p : Nat → Bool), (∀ j, j < i → p j = false) → (List.range i).filter p = [] := by
  intro p hp; rw [List.filter_eq_nil_iff]; intro j hj; rw [hp j (by simpa using hj)]; simp
 unfold pos
 rw [hr, List.filter_append, List.filter_append, List.filter_cons, List.filter_cons, f1 _ (fun j hj => by rw [hbit, if_pos (by omega)]; simp; omega), f1 _ (fun j hj => by rw [hbit', if_pos (by omega)])]
 have hb1 : m.testBit i = true := by rw [hbit]; simp
 have hb2 : (m &&& (m - 1)).testBit i = false := by rw [hbit']; simp
 rw [hb1, hb2]
 simp only [List.nil_append, if_true, Bool.false_eq_true, if_false]
 congr 1
 refine List.filter_congr fun j hj => ?_
 obtain ⟨k, _, rfl⟩ := List.mem_map.1 hj
 rw [hbit, hbit', if_neg (by omega), if_neg (by omega)]
def popI (m : Int) : Int := (popN m.toNat : Int)
def lowI (m n : Int) : Int := (lowN m.toNat n.toNat : Int)
theorem orAll_lt {l : List Nat} (h : ∀ i ∈ l, i < 64) : orAll l < 2 ^ 64 := by
 refine Nat.lt_pow_two_of_testBit _ fun j hj => ?_
 rw [testBit_orAll]
 exact decide_eq_false fun e => by have := h j e; omega
theorem lowN_lt (m n : Nat) : lowN m n < 2 ^ 64 := orAll_lt fun _ hi => (mem_pos.1 (List.mem_of_mem_take hi)).1
end Go.Proofs.Ytckhjehibjdjdaa.Bits
namespace Go.Proofs.Ytckhjehibjdjdaa.P
open Go.RowKit Go.Shelf Go.Proofs.YtckhjehibjdjdaaW.PrintWords Go.Proofs.YtckhjehibjdjdaaW.PrintLast Go.Proofs.YtckhjehibjdjdaaW.PrintMore
open Go.Proofs.Ytckhjehibjdjdaa.Bits Go.Proofs.Ytckhjehibjdjdaa.RF
attribute [local go_sem] max2_int min2_int max_two min_two max_three min_three max_four min_four
attribute [local go_sem] Oper.semAt_some
set_option linter.unusedVariables false
set_option linter.unusedSimpArgs false
theorem and_neg_u64 {m : Nat} (h0 : m ≠ 0) (hm : m < 2 ^ 64) : Go.bits .and .u64 (m : Int) (IntKind.u64.wrap (-(m : Int))) = ((m &&& (2 ^ 64 - m) : Nat) : Int) := by
 have e : IntKind.u64.wrap (-(m : Int)) = ((2 ^ 64 - m : Nat) : Int) := by
  rw [IntKind.wrap_u64]; omega
 rw [e, bits_and_u64_nat _ _ (by omega) (by omega)]
theorem and_pred_u64 {m : Nat} (h0 : m ≠ 0) (hm : m < 2 ^ 64) : Go.bits .and .u64 (m : Int) (IntKind.u64.wrap ((m : Int) - 1)) = ((m &&& (m - 1) : Nat) : Int) := by
 have e : IntKind.u64.wrap ((m : Int) - 1) = ((m - 1 : Nat) : Int) := by
  rw [IntKind.wrap_u64]; omega
 rw [e, bits_and_u64_nat _ _ (by omega) (by omega)]
theorem blk_cell0 {W : World} {c : Nat} {v : Value} {t : Nat} (h : W.heap[c]? = some (.cells #[v] t (0, 0))) : W.cell? ⟨c, 0, none⟩ = some v := (blk_cell h 0).trans rfl
def cntBits (c : Nat) (W : World) : Nat := match W.cell? ⟨c, 0, none⟩ with
 | some (.int _ z) => (pos z.toNat).length
 | _ => 0
theorem cntBits_of {c m : Nat} {W : World} (h : W.cell? ⟨c, 0, none⟩ = some (.int .u64 (m : Int))) : cntBits c W = (pos m).length := by
 unfold cntBits; rw [h]; simp
set_option maxHeartbeats 2000000 in
set_option maxRecDepth 100000 in
theorem lows_stops (F : Fence) (n : Nat) (hF : F.fn 138) (hro : F.round = none) (hn : 1 ≤ n) (c m : Nat) (hm : m < 2 ^ 64) (w : World) (hc : w.heap[c]? = some (.cells #[.int .u64 (m : Int)] 49 (0, 0))) :
  SeqStopsC F n Try.prog 138 #[.pointer (some ⟨c, 0, none⟩)] (fun x : Nat => #[.int .u64 ((2 : Int) ^ x)]) c (fun xs => xs = pos m) (fun pre => pre <+: pos m) w := by
 intro l J Jx W hW hJ hJx hY h0
 have hlt : c < w.heap.size := (Array.getElem?_eq_some_iff.1 hc).1
 have hcW : W.heap[c]? = some (.cells #[.int .u64 (m : Int)] 49 (0, 0)) := (hW.block c hlt).trans hc
 refine callsIn_of_wp Try.func138 rfl hF ?_ hro
 simp only [Try.ntmps138, List.size_toArray, List.length_cons, List.length_nil, Nat.reduceAdd, Nat.reduceSub, Array.replicate_succ, Array.replicate_zero, List.push_toArray, List.append_toArray, List.nil_append, List.cons_append]
 gi_wp2
 gi_loopw [3] (fun v3 wr => ∃ (pre : List Nat) (m' : Nat), pos m = pre ++ pos m' ∧ m' < 2 ^ 64 ∧ wr.heap[c]? = some (.cells #[.int .u64 (m' : Int)] 49 (0, 0)) ∧ J pre wr)
  (fun v3 wr => cntBits c wr)
 case atStart => exact ⟨[], m, rfl, hm, hcW, h0⟩
 case round =>
  obtain ⟨pre, m', hpos, hm', hcell, hJp⟩ := hrel
  have HP := Aside0.mk hpos
  have HM := Aside0.mk hm'
  have HH := Aside0.mk hcell
  clear hpos hm' hcell
  have hf0 := blk_frozen HH.out 0
  by_cases hz : m' = 0
  ·subst hz
   have hc0 : wr.cell? ⟨c, 0, none⟩ = some (.int .u64 0) := blk_cell0 HH.out
   gi_wp2
   go_end0
   exact ⟨⟨_, rfl⟩, .inl ⟨pos m, rfl, by rw [HP.out, pos_zero, List.append_nil]; exact hJp⟩⟩
  ·obtain ⟨i, rest, e1, hi, e2, e3, e4⟩ := pos_step hz HM.out
   have E1 := Aside0.mk e1
   have E3 := Aside0.mk e3
   have E4 := Aside0.mk e4
   clear e1 e3 e4
   have hc0 : wr.cell? ⟨c, 0, none⟩ = some (.int .u64 (m' : Int)) := blk_cell0 HH.out
   have hx := and_neg_u64 hz HM.out
   rw [e2] at hx
   have hx : Go.bits .and .u64 (m' : Int) (IntKind.u64.wrap (-(m' : Int))) = (2 : Int) ^ i := hx.trans (by simp)
   obtain ⟨fn, tmps, assign, body, hy, hR⟩ := hY pre i wr hJp ⟨rest, by rw [HP.out, E1.out]; simp⟩
   have hz' : ((m' : Int) == 0) = false := by simpa using hz
   have hz2 : ((m' : Int) != 0) = true := by simpa using hz
   clear e2
   have HZ := Aside0.mk hz
   clear hz
   gi_wp2
   refine hR.mono ?_
   rintro e W3 (⟨rfl, hJ3, hk3⟩ | ⟨rfl, hJx3⟩)
   ·have hq : W3.heap[c]? = some (.cells #[.int .u64 (m' : Int)] 49 (0, 0)) := hk3.trans HH.out
    have HQ := Aside0.mk hq
    clear hq
    have hc3 : W3.cell? ⟨c, 0, none⟩ = some (.int .u64 (m' : Int)) := blk_cell0 HQ.out
    have hf3 := blk_frozen HQ.out 0
    have hy2 := and_pred_u64 HZ.out HM.out
    gi_wp2
    go_roundw
    case rel => exact ⟨pre ++ [i], m' &&& (m' - 1), by rw [HP.out, E1.out, E3.out]; simp, E4.out, by simpa using blk_set HQ.out 0 _, hJ _ _ _ _ hJ3 (grownBy_setCell' _ _ _) (fun r e => by cases e; rfl)⟩
    case measure =>
     have h1 : cntBits c wr = (pos m').length := cntBits_of hc0
     refine Nat.lt_of_le_of_lt (Nat.le_of_eq (cntBits_of (m := m' &&& (m' - 1)) (World.cell?_setCell_same' _ _ _ (by rw [hc3]; rfl)))) ?_
     rw [h1, E1.out, E3.out]; simp
   ·gi_wp2
    refine bodyPost_ret (results_none rfl _ _ _) rfl ?_
    exact ⟨⟨_, rfl⟩, .inr ⟨pre ++ [i], ⟨rest, by rw [HP.out, E1.out]; simp⟩, hJx3⟩⟩
def mask_Lowest.f (a0 : Int) (a1 : Int) : Option (Int × Int) := if 0 ≤ a0 ∧ a0 < 2 ^ 64 then (if a1 < 0 then some (0, 1) else if popI a0 < a1 then some (0, 2) else some (lowI a0 a1, 0)) else none
theorem lows_calls (a0 : Int) (w : World) : Calls Try.prog 133 #[.int .u64 a0] w fun e w' => e = .returned (.func (.func 138) #[] #[.pointer (some ⟨w.heap.size, 0, none⟩)]) ∧ w' = w.alloc (.cells #[.int .u64 a0] 49) := by
 have hu49 := Try.underlying49
 go_enter Try.func133, Try.ntmps133
 go_wp2
 go_ret
 exact ⟨rfl, rfl⟩
set_option maxHeartbeats 8000000 in
set_option maxRecDepth 100000 in
theorem mask_Lowest.calls0 (a0 : Int) (a1 : Int) (r1 : Int) (r2 : Int) (w : World)  (h : mask_Lowest.f a0 a1 = some (r1, r2)) (hcount : ∀ W, Calls Try.prog 75 #[.int .u64 a0] W fun e w' => e = .returned (.int .i64 (popI a0)) ∧ Drawn0 W w') :
  Calls Try.prog 114 #[.int .u64 a0, .int .i64 a1] w fun e w' => e = .returned (.tuple #[.int .u64 r1, .int .i64 r2]) ∧ Below w.heap.size w w' := by
 have hu49 := Try.underlying49
 have hu3 := Try.underlying3
 refine calls_marks Try.func114 rfl ?_
 simp only [Try.ntmps114, List.size_toArray, List.length_cons, List.length_nil, Nat.reduceAdd, Nat.reduceSub, Array.replicate_succ, Array.replicate_zero, List.push_toArray, List.append_toArray, List.nil_append, List.cons_append]
 unfold mask_Lowest.f at h
 by_cases hr : 0 ≤ a0 ∧ a0 < 2 ^ 64
 ·rw [if_pos hr] at h
  by_cases hn : a1 < 0
  ·rw [if_pos hn] at h
   obtain ⟨rfl, rfl⟩ := Prod.mk.inj (Option.some.inj h)
   go_wp2
   exact marks_ret0 (results_tmp2 rfl _ _ _) ⟨rfl, below_alloc (Below.refl _ _) _⟩
  ·rw [if_neg hn] at h
   by_cases hp : popI a0 < a1
   ·rw [if_pos hp] at h
    obtain ⟨rfl, rfl⟩ := Prod.mk.inj (Option.some.inj h)
    go_wp2
    go_quiet ((go_at_call 75; exact Calls.quiet_of ((hcount _).mono fun e w' h => ⟨h.1, h.2.out⟩)))
    go_wp2
    exact marks_ret0 (results_tmp2 rfl _ _ _) ⟨rfl, pw_below_drewN (below_alloc (Below.refl _ _) _) _⟩
   ·rw [if_neg hp] at h
    obtain ⟨rfl, rfl⟩ := Prod.mk.inj (Option.some.inj h)
    clear h
    obtain ⟨m, rfl⟩ := Int.eq_ofNat_of_zero_le hr.1
    obtain ⟨j, rfl⟩ := Int.eq_ofNat_of_zero_le (by omega : 0 ≤ a1)
    have hm : m < 2 ^ 64 := by omega
    have hj : j ≤ popN m := by simp [popI] at hp; exact hp
    have HM := Aside0.mk hm
    have HJ := Aside0.mk hj
    clear hm hj hr hn
    go_wp2
    go_quiet ((go_at_call 75; exact Calls.quiet_of ((hcount _).mono fun e w' h => ⟨h.1, h.2.out⟩)))
    go_wp2_with (go_at_call 133; refine (lows_calls _ _).mono ?_; rintro e w' ⟨rfl, rfl⟩)
    have hb2 := heap_alloc_new (((w.alloc (.cells #[.int .i64 (j : Int)] 3)).drewN nq).alloc (.cells #[.int .u64 0] 49)) (.cells #[.int .u64 (m : Int)] 49)
    have hb1 := heap_alloc_new ((w.alloc (.cells #[.int .i64 (j : Int)] 3)).drewN nq) (.cells #[.int .u64 0] 49)
    have hb0 := heap_alloc_new w (.cells #[.int .i64 (j : Int)] 3)
    have hB : Below w.heap.size w ((((w.alloc (.cells #[.int .i64 (j : Int)] 3)).drewN nq).alloc (.cells #[.int .u64 0] 49)).alloc (.cells #[.int .u64 (m : Int)] 49)) :=
     below_alloc (below_alloc (pw_below_drewN (below_alloc (Below.refl _ _) _) _) _) _
    replace hb1 := blk_alloc hb1 (.cells #[.int .u64 (m : Int)] 49)
    replace hb0 := blk_alloc (blk_alloc (blk_drewN hb0 nq) (.cells #[.int .u64 0] 49)) (.cells #[.int .u64 (m : Int)] 49)
    have hsz : ((((w.alloc (.cells #[.int .i64 (j : Int)] 3)).drewN nq).alloc (.cells #[.int .u64 0] 49)).alloc (.cells #[.int .u64 (m : Int)] 49)).heap.size = w.heap.size + 3 := by simp
    have e1 : ((w.alloc (.cells #[.int .i64 (j : Int)] 3)).drewN nq).heap.size = w.heap.size + 1 := by simp
    have e2 : (((w.alloc (.cells #[.int .i64 (j : Int)] 3)).drewN nq).alloc (.cells #[.int .u64 0] 49)).heap.size = w.heap.size + 1 + 1 := by simp
    rw [e1] at hb1
    rw [e2] at hb2
    clear e1 e2
    generalize ((((w.alloc (.cells #[.int .i64 (j : Int)] 3)).drewN nq).alloc (.cells #[.int .u64 0] 49)).alloc (.cells #[.int .u64 (m : Int)] 49)) = W0 at *
    have keep : ∀ {A B : World} {row : Option Nat}, A.grownBy B row → (∀ r, row = some r → r = w.heap.size + 1 + 1 ∨ (W0.heap.size ≤ r ∧ ∃ o : Obj, A.heap[r]? = some o ∧ o.isCells = false)) → ∀ {k : Nat} {o : Obj}, A.heap[k]? = some o → k < w.heap.size + 2 → B.heap[k]? = some o := by
     intro A B row hg hr k o hk hlt
     refine (hg.block k (Array.getElem?_eq_some_iff.1 hk).1 fun e => ?_).trans hk
     rcases hr k e.symm with h | ⟨h, _⟩ <;> omega
    have keepB : ∀ {A B : World} {row : Option Nat}, A.grownBy B row → (∀ r, row = some r → r = w.heap.size + 1 + 1 ∨ (W0.heap.size ≤ r ∧ ∃ o : Obj, A.heap[r]? = some o ∧ o.isCells = false)) → Below w.heap.size w A → Below w.heap.size w B :=
     fun hg hr hb => hb.grown hg hb.size (fun k e => by rcases hr k e with h | ⟨h, _⟩ <;> omega)
    refine wpIn_wide.1 (range_cap (F := Fence.wide) (n := 6) (α := Nat) (w.heap.size + 1 + 1) (by omega) rfl (by omega) (gf := 138) (lb := #[.pointer (some ⟨w.heap.size + 1 + 1, 0, none⟩)]) rfl trivial (enters_of Try.func138 (by kernel_rfl) rfl)
     (encs := fun x : Nat => #[.int .u64 ((2 : Int) ^ x)]) (lows_stops _ _ trivial rfl (by omega) _ m HM.out _ hb2) (fun _ => rfl)
     (fun pre W => (pre.length ≤ j ∧ W.heap[w.heap.size]? = some (.cells #[.int .i64 ((j : Int) - pre.length)] 3 (0, 0)) ∧ W.heap[w.heap.size + 1]? = some (.cells #[.int .u64 (orAll pre : Int)] 49 (0, 0))) ∧ Below w.heap.size w W)
     (fun c xs W => c = .exit 1 ∧ ∃ pre x, xs = pre ++ [x] ∧ pre.length = j ∧ W.heap[w.heap.size + 1]? = some (.cells #[.int .u64 (orAll pre : Int)] 49 (0, 0)) ∧ Below w.heap.size w W)
     ?hI ?hIx ?h0
     (fun x => { tmps := #[.int .u64 (m : Int), .int .i64 (j : Int), undef, .pointer (some ⟨w.heap.size, 0, none⟩), .int .u64 0, .int .i64 0, .pointer (some ⟨w.heap.size + 1, 0, none⟩), .int .u64 ((2 : Int) ^ x), .bool (decide ((j : Int) < 0)), .int .i64 (j : Int), .bool (decide ((j : Int) < 0)), .bool (decide (popI (m : Int) < (j : Int))), .int .i64 (j : Int), .int .u64 (m : Int), .int .i64 (popI (m : Int)), .bool (decide (popI (m : Int) < (j : Int))), .int .u64 (m : Int), .func (.func 138) #[] #[.pointer (some ⟨w.heap.size + 1 + 1, 0, none⟩)], .int .u64 ((2 : Int) ^ x), undef, undef, undef, undef, undef, undef, undef, undef], defers := [] })
     ?assign ?body ?done ?stop)
    case hI => exact fun s A B row hs hg hr => ⟨⟨hs.1.1, keep hg hr hs.1.2.1 (by omega), keep hg hr hs.1.2.2 (by omega)⟩, keepB hg hr hs.2⟩
    case hIx =>
     intro c s A B row hs hg hr
     obtain ⟨hc, pre, x, e, hl, h1, hb⟩ := hs
     exact ⟨hc, pre, x, e, hl, keep hg hr h1 (by omega), keepB hg hr hb⟩
    case h0 => exact ⟨⟨Nat.zero_le _, by simpa using hb0, hb1⟩, hB⟩
    case assign =>
     intro l x W K hK
     gi_wp2
     exact hK
    case body =>
     rintro l pre x W ⟨⟨hlen, h0, h1⟩, hBW⟩ hsp
     have hx64 : x < 64 := (mem_pos.1 (hsp.subset (by simp))).1
     have hp64 : ∀ i ∈ pre, i < 64 := fun i hi => (mem_pos.1 (hsp.subset (by simp [hi]))).1
     have hj64 : (j : Int) ≤ 64 := by
      have h1 := HJ.out
      have h2 : popN m ≤ 64 := by unfold popN pos; exact Nat.le_trans (List.length_filter_le _ _) (by simp)
      omega
     have hor : Go.bits .or .u64 (orAll pre : Int) ((2 : Int) ^ x) = ((orAll (pre ++ [x]) : Nat) : Int) := by
      have := bits_or_u64_nat (orAll pre) (2 ^ x) (orAll_lt hp64) (Nat.pow_lt_pow_right (by omega) hx64)
      rw [orAll_snoc, ← this]
      simp
     have c0 := blk_cell0 h0
     have c1 := blk_cell0 h1
     have f0 := blk_frozen h0 0
     have f1 := blk_frozen h1 0
     have H0 := Aside0.mk h0
     have H1 := Aside0.mk h1
     have HS := Aside0.mk hsp
     have HBW := Aside0.mk hBW
     clear h0 h1 hsp hBW hB hb0 hb1 hb2 hsz hp64
     by_cases hlj : pre.length = j
     ·have hz : ((j : Int) - pre.length == 0) = true := by simp; omega
      have HL := Aside0.mk hlj
      clear hlj hlen
      gi_wp2
      exact ⟨KeepsOthers.refl _, rfl, pre, x, rfl, HL.out, H1.out, HBW.out⟩
     ·have hz : ((j : Int) - pre.length == 0) = false := by simp; omega
      have hlt : pre.length < j := by omega
      have HL := Aside0.mk hlj
      clear hlj hlen
      have cc : (W.setCell ⟨w.heap.size + 1, 0, none⟩ (.int .u64 ((orAll (pre ++ [x]) : Nat) : Int))).cell? ⟨w.heap.size, 0, none⟩ = some (.int .i64 ((j : Int) - pre.length)) := by
       rw [World.cell?_setCell_other]; exact c0
       simp
      gi_wp2
      have g1 : (W.setCell ⟨w.heap.size + 1, 0, none⟩ (.int .u64 ((orAll (pre ++ [x]) : Nat) : Int))).heap[w.heap.size + 1]? = some (.cells #[.int .u64 ((orAll (pre ++ [x]) : Nat) : Int)] 49 (0, 0)) := by simpa using blk_set H1.out 0 (.int .u64 ((orAll (pre ++ [x]) : Nat) : Int))
      have g0 : (W.setCell ⟨w.heap.size + 1, 0, none⟩ (.int .u64 ((orAll (pre ++ [x]) : Nat) : Int))).heap[w.heap.size]? = some (.cells #[.int .i64 ((j : Int) - pre.length)] 3 (0, 0)) := blk_far (p := ⟨w.heap.size + 1, 0, none⟩) H0.out (by simp) _
      refine ⟨(KeepsOthers.setCell _ _ _).trans (KeepsOthers.setCell _ _ _), ?_, ⟨?_, ?_, ?_⟩, ?_⟩
      ·exact (Below.heap_setCell _ _ _ _ (by simp <;> omega)).trans (Below.heap_setCell _ _ _ _ (by simp <;> omega))
      ·simp; omega
      ·have := blk_set g0 0 (.int .i64 ((j : Int) - pre.length - 1))
       simp only [List.length_append, List.length_singleton]
       rw [show ((j : Int) - ((pre.length + 1 : Nat) : Int)) = (j : Int) - pre.length - 1 by omega]
       simpa using this
      ·exact blk_far (p := ⟨w.heap.size, 0, none⟩) g1 (by simp) _
      ·exact below_set (below_set HBW.out (by simp)) (by simp)
    case done =>
     rintro D xs W hD rfl ⟨⟨hlen, h0, h1⟩, hBW⟩ hK
     have hjl : j = (pos m).length := Nat.le_antisymm HJ.out hlen
     have c1 := blk_cell0 h1
     have H1 := Aside0.mk h1
     have HL := Aside0.mk hjl
     clear h0 h1 hlen hjl hB hb0 hb1 hb2
     have hres : lowI (m : Int) (j : Int) = (orAll (pos m) : Int) := by
      simp only [lowI, Int.toNat_natCast, lowN]
      rw [HL.out, List.take_length]
     go_wp2
     exact marks_ret1 hK (results_tmp2 rfl _ _ _) ⟨by rw [hres]; rfl, below_mark hBW (by omega) hK⟩
    case stop =>
     rintro D c xs W hD hsp ⟨rfl, pre, x, rfl, hlen, h1, hBW⟩ hK
     have c1 := blk_cell0 h1
     have H1 := Aside0.mk h1
     have HL := Aside0.mk hlen
     have HS := Aside0.mk hsp
     clear h1 hlen hB hb0 hb1 hb2 hsp
     have hres : lowI (m : Int) (j : Int) = (orAll pre : Int) := by
      simp only [lowI, Int.toNat_natCast, lowN]
      obtain ⟨rest, hr⟩ := HS.out
      rw [← hr, ← HL.out, List.append_assoc, List.take_left]
     rw [wpIn_wide]
     go_wp2
     exact marks_ret1 hK (results_tmp2 rfl _ _ _) ⟨by rw [hres]; rfl, below_mark hBW (by omega) hK⟩
 ·rw [if_neg hr] at h; cases h
end Go.Proofs.Ytckhjehibjdjdaa.P
namespace Go.Proofs.Ytckhjehibjdjdaa.Bits
set_option linter.unusedVariables false
set_option linter.unusedSimpArgs false
def glue : List Nat → Nat
 | [] => 0
 | r :: l => 256 * glue l + r
def maskN (s : Nat) : Nat → Nat
 | 0 => 0
 | k + 1 => 256 * maskN s k + s
theorem and_split (q p r s : Nat) (hr : r < 256) (hs : s < 256) : (256 * q + r) &&& (256 * p + s) = 256 * (q &&& p) + (r &&& s) := by
 apply Nat.eq_of_testBit_eq
 intro j
 have hrs : (r &&& s) < 2 ^ 8 := Nat.lt_of_le_of_lt Nat.and_le_left hr
 have e1 := Nat.testBit_two_pow_mul_add q (i := 8) hr j
 have e2 := Nat.testBit_two_pow_mul_add p (i := 8) hs j
 have e3 := Nat.testBit_two_pow_mul_add (q &&& p) (i := 8) hrs j
 rw [show (2 : Nat) ^ 8 = 256 from rfl] at e1 e2 e3
 rw [Nat.testBit_and, e1, e2, e3]
 split <;> simp
theorem and_shift (q p r s j : Nat) (hj : j ≤ 8) (hr : r < 256) (hs : s < 2 ^ (8 - j)) : ((256 * q + r) / 2 ^ j) &&& (256 * p + s) = 256 * ((q / 2 ^ j) &&& p) + ((r / 2 ^ j) &&& s) := by
 have hs' : s < 256 := Nat.lt_of_lt_of_le hs (by have := Nat.pow_le_pow_right (n := 2) (by omega) (show 8 - j ≤ 8 by omega); simpa using this)
 apply Nat.eq_of_testBit_eq
 intro i
 have hrs : ((r / 2 ^ j) &&& s) < 2 ^ 8 := Nat.lt_of_le_of_lt Nat.and_le_right hs'
 have e1 := Nat.testBit_two_pow_mul_add q (i := 8) hr (i + j)
 have e2 := Nat.testBit_two_pow_mul_add p (i := 8) hs' i
 have e3 := Nat.testBit_two_pow_mul_add ((q / 2 ^ j) &&& p) (i := 8) hrs i
 rw [show (2 : Nat) ^ 8 = 256 from rfl] at e1 e2 e3
 rw [Nat.testBit_and, e2, e3, Nat.testBit_div_two_pow, e1]
 by_cases hi : i < 8
 ·rw [if_pos hi, if_pos hi, Nat.testBit_and, Nat.testBit_div_two_pow]
  by_cases h2 : i + j < 8
  ·rw [if_pos h2]
  ·rw [if_neg h2]
   have : s.testBit i = false := by
    apply Nat.testBit_lt_two_pow
    exact Nat.lt_of_lt_of_le hs (Nat.pow_le_pow_right (by omega) (by omega))
   rw [this]; simp
 ·rw [if_neg hi, if_neg hi, if_neg (by omega), Nat.testBit_and, Nat.testBit_div_two_pow]
  rw [show i + j - 8 = i - 8 + j by omega]
theorem glue_and (s : Nat) (hs : s < 256) : ∀ l : List Nat, (∀ r ∈ l, r < 256) → glue l &&& maskN s l.length = glue (l.map fun r => r &&& s)
 | [], _ => by simp [glue, maskN]
 | r :: l, h => by
  rw [glue, List.length_cons, maskN, and_split _ _ _ _ (h r (by simp)) hs, glue_and s hs l (fun x hx => h x (by simp [hx]))]; rfl
theorem glue_shift (s j : Nat) (hj : j ≤ 8) (hs : s < 2 ^ (8 - j)) : ∀ l : List Nat, (∀ r ∈ l, r < 256) → (glue l / 2 ^ j) &&& maskN s l.length = glue (l.map fun r => (r / 2 ^ j) &&& s)
 | [], _ => by simp [glue, maskN]
 | r :: l, h => by
  rw [glue, List.length_cons, maskN, and_shift _ _ _ _ _ hj (h r (by simp)) hs, glue_shift s j hj hs l (fun x hx => h x (by simp [hx]))]; rfl
theorem glue_add (f g : Nat → Nat) : ∀ l : List Nat, glue (l.map f) + glue (l.map g) = glue (l.map fun r => f r + g r)
 | [] => rfl
 | r :: l => by have := glue_add f g l; simp only [List.map_cons, glue] at *; omega
def s1 (r : Nat) : Nat := ((r / 2) &&& 85) + (r &&& 85)
def s2 (r : Nat) : Nat := ((r / 4) &&& 51) + (r &&& 51)
theorem s1_lt : ∀ r, r < 256 → s1 r < 256 := by decide +kernel
theorem s2_two : ∀ r, r < 256 → s2 (s1 r) % 16 ≤ 4 ∧ s2 (s1 r) / 16 ≤ 4 ∧ s2 (s1 r) % 16 + s2 (s1 r) / 16 = (List.range 8).countP (fun j => r.testBit j) := by decide +kernel
def bytes (m : Nat) : List Nat := [m % 256, m / 256 % 256, m / 65536 % 256, m / 16777216 % 256, m / 4294967296 % 256, m / 1099511627776 % 256, m / 281474976710656 % 256, m / 72057594037927936 % 256]
theorem glue_bytes (m : Nat) (h : m < 18446744073709551616) : glue (bytes m) = m := by
 simp only [glue, bytes]; omega
theorem bytes_lt (m : Nat) : ∀ r ∈ bytes m, r < 256 := by
 intro r hr
 simp only [bytes, List.mem_cons, List.not_mem_nil, or_false] at hr
 omega
def pairs (m : Nat) : Nat := ((m / 2) &&& 6148914691236517205) + (m &&& 6148914691236517205)
def fours (m : Nat) : Nat := ((m / 4) &&& 3689348814741910323) + (m &&& 3689348814741910323)
theorem pairs_eq (l : List Nat) (hl : l.length = 8) (h : ∀ r ∈ l, r < 256) : pairs (glue l) = glue (l.map s1) := by
 have e : (6148914691236517205 : Nat) = maskN 85 l.length := by rw [hl]; rfl
 unfold pairs
 rw [e, glue_and 85 (by omega) l h]
 have := glue_shift 85 1 (by omega) (by decide) l h
 rw [Nat.pow_one] at this
 rw [this, glue_add]
 rfl
theorem fours_eq (l : List Nat) (hl : l.length = 8) (h : ∀ r ∈ l, r < 256) : fours (glue l) = glue (l.map s2) := by
 have e : (3689348814741910323 : Nat) = maskN 51 l.length := by rw [hl]; rfl
 unfold fours
 rw [e, glue_and 51 (by omega) l h]
 have := glue_shift 51 2 (by omega) (by decide) l h
 rw [show (2 : Nat) ^ 2 = 4 from rfl] at this
 rw [this, glue_add]
 rfl
theorem and15 (u v : Nat) (hv : v < 16) (hu : u < 16) : (16 * u + v) &&& 15 = v := by
 have h : ∀ u, u < 16 → ∀ v, v < 16 → (16 * u + v) &&& 15 = v := by decide +kernel
 exact h u hu v hv
def eights (b : Nat) : Nat := ((b / 16 + b) % 18446744073709551616) &&& 1085102592571150095
theorem eights_eq (h0 h1 h2 h3 h4 h5 h6 h7 l0 l1 l2 l3 l4 l5 l6 l7 : Nat)
  (a0 : h0 ≤ 4) (a1 : h1 ≤ 4) (a2 : h2 ≤ 4) (a3 : h3 ≤ 4) (a4 : h4 ≤ 4) (a5 : h5 ≤ 4) (a6 : h6 ≤ 4) (a7 : h7 ≤ 4)
  (b0 : l0 ≤ 4) (b1 : l1 ≤ 4) (b2 : l2 ≤ 4) (b3 : l3 ≤ 4) (b4 : l4 ≤ 4) (b5 : l5 ≤ 4) (b6 : l6 ≤ 4) (b7 : l7 ≤ 4) :
  eights (glue [16 * h0 + l0, 16 * h1 + l1, 16 * h2 + l2, 16 * h3 + l3, 16 * h4 + l4, 16 * h5 + l5, 16 * h6 + l6, 16 * h7 + l7]) = glue [h0 + l0, h1 + l1, h2 + l2, h3 + l3, h4 + l4, h5 + l5, h6 + l6, h7 + l7] := by
 have e : (glue [16 * h0 + l0, 16 * h1 + l1, 16 * h2 + l2, 16 * h3 + l3, 16 * h4 + l4, 16 * h5 + l5, 16 * h6 + l6, 16 * h7 + l7] / 16 + glue [16 * h0 + l0, 16 * h1 + l1, 16 * h2 + l2, 16 * h3 + l3, 16 * h4 + l4, 16 * h5 + l5, 16 * h6 + l6, 16 * h7 + l7]) % 18446744073709551616
   = glue [16 * (h0 + l1) + (h0 + l0), 16 * (h1 + l2) + (h1 + l1), 16 * (h2 + l3) + (h2 + l2), 16 * (h3 + l4) + (h3 + l3), 16 * (h4 + l5) + (h4 + l4), 16 * (h5 + l6) + (h5 + l5), 16 * (h6 + l7) + (h6 + l6), 16 * h7 + (h7 + l7)] := by
  simp only [glue]; omega
 unfold eights
 rw [e]
 have e2 : (1085102592571150095 : Nat) = maskN 15 8 := rfl
 rw [e2, show (8 : Nat) = [16 * (h0 + l1) + (h0 + l0), 16 * (h1 + l2) + (h1 + l1), 16 * (h2 + l3) + (h2 + l2), 16 * (h3 + l4) + (h3 + l3), 16 * (h4 + l5) + (h4 + l4), 16 * (h5 + l6) + (h5 + l5), 16 * (h6 + l7) + (h6 + l6), 16 * h7 + (h7 + l7)].length from rfl, glue_and 15 (by omega)]
 ·simp only [List.map_cons, List.map_nil]
  rw [and15 _ _ (by omega) (by omega), and15 _ _ (by omega) (by omega), and15 _ _ (by omega) (by omega), and15 _ _ (by omega) (by omega), and15 _ _ (by omega) (by omega), and15 _ _ (by omega) (by omega), and15 _ _ (by omega) (by omega), and15 _ _ (by omega) (by omega)]
 ·intro r hr
  simp only [List.mem_cons, List.not_mem_nil, or_false] at hr
  omega
def tops (c : Nat) : Nat :=
 let d := (c + c / 256) % 18446744073709551616
 let e := (d + d / 65536) % 18446744073709551616
 ((e + e / 4294967296) % 18446744073709551616) % 128
theorem tops_eq (v0 v1 v2 v3 v4 v5 v6 v7 : Nat) (a0 : v0 ≤ 8) (a1 : v1 ≤ 8) (a2 : v2 ≤ 8) (a3 : v3 ≤ 8) (a4 : v4 ≤ 8) (a5 : v5 ≤ 8) (a6 : v6 ≤ 8) (a7 : v7 ≤ 8) :
  tops (glue [v0, v1, v2, v3, v4, v5, v6, v7]) = v0 + v1 + v2 + v3 + v4 + v5 + v6 + v7 := by
 have q1 : glue [v0, v1, v2, v3, v4, v5, v6, v7] / 256 = glue [v1, v2, v3, v4, v5, v6, v7] := by
  simp only [glue]; omega
 have e1 : (glue [v0, v1, v2, v3, v4, v5, v6, v7] + glue [v1, v2, v3, v4, v5, v6, v7]) % 18446744073709551616 = glue [v0 + v1, v1 + v2, v2 + v3, v3 + v4, v4 + v5, v5 + v6, v6 + v7, v7] := by
  rw [Nat.mod_eq_of_lt (by simp only [glue]; omega)]; simp only [glue]; omega
 have q2 : glue [v0 + v1, v1 + v2, v2 + v3, v3 + v4, v4 + v5, v5 + v6, v6 + v7, v7] / 65536 = glue [v2 + v3, v3 + v4, v4 + v5, v5 + v6, v6 + v7, v7] := by
  simp only [glue]; omega
 have e2 : (glue [v0 + v1, v1 + v2, v2 + v3, v3 + v4, v4 + v5, v5 + v6, v6 + v7, v7] + glue [v2 + v3, v3 + v4, v4 + v5, v5 + v6, v6 + v7, v7]) % 18446744073709551616 = glue [v0 + v1 + v2 + v3, v1 + v2 + v3 + v4, v2 + v3 + v4 + v5, v3 + v4 + v5 + v6, v4 + v5 + v6 + v7, v5 + v6 + v7, v6 + v7, v7] := by
  rw [Nat.mod_eq_of_lt (by simp only [glue]; omega)]; simp only [glue]; omega
 have q3 : glue [v0 + v1 + v2 + v3, v1 + v2 + v3 + v4, v2 + v3 + v4 + v5, v3 + v4 + v5 + v6, v4 + v5 + v6 + v7, v5 + v6 + v7, v6 + v7, v7] / 4294967296 = glue [v4 + v5 + v6 + v7, v5 + v6 + v7, v6 + v7, v7] := by
  simp only [glue]; omega
 have e3 : ((glue [v0 + v1 + v2 + v3, v1 + v2 + v3 + v4, v2 + v3 + v4 + v5, v3 + v4 + v5 + v6, v4 + v5 + v6 + v7, v5 + v6 + v7, v6 + v7, v7] + glue [v4 + v5 + v6 + v7, v5 + v6 + v7, v6 + v7, v7]) % 18446744073709551616) % 128 = v0 + v1 + v2 + v3 + v4 + v5 + v6 + v7 := by
  rw [Nat.mod_eq_of_lt (b := 18446744073709551616) (by clear q1 e1 q2 e2 q3; simp only [glue]; omega)]
  clear q1 e1 q2 e2 q3
  simp only [glue]
  omega
 unfold tops
 simp only [q1, e1, q2, e2, q3]
 exact e3
theorem countP_range64 (p : Nat → Bool) : (List.range 64).countP p = (List.range 8).countP (fun j => p j) + (List.range 8).countP (fun j => p (j + 8)) + (List.range 8).countP (fun j => p (j + 16)) + (List.range 8).countP (fun j => p (j + 24)) + (List.range 8).countP (fun j => p (j + 32)) + (List.range 8).countP (fun j => p (j + 40)) + (List.range 8).countP (fun j => p (j + 48)) + (List.range 8).countP (fun j => p (j + 56)) := by
 have e : List.range 64 = List.range 8 ++ (List.range 8).map (· + 8) ++ (List.range 8).map (· + 16) ++ (List.range 8).map (· + 24) ++ (List.range 8).map (· + 32) ++ (List.range 8).map (· + 40) ++ (List.range 8).map (· + 48) ++ (List.range 8).map (· + 56) := by decide
 rw [e]
 simp only [List.countP_append, List.countP_map]
 rfl
theorem byte_bits (m k : Nat) : (List.range 8).countP (fun j => m.testBit (j + k)) = (List.range 8).countP (fun j => (m / 2 ^ k % 256).testBit j) := by
 apply List.countP_congr
 intro j hj
 rw [List.mem_range] at hj
 rw [show (256 : Nat) = 2 ^ 8 from rfl, Nat.testBit_mod_two_pow, Nat.testBit_div_two_pow]
 simp [hj]
theorem popN_swar (m : Nat) (h : m < 18446744073709551616) : tops (eights (fours (pairs m))) = popN m := by
 have hp : popN m = (List.range 64).countP (fun j => m.testBit j) := by
  unfold popN pos; rw [List.countP_eq_length_filter]
 have e0 := byte_bits m 0
 have e1 := byte_bits m 8
 have e2 := byte_bits m 16
 have e3 := byte_bits m 24
 have e4 := byte_bits m 32
 have e5 := byte_bits m 40
 have e6 := byte_bits m 48
 have e7 := byte_bits m 56
 simp only [Nat.add_zero, Nat.pow_zero, Nat.div_one] at e0
 rw [show (2 : Nat) ^ 8 = 256 from rfl] at e1
 rw [show (2 : Nat) ^ 16 = 65536 from rfl] at e2
 rw [show (2 : Nat) ^ 24 = 16777216 from rfl] at e3
 rw [show (2 : Nat) ^ 32 = 4294967296 from rfl] at e4
 rw [show (2 : Nat) ^ 40 = 1099511627776 from rfl] at e5
 rw [show (2 : Nat) ^ 48 = 281474976710656 from rfl] at e6
 rw [show (2 : Nat) ^ 56 = 72057594037927936 from rfl] at e7
 rw [hp, countP_range64, e0, e1, e2, e3, e4, e5, e6, e7]
 have hg := glue_bytes m h
 rw [show pairs m = pairs (glue (bytes m)) by rw [hg], pairs_eq _ rfl (bytes_lt m), fours_eq _ (by simp [bytes]) (by
  intro r hr
  obtain ⟨x, hx, rfl⟩ := List.mem_map.1 hr
  exact s1_lt x (bytes_lt m x hx))]
 simp only [bytes, List.map_cons, List.map_nil]
 have q0 := s2_two (m % 256) (by omega)
 have q1 := s2_two (m / 256 % 256) (by omega)
 have q2 := s2_two (m / 65536 % 256) (by omega)
 have q3 := s2_two (m / 16777216 % 256) (by omega)
 have q4 := s2_two (m / 4294967296 % 256) (by omega)
 have q5 := s2_two (m / 1099511627776 % 256) (by omega)
 have q6 := s2_two (m / 281474976710656 % 256) (by omega)
 have q7 := s2_two (m / 72057594037927936 % 256) (by omega)
 have g : ∀ x : Nat, x = 16 * (x / 16) + x % 16 := fun x => by omega
 rw [g (s2 (s1 (m % 256))), g (s2 (s1 (m / 256 % 256))), g (s2 (s1 (m / 65536 % 256))), g (s2 (s1 (m / 16777216 % 256))), g (s2 (s1 (m / 4294967296 % 256))), g (s2 (s1 (m / 1099511627776 % 256))), g (s2 (s1 (m / 281474976710656 % 256))), g (s2 (s1 (m / 72057594037927936 % 256)))]
 rw [eights_eq _ _ _ _ _ _ _ _ _ _ _ _ _ _ _ _ q0.2.1 q1.2.1 q2.2.1 q3.2.1 q4.2.1 q5.2.1 q6.2.1 q7.2.1 q0.1 q1.1 q2.1 q3.1 q4.1 q5.1 q6.1 q7.1,
  tops_eq _ _ _ _ _ _ _ _ (by omega) (by omega) (by omega) (by omega) (by omega) (by omega) (by omega) (by omega)]
 omega
theorem wrapN (x : Nat) : IntKind.u64.wrap (x : Int) = ((x % 18446744073709551616 : Nat) : Int) := by
 rw [IntKind.wrap_u64]; omega
theorem andN (x y : Nat) (hx : x < 18446744073709551616) (hy : y < 18446744073709551616) : Go.bits .and .u64 (x : Int) (y : Int) = ((x &&& y : Nat) : Int) := bits_and_u64_nat x y hx hy
theorem and_le (x y : Nat) : x &&& y ≤ y := Nat.and_le_right
end Go.Proofs.Ytckhjehibjdjdaa.Bits
namespace Go.Proofs.Ytckhjehibjdjdaa.P
open Go.RowKit Go.Shelf Go.Proofs.YtckhjehibjdjdaaW.PrintWords Go.Proofs.YtckhjehibjdjdaaW.PrintLast Go.Proofs.YtckhjehibjdjdaaW.PrintMore
open Go.Proofs.Ytckhjehibjdjdaa.Bits Go.Proofs.Ytckhjehibjdjdaa.RF
attribute [local go_sem] max2_int min2_int max_two min_two max_three min_three max_four min_four
attribute [local go_sem] Oper.semAt_some
set_option linter.unusedVariables false
set_option linter.unusedSimpArgs false
theorem and127 (x : Nat) (h : x < 18446744073709551616) : Go.bits .and .i64 (wrap64 (x : Int)) 127 = ((x % 128 : Nat) : Int) := by
 have h1 : (BitVec.ofInt 64 (wrap64 (x : Int))).toNat = x := by
  rw [BitVec.toNat_ofInt]
  unfold wrap64
  omega
 have h2 : (BitVec.ofInt 64 (127 : Int)).toNat = 127 := by decide
 show IntKind.i64.wrap ((BitVec.ofInt 64 (wrap64 (x : Int)) &&& BitVec.ofInt 64 (127 : Int)).toNat : Int) = _
 rw [BitVec.toNat_and, h1, h2, show (127 : Nat) = 2 ^ 7 - 1 from rfl, Nat.and_two_pow_sub_one_eq_mod, IntKind.wrap_i64]
 omega
theorem ones_int (m : Nat) (hm : m < 18446744073709551616) (a b c d e f : Int)
  (ha : a = IntKind.u64.wrap (Go.bits .and .u64 ((m : Int) / 2) 6148914691236517205 + Go.bits .and .u64 (m : Int) 6148914691236517205))
  (hb : b = IntKind.u64.wrap (Go.bits .and .u64 (a / 4) 3689348814741910323 + Go.bits .and .u64 a 3689348814741910323))
  (hc : c = Go.bits .and .u64 (IntKind.u64.wrap (b / 16 + b)) 1085102592571150095)
  (hd : d = IntKind.u64.wrap (c + c / 256)) (he : e = IntKind.u64.wrap (d + d / 65536)) (hf : f = IntKind.u64.wrap (e + e / 4294967296)) :
  Go.bits .and .i64 (wrap64 f) 127 = popI (m : Int) := by
 have A : a = ((pairs m : Nat) : Int) := by
  rw [ha, show (m : Int) / 2 = ((m / 2 : Nat) : Int) by omega, show (6148914691236517205 : Int) = ((6148914691236517205 : Nat) : Int) from rfl, andN _ _ (by omega) (by omega), andN _ _ hm (by omega), ← Int.natCast_add, wrapN]
  have := and_le (m / 2) 6148914691236517205
  have := and_le m 6148914691236517205
  unfold pairs
  omega
 have pl : pairs m < 18446744073709551616 := by
  have := and_le (m / 2) 6148914691236517205
  have := and_le m 6148914691236517205
  unfold pairs
  omega
 have B : b = ((fours (pairs m) : Nat) : Int) := by
  rw [hb, A, show ((pairs m : Nat) : Int) / 4 = ((pairs m / 4 : Nat) : Int) by omega, show (3689348814741910323 : Int) = ((3689348814741910323 : Nat) : Int) from rfl, andN _ _ (by omega) (by omega), andN _ _ pl (by omega), ← Int.natCast_add, wrapN]
  have := and_le (pairs m / 4) 3689348814741910323
  have := and_le (pairs m) 3689348814741910323
  unfold fours
  omega
 have C : c = ((eights (fours (pairs m)) : Nat) : Int) := by
  rw [hc, B, show ((fours (pairs m) : Nat) : Int) / 16 + ((fours (pairs m) : Nat) : Int) = ((fours (pairs m) / 16 + fours (pairs m) : Nat) : Int) by omega, wrapN, show (1085102592571150095 : Int) = ((1085102592571150095 : Nat) : Int) from rfl, andN _ _ (by omega) (by omega)]
  rfl
 generalize hx : eights (fours (pairs m)) = x at C
 have D : d = (((x + x / 256) % 18446744073709551616 : Nat) : Int) := by
  rw [hd, C, show (x : Int) + (x : Int) / 256 = ((x + x / 256 : Nat) : Int) by omega, wrapN]
 generalize hy : (x + x / 256) % 18446744073709551616 = y at D
 have E : e = (((y + y / 65536) % 18446744073709551616 : Nat) : Int) := by
  rw [he, D, show (y : Int) + (y : Int) / 65536 = ((y + y / 65536 : Nat) : Int) by omega, wrapN]
 generalize hz : (y + y / 65536) % 18446744073709551616 = z at E
 have F : f = (((z + z / 4294967296) % 18446744073709551616 : Nat) : Int) := by
  rw [hf, E, show (z : Int) + (z : Int) / 4294967296 = ((z + z / 4294967296 : Nat) : Int) by omega, wrapN]
 rw [F, and127 _ (by omega)]
 unfold popI
 rw [Int.toNat_natCast, ← popN_swar m hm, hx]
 unfold tops
 simp only [hy, hz]
set_option maxHeartbeats 2000000 in
set_option maxRecDepth 100000 in
theorem ones_any (m : Nat) (hm : m < 2 ^ 64) (w : World) : Calls Try.prog 105 #[.int .u64 (m : Int)] w fun e w' => e = .returned (.int .i64 (popI (m : Int))) ∧ w' = w := by
 have hu49 := Try.underlying49
 have H := fun v (h : v = popI (m : Int)) => (congrArg (fun v => Ending.returned (.int .i64 v)) h)
 go_enter Try.func105, Try.ntmps105
 go_wp2
 go_ret
 refine ⟨H _ (ones_int m hm _ _ _ _ _ _ rfl rfl rfl rfl rfl rfl), rfl⟩
theorem count_any (m : Int) (h0 : 0 ≤ m) (h1 : m < 18446744073709551616) (w : World) : Calls Try.prog 75 #[.int .u64 m] w fun e w' => e = .returned (.int .i64 (popI m)) ∧ w' = w := by
 have hu49 := Try.underlying49
 obtain ⟨m, rfl⟩ := Int.eq_ofNat_of_zero_le h0
 have H := Aside0.mk (fun w => ones_any m (by omega) w)
 clear h0 h1
 go_enter Try.func75, Try.ntmps75
 go_wp2_with (go_at_call 105; refine (H.out _).mono ?_; rintro e w' ⟨rfl, rfl⟩)
 go_ret
 exact ⟨rfl, rfl⟩
theorem mask_Lowest.calls (a0 : Int) (a1 : Int) (r1 : Int) (r2 : Int) (w : World) (h : mask_Lowest.f a0 a1 = some (r1, r2)) :
  Calls Try.prog 114 #[.int .u64 a0, .int .i64 a1] w fun e w' => e = .returned (.tuple #[.int .u64 r1, .int .i64 r2]) ∧ Below w.heap.size w w' := by
 have hb : 0 ≤ a0 ∧ a0 < 18446744073709551616 := by
  have h2 := h
  unfold mask_Lowest.f at h2
  split at h2
  ·rename_i hh; exact ⟨hh.1, by have := hh.2; omega⟩
  ·cases h2
 exact mask_Lowest.calls0 a0 a1 r1 r2 w h (fun W => (count_any a0 hb.1 hb.2 W).mono fun e w' h => ⟨h.1, by rw [h.2]; exact Drawn0.refl _⟩)
end Go.Proofs.Ytckhjehibjdjdaa.P
namespace Go.Proofs.Ytckhjehibjdjdaa.P
open Go.RowKit Go.Shelf Go.Proofs.YtckhjehibjdjdaaW.PrintWords Go.Proofs.YtckhjehibjdjdaaW.PrintLast Go.Proofs.YtckhjehibjdjdaaW.PrintMore
open Go.Proofs.Ytckhjehibjdjdaa.Bits
attribute [local go_sem] max2_int min2_int max_two min_two max_three min_three max_four min_four
attribute [local go_sem] Oper.semAt_some
set_option linter.unusedVariables false
set_option linter.unusedSimpArgs false
def goodShape (g c mn mx : Int) : Bool := decide (0 ≤ g) && decide (g ≤ 16) && decide (0 ≤ c) && decide (c ≤ 1024) && decide (1 ≤ mn) && decide (mn ≤ mx) && decide (1 ≤ mx) && decide (mx ≤ 16) && !(decide (g = 0) && decide (c = 0))
def shape_Check.f (a0_0 : Int) (a0_1 : Int) (a0_2 : Int) (a0_3 : Int) : Option (Int) := some (if goodShape a0_0 a0_1 a0_2 a0_3 = true then 0 else 1)
theorem ret_i64 {a b : Int} (h : a = b) : Ending.returned (.int .i64 a) = .returned (.int .i64 b) := by rw [h]
set_option maxHeartbeats 8000000 in
set_option maxRecDepth 100000 in
theorem shape_Check.calls (a0_0 : Int) (a0_1 : Int) (a0_2 : Int) (a0_3 : Int) (r : Int) (w : World)  (h : shape_Check.f a0_0 a0_1 a0_2 a0_3 = some r) :
  Calls Try.prog 83 #[.agg #[.int .i64 a0_0, .int .i64 a0_1, .int .i64 a0_2, .int .i64 a0_3]] w fun e w' => e = .returned (.int .i64 r) ∧ Below w.heap.size w w' := by
 have H := Aside0.mk h
 clear h
 have hu27 := Try.underlying27
 have hu154 := Try.underlying154
 have hu155 := Try.underlying155
 have i0 : ∀ (W : World) (x0 x1 x2 x3 x4 x5 x6 x7 x8 x9 x10 x11 : Value), (Instr.index 155 (.agg #[x0, x1, x2, x3, x4, x5, x6, x7, x8, x9, x10, x11]) (.int .i64 0)).run Try.prog W = .ok (.agg #[x0, x1, x2]) W := fun _ _ _ _ _ _ _ _ _ _ _ _ _ => by kernel_rfl
 have i1 : ∀ (W : World) (x0 x1 x2 x3 x4 x5 x6 x7 x8 x9 x10 x11 : Value), (Instr.index 155 (.agg #[x0, x1, x2, x3, x4, x5, x6, x7, x8, x9, x10, x11]) (.int .i64 1)).run Try.prog W = .ok (.agg #[x3, x4, x5]) W := fun _ _ _ _ _ _ _ _ _ _ _ _ _ => by kernel_rfl
 have i2 : ∀ (W : World) (x0 x1 x2 x3 x4 x5 x6 x7 x8 x9 x10 x11 : Value), (Instr.index 155 (.agg #[x0, x1, x2, x3, x4, x5, x6, x7, x8, x9, x10, x11]) (.int .i64 2)).run Try.prog W = .ok (.agg #[x6, x7, x8]) W := fun _ _ _ _ _ _ _ _ _ _ _ _ _ => by kernel_rfl
 have i3 : ∀ (W : World) (x0 x1 x2 x3 x4 x5 x6 x7 x8 x9 x10 x11 : Value), (Instr.index 155 (.agg #[x0, x1, x2, x3, x4, x5, x6, x7, x8, x9, x10, x11]) (.int .i64 3)).run Try.prog W = .ok (.agg #[x9, x10, x11]) W := fun _ _ _ _ _ _ _ _ _ _ _ _ _ => by kernel_rfl
 go_enter Try.func83, Try.ntmps83
 go_wp2
 refine wp_loop_rounds 5 ?_
 rw [rounds_succ]
 go_wp2
 all_goals (try (rw [rounds_succ]; go_wp2))
 all_goals (try (rw [rounds_succ]; go_wp2))
 all_goals (try (rw [rounds_succ]; go_wp2))
 all_goals (try (rw [rounds_succ]; go_wp2))
 all_goals go_ret
 all_goals
  have h := H.out
  try simp only [beq_iff_eq, beq_eq_false_iff_ne, ne_eq] at *
  unfold shape_Check.f at h
  first
  | (rw [if_pos (by simp [goodShape]; omega)] at h; exact ⟨ret_i64 (Option.some.inj h), by repeat (first | exact Below.refl _ _ | apply below_alloc | refine below_set ?_ (by simp; omega))⟩)
  | (rw [if_neg (by simp [goodShape]; omega)] at h; exact ⟨ret_i64 (Option.some.inj h), by repeat (first | exact Below.refl _ _ | apply below_alloc | refine below_set ?_ (by simp; omega))⟩)
def eachI (have_ need : Int) : Int := if need = 0 then 16 else have_ / need
set_option maxHeartbeats 4000000 in
set_option maxRecDepth 100000 in
theorem each_any (a b : Int) (ha0 : 0 ≤ a) (ha : a ≤ 9223372036854775807) (hb : 0 ≤ b) (w : World) : Calls Try.prog 112 #[.int .i64 a, .int .i64 b] w fun e w' => e = .returned (.int .i64 (eachI a b)) ∧ w' = w := by
 have hu3 := Try.underlying3
 by_cases h0 : b = 0
 ·have b1 : (b == 0) = true := by simpa using h0
  have e : eachI a b = 16 := by rw [eachI, if_pos h0]
  rw [e]
  clear h0 e
  go_enter Try.func112, Try.ntmps112
  go_wp2
  all_goals go_ret
  all_goals exact ⟨rfl, rfl⟩
 ·have b1 : (b == 0) = false := by simpa using h0
  have e : eachI a b = a / b := by rw [eachI, if_neg h0]
  rw [e]
  have hne := h0
  clear e
  go_enter Try.func112, Try.ntmps112
  go_wp2
  all_goals go_ret
  all_goals exact ⟨rfl, rfl⟩
set_option maxHeartbeats 4000000 in
set_option maxRecDepth 100000 in
theorem least3 (b : Nat) (x y z : Int) (w : World) (h : w.heap[b]? = some (.cells #[.int .i64 x, .int .i64 y, .int .i64 z] 3 (0, 0))) :
  Calls Try.prog 113 #[.slice (some ⟨b, 0, none⟩) 3 3] w fun e w' => e = .returned (.int .i64 (min (min x y) z)) ∧ w' = w := by
 have hu3 := Try.underlying3
 have hu71 := Try.underlying71
 have c0 : w.cell? ⟨b, 0, none⟩ = some (.int .i64 x) := (blk_cell h 0).trans rfl
 have c1 : w.cell? ⟨b, 1, none⟩ = some (.int .i64 y) := (blk_cell h 1).trans rfl
 have c2 : w.cell? ⟨b, 2, none⟩ = some (.int .i64 z) := (blk_cell h 2).trans rfl
 clear h
 go_enter Try.func113, Try.ntmps113
 go_wp2
 refine wp_loop_rounds 3 ?_
 rw [rounds_succ]
 go_wp2
 all_goals (try (rw [rounds_succ]; go_wp2))
 all_goals (try (rw [rounds_succ]; go_wp2))
 all_goals go_ret
 all_goals exact ⟨ret_i64 (by omega), rfl⟩
def fitN (g c m cpus : Int) : Int := min 16 (min (eachI (popI m) g) (eachI cpus c))
def fitV (g c mn mx m cpus : Int) : Int := if goodShape g c mn mx = true ∧ 0 ≤ cpus then fitN g c m cpus else 0
def shape_Fits.f (a0_0 : Int) (a0_1 : Int) (a0_2 : Int) (a0_3 : Int) (a1_0 : Int) (a1_1 : Int) (a1_2 : Int) (a1_3 : Int) : Option (Int) :=
 if 0 ≤ a1_2 ∧ a1_2 < 18446744073709551616 ∧ a1_3 ≤ 9223372036854775807 then some (fitV a0_0 a0_1 a0_2 a0_3 a1_2 a1_3) else none
theorem popN_le (m : Nat) : popN m ≤ 64 := by
 unfold popN pos
 have := List.length_filter_le (fun i => m.testBit i) (List.range 64)
 simpa using this
theorem popI_bd (m : Int) : 0 ≤ popI m ∧ popI m ≤ 64 := by
 have := popN_le m.toNat
 unfold popI; omega
set_option maxHeartbeats 8000000 in
set_option maxRecDepth 100000 in
theorem fits_any (a0_0 : Int) (a0_1 : Int) (a0_2 : Int) (a0_3 : Int) (a1_0 : Int) (a1_1 : Int) (a1_2 : Int) (a1_3 : Int) (w : World) (hm0 : 0 ≤ a1_2) (hm1 : a1_2 < 18446744073709551616) (hc1 : a1_3 ≤ 9223372036854775807) :
  Calls Try.prog 87 #[.agg #[.int .i64 a0_0, .int .i64 a0_1, .int .i64 a0_2, .int .i64 a0_3], .agg #[.int .i64 a1_0, .int .i64 a1_1, .int .u64 a1_2, .int .i64 a1_3]] w fun e w' => e = .returned (.int .i64 (fitV a0_0 a0_1 a0_2 a0_3 a1_2 a1_3)) ∧ Below w.heap.size w w' := by
 have hu27 := Try.underlying27
 have hu51 := Try.underlying51
 have HM := Aside0.mk (And.intro hm0 hm1)
 have HC := Aside0.mk hc1
 clear hm0 hm1 hc1
 have hck := fun w => shape_Check.calls a0_0 a0_1 a0_2 a0_3 _ w rfl
 by_cases hg : goodShape a0_0 a0_1 a0_2 a0_3 = true
 ·rw [if_pos hg] at hck
  have hg' := hg
  simp only [goodShape, Bool.and_eq_true, decide_eq_true_eq] at hg'
  have HG := Aside0.mk (And.intro (show 0 ≤ a0_0 by omega) (show 0 ≤ a0_1 by omega))
  have HK := Aside0.mk hck
  clear hck hg'
  by_cases hcp : a1_3 < 0
  ·have HN : fitV a0_0 a0_1 a0_2 a0_3 a1_2 a1_3 = 0 := by unfold fitV; rw [if_neg (by omega)]
   rw [HN]
   clear HN hg
   go_enter Try.func87, Try.ntmps87
   go_wp2_with (first | ((with_reducible refine gate_dst (N := 2) rfl ?_); refine bx 2 #[.int .i64 a0_0, .int .i64 a0_1, .int .i64 a0_2, .int .i64 a0_3] 27 ?_; intro g2 hg2 w2 hx2 hb2; have HB2 := Aside0.mk hb2; clear hb2 hg2) | ((with_reducible refine gate_dst (N := 3) rfl ?_); refine bx 3 #[.int .i64 a1_0, .int .i64 a1_1, .int .u64 a1_2, .int .i64 a1_3] 51 ?_; intro g3 hg3 w3 hx3 hb3; replace hx2 := blk_below hx2 hb3; have HB3 := Aside0.mk (below_step HB2.out hb3); clear hb3 hg3; have e0 := (blk_cell hx2 0).trans rfl; have e1 := (blk_cell hx2 1).trans rfl; have e2 := (blk_cell hx2 2).trans rfl; have e3 := (blk_cell hx2 3).trans rfl) | (go_at_call 83; refine (HK.out _).mono ?_; rintro e w4 ⟨rfl, hb⟩; clear e0 e1 e2 e3; replace hx2 := blk_below hx2 hb; replace hx3 := blk_below hx3 hb; have HB4 := Aside0.mk (below_step HB3.out hb); clear hb; have f0 := (blk_cell hx2 0).trans rfl; have f1 := (blk_cell hx2 1).trans rfl; have f2 := (blk_cell hx3 2).trans rfl; have f3 := (blk_cell hx3 3).trans rfl))
   all_goals go_ret
   all_goals exact ⟨rfl, HB4.out⟩
  ·have HN : fitV a0_0 a0_1 a0_2 a0_3 a1_2 a1_3 = fitN a0_0 a0_1 a1_2 a1_3 := by unfold fitV; rw [if_pos ⟨hg, by omega⟩]
   rw [HN]
   clear HN hg
   have H0 : 0 ≤ a1_3 := by omega
   have E1 := Aside0.mk (fun w => each_any (popI a1_2) a0_0 (popI_bd a1_2).1 (by have := (popI_bd a1_2).2; omega) HG.out.1 w)
   have E2 := Aside0.mk (fun w => each_any a1_3 a0_1 H0 HC.out HG.out.2 w)
   clear H0
   go_enter Try.func87, Try.ntmps87
   go_wp2_with (first | ((with_reducible refine gate_dst (N := 2) rfl ?_); refine bx 2 #[.int .i64 a0_0, .int .i64 a0_1, .int .i64 a0_2, .int .i64 a0_3] 27 ?_; intro g2 hg2 w2 hx2 hb2; have HB2 := Aside0.mk hb2; clear hb2 hg2) | ((with_reducible refine gate_dst (N := 3) rfl ?_); refine bx 3 #[.int .i64 a1_0, .int .i64 a1_1, .int .u64 a1_2, .int .i64 a1_3] 51 ?_; intro g3 hg3 w3 hx3 hb3; replace hx2 := blk_below hx2 hb3; have HB3 := Aside0.mk (below_step HB2.out hb3); clear hb3 hg3; have e0 := (blk_cell hx2 0).trans rfl; have e1 := (blk_cell hx2 1).trans rfl; have e2 := (blk_cell hx2 2).trans rfl; have e3 := (blk_cell hx2 3).trans rfl) | (go_at_call 83; refine (HK.out _).mono ?_; rintro e w4 ⟨rfl, hb⟩; clear e0 e1 e2 e3; replace hx2 := blk_below hx2 hb; replace hx3 := blk_below hx3 hb; have HB4 := Aside0.mk (below_step HB3.out hb); clear hb; have f0 := (blk_cell hx2 0).trans rfl; have f1 := (blk_cell hx2 1).trans rfl; have f2 := (blk_cell hx3 2).trans rfl; have f3 := (blk_cell hx3 3).trans rfl))
   go_still_tail 13, (by kernel_rfl)
   still_call ((count_any _ HM.out.1 HM.out.2 _))
   repeat still_step
   still_call (E1.out _)
   repeat still_step
   still_call (E2.out _)
   refine wpStill_nil ?_
   change wpList _ _ _ _ _ w4.drew
   replace HB4 := Aside0.mk (below_drew1 HB4.out)
   clear f0 f1 f2 f3 hx2 hx3
   generalize w4.drew = w5 at *
   have hL := Aside0.mk (least3 w5.heap.size 16 (eachI (popI a1_2) a0_0) (eachI a1_3 a0_1) _ (heap_alloc_new w5 _))
   go_wp2_with (go_at_call 113; refine hL.out.mono ?_; rintro e w6 ⟨rfl, rfl⟩)
   go_ret
   exact ⟨rfl, below_alloc HB4.out _⟩
 ·rw [if_neg hg] at hck
  have HN : fitV a0_0 a0_1 a0_2 a0_3 a1_2 a1_3 = 0 := by unfold fitV; rw [if_neg (fun h => hg h.1)]
  rw [HN]
  have HK := Aside0.mk hck
  clear hck hg HN
  go_enter Try.func87, Try.ntmps87
  go_wp2_with (first | ((with_reducible refine gate_dst (N := 2) rfl ?_); refine bx 2 #[.int .i64 a0_0, .int .i64 a0_1, .int .i64 a0_2, .int .i64 a0_3] 27 ?_; intro g2 hg2 w2 hx2 hb2; have HB2 := Aside0.mk hb2; clear hb2 hg2) | ((with_reducible refine gate_dst (N := 3) rfl ?_); refine bx 3 #[.int .i64 a1_0, .int .i64 a1_1, .int .u64 a1_2, .int .i64 a1_3] 51 ?_; intro g3 hg3 w3 hx3 hb3; replace hx2 := blk_below hx2 hb3; have HB3 := Aside0.mk (below_step HB2.out hb3); clear hb3 hg3; have e0 := (blk_cell hx2 0).trans rfl; have e1 := (blk_cell hx2 1).trans rfl; have e2 := (blk_cell hx2 2).trans rfl; have e3 := (blk_cell hx2 3).trans rfl) | (go_at_call 83; refine (HK.out _).mono ?_; rintro e w4 ⟨rfl, hb⟩; clear e0 e1 e2 e3; replace hx2 := blk_below hx2 hb; replace hx3 := blk_below hx3 hb; have HB4 := Aside0.mk (below_step HB3.out hb); clear hb; have f0 := (blk_cell hx2 0).trans rfl; have f1 := (blk_cell hx2 1).trans rfl; have f2 := (blk_cell hx3 2).trans rfl; have f3 := (blk_cell hx3 3).trans rfl))
  all_goals go_ret
  all_goals exact ⟨rfl, HB4.out⟩
theorem shape_Fits.calls (a0_0 : Int) (a0_1 : Int) (a0_2 : Int) (a0_3 : Int) (a1_0 : Int) (a1_1 : Int) (a1_2 : Int) (a1_3 : Int) (r : Int) (w : World) (h : shape_Fits.f a0_0 a0_1 a0_2 a0_3 a1_0 a1_1 a1_2 a1_3 = some r) :
  Calls Try.prog 87 #[.agg #[.int .i64 a0_0, .int .i64 a0_1, .int .i64 a0_2, .int .i64 a0_3], .agg #[.int .i64 a1_0, .int .i64 a1_1, .int .u64 a1_2, .int .i64 a1_3]] w fun e w' => e = .returned (.int .i64 r) ∧ Below w.heap.size w w' := by
 unfold shape_Fits.f at h
 split at h
 ·rename_i hh
  obtain rfl := Option.some.inj h
  exact fits_any a0_0 a0_1 a0_2 a0_3 a1_0 a1_1 a1_2 a1_3 w hh.1 hh.2.1 hh.2.2
 ·cases h
end Go.Proofs.Ytckhjehibjdjdaa.P
namespace Go.Proofs.Ytckhjehibjdjdaa.P
open Go.RowKit Go.Proofs.YtckhjehibjdjdaaW.PrintWords Go.Proofs.YtckhjehibjdjdaaW.PrintLast Go.Proofs.YtckhjehibjdjdaaW.PrintMore
attribute [local go_sem] max2_int min2_int max_two min_two max_three min_three max_four min_four
set_option linter.unusedVariables false
set_option linter.unusedSimpArgs false
def pack_Room.l0 : Nat → Int → List (S51) → Int → Int → Int → Int → Int → Int → Option (Int)
 | 0, _, _, _, _, _, _, _, _ => none
 | k + 1, x5, x8, x9, x10, x240000, x240001, x240002, x240003 => if x10 < x9 then (if 0 ≤ x10 then (if x10 < (x8.length : Int) then ((shape_Fits.f x240000 x240001 x240002 x240003 ((rd_T51 x8 x10).f0.f0) ((rd_T51 x8 x10).f0.f1) ((rd_T51 x8 x10).f1) ((rd_T51 x8 x10).f2)).bind fun t242 => (pack_Room.l0 k (wrap64 (x5 + t242)) x8 x9 (wrap64 (x10 + 1)) x240000 x240001 x240002 x240003)) else (none)) else (none)) else (some x5)
def pack_Room.f (k : Nat) (l0 : List (S51)) (a1_0 : Int) (a1_1 : Int) (a1_2 : Int) (a1_3 : Int) : Option (Int) := pack_Room.l0 k 0 l0 (l0.length : Int) 0 a1_0 a1_1 a1_2 a1_3
set_option maxHeartbeats 8000000 in
set_option maxRecDepth 100000 in
theorem pack_Room.calls (k : Nat) (A0 : Option Addr) (c0 : Nat) (l0 : List (S51)) (a1_0 : Int) (a1_1 : Int) (a1_2 : Int) (a1_3 : Int) (r : Int) (w : World) (hr0 : Kd.C k51 w A0 l0.length l0) (hc0 : l0.length ≤ c0) (h : pack_Room.f k l0 a1_0 a1_1 a1_2 a1_3 = some r) :
  Calls Try.prog 50 #[.slice A0 l0.length c0, .agg #[.int .i64 a1_0, .int .i64 a1_1, .int .i64 a1_2, .int .i64 a1_3]] w fun e w' => e = .returned (.int .i64 r) ∧ Below w.heap.size w w' := by
 have hu27 := Try.underlying27
 have hu51 := Try.underlying51
 have HR0 := Aside0.mk hr0
 have HC0 := Aside0.mk hc0
 clear hr0 hc0
 have HB := Aside0.mk (Below.refl w.heap.size w)
 have H : (pack_Room.l0 k 0 l0 (l0.length : Int) 0 a1_0 a1_1 a1_2 a1_3) = some r := h
 clear h
 have H' := Aside0.mk H
 clear H
 go_enter Try.func50, Try.ntmps50
 go_wp2_with (first | ((with_reducible refine gate_dst (N := 3) rfl ?_); refine bx 3 #[.int .i64 a1_0, .int .i64 a1_1, .int .i64 a1_2, .int .i64 a1_3] 27 ?_; intro gb239 hg w3 hbox hb; have BK239 := Aside0.mk (hbox); have GW239 := ge_ hg; have GE239 := ge_ hg; replace HB := hs_ hb; clear hb hbox hg))
 go_loopg [5, 10] k (fun kq v5 v10 w' => ∃ (x5_1 : Int) (x10_1 : Int), v5 = .int .i64 x5_1 ∧ v10 = .int .i64 x10_1 ∧ Aside0 (pack_Room.l0 kq x5_1 l0 (l0.length : Int) x10_1 a1_0 a1_1 a1_2 a1_3 = some r) ∧ Aside0 (kq ≤ k) ∧ Aside0 (w'.heap[gb239]? = some (.cells #[.int .i64 a1_0, .int .i64 a1_1, .int .i64 a1_2, .int .i64 a1_3] 27 (0, 0))) ∧ Aside0 (Below w.heap.size w w'))
 case atStart => exact ⟨(0), (0), Z2, Z2, H', ⟨Nat.le_refl _⟩, ⟨bo_ BK239⟩, ⟨hb_⟩⟩
 case round =>
  clear H'
  try clear p2
  obtain ⟨x5_1, x10_1, rfl, rfl, HA, HK1, BK239, HB⟩ := hrel
  cases gk with
  | zero => exact absurd HA.out (by simp [pack_Room.l0])
  | succ k1 =>
   have H := HA.out
   clear HA
   simp only [pack_Room.l0] at H
   by_cases c4 : x10_1 < (l0.length : Int)
   ·rw [if_pos c4] at H
    have c4b0 : decide (x10_1 < (l0.length : Int)) = true := decide_eq_true c4
    clear c4
    by_cases c5 : 0 ≤ x10_1
    ·rw [if_pos c5] at H
     have c5b0 : decide (0 ≤ x10_1) = true := decide_eq_true c5
     clear c5
     by_cases c6 : x10_1 < (l0.length : Int)
     ·rw [if_pos c6] at H
      have c6b0 : decide (x10_1 < (l0.length : Int)) = true := decide_eq_true c6
      clear c6
      replace H := Option.bind_eq_some_iff.mp H
      obtain ⟨t242, A70, H⟩ := H
      replace H : (pack_Room.l0 k1 (wrap64 (x5_1 + t242)) l0 (l0.length : Int) (wrap64 (x10_1 + 1)) a1_0 a1_1 a1_2 a1_3) = some r := H
      have A7 := Aside0.mk A70
      clear A70
      have H' := Aside0.mk H
      clear H
      have p240 : 0 ≤ (x10_1 : Int) := of_decide_eq_true Z1
      have q240 : x10_1 < (l0.length : Int) := of_decide_eq_true Z1
      obtain ⟨ad240, e240, hx240_0, hx240_1, hx240_2, hx240_3⟩ := at_T51 HR0.out x10_1 p240 q240
      cases e240
      replace hx240_0 := cx_ hx240_0
      replace hx240_1 := cx_ hx240_1
      replace hx240_2 := cx_ hx240_2
      replace hx240_3 := cx_ hx240_3
      replace p240 := eq_true p240
      replace q240 := eq_true q240
      go_wp2_with (first | ((with_reducible refine gate_dst (N := 7) rfl ?_); refine bx 7 #[.int .i64 0, .int .i64 0, .int .u64 0, .int .i64 0] 51 ?_; intro gb241 hg w8 hbox hb; have BK241 := Aside0.mk (hbox); have GW241 := ge_ hg; have GE241 := ge_ hg; have NB239_241 := nl_ BK239 hg; have NB241_239 := nr_ BK239 hg; replace BK239 := bk_ BK239 hb; replace HB := hs_ hb; clear hb hbox hg; have hnb9 := NB241_239.out; have hnc9 := NB239_241.out; obtain ⟨hcz10_0, hcz10_1, hcz10_2, hcz10_3, hfz10_0, hfz10_1, hfz10_2, hfz10_3⟩ := bz4_ BK241; obtain ⟨hcz11_0, hcz11_1, hcz11_2, hcz11_3, hfz11_0, hfz11_1, hfz11_2, hfz11_3⟩ := bz4_ BK239) | ((with_reducible refine gate_callee (f := 87) rfl ?_); refine goesL_ (some 17) rfl rfl Try.func87 (by kernel_rfl) rfl #[.agg #[.int .i64 a1_0, .int .i64 a1_1, .int .i64 a1_2, .int .i64 a1_3], .agg #[.int .i64 ((rd_T51 l0 x10_1).f0.f0), .int .i64 ((rd_T51 l0 x10_1).f0.f1), .int .u64 ((rd_T51 l0 x10_1).f1), .int .i64 ((rd_T51 l0 x10_1).f2)]] rfl Z0 ?_; (with_reducible refine (shape_Fits.calls a1_0 a1_1 a1_2 a1_3 ((rd_T51 l0 x10_1).f0.f0) ((rd_T51 l0 x10_1).f0.f1) ((rd_T51 l0 x10_1).f1) ((rd_T51 l0 x10_1).f2) t242 _ A7.out).mono ?_); rintro e w12 ⟨rfl, hb⟩; refine ⟨_, rfl, ?_⟩; replace BK239 := Aside0.mk (blk_below (g := gb239) (o := .cells #[.int .i64 a1_0, .int .i64 a1_1, .int .i64 a1_2, .int .i64 a1_3] 27 (0, 0)) (by (with_reducible repeat (first | refine blk_drewN ?_ _ | refine blk_drew ?_ | refine blk_alloc ?_ _)); refine blk_far ?_ NB239_241.out _; (with_reducible repeat (first | refine blk_drewN ?_ _ | refine blk_drew ?_ | refine blk_alloc ?_ _)); refine blk_far ?_ NB239_241.out _; (with_reducible repeat (first | refine blk_drewN ?_ _ | refine blk_drew ?_ | refine blk_alloc ?_ _)); refine blk_far ?_ NB239_241.out _; (with_reducible repeat (first | refine blk_drewN ?_ _ | refine blk_drew ?_ | refine blk_alloc ?_ _)); refine blk_far ?_ NB239_241.out _; (with_reducible repeat (first | refine blk_drewN ?_ _ | refine blk_drew ?_ | refine blk_alloc ?_ _)); exact BK239.out) hb); replace BK241 := Aside0.mk (blk_below (g := gb241) (o := .cells #[.int .i64 ((rd_T51 l0 x10_1).f0.f0), .int .i64 ((rd_T51 l0 x10_1).f0.f1), .int .u64 ((rd_T51 l0 x10_1).f1), .int .i64 ((rd_T51 l0 x10_1).f2)] 51 (0, 0)) (by (with_reducible repeat (first | refine blk_drewN ?_ _ | refine blk_drew ?_ | refine blk_alloc ?_ _)); refine blk_put (cs := #[.int .i64 ((rd_T51 l0 x10_1).f0.f0), .int .i64 ((rd_T51 l0 x10_1).f0.f1), .int .u64 ((rd_T51 l0 x10_1).f1), .int .i64 0]) ?_ 3 _ rfl; (with_reducible repeat (first | refine blk_drewN ?_ _ | refine blk_drew ?_ | refine blk_alloc ?_ _)); refine blk_put (cs := #[.int .i64 ((rd_T51 l0 x10_1).f0.f0), .int .i64 ((rd_T51 l0 x10_1).f0.f1), .int .u64 0, .int .i64 0]) ?_ 2 _ rfl; (with_reducible repeat (first | refine blk_drewN ?_ _ | refine blk_drew ?_ | refine blk_alloc ?_ _)); refine blk_put (cs := #[.int .i64 ((rd_T51 l0 x10_1).f0.f0), .int .i64 0, .int .u64 0, .int .i64 0]) ?_ 1 _ rfl; (with_reducible repeat (first | refine blk_drewN ?_ _ | refine blk_drew ?_ | refine blk_alloc ?_ _)); refine blk_put (cs := #[.int .i64 0, .int .i64 0, .int .u64 0, .int .i64 0]) ?_ 0 _ rfl; (with_reducible repeat (first | refine blk_drewN ?_ _ | refine blk_drew ?_ | refine blk_alloc ?_ _)); exact BK241.out) hb); replace HB := hs_ hb; (try clear hb); (try clear hb2); (try clear hk); (try clear hi)))
      go_roundg k1
      case measure => have := HK1.out; omega
      case rel => exact ⟨(wrap64 (x5_1 + t242)), (wrap64 (x10_1 + 1)), Z2, Z2, H', ⟨by have := HK1.out; omega⟩, ⟨bo_ BK239⟩, ⟨hb_⟩⟩
     ·rw [if_neg c6] at H
      exact absurd H (by simp)
    ·rw [if_neg c5] at H
     exact absurd H (by simp)
   ·rw [if_neg c4] at H
    have c4b0 : decide (x10_1 < (l0.length : Int)) = false := decide_eq_false c4
    clear c4
    obtain rfl := Option.some.inj H
    go_wp2
    go_ret
    exact ⟨by first | rfl | (simp [errW_none, errW_some] <;> rfl) | (simp [*, errW_none, errW_some] <;> rfl), hb_⟩
end Go.Proofs.Ytckhjehibjdjdaa.P
namespace Go.Proofs.Ytckhjehibjdjdaa.P
open Go.RowKit Go.Proofs.YtckhjehibjdjdaaW.PrintWords Go.Proofs.YtckhjehibjdjdaaW.PrintLast Go.Proofs.YtckhjehibjdjdaaW.PrintMore
attribute [local go_sem] max2_int min2_int max_two min_two max_three min_three max_four min_four
set_option linter.unusedVariables false
set_option linter.unusedSimpArgs false
theorem eqA48 (d : Nat) (w : World) (x0 y0 : Int) (x1 y1 : Int) :
  (Op.equalIn (d + 2) 48 (.agg #[.int .i64 x0, .int .i64 x1]) (.agg #[.int .i64 y0, .int .i64 y1])).run Try.prog w = .ok (x0 == y0 && (x1 == y1)) w := by
 refine eqA_of Try.underlying48 (by kernel_rfl) ?_
 refine eqf_cons (by rfl) (by go_simp; rfl) (by go_simp; rfl) (by go_simp) ?_
 exact eqf_last (by rfl) (by go_simp; rfl) (by go_simp; rfl) (by go_simp)
end Go.Proofs.Ytckhjehibjdjdaa.P
namespace Go.Proofs.Ytckhjehibjdjdaa.P
open Go.RowKit Go.Proofs.YtckhjehibjdjdaaW.PrintWords Go.Proofs.YtckhjehibjdjdaaW.PrintLast Go.Proofs.YtckhjehibjdjdaaW.PrintMore
attribute [local go_sem] max2_int min2_int max_two min_two max_three min_three max_four min_four
set_option linter.unusedVariables false
set_option linter.unusedSimpArgs false
theorem eqA52 (d : Nat) (w : World) (x0 y0 : Int) (x1 y1 : Int) (x2 y2 : Int) (x3 y3 : Int) :
  (Op.equalIn (d + 3) 52 (.agg #[.int .i64 x0, .int .i64 x1, .int .u64 x2, .int .i64 x3]) (.agg #[.int .i64 y0, .int .i64 y1, .int .u64 y2, .int .i64 y3])).run Try.prog w = .ok ((x0 == y0 && (x1 == y1)) && (x2 == y2 && (x3 == y3))) w := by
 refine eqA_of Try.underlying52 (by kernel_rfl) ?_
 refine eqf_cons (by rfl) (by go_simp) (by go_simp) (eqA48 (d + 0) w _ _ _ _) ?_
 refine eqf_cons (by rfl) (by go_simp; rfl) (by go_simp; rfl) (by go_simp) ?_
 exact eqf_last (by rfl) (by go_simp; rfl) (by go_simp; rfl) (by go_simp)
end Go.Proofs.Ytckhjehibjdjdaa.P
namespace Go.Proofs.Ytckhjehibjdjdaa.Mp
open Go.RowKit Go.Maps
def MapI (P : Program) (k e : TypeId) (w : World) (b n : Nat) (f : Int → Int) : Prop :=
 ∃ D : DataW Unit, w.ownsMap P k (plainElem P e) b n D ∧ IsMap D ∧ ∀ i, D.atKey (.int .i64 i) (.lit (.int .i64 0)) = .lit (.int .i64 (f i))
variable {P : Program} {k e : TypeId} {w : World} {b n : Nat} {f : Int → Int}
theorem MapI.made (w : World) (P : Program) (k e : TypeId) : MapI P k e (w.alloc (.map #[] 0)) w.heap.size 0 (fun _ => 0) :=
 ⟨.map [], World.ownsMap_made _ _ _ _, ⟨_, rfl⟩, fun _ => rfl⟩
theorem MapI.lt (h : MapI P k e w b n f) : b < w.heap.size := by
 obtain ⟨D, ⟨es, cl, hb, _⟩, _⟩ := h
 exact (Array.getElem?_eq_some_iff.1 hb).1
theorem MapI.move {w1 : World} (h : MapI P k e w b n f) (hm : w1.heap[b]? = w.heap[b]?) : MapI P k e w1 b n f := by
 obtain ⟨D, ⟨es, cl, hb, r⟩, i⟩ := h
 exact ⟨D, ⟨es, cl, hm.trans hb, r⟩, i⟩
theorem MapI.below {w1 : World} (h : MapI P k e w b n f) (hb : Below w.heap.size w w1) : MapI P k e w1 b n f := h.move (hb.block b h.lt)
theorem MapI.grown {w1 : World} {row : Option Nat} (h : MapI P k e w b n f) (hg : w.grownBy w1 row) (hne : some b ≠ row) : MapI P k e w1 b n f := h.move (hg.block b h.lt hne)
theorem MapI.alloc (h : MapI P k e w b n f) (o : Obj) : MapI P k e (w.alloc o) b n f := h.below ((Below.refl _ _).alloc (Nat.le_refl _) o)
theorem MapI.drew (h : MapI P k e w b n f) : MapI P k e w.drew b n f := h
theorem MapI.drewN (h : MapI P k e w b n f) (m : Nat) : MapI P k e (w.drewN m) b n f := h.move rfl
theorem MapI.congr {f' : Int → Int} {n' : Nat} (h : MapI P k e w b n f) (hf : ∀ i, f i = f' i) (hn : n = n') : MapI P k e w b n' f' := by
 subst hn
 obtain ⟨D, h1, h2, h3⟩ := h
 exact ⟨D, h1, h2, fun i => by rw [h3, hf]⟩
variable {ops : Array Oper} {rest : List Oper} {o : Oper} {a : Act} {Q : Exit → Act → World → Prop}
end Go.Proofs.Ytckhjehibjdjdaa.Mp
namespace Go.Proofs.Ytckhjehibjdjdaa.Mp
open Go.RowKit Go.Maps
def skey (a b : Int) : Lit := .string (keyBytes [.int .i64 a, .int .i64 b])
def W64 (x : Int) : Prop := (Lit.int .i64 x).wf = true
theorem W64.mk {x : Int} (h : -9223372036854775808 ≤ x ∧ x ≤ 9223372036854775807) : W64 x := by
 unfold W64; simp [Lit.wf, IntKind.min, IntKind.max, IntKind.bits, IntKind.signed]; omega
structure PairKey (P : Program) (k : TypeId) : Prop where
 keyed : Keyed P k
 key : ∀ {a b : Int}, W64 a → W64 b → keyOf P k (.agg #[.int .i64 a, .int .i64 b]) = some (skey a b)
theorem PairKey.inj {P : Program} {k : TypeId} (K : PairKey P k) {a b c d : Int} (ha : W64 a) (hb : W64 b) (hc : W64 c) (hd : W64 d) (h : skey a b = skey c d) : a = c ∧ b = d := by
 have h1 := K.key ha hb
 have h2 := K.key hc hd
 rw [← h] at h2
 have := K.keyed.inj h1 h2
 simp at this
 exact this
def MapS (P : Program) (k e : TypeId) (w : World) (b n : Nat) (f : Int → Int → Option Int) : Prop :=
 ∃ D : DataW Unit, w.ownsMap P k (plainElem P e) b n D ∧ IsMap D ∧ ∀ i j, W64 i → W64 j → has D (skey i j) = (f i j).isSome ∧ D.atKey (skey i j) (.lit (.int .i64 0)) = .lit (.int .i64 ((f i j).getD 0))
def updS (f : Int → Int → Option Int) (i j v : Int) : Int → Int → Option Int := fun a b => if a = i ∧ b = j then some v else f a b
variable {P : Program} {k e : TypeId} {w : World} {b n : Nat} {f : Int → Int → Option Int}
theorem MapS.made (w : World) (P : Program) (k e : TypeId) : MapS P k e (w.alloc (.map #[] 0)) w.heap.size 0 (fun _ _ => none) :=
 ⟨.map [], World.ownsMap_made _ _ _ _, ⟨_, rfl⟩, fun _ _ _ _ => ⟨rfl, rfl⟩⟩
theorem MapS.lt (h : MapS P k e w b n f) : b < w.heap.size := by
 obtain ⟨D, ⟨es, cl, hb, _⟩, _⟩ := h
 exact (Array.getElem?_eq_some_iff.1 hb).1
theorem MapS.move {w1 : World} (h : MapS P k e w b n f) (hm : w1.heap[b]? = w.heap[b]?) : MapS P k e w1 b n f := by
 obtain ⟨D, ⟨es, cl, hb, r⟩, i⟩ := h
 exact ⟨D, ⟨es, cl, hm.trans hb, r⟩, i⟩
theorem MapS.below {w1 : World} (h : MapS P k e w b n f) (hb : Below w.heap.size w w1) : MapS P k e w1 b n f := h.move (hb.block b h.lt)
theorem MapS.grown {w1 : World} {row : Option Nat} (h : MapS P k e w b n f) (hg : w.grownBy w1 row) (hne : some b ≠ row) : MapS P k e w1 b n f := h.move (hg.block b h.lt hne)
theorem MapS.alloc (h : MapS P k e w b n f) (o : Obj) : MapS P k e (w.alloc o) b n f := h.below ((Below.refl _ _).alloc (Nat.le_refl _) o)
theorem MapS.congr {f' : Int → Int → Option Int} {n' : Nat} (h : MapS P k e w b n f) (hf : ∀ i j, f i j = f' i j) (hn : n ≤ n') : MapS P k e w b n' f' := by
 obtain ⟨D, ⟨es, cl, hb, F, hs, hD⟩, h2, h3⟩ := h
 exact ⟨D, ⟨es, cl, hb, F, Nat.le_trans hs hn, hD⟩, h2, fun i j hi hj => by rw [← hf]; exact h3 i j hi hj⟩
variable {ops : Array Oper} {rest : List Oper} {o : Oper} {a : Act} {Q : Exit → Act → World → Prop}
theorem wp_lookup_S (hg : o.guard = none) (K : PairKey P k) (m x : Operand) (t : TypeId) (hop : o.op = Op.lookup t m x true)
  (ht : P.underlying t = some (.map k e)) (he : P.underlying e = some (.int .i64)) (hz : (zeroValue e).run P w = .ok (.int .i64 0) w)
  (hm : a.eval m = .map (some b)) (h : MapS P k e w b n f) (i j : Int) (hx : a.eval x = .agg #[.int .i64 i, .int .i64 j]) (hi : W64 i) (hj : W64 j)
  (hK : wpList P ops Q rest (a.put o.dst (.tuple #[.int .i64 ((f i j).getD 0), .bool (f i j).isSome])) w) : wpList P ops Q (o :: rest) a w := by
 obtain ⟨D, h1, h2, h3⟩ := h
 refine wpList_lookup_own_ok_int w hg m x t hop k e .i64 K.keyed ht he hz b n D hm h1 _ _ hx (K.key hi hj) ?_
 intro c hat hwc
 obtain ⟨e1, e2⟩ := h3 i j hi hj
 rw [e2] at hat
 injection hat with hat
 injection hat with _ hat
 subst hat
 rw [e1]
 exact hK
theorem wp_update_S (hg : o.guard = none) (K : PairKey P k) (m x v : Operand) (t : TypeId) (hop : o.op = Op.mapUpdate t m x v)
  (ht : P.underlying t = some (.map k e)) (he : P.underlying e = some (.int .i64))
  (hm : a.eval m = .map (some b)) (h : MapS P k e w b n f) (hn : n < maxLen) (i j c : Int) (hx : a.eval x = .agg #[.int .i64 i, .int .i64 j]) (hv : a.eval v = .int .i64 c) (hi : W64 i) (hj : W64 j) (hc : W64 c)
  (hK : ∀ w', MapS P k e w' b (n + 1) (updS f i j c) → w.grownBy w' (some b) → wpList P ops Q rest (a.put o.dst undef) w') : wpList P ops Q (o :: rest) a w := by
 obtain ⟨D, h1, h2, h3⟩ := h
 refine wpList_mapUpdate_own w hg m x v t hop k e K.keyed ht _ b n D hm h1 hn _ _ _ hx hv (K.key hi hj) _ [] (plainElem_int he hc) ?_
 intro w' ho hgr
 refine hK w' ⟨_, ho, ?_, fun i' j' hi' hj' => ?_⟩ hgr
 ·obtain ⟨l, rfl⟩ := h2
  exact ⟨_, rfl⟩
 ·unfold updS
  by_cases hh : i' = i ∧ j' = j
  ·obtain ⟨rfl, rfl⟩ := hh
   rw [if_pos ⟨rfl, rfl⟩, atKey_put_same h2 (by simp [skey, WideAt.IsKeyLit]), has_put_same h2 (by simp [skey, WideAt.IsKeyLit])]
   exact ⟨rfl, rfl⟩
  ·have hne : skey i' j' ≠ skey i j := fun e => hh (K.inj hi' hj' hi hj e)
   rw [if_neg hh, atKey_put_other hne, has_put_other hne]
   exact h3 i' j' hi' hj'
end Go.Proofs.Ytckhjehibjdjdaa.Mp
namespace Go.Proofs.Ytckhjehibjdjdaa.P
open Go.RowKit Go.Shelf Go.Proofs.YtckhjehibjdjdaaW.PrintWords Go.Proofs.YtckhjehibjdjdaaW.PrintLast Go.Proofs.YtckhjehibjdjdaaW.PrintMore
attribute [local go_sem] Oper.semAt_some
set_option linter.unusedVariables false
set_option linter.unusedSimpArgs false
set_option maxHeartbeats 4000000 in
set_option maxRecDepth 100000 in
theorem clone84_any (A0 : Option Addr) (c0 : Nat) (l0 : List S51) (w : World) (hr0 : Kd.C k51 w A0 l0.length l0) (hc0 : l0.length ≤ c0) (hl : l0.length < 4398046511104) :
  Calls Try.prog 84 #[.slice A0 l0.length c0] w fun e w' => ∃ v0_ : Value, e = .returned v0_ ∧ Kd.R k51 51 w' w.heap.size (fun _ => True) v0_ l0 ∧ Below w.heap.size w w' := by
 have hu22 := Try.underlying22
 have q22 : ∀ (w : World) (a : Option Addr) (n c n' c' : Nat), (binOp .eql 22 (.slice a n c) (.slice none n' c')).run Try.prog w = .ok (.bool a.isNone) w := fun w a n c n' c' => Lib.run_eql_slice_nil w _ _ a n c n' c' Try.underlying22
 have HR := Aside0.mk hr0
 have HL := Aside0.mk hl
 cases A0 with
 | none =>
  have h0 : l0 = [] := by
   rcases Nat.eq_zero_or_pos l0.length with h | h
   ·exact List.eq_nil_of_length_eq_zero h
   ·obtain ⟨ad, hA, _⟩ := hr0.2.2 h
    cases hA
  subst h0
  clear hr0 hl
  go_enter Try.func84, Try.ntmps84
  go_wp2
  all_goals go_ret
  all_goals exact ⟨_, rfl, Kd.R_nil _ _ _ _ _, Below.refl _ _⟩
 | some ad =>
  clear hr0 hl
  go_enter Try.func84, Try.ntmps84
  go_wp2_with (first | ((with_reducible refine gate_dst (N := 5) rfl ?_); refine Kd.R_lit k51 _ 51 ?hg (N := 5) ?hd (xs := ([] : List (S51))) (inner := []) (ok := fun _ => True) (okp := fun _ => True) ?hr ?hp (fun _ hk => hk) trivial (Below.refl _ _) (Nat.le_refl _) (by simp) ?_; (case hd => rfl); (case hg => rfl); (case hr => first | (go_simp; done) | (go_simp; rfl)); (case hp => exact (Reps.none _ _)); intro v5 w5 ho5 hb hg_ hnew_; have HO5 := Aside0.mk ho5; have HB5 := Aside0.mk hb; clear hg_ hnew_ ho5 hb) | (refine Kd.R_append_rows k51 (w0 := w) w.heap.size rfl (.tmp 5) (.tmp 6) 22 51 (.agg #[(.int .i64 0), (.int .i64 0), (.int .u64 0), (.int .i64 0)]) 32 rfl Try.underlying22 info51 rfl (by decide) (by omega) v5 [] l0 _ _ _ (fun _ => True) (fun _ => False) rfl rfl HO5.out (Kd.C_below HR.out HB5.out) (fun _ _ h => h) (fun _ h => h.elim) (fun _ _ => trivial) HB5.out (below_size HB5.out) (by have := HL.out; simp; omega) ?_; intro v7 w7 ho hb hg hat; have HO7 := Aside0.mk ho; have HB7 := Aside0.mk hb; clear ho hb hg hat))
  all_goals go_ret
  all_goals exact ⟨_, rfl, HO7.out, HB7.out⟩
end Go.Proofs.Ytckhjehibjdjdaa.P
namespace Go.Proofs.Ytckhjehibjdjdaa.P
open Go.RowKit Go.Maps Go.WideMaps Go.Proofs.Ytckhjehibjdjdaa.Mp
set_option linter.unusedVariables false
set_option linter.unusedSimpArgs false
theorem key48 : PairKey Try.prog 48 := by
 refine ⟨Keyed.of_law (deep_law (m := 3) (by omega) (by kernel_rfl) (by kernel_rfl) (by rw [Try.underlying48])), ?_⟩
 intro a b ha hb
 have hs : ∃ m, Try.prog.types.size = m + 1 := ⟨Try.prog.types.size - 1, by kernel_rfl⟩
 obtain ⟨m, hm⟩ := hs
 have hkt : Try.prog.keyType 48 = true := by kernel_rfl
 have u3 := Try.underlying3
 have c48 : Try.prog.cellsOf 48 = 2 := by kernel_rfl
 have c3 : Try.prog.cellsOf 3 = 1 := by kernel_rfl
 have ha' : (Lit.int .i64 a).wf = true := ha
 have hb' : (Lit.int .i64 b).wf = true := hb
 have hf : (Value.agg #[.int .i64 a, .int .i64 b]).formed Try.prog 48 = true := by
  simp [Value.formed, Try.underlying48, c48]
 unfold keyOf
 simp only [Try.underlying48, hkt, hf, Bool.true_and, if_true, Bool.and_self]
 rw [hm]
 simp [Program.keyLits, Try.underlying48, Value.cells, u3, ha', hb', c48, c3, skey]
end Go.Proofs.Ytckhjehibjdjdaa.P
namespace Go.Proofs.Ytckhjehibjdjdaa.P
open Go.RowKit Go.Shelf Go.Proofs.YtckhjehibjdjdaaW.PrintWords Go.Proofs.YtckhjehibjdjdaaW.PrintLast Go.Proofs.YtckhjehibjdjdaaW.PrintMore
attribute [local go_sem] Oper.semAt_some
set_option linter.unusedVariables false
set_option linter.unusedSimpArgs false
def moreE (f : S51) (s : S52) : Int := if Go.bits .and .u64 s.f1 f.f1 ≠ 0 then 4 else if s.f2 > wrap64 (1048576 - f.f2) then 14 else 0
def moreF (f : S51) (s : S52) : S51 := ⟨f.f0, Go.bits .or .u64 f.f1 s.f1, wrap64 (f.f2 + s.f2)⟩
def lessE (f : S51) (s : S52) : Int := if Go.bits .andNot .u64 s.f1 f.f1 ≠ 0 then 5 else if s.f2 > f.f2 then 5 else 0
def lessF (f : S51) (s : S52) : S51 := ⟨f.f0, Go.bits .andNot .u64 f.f1 s.f1, wrap64 (f.f2 - s.f2)⟩
def putF (cur : Array Value) (o : Nat) (f : S51) : Array Value := (cur.setIfInBounds (o + 2) (.int .u64 f.f1)).setIfInBounds (o + 3) (.int .i64 f.f2)
theorem grown_set {w W : World} {g j : Nat} {v : Value} (h : w.grownBy W (some g)) : w.grownBy (W.setCell ⟨g, j, none⟩ v) (some g) :=
 ⟨h.os, h.tape, h.output, by simpa using h.size, fun k hk hne => (Below.heap_setCell W _ v k (fun e => hne (by rw [e]))).trans (h.block k hk hne)⟩
theorem grown_drew {w W : World} {g : Nat} (h : w.grownBy W (some g)) : w.grownBy W.drew (some g) := ⟨h.os, h.tape, h.output, h.size, h.block⟩
theorem grown_of_below {w W : World} {g : Nat} (h : Below w.heap.size w W) : w.grownBy W (some g) := ⟨h.os, h.tape, h.output, h.size, fun k hk _ => h.block k hk⟩
set_option maxHeartbeats 8000000 in
set_option maxRecDepth 100000 in
theorem more1_any (g o : Nat) (cur : Array Value) (f : S51) (s : S52) (w : World) (hb : w.heap[g]? = some (.cells cur 51 (0, 0))) (h2 : cur[o + 2]? = some (.int .u64 f.f1)) (h3 : cur[o + 3]? = some (.int .i64 f.f2)) :
  Calls Try.prog 92 #[.pointer (some ⟨g, o, none⟩), .agg #[.int .i64 s.f0.f0, .int .i64 s.f0.f1, .int .u64 s.f1, .int .i64 s.f2]] w fun e w' => e = .returned (.int .i64 (moreE f s)) ∧ w.grownBy w' (some g) ∧ w'.heap[g]? = some (.cells (if moreE f s = 0 then putF cur o (moreF f s) else cur) 51 (0, 0)) := by
 have hu52 := Try.underlying52
 have hu51 := Try.underlying51
 have hu49 := Try.underlying49
 obtain ⟨⟨n0, n1⟩, m, c⟩ := f
 obtain ⟨⟨s0, s1⟩, sm, sc⟩ := s
 simp only at h2 h3
 have hlt : g < w.heap.size := (Array.getElem?_eq_some_iff.1 hb).1
 have HB := Aside0.mk hb
 have H2 := Aside0.mk h2
 have H3 := Aside0.mk h3
 clear hb h2 h3
 by_cases q1 : Go.bits .and .u64 sm m = 0
 ·have b1 : (Go.bits .and .u64 sm m != 0) = false := by simpa using q1
  by_cases q2 : sc > wrap64 (1048576 - c)
  ·have b2 : decide (wrap64 (1048576 - c) < sc) = true := by simpa using q2
   have HE : moreE ⟨⟨n0, n1⟩, m, c⟩ ⟨⟨s0, s1⟩, sm, sc⟩ = 14 := by simp only [moreE]; rw [if_neg (by simpa using q1), if_pos q2]
   rw [HE, if_neg (by decide)]
   go_enter Try.func92, Try.ntmps92
   go_wp2_with (first | ((with_reducible refine gate_dst (N := 3) rfl ?_); refine bx 3 #[.int .i64 s0, .int .i64 s1, .int .u64 sm, .int .i64 sc] 52 ?_; intro g3 hg3 w3 hx3 hb3; have hne : g ≠ g3 := (by omega); have HB3 := Aside0.mk hb3; have hbk := hb3.block g hlt; rw [HB.out] at hbk; have HX := Aside0.mk hbk; have f1 : w3.cell? ⟨g3, 2, none⟩ = some (.int .u64 sm) := (blk_cell hx3 2).trans rfl; have f2 : w3.cell? ⟨g3, 3, none⟩ = some (.int .i64 sc) := (blk_cell hx3 3).trans rfl; have k2 := (blk_cell hbk (o + 2)).trans H2.out; have k3 := (blk_cell hbk (o + 3)).trans H3.out; have z2 := blk_frozen hbk (o + 2); have z3 := blk_frozen hbk (o + 3); clear hg3 hb3 hbk))
   go_quiet (fail)
   go_wp2
   go_quiet (fail)
   go_wp2
   go_ret
   exact ⟨rfl, grown_of_below (by repeat (first | exact HB3.out | apply pw_below_drewN)), by simpa using HX.out⟩
  ·have b2 : decide (wrap64 (1048576 - c) < sc) = false := by simpa using q2
   have HE : moreE ⟨⟨n0, n1⟩, m, c⟩ ⟨⟨s0, s1⟩, sm, sc⟩ = 0 := by simp only [moreE]; rw [if_neg (by simpa using q1), if_neg q2]
   rw [HE, if_pos rfl]
   go_enter Try.func92, Try.ntmps92
   go_wp2_with (first | ((with_reducible refine gate_dst (N := 3) rfl ?_); refine bx 3 #[.int .i64 s0, .int .i64 s1, .int .u64 sm, .int .i64 sc] 52 ?_; intro g3 hg3 w3 hx3 hb3; have hne : g ≠ g3 := (by omega); have HB3 := Aside0.mk hb3; have hbk := hb3.block g hlt; rw [HB.out] at hbk; have HX := Aside0.mk hbk; have f1 : w3.cell? ⟨g3, 2, none⟩ = some (.int .u64 sm) := (blk_cell hx3 2).trans rfl; have f2 : w3.cell? ⟨g3, 3, none⟩ = some (.int .i64 sc) := (blk_cell hx3 3).trans rfl; have k2 := (blk_cell hbk (o + 2)).trans H2.out; have k3 := (blk_cell hbk (o + 3)).trans H3.out; have z2 := blk_frozen hbk (o + 2); have z3 := blk_frozen hbk (o + 3); clear hg3 hb3 hbk))
   go_quiet (fail)
   go_wp2
   go_quiet (fail)
   go_wp2
   generalize hw5 : (w3.drewN _).drewN _ = w5
   have hb5 : Below w.heap.size w w5 := by rw [← hw5]; repeat (first | exact HB3.out | apply pw_below_drewN)
   have hx5 : w5.heap[g]? = some (.cells cur 51 (0, 0)) := by rw [← hw5]; exact HX.out
   have hy5 : w5.heap[g3]? = some (.cells #[.int .i64 s0, .int .i64 s1, .int .u64 sm, .int .i64 sc] 52 (0, 0)) := by rw [← hw5]; exact hx3
   clear hx3 f1 f2 k2 k3 z2 z3 hw5
   have f1 : w5.cell? ⟨g3, 2, none⟩ = some (.int .u64 sm) := (blk_cell hy5 2).trans rfl
   have f2 : w5.cell? ⟨g3, 3, none⟩ = some (.int .i64 sc) := (blk_cell hy5 3).trans rfl
   have k2 := (blk_cell hx5 (o + 2)).trans H2.out
   have k3 := (blk_cell hx5 (o + 3)).trans H3.out
   have z2 := blk_frozen hx5 (o + 2)
   have z3 := blk_frozen hx5 (o + 3)
   have hy6 := blk_far hy5 (p := ⟨g, o + 2, none⟩) (fun e => hne e.symm) (.int .u64 (Go.bits .or .u64 m sm))
   have hx6 := blk_set hx5 (o + 2) (.int .u64 (Go.bits .or .u64 m sm))
   have f3 : (w5.setCell ⟨g, o + 2, none⟩ (.int .u64 (Go.bits .or .u64 m sm))).cell? ⟨g3, 3, none⟩ = some (.int .i64 sc) := (blk_cell hy6 3).trans rfl
   have k4 : (w5.setCell ⟨g, o + 2, none⟩ (.int .u64 (Go.bits .or .u64 m sm))).cell? ⟨g, o + 3, none⟩ = some (.int .i64 c) := (blk_cell hx6 (o + 3)).trans (by rw [Array.getElem?_setIfInBounds_ne (by omega)]; exact H3.out)
   have z4 := blk_frozen hx6 (o + 3)
   have HB5 := Aside0.mk hb5
   have HX6 := Aside0.mk hx6
   clear hb5 hx5 hy5 hy6 hx6
   go_region
   go_wp2
   go_ret
   exact ⟨rfl, grown_drew (grown_set (grown_set (grown_of_below HB5.out))), blk_set HX6.out (o + 3) _⟩
 ·have b1 : (Go.bits .and .u64 sm m != 0) = true := by simpa using q1
  have HE : moreE ⟨⟨n0, n1⟩, m, c⟩ ⟨⟨s0, s1⟩, sm, sc⟩ = 4 := by simp only [moreE]; rw [if_pos q1]
  rw [HE, if_neg (by decide)]
  go_enter Try.func92, Try.ntmps92
  go_wp2_with (first | ((with_reducible refine gate_dst (N := 3) rfl ?_); refine bx 3 #[.int .i64 s0, .int .i64 s1, .int .u64 sm, .int .i64 sc] 52 ?_; intro g3 hg3 w3 hx3 hb3; have hne : g ≠ g3 := (by omega); have HB3 := Aside0.mk hb3; have hbk := hb3.block g hlt; rw [HB.out] at hbk; have HX := Aside0.mk hbk; have f1 : w3.cell? ⟨g3, 2, none⟩ = some (.int .u64 sm) := (blk_cell hx3 2).trans rfl; have f2 : w3.cell? ⟨g3, 3, none⟩ = some (.int .i64 sc) := (blk_cell hx3 3).trans rfl; have k2 := (blk_cell hbk (o + 2)).trans H2.out; have k3 := (blk_cell hbk (o + 3)).trans H3.out; have z2 := blk_frozen hbk (o + 2); have z3 := blk_frozen hbk (o + 3); clear hg3 hb3 hbk))
  go_quiet (fail)
  go_wp2
  go_ret
  exact ⟨rfl, grown_of_below (by repeat (first | exact HB3.out | apply pw_below_drewN)), by simpa using HX.out⟩
set_option maxHeartbeats 8000000 in
set_option maxRecDepth 100000 in
theorem less1_any (g o : Nat) (cur : Array Value) (f : S51) (s : S52) (w : World) (hb : w.heap[g]? = some (.cells cur 51 (0, 0))) (h2 : cur[o + 2]? = some (.int .u64 f.f1)) (h3 : cur[o + 3]? = some (.int .i64 f.f2)) :
  Calls Try.prog 91 #[.pointer (some ⟨g, o, none⟩), .agg #[.int .i64 s.f0.f0, .int .i64 s.f0.f1, .int .u64 s.f1, .int .i64 s.f2]] w fun e w' => e = .returned (.int .i64 (lessE f s)) ∧ w.grownBy w' (some g) ∧ w'.heap[g]? = some (.cells (if lessE f s = 0 then putF cur o (lessF f s) else cur) 51 (0, 0)) := by
 have hu52 := Try.underlying52
 have hu51 := Try.underlying51
 have hu49 := Try.underlying49
 obtain ⟨⟨n0, n1⟩, m, c⟩ := f
 obtain ⟨⟨s0, s1⟩, sm, sc⟩ := s
 simp only at h2 h3
 have hlt : g < w.heap.size := (Array.getElem?_eq_some_iff.1 hb).1
 have HB := Aside0.mk hb
 have H2 := Aside0.mk h2
 have H3 := Aside0.mk h3
 clear hb h2 h3
 by_cases q1 : Go.bits .andNot .u64 sm m = 0
 ·have b1 : (Go.bits .andNot .u64 sm m != 0) = false := by simpa using q1
  by_cases q2 : sc > c
  ·have b2 : decide (c < sc) = true := by simpa using q2
   have HE : lessE ⟨⟨n0, n1⟩, m, c⟩ ⟨⟨s0, s1⟩, sm, sc⟩ = 5 := by simp only [lessE]; rw [if_neg (by simpa using q1), if_pos q2]
   rw [HE, if_neg (by decide)]
   go_enter Try.func91, Try.ntmps91
   go_wp2_with (first | ((with_reducible refine gate_dst (N := 3) rfl ?_); refine bx 3 #[.int .i64 s0, .int .i64 s1, .int .u64 sm, .int .i64 sc] 52 ?_; intro g3 hg3 w3 hx3 hb3; have hne : g ≠ g3 := (by omega); have HB3 := Aside0.mk hb3; have hbk := hb3.block g hlt; rw [HB.out] at hbk; have HX := Aside0.mk hbk; have f1 : w3.cell? ⟨g3, 2, none⟩ = some (.int .u64 sm) := (blk_cell hx3 2).trans rfl; have f2 : w3.cell? ⟨g3, 3, none⟩ = some (.int .i64 sc) := (blk_cell hx3 3).trans rfl; have k2 := (blk_cell hbk (o + 2)).trans H2.out; have k3 := (blk_cell hbk (o + 3)).trans H3.out; have z2 := blk_frozen hbk (o + 2); have z3 := blk_frozen hbk (o + 3); clear hg3 hb3 hbk))
   go_quiet (fail)
   go_wp2
   go_ret
   exact ⟨rfl, grown_of_below (by repeat (first | exact HB3.out | apply pw_below_drewN)), by simpa using HX.out⟩
  ·have b2 : decide (c < sc) = false := by simpa using q2
   have HE : lessE ⟨⟨n0, n1⟩, m, c⟩ ⟨⟨s0, s1⟩, sm, sc⟩ = 0 := by simp only [lessE]; rw [if_neg (by simpa using q1), if_neg q2]
   rw [HE, if_pos rfl]
   go_enter Try.func91, Try.ntmps91
   go_wp2_with (first | ((with_reducible refine gate_dst (N := 3) rfl ?_); refine bx 3 #[.int .i64 s0, .int .i64 s1, .int .u64 sm, .int .i64 sc] 52 ?_; intro g3 hg3 w3 hx3 hb3; have hne : g ≠ g3 := (by omega); have HB3 := Aside0.mk hb3; have hbk := hb3.block g hlt; rw [HB.out] at hbk; have HX := Aside0.mk hbk; have f1 : w3.cell? ⟨g3, 2, none⟩ = some (.int .u64 sm) := (blk_cell hx3 2).trans rfl; have f2 : w3.cell? ⟨g3, 3, none⟩ = some (.int .i64 sc) := (blk_cell hx3 3).trans rfl; have k2 := (blk_cell hbk (o + 2)).trans H2.out; have k3 := (blk_cell hbk (o + 3)).trans H3.out; have z2 := blk_frozen hbk (o + 2); have z3 := blk_frozen hbk (o + 3); clear hg3 hb3 hbk))
   go_quiet (fail)
   go_wp2
   generalize hw5 : w3.drewN _ = w5
   have hb5 : Below w.heap.size w w5 := by rw [← hw5]; repeat (first | exact HB3.out | apply pw_below_drewN)
   have hx5 : w5.heap[g]? = some (.cells cur 51 (0, 0)) := by rw [← hw5]; exact HX.out
   have hy5 : w5.heap[g3]? = some (.cells #[.int .i64 s0, .int .i64 s1, .int .u64 sm, .int .i64 sc] 52 (0, 0)) := by rw [← hw5]; exact hx3
   clear hx3 f1 f2 k2 k3 z2 z3 hw5
   have f1 : w5.cell? ⟨g3, 2, none⟩ = some (.int .u64 sm) := (blk_cell hy5 2).trans rfl
   have f2 : w5.cell? ⟨g3, 3, none⟩ = some (.int .i64 sc) := (blk_cell hy5 3).trans rfl
   have k2 := (blk_cell hx5 (o + 2)).trans H2.out
   have k3 := (blk_cell hx5 (o + 3)).trans H3.out
   have z2 := blk_frozen hx5 (o + 2)
   have z3 := blk_frozen hx5 (o + 3)
   have hy6 := blk_far hy5 (p := ⟨g, o + 2, none⟩) (fun e => hne e.symm) (.int .u64 (Go.bits .andNot .u64 m sm))
   have hx6 := blk_set hx5 (o + 2) (.int .u64 (Go.bits .andNot .u64 m sm))
   have f3 : (w5.setCell ⟨g, o + 2, none⟩ (.int .u64 (Go.bits .andNot .u64 m sm))).cell? ⟨g3, 3, none⟩ = some (.int .i64 sc) := (blk_cell hy6 3).trans rfl
   have k4 : (w5.setCell ⟨g, o + 2, none⟩ (.int .u64 (Go.bits .andNot .u64 m sm))).cell? ⟨g, o + 3, none⟩ = some (.int .i64 c) := (blk_cell hx6 (o + 3)).trans (by rw [Array.getElem?_setIfInBounds_ne (by omega)]; exact H3.out)
   have z4 := blk_frozen hx6 (o + 3)
   have HB5 := Aside0.mk hb5
   have HX6 := Aside0.mk hx6
   clear hb5 hx5 hy5 hy6 hx6
   go_region
   go_wp2
   go_ret
   exact ⟨rfl, grown_drew (grown_set (grown_set (grown_of_below HB5.out))), blk_set HX6.out (o + 3) _⟩
 ·have b1 : (Go.bits .andNot .u64 sm m != 0) = true := by simpa using q1
  have HE : lessE ⟨⟨n0, n1⟩, m, c⟩ ⟨⟨s0, s1⟩, sm, sc⟩ = 5 := by simp only [lessE]; rw [if_pos q1]
  rw [HE, if_neg (by decide)]
  go_enter Try.func91, Try.ntmps91
  go_wp2_with (first | ((with_reducible refine gate_dst (N := 3) rfl ?_); refine bx 3 #[.int .i64 s0, .int .i64 s1, .int .u64 sm, .int .i64 sc] 52 ?_; intro g3 hg3 w3 hx3 hb3; have hne : g ≠ g3 := (by omega); have HB3 := Aside0.mk hb3; have hbk := hb3.block g hlt; rw [HB.out] at hbk; have HX := Aside0.mk hbk; have f1 : w3.cell? ⟨g3, 2, none⟩ = some (.int .u64 sm) := (blk_cell hx3 2).trans rfl; have f2 : w3.cell? ⟨g3, 3, none⟩ = some (.int .i64 sc) := (blk_cell hx3 3).trans rfl; have k2 := (blk_cell hbk (o + 2)).trans H2.out; have k3 := (blk_cell hbk (o + 3)).trans H3.out; have z2 := blk_frozen hbk (o + 2); have z3 := blk_frozen hbk (o + 3); clear hg3 hb3 hbk))
  go_quiet (fail)
  go_wp2
  go_ret
  exact ⟨rfl, grown_of_below (by repeat (first | exact HB3.out | apply pw_below_drewN)), by simpa using HX.out⟩
end Go.Proofs.Ytckhjehibjdjdaa.P
namespace Go.Proofs.Ytckhjehibjdjdaa.P
open Go.RowKit Go.Shelf Go.Proofs.YtckhjehibjdjdaaW.PrintWords Go.Proofs.YtckhjehibjdjdaaW.PrintLast Go.Proofs.YtckhjehibjdjdaaW.PrintMore
open Go.Proofs.Ytckhjehibjdjdaa.Mp
attribute [local go_sem] Oper.semAt_some
set_option linter.unusedVariables false
set_option linter.unusedSimpArgs false
def ixS (l : List S51) : Nat → Int → Int → Option Int
 | 0 => fun _ _ => none
 | i + 1 => updS (ixS l i) (rd_T51 l i).f0.f0 (rd_T51 l i).f0.f1 i
def turnedL (E : S51 → S52 → Int) (F : S51 → S52 → S51) (ix : Int → Int → Option Int) : List S51 → List S52 → List S51 × Int
 | out, [] => (out, 0)
 | out, s :: ss => if s.f2 < 0 then ([], 1) else match ix s.f0.f0 s.f0.f1 with
  | none => ([], 3)
  | some k => if E (rd_T51 out k) s = 0 then turnedL E F ix (out.set k.toNat (F (rd_T51 out k) s)) ss else ([], E (rd_T51 out k) s)
theorem ixS_bd (l : List S51) : ∀ (i : Nat) (a b k : Int), ixS l i a b = some k → 0 ≤ k ∧ k < i
 | 0, _, _, _, h => by cases h
 | i + 1, a, b, k, h => by
  unfold ixS updS at h
  split at h
  ·cases h; omega
  ·have := ixS_bd l i a b k h; omega
def TurnC (fn : Nat) (E : S51 → S52 → Int) (F : S51 → S52 → S51) : Prop := ∀ (g o : Nat) (cur : Array Value) (f : S51) (s : S52) (w : World), w.heap[g]? = some (.cells cur 51 (0, 0)) → cur[o + 2]? = some (.int .u64 f.f1) → cur[o + 3]? = some (.int .i64 f.f2) →
  Calls Try.prog fn #[.pointer (some ⟨g, o, none⟩), .agg #[.int .i64 s.f0.f0, .int .i64 s.f0.f1, .int .u64 s.f1, .int .i64 s.f2]] w fun e w' => e = .returned (.int .i64 (E f s)) ∧ w.grownBy w' (some g) ∧ w'.heap[g]? = some (.cells (if E f s = 0 then putF cur o (F f s) else cur) 51 (0, 0))
theorem own51 {W : World} {base : Nat} {ok : Nat → Prop} {v : Value} {out : List S51} (h : Kd.R k51 51 W base ok v out) (hn : 0 < out.length) :
  ∃ g cap cur, v = .slice (some ⟨g, 0, none⟩) out.length cap ∧ ok g ∧ base ≤ g ∧ W.heap[g]? = some (.cells cur 51 (0, 0)) := by
 obtain ⟨hok, inner, ⟨_, hv⟩, _⟩ := h
 rcases hv with ⟨_, h0⟩ | ⟨g, cap, cur, rfl, hg, hh, _⟩
 ·omega
 ·exact ⟨g, cap, cur, rfl, hok g (by simp [Value.ownBlock]), hg, hh⟩
theorem R_turn {W W' : World} {base B0 g n cap : Nat} {cur : Array Value} {out : List S51} {k : Nat} {f' : S51} (HO : Kd.R k51 51 W base (fun k => k < B0) (.slice (some ⟨g, 0, none⟩) n cap) out) (hB0 : B0 ≤ W.heap.size) (hk : k < n)
  (hh : W.heap[g]? = some (.cells cur 51 (0, 0))) (hf0 : f'.f0 = (rd_T51 out (k : Int)).f0) (hg : W.grownBy W' (some g)) (hx : W'.heap[g]? = some (.cells (putF cur (k * 4) f') 51 (0, 0))) :
  Kd.R k51 51 W' base (fun k => k < B0) (.slice (some ⟨g, 0, none⟩) n cap) (out.set k f') := by
 obtain ⟨hn, _, hC⟩ := Kd.R_reads' HO
 obtain ⟨ad, e0, x0, x1, x2, x3⟩ := at_T51 hC (k : Int) (by omega) (by omega)
 cases e0
 have hsz : k51.sz = 4 := rfl
 simp only [Int.toNat_natCast, add_plain, Nat.zero_add] at x0 x1 x2 x3
 have hs := (Kd.R_seg HO (k : Int) (by omega) (by omega) (c := [.int .i64 (rd_T51 out (k : Int)).f0.f0, .int .i64 (rd_T51 out (k : Int)).f0.f1, .int .u64 (rd_T51 out (k : Int)).f1, .int .i64 (rd_T51 out (k : Int)).f2]) (seg := [.int .u64 f'.f1, .int .i64 f'.f2]) (j := 2) rfl (by
  intro j u hu
  rw [Int.toNat_natCast, hsz]
  match j, hu with
  | 0, hu => cases hu; exact x0
  | 1, hu => cases hu; exact x1
  | 2, hu => cases hu; exact x2
  | 3, hu => cases hu; exact x3
  | j + 4, hu => simp at hu) (by rw [hsz]; simp) (x' := f') (okp := fun _ => False) (by
   have := k51_mkM W base (fun _ => False) f'
   rw [hf0] at this
   exact this) (fun _ h => h.elim)).1
 rw [Int.toNat_natCast] at hs
 refine Kd.R_move hs (fun k' hk' => ?_)
 by_cases e : k' = g
 ·subst e
  rw [hx]
  have h1 := blk_set hh (k * 4 + 2) (.int .u64 f'.f1)
  have h2 := blk_set h1 (k * 4 + 3) (.int .i64 f'.f2)
  simp only [World.setCells, hsz]
  rw [h2]; rfl
 ·rw [hg.block k' (by omega) (by simpa using e)]
  simp only [World.setCells]
  rw [Below.heap_setCell _ _ _ _ (by simpa using e), Below.heap_setCell _ _ _ _ (by simpa using e)]
theorem turned_cons (E : S51 → S52 → Int) (F : S51 → S52 → S51) (ix : Int → Int → Option Int) (out : List S51) (l1 : List S52) (j : Nat) (h : j < l1.length) :
  turnedL E F ix out (l1.drop j) = if (rd_T52 l1 (j : Int)).f2 < 0 then ([], 1) else match ix (rd_T52 l1 (j : Int)).f0.f0 (rd_T52 l1 (j : Int)).f0.f1 with
   | none => ([], 3)
   | some k => if E (rd_T51 out k) (rd_T52 l1 (j : Int)) = 0 then turnedL E F ix (out.set k.toNat (F (rd_T51 out k) (rd_T52 l1 (j : Int)))) (l1.drop (j + 1)) else ([], E (rd_T51 out k) (rd_T52 l1 (j : Int))) := by
 have e : rd_T52 l1 (j : Int) = l1[j] := by simp [rd_T52, List.getD_eq_getElem?_getD, List.getElem?_eq_getElem h]
 rw [e, List.drop_eq_getElem_cons h, turnedL]
theorem zero3 (w : World) : (zeroValue 3).run Try.prog w = .ok (.int .i64 0) w := by kernel_rfl
set_option maxHeartbeats 8000000 in
set_option maxRecDepth 100000 in
theorem turned_any (fn : Nat) (E : S51 → S52 → Int) (F : S51 → S52 → S51) (HT : TurnC fn E F) (hent : ∀ args W, (callFunc fn args).run Try.prog W = .ok (.enter fn args) W) (hF : ∀ f s, (F f s).f0 = f.f0)
  (A0 : Option Addr) (c0 : Nat) (l0 : List S51) (A1 : Option Addr) (c1 : Nat) (l1 : List S52) (w : World) (hr0 : Kd.C k51 w A0 l0.length l0) (hc0 : l0.length ≤ c0) (hr1 : Kd.C k52 w A1 l1.length l1) (hc1 : l1.length ≤ c1)
  (hl : l0.length < 4398046511104) (hw0 : ∀ i, i < l0.length → W64 (rd_T51 l0 i).f0.f0 ∧ W64 (rd_T51 l0 i).f0.f1) (hw1 : ∀ i, i < l1.length → W64 (rd_T52 l1 i).f0.f0 ∧ W64 (rd_T52 l1 i).f0.f1) :
  Calls Try.prog 90 #[.slice A0 l0.length c0, .slice A1 l1.length c1, .func (.func fn) #[] #[]] w fun e w' => ∃ v0_ : Value, e = .returned (.tuple #[v0_, .int .i64 (turnedL E F (ixS l0 l0.length) l0 l1).2]) ∧ Kd.R k51 51 w' w.heap.size (fun _ => True) v0_ (turnedL E F (ixS l0 l0.length) l0 l1).1 ∧ Below w.heap.size w w' := by
 have hu51 := Try.underlying51
 have hu52 := Try.underlying52
 have hu48 := Try.underlying48
 have hu70 := Try.underlying70
 have hmm := @run_makeMap Try.prog
 have HR0 := Aside0.mk hr0
 have HR1 := Aside0.mk hr1
 have HW0 := Aside0.mk hw0
 have HW1 := Aside0.mk hw1
 have HTT := Aside0.mk HT
 have HL := Aside0.mk hl
 have HC0 := Aside0.mk hc0
 clear hr0 hr1 hw0 hw1 HT hl hc0
 have hlen1 : l1.length ≤ 9223372036854775807 := HR1.out.2.1
 obtain ⟨ix, hN⟩ : ∃ ix, ixS l0 l0.length = ix := ⟨_, rfl⟩
 rw [hN]
 have HN := Aside0.mk hN
 clear hN
 go_enter Try.func90, Try.ntmps90
 go_wp2_with (go_at_call 84; refine (clone84_any A0 c0 l0 _ HR0.out HC0.out HL.out).mono ?_; rintro e w8 ⟨v8, rfl, ho8, hb8⟩; obtain ⟨A8, c8, rfl, hc8, _⟩ := Kd.R_reads ho8; have HC8 := Aside0.mk hc8; clear hc8; have HB8 := Aside0.mk hb8; clear hb8; have HO8 := Aside0.mk (Kd.R_mono (Kd.R_bound ho8) (fun k hk => (hk.2.2.1 : k < w8.heap.size))); clear ho8)
 go_loopw [22] (fun v22 wr => ∃ i : Nat, i ≤ l0.length ∧ v22 = .int .i64 (i : Int) ∧ Aside0 (Kd.R k51 51 wr w.heap.size (fun k => k < w8.heap.size) (.slice A8 l0.length c8) l0) ∧ Aside0 (MapS Try.prog 48 3 wr w8.heap.size i (ixS l0 i)) ∧ Aside0 (Below w.heap.size w wr)) (fun v22 _ => l0.length - (intOf v22).toNat)
 case atStart => exact ⟨0, Nat.zero_le _, rfl, ⟨Kd.R_alloc HO8.out _⟩, ⟨MapS.made _ _ _ _⟩, ⟨below_alloc HB8.out _⟩⟩
 case round =>
  obtain ⟨i, hi, rfl, HO, HM, HB⟩ := hrel
  by_cases hlt : i < l0.length
  ·have h0 : 0 ≤ (i : Int) := by omega
   have h1' : (i : Int) < l0.length := by omega
   obtain ⟨ad, e0, x0, x1, x2, x3⟩ := at_T51 (Kd.R_reads' HO.out).2.2 (i : Int) h0 h1'
   cases e0
   simp only [Int.toNat_natCast] at x0 x1 x2 x3
   have hw := HW0.out i hlt
   have hl' := HL.out
   go_wp2_with (at_mapUpdate; refine wp_update_S rfl key48 _ _ _ 70 rfl Try.underlying70 Try.underlying3 rfl (HM.out.alloc _) (by unfold maxLen; omega) _ _ _ rfl rfl hw.1 hw.2 (W64.mk (by omega)) ?_; intro w1 hm1 hg1)
   have hsz := (below_alloc HB.out (.cells #[.int .i64 (rd_T51 l0 i).f0.f0, .int .i64 (rd_T51 l0 i).f0.f1, .int .u64 (rd_T51 l0 i).f1, .int .i64 (rd_T51 l0 i).f2] 51)).size
   have hs8 := HB8.out.size
   go_roundw
   case rel => exact ⟨i + 1, by omega, by go_num, ⟨Kd.R_grown (Kd.R_alloc HO.out _) hg1 (fun k hk e => by cases e; omega)⟩, ⟨hm1⟩, ⟨(below_alloc HB.out _).grown hg1 hsz (fun k e => by cases e; omega)⟩⟩
   case measure => simp [intOf]; omega
  ·obtain rfl : i = l0.length := by omega
   go_wp2
   clear hmm
   rw [HN.out] at HM
   have hixb := Aside0.mk (fun a b k (h : ix a b = some k) => ixS_bd l0 l0.length a b k (by rw [HN.out]; exact h))
   clear HN
   obtain ⟨wo, hwo⟩ : ∃ wo : World, wo = wr := ⟨_, rfl⟩
   subst hwo
   go_loopw [34] (fun v34 w2 => ∃ (j : Nat) (out : List S51), j ≤ l1.length ∧ v34 = .int .i64 (j : Int) ∧ Aside0 (out.length = l0.length ∧ turnedL E F ix l0 l1 = turnedL E F ix out (l1.drop j)) ∧ Aside0 (Kd.R k51 51 w2 w.heap.size (fun k => k < w8.heap.size) (.slice A8 l0.length c8) out) ∧ Aside0 (MapS Try.prog 48 3 w2 w8.heap.size l0.length ix) ∧ Aside0 (Below w.heap.size w w2) ∧ Aside0 (w8.heap.size < w2.heap.size)) (fun v34 _ => l1.length - (intOf v34).toNat)
   case atStart => exact ⟨0, l0, Nat.zero_le _, rfl, ⟨rfl, rfl⟩, HO, HM, HB, ⟨HM.out.lt⟩⟩
   case round =>
    clear HO HM HB
    obtain ⟨j, out, hj, rfl, HE, HO, HM, HB, HS⟩ := hrel
    by_cases hlt : j < l1.length
    ·have h0 : 0 ≤ (j : Int) := by omega
     have h1' : (j : Int) < l1.length := by omega
     obtain ⟨ad1, e1, y0, y1, y2, y3⟩ := at_T52 HR1.out (j : Int) h0 h1'
     cases e1
     simp only [Int.toNat_natCast] at y0 y1 y2 y3
     replace y0 := pw_cell_below HB.out y0
     replace y1 := pw_cell_below HB.out y1
     replace y2 := pw_cell_below HB.out y2
     replace y3 := pw_cell_below HB.out y3
     have HEE := Aside0.mk (HE.out.2.trans (turned_cons E F ix out l1 j hlt))
     have hlo := HE.out.1
     clear HE
     have hw := HW1.out j hlt
     generalize hs : rd_T52 l1 (j : Int) = s at *
     clear hs
     obtain ⟨⟨s0, s1⟩, sm, sc⟩ := s
     simp only at y0 y1 y2 y3 hw
     by_cases hneg : sc < 0
     ·have bn : decide (sc < 0) = true := by simpa using hneg
      rw [if_pos hneg] at HEE
      clear hneg
      go_wp2_with (at_lookup; refine wp_lookup_S rfl key48 _ _ 70 rfl Try.underlying70 Try.underlying3 (zero3 _) rfl (HM.out.alloc _) _ _ rfl hw.1 hw.2 ?_)
      go_ret2
      exact ⟨.slice none 0 0, (by rw [HEE.out]; first | done | rfl), (by rw [HEE.out]; exact Kd.R_nil _ _ _ _ _), below_alloc HB.out _⟩
     ·have bn : decide (sc < 0) = false := by simpa using hneg
      rw [if_neg hneg] at HEE
      clear hneg
      cases hix : ix s0 s1 with
      | none =>
       rw [hix] at HEE
       go_wp2_with (at_lookup; refine wp_lookup_S rfl key48 _ _ 70 rfl Try.underlying70 Try.underlying3 (zero3 _) rfl (HM.out.alloc _) _ _ rfl hw.1 hw.2 ?_; rw [hix]; simp only [Option.getD_none, Option.isSome_none])
       go_ret2
       exact ⟨.slice none 0 0, (by rw [HEE.out]; first | done | rfl), (by rw [HEE.out]; exact Kd.R_nil _ _ _ _ _), below_alloc HB.out _⟩
      | some k =>
       rw [hix] at HEE
       have hkb := hixb.out _ _ _ hix
       go_wp2_with (at_lookup; refine wp_lookup_S rfl key48 _ _ 70 rfl Try.underlying70 Try.underlying3 (zero3 _) rfl (HM.out.alloc _) _ _ rfl hw.1 hw.2 ?_; rw [hix]; simp only [Option.getD_some, Option.isSome_some])
       obtain ⟨kn, rfl⟩ := Int.eq_ofNat_of_zero_le hkb.1
       have hk1 : kn < l0.length := by omega
       obtain ⟨g, cap, cur, hv, hgk, hgb, hh⟩ := own51 HO.out (by omega)
       injection hv with ha hn hc
       subst ha
       have hC := (Kd.R_reads' HO.out).2.2
       obtain ⟨ad2, e2, _, _, z2, z3⟩ := at_T51 hC (kn : Int) (by omega) (by omega)
       cases e2
       simp only [Int.toNat_natCast, add_plain, Nat.zero_add] at z2 z3
       rw [blk_cell hh] at z2 z3
       obtain ⟨wa, hwa⟩ : ∃ wa, wr.alloc (.cells #[.int .i64 s0, .int .i64 s1, .int .u64 sm, .int .i64 sc] 52) = wa := ⟨_, rfl⟩
       have hha : wa.heap[g]? = some (.cells cur 51 (0, 0)) := by rw [← hwa]; exact blk_alloc hh _
       have hya : wa.heap[wr.heap.size]? = some (.cells #[.int .i64 s0, .int .i64 s1, .int .u64 sm, .int .i64 sc] 52 (0, 0)) := by rw [← hwa]; exact heap_alloc_new _ _
       have hOa : Kd.R k51 51 wa w.heap.size (fun k => k < w8.heap.size) (.slice (some ⟨g, 0, none⟩) l0.length c8) out := by rw [← hwa]; exact Kd.R_alloc HO.out _
       have hMa : MapS Try.prog 48 3 wa w8.heap.size l0.length ix := by rw [← hwa]; exact HM.out.alloc _
       have hBa : Below w.heap.size w wa := by rw [← hwa]; exact below_alloc HB.out _
       have hSa : w8.heap.size < wa.heap.size := by rw [← hwa]; have := HS.out; simp; omega
       rw [hwa]
       have hcall := HTT.out g (kn * 4) cur (rd_T51 out (kn : Int)) ⟨⟨s0, s1⟩, sm, sc⟩ wa.drew (blk_drew hha) z2 z3
       have hRT := fun W' (hg : wa.drew.grownBy W' (some g)) (hx : W'.heap[g]? = some (.cells (putF cur (kn * 4) (F (rd_T51 out (kn : Int)) ⟨⟨s0, s1⟩, sm, sc⟩)) 51 (0, 0))) => R_turn (Kd.R_drew hOa) (B0 := w8.heap.size) (Nat.le_of_lt hSa) hk1 (blk_drew hha) (hF _ _) hg hx
       have HRT := Aside0.mk hRT
       have HCALL := Aside0.mk hcall
       have HGB := Aside0.mk (And.intro hgk hgb)
       have HOA := Aside0.mk hOa
       have HMA := Aside0.mk hMa
       have HBA := Aside0.mk hBa
       have HSA := Aside0.mk hSa
       have q0 : wa.cell? ⟨wr.heap.size, 0, none⟩ = some (.int .i64 s0) := (blk_cell hya 0).trans rfl
       have q1 : wa.cell? ⟨wr.heap.size, 1, none⟩ = some (.int .i64 s1) := (blk_cell hya 1).trans rfl
       have q2 : wa.cell? ⟨wr.heap.size, 2, none⟩ = some (.int .u64 sm) := (blk_cell hya 2).trans rfl
       have q3 : wa.cell? ⟨wr.heap.size, 3, none⟩ = some (.int .i64 sc) := (blk_cell hya 3).trans rfl
       clear hwa hha hya hOa hMa hBa hSa hRT hcall hgk hgb hh z2 z3 hC hn hc HO HM HB HS
       go_still_tail 5, (by kernel_rfl)
       change wpList _ _ _ _ _ wa.drew
       clear q0 q1 q2 q3
       go_wp2_with (fail)
       refine HCALL.out.mono ?_
       rintro e W4 ⟨rfl, hg4, hx4⟩
       by_cases hE : E (rd_T51 out (kn : Int)) ⟨⟨s0, s1⟩, sm, sc⟩ = 0
       ·rw [if_pos hE] at hx4
        have HO4 := Aside0.mk (HRT.out W4 hg4 hx4)
        simp only [hE, if_true] at HEE
        rw [hE]
        have HM4 := Aside0.mk (HMA.out.move (hg4.block _ HMA.out.lt (by simp; have := HGB.out.1; omega)))
        have HB4 := Aside0.mk ((below_drew1 HBA.out).grown hg4 (below_drew1 HBA.out).size (fun k e => by cases e; exact HGB.out.2))
        have HS4 := Aside0.mk (Nat.lt_of_lt_of_le HSA.out hg4.size)
        clear hx4 hg4 HCALL HRT HOA HMA HBA HSA
        go_wp2
        go_roundw
        case rel => exact ⟨j + 1, _, by omega, by go_num, ⟨by rw [List.length_set]; exact hlo, HEE.out⟩, HO4, HM4, HB4, HS4⟩
        case measure => simp [intOf]; omega
       ·have bE : (E (rd_T51 out (kn : Int)) ⟨⟨s0, s1⟩, sm, sc⟩ == 0) = false := by simpa using hE
        simp only [hE, if_false] at HEE
        have HB4 := Aside0.mk ((below_drew1 HBA.out).grown hg4 (below_drew1 HBA.out).size (fun k e => by cases e; exact HGB.out.2))
        clear hx4 hg4 HCALL HRT HOA HMA HBA HSA hE
        go_wp2
        go_ret2
        exact ⟨.slice none 0 0, (by rw [HEE.out]; first | done | rfl), (by rw [HEE.out]; exact Kd.R_nil _ _ _ _ _), HB4.out⟩
    ·obtain rfl : j = l1.length := by omega
     have HEE := HE.out.2
     rw [List.drop_eq_nil_of_le (Nat.le_refl _)] at HEE
     have HE2 := Aside0.mk HEE
     have hlo := HE.out.1
     clear HEE HE
     go_wp2
     go_ret2
     exact ⟨.slice A8 l0.length c8, (by rw [HE2.out, turnedL]; first | done | rfl), (by rw [HE2.out, turnedL]; exact Kd.R_mono HO.out (fun _ _ => trivial)), HB.out⟩
def turned51 (E : S51 → S52 → Int) (F : S51 → S52 → S51) (l0 : List S51) (l1 : List S52) : List S51 × Int := turnedL E F (ixS l0 l0.length) l0 l1
def w64B (x : Int) : Bool := decide (-9223372036854775808 ≤ x) && decide (x ≤ 9223372036854775807)
def spotsOk (l0 : List S51) (l1 : List S52) : Bool := decide (l0.length < 4398046511104) && l0.all (fun f => w64B f.f0.f0 && w64B f.f0.f1) && l1.all (fun f => w64B f.f0.f0 && w64B f.f0.f1)
def pack_More.f (l0 : List S51) (l1 : List S52) : Option (List S51 × Int) := if spotsOk l0 l1 = true then some (turned51 moreE moreF l0 l1) else none
def pack_Less.f (l0 : List S51) (l1 : List S52) : Option (List S51 × Int) := if spotsOk l0 l1 = true then some (turned51 lessE lessF l0 l1) else none
theorem spotsOk_out {l0 : List S51} {l1 : List S52} (h : spotsOk l0 l1 = true) : l0.length < 4398046511104 ∧ (∀ i, i < l0.length → W64 (rd_T51 l0 i).f0.f0 ∧ W64 (rd_T51 l0 i).f0.f1) ∧ (∀ i, i < l1.length → W64 (rd_T52 l1 i).f0.f0 ∧ W64 (rd_T52 l1 i).f0.f1) := by
 unfold spotsOk at h
 simp only [Bool.and_eq_true, decide_eq_true_eq, List.all_eq_true, w64B] at h
 refine ⟨h.1.1, fun i hi => ?_, fun i hi => ?_⟩
 ·have e : rd_T51 l0 (i : Int) = l0[i] := by simp [rd_T51, List.getD_eq_getElem?_getD, List.getElem?_eq_getElem hi]
  have := h.1.2 _ (List.getElem_mem hi)
  rw [e]
  exact ⟨W64.mk this.1, W64.mk this.2⟩
 ·have e : rd_T52 l1 (i : Int) = l1[i] := by simp [rd_T52, List.getD_eq_getElem?_getD, List.getElem?_eq_getElem hi]
  have := h.2 _ (List.getElem_mem hi)
  rw [e]
  exact ⟨W64.mk this.1, W64.mk this.2⟩
set_option maxHeartbeats 4000000 in
set_option maxRecDepth 100000 in
theorem pack_More.calls (A0 : Option Addr) (c0 : Nat) (l0 : List (S51)) (A1 : Option Addr) (c1 : Nat) (l1 : List (S52)) (r1 : List (S51)) (r2 : Int) (w : World) (hr0 : Kd.C k51 w A0 l0.length l0) (hc0 : l0.length ≤ c0) (hr1 : Kd.C k52 w A1 l1.length l1) (hc1 : l1.length ≤ c1) (h : pack_More.f l0 l1 = some (r1, r2)) :
  Calls Try.prog 52 #[.slice A0 l0.length c0, .slice A1 l1.length c1] w fun e w' => ∃ v0_ : Value, e = .returned (.tuple #[v0_, .int .i64 r2]) ∧ Kd.R k51 51 w' w.heap.size (fun _ => True) v0_ r1 ∧ Below w.heap.size w w' := by
 unfold pack_More.f at h
 split at h
 case isFalse => cases h
 rename_i hok
 obtain ⟨h1, h2, h3⟩ := spotsOk_out hok
 have hr := Option.some.inj h
 unfold turned51 at hr
 have HC := turned_any 92 moreE moreF (fun g o cur f s w a b c => more1_any g o cur f s w a b c) (fun args W => by kernel_rfl) (fun _ _ => rfl) A0 c0 l0 A1 c1 l1 w hr0 hc0 hr1 hc1 h1 h2 h3
 rw [hr] at HC
 have H := Aside0.mk HC
 clear HC hr h h1 h2 h3 hok hr0 hr1
 go_enter Try.func52, Try.ntmps52
 go_wp2_with (go_at_call 90; refine H.out.mono ?_; rintro e w1 ⟨v, rfl, ho, hb⟩; have HO := Aside0.mk ho; have HB := Aside0.mk hb; clear ho hb)
 go_ret2
 exact ⟨_, rfl, HO.out, HB.out⟩
set_option maxHeartbeats 4000000 in
set_option maxRecDepth 100000 in
theorem pack_Less.calls (A0 : Option Addr) (c0 : Nat) (l0 : List (S51)) (A1 : Option Addr) (c1 : Nat) (l1 : List (S52)) (r1 : List (S51)) (r2 : Int) (w : World) (hr0 : Kd.C k51 w A0 l0.length l0) (hc0 : l0.length ≤ c0) (hr1 : Kd.C k52 w A1 l1.length l1) (hc1 : l1.length ≤ c1) (h : pack_Less.f l0 l1 = some (r1, r2)) :
  Calls Try.prog 51 #[.slice A0 l0.length c0, .slice A1 l1.length c1] w fun e w' => ∃ v0_ : Value, e = .returned (.tuple #[v0_, .int .i64 r2]) ∧ Kd.R k51 51 w' w.heap.size (fun _ => True) v0_ r1 ∧ Below w.heap.size w w' := by
 unfold pack_Less.f at h
 split at h
 case isFalse => cases h
 rename_i hok
 obtain ⟨h1, h2, h3⟩ := spotsOk_out hok
 have hr := Option.some.inj h
 unfold turned51 at hr
 have HC := turned_any 91 lessE lessF (fun g o cur f s w a b c => less1_any g o cur f s w a b c) (fun args W => by kernel_rfl) (fun _ _ => rfl) A0 c0 l0 A1 c1 l1 w hr0 hc0 hr1 hc1 h1 h2 h3
 rw [hr] at HC
 have H := Aside0.mk HC
 clear HC hr h h1 h2 h3 hok hr0 hr1
 go_enter Try.func51, Try.ntmps51
 go_wp2_with (go_at_call 90; refine H.out.mono ?_; rintro e w1 ⟨v, rfl, ho, hb⟩; have HO := Aside0.mk ho; have HB := Aside0.mk hb; clear ho hb)
 go_ret2
 exact ⟨_, rfl, HO.out, HB.out⟩
end Go.Proofs.Ytckhjehibjdjdaa.P
namespace Go.Proofs.Ytckhjehibjdjdaa.P
open Go.RowKit Go.Shelf Go.Proofs.YtckhjehibjdjdaaW.PrintWords Go.Proofs.YtckhjehibjdjdaaW.PrintLast Go.Proofs.YtckhjehibjdjdaaW.PrintMore
attribute [local go_sem] Oper.semAt_some
set_option linter.unusedVariables false
set_option linter.unusedSimpArgs false
abbrev HV := S41 × Option Addr × Nat × Nat
def hc (x : HV) : List Value := [.int .i64 x.1.f0, .int .i64 x.1.f1, .int .i64 x.1.f2, .bool x.1.f3, .slice x.2.1 x.2.2.1 x.2.2.2]
def kh : Kd (HV) where
 sz := 5
 E := []
 K := fun _ x cs => cs = hc x
 M := fun _ _ _ x cs => cs = hc x
 K_len := fun h => by rw [h]; rfl
 K_one := fun h u hu => by
  rw [h] at hu
  simp only [hc, List.mem_cons, List.not_mem_nil, or_false] at hu
  rcases hu with rfl | rfl | rfl | rfl | rfl
  ·rfl
  ·rfl
  ·rfl
  ·rfl
  ·rfl
 K_below := fun _ h => h
 K_of_M := fun h => h
 M_mono := fun _ h => h
 M_bound := fun h => h
 M_move := fun _ h => h
 M_lower := fun _ h => h
def cmpI (x y : Int) : Int := if x < y then -1 else if x > y then 1 else 0
set_option maxHeartbeats 4000000 in
set_option maxRecDepth 100000 in
theorem nan_any (x : Int) (w : World) : Calls Try.prog 104 #[.int .i64 x] w fun e w' => e = .returned (.bool false) ∧ w' = w := by
 have hu3 := Try.underlying3
 go_enter Try.func104, Try.ntmps104
 go_wp2
 all_goals go_ret
 all_goals exact ⟨by simp, rfl⟩
set_option maxHeartbeats 4000000 in
set_option maxRecDepth 100000 in
theorem cmp_any (x y : Int) (w : World) : Calls Try.prog 73 #[.int .i64 x, .int .i64 y] w fun e w' => e = .returned (.int .i64 (cmpI x y)) ∧ w' = w := by
 have hu3 := Try.underlying3
 unfold cmpI
 by_cases h1 : x < y
 ·rw [if_pos h1]
  have b1 : decide (x < y) = true := by simpa using h1
  go_enter Try.func73, Try.ntmps73
  go_wp2_with (go_at_call 104; refine (nan_any _ _).mono ?_; rintro e w' ⟨rfl, rfl⟩)
  all_goals go_ret
  all_goals exact ⟨rfl, rfl⟩
 ·rw [if_neg h1]
  have b1 : decide (x < y) = false := by simpa using h1
  by_cases h2 : x > y
  ·rw [if_pos h2]
   have b2 : decide (y < x) = true := by simpa using h2
   go_enter Try.func73, Try.ntmps73
   go_wp2_with (go_at_call 104; refine (nan_any _ _).mono ?_; rintro e w' ⟨rfl, rfl⟩)
   all_goals go_ret
   all_goals exact ⟨rfl, rfl⟩
  ·rw [if_neg h2]
   have b2 : decide (y < x) = false := by simpa using h2
   go_enter Try.func73, Try.ntmps73
   go_wp2_with (go_at_call 104; refine (nan_any _ _).mono ?_; rintro e w' ⟨rfl, rfl⟩)
   all_goals go_ret
   all_goals exact ⟨rfl, rfl⟩
end Go.Proofs.Ytckhjehibjdjdaa.P
namespace Go.Proofs.Ytckhjehibjdjdaa.P
open Go.RowKit Go.Shelf Go.Proofs.YtckhjehibjdjdaaW.PrintWords Go.Proofs.YtckhjehibjdjdaaW.PrintLast Go.Proofs.YtckhjehibjdjdaaW.PrintMore
attribute [local go_sem] Oper.semAt_some
set_option linter.unusedVariables false
set_option linter.unusedSimpArgs false
section
variable {α : Type} (key : α → Int)
def insK (x : α) : List α → List α
 | [] => [x]
 | y :: l => if key x < key y then x :: y :: l else y :: insK x l
def isort (l : List α) : List α := l.foldl (fun acc x => insK key x acc) []
theorem insK_at (x : α) : ∀ (L : List α) (j : Nat), (∀ y ∈ L.take j, ¬ key x < key y) → (∀ y ∈ L.drop j, key x < key y) → insK key x L = L.take j ++ x :: L.drop j
 | [], j, _, _ => by simp [insK]
 | y :: L, 0, _, h2 => by
  have := h2 y (by simp)
  simp [insK, this]
 | y :: L, j + 1, h1, h2 => by
  have := h1 y (by simp)
  rw [insK, if_neg this, insK_at x L j (fun z hz => h1 z (by simp [hz])) (fun z hz => h2 z (by simpa using hz))]
  simp
theorem insK_perm (x : α) : ∀ L : List α, (insK key x L).Perm (x :: L)
 | [] => List.Perm.refl _
 | y :: L => by
  rw [insK]
  split
  ·exact List.Perm.refl _
  ·exact ((insK_perm x L).cons y).trans (List.Perm.swap x y L)
theorem insK_sorted (x : α) : ∀ L : List α, L.Pairwise (fun a b => key a ≤ key b) → (insK key x L).Pairwise (fun a b => key a ≤ key b)
 | [], _ => by simp [insK]
 | y :: L, h => by
  rw [insK]
  rw [List.pairwise_cons] at h
  split
  ·rename_i hlt
   rw [List.pairwise_cons, List.pairwise_cons]
   refine ⟨fun z hz => ?_, h⟩
   rcases List.mem_cons.1 hz with rfl | hz
   ·omega
   ·have := h.1 z hz; omega
  ·rename_i hlt
   rw [List.pairwise_cons]
   refine ⟨fun z hz => ?_, insK_sorted x L h.2⟩
   rcases List.mem_cons.1 ((insK_perm key x L).mem_iff.1 hz) with rfl | hz
   ·omega
   ·exact h.1 z hz
theorem isort_snoc (l : List α) (x : α) : isort key (l ++ [x]) = insK key x (isort key l) := by simp [isort, List.foldl_append]
theorem isort_take (l : List α) (i : Nat) (h : i < l.length) : isort key (l.take (i + 1)) = insK key l[i] (isort key (l.take i)) := by
 rw [List.take_succ_eq_append_getElem h, isort_snoc]
theorem isort_fold_perm : ∀ (l acc : List α), (l.foldl (fun acc x => insK key x acc) acc).Perm (acc ++ l)
 | [], acc => by simp
 | x :: l, acc => by
  refine (isort_fold_perm l _).trans ?_
  refine ((insK_perm key x acc).append_right l).trans ?_
  exact (List.perm_middle).symm
theorem isort_perm (l : List α) : (isort key l).Perm l := by have h := isort_fold_perm key l []; rw [List.nil_append] at h; exact h
theorem isort_fold_sorted : ∀ (l acc : List α), acc.Pairwise (fun a b => key a ≤ key b) → (l.foldl (fun acc x => insK key x acc) acc).Pairwise (fun a b => key a ≤ key b)
 | [], acc, h => h
 | x :: l, acc, h => isort_fold_sorted l _ (insK_sorted key x acc h)
theorem isort_sorted (l : List α) : (isort key l).Pairwise (fun a b => key a ≤ key b) := isort_fold_sorted key l [] List.Pairwise.nil
end
def zAt {α : Type} (L : List α) (x : α) (rest : List α) (j : Nat) : List α := L.take j ++ x :: (L.drop j ++ rest)
theorem zAt_step {α : Type} (L : List α) (x : α) (rest : List α) (m : Nat) (h : m < L.length) : ((zAt L x rest (m + 1)).set (m + 1) L[m]).set m x = zAt L x rest m := by
 unfold zAt
 rw [List.take_succ_eq_append_getElem h, List.drop_eq_getElem_cons h]
 have hl : (L.take m).length = m := by rw [List.length_take]; omega
 rw [List.append_assoc, List.set_append_right _ _ (by omega), hl, show m + 1 - m = 1 by omega]
 simp only [List.cons_append, List.nil_append, List.set_cons_succ, List.set_cons_zero]
 rw [List.set_append_right _ _ (by omega), hl, Nat.sub_self]
 rfl
theorem zAt_get {α : Type} (L : List α) (x : α) (rest : List α) (j : Nat) (h : j ≤ L.length) : (zAt L x rest j)[j]? = some x := by
 unfold zAt
 have hl : (L.take j).length = j := by rw [List.length_take]; omega
 rw [List.getElem?_append_right (by omega), hl]; simp
theorem zAt_get1 {α : Type} (L : List α) (x : α) (rest : List α) (m : Nat) (h : m < L.length) : (zAt L x rest (m + 1))[m]? = some L[m] := by
 unfold zAt
 rw [List.getElem?_append_left (by rw [List.length_take]; omega), List.getElem?_take, if_pos (by omega), List.getElem?_eq_getElem h]
end Go.Proofs.Ytckhjehibjdjdaa.P
namespace Go.Proofs.Ytckhjehibjdjdaa.P
open Go.RowKit Go.Shelf Go.Proofs.YtckhjehibjdjdaaW.PrintWords Go.Proofs.YtckhjehibjdjdaaW.PrintLast Go.Proofs.YtckhjehibjdjdaaW.PrintMore
attribute [local go_sem] Oper.semAt_some
set_option linter.unusedVariables false
set_option linter.unusedSimpArgs false
theorem grown_refl (w : World) (r : Option Nat) : w.grownBy w r := ⟨rfl, rfl, rfl, Nat.le_refl _, fun _ _ _ => rfl⟩
theorem grown_below {w W W' : World} {g : Nat} (h : w.grownBy W (some g)) (hb : Below W.heap.size W W') : w.grownBy W' (some g) :=
 ⟨hb.os.trans h.os, hb.tape.trans h.tape, hb.output.trans h.output, Nat.le_trans h.size hb.size, fun k hk hne => (hb.block k (Nat.lt_of_lt_of_le hk h.size)).trans (h.block k hk hne)⟩
theorem grown_grown {w W W' : World} {g : Nat} (h : w.grownBy W (some g)) (hb : W.grownBy W' (some g)) : w.grownBy W' (some g) :=
 ⟨hb.os.trans h.os, hb.tape.trans h.tape, hb.output.trans h.output, Nat.le_trans h.size hb.size, fun k hk hne => (hb.block k (Nat.lt_of_lt_of_le hk h.size) hne).trans (h.block k hk hne)⟩
end Go.Proofs.Ytckhjehibjdjdaa.P
namespace Go.Proofs.Ytckhjehibjdjdaa.P
open Go.RowKit Go.Shelf Go.Proofs.YtckhjehibjdjdaaW.PrintWords Go.Proofs.YtckhjehibjdjdaaW.PrintLast Go.Proofs.YtckhjehibjdjdaaW.PrintMore
attribute [local go_sem] Oper.semAt_some
set_option linter.unusedVariables false
set_option linter.unusedSimpArgs false
theorem isort_one {α : Type} (key : α → Int) (xs : List α) (h : xs.length ≤ 1) : isort key xs = xs := by
 match xs, h with
 | [], _ => rfl
 | [x], _ => rfl
 | _ :: _ :: _, h => simp at h
end Go.Proofs.Ytckhjehibjdjdaa.P
namespace Go.Proofs.Ytckhjehibjdjdaa.P
set_option linter.unusedVariables false
set_option linter.unusedSimpArgs false
section
variable {α : Type} (key : α → Int)
def mrg : List α → List α → List α
 | [], V => V
 | u :: U, [] => u :: U
 | u :: U, v :: V => if key v < key u then v :: mrg (u :: U) V else u :: mrg U (v :: V)
termination_by U V => U.length + V.length
def Srt (l : List α) : Prop := l.Pairwise (fun a b => key a ≤ key b)
theorem mrg_nil_left (V : List α) : mrg key [] V = V := by rw [mrg]
theorem mrg_nil_right (U : List α) : mrg key U [] = U := by cases U <;> rw [mrg]
theorem mrg_perm (U V : List α) : (mrg key U V).Perm (U ++ V) := by
 fun_induction mrg key U V with
 | case1 V => simp
 | case2 u U => simp
 | case3 u U v V h ih => exact (ih.cons v).trans (by simpa using (List.perm_middle (a := v) (l₁ := u :: U) (l₂ := V)).symm)
 | case4 u U v V h ih => exact ih.cons u
theorem mrg_length (U V : List α) : (mrg key U V).length = U.length + V.length := by rw [(mrg_perm key U V).length_eq, List.length_append]
theorem mrg_sorted (U V : List α) (hU : Srt key U) (hV : Srt key V) : Srt key (mrg key U V) := by
 fun_induction mrg key U V with
 | case1 V => exact hV
 | case2 u U => exact hU
 | case3 u U v V h ih =>
  refine List.pairwise_cons.2 ⟨fun x hx => ?_, ih hU (List.pairwise_cons.1 hV).2⟩
  rcases List.mem_append.1 ((mrg_perm key _ _).mem_iff.1 hx) with hx | hx
  ·rcases List.mem_cons.1 hx with rfl | hx
   ·omega
   ·have := (List.pairwise_cons.1 hU).1 x hx; omega
  ·exact (List.pairwise_cons.1 hV).1 x hx
 | case4 u U v V h ih =>
  refine List.pairwise_cons.2 ⟨fun x hx => ?_, ih (List.pairwise_cons.1 hU).2 hV⟩
  rcases List.mem_append.1 ((mrg_perm key _ _).mem_iff.1 hx) with hx | hx
  ·exact (List.pairwise_cons.1 hU).1 x hx
  ·rcases List.mem_cons.1 hx with rfl | hx
   ·omega
   ·have := (List.pairwise_cons.1 hV).1 x hx; omega
theorem mrg_right_first (U V1 V2 : List α) (h : ∀ x ∈ U, ∀ y ∈ V1, key y < key x) : mrg key U (V1 ++ V2) = V1 ++ mrg key U V2 := by
 induction V1 with
 | nil => rfl
 | cons v V ih =>
  cases U with
  | nil => rw [mrg_nil_left, mrg_nil_left]
  | cons u U =>
   rw [List.cons_append, mrg, if_pos (h u (by simp) v (by simp)), ih (fun x hx y hy => h x hx y (by simp [hy]))]; rfl
theorem mrg_left_first (U1 U2 V : List α) (h : ∀ x ∈ U1, ∀ y ∈ V, key x ≤ key y) : mrg key (U1 ++ U2) V = U1 ++ mrg key U2 V := by
 induction U1 with
 | nil => rfl
 | cons u U ih =>
  cases V with
  | nil => rw [mrg_nil_right, mrg_nil_right]
  | cons v V =>
   have := h u (by simp) v (by simp)
   rw [List.cons_append, mrg, if_neg (by omega), ih (fun x hx y hy => h x (by simp [hx]) y hy)]; rfl
theorem mrg_split (U1 U2 V1 V2 : List α) (h12 : ∀ x ∈ U1, ∀ y ∈ V2, key x ≤ key y) (h21 : ∀ x ∈ U2, ∀ y ∈ V1, key y < key x) :
  mrg key (U1 ++ U2) (V1 ++ V2) = mrg key U1 V1 ++ mrg key U2 V2 := by
 fun_induction mrg key U1 V1 with
 | case1 V => rw [List.nil_append]; exact mrg_right_first key U2 V V2 h21
 | case2 u U => rw [List.nil_append]; exact mrg_left_first key (u :: U) U2 V2 h12
 | case3 u U v V h ih =>
  rw [List.cons_append, List.cons_append, mrg, if_pos h]
  show v :: mrg key (u :: U ++ U2) (V ++ V2) = _
  rw [ih h12 (fun x hx y hy => h21 x hx y (by simp [hy]))]; rfl
 | case4 u U v V h ih =>
  rw [List.cons_append, List.cons_append, mrg, if_neg h]
  show u :: mrg key (U ++ U2) (v :: V ++ V2) = _
  rw [ih (fun x hx y hy => h12 x (by simp [hx]) y hy) h21]; rfl
theorem mrg_one_left (u : α) (V1 V2 : List α) (h1 : ∀ y ∈ V1, key y < key u) (h2 : ∀ y ∈ V2, key u ≤ key y) : mrg key [u] (V1 ++ V2) = V1 ++ u :: V2 := by
 rw [mrg_right_first key [u] V1 V2 (fun x hx y hy => by rw [List.mem_singleton.1 hx]; exact h1 y hy)]
 have := mrg_left_first key [u] [] V2 (fun x hx y hy => by rw [List.mem_singleton.1 hx]; exact h2 y hy)
 rw [List.append_nil, mrg_nil_left] at this
 rw [this]; rfl
theorem mrg_one_right (v : α) (U1 U2 : List α) (h1 : ∀ x ∈ U1, key x ≤ key v) (h2 : ∀ x ∈ U2, key v < key x) : mrg key (U1 ++ U2) [v] = U1 ++ v :: U2 := by
 rw [mrg_left_first key U1 U2 [v] (fun x hx y hy => by rw [List.mem_singleton.1 hy]; exact h1 x hx)]
 have := mrg_right_first key U2 [v] [] (fun x hx y hy => by rw [List.mem_singleton.1 hy]; exact h2 x hx)
 rw [List.append_nil, mrg_nil_right] at this
 rw [this]; rfl
theorem insK_eq (x : α) (L : List α) (h : Srt key L) : insK key x L = mrg key L [x] := by
 induction L with
 | nil => simp [insK, mrg]
 | cons y L ih =>
  have hs := (List.pairwise_cons.1 h)
  rw [insK, mrg]
  split
  ·rename_i hlt
   rw [mrg_nil_right]
  ·rw [ih hs.2]
theorem mrg_ins (U V : List α) (x : α) (hU : Srt key U) (hV : Srt key V) : mrg key U (insK key x V) = insK key x (mrg key U V) := by
 rw [insK_eq key x V hV, insK_eq key x _ (mrg_sorted key U V hU hV)]
 fun_induction mrg key U V with
 | case1 V => rw [mrg_nil_left]
 | case2 u U => rw [mrg_nil_left]
 | case3 u U v V h ih =>
  have i := ih hU (List.pairwise_cons.1 hV).2
  by_cases hx : key x < key v
  ·have e1 : mrg key (v :: V) [x] = x :: v :: V := by rw [mrg, if_pos hx, mrg_nil_right]
   have e2 : mrg key (v :: mrg key (u :: U) V) [x] = x :: v :: mrg key (u :: U) V := by rw [mrg, if_pos hx, mrg_nil_right]
   rw [e1, e2, mrg, if_pos (by omega), mrg, if_pos h]
  ·have e1 : mrg key (v :: V) [x] = v :: mrg key V [x] := by rw [mrg, if_neg hx]
   have e2 : mrg key (v :: mrg key (u :: U) V) [x] = v :: mrg key (mrg key (u :: U) V) [x] := by rw [mrg, if_neg hx]
   rw [e1, e2, mrg, if_pos h, i]
 | case4 u U v V h ih =>
  have i := ih (List.pairwise_cons.1 hU).2 hV
  by_cases hx : key x < key v
  ·have e1 : mrg key (v :: V) [x] = x :: v :: V := by rw [mrg, if_pos hx, mrg_nil_right]
   rw [e1] at i ⊢
   by_cases hu : key x < key u
   ·have e2 : mrg key (u :: mrg key U (v :: V)) [x] = x :: u :: mrg key U (v :: V) := by rw [mrg, if_pos hu, mrg_nil_right]
    rw [e2, mrg, if_pos hu, mrg, if_neg h]
   ·have e2 : mrg key (u :: mrg key U (v :: V)) [x] = u :: mrg key (mrg key U (v :: V)) [x] := by rw [mrg, if_neg hu]
    rw [e2, mrg, if_neg hu, i]
  ·have e1 : mrg key (v :: V) [x] = v :: mrg key V [x] := by rw [mrg, if_neg hx]
   have e2 : mrg key (u :: mrg key U (v :: V)) [x] = u :: mrg key (mrg key U (v :: V)) [x] := by rw [mrg, if_neg (by omega)]
   rw [e2, ← i, e1, mrg, if_neg h]
theorem isort_append_n (l1 : List α) : ∀ (n : Nat) (l2 : List α), l2.length = n → isort key (l1 ++ l2) = mrg key (isort key l1) (isort key l2)
 | 0, l2, h => by
  rw [List.eq_nil_of_length_eq_zero h, List.append_nil]; show _ = mrg key _ []; rw [mrg_nil_right]
 | n + 1, l2, h => by
  have hne : l2 ≠ [] := fun e => by rw [e] at h; cases h
  have e := List.dropLast_concat_getLast hne
  have hl : l2.dropLast.length = n := by rw [List.length_dropLast]; omega
  have ih := isort_append_n l1 n l2.dropLast hl
  rw [← e, ← List.append_assoc, isort_snoc, isort_snoc, ih, mrg_ins key _ _ _ (isort_sorted key l1) (isort_sorted key _)]
theorem isort_append (l1 l2 : List α) : isort key (l1 ++ l2) = mrg key (isort key l1) (isort key l2) := isort_append_n key l1 _ l2 rfl
end
end Go.Proofs.Ytckhjehibjdjdaa.P
namespace Go.Proofs.Ytckhjehibjdjdaa.P
set_option linter.unusedVariables false
set_option linter.unusedSimpArgs false
section
variable {α : Type}
def sw1 (xs : List α) (p q : Nat) : List α := match xs[p]?, xs[q]? with
 | some x, some y => (xs.set p y).set q x
 | _, _ => xs
def swR (xs : List α) (a b : Nat) : Nat → List α
 | 0 => xs
 | i + 1 => sw1 (swR xs a b i) (a + i) (b + i)
theorem sw1_len (xs : List α) (p q : Nat) : (sw1 xs p q).length = xs.length := by
 unfold sw1; split <;> simp
theorem swR_len (xs : List α) (a b : Nat) : ∀ i, (swR xs a b i).length = xs.length
 | 0 => rfl
 | i + 1 => by rw [swR, sw1_len, swR_len xs a b i]
theorem sw1_eq {xs : List α} {p q : Nat} {x y : α} (hx : xs[p]? = some x) (hy : xs[q]? = some y) : sw1 xs p q = (xs.set p y).set q x := by
 unfold sw1; rw [hx, hy]
theorem swR_get (xs : List α) (a b c : Nat) (hab : a + c ≤ b) (hb : b + c ≤ xs.length) : ∀ i, i ≤ c → ∀ j, (swR xs a b i)[j]? = if a ≤ j ∧ j < a + i then xs[j - a + b]? else if b ≤ j ∧ j < b + i then xs[j - b + a]? else xs[j]? := by
 intro i
 induction i with
 | zero => intro _ j; rw [swR, if_neg (by omega), if_neg (by omega)]
 | succ i ih =>
  intro hi j
  have I := ih (by omega)
  have h1 : (swR xs a b i)[a + i]? = xs[a + i]? := by rw [I, if_neg (by omega), if_neg (by omega)]
  have h2 : (swR xs a b i)[b + i]? = xs[b + i]? := by rw [I, if_neg (by omega), if_neg (by omega)]
  have e1 : xs[a + i]? = some xs[a + i] := List.getElem?_eq_getElem (by omega)
  have e2 : xs[b + i]? = some xs[b + i] := List.getElem?_eq_getElem (by omega)
  have hl := swR_len xs a b i
  rw [swR, sw1_eq (h1.trans e1) (h2.trans e2), List.getElem?_set, List.length_set, hl]
  by_cases hj : b + i = j
  ·rw [if_pos hj, if_pos (by omega), if_neg (by omega), if_pos (by omega), ← e1]
   congr 1; omega
  ·rw [if_neg hj, List.getElem?_set, hl]
   by_cases hj2 : a + i = j
   ·rw [if_pos hj2, if_pos (by omega), if_pos (by omega), ← e2]
    congr 1; omega
   ·rw [if_neg hj2, I]
    by_cases c1 : a ≤ j ∧ j < a + i
    ·rw [if_pos c1, if_pos (by omega)]
    ·rw [if_neg c1, if_neg (show ¬ (a ≤ j ∧ j < a + (i + 1)) by omega)]
     by_cases c2 : b ≤ j ∧ j < b + i
     ·rw [if_pos c2, if_pos (by omega)]
     ·rw [if_neg c2, if_neg (show ¬ (b ≤ j ∧ j < b + (i + 1)) by omega)]
theorem swR_lists (X A Y B Z : List α) (h : A.length = B.length) : swR (X ++ (A ++ (Y ++ (B ++ Z)))) X.length (X.length + A.length + Y.length) A.length = X ++ (B ++ (Y ++ (A ++ Z))) := by
 apply List.ext_getElem?
 intro j
 rw [swR_get _ _ _ A.length (by omega) (by simp only [List.length_append]; omega) _ (Nat.le_refl _)]
 simp only [List.getElem?_append, List.length_append]
 repeat' split
 all_goals first | rfl | omega | (congr 1; omega)
end
end Go.Proofs.Ytckhjehibjdjdaa.P
namespace Go.Proofs.Ytckhjehibjdjdaa.P
open Go.RowKit Go.Shelf Go.Proofs.YtckhjehibjdjdaaW.PrintWords Go.Proofs.YtckhjehibjdjdaaW.PrintLast Go.Proofs.YtckhjehibjdjdaaW.PrintMore
attribute [local go_sem] Oper.semAt_some
set_option linter.unusedVariables false
set_option linter.unusedSimpArgs false
structure SE where
 w0 : World
 base : Nat
 ok : Nat → Prop
 g : Nat
 n : Nat
 cap : Nat
 key : S51 → Int
 okf : S51 → Prop
 lb : Array Value
 sf : Nat
 sb : Array Value
structure SE.RW (E : SE) (W : World) (xs : List S51) : Prop where
 grown : E.w0.grownBy W (some E.g)
 row : Kd.R k51 51 W E.base E.ok (.slice (some ⟨E.g, 0, none⟩) E.n E.cap) xs
 mem : ∀ f ∈ xs, E.okf f
theorem SE.RW.len {E : SE} {W : World} {xs : List S51} (h : E.RW W xs) : xs.length = E.n := (Kd.R_reads' h.row).1.symm
structure SE.Ok (E : SE) : Prop where
 less : ∀ W xs (i j : Nat) x y, E.RW W xs → xs[i]? = some x → xs[j]? = some y → Calls Try.prog 86 (#[.int .i64 i, .int .i64 j] ++ E.lb) W fun e w' => e = .returned (.bool (decide (E.key x < E.key y))) ∧ Below W.heap.size W w'
 swap : ∀ W xs (i j : Nat) x y, E.RW W xs → xs[i]? = some x → xs[j]? = some y → ∃ W', (callFunc E.sf (#[.int .i64 i, .int .i64 j] ++ E.sb)).run Try.prog W = .ok (.value (.tuple #[])) W' ∧ E.RW W' ((xs.set i y).set j x) ∧ W.grownBy W' (some E.g)
 gb : E.g < E.w0.heap.size
 nb : E.n ≤ 1000000
theorem SE.RW.below {E : SE} {W W' : World} {xs : List S51} (h : E.RW W xs) (hb : Below W.heap.size W W') : E.RW W' xs :=
 ⟨grown_grown h.grown ⟨hb.os, hb.tape, hb.output, hb.size, fun k hk _ => hb.block k hk⟩, Kd.R_below h.row hb, h.mem⟩
theorem SE.RW.drew {E : SE} {W : World} {xs : List S51} (h : E.RW W xs) : E.RW W.drew xs := ⟨grown_drew h.grown, Kd.R_drew h.row, h.mem⟩
theorem SE.RW.drewN {E : SE} {W : World} {xs : List S51} (h : E.RW W xs) (n : Nat) : E.RW (W.drewN n) xs := ⟨⟨h.grown.os, h.grown.tape, h.grown.output, h.grown.size, h.grown.block⟩, Kd.R_drewN h.row n, h.mem⟩
theorem grown_box {W W' : World} {g k : Nat} {o : Obj} (h : W.heap[k]? = some o) (hg : W.grownBy W' (some g)) (hne : k ≠ g) : W'.heap[k]? = some o := blk_grown h hg (fun e => by injection e with e; exact hne e)
set_option maxHeartbeats 8000000 in
set_option maxRecDepth 100000 in
theorem swapRangeF (E : SE) (O : E.Ok) (a b c : Nat) (xs : List S51) (w : World) (hr : E.RW w xs) (hab : a + c ≤ b) (hb : b + c ≤ E.n) :
  Calls Try.prog 140 #[.agg #[.func (.func 86) #[] E.lb, .func (.func E.sf) #[] E.sb], .int .i64 a, .int .i64 b, .int .i64 c] w fun e w' => e = .returned (.tuple #[]) ∧ E.RW w' (swR xs a b c) ∧ w.grownBy w' (some E.g) := by
 have hu165 := Try.underlying165
 have HR := Aside0.mk hr
 have HO := Aside0.mk O
 have hxl := hr.len
 have hgw : E.g < w.heap.size := Nat.lt_of_lt_of_le O.gb hr.grown.size
 have hn := O.nb
 clear hr O
 go_enter Try.func140, Try.ntmps140
 go_wp2_with (first | ((with_reducible refine gate_dst (N := 4) rfl ?_); refine box_event ?hg (N := 4) ?hd (cs := #[.func (.func 86) #[] E.lb, .func (.func E.sf) #[] E.sb]) (t := 165) ?hr ?_; (case hd => rfl); (case hg => rfl); (case hr => first | (go_simp; done) | (go_simp; rfl)); intro gb hgb wb hxb hbb; have HXB := Aside0.mk hxb; have HRB := Aside0.mk (HR.out.below hbb); have HGB := Aside0.mk (grown_of_below (g := E.g) hbb); have hne : gb ≠ E.g := (by omega); clear hgb hxb hbb))
 go_loopw [8] (fun v8 wr => ∃ i : Nat, i ≤ c ∧ v8 = .int .i64 (i : Int) ∧ Aside0 (E.RW wr (swR xs a b i)) ∧ Aside0 (w.grownBy wr (some E.g)) ∧ Aside0 (wr.heap[gb]? = some (.cells #[.func (.func 86) #[] E.lb, .func (.func E.sf) #[] E.sb] 165 (0, 0)))) (fun v8 _ => c - (intOf v8).toNat)
 case atStart => exact ⟨0, Nat.zero_le _, rfl, HRB, HGB, HXB⟩
 case round =>
  clear HXB HRB HGB HR
  obtain ⟨i, hi, rfl, HA, HG, HX⟩ := hrel
  by_cases hlt : i < c
  ·have hlt' : (i : Int) < c := by omega
   have hl := swR_len xs a b i
   have hgx := List.getElem?_eq_getElem (show a + i < (swR xs a b i).length by omega)
   have hgy := List.getElem?_eq_getElem (show b + i < (swR xs a b i).length by omega)
   have HST := Aside0.mk (show swR xs a b (i + 1) = _ from sw1_eq hgx hgy)
   obtain ⟨W', hrun, hrw, hgr⟩ := HO.out.swap wr _ (a + i) (b + i) _ _ HA.out hgx hgy
   rw [← HST.out] at hrw
   have l1 : wr.cell? ⟨gb, 1, none⟩ = some (.func (.func E.sf) #[] E.sb) := (blk_cell HX.out 1).trans rfl
   have hX' := grown_box HX.out hgr hne
   have hG' := grown_grown HG.out hgr
   have e1 : IntKind.i64.wrap ((a : Int) + (i : Int)) = (a : Int) + (i : Int) := by rw [IntKind.wrap_i64]; omega
   have e2 : IntKind.i64.wrap ((b : Int) + (i : Int)) = (b : Int) + (i : Int) := by rw [IntKind.wrap_i64]; omega
   push_cast at hrun
   clear hgx hgy HST
   go_wp2
   try rw [hrun, Oper.upon_value]
   try clear hrun
   have HR5 := Aside0.mk hrw
   have HG5 := Aside0.mk hG'
   have HX5 := Aside0.mk hX'
   clear hrw hG' hX' hgr
   try go_wp2
   go_roundw
   case rel => exact ⟨i + 1, by omega, by go_num, HR5, HG5, HX5⟩
   case measure => simp [intOf]; omega
  ·obtain rfl : i = c := by omega
   go_wp2
   go_end0
   exact ⟨rfl, HA.out, HG.out⟩
theorem swap_listsF (E : SE) (O : E.Ok) (X A Y B Z : List S51) (w : World) (a b c : Nat) (hr : E.RW w (X ++ (A ++ (Y ++ (B ++ Z))))) (ha : a = X.length) (hb : b = X.length + A.length + Y.length) (hc : c = A.length) (hB : A.length = B.length) :
  Calls Try.prog 140 #[.agg #[.func (.func 86) #[] E.lb, .func (.func E.sf) #[] E.sb], .int .i64 a, .int .i64 b, .int .i64 c] w fun e w' => e = .returned (.tuple #[]) ∧ E.RW w' (X ++ (B ++ (Y ++ (A ++ Z)))) ∧ w.grownBy w' (some E.g) := by
 have hl := hr.len
 simp only [List.length_append] at hl
 subst ha hb hc
 rw [← swR_lists X A Y B Z hB]
 exact swapRangeF E O _ _ _ _ w hr (by omega) (by omega)
set_option maxHeartbeats 8000000 in
set_option maxRecDepth 100000 in
theorem rotateF (E : SE) (O : E.Ok) (a m b : Nat) (X U V Z : List S51) (w : World) (hr : E.RW w (X ++ (U ++ (V ++ Z)))) (ha : a = X.length) (hm : m = X.length + U.length) (hb : b = X.length + U.length + V.length) (hU : 0 < U.length) (hV : 0 < V.length) :
  Calls Try.prog 137 #[.agg #[.func (.func 86) #[] E.lb, .func (.func E.sf) #[] E.sb], .int .i64 a, .int .i64 m, .int .i64 b] w fun e w' => e = .returned (.tuple #[]) ∧ E.RW w' (X ++ (V ++ (U ++ Z))) ∧ w.grownBy w' (some E.g) := by
 have hu165 := Try.underlying165
 have HO := Aside0.mk O
 have hn := O.nb
 have hgw : E.g < w.heap.size := Nat.lt_of_lt_of_le O.gb hr.grown.size
 have HR := Aside0.mk hr
 have hxl := hr.len.symm
 obtain ⟨n, hnE⟩ : ∃ n, E.n = n := ⟨_, rfl⟩
 rw [hnE] at hxl hn
 have HNE := Aside0.mk hnE
 clear hnE O
 simp only [List.length_append] at hxl
 obtain ⟨ui, hui⟩ : ∃ ui, U.length = ui := ⟨_, rfl⟩
 obtain ⟨vj, hvj⟩ : ∃ vj, V.length = vj := ⟨_, rfl⟩
 have HUI := Aside0.mk hui
 have HVJ := Aside0.mk hvj
 have bm : m ≤ n ∧ b ≤ n ∧ ui ≤ m ∧ a ≤ m ∧ m ≤ b ∧ 0 < ui ∧ 0 < vj := by omega
 have hs1 : IntKind.i64.wrap ((m : Int) - (a : Int)) = (ui : Int) := by rw [IntKind.wrap_i64]; omega
 have hs2 : IntKind.i64.wrap ((b : Int) - (m : Int)) = (vj : Int) := by rw [IntKind.wrap_i64]; omega
 have hs1' : (m : Int) - (a : Int) = (ui : Int) := by omega
 have hs2' : (b : Int) - (m : Int) = (vj : Int) := by omega
 have HM := Aside0.mk hm
 have HXL := Aside0.mk hxl
 obtain ⟨b1, b2, b3, b4, b5, b6, b7⟩ := bm
 clear hr hui hvj hxl hm ha hb hU hV
 go_enter Try.func137, Try.ntmps137
 go_wp2_with (first | ((with_reducible refine gate_dst (N := 4) rfl ?_); refine box_event ?hg (N := 4) ?hd (cs := #[.func (.func 86) #[] E.lb, .func (.func E.sf) #[] E.sb]) (t := 165) ?hr ?_; (case hd => rfl); (case hg => rfl); (case hr => first | (go_simp; done) | (go_simp; rfl)); intro gb hgb wb hxb hbb; have HXB := Aside0.mk hxb; have HRB := Aside0.mk (HR.out.below hbb); have HGB := Aside0.mk (grown_of_below (g := E.g) hbb); have hne : gb ≠ E.g := (by omega); clear hgb hxb hbb HR))
 go_loopw [8, 9] (fun v8 v9 wr => ∃ (i j : Nat) (X1 U1 V1 Z1 : List S51), v8 = .int .i64 (i : Int) ∧ v9 = .int .i64 (j : Int) ∧ 0 < i ∧ 0 < j ∧ Aside0 (U1.length = i) ∧ Aside0 (V1.length = j) ∧ Aside0 (X1.length + i = m) ∧ Aside0 (X1 ++ (V1 ++ (U1 ++ Z1)) = X ++ (V ++ (U ++ Z))) ∧
  Aside0 (E.RW wr (X1 ++ (U1 ++ (V1 ++ Z1)))) ∧ Aside0 (w.grownBy wr (some E.g)) ∧ Aside0 (wr.heap[gb]? = some (.cells #[.func (.func 86) #[] E.lb, .func (.func E.sf) #[] E.sb] 165 (0, 0)))) (fun v8 v9 _ => (intOf v8).toNat + (intOf v9).toNat)
 case atStart => exact ⟨ui, vj, X, U, V, Z, by first | rfl | (simp [hs1']; done), by first | rfl | (simp [hs2']; done), b6, b7, HUI, HVJ, ⟨by have := HM.out; have := HUI.out; omega⟩, ⟨rfl⟩, HRB, HGB, HXB⟩
 case round =>
  clear HRB HGB HXB HUI HVJ HM
  obtain ⟨i, j, X1, U1, V1, Z1, rfl, rfl, hi, hj, HU, HV, HX, HT, HA, HG, HZ⟩ := hrel
  have hlen : X1.length + (i + (j + Z1.length)) = n := by
   have := HA.out.len
   rw [HNE.out] at this
   simp only [List.length_append] at this
   have := HU.out; have := HV.out; omega
  have hcz0 : wr.cell? ⟨gb, 0, none⟩ = some (.func (.func 86) #[] E.lb) := (blk_cell HZ.out 0).trans rfl
  have hcz1 : wr.cell? ⟨gb, 1, none⟩ = some (.func (.func E.sf) #[] E.sb) := (blk_cell HZ.out 1).trans rfl
  have hfz0 := blk_frozen HZ.out 0
  have hfz1 := blk_frozen HZ.out 1
  have hxm := HX.out
  by_cases hij : i = j
  ·subst hij
   have e0 : ((i : Int) != (i : Int)) = false := by simp
   have e1 : IntKind.i64.wrap ((m : Int) - (i : Int)) = ((m - i : Nat) : Int) := by rw [IntKind.wrap_i64]; omega
   have e2 : (m : Int) - (i : Int) = ((m - i : Nat) : Int) := by omega
   have hcall := swap_listsF E HO.out X1 U1 [] V1 Z1 wr (m - i) m i HA.out (by omega) (by have := HU.out; simp; omega) HU.out.symm (by have := HU.out; have := HV.out; omega)
   rw [List.nil_append, HT.out] at hcall
   have HC := Aside0.mk hcall
   clear hcall hxm
   go_wp2_with (go_at_call 140; refine HC.out.mono ?_; rintro e w5 ⟨rfl, hr5, hg5⟩; have HR5 := Aside0.mk hr5; have HG5 := Aside0.mk (grown_grown HG.out hg5); have HZ5 := Aside0.mk (grown_box HZ.out hg5 hne); clear hr5 hg5)
   go_end0
   exact ⟨rfl, HR5.out, HG5.out⟩
  ·have e0 : ((i : Int) != (j : Int)) = true := by simp; omega
   by_cases hgt : j < i
   ·have e1 : decide ((j : Int) < (i : Int)) = true := by simp; omega
    have e2 : (m : Int) - (i : Int) = ((m - i : Nat) : Int) := by omega
    have hsp : U1 = U1.take j ++ U1.drop j := (List.take_append_drop j U1).symm
    have hl1 : (U1.take j).length = j := by rw [List.length_take]; have := HU.out; omega
    have hl2 : (U1.drop j).length = i - j := by rw [List.length_drop]; have := HU.out; omega
    generalize U1.take j = P at *
    generalize U1.drop j = Q at *
    subst hsp
    have hA := HA.out
    rw [List.append_assoc] at hA
    have hcall := swap_listsF E HO.out X1 P Q V1 Z1 wr (m - i) m j hA (by omega) (by omega) hl1.symm (by have := HV.out; omega)
    have HC := Aside0.mk hcall
    have HT2 := Aside0.mk (show (X1 ++ V1) ++ (P ++ (Q ++ Z1)) = X ++ (V ++ (U ++ Z)) from by rw [← HT.out]; simp)
    clear hcall hA HT HU HA
    have HL1 := Aside0.mk hl1
    have HL2 := Aside0.mk hl2
    have HX2 := Aside0.mk (show (X1 ++ V1).length + (i - j) = m from by rw [List.length_append]; have := HV.out; omega)
    clear hl1 hl2 hxm HX
    go_wp2_with (go_at_call 140; refine HC.out.mono ?_; rintro e w5 ⟨rfl, hr5, hg5⟩; have HR5 := Aside0.mk (show E.RW w5 ((X1 ++ V1) ++ (Q ++ (P ++ Z1))) from by rw [List.append_assoc]; exact hr5); have HG5 := Aside0.mk (grown_grown HG.out hg5); have HZ5 := Aside0.mk (grown_box HZ.out hg5 hne); clear hr5 hg5)
    go_roundw
    case rel => exact ⟨i - j, j, X1 ++ V1, Q, P, Z1, by go_num, rfl, by omega, hj, HL2, HL1, HX2, HT2, HR5, HG5, HZ5⟩
    case measure => simp [intOf]; omega
   ·have e1 : decide ((j : Int) < (i : Int)) = false := by simp; omega
    have e2 : (m : Int) - (i : Int) = ((m - i : Nat) : Int) := by omega
    have e3 : (m : Int) + (j : Int) - (i : Int) = ((m + j - i : Nat) : Int) := by omega
    have hsp : V1 = V1.take (j - i) ++ V1.drop (j - i) := (List.take_append_drop _ V1).symm
    have hl1 : (V1.take (j - i)).length = j - i := by rw [List.length_take]; have := HV.out; omega
    have hl2 : (V1.drop (j - i)).length = i := by rw [List.length_drop]; have := HV.out; omega
    generalize V1.take (j - i) = P at *
    generalize V1.drop (j - i) = Q at *
    subst hsp
    have hA := HA.out
    rw [List.append_assoc] at hA
    have hcall := swap_listsF E HO.out X1 U1 P Q Z1 wr (m - i) (m + j - i) i hA (by omega) (by have := HU.out; omega) HU.out.symm (by have := HU.out; omega)
    have HC := Aside0.mk hcall
    have HT2 := Aside0.mk (show X1 ++ (P ++ (Q ++ (U1 ++ Z1))) = X ++ (V ++ (U ++ Z)) from by rw [← HT.out]; simp)
    clear hcall hA HT HV HA
    have HL1 := Aside0.mk hl1
    have HL2 := Aside0.mk hl2
    clear hl1 hl2 hxm
    go_wp2_with (go_at_call 140; refine HC.out.mono ?_; rintro e w5 ⟨rfl, hr5, hg5⟩; have HR5 := Aside0.mk hr5; have HG5 := Aside0.mk (grown_grown HG.out hg5); have HZ5 := Aside0.mk (grown_box HZ.out hg5 hne); clear hr5 hg5)
    go_roundw
    case rel => exact ⟨i, j - i, X1, Q, P, U1 ++ Z1, rfl, by go_num, hi, by omega, HL2, HL1, HX, HT2, HR5, HG5, HZ5⟩
    case measure => simp [intOf]; omega
end Go.Proofs.Ytckhjehibjdjdaa.P
namespace Go.Proofs.Ytckhjehibjdjdaa.P
open Go.RowKit Go.Shelf Go.Proofs.YtckhjehibjdjdaaW.PrintWords Go.Proofs.YtckhjehibjdjdaaW.PrintLast Go.Proofs.YtckhjehibjdjdaaW.PrintMore
attribute [local go_sem] Oper.semAt_some
set_option linter.unusedVariables false
set_option linter.unusedSimpArgs false
end Go.Proofs.Ytckhjehibjdjdaa.P
namespace Go.Proofs.Ytckhjehibjdjdaa.P
open Go.RowKit Go.Shelf Go.Proofs.YtckhjehibjdjdaaW.PrintWords Go.Proofs.YtckhjehibjdjdaaW.PrintLast Go.Proofs.YtckhjehibjdjdaaW.PrintMore
attribute [local go_sem] Oper.semAt_some
set_option linter.unusedVariables false
set_option linter.unusedSimpArgs false
theorem int_i64 {a b : Int} (h : a = b) : Value.int .i64 a = Value.int .i64 b := by rw [h]
end Go.Proofs.Ytckhjehibjdjdaa.P
namespace Go.Proofs.Ytckhjehibjdjdaa.P
open Go.RowKit Go.Shelf Go.Proofs.YtckhjehibjdjdaaW.PrintWords Go.Proofs.YtckhjehibjdjdaaW.PrintLast Go.Proofs.YtckhjehibjdjdaaW.PrintMore
attribute [local go_sem] Oper.semAt_some
set_option linter.unusedVariables false
set_option linter.unusedSimpArgs false
theorem snoc_of {α : Type} (l : List α) (h : 0 < l.length) : ∃ l' y, l = l' ++ [y] := by
 have hne : l ≠ [] := fun e => by rw [e] at h; simp at h
 exact ⟨l.dropLast, l.getLast hne, (List.dropLast_concat_getLast hne).symm⟩
end Go.Proofs.Ytckhjehibjdjdaa.P
namespace Go.Proofs.Ytckhjehibjdjdaa.P
open Go.RowKit Go.Shelf Go.Proofs.YtckhjehibjdjdaaW.PrintWords Go.Proofs.YtckhjehibjdjdaaW.PrintLast Go.Proofs.YtckhjehibjdjdaaW.PrintMore
attribute [local go_sem] Oper.semAt_some
set_option linter.unusedVariables false
set_option linter.unusedSimpArgs false
theorem krow_at {X V Z : List S51} (u : S51) {h m : Nat} (hm : m = X.length + 1) (h1 : m ≤ h) (h2 : h - m < V.length) : (X ++ (u :: (V ++ Z)))[h]? = some V[h - m] := by
 rw [List.getElem?_append_right (by omega), show h - X.length = (h - m) + 1 by omega, List.getElem?_cons_succ, List.getElem?_append_left h2, List.getElem?_eq_getElem h2]
theorem ksrt_take {key : S51 → Int} {V : List S51} (hV : Srt key V) {k : Nat} (hk : k < V.length) {u : S51} (h : key V[k] < key u) : ∀ y ∈ V.take (k + 1), key y < key u := fun y hy => by
 obtain ⟨j, hj, rfl⟩ := List.mem_iff_getElem.1 hy
 rw [List.length_take] at hj
 rw [List.getElem_take]
 by_cases e : j = k
 ·subst e; exact h
 ·have := List.pairwise_iff_getElem.1 hV j k (by omega) hk (by omega)
  omega
theorem ksrt_drop {key : S51 → Int} {V : List S51} (hV : Srt key V) {k : Nat} (hk : k < V.length) {u : S51} (h : ¬ key V[k] < key u) : ∀ y ∈ V.drop k, key u ≤ key y := fun y hy => by
 obtain ⟨j, hj, rfl⟩ := List.mem_iff_getElem.1 hy
 rw [List.length_drop] at hj
 rw [List.getElem_drop]
 by_cases e : j = 0
 ·subst e; simp only [Nat.add_zero]; omega
 ·have := List.pairwise_iff_getElem.1 hV k (k + j) hk (by omega) (by omega)
  omega
theorem kbub (X A : List S51) (u v : S51) (B : List S51) : ((X ++ (A ++ (u :: v :: B))).set (X.length + A.length) v).set (X.length + A.length + 1) u = X ++ ((A ++ [v]) ++ (u :: B)) := by
 rw [List.set_append_right _ _ (by omega), List.set_append_right _ _ (by omega), List.set_append_right _ _ (by omega), List.set_append_right _ _ (by omega), show X.length + A.length - X.length - A.length = 0 by omega, show X.length + A.length + 1 - X.length - A.length = 1 by omega]
 simp
theorem krow_at2 {X U R : List S51} {h a : Nat} (ha : a = X.length) (h1 : a ≤ h) (h2 : h - a < U.length) : (X ++ (U ++ R))[h]? = some U[h - a] := by
 rw [List.getElem?_append_right (by omega), show h - X.length = h - a by omega, List.getElem?_append_left h2, List.getElem?_eq_getElem h2]
theorem ksrt_take2 {key : S51 → Int} {U : List S51} (hU : Srt key U) {k : Nat} (hk : k < U.length) {v : S51} (h : ¬ key v < key U[k]) : ∀ y ∈ U.take (k + 1), key y ≤ key v := fun y hy => by
 obtain ⟨j, hj, rfl⟩ := List.mem_iff_getElem.1 hy
 rw [List.length_take] at hj
 rw [List.getElem_take]
 by_cases e : j = k
 ·subst e; omega
 ·have := List.pairwise_iff_getElem.1 hU j k (by omega) hk (by omega)
  omega
theorem ksrt_drop2 {key : S51 → Int} {U : List S51} (hU : Srt key U) {k : Nat} (hk : k < U.length) {v : S51} (h : key v < key U[k]) : ∀ y ∈ U.drop k, key v < key y := fun y hy => by
 obtain ⟨j, hj, rfl⟩ := List.mem_iff_getElem.1 hy
 rw [List.length_drop] at hj
 rw [List.getElem_drop]
 by_cases e : j = 0
 ·subst e; simp only [Nat.add_zero]; exact h
 ·have := List.pairwise_iff_getElem.1 hU k (k + j) hk (by omega) (by omega)
  omega
theorem kbub2 (X B : List S51) (y v : S51) (R : List S51) : ((X ++ ((B ++ [y]) ++ (v :: R))).set (X.length + B.length + 1) y).set (X.length + B.length) v = X ++ (B ++ (v :: (y :: R))) := by
 rw [List.append_assoc, List.set_append_right _ _ (by omega), List.set_append_right _ _ (by omega), List.set_append_right _ _ (by omega), List.set_append_right _ _ (by omega), show X.length + B.length - X.length - B.length = 0 by omega, show X.length + B.length + 1 - X.length - B.length = 1 by omega]
 simp
theorem ksrt_le {key : S51 → Int} {V : List S51} (hV : Srt key V) {i j : Nat} {x y : S51} (hij : i ≤ j) (hx : V[i]? = some x) (hy : V[j]? = some y) : key x ≤ key y := by
 obtain ⟨hi, rfl⟩ := List.getElem?_eq_some_iff.1 hx
 obtain ⟨hj, rfl⟩ := List.getElem?_eq_some_iff.1 hy
 by_cases e : i = j
 ·subst e; exact Int.le_refl _
 ·exact List.pairwise_iff_getElem.1 hV i j hi hj (by omega)
theorem ksplit12 {key : S51 → Int} {U V : List S51} (hU : Srt key U) (hV : Srt key V) {p q : Nat} (hp : p ≤ U.length) (h : p = 0 ∨ V.length ≤ q ∨ ∀ x y, U[p - 1]? = some x → V[q]? = some y → key x ≤ key y) : ∀ x ∈ U.take p, ∀ y ∈ V.drop q, key x ≤ key y := fun x hx y hy => by
 obtain ⟨i, hi, rfl⟩ := List.mem_iff_getElem.1 hx
 obtain ⟨j, hj, rfl⟩ := List.mem_iff_getElem.1 hy
 rw [List.length_take] at hi
 rw [List.length_drop] at hj
 rw [List.getElem_take, List.getElem_drop]
 rcases h with h | h | h
 ·omega
 ·omega
 ·have h1 := ksrt_le hU (i := i) (j := p - 1) (by omega) (List.getElem?_eq_getElem (by omega)) (List.getElem?_eq_getElem (by omega))
  have h2 := ksrt_le hV (i := q) (j := q + j) (by omega) (List.getElem?_eq_getElem (by omega)) (List.getElem?_eq_getElem (by omega))
  have h3 := h _ _ (List.getElem?_eq_getElem (show p - 1 < U.length by omega)) (List.getElem?_eq_getElem (show q < V.length by omega))
  omega
theorem ksplit21 {key : S51 → Int} {U V : List S51} (hU : Srt key U) (hV : Srt key V) {p q : Nat} (hq : q ≤ V.length) (h : U.length ≤ p ∨ q = 0 ∨ ∀ x y, U[p]? = some x → V[q - 1]? = some y → key y < key x) : ∀ x ∈ U.drop p, ∀ y ∈ V.take q, key y < key x := fun x hx y hy => by
 obtain ⟨i, hi, rfl⟩ := List.mem_iff_getElem.1 hx
 obtain ⟨j, hj, rfl⟩ := List.mem_iff_getElem.1 hy
 rw [List.length_drop] at hi
 rw [List.length_take] at hj
 rw [List.getElem_take, List.getElem_drop]
 rcases h with h | h | h
 ·omega
 ·omega
 ·have h1 := ksrt_le hU (i := p) (j := p + i) (by omega) (List.getElem?_eq_getElem (by omega)) (List.getElem?_eq_getElem (by omega))
  have h2 := ksrt_le hV (i := j) (j := q - 1) (by omega) (List.getElem?_eq_getElem (by omega)) (List.getElem?_eq_getElem (by omega))
  have h3 := h _ _ (List.getElem?_eq_getElem (show p < U.length by omega)) (List.getElem?_eq_getElem (show q - 1 < V.length by omega))
  omega
end Go.Proofs.Ytckhjehibjdjdaa.P
namespace Go.Proofs.Ytckhjehibjdjdaa.P
open Go.RowKit Go.Shelf Go.Proofs.YtckhjehibjdjdaaW.PrintWords Go.Proofs.YtckhjehibjdjdaaW.PrintLast Go.Proofs.YtckhjehibjdjdaaW.PrintMore
attribute [local go_sem] Oper.semAt_some
set_option linter.unusedVariables false
set_option linter.unusedSimpArgs false
set_option maxHeartbeats 8000000 in
set_option maxRecDepth 100000 in
theorem symMergeF_left (E : SE) (O : E.Ok) (a m b : Nat) (X V Z : List S51) (u : S51) (w : World) (hr : E.RW w (X ++ (u :: (V ++ Z)))) (ha : a = X.length) (hm : m = X.length + 1) (hb : b = X.length + 1 + V.length) (hV : Srt E.key V) :
  Calls Try.prog 132 #[.agg #[.func (.func 86) #[] E.lb, .func (.func E.sf) #[] E.sb], .int .i64 a, .int .i64 m, .int .i64 b] w fun e w' => e = .returned (.tuple #[]) ∧ E.RW w' (X ++ (mrg E.key [u] V ++ Z)) ∧ w.grownBy w' (some E.g) := by
 have hu165 := Try.underlying165
 have HO := Aside0.mk O
 have hn := O.nb
 have hgw : E.g < w.heap.size := Nat.lt_of_lt_of_le O.gb hr.grown.size
 have HR := Aside0.mk hr
 have HVS := Aside0.mk hV
 have hxl := hr.len.symm
 obtain ⟨n, hnE⟩ : ∃ n, E.n = n := ⟨_, rfl⟩
 rw [hnE] at hxl hn
 have HNE := Aside0.mk hnE
 clear hnE O
 simp only [List.length_append, List.length_cons] at hxl
 have bm : a < n ∧ m ≤ n ∧ b ≤ n ∧ m ≤ b := by omega
 obtain ⟨b1, b2, b3, b4⟩ := bm
 have hma : ((m : Int) - (a : Int) == 1) = true := by simp; omega
 have HM := Aside0.mk (And.intro hm (show m = a + 1 by omega))
 have HB := Aside0.mk (And.intro (show b = m + V.length by omega) hxl)
 have HAL := Aside0.mk ha
 clear hr hV hxl hm ha hb
 go_enter Try.func132, Try.ntmps132
 go_wp2_with (first | ((with_reducible refine gate_dst (N := 4) rfl ?_); refine box_event ?hg (N := 4) ?hd (cs := #[.func (.func 86) #[] E.lb, .func (.func E.sf) #[] E.sb]) (t := 165) ?hr ?_; (case hd => rfl); (case hg => rfl); (case hr => first | (go_simp; done) | (go_simp; rfl)); intro gb hgb wb hxb hbb; have HXB := Aside0.mk hxb; have HRB := Aside0.mk (HR.out.below hbb); have HGB := Aside0.mk (grown_of_below (g := E.g) hbb); have hne : gb ≠ E.g := (by omega); clear hgb hxb hbb HR))
 go_loopw [8, 9] (fun v8 v9 wr => ∃ (i j : Nat), v8 = .int .i64 (i : Int) ∧ v9 = .int .i64 (j : Int) ∧ m ≤ i ∧ i ≤ j ∧ j ≤ b ∧ Aside0 (∀ y ∈ V.take (i - m), E.key y < E.key u) ∧ Aside0 (∀ y ∈ V.drop (j - m), E.key u ≤ E.key y) ∧
  Aside0 (E.RW wr (X ++ (u :: (V ++ Z)))) ∧ Aside0 (w.grownBy wr (some E.g)) ∧ Aside0 (wr.heap[gb]? = some (.cells #[.func (.func 86) #[] E.lb, .func (.func E.sf) #[] E.sb] 165 (0, 0)))) (fun v8 v9 _ => (intOf v9).toNat - (intOf v8).toNat)
 case atStart => exact ⟨m, b, rfl, rfl, Nat.le_refl _, b4, Nat.le_refl _, ⟨by simp⟩, ⟨by rw [List.drop_eq_nil_of_le (by have := HB.out; omega)]; simp⟩, HRB, HGB, HXB⟩
 case round =>
  clear HRB HGB HXB
  obtain ⟨i, j, rfl, rfl, hi, hij, hj, HT, HD, HA, HG, HX⟩ := hrel
  by_cases hlt : i < j
  ·have hlt' : (i : Int) < j := by omega
   obtain ⟨h, hh⟩ : ∃ h, h = (i + j) / 2 := ⟨_, rfl⟩
   have hh1 : i ≤ h ∧ h < j := by omega
   have h3 : h - m < V.length := by have := HB.out; omega
   have hry := krow_at (Z := Z) u HM.out.1 (Nat.le_trans hi hh1.1) h3
   have hru : (X ++ (u :: (V ++ Z)))[a]? = some u := by rw [List.getElem?_append_right (by have := HAL.out; omega), show a - X.length = 0 by have := HAL.out; omega]; rfl
   have ST := Aside0.mk (fun hl => ksrt_take HVS.out h3 (u := u) hl)
   have SD := Aside0.mk (fun hl => ksrt_drop HVS.out h3 (u := u) hl)
   generalize V[h - m] = y at *
   have HHH := Aside0.mk hh
   have c0 : (0 : Int) ≤ (i : Int) + (j : Int) := by omega
   have c1 : (i : Int) + (j : Int) ≤ 2000000000000 := by omega
   have hcc : ((i : Int) + (j : Int)) / 2 = (h : Int) := by omega
   have i3 : (a : Int) < n := by omega
   have hh2 : (i ≤ h ∧ h < j) := hh1
   clear hh hh1
   have hcall := HO.out.less wr _ h a _ _ HA.out hry hru
   have l0 : wr.cell? ⟨gb, 0, none⟩ = some (.func (.func 86) #[] E.lb) := (blk_cell HX.out 0).trans rfl
   clear hry hru
   by_cases hlt2 : E.key y < E.key u
   ·rw [decide_eq_true hlt2] at hcall
    have HST := Aside0.mk (ST.out (by omega))
    clear hlt2 ST SD
    have HC := Aside0.mk hcall
    clear hcall
    go_wp2_with (go_at_call 86; refine HC.out.mono ?_; rintro e w4 ⟨rfl, hb4⟩; have HA4 := Aside0.mk (HA.out.below hb4); have HG4 := Aside0.mk (grown_below HG.out hb4); have HX4 := Aside0.mk (blk_below HX.out hb4); clear hb4)
    go_roundw
    case rel => exact ⟨h + 1, j, by first | exact int_i64 (by have := HHH.out; omega) | go_num, rfl, by omega, by omega, hj, ⟨by rw [show h + 1 - m = h - m + 1 by omega]; exact HST.out⟩, HD, HA4, HG4, HX4⟩
    case measure => simp [intOf]; omega
   ·rw [decide_eq_false hlt2] at hcall
    have HSD := Aside0.mk (SD.out (by omega))
    clear hlt2 ST SD
    have HC := Aside0.mk hcall
    clear hcall
    go_wp2_with (go_at_call 86; refine HC.out.mono ?_; rintro e w4 ⟨rfl, hb4⟩; have HA4 := Aside0.mk (HA.out.below hb4); have HG4 := Aside0.mk (grown_below HG.out hb4); have HX4 := Aside0.mk (blk_below HX.out hb4); clear hb4)
    go_roundw
    case rel => exact ⟨i, h, rfl, by first | rfl | exact int_i64 (by have := HHH.out; omega), hi, by omega, by omega, HT, HSD, HA4, HG4, HX4⟩
    case measure => simp [intOf]; omega
  ·obtain rfl : i = j := by omega
   have hV1 : V.take (i - m) ++ V.drop (i - m) = V := List.take_append_drop _ V
   have hml : mrg E.key [u] V = V.take (i - m) ++ u :: V.drop (i - m) := by
    have := mrg_one_left E.key u (V.take (i - m)) (V.drop (i - m)) HT.out HD.out
    rw [hV1] at this
    exact this
   have HAa := HA.out
   rw [← hV1] at HAa
   have hlA : (V.take (i - m)).length = i - m := by rw [List.length_take]; have := HB.out; omega
   have HA2 := Aside0.mk HAa
   have HLA := Aside0.mk hlA
   have HML := Aside0.mk hml
   generalize V.take (i - m) = A at *
   generalize V.drop (i - m) = B at *
   clear HT HD HA HAa hlA hV1 hml HVS
   go_wp2
   obtain ⟨wo, hwo⟩ : ∃ wo : World, wo = wr := ⟨_, rfl⟩
   subst hwo
   go_loopw [11] (fun v11_ w2 => ∃ (k : Nat) (A1 A2 : List S51), v11_ = .int .i64 (k : Int) ∧ a ≤ k ∧ k + 1 ≤ i ∧ Aside0 (A1.length = k - a) ∧ Aside0 (A1 ++ A2 = A) ∧ Aside0 (E.RW w2 (X ++ (A1 ++ (u :: (A2 ++ (B ++ Z)))))) ∧ Aside0 (w.grownBy w2 (some E.g)) ∧ Aside0 (w2.heap[gb]? = some (.cells #[.func (.func 86) #[] E.lb, .func (.func E.sf) #[] E.sb] 165 (0, 0)))) (fun v11_ _ => i - (intOf v11_).toNat)
   case atStart => exact ⟨a, [], A, rfl, Nat.le_refl _, by have := HM.out; omega, ⟨by simp⟩, ⟨rfl⟩, ⟨by have := HA2.out; rw [List.append_assoc] at this; exact this⟩, HG, HX⟩
   case round =>
    clear HA2 HG HX
    obtain ⟨k, A1, A2, rfl, hk, hki, HL1, HAA, HA, HG, HX⟩ := hrel
    by_cases hk2 : k + 1 < i
    ·cases A2 with
     | nil =>
      exfalso
      have h1 := HAA.out; have h2 := HL1.out; have h3 := HLA.out; have h4 := HM.out
      rw [List.append_nil] at h1
      rw [h1] at h2
      omega
     | cons v A2 =>
      have hlt' : (k : Int) < (i : Int) - 1 := by omega
      have hX := HAL.out
      have hL1 := HL1.out
      have hpos : X.length + A1.length = k := by omega
      have hru : (X ++ (A1 ++ (u :: (v :: A2 ++ (B ++ Z)))))[k]? = some u := by rw [List.getElem?_append_right (by omega), List.getElem?_append_right (by omega), show k - X.length - A1.length = 0 by omega]; rfl
      have hrv : (X ++ (A1 ++ (u :: (v :: A2 ++ (B ++ Z)))))[k + 1]? = some v := by rw [List.getElem?_append_right (by omega), List.getElem?_append_right (by omega), show k + 1 - X.length - A1.length = 1 by omega]; rfl
      obtain ⟨W', hrun, hrw, hgr⟩ := HO.out.swap wr _ k (k + 1) u v HA.out hru hrv
      have hbub := kbub X A1 u v (A2 ++ (B ++ Z))
      rw [hpos] at hbub
      rw [show (X ++ (A1 ++ (u :: (v :: A2 ++ (B ++ Z))))) = X ++ (A1 ++ (u :: v :: (A2 ++ (B ++ Z)))) from rfl, hbub] at hrw
      have l1 : wr.cell? ⟨gb, 1, none⟩ = some (.func (.func E.sf) #[] E.sb) := (blk_cell HX.out 1).trans rfl
      have HR5 := Aside0.mk hrw
      have HG5 := Aside0.mk (grown_grown HG.out hgr)
      have HX5 := Aside0.mk (grown_box HX.out hgr hne)
      have HL5 := Aside0.mk (show (A1 ++ [v]).length = k + 1 - a from by rw [List.length_append, List.length_singleton]; omega)
      have HA5 := Aside0.mk (show (A1 ++ [v]) ++ A2 = A from by rw [← HAA.out]; simp)
      clear hrw hgr hbub hX hL1 hpos HL1 HAA hru hrv
      have e1 : IntKind.i64.wrap ((k : Int) + 1) = (k : Int) + 1 := by rw [IntKind.wrap_i64]; omega
      push_cast at hrun
      go_wp2
      try rw [hrun, Oper.upon_value]
      try clear hrun
      try go_wp2
      go_roundw
      case rel => exact ⟨k + 1, A1 ++ [v], A2, by first | rfl | go_num | exact int_i64 (by omega), by omega, by omega, HL5, HA5, HR5, HG5, HX5⟩
      case measure => simp [intOf]; omega
    ·have hlt' : ¬ (k : Int) < (i : Int) - 1 := by omega
     have hA2 : A2 = [] := by
      have h1 := congrArg List.length HAA.out; have h2 := HL1.out; have h3 := HLA.out; have h4 := HM.out
      rw [List.length_append] at h1
      exact List.eq_nil_of_length_eq_zero (by omega)
     subst hA2
     have hAA := HAA.out
     rw [List.append_nil] at hAA
     have hfin := HA.out
     rw [hAA] at hfin
     have HF := Aside0.mk (show E.RW wr (X ++ ((A ++ u :: B) ++ Z)) from by simpa using hfin)
     clear hAA hfin HAA HL1
     go_wp2
     first | go_end0 | refine bodyPost_ret (results_none rfl _ _ _) rfl ?_
     exact ⟨rfl, by rw [HML.out]; exact HF.out, HG.out⟩
set_option maxHeartbeats 8000000 in
set_option maxRecDepth 100000 in
theorem symMergeF_right (E : SE) (O : E.Ok) (a m b : Nat) (X U Z : List S51) (v : S51) (w : World) (hr : E.RW w (X ++ (U ++ (v :: Z)))) (ha : a = X.length) (hm : m = X.length + U.length) (hb : b = X.length + U.length + 1) (hU1 : 1 < U.length) (hU : Srt E.key U) :
  Calls Try.prog 132 #[.agg #[.func (.func 86) #[] E.lb, .func (.func E.sf) #[] E.sb], .int .i64 a, .int .i64 m, .int .i64 b] w fun e w' => e = .returned (.tuple #[]) ∧ E.RW w' (X ++ (mrg E.key U [v] ++ Z)) ∧ w.grownBy w' (some E.g) := by
 have hu165 := Try.underlying165
 have HO := Aside0.mk O
 have hn := O.nb
 have hgw : E.g < w.heap.size := Nat.lt_of_lt_of_le O.gb hr.grown.size
 have HR := Aside0.mk hr
 have HUS := Aside0.mk hU
 have hxl := hr.len.symm
 obtain ⟨n, hnE⟩ : ∃ n, E.n = n := ⟨_, rfl⟩
 rw [hnE] at hxl hn
 have HNE := Aside0.mk hnE
 clear hnE O
 simp only [List.length_append, List.length_cons] at hxl
 have bm : a < n ∧ m < n ∧ b ≤ n ∧ a ≤ m := by omega
 obtain ⟨b1, b2, b3, b4⟩ := bm
 have hma : ((m : Int) - (a : Int) == 1) = false := by simp; omega
 have hbm : ((b : Int) - (m : Int) == 1) = true := by simp; omega
 have HM := Aside0.mk (And.intro (show m = a + U.length by omega) hxl)
 have HAL := Aside0.mk ha
 clear hr hU hxl hm ha hb hU1
 go_enter Try.func132, Try.ntmps132
 go_wp2_with (first | ((with_reducible refine gate_dst (N := 4) rfl ?_); refine box_event ?hg (N := 4) ?hd (cs := #[.func (.func 86) #[] E.lb, .func (.func E.sf) #[] E.sb]) (t := 165) ?hr ?_; (case hd => rfl); (case hg => rfl); (case hr => first | (go_simp; done) | (go_simp; rfl)); intro gb hgb wb hxb hbb; have HXB := Aside0.mk hxb; have HRB := Aside0.mk (HR.out.below hbb); have HGB := Aside0.mk (grown_of_below (g := E.g) hbb); have hne : gb ≠ E.g := (by omega); clear hgb hxb hbb HR))
 go_loopw [12, 13] (fun v12 v13 wr => ∃ (i j : Nat), v12 = .int .i64 (i : Int) ∧ v13 = .int .i64 (j : Int) ∧ a ≤ i ∧ i ≤ j ∧ j ≤ m ∧ Aside0 (∀ y ∈ U.take (i - a), E.key y ≤ E.key v) ∧ Aside0 (∀ y ∈ U.drop (j - a), E.key v < E.key y) ∧
  Aside0 (E.RW wr (X ++ (U ++ (v :: Z)))) ∧ Aside0 (w.grownBy wr (some E.g)) ∧ Aside0 (wr.heap[gb]? = some (.cells #[.func (.func 86) #[] E.lb, .func (.func E.sf) #[] E.sb] 165 (0, 0)))) (fun v12 v13 _ => (intOf v13).toNat - (intOf v12).toNat)
 case atStart => exact ⟨a, m, rfl, rfl, Nat.le_refl _, b4, Nat.le_refl _, ⟨by simp⟩, ⟨by rw [List.drop_eq_nil_of_le (by have := HM.out; omega)]; simp⟩, HRB, HGB, HXB⟩
 case round =>
  clear HRB HGB HXB
  obtain ⟨i, j, rfl, rfl, hi, hij, hj, HT, HD, HA, HG, HX⟩ := hrel
  by_cases hlt : i < j
  ·have hlt' : (i : Int) < j := by omega
   obtain ⟨h, hh⟩ : ∃ h, h = (i + j) / 2 := ⟨_, rfl⟩
   have hh1 : i ≤ h ∧ h < j := by omega
   have h3 : h - a < U.length := by have := HM.out; omega
   have hry := krow_at2 (R := v :: Z) HAL.out (Nat.le_trans hi hh1.1) h3
   have hrv : (X ++ (U ++ (v :: Z)))[m]? = some v := by rw [List.getElem?_append_right (by have := HAL.out; omega), List.getElem?_append_right (by have := HAL.out; have := HM.out; omega), show m - X.length - U.length = 0 by have := HAL.out; have := HM.out; omega]; rfl
   have ST := Aside0.mk (fun hl => ksrt_take2 HUS.out h3 (v := v) hl)
   have SD := Aside0.mk (fun hl => ksrt_drop2 HUS.out h3 (v := v) hl)
   generalize U[h - a] = y at *
   have HHH := Aside0.mk hh
   have c0 : (0 : Int) ≤ (i : Int) + (j : Int) := by omega
   have c1 : (i : Int) + (j : Int) ≤ 2000000000000 := by omega
   have hcc : ((i : Int) + (j : Int)) / 2 = (h : Int) := by omega
   have i3 : (m : Int) < n := by omega
   have hh2 : (i ≤ h ∧ h < j) := hh1
   clear hh hh1
   have hcall := HO.out.less wr _ m h _ _ HA.out hrv hry
   have l0 : wr.cell? ⟨gb, 0, none⟩ = some (.func (.func 86) #[] E.lb) := (blk_cell HX.out 0).trans rfl
   clear hry hrv
   by_cases hlt2 : E.key v < E.key y
   ·rw [decide_eq_true hlt2] at hcall
    have HSD := Aside0.mk (SD.out (by omega))
    clear hlt2 ST SD
    have HC := Aside0.mk hcall
    clear hcall
    go_wp2_with (go_at_call 86; refine HC.out.mono ?_; rintro e w4 ⟨rfl, hb4⟩; have HA4 := Aside0.mk (HA.out.below hb4); have HG4 := Aside0.mk (grown_below HG.out hb4); have HX4 := Aside0.mk (blk_below HX.out hb4); clear hb4)
    go_roundw
    case rel => exact ⟨i, h, rfl, by first | rfl | exact int_i64 (by have := HHH.out; omega), hi, by omega, by omega, HT, HSD, HA4, HG4, HX4⟩
    case measure => simp [intOf]; omega
   ·rw [decide_eq_false hlt2] at hcall
    have HST := Aside0.mk (ST.out (by omega))
    clear hlt2 ST SD
    have HC := Aside0.mk hcall
    clear hcall
    go_wp2_with (go_at_call 86; refine HC.out.mono ?_; rintro e w4 ⟨rfl, hb4⟩; have HA4 := Aside0.mk (HA.out.below hb4); have HG4 := Aside0.mk (grown_below HG.out hb4); have HX4 := Aside0.mk (blk_below HX.out hb4); clear hb4)
    go_roundw
    case rel => exact ⟨h + 1, j, by first | exact int_i64 (by have := HHH.out; omega) | go_num, rfl, by omega, by omega, hj, ⟨by rw [show h + 1 - a = h - a + 1 by omega]; exact HST.out⟩, HD, HA4, HG4, HX4⟩
    case measure => simp [intOf]; omega
  ·obtain rfl : i = j := by omega
   have hV1 : U.take (i - a) ++ U.drop (i - a) = U := List.take_append_drop _ U
   have hml : mrg E.key U [v] = U.take (i - a) ++ v :: U.drop (i - a) := by
    have := mrg_one_right E.key v (U.take (i - a)) (U.drop (i - a)) HT.out HD.out
    rw [hV1] at this
    exact this
   have HAa := HA.out
   rw [← hV1] at HAa
   have hlA : (U.take (i - a)).length = i - a := by rw [List.length_take]; have := HM.out; omega
   have hlB : (U.drop (i - a)).length = m - i := by rw [List.length_drop]; have := HM.out; omega
   have HA2 := Aside0.mk HAa
   have HLA := Aside0.mk (And.intro hlA hlB)
   have HML := Aside0.mk hml
   generalize U.take (i - a) = A at *
   generalize U.drop (i - a) = B at *
   obtain ⟨XA, hXA⟩ : ∃ XA, XA = X ++ A := ⟨_, rfl⟩
   have HLX := Aside0.mk (show XA.length = i from by rw [hXA, List.length_append]; have := HAL.out; omega)
   have HXA := Aside0.mk hXA
   clear HT HD HA HAa hlA hlB hV1 hml HUS hXA
   go_wp2
   obtain ⟨wo, hwo⟩ : ∃ wo : World, wo = wr := ⟨_, rfl⟩
   subst hwo
   go_loopw [15] (fun v15 w2 => ∃ (k : Nat) (B1 B2 : List S51), v15 = .int .i64 (k : Int) ∧ i ≤ k ∧ k ≤ m ∧ Aside0 (B1.length = k - i) ∧ Aside0 (B1 ++ B2 = B) ∧ Aside0 (E.RW w2 (XA ++ (B1 ++ (v :: (B2 ++ Z))))) ∧ Aside0 (w.grownBy w2 (some E.g)) ∧ Aside0 (w2.heap[gb]? = some (.cells #[.func (.func 86) #[] E.lb, .func (.func E.sf) #[] E.sb] 165 (0, 0)))) (fun v15 _ => (intOf v15).toNat - i)
   case atStart => exact ⟨m, B, [], rfl, by omega, Nat.le_refl _, ⟨by have := HLA.out; omega⟩, ⟨by simp⟩, ⟨by have := HA2.out; rw [HXA.out]; simpa using this⟩, HG, HX⟩
   case round =>
    clear HA2 HG HX
    obtain ⟨k, B1, B2, rfl, hk, hki, HL1, HAA, HA, HG, HX⟩ := hrel
    by_cases hk2 : i < k
    ·obtain ⟨B', y, hB'⟩ := snoc_of B1 Z4
     subst hB'
     have hlt' : (i : Int) < (k : Int) := by omega
     have hX := HAL.out
     have hL1 := HL1.out
     rw [List.length_append, List.length_singleton] at hL1
     have hLX := HLX.out
     have hpos : XA.length + B'.length + 1 = k := by omega
     have hrv : (XA ++ ((B' ++ [y]) ++ (v :: (B2 ++ Z))))[k]? = some v := by rw [List.getElem?_append_right (by omega), List.getElem?_append_right (by simp only [List.length_append, List.length_singleton]; omega), show k - XA.length - (B' ++ [y]).length = 0 by simp only [List.length_append, List.length_singleton]; omega]; rfl
     have hry : (XA ++ ((B' ++ [y]) ++ (v :: (B2 ++ Z))))[k - 1]? = some y := by rw [List.append_assoc, List.getElem?_append_right (by omega), List.getElem?_append_right (by omega), show k - 1 - XA.length - B'.length = 0 by omega]; rfl
     obtain ⟨k', hk'⟩ : ∃ k', k = k' + 1 := ⟨k - 1, by omega⟩
     subst hk'
     rw [Nat.add_sub_cancel] at hry
     obtain ⟨W', hrun, hrw, hgr⟩ := HO.out.swap wr _ (k' + 1) k' v y HA.out hrv hry
     have hbub := kbub2 XA B' y v (B2 ++ Z)
     rw [show XA.length + B'.length = k' by omega] at hbub
     rw [hbub] at hrw
     have l1 : wr.cell? ⟨gb, 1, none⟩ = some (.func (.func E.sf) #[] E.sb) := (blk_cell HX.out 1).trans rfl
     have HR5 := Aside0.mk hrw
     have HG5 := Aside0.mk (grown_grown HG.out hgr)
     have HX5 := Aside0.mk (grown_box HX.out hgr hne)
     have HL5 := Aside0.mk (show B'.length = k' - i from by omega)
     have HA5 := Aside0.mk (show B' ++ (y :: B2) = B from by rw [← HAA.out]; simp)
     clear hrw hgr hbub hX hL1 hLX hpos HL1 HAA hrv hry HA HG
     have e1 : IntKind.i64.wrap ((k' : Int) + 1 - 1) = (k' : Int) := by rw [IntKind.wrap_i64]; omega
     have i5 : (k' : Int) + 1 - 1 = (k' : Int) := by omega
     push_cast at hrun
     go_wp2
     try rw [hrun, Oper.upon_value]
     try clear hrun
     try go_wp2
     go_roundw
     case rel => exact ⟨k', B', y :: B2, by first | rfl | exact int_i64 (by omega), by omega, by omega, HL5, HA5, HR5, HG5, HX5⟩
     case measure => simp [intOf]; omega
    ·obtain rfl : i = k := by omega
     have hlt' : ¬ (i : Int) < (i : Int) := by omega
     have hB1 : B1 = [] := List.eq_nil_of_length_eq_zero Z4
     subst hB1
     have hAA := HAA.out
     rw [List.nil_append] at hAA
     have hfin := HA.out
     rw [hAA, HXA.out] at hfin
     have HF := Aside0.mk (show E.RW wr (X ++ ((A ++ v :: B) ++ Z)) from by simpa using hfin)
     clear hAA hfin HAA HL1
     go_wp2
     first | go_end0 | refine bodyPost_ret (results_none rfl _ _ _) rfl ?_
     exact ⟨rfl, by rw [HML.out]; exact HF.out, HG.out⟩
end Go.Proofs.Ytckhjehibjdjdaa.P
namespace Go.Proofs.Ytckhjehibjdjdaa.P
open Go.RowKit Go.Shelf Go.Proofs.YtckhjehibjdjdaaW.PrintWords Go.Proofs.YtckhjehibjdjdaaW.PrintLast Go.Proofs.YtckhjehibjdjdaaW.PrintMore
attribute [local go_sem] Oper.semAt_some
set_option linter.unusedVariables false
set_option linter.unusedSimpArgs false
def SymF (E : SE) (sz : Nat) : Prop := ∀ (a m b : Nat) (X U V Z : List S51) (w : World), U.length + V.length = sz → E.RW w (X ++ (U ++ (V ++ Z))) → a = X.length → m = X.length + U.length → b = X.length + U.length + V.length → 0 < U.length → 0 < V.length → Srt E.key U → Srt E.key V →
  Calls Try.prog 132 #[.agg #[.func (.func 86) #[] E.lb, .func (.func E.sf) #[] E.sb], .int .i64 a, .int .i64 m, .int .i64 b] w fun e w' => e = .returned (.tuple #[]) ∧ E.RW w' (X ++ (mrg E.key U V ++ Z)) ∧ w.grownBy w' (some E.g)
set_option maxHeartbeats 16000000 in
set_option maxRecDepth 100000 in
theorem symMergeF_gen (E : SE) (O : E.Ok) (sz : Nat) (IH : ∀ s, s < sz → SymF E s) (a m b : Nat) (X U V Z : List S51) (w : World) (hsz : U.length + V.length = sz) (hr : E.RW w (X ++ (U ++ (V ++ Z)))) (ha : a = X.length) (hm : m = X.length + U.length) (hb : b = X.length + U.length + V.length) (hU2 : 1 < U.length) (hV2 : 1 < V.length) (hU : Srt E.key U) (hV : Srt E.key V) :
  Calls Try.prog 132 #[.agg #[.func (.func 86) #[] E.lb, .func (.func E.sf) #[] E.sb], .int .i64 a, .int .i64 m, .int .i64 b] w fun e w' => e = .returned (.tuple #[]) ∧ E.RW w' (X ++ (mrg E.key U V ++ Z)) ∧ w.grownBy w' (some E.g) := by
 have hu165 := Try.underlying165
 have HO := Aside0.mk O
 have hn := O.nb
 have hgw : E.g < w.heap.size := Nat.lt_of_lt_of_le O.gb hr.grown.size
 have HR := Aside0.mk hr
 have HS := Aside0.mk (And.intro hU hV)
 have HIH := Aside0.mk IH
 have hxl := hr.len.symm
 obtain ⟨n, hnE⟩ : ∃ n, E.n = n := ⟨_, rfl⟩
 rw [hnE] at hxl hn
 have HNE := Aside0.mk hnE
 clear hnE O
 simp only [List.length_append] at hxl
 obtain ⟨mid, hmid⟩ : ∃ mid, mid = (a + b) / 2 := ⟨_, rfl⟩
 have bm : a + 1 < m ∧ m + 1 < b ∧ b ≤ n ∧ a < mid ∧ mid < b ∧ 2 * mid ≤ a + b ∧ a + b ≤ 2 * mid + 1 := by omega
 obtain ⟨b1, b2, b3, b4, b5, b6, b7⟩ := bm
 obtain ⟨lo, hi, hlh⟩ : ∃ lo hi : Nat, (mid < m ∧ lo + b = mid + m ∧ hi = mid) ∨ (¬ mid < m ∧ lo = a ∧ hi = m) := by
  by_cases h : mid < m
  ·exact ⟨mid + m - b, mid, .inl ⟨h, by omega, rfl⟩⟩
  ·exact ⟨a, m, .inr ⟨h, rfl, rfl⟩⟩
 have bl : a ≤ lo ∧ lo ≤ hi ∧ hi ≤ m ∧ hi ≤ mid ∧ mid + m ≤ lo + b := by omega
 obtain ⟨l1, l2, l3, l4, l5⟩ := bl
 have HLH := Aside0.mk hlh
 have hma : ((m : Int) - (a : Int) == 1) = false := by simp; omega
 have hbm : ((b : Int) - (m : Int) == 1) = false := by simp; omega
 have hmd : ((a : Int) + (b : Int)) / 2 = (mid : Int) := by omega
 have HLN := Aside0.mk (show X.length = a ∧ U.length = m - a ∧ V.length = b - m ∧ U.length + V.length = sz from by omega)
 clear hr hU hV hxl hm ha hb hU2 hV2 IH hsz hmid
 rcases hlh with ⟨q1, q2, q3⟩ | ⟨q1, q2, q3⟩
 ·have t1 : decide ((mid : Int) < (m : Int)) = true := by simp; omega
  have t2 : (mid : Int) + (m : Int) - (b : Int) = (lo : Int) := by omega
  have t3 : (mid : Int) < (m : Int) := by omega
  subst q3
  clear q2 t1
  go_enter Try.func132, Try.ntmps132
  go_wp2_with (first | ((with_reducible refine gate_dst (N := 4) rfl ?_); refine box_event ?hg (N := 4) ?hd (cs := #[.func (.func 86) #[] E.lb, .func (.func E.sf) #[] E.sb]) (t := 165) ?hr ?_; (case hd => rfl); (case hg => rfl); (case hr => first | (go_simp; done) | (go_simp; rfl)); intro gb hgb wb hxb hbb; have HXB := Aside0.mk hxb; have HRB := Aside0.mk (HR.out.below hbb); have HGB := Aside0.mk (grown_of_below (g := E.g) hbb); have hne : gb ≠ E.g := (by omega); clear hgb hxb hbb HR))
  go_loopw [18, 19] (fun v18 v19 wr => ∃ (s r : Nat), v18 = .int .i64 (s : Int) ∧ v19 = .int .i64 (r : Int) ∧ lo ≤ s ∧ s ≤ r ∧ r ≤ hi ∧ Aside0 (∀ c x y, lo ≤ c → c < s → U[c - a]? = some x → V[hi + m - 1 - c - m]? = some y → E.key x ≤ E.key y) ∧ Aside0 (∀ c x y, r ≤ c → c < hi → U[c - a]? = some x → V[hi + m - 1 - c - m]? = some y → E.key y < E.key x) ∧
   Aside0 (E.RW wr (X ++ (U ++ (V ++ Z)))) ∧ Aside0 (w.grownBy wr (some E.g)) ∧ Aside0 (wr.heap[gb]? = some (.cells #[.func (.func 86) #[] E.lb, .func (.func E.sf) #[] E.sb] 165 (0, 0)))) (fun v18 v19 _ => (intOf v19).toNat - (intOf v18).toNat)
  case atStart => exact ⟨lo, hi, rfl, rfl, Nat.le_refl _, l2, Nat.le_refl _, ⟨fun c x y h1 h2 => by omega⟩, ⟨fun c x y h1 h2 => by omega⟩, HRB, HGB, HXB⟩
  case round =>
   clear HRB HGB HXB
   obtain ⟨s, r, rfl, rfl, hls, hsr, hrh, HT, HD, HA, HG, HX⟩ := hrel
   by_cases hlt : s < r
   ·have hlt' : (s : Int) < r := by omega
    obtain ⟨c, hc⟩ : ∃ c, c = (s + r) / 2 := ⟨_, rfl⟩
    have hc1 : s ≤ c ∧ c < r := by omega
    obtain ⟨hc2, hc3⟩ := hc1
    obtain ⟨d, hd⟩ : ∃ d, d = hi + m - 1 - c := ⟨_, rfl⟩
    have hd1 : m ≤ d ∧ d < b := by omega
    have hxu : U[c - a]? = some _ := List.getElem?_eq_getElem (show c - a < U.length by have := HLN.out; omega)
    have hyv : V[d - m]? = some _ := List.getElem?_eq_getElem (show d - m < V.length by have := HLN.out; omega)
    generalize U[c - a]'_ = x at *
    generalize V[d - m]'_ = y at *
    have hrx : (X ++ (U ++ (V ++ Z)))[c]? = some x := by rw [List.getElem?_append_right Z7, List.getElem?_append_left Z7, show c - X.length = c - a by have := HLN.out; omega]; exact hxu
    have hry : (X ++ (U ++ (V ++ Z)))[d]? = some y := by rw [List.getElem?_append_right Z7, List.getElem?_append_right Z7, List.getElem?_append_left Z7, show d - X.length - U.length = d - m by have := HLN.out; omega]; exact hyv
    have HXU := Aside0.mk hxu
    have HYV := Aside0.mk hyv
    have HDD := Aside0.mk hd
    have hcc : ((s : Int) + (r : Int)) / 2 = (c : Int) := by omega
    have hdd : (hi : Int) + (m : Int) - 1 - (c : Int) = (d : Int) := by omega
    have hdw : IntKind.i64.wrap ((hi : Int) + (m : Int) - 1 - (c : Int)) = (d : Int) := by rw [IntKind.wrap_i64]; omega
    have hdw2 : IntKind.i64.wrap (d : Int) = (d : Int) := by rw [IntKind.wrap_i64]; omega
    have j0 : (c : Int) < n := by omega
    have j1 : (d : Int) < n := by omega
    have c0 : (0 : Int) ≤ (s : Int) + (r : Int) := by omega
    have c1 : (s : Int) + (r : Int) ≤ 2000000000000 := by omega
    clear hxu hyv hd hc
    have hcall := HO.out.less wr _ d c _ _ HA.out hry hrx
    have l0 : wr.cell? ⟨gb, 0, none⟩ = some (.func (.func 86) #[] E.lb) := (blk_cell HX.out 0).trans rfl
    clear hrx hry
    by_cases hlt2 : E.key y < E.key x
    ·rw [decide_eq_true hlt2] at hcall
     have HLT := Aside0.mk hlt2
     clear hlt2
     have HC := Aside0.mk hcall
     clear hcall
     go_wp2_with (go_at_call 86; refine HC.out.mono ?_; rintro e w4 ⟨rfl, hb4⟩; have HA4 := Aside0.mk (HA.out.below hb4); have HG4 := Aside0.mk (grown_below HG.out hb4); have HX4 := Aside0.mk (blk_below HX.out hb4); clear hb4)
     go_roundw
     case rel => exact ⟨s, c, rfl, by first | rfl | exact int_i64 (by omega), hls, hc2, by omega, HT, ⟨fun c' x' y' h1 h2 h3 h4 => by
      by_cases e : r ≤ c'
      ·exact HD.out c' x' y' e h2 h3 h4
      ·have k1 := ksrt_le HS.out.1 (i := c - a) (j := c' - a) (by omega) HXU.out h3
       have k2 := ksrt_le HS.out.2 (i := hi + m - 1 - c' - m) (j := d - m) (by have := HDD.out; omega) h4 HYV.out
       have := HLT.out
       omega⟩, HA4, HG4, HX4⟩
     case measure => simp [intOf]; omega
    ·rw [decide_eq_false hlt2] at hcall
     have HLT := Aside0.mk (show E.key x ≤ E.key y by omega)
     clear hlt2
     have HC := Aside0.mk hcall
     clear hcall
     go_wp2_with (go_at_call 86; refine HC.out.mono ?_; rintro e w4 ⟨rfl, hb4⟩; have HA4 := Aside0.mk (HA.out.below hb4); have HG4 := Aside0.mk (grown_below HG.out hb4); have HX4 := Aside0.mk (blk_below HX.out hb4); clear hb4)
     go_roundw
     case rel => exact ⟨c + 1, r, by first | exact int_i64 (by omega) | go_num, rfl, by omega, by omega, hrh, ⟨fun c' x' y' h1 h2 h3 h4 => by
      by_cases e : c' < s
      ·exact HT.out c' x' y' h1 e h3 h4
      ·have k1 := ksrt_le HS.out.1 (i := c' - a) (j := c - a) (by omega) h3 HXU.out
       have k2 := ksrt_le HS.out.2 (i := d - m) (j := hi + m - 1 - c' - m) (by have := HDD.out; omega) HYV.out h4
       have := HLT.out
       omega⟩, HD, HA4, HG4, HX4⟩
     case measure => simp [intOf]; omega
   ·obtain rfl : s = r := by omega
    obtain ⟨e, he⟩ : ∃ e, e = hi + m - s := ⟨_, rfl⟩
    have he1 : m ≤ e ∧ e ≤ b ∧ e + s = hi + m := by omega
    obtain ⟨e1, e2, e3⟩ := he1
    have h12 := ksplit12 HS.out.1 HS.out.2 (p := s - a) (q := e - m) Z7 (by
     by_cases h1 : s = a
     ·exact .inl (by omega)
     ·by_cases h2 : e = b
      ·exact .inr (.inl Z7)
      ·exact .inr (.inr fun x y hx hy => HT.out (s - 1) x y (by have := HLH.out; omega) (by omega) (by rw [show s - 1 - a = s - a - 1 by omega]; exact hx) (by rw [show hi + m - 1 - (s - 1) - m = e - m by omega]; exact hy)))
    have h21 := ksplit21 HS.out.1 HS.out.2 (p := s - a) (q := e - m) Z7 (by
     by_cases h1 : s = m
     ·exact .inl Z7
     ·by_cases h2 : e = m
      ·exact .inr (.inl (by omega))
      ·exact .inr (.inr fun x y hx hy => HD.out s x y (by omega) (by have := HLH.out; omega) hx (by rw [show hi + m - 1 - s - m = e - m - 1 by omega]; exact hy)))
    have hU1 : U.take (s - a) ++ U.drop (s - a) = U := List.take_append_drop _ U
    have hV1 : V.take (e - m) ++ V.drop (e - m) = V := List.take_append_drop _ V
    have hml := mrg_split E.key _ _ _ _ h12 h21
    rw [hU1, hV1] at hml
    have hS1 : Srt E.key (U.take (s - a)) ∧ Srt E.key (U.drop (s - a)) ∧ Srt E.key (V.take (e - m)) ∧ Srt E.key (V.drop (e - m)) := ⟨HS.out.1.sublist (List.take_sublist _ _), HS.out.1.sublist (List.drop_sublist _ _), HS.out.2.sublist (List.take_sublist _ _), HS.out.2.sublist (List.drop_sublist _ _)⟩
    have hl1 : (U.take (s - a)).length = s - a ∧ (U.drop (s - a)).length = m - s ∧ (V.take (e - m)).length = e - m ∧ (V.drop (e - m)).length = b - e := by
     rw [List.length_take, List.length_drop, List.length_take, List.length_drop]; have := HLN.out; omega
    have hA0 := HA.out
    rw [← hU1, ← hV1] at hA0
    have HML := Aside0.mk hml
    generalize U.take (s - a) = U1 at *
    generalize U.drop (s - a) = U2 at *
    generalize V.take (e - m) = V1 at *
    generalize V.drop (e - m) = V2 at *
    have HS1 := Aside0.mk hS1
    have HL1 := Aside0.mk hl1
    have HA0 := Aside0.mk (show E.RW wr (X ++ (U1 ++ (U2 ++ (V1 ++ (V2 ++ Z))))) from by simpa using hA0)
    have hcz0 : wr.cell? ⟨gb, 0, none⟩ = some (.func (.func 86) #[] E.lb) := (blk_cell HX.out 0).trans rfl
    have hcz1 : wr.cell? ⟨gb, 1, none⟩ = some (.func (.func E.sf) #[] E.sb) := (blk_cell HX.out 1).trans rfl
    have hfz0 := blk_frozen HX.out 0
    have hfz1 := blk_frozen HX.out 1
    have hen : (hi : Int) + (m : Int) - (s : Int) = (e : Int) := by omega
    have hbnd : a ≤ s ∧ s ≤ m ∧ s ≤ hi := by omega
    obtain ⟨n1, n2, n3⟩ := hbnd
    clear h12 h21 hU1 hV1 hml hS1 hl1 hA0 HA HT HD he
    have hcs : (a < s ∧ m < e ∧ s < m ∧ e < b) ∨ (a < s ∧ m < e ∧ s < m ∧ b ≤ e) ∨ (a < s ∧ m < e ∧ m ≤ s ∧ e < b) ∨ (a < s ∧ e ≤ m ∧ s < m ∧ e < b) ∨ (a < s ∧ e ≤ m ∧ m ≤ s ∧ e < b) ∨ (s ≤ a ∧ m < e ∧ s < m ∧ e < b) ∨ (s ≤ a ∧ m < e ∧ s < m ∧ b ≤ e) := by omega
    rcases hcs with ⟨k1, k2, k3, k4⟩ | ⟨k1, k2, k3, k4⟩ | ⟨k1, k2, k3, k4⟩ | ⟨k1, k2, k3, k4⟩ | ⟨k1, k2, k3, k4⟩ | ⟨k1, k2, k3, k4⟩ | ⟨k1, k2, k3, k4⟩
    ·have z1 : (s : Int) < (m : Int) := by omega
     have z2 : (m : Int) < (e : Int) := by omega
     have z3 : (a : Int) < (s : Int) := by omega
     have z4 : (s : Int) < (hi : Int) := by omega
     have z5 : (hi : Int) < (e : Int) := by omega
     have z6 : (e : Int) < (b : Int) := by omega
     have HRB := Aside0.mk (show E.RW wr ((X ++ U1) ++ (U2 ++ (V1 ++ (V2 ++ Z)))) from by simpa using HA0.out)
     go_wp2_with (go_at_call 137; refine (rotateF E HO.out s m e (X ++ U1) U2 V1 (V2 ++ Z) wr HRB.out Z3 Z3 Z3 Z4 Z4).mono ?_; rintro e' w5 ⟨rfl, hr5, hg5⟩; have HR5 := Aside0.mk (show E.RW w5 (X ++ (U1 ++ (V1 ++ (U2 ++ (V2 ++ Z))))) from by simpa using hr5); have HG5 := Aside0.mk (grown_grown HG.out hg5); have HX5 := Aside0.mk (grown_box HX.out hg5 hne); clear hr5 hg5 hcz0 hcz1 hfz0 hfz1; have hcz0 : w5.cell? ⟨gb, 0, none⟩ = some (.func (.func 86) #[] E.lb) := (blk_cell HX5.out 0).trans rfl; have hcz1 : w5.cell? ⟨gb, 1, none⟩ = some (.func (.func E.sf) #[] E.sb) := (blk_cell HX5.out 1).trans rfl; have hfz0 := blk_frozen HX5.out 0; have hfz1 := blk_frozen HX5.out 1)
     refine (HIH.out (U1.length + V1.length) Z10 a s hi X U1 V1 (U2 ++ (V2 ++ Z)) w5 rfl HR5.out Z7 Z9 Z9 Z4 Z4 HS1.out.1 HS1.out.2.2.1).mono ?_
     rintro e' w6 ⟨rfl, hr6, hg6⟩
     have HR6 := Aside0.mk hr6
     have HG6 := Aside0.mk (grown_grown HG5.out hg6)
     have HX6 := Aside0.mk (grown_box HX5.out hg6 hne)
     clear hr6 hg6 hcz0 hcz1 hfz0 hfz1
     have hcz0 : w6.cell? ⟨gb, 0, none⟩ = some (.func (.func 86) #[] E.lb) := (blk_cell HX6.out 0).trans rfl
     have hcz1 : w6.cell? ⟨gb, 1, none⟩ = some (.func (.func E.sf) #[] E.sb) := (blk_cell HX6.out 1).trans rfl
     have hfz0 := blk_frozen HX6.out 0
     have hfz1 := blk_frozen HX6.out 1
     go_wp2_with fail
     have HML1 := Aside0.mk (show (X ++ mrg E.key U1 V1).length = hi from by rw [List.length_append, mrg_length]; have := HLN.out; have := HL1.out; omega)
     have HR7 := Aside0.mk (show E.RW w6 ((X ++ mrg E.key U1 V1) ++ (U2 ++ (V2 ++ Z))) from by rw [List.append_assoc]; exact HR6.out)
     refine (HIH.out (U2.length + V2.length) Z10 hi e b (X ++ mrg E.key U1 V1) U2 V2 Z w6 rfl HR7.out (by have := HML1.out; omega) Z8 Z8 Z4 Z4 HS1.out.2.1 HS1.out.2.2.2).mono ?_
     rintro e' w7 ⟨rfl, hr7, hg7⟩
     have HR8 := Aside0.mk hr7
     have HG8 := Aside0.mk (grown_grown HG6.out hg7)
     clear hr7 hg7
     go_wp2_with fail
     go_end0
     exact ⟨rfl, by rw [HML.out]; have := HR8.out; simpa using this, HG8.out⟩
    ·have z1 : (s : Int) < (m : Int) := by omega
     have z2 : (m : Int) < (e : Int) := by omega
     have z3 : (a : Int) < (s : Int) := by omega
     have z4 : (s : Int) < (hi : Int) := by omega
     have z5 : (hi : Int) < (e : Int) := by omega
     have z6 : decide ((e : Int) < (b : Int)) = false := by simp; omega
     have HRB := Aside0.mk (show E.RW wr ((X ++ U1) ++ (U2 ++ (V1 ++ (V2 ++ Z)))) from by simpa using HA0.out)
     go_wp2_with (go_at_call 137; refine (rotateF E HO.out s m e (X ++ U1) U2 V1 (V2 ++ Z) wr HRB.out Z3 Z3 Z3 Z4 Z4).mono ?_; rintro e' w5 ⟨rfl, hr5, hg5⟩; have HR5 := Aside0.mk (show E.RW w5 (X ++ (U1 ++ (V1 ++ (U2 ++ (V2 ++ Z))))) from by simpa using hr5); have HG5 := Aside0.mk (grown_grown HG.out hg5); have HX5 := Aside0.mk (grown_box HX.out hg5 hne); clear hr5 hg5 hcz0 hcz1 hfz0 hfz1; have hcz0 : w5.cell? ⟨gb, 0, none⟩ = some (.func (.func 86) #[] E.lb) := (blk_cell HX5.out 0).trans rfl; have hcz1 : w5.cell? ⟨gb, 1, none⟩ = some (.func (.func E.sf) #[] E.sb) := (blk_cell HX5.out 1).trans rfl; have hfz0 := blk_frozen HX5.out 0; have hfz1 := blk_frozen HX5.out 1)
     refine (HIH.out (U1.length + V1.length) Z10 a s hi X U1 V1 (U2 ++ (V2 ++ Z)) w5 rfl HR5.out Z7 Z9 Z9 Z4 Z4 HS1.out.1 HS1.out.2.2.1).mono ?_
     rintro e' w6 ⟨rfl, hr6, hg6⟩
     have HR6 := Aside0.mk hr6
     have HG6 := Aside0.mk (grown_grown HG5.out hg6)
     have HX6 := Aside0.mk (grown_box HX5.out hg6 hne)
     clear hr6 hg6 hcz0 hcz1 hfz0 hfz1
     have hcz0 : w6.cell? ⟨gb, 0, none⟩ = some (.func (.func 86) #[] E.lb) := (blk_cell HX6.out 0).trans rfl
     have hcz1 : w6.cell? ⟨gb, 1, none⟩ = some (.func (.func E.sf) #[] E.sb) := (blk_cell HX6.out 1).trans rfl
     have hfz0 := blk_frozen HX6.out 0
     have hfz1 := blk_frozen HX6.out 1
     go_wp2_with fail
     have HML1 := Aside0.mk (show (X ++ mrg E.key U1 V1).length = hi from by rw [List.length_append, mrg_length]; have := HLN.out; have := HL1.out; omega)
     have HR7 := Aside0.mk (show E.RW w6 ((X ++ mrg E.key U1 V1) ++ (U2 ++ (V2 ++ Z))) from by rw [List.append_assoc]; exact HR6.out)
     have hem : V2 = [] := List.eq_nil_of_length_eq_zero Z4
     have HR8 := Aside0.mk (show E.RW w6 ((X ++ mrg E.key U1 V1) ++ (mrg E.key U2 V2 ++ Z)) from by have := HR7.out; rw [hem] at this ⊢; rw [mrg_nil_right]; simpa using this)
     have HG8 := HG6
     clear hem
     go_end0
     exact ⟨rfl, by rw [HML.out]; have := HR8.out; simpa using this, HG8.out⟩
    ·exfalso; omega
    ·have z1 : (s : Int) < (m : Int) := by omega
     have z2 : decide ((m : Int) < (e : Int)) = false := by simp; omega
     have z3 : (a : Int) < (s : Int) := by omega
     have z4 : decide ((s : Int) < (hi : Int)) = false := by simp; omega
     have z5 : (hi : Int) < (e : Int) := by omega
     have z6 : (e : Int) < (b : Int) := by omega
     have hem : V1 = [] := List.eq_nil_of_length_eq_zero Z4
     have HR5 := Aside0.mk (show E.RW wr (X ++ (U1 ++ (V1 ++ (U2 ++ (V2 ++ Z))))) from by have := HA0.out; rw [hem] at this ⊢; simpa using this)
     have HG5 := HG
     have HX5 := HX
     clear hem
     go_wp2_with fail
     have hem : V1 = [] := List.eq_nil_of_length_eq_zero Z4
     have HR6 := Aside0.mk (show E.RW wr (X ++ (mrg E.key U1 V1 ++ (U2 ++ (V2 ++ Z)))) from by have := HR5.out; rw [hem] at this ⊢; rw [mrg_nil_right]; simpa using this)
     have HG6 := HG5
     have HX6 := HX5
     clear hem
     have HML1 := Aside0.mk (show (X ++ mrg E.key U1 V1).length = hi from by rw [List.length_append, mrg_length]; have := HLN.out; have := HL1.out; omega)
     have HR7 := Aside0.mk (show E.RW wr ((X ++ mrg E.key U1 V1) ++ (U2 ++ (V2 ++ Z))) from by rw [List.append_assoc]; exact HR6.out)
     refine (HIH.out (U2.length + V2.length) Z10 hi e b (X ++ mrg E.key U1 V1) U2 V2 Z wr rfl HR7.out (by have := HML1.out; omega) Z8 Z8 Z4 Z4 HS1.out.2.1 HS1.out.2.2.2).mono ?_
     rintro e' w7 ⟨rfl, hr7, hg7⟩
     have HR8 := Aside0.mk hr7
     have HG8 := Aside0.mk (grown_grown HG6.out hg7)
     clear hr7 hg7
     go_wp2_with fail
     go_end0
     exact ⟨rfl, by rw [HML.out]; have := HR8.out; simpa using this, HG8.out⟩
    ·exfalso; omega
    ·exfalso; omega
    ·have z1 : (s : Int) < (m : Int) := by omega
     have z2 : (m : Int) < (e : Int) := by omega
     have z3 : decide ((a : Int) < (s : Int)) = false := by simp; omega
     have z4 : (s : Int) < (hi : Int) := by omega
     have z5 : (hi : Int) < (e : Int) := by omega
     have z6 : decide ((e : Int) < (b : Int)) = false := by simp; omega
     have HRB := Aside0.mk (show E.RW wr ((X ++ U1) ++ (U2 ++ (V1 ++ (V2 ++ Z)))) from by simpa using HA0.out)
     go_wp2_with (go_at_call 137; refine (rotateF E HO.out s m e (X ++ U1) U2 V1 (V2 ++ Z) wr HRB.out Z3 Z3 Z3 Z4 Z4).mono ?_; rintro e' w5 ⟨rfl, hr5, hg5⟩; have HR5 := Aside0.mk (show E.RW w5 (X ++ (U1 ++ (V1 ++ (U2 ++ (V2 ++ Z))))) from by simpa using hr5); have HG5 := Aside0.mk (grown_grown HG.out hg5); have HX5 := Aside0.mk (grown_box HX.out hg5 hne); clear hr5 hg5 hcz0 hcz1 hfz0 hfz1; have hcz0 : w5.cell? ⟨gb, 0, none⟩ = some (.func (.func 86) #[] E.lb) := (blk_cell HX5.out 0).trans rfl; have hcz1 : w5.cell? ⟨gb, 1, none⟩ = some (.func (.func E.sf) #[] E.sb) := (blk_cell HX5.out 1).trans rfl; have hfz0 := blk_frozen HX5.out 0; have hfz1 := blk_frozen HX5.out 1)
     have hem : U1 = [] := List.eq_nil_of_length_eq_zero Z4
     have HR6 := Aside0.mk (show E.RW w5 (X ++ (mrg E.key U1 V1 ++ (U2 ++ (V2 ++ Z)))) from by have := HR5.out; rw [hem] at this ⊢; rw [mrg_nil_left]; simpa using this)
     have HG6 := HG5
     have HX6 := HX5
     clear hem
     have HML1 := Aside0.mk (show (X ++ mrg E.key U1 V1).length = hi from by rw [List.length_append, mrg_length]; have := HLN.out; have := HL1.out; omega)
     have HR7 := Aside0.mk (show E.RW w5 ((X ++ mrg E.key U1 V1) ++ (U2 ++ (V2 ++ Z))) from by rw [List.append_assoc]; exact HR6.out)
     have hem : V2 = [] := List.eq_nil_of_length_eq_zero Z4
     have HR8 := Aside0.mk (show E.RW w5 ((X ++ mrg E.key U1 V1) ++ (mrg E.key U2 V2 ++ Z)) from by have := HR7.out; rw [hem] at this ⊢; rw [mrg_nil_right]; simpa using this)
     have HG8 := HG6
     clear hem
     go_end0
     exact ⟨rfl, by rw [HML.out]; have := HR8.out; simpa using this, HG8.out⟩
 ·have t1 : decide ((mid : Int) < (m : Int)) = false := by simp; omega
  subst q2 q3
  go_enter Try.func132, Try.ntmps132
  go_wp2_with (first | ((with_reducible refine gate_dst (N := 4) rfl ?_); refine box_event ?hg (N := 4) ?hd (cs := #[.func (.func 86) #[] E.lb, .func (.func E.sf) #[] E.sb]) (t := 165) ?hr ?_; (case hd => rfl); (case hg => rfl); (case hr => first | (go_simp; done) | (go_simp; rfl)); intro gb hgb wb hxb hbb; have HXB := Aside0.mk hxb; have HRB := Aside0.mk (HR.out.below hbb); have HGB := Aside0.mk (grown_of_below (g := E.g) hbb); have hne : gb ≠ E.g := (by omega); clear hgb hxb hbb HR))
  go_loopw [18, 19] (fun v18 v19 wr => ∃ (s r : Nat), v18 = .int .i64 (s : Int) ∧ v19 = .int .i64 (r : Int) ∧ lo ≤ s ∧ s ≤ r ∧ r ≤ hi ∧ Aside0 (∀ c x y, lo ≤ c → c < s → U[c - lo]? = some x → V[mid + hi - 1 - c - hi]? = some y → E.key x ≤ E.key y) ∧ Aside0 (∀ c x y, r ≤ c → c < hi → U[c - lo]? = some x → V[mid + hi - 1 - c - hi]? = some y → E.key y < E.key x) ∧
   Aside0 (E.RW wr (X ++ (U ++ (V ++ Z)))) ∧ Aside0 (w.grownBy wr (some E.g)) ∧ Aside0 (wr.heap[gb]? = some (.cells #[.func (.func 86) #[] E.lb, .func (.func E.sf) #[] E.sb] 165 (0, 0)))) (fun v18 v19 _ => (intOf v19).toNat - (intOf v18).toNat)
  case atStart => exact ⟨lo, hi, rfl, rfl, Nat.le_refl _, l2, Nat.le_refl _, ⟨fun c x y h1 h2 => by omega⟩, ⟨fun c x y h1 h2 => by omega⟩, HRB, HGB, HXB⟩
  case round =>
   clear HRB HGB HXB
   obtain ⟨s, r, rfl, rfl, hls, hsr, hrh, HT, HD, HA, HG, HX⟩ := hrel
   by_cases hlt : s < r
   ·have hlt' : (s : Int) < r := by omega
    obtain ⟨c, hc⟩ : ∃ c, c = (s + r) / 2 := ⟨_, rfl⟩
    have hc1 : s ≤ c ∧ c < r := by omega
    obtain ⟨hc2, hc3⟩ := hc1
    obtain ⟨d, hd⟩ : ∃ d, d = mid + hi - 1 - c := ⟨_, rfl⟩
    have hd1 : hi ≤ d ∧ d < b := by omega
    have hxu : U[c - lo]? = some _ := List.getElem?_eq_getElem (show c - lo < U.length by have := HLN.out; omega)
    have hyv : V[d - hi]? = some _ := List.getElem?_eq_getElem (show d - hi < V.length by have := HLN.out; omega)
    generalize U[c - lo]'_ = x at *
    generalize V[d - hi]'_ = y at *
    have hrx : (X ++ (U ++ (V ++ Z)))[c]? = some x := by rw [List.getElem?_append_right Z7, List.getElem?_append_left Z7, show c - X.length = c - lo by have := HLN.out; omega]; exact hxu
    have hry : (X ++ (U ++ (V ++ Z)))[d]? = some y := by rw [List.getElem?_append_right Z7, List.getElem?_append_right Z7, List.getElem?_append_left Z7, show d - X.length - U.length = d - hi by have := HLN.out; omega]; exact hyv
    have HXU := Aside0.mk hxu
    have HYV := Aside0.mk hyv
    have HDD := Aside0.mk hd
    have hcc : ((s : Int) + (r : Int)) / 2 = (c : Int) := by omega
    have hdd : (mid : Int) + (hi : Int) - 1 - (c : Int) = (d : Int) := by omega
    have hdw : IntKind.i64.wrap ((mid : Int) + (hi : Int) - 1 - (c : Int)) = (d : Int) := by rw [IntKind.wrap_i64]; omega
    have hdw2 : IntKind.i64.wrap (d : Int) = (d : Int) := by rw [IntKind.wrap_i64]; omega
    have j0 : (c : Int) < n := by omega
    have j1 : (d : Int) < n := by omega
    have c0 : (0 : Int) ≤ (s : Int) + (r : Int) := by omega
    have c1 : (s : Int) + (r : Int) ≤ 2000000000000 := by omega
    clear hxu hyv hd hc
    have hcall := HO.out.less wr _ d c _ _ HA.out hry hrx
    have l0 : wr.cell? ⟨gb, 0, none⟩ = some (.func (.func 86) #[] E.lb) := (blk_cell HX.out 0).trans rfl
    clear hrx hry
    by_cases hlt2 : E.key y < E.key x
    ·rw [decide_eq_true hlt2] at hcall
     have HLT := Aside0.mk hlt2
     clear hlt2
     have HC := Aside0.mk hcall
     clear hcall
     go_wp2_with (go_at_call 86; refine HC.out.mono ?_; rintro e w4 ⟨rfl, hb4⟩; have HA4 := Aside0.mk (HA.out.below hb4); have HG4 := Aside0.mk (grown_below HG.out hb4); have HX4 := Aside0.mk (blk_below HX.out hb4); clear hb4)
     go_roundw
     case rel => exact ⟨s, c, rfl, by first | rfl | exact int_i64 (by omega), hls, hc2, by omega, HT, ⟨fun c' x' y' h1 h2 h3 h4 => by
      by_cases e : r ≤ c'
      ·exact HD.out c' x' y' e h2 h3 h4
      ·have k1 := ksrt_le HS.out.1 (i := c - lo) (j := c' - lo) (by omega) HXU.out h3
       have k2 := ksrt_le HS.out.2 (i := mid + hi - 1 - c' - hi) (j := d - hi) (by have := HDD.out; omega) h4 HYV.out
       have := HLT.out
       omega⟩, HA4, HG4, HX4⟩
     case measure => simp [intOf]; omega
    ·rw [decide_eq_false hlt2] at hcall
     have HLT := Aside0.mk (show E.key x ≤ E.key y by omega)
     clear hlt2
     have HC := Aside0.mk hcall
     clear hcall
     go_wp2_with (go_at_call 86; refine HC.out.mono ?_; rintro e w4 ⟨rfl, hb4⟩; have HA4 := Aside0.mk (HA.out.below hb4); have HG4 := Aside0.mk (grown_below HG.out hb4); have HX4 := Aside0.mk (blk_below HX.out hb4); clear hb4)
     go_roundw
     case rel => exact ⟨c + 1, r, by first | exact int_i64 (by omega) | go_num, rfl, by omega, by omega, hrh, ⟨fun c' x' y' h1 h2 h3 h4 => by
      by_cases e : c' < s
      ·exact HT.out c' x' y' h1 e h3 h4
      ·have k1 := ksrt_le HS.out.1 (i := c' - lo) (j := c - lo) (by omega) h3 HXU.out
       have k2 := ksrt_le HS.out.2 (i := d - hi) (j := mid + hi - 1 - c' - hi) (by have := HDD.out; omega) HYV.out h4
       have := HLT.out
       omega⟩, HD, HA4, HG4, HX4⟩
     case measure => simp [intOf]; omega
   ·obtain rfl : s = r := by omega
    obtain ⟨e, he⟩ : ∃ e, e = mid + hi - s := ⟨_, rfl⟩
    have he1 : hi ≤ e ∧ e ≤ b ∧ e + s = mid + hi := by omega
    obtain ⟨e1, e2, e3⟩ := he1
    have h12 := ksplit12 HS.out.1 HS.out.2 (p := s - lo) (q := e - hi) Z7 (by
     by_cases h1 : s = lo
     ·exact .inl (by omega)
     ·by_cases h2 : e = b
      ·exact .inr (.inl Z7)
      ·exact .inr (.inr fun x y hx hy => HT.out (s - 1) x y (by have := HLH.out; omega) (by omega) (by rw [show s - 1 - lo = s - lo - 1 by omega]; exact hx) (by rw [show mid + hi - 1 - (s - 1) - hi = e - hi by omega]; exact hy)))
    have h21 := ksplit21 HS.out.1 HS.out.2 (p := s - lo) (q := e - hi) Z7 (by
     by_cases h1 : s = hi
     ·exact .inl Z7
     ·by_cases h2 : e = hi
      ·exact .inr (.inl (by omega))
      ·exact .inr (.inr fun x y hx hy => HD.out s x y (by omega) (by have := HLH.out; omega) hx (by rw [show mid + hi - 1 - s - hi = e - hi - 1 by omega]; exact hy)))
    have hU1 : U.take (s - lo) ++ U.drop (s - lo) = U := List.take_append_drop _ U
    have hV1 : V.take (e - hi) ++ V.drop (e - hi) = V := List.take_append_drop _ V
    have hml := mrg_split E.key _ _ _ _ h12 h21
    rw [hU1, hV1] at hml
    have hS1 : Srt E.key (U.take (s - lo)) ∧ Srt E.key (U.drop (s - lo)) ∧ Srt E.key (V.take (e - hi)) ∧ Srt E.key (V.drop (e - hi)) := ⟨HS.out.1.sublist (List.take_sublist _ _), HS.out.1.sublist (List.drop_sublist _ _), HS.out.2.sublist (List.take_sublist _ _), HS.out.2.sublist (List.drop_sublist _ _)⟩
    have hl1 : (U.take (s - lo)).length = s - lo ∧ (U.drop (s - lo)).length = hi - s ∧ (V.take (e - hi)).length = e - hi ∧ (V.drop (e - hi)).length = b - e := by
     rw [List.length_take, List.length_drop, List.length_take, List.length_drop]; have := HLN.out; omega
    have hA0 := HA.out
    rw [← hU1, ← hV1] at hA0
    have HML := Aside0.mk hml
    generalize U.take (s - lo) = U1 at *
    generalize U.drop (s - lo) = U2 at *
    generalize V.take (e - hi) = V1 at *
    generalize V.drop (e - hi) = V2 at *
    have HS1 := Aside0.mk hS1
    have HL1 := Aside0.mk hl1
    have HA0 := Aside0.mk (show E.RW wr (X ++ (U1 ++ (U2 ++ (V1 ++ (V2 ++ Z))))) from by simpa using hA0)
    have hcz0 : wr.cell? ⟨gb, 0, none⟩ = some (.func (.func 86) #[] E.lb) := (blk_cell HX.out 0).trans rfl
    have hcz1 : wr.cell? ⟨gb, 1, none⟩ = some (.func (.func E.sf) #[] E.sb) := (blk_cell HX.out 1).trans rfl
    have hfz0 := blk_frozen HX.out 0
    have hfz1 := blk_frozen HX.out 1
    have hen : (mid : Int) + (hi : Int) - (s : Int) = (e : Int) := by omega
    have hbnd : lo ≤ s ∧ s ≤ hi ∧ s ≤ mid := by omega
    obtain ⟨n1, n2, n3⟩ := hbnd
    clear h12 h21 hU1 hV1 hml hS1 hl1 hA0 HA HT HD he
    have hcs : (lo < s ∧ hi < e ∧ s < hi ∧ e < b) ∨ (lo < s ∧ hi < e ∧ s < hi ∧ b ≤ e) ∨ (lo < s ∧ hi < e ∧ hi ≤ s ∧ e < b) ∨ (lo < s ∧ e ≤ hi ∧ s < hi ∧ e < b) ∨ (lo < s ∧ e ≤ hi ∧ hi ≤ s ∧ e < b) ∨ (s ≤ lo ∧ hi < e ∧ s < hi ∧ e < b) ∨ (s ≤ lo ∧ hi < e ∧ s < hi ∧ b ≤ e) := by omega
    rcases hcs with ⟨k1, k2, k3, k4⟩ | ⟨k1, k2, k3, k4⟩ | ⟨k1, k2, k3, k4⟩ | ⟨k1, k2, k3, k4⟩ | ⟨k1, k2, k3, k4⟩ | ⟨k1, k2, k3, k4⟩ | ⟨k1, k2, k3, k4⟩
    ·have z1 : (s : Int) < (hi : Int) := by omega
     have z2 : (hi : Int) < (e : Int) := by omega
     have z3 : (lo : Int) < (s : Int) := by omega
     have z4 : (s : Int) < (mid : Int) := by omega
     have z5 : (mid : Int) < (e : Int) := by omega
     have z6 : (e : Int) < (b : Int) := by omega
     have HRB := Aside0.mk (show E.RW wr ((X ++ U1) ++ (U2 ++ (V1 ++ (V2 ++ Z)))) from by simpa using HA0.out)
     go_wp2_with (go_at_call 137; refine (rotateF E HO.out s hi e (X ++ U1) U2 V1 (V2 ++ Z) wr HRB.out Z3 Z3 Z3 Z4 Z4).mono ?_; rintro e' w5 ⟨rfl, hr5, hg5⟩; have HR5 := Aside0.mk (show E.RW w5 (X ++ (U1 ++ (V1 ++ (U2 ++ (V2 ++ Z))))) from by simpa using hr5); have HG5 := Aside0.mk (grown_grown HG.out hg5); have HX5 := Aside0.mk (grown_box HX.out hg5 hne); clear hr5 hg5 hcz0 hcz1 hfz0 hfz1; have hcz0 : w5.cell? ⟨gb, 0, none⟩ = some (.func (.func 86) #[] E.lb) := (blk_cell HX5.out 0).trans rfl; have hcz1 : w5.cell? ⟨gb, 1, none⟩ = some (.func (.func E.sf) #[] E.sb) := (blk_cell HX5.out 1).trans rfl; have hfz0 := blk_frozen HX5.out 0; have hfz1 := blk_frozen HX5.out 1)
     refine (HIH.out (U1.length + V1.length) Z10 lo s mid X U1 V1 (U2 ++ (V2 ++ Z)) w5 rfl HR5.out Z7 Z9 Z9 Z4 Z4 HS1.out.1 HS1.out.2.2.1).mono ?_
     rintro e' w6 ⟨rfl, hr6, hg6⟩
     have HR6 := Aside0.mk hr6
     have HG6 := Aside0.mk (grown_grown HG5.out hg6)
     have HX6 := Aside0.mk (grown_box HX5.out hg6 hne)
     clear hr6 hg6 hcz0 hcz1 hfz0 hfz1
     have hcz0 : w6.cell? ⟨gb, 0, none⟩ = some (.func (.func 86) #[] E.lb) := (blk_cell HX6.out 0).trans rfl
     have hcz1 : w6.cell? ⟨gb, 1, none⟩ = some (.func (.func E.sf) #[] E.sb) := (blk_cell HX6.out 1).trans rfl
     have hfz0 := blk_frozen HX6.out 0
     have hfz1 := blk_frozen HX6.out 1
     go_wp2_with fail
     have HML1 := Aside0.mk (show (X ++ mrg E.key U1 V1).length = mid from by rw [List.length_append, mrg_length]; have := HLN.out; have := HL1.out; omega)
     have HR7 := Aside0.mk (show E.RW w6 ((X ++ mrg E.key U1 V1) ++ (U2 ++ (V2 ++ Z))) from by rw [List.append_assoc]; exact HR6.out)
     refine (HIH.out (U2.length + V2.length) Z10 mid e b (X ++ mrg E.key U1 V1) U2 V2 Z w6 rfl HR7.out (by have := HML1.out; omega) Z8 Z8 Z4 Z4 HS1.out.2.1 HS1.out.2.2.2).mono ?_
     rintro e' w7 ⟨rfl, hr7, hg7⟩
     have HR8 := Aside0.mk hr7
     have HG8 := Aside0.mk (grown_grown HG6.out hg7)
     clear hr7 hg7
     go_wp2_with fail
     go_end0
     exact ⟨rfl, by rw [HML.out]; have := HR8.out; simpa using this, HG8.out⟩
    ·exfalso; omega
    ·have z1 : decide ((s : Int) < (hi : Int)) = false := by simp; omega
     have z2 : (hi : Int) < (e : Int) := by omega
     have z3 : (lo : Int) < (s : Int) := by omega
     have z4 : (s : Int) < (mid : Int) := by omega
     have z5 : decide ((mid : Int) < (e : Int)) = false := by simp; omega
     have z6 : (e : Int) < (b : Int) := by omega
     have hem : U2 = [] := List.eq_nil_of_length_eq_zero Z4
     have HR5 := Aside0.mk (show E.RW wr (X ++ (U1 ++ (V1 ++ (U2 ++ (V2 ++ Z))))) from by have := HA0.out; rw [hem] at this ⊢; simpa using this)
     have HG5 := HG
     have HX5 := HX
     clear hem
     go_wp2_with fail
     refine (HIH.out (U1.length + V1.length) Z10 lo s mid X U1 V1 (U2 ++ (V2 ++ Z)) wr rfl HR5.out Z7 Z9 Z9 Z4 Z4 HS1.out.1 HS1.out.2.2.1).mono ?_
     rintro e' w6 ⟨rfl, hr6, hg6⟩
     have HR6 := Aside0.mk hr6
     have HG6 := Aside0.mk (grown_grown HG5.out hg6)
     have HX6 := Aside0.mk (grown_box HX5.out hg6 hne)
     clear hr6 hg6 hcz0 hcz1 hfz0 hfz1
     have hcz0 : w6.cell? ⟨gb, 0, none⟩ = some (.func (.func 86) #[] E.lb) := (blk_cell HX6.out 0).trans rfl
     have hcz1 : w6.cell? ⟨gb, 1, none⟩ = some (.func (.func E.sf) #[] E.sb) := (blk_cell HX6.out 1).trans rfl
     have hfz0 := blk_frozen HX6.out 0
     have hfz1 := blk_frozen HX6.out 1
     go_wp2_with fail
     have HML1 := Aside0.mk (show (X ++ mrg E.key U1 V1).length = mid from by rw [List.length_append, mrg_length]; have := HLN.out; have := HL1.out; omega)
     have HR7 := Aside0.mk (show E.RW w6 ((X ++ mrg E.key U1 V1) ++ (U2 ++ (V2 ++ Z))) from by rw [List.append_assoc]; exact HR6.out)
     have hem : U2 = [] := List.eq_nil_of_length_eq_zero Z4
     have HR8 := Aside0.mk (show E.RW w6 ((X ++ mrg E.key U1 V1) ++ (mrg E.key U2 V2 ++ Z)) from by have := HR7.out; rw [hem] at this ⊢; rw [mrg_nil_left]; simpa using this)
     have HG8 := HG6
     clear hem
     go_end0
     exact ⟨rfl, by rw [HML.out]; have := HR8.out; simpa using this, HG8.out⟩
    ·exfalso; omega
    ·have z1 : decide ((s : Int) < (hi : Int)) = false := by simp; omega
     have z2 : decide ((hi : Int) < (e : Int)) = false := by simp; omega
     have z3 : (lo : Int) < (s : Int) := by omega
     have z4 : decide ((s : Int) < (mid : Int)) = false := by simp; omega
     have z5 : decide ((mid : Int) < (e : Int)) = false := by simp; omega
     have z6 : (e : Int) < (b : Int) := by omega
     have hem : U2 = [] := List.eq_nil_of_length_eq_zero Z4
     have HR5 := Aside0.mk (show E.RW wr (X ++ (U1 ++ (V1 ++ (U2 ++ (V2 ++ Z))))) from by have := HA0.out; rw [hem] at this ⊢; simpa using this)
     have HG5 := HG
     have HX5 := HX
     clear hem
     go_wp2_with fail
     have hem : V1 = [] := List.eq_nil_of_length_eq_zero Z4
     have HR6 := Aside0.mk (show E.RW wr (X ++ (mrg E.key U1 V1 ++ (U2 ++ (V2 ++ Z)))) from by have := HR5.out; rw [hem] at this ⊢; rw [mrg_nil_right]; simpa using this)
     have HG6 := HG5
     have HX6 := HX5
     clear hem
     have HML1 := Aside0.mk (show (X ++ mrg E.key U1 V1).length = mid from by rw [List.length_append, mrg_length]; have := HLN.out; have := HL1.out; omega)
     have HR7 := Aside0.mk (show E.RW wr ((X ++ mrg E.key U1 V1) ++ (U2 ++ (V2 ++ Z))) from by rw [List.append_assoc]; exact HR6.out)
     have hem : U2 = [] := List.eq_nil_of_length_eq_zero Z4
     have HR8 := Aside0.mk (show E.RW wr ((X ++ mrg E.key U1 V1) ++ (mrg E.key U2 V2 ++ Z)) from by have := HR7.out; rw [hem] at this ⊢; rw [mrg_nil_left]; simpa using this)
     have HG8 := HG6
     clear hem
     go_end0
     exact ⟨rfl, by rw [HML.out]; have := HR8.out; simpa using this, HG8.out⟩
    ·have z1 : (s : Int) < (hi : Int) := by omega
     have z2 : (hi : Int) < (e : Int) := by omega
     have z3 : decide ((lo : Int) < (s : Int)) = false := by simp; omega
     have z4 : (s : Int) < (mid : Int) := by omega
     have z5 : (mid : Int) < (e : Int) := by omega
     have z6 : (e : Int) < (b : Int) := by omega
     have HRB := Aside0.mk (show E.RW wr ((X ++ U1) ++ (U2 ++ (V1 ++ (V2 ++ Z)))) from by simpa using HA0.out)
     go_wp2_with (go_at_call 137; refine (rotateF E HO.out s hi e (X ++ U1) U2 V1 (V2 ++ Z) wr HRB.out Z3 Z3 Z3 Z4 Z4).mono ?_; rintro e' w5 ⟨rfl, hr5, hg5⟩; have HR5 := Aside0.mk (show E.RW w5 (X ++ (U1 ++ (V1 ++ (U2 ++ (V2 ++ Z))))) from by simpa using hr5); have HG5 := Aside0.mk (grown_grown HG.out hg5); have HX5 := Aside0.mk (grown_box HX.out hg5 hne); clear hr5 hg5 hcz0 hcz1 hfz0 hfz1; have hcz0 : w5.cell? ⟨gb, 0, none⟩ = some (.func (.func 86) #[] E.lb) := (blk_cell HX5.out 0).trans rfl; have hcz1 : w5.cell? ⟨gb, 1, none⟩ = some (.func (.func E.sf) #[] E.sb) := (blk_cell HX5.out 1).trans rfl; have hfz0 := blk_frozen HX5.out 0; have hfz1 := blk_frozen HX5.out 1)
     have hem : U1 = [] := List.eq_nil_of_length_eq_zero Z4
     have HR6 := Aside0.mk (show E.RW w5 (X ++ (mrg E.key U1 V1 ++ (U2 ++ (V2 ++ Z)))) from by have := HR5.out; rw [hem] at this ⊢; rw [mrg_nil_left]; simpa using this)
     have HG6 := HG5
     have HX6 := HX5
     clear hem
     have HML1 := Aside0.mk (show (X ++ mrg E.key U1 V1).length = mid from by rw [List.length_append, mrg_length]; have := HLN.out; have := HL1.out; omega)
     have HR7 := Aside0.mk (show E.RW w5 ((X ++ mrg E.key U1 V1) ++ (U2 ++ (V2 ++ Z))) from by rw [List.append_assoc]; exact HR6.out)
     refine (HIH.out (U2.length + V2.length) Z10 mid e b (X ++ mrg E.key U1 V1) U2 V2 Z w5 rfl HR7.out (by have := HML1.out; omega) Z8 Z8 Z4 Z4 HS1.out.2.1 HS1.out.2.2.2).mono ?_
     rintro e' w7 ⟨rfl, hr7, hg7⟩
     have HR8 := Aside0.mk hr7
     have HG8 := Aside0.mk (grown_grown HG6.out hg7)
     clear hr7 hg7
     go_wp2_with fail
     go_end0
     exact ⟨rfl, by rw [HML.out]; have := HR8.out; simpa using this, HG8.out⟩
    ·have z1 : (s : Int) < (hi : Int) := by omega
     have z2 : (hi : Int) < (e : Int) := by omega
     have z3 : decide ((lo : Int) < (s : Int)) = false := by simp; omega
     have z4 : (s : Int) < (mid : Int) := by omega
     have z5 : (mid : Int) < (e : Int) := by omega
     have z6 : decide ((e : Int) < (b : Int)) = false := by simp; omega
     have HRB := Aside0.mk (show E.RW wr ((X ++ U1) ++ (U2 ++ (V1 ++ (V2 ++ Z)))) from by simpa using HA0.out)
     go_wp2_with (go_at_call 137; refine (rotateF E HO.out s hi e (X ++ U1) U2 V1 (V2 ++ Z) wr HRB.out Z3 Z3 Z3 Z4 Z4).mono ?_; rintro e' w5 ⟨rfl, hr5, hg5⟩; have HR5 := Aside0.mk (show E.RW w5 (X ++ (U1 ++ (V1 ++ (U2 ++ (V2 ++ Z))))) from by simpa using hr5); have HG5 := Aside0.mk (grown_grown HG.out hg5); have HX5 := Aside0.mk (grown_box HX.out hg5 hne); clear hr5 hg5 hcz0 hcz1 hfz0 hfz1; have hcz0 : w5.cell? ⟨gb, 0, none⟩ = some (.func (.func 86) #[] E.lb) := (blk_cell HX5.out 0).trans rfl; have hcz1 : w5.cell? ⟨gb, 1, none⟩ = some (.func (.func E.sf) #[] E.sb) := (blk_cell HX5.out 1).trans rfl; have hfz0 := blk_frozen HX5.out 0; have hfz1 := blk_frozen HX5.out 1)
     have hem : U1 = [] := List.eq_nil_of_length_eq_zero Z4
     have HR6 := Aside0.mk (show E.RW w5 (X ++ (mrg E.key U1 V1 ++ (U2 ++ (V2 ++ Z)))) from by have := HR5.out; rw [hem] at this ⊢; rw [mrg_nil_left]; simpa using this)
     have HG6 := HG5
     have HX6 := HX5
     clear hem
     have HML1 := Aside0.mk (show (X ++ mrg E.key U1 V1).length = mid from by rw [List.length_append, mrg_length]; have := HLN.out; have := HL1.out; omega)
     have HR7 := Aside0.mk (show E.RW w5 ((X ++ mrg E.key U1 V1) ++ (U2 ++ (V2 ++ Z))) from by rw [List.append_assoc]; exact HR6.out)
     have hem : V2 = [] := List.eq_nil_of_length_eq_zero Z4
     have HR8 := Aside0.mk (show E.RW w5 ((X ++ mrg E.key U1 V1) ++ (mrg E.key U2 V2 ++ Z)) from by have := HR7.out; rw [hem] at this ⊢; rw [mrg_nil_right]; simpa using this)
     have HG8 := HG6
     clear hem
     go_end0
     exact ⟨rfl, by rw [HML.out]; have := HR8.out; simpa using this, HG8.out⟩
theorem symMergeF_any (E : SE) (O : E.Ok) : ∀ sz, SymF E sz := fun sz => by
 induction sz using Nat.strongRecOn with
 | ind sz IH =>
  intro a m b X U V Z w hsz hr ha hm hb hU0 hV0 hU hV
  by_cases h1 : U.length = 1
  ·obtain ⟨u, rfl⟩ := List.length_eq_one_iff.1 h1
   exact symMergeF_left E O a m b X V Z u w hr ha (by simpa using hm) (by simpa using hb) hV
  ·by_cases h2 : V.length = 1
   ·obtain ⟨v, rfl⟩ := List.length_eq_one_iff.1 h2
    exact symMergeF_right E O a m b X U Z v w hr ha hm (by simpa using hb) (by omega) hU
   ·exact symMergeF_gen E O sz IH a m b X U V Z w hsz hr ha hm hb (by omega) (by omega) hU hV
end Go.Proofs.Ytckhjehibjdjdaa.P
namespace Go.Proofs.Ytckhjehibjdjdaa.P
open Go.RowKit Go.Shelf Go.Proofs.YtckhjehibjdjdaaW.PrintWords Go.Proofs.YtckhjehibjdjdaaW.PrintLast Go.Proofs.YtckhjehibjdjdaaW.PrintMore
attribute [local go_sem] Oper.semAt_some
set_option linter.unusedVariables false
set_option linter.unusedSimpArgs false
theorem kpre_get (X l : List S51) {a i : Nat} (ha : a = X.length) (h : a ≤ i) : (X ++ l)[i]? = l[i - a]? := by
 rw [List.getElem?_append_right (by omega), ha]
theorem kpre_set (X l : List S51) {a i : Nat} (ha : a = X.length) (h : a ≤ i) (v : S51) : (X ++ l).set i v = X ++ l.set (i - a) v := by
 rw [List.set_append_right _ _ (by omega), ha]
set_option maxHeartbeats 8000000 in
set_option maxRecDepth 100000 in
theorem insertF_gen (E : SE) (O : E.Ok) (a b c : Nat) (X xs : List S51) (w : World) (hr : E.RW w (X ++ xs)) (ha : a = X.length) (hb : b = a + c) (hc : c ≤ xs.length) (h2 : 2 ≤ c) :
  Calls Try.prog 131 #[.agg #[.func (.func 86) #[] E.lb, .func (.func E.sf) #[] E.sb], .int .i64 a, .int .i64 b] w fun e w' => e = .returned (.tuple #[]) ∧ E.RW w' (X ++ (isort E.key (xs.take c) ++ xs.drop c)) ∧ w.grownBy w' (some E.g) := by
 have hu165 := Try.underlying165
 have HO := Aside0.mk O
 have hn := O.nb
 have hgw : E.g < w.heap.size := Nat.lt_of_lt_of_le O.gb hr.grown.size
 have HR := Aside0.mk hr
 have hxl := hr.len.symm
 obtain ⟨n, hnE⟩ : ∃ n, E.n = n := ⟨_, rfl⟩
 rw [hnE] at hxl hn
 have HNE := Aside0.mk hnE
 clear hnE O
 rw [List.length_append] at hxl
 have bb : a + 2 ≤ b ∧ b ≤ n := by omega
 obtain ⟨bb1, bb2⟩ := bb
 have HXL := Aside0.mk (show X.length = a ∧ a + xs.length = n ∧ b = a + c ∧ c ≤ xs.length from by omega)
 clear hr hxl ha hb hc h2
 go_enter Try.func131, Try.ntmps131
 go_wp2_with (first | ((with_reducible refine gate_dst (N := 3) rfl ?_); refine box_event ?hg (N := 3) ?hd (cs := #[.func (.func 86) #[] E.lb, .func (.func E.sf) #[] E.sb]) (t := 165) ?hr ?_; (case hd => rfl); (case hg => rfl); (case hr => first | (go_simp; done) | (go_simp; rfl)); intro gb hgb wb hxb hbb; have HXB := Aside0.mk hxb; have HRB := Aside0.mk (HR.out.below hbb); have HGB := Aside0.mk (grown_of_below (g := E.g) hbb); have hne : gb ≠ E.g := (by omega); clear hgb hxb hbb HR))
 go_loopw [6] (fun v6 wr => ∃ p : Nat, a + 1 ≤ p ∧ p ≤ b ∧ v6 = .int .i64 (p : Int) ∧ Aside0 (E.RW wr (X ++ (isort E.key (xs.take (p - a)) ++ xs.drop (p - a)))) ∧ Aside0 (w.grownBy wr (some E.g)) ∧ Aside0 (wr.heap[gb]? = some (.cells #[.func (.func 86) #[] E.lb, .func (.func E.sf) #[] E.sb] 165 (0, 0)))) (fun v6 _ => b - (intOf v6).toNat)
 case atStart => exact ⟨a + 1, Nat.le_refl _, by omega, by go_num, ⟨by
  have : isort E.key (xs.take (a + 1 - a)) ++ xs.drop (a + 1 - a) = xs := by
   rw [show a + 1 - a = 1 by omega]
   cases xs with
   | nil => rfl
   | cons x xs => simp [isort, insK]
  rw [this]; exact HRB.out⟩, HGB, HXB⟩
 case round =>
  clear HRB HGB HXB
  obtain ⟨p, hi1, hib, rfl, HA, HG, HX⟩ := hrel
  by_cases hlt : p < b
  ·have hlt' : (p : Int) < b := by omega
   obtain ⟨i, hpi⟩ : ∃ i, i = p - a := ⟨_, rfl⟩
   have hix : i < xs.length := by have := HXL.out; omega
   have hLl : (isort E.key (xs.take i)).length = i := by rw [(isort_perm E.key _).length_eq, List.length_take]; omega
   have hz : isort E.key (xs.take i) ++ xs.drop i = zAt (isort E.key (xs.take i)) xs[i] (xs.drop (i + 1)) i := by
    unfold zAt
    have t1 : (isort E.key (xs.take i)).take i = isort E.key (xs.take i) := List.take_of_length_le (by omega)
    have t2 : (isort E.key (xs.take i)).drop i = [] := List.drop_eq_nil_of_le (by omega)
    rw [t1, t2, List.nil_append, List.drop_eq_getElem_cons hix]
   have hstep := isort_take E.key xs i hix
   have hsrt := isort_sorted E.key (xs.take i)
   rw [← hpi, hz] at HA
   have hrl : (xs.drop (i + 1)).length = xs.length - (i + 1) := List.length_drop
   clear hz
   have HST := Aside0.mk hstep
   have HPI := Aside0.mk (And.intro hpi (show p + 1 - a = i + 1 by omega))
   clear hstep
   generalize hL : isort E.key (xs.take i) = L at *
   generalize hx : xs[i] = x at *
   generalize hre : xs.drop (i + 1) = rest at *
   have HSRT := Aside0.mk hsrt
   have HRE := Aside0.mk hre
   have HLL := Aside0.mk (show L.length = i ∧ a + i + 1 + rest.length = n ∧ i + a = p from by have := HXL.out; omega)
   clear hsrt hL hx hre hpi hLl hrl
   go_wp2
   obtain ⟨wo, hwo⟩ : ∃ wo : World, wo = wr := ⟨_, rfl⟩
   subst hwo
   go_loopg [7] p (fun kq v7 w2 => ∃ q : Nat, a ≤ q ∧ q ≤ p ∧ v7 = .int .i64 (q : Int) ∧ Aside0 (kq = q) ∧ Aside0 (∀ y ∈ L.drop (q - a), E.key x < E.key y) ∧ Aside0 (E.RW w2 (X ++ zAt L x rest (q - a))) ∧ Aside0 (w.grownBy w2 (some E.g)) ∧ Aside0 (w2.heap[gb]? = some (.cells #[.func (.func 86) #[] E.lb, .func (.func E.sf) #[] E.sb] 165 (0, 0))))
   case atStart => exact ⟨p, by omega, Nat.le_refl _, rfl, ⟨rfl⟩, ⟨fun y hy => by rw [List.drop_eq_nil_of_le (by have := HLL.out; omega)] at hy; cases hy⟩, ⟨by rw [← HPI.out.1]; exact HA.out⟩, HG, HX⟩
   case round =>
    clear HA HG HX
    obtain ⟨q, hqa, hj, rfl, HQ, HD, HA, HG, HX⟩ := hrel
    by_cases hq0 : q ≤ a
    ·have hqe : q - a = 0 := by omega
     have hdone : X ++ (isort E.key (xs.take (p + 1 - a)) ++ xs.drop (p + 1 - a)) = X ++ zAt L x rest (q - a) := by
      have hd := HD.out
      rw [hqe] at hd ⊢
      rw [HPI.out.2, HST.out, HRE.out, insK_at E.key x L 0 (by simp) hd]
      simp [zAt]
     rw [← hdone] at HA
     have hd1 : decide ((a : Int) < (q : Int)) = false := by simp; omega
     have hd2 : decide (a < q) = false := by simp; omega
     clear hdone hqe
     go_wp2
     go_roundw
     case rel => exact ⟨p + 1, by omega, by omega, by go_num, HA, HG, HX⟩
     case measure => simp [intOf]; omega
    ·obtain ⟨m, rfl⟩ : ∃ m, q = m + 1 := ⟨q - 1, by omega⟩
     have hm : m - a < L.length := by have := HLL.out; omega
     have hxp : (X ++ zAt L x rest (m + 1 - a))[m + 1]? = some x := by
      rw [kpre_get X _ HXL.out.1.symm (by omega)]; exact zAt_get L x rest (m + 1 - a) (by omega)
     have hyp : (X ++ zAt L x rest (m + 1 - a))[m]? = some L[m - a] := by
      rw [kpre_get X _ HXL.out.1.symm (by omega), show m + 1 - a = m - a + 1 by omega]; exact zAt_get1 L x rest (m - a) hm
     have hzs : ((X ++ zAt L x rest (m + 1 - a)).set (m + 1) L[m - a]).set m x = X ++ zAt L x rest (m - a) := by
      rw [kpre_set X _ HXL.out.1.symm (by omega), kpre_set X _ HXL.out.1.symm (by omega), show m + 1 - a = m - a + 1 by omega, zAt_step L x rest (m - a) hm]
     have hd := List.drop_eq_getElem_cons hm
     have ht := List.take_succ_eq_append_getElem hm
     generalize L[m - a] = y at *
     have HZS := Aside0.mk hzs
     have HXP := Aside0.mk hxp
     have HYP := Aside0.mk hyp
     have HDR := Aside0.mk hd
     have HTK := Aside0.mk ht
     clear hzs hd ht hxp hyp
     have e1 : IntKind.i64.wrap (m : Int) = (m : Int) := by rw [IntKind.wrap_i64]; omega
     have i0 : (0 : Int) ≤ (m : Int) + 1 := by omega
     have i1 : (a : Int) < (m : Int) + 1 := by omega
     have i2 : (m : Int) + 1 < n := by omega
     have i3 : (m : Int) < n := by omega
     have i4 : ((m : Int) + 1).toNat = m + 1 := by omega
     have hcall := HO.out.less wr _ (m + 1) m x y HA.out HXP.out HYP.out
     have l0 : wr.cell? ⟨gb, 0, none⟩ = some (.func (.func 86) #[] E.lb) := (blk_cell HX.out 0).trans rfl
     have i5 : (m : Int) + 1 - 1 = (m : Int) := by omega
     have i6 : IntKind.i64.wrap ((m : Int) + 1 - 1) = (m : Int) := by rw [IntKind.wrap_i64]; omega
     push_cast at hcall
     by_cases hlt2 : E.key x < E.key y
     ·rw [decide_eq_true hlt2] at hcall
      have HLT := Aside0.mk hlt2
      have HC := Aside0.mk hcall
      clear hlt2 hcall
      go_wp2_with (go_at_call 86; refine HC.out.mono ?_; rintro e w4 ⟨rfl, hb4⟩; have HA4 := Aside0.mk (HA.out.below hb4); have HG4 := Aside0.mk (grown_below HG.out hb4); have HX4 := Aside0.mk (blk_below HX.out hb4); clear hb4; have l1 : w4.cell? ⟨gb, 1, none⟩ = some (.func (.func E.sf) #[] E.sb) := (blk_cell HX4.out 1).trans rfl)
      obtain ⟨W', hrun, hrw, hgr⟩ := HO.out.swap w4 _ (m + 1) m x y HA4.out HXP.out HYP.out
      rw [HZS.out] at hrw
      push_cast at hrun
      have HR5 := Aside0.mk hrw
      have HG5 := Aside0.mk (grown_grown HG4.out hgr)
      have HX5 := Aside0.mk (grown_box HX4.out hgr hne)
      clear hrw hgr
      try rw [hrun, Oper.upon_value]
      try clear hrun
      go_wp2
      go_roundg m
      case rel => exact ⟨m, by omega, by omega, rfl, ⟨rfl⟩, ⟨fun z hz => by
       rw [HDR.out] at hz
       rcases List.mem_cons.1 hz with rfl | hz
       ·exact HLT.out
       ·exact HD.out z (by rw [show m + 1 - a = m - a + 1 by omega]; exact hz)⟩, HR5, HG5, HX5⟩
      case measure => have := HQ.out; omega
     ·rw [decide_eq_false hlt2] at hcall
      have HLT := Aside0.mk hlt2
      have HC := Aside0.mk hcall
      clear hlt2 hcall
      go_wp2_with (go_at_call 86; refine HC.out.mono ?_; rintro e w4 ⟨rfl, hb4⟩; have HA4 := Aside0.mk (HA.out.below hb4); have HG4 := Aside0.mk (grown_below HG.out hb4); have HX4 := Aside0.mk (blk_below HX.out hb4); clear hb4)
      have hdone : X ++ (isort E.key (xs.take (p + 1 - a)) ++ xs.drop (p + 1 - a)) = X ++ zAt L x rest (m + 1 - a) := by
       have hd := HD.out
       rw [show m + 1 - a = m - a + 1 by omega] at hd ⊢
       rw [HPI.out.2, HST.out, HRE.out, insK_at E.key x L (m - a + 1) (fun z hz => by
        rw [HTK.out] at hz
        have hp := HSRT.out
        rw [← List.take_append_drop (m - a) L, List.pairwise_append] at hp
        rcases List.mem_append.1 hz with hz | hz
        ·have := hp.2.2 z hz y (by rw [HDR.out]; simp)
         have := HLT.out
         omega
        ·obtain rfl := List.mem_singleton.1 hz
         have := HLT.out
         omega) hd]
       simp [zAt]
      rw [← hdone] at HA4
      clear hdone
      go_roundw
      case rel => exact ⟨p + 1, by omega, by omega, by go_num, HA4, HG4, HX4⟩
      case measure => simp [intOf]; omega
  ·have hlt' : ¬ (p : Int) < b := by omega
   obtain rfl : p = b := by omega
   have hpc : p - a = c := by have := HXL.out; omega
   rw [hpc] at HA
   go_wp2
   go_end0
   exact ⟨rfl, HA.out, HG.out⟩
set_option maxHeartbeats 4000000 in
theorem insertF_none (E : SE) (a b : Nat) (hb : b ≤ a + 1) (ha : a ≤ 4611686018427387904) (w : World) :
  Calls Try.prog 131 #[.agg #[.func (.func 86) #[] E.lb, .func (.func E.sf) #[] E.sb], .int .i64 a, .int .i64 b] w fun e w' => e = .returned (.tuple #[]) ∧ Below w.heap.size w w' := by
 have hu165 := Try.underlying165
 go_enter Try.func131, Try.ntmps131
 go_wp2_with (first | ((with_reducible refine gate_dst (N := 3) rfl ?_); refine box_event ?hg (N := 3) ?hd (cs := #[.func (.func 86) #[] E.lb, .func (.func E.sf) #[] E.sb]) (t := 165) ?hr ?_; (case hd => rfl); (case hg => rfl); (case hr => first | (go_simp; done) | (go_simp; rfl)); intro gb hgb wb hxb hbb; have HBB := Aside0.mk hbb; clear hgb hxb hbb))
 refine wp_loop_rounds 1 ?_
 rw [rounds_succ]
 have e1 : ¬ (a : Int) + 1 < (b : Int) := by omega
 try go_wp2
 go_end0
 exact ⟨rfl, HBB.out⟩
theorem insertF_part (E : SE) (O : E.Ok) (a b c : Nat) (X xs : List S51) (w : World) (hr : E.RW w (X ++ xs)) (ha : a = X.length) (hb : b = a + c) (hc : c ≤ xs.length) :
  Calls Try.prog 131 #[.agg #[.func (.func 86) #[] E.lb, .func (.func E.sf) #[] E.sb], .int .i64 a, .int .i64 b] w fun e w' => e = .returned (.tuple #[]) ∧ E.RW w' (X ++ (isort E.key (xs.take c) ++ xs.drop c)) ∧ w.grownBy w' (some E.g) := by
 by_cases h2 : 2 ≤ c
 ·exact insertF_gen E O a b c X xs w hr ha hb hc h2
 ·have hl := hr.len
  have hn := O.nb
  rw [List.length_append] at hl
  refine (insertF_none E a b (by omega) (by omega) w).mono ?_
  rintro e w' ⟨rfl, hbl⟩
  rw [isort_one E.key (xs.take c) (by rw [List.length_take]; omega), List.take_append_drop]
  exact ⟨rfl, hr.below hbl, grown_of_below hbl⟩
end Go.Proofs.Ytckhjehibjdjdaa.P
namespace Go.Proofs.Ytckhjehibjdjdaa.P
set_option linter.unusedVariables false
set_option linter.unusedSimpArgs false
section
variable {α : Type} (key : α → Int)
def sp (bs : Nat) : Nat → List α → List α
 | 0, _ => []
 | k + 1, l => isort key (l.take bs) ++ sp bs k (l.drop bs)
def sc (bs : Nat) (l : List α) : List α := sp key bs (l.length / bs) l ++ isort key (l.drop (bs * (l.length / bs)))
theorem isort_len (l : List α) : (isort key l).length = l.length := (isort_perm key l).length_eq
theorem sp_len (bs : Nat) : ∀ (k : Nat) (l : List α), bs * k ≤ l.length → (sp key bs k l).length = bs * k
 | 0, _, _ => by simp [sp]
 | k + 1, l, h => by
  rw [Nat.mul_succ] at h ⊢
  rw [sp, List.length_append, isort_len, List.length_take, sp_len bs k (l.drop bs) (by rw [List.length_drop]; omega)]
  omega
theorem sp_snoc (bs : Nat) : ∀ (k : Nat) (l : List α), sp key bs (k + 1) l = sp key bs k l ++ isort key ((l.drop (bs * k)).take bs)
 | 0, l => by simp [sp]
 | k + 1, l => by
  have e : (l.drop bs).drop (bs * k) = l.drop (bs * (k + 1)) := by rw [List.drop_drop]; congr 1; rw [Nat.mul_succ]; omega
  rw [sp, sp_snoc bs k (l.drop bs), sp, e, List.append_assoc]
theorem sc_small (bs : Nat) (l : List α) (h0 : 0 < bs) (h : l.length ≤ bs) : sc key bs l = isort key l := by
 unfold sc
 by_cases e : l.length = bs
 ·rw [e, Nat.div_self h0, sp, sp, List.take_of_length_le (by omega), List.drop_eq_nil_of_le (by omega)]
  simp [isort]
 ·rw [Nat.div_eq_of_lt (by omega)]; simp [sp]
theorem sc_cons (bs : Nat) (l : List α) (h0 : 0 < bs) (h : bs ≤ l.length) : sc key bs l = isort key (l.take bs) ++ sc key bs (l.drop bs) := by
 have e : l.length / bs = (l.drop bs).length / bs + 1 := by
  rw [List.length_drop]
  have : l.length = (l.length - bs) + bs := by omega
  rw [this, Nat.add_div_right _ h0]; simp
 have e2 : l.drop (bs * ((l.drop bs).length / bs + 1)) = (l.drop bs).drop (bs * ((l.drop bs).length / bs)) := by
  rw [List.drop_drop]; congr 1; rw [Nat.mul_succ]; omega
 unfold sc
 rw [e, sp, List.append_assoc, e2]
theorem sc_two (bs : Nat) (l : List α) (h0 : 0 < bs) (h : 2 * bs ≤ l.length) : sc key bs l = isort key (l.take bs) ++ (isort key ((l.drop bs).take bs) ++ sc key bs (l.drop (2 * bs))) := by
 rw [sc_cons key bs l h0 (by omega), sc_cons key bs (l.drop bs) h0 (by rw [List.length_drop]; omega), List.drop_drop, show bs + bs = 2 * bs by omega]
theorem take_two (bs : Nat) (l : List α) : l.take (2 * bs) = l.take bs ++ (l.drop bs).take bs := by
 rw [show 2 * bs = bs + bs by omega, List.take_add]
theorem sc_part (bs : Nat) (l : List α) (h0 : 0 < bs) (h1 : bs ≤ l.length) (h2 : l.length < 2 * bs) : sc key bs l = isort key (l.take bs) ++ isort key (l.drop bs) := by
 rw [sc_cons key bs l h0 h1, sc_small key bs (l.drop bs) h0 (by rw [List.length_drop]; omega)]
end
end Go.Proofs.Ytckhjehibjdjdaa.P
