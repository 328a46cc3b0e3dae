/- ElasticMost: part 1 of the walk and of the plain law that it comes to. No condition. -/
import Derived.Test.YtckhjehibjdjdaaZElasticMost0
import Derived.ArgAppend
import Derived.Below
import Derived.BigQuiet
import Derived.Deep.AppendLies
import Derived.Deep.CutBlock
import Derived.Deep.DeepCutAuto
import Derived.Deep.Draws
import Derived.Deep.LoopGhost
import Derived.Deep.OwnRows
import Derived.Deep.QuietTactic
import Derived.Deep.RegionHeld3
import Derived.KernelRfl
import Derived.Laws.BitsLemmas
import Derived.Laws.BytesArg
import Derived.Laws.IdiomCopy
import Derived.Laws.MakeOwn
import Derived.Laws.OwnMore
import Derived.Laws.Rows
import Derived.Laws.Slices
import Derived.Lib.AppendStr
import Derived.Lib.ConvBytes
import Derived.Maps.AppendAt
import Derived.OrdersHeld
import Derived.OwnWalk
import Derived.RowKit
import Derived.RowKit3
import Derived.Tactics
import Derived.WalkKit
import Derived.WideLaws
namespace Go.Proofs.YtckhjehibjdjdaaW.PrintWords
theorem here_ : True := trivial
end Go.Proofs.YtckhjehibjdjdaaW.PrintWords
namespace Go.Proofs.YtckhjehibjdjdaaW.PrintLast
theorem here_ : True := trivial
end Go.Proofs.YtckhjehibjdjdaaW.PrintLast
namespace Go.Proofs.YtckhjehibjdjdaaW.PrintMore
theorem here_ : True := trivial
end Go.Proofs.YtckhjehibjdjdaaW.PrintMore
namespace Go.Proofs.Ytckhjehibjdjdaa
theorem here_ : True := trivial
end Go.Proofs.Ytckhjehibjdjdaa
namespace Go.Proofs.Ytckhjehibjdjdaa.Bits
theorem here_ : True := trivial
end Go.Proofs.Ytckhjehibjdjdaa.Bits
namespace Go.Proofs.Ytckhjehibjdjdaa.Mp
theorem here_ : True := trivial
end Go.Proofs.Ytckhjehibjdjdaa.Mp
namespace Go.Proofs.Ytckhjehibjdjdaa.Ob
theorem here_ : True := trivial
end Go.Proofs.Ytckhjehibjdjdaa.Ob
namespace Go.Proofs.Ytckhjehibjdjdaa.P
theorem here_ : True := trivial
end Go.Proofs.Ytckhjehibjdjdaa.P
namespace Go.Proofs.Ytckhjehibjdjdaa.RF
theorem here_ : True := trivial
end Go.Proofs.Ytckhjehibjdjdaa.RF
namespace Go.Proofs.Ytckhjehibjdjdaa.elasticMost
theorem here_ : True := trivial
end Go.Proofs.Ytckhjehibjdjdaa.elasticMost
namespace Go.Proofs.Ytckhjehibjdjdaa.row0
theorem here_ : True := trivial
end Go.Proofs.Ytckhjehibjdjdaa.row0
namespace Go.Proofs.Ytckhjehibjdjdaa
set_option linter.unusedVariables false
section
open Go.RowKit Go.Proofs.YtckhjehibjdjdaaW.PrintWords Go.Proofs.YtckhjehibjdjdaaW.PrintLast Go.Proofs.YtckhjehibjdjdaaW.PrintMore
def bl : Nat → Nat → List Bool
 | 0, _ => []
 | n + 1, x => (x % 2 == 1) :: bl n (x / 2)
def bm (n x : Nat) : Array Bool := ⟨bl n x⟩
theorem pu {P : Program} {md : Region.Mode} {ops : Array Oper} {Q : Exit → Act → World → Prop} {S : World → Prop} {ds : List Nat} (i : Nat) (N : Option Tmp) (l' : Array Bool) {oi : Oper} {v : Value} {fuel : Nat} {l : Array Bool} {a a' : Act} {w : World} (h : wpAnyLast P md ops Q S ds fuel l' a' w)
 (hi : ops[i]? = some oi := by exact rfl) (hN : oi.dst = N := by exact rfl) (hc : anyB md ops l l' i = true := by exact any_of HT_.out (by kernel_rfl)) (hQ : ∀ c a w, Q (.panic c) (a.put oi.dst v) w → Q (.panic c) a w := by exact fun _ _ _ h => h)
 (hy : Yields P ops oi v a := by exact Or.inl ⟨by rfl, by intro w'; go_simp; with_reducible rfl⟩) (ha : a.put N v = a' := by simp only [Act.put, List.setIfInBounds_toArray, List.set_cons_zero, List.set_cons_succ, i64_w, i32_w]; rfl) : wpAnyLast P md ops Q S ds (fuel + 1) l a w := pure_ l' hi hN hc hQ hy ha h
theorem bx {P : Program} {ops : Array Oper} {Q : Exit → Act → World → Prop} {a : Act} {o : Oper} {rest : List Oper} {W : World} (N : Tmp) (cs : Array Value) (t : TypeId)
 (h : ∀ g, g = W.heap.size → ∀ w1, w1.heap[g]? = some (.cells cs t (0, 0)) → Below W.heap.size W w1 → wpList P ops Q rest (a.put o.dst (.pointer (some ⟨g, 0, none⟩))) w1)
 (hg : o.guard = none := by exact rfl) (hd : o.dst = some N := by exact rfl) (hr : (execOp a.eval o).run P W = .ok (.value (.pointer (some ⟨W.heap.size, 0, none⟩))) (W.alloc (.cells cs t (0, 0))) := by first | (go_simp; done) | (go_simp; rfl)) : wpList P ops Q (o :: rest) a W := box_event hg hd hr h
theorem tk1 {P : Program} {md : Region.Mode} {ops : Array Oper} {Q : Exit → Act → World → Prop} {S : World → Prop} {ds : List Nat} (i : Nat) (N : Option Tmp) (l' : Array Bool) {oi : Oper} {v : Value} {fuel : Nat} {l : Array Bool} {a a' : Act} {w : World} (h : wpAnyLast P md ops Q S ds fuel l' a' w)
 (hi : ops[i]? = some oi := by exact rfl) (hN : oi.dst = N := by exact rfl) (hc : takeB md ops ds l l' i = true := by exact take_ofW HT_.out HW_.out (by kernel_rfl)) (hQ : ∀ c a w, Q (.panic c) (a.put oi.dst v) w → Q (.panic c) a w := by exact fun _ _ _ h => h)
 (hy : YieldsIf P ops S oi v a := by exact Or.inl ⟨by rfl, by rintro w' ⟨s0⟩; go_simp; with_reducible rfl⟩) (hS : S w := by exact hHeld) (ha : a.put N v = a' := by simp only [Act.put, List.setIfInBounds_toArray, List.set_cons_zero, List.set_cons_succ, i64_w, i32_w]; rfl) : wpAnyLast P md ops Q S ds (fuel + 1) l a w := take_ l' hi hN hc hQ hy hS ha h
theorem tk2 {P : Program} {md : Region.Mode} {ops : Array Oper} {Q : Exit → Act → World → Prop} {S : World → Prop} {ds : List Nat} (i : Nat) (N : Option Tmp) (l' : Array Bool) {oi : Oper} {v : Value} {fuel : Nat} {l : Array Bool} {a a' : Act} {w : World} (h : wpAnyLast P md ops Q S ds fuel l' a' w)
 (hi : ops[i]? = some oi := by exact rfl) (hN : oi.dst = N := by exact rfl) (hc : takeB md ops ds l l' i = true := by exact take_ofW HT_.out HW_.out (by kernel_rfl)) (hQ : ∀ c a w, Q (.panic c) (a.put oi.dst v) w → Q (.panic c) a w := by exact fun _ _ _ h => h)
 (hy : YieldsIf P ops S oi v a := by exact Or.inl ⟨by rfl, by rintro w' ⟨s0, s1⟩; go_simp; with_reducible rfl⟩) (hS : S w := by exact hHeld) (ha : a.put N v = a' := by simp only [Act.put, List.setIfInBounds_toArray, List.set_cons_zero, List.set_cons_succ, i64_w, i32_w]; rfl) : wpAnyLast P md ops Q S ds (fuel + 1) l a w := take_ l' hi hN hc hQ hy hS ha h
theorem tk3 {P : Program} {md : Region.Mode} {ops : Array Oper} {Q : Exit → Act → World → Prop} {S : World → Prop} {ds : List Nat} (i : Nat) (N : Option Tmp) (l' : Array Bool) {oi : Oper} {v : Value} {fuel : Nat} {l : Array Bool} {a a' : Act} {w : World} (h : wpAnyLast P md ops Q S ds fuel l' a' w)
 (hi : ops[i]? = some oi := by exact rfl) (hN : oi.dst = N := by exact rfl) (hc : takeB md ops ds l l' i = true := by exact take_ofW HT_.out HW_.out (by kernel_rfl)) (hQ : ∀ c a w, Q (.panic c) (a.put oi.dst v) w → Q (.panic c) a w := by exact fun _ _ _ h => h)
 (hy : YieldsIf P ops S oi v a := by exact Or.inl ⟨by rfl, by rintro w' ⟨s0, s1, s2⟩; go_simp; with_reducible rfl⟩) (hS : S w := by exact hHeld) (ha : a.put N v = a' := by simp only [Act.put, List.setIfInBounds_toArray, List.set_cons_zero, List.set_cons_succ, i64_w, i32_w]; rfl) : wpAnyLast P md ops Q S ds (fuel + 1) l a w := take_ l' hi hN hc hQ hy hS ha h
theorem tk4 {P : Program} {md : Region.Mode} {ops : Array Oper} {Q : Exit → Act → World → Prop} {S : World → Prop} {ds : List Nat} (i : Nat) (N : Option Tmp) (l' : Array Bool) {oi : Oper} {v : Value} {fuel : Nat} {l : Array Bool} {a a' : Act} {w : World} (h : wpAnyLast P md ops Q S ds fuel l' a' w)
 (hi : ops[i]? = some oi := by exact rfl) (hN : oi.dst = N := by exact rfl) (hc : takeB md ops ds l l' i = true := by exact take_ofW HT_.out HW_.out (by kernel_rfl)) (hQ : ∀ c a w, Q (.panic c) (a.put oi.dst v) w → Q (.panic c) a w := by exact fun _ _ _ h => h)
 (hy : YieldsIf P ops S oi v a := by exact Or.inl ⟨by rfl, by rintro w' ⟨s0, s1, s2, s3⟩; go_simp; with_reducible rfl⟩) (hS : S w := by exact hHeld) (ha : a.put N v = a' := by simp only [Act.put, List.setIfInBounds_toArray, List.set_cons_zero, List.set_cons_succ, i64_w, i32_w]; rfl) : wpAnyLast P md ops Q S ds (fuel + 1) l a w := take_ l' hi hN hc hQ hy hS ha h
theorem tk5 {P : Program} {md : Region.Mode} {ops : Array Oper} {Q : Exit → Act → World → Prop} {S : World → Prop} {ds : List Nat} (i : Nat) (N : Option Tmp) (l' : Array Bool) {oi : Oper} {v : Value} {fuel : Nat} {l : Array Bool} {a a' : Act} {w : World} (h : wpAnyLast P md ops Q S ds fuel l' a' w)
 (hi : ops[i]? = some oi := by exact rfl) (hN : oi.dst = N := by exact rfl) (hc : takeB md ops ds l l' i = true := by exact take_ofW HT_.out HW_.out (by kernel_rfl)) (hQ : ∀ c a w, Q (.panic c) (a.put oi.dst v) w → Q (.panic c) a w := by exact fun _ _ _ h => h)
 (hy : YieldsIf P ops S oi v a := by exact Or.inl ⟨by rfl, by rintro w' ⟨s0, s1, s2, s3, s4⟩; go_simp; with_reducible rfl⟩) (hS : S w := by exact hHeld) (ha : a.put N v = a' := by simp only [Act.put, List.setIfInBounds_toArray, List.set_cons_zero, List.set_cons_succ, i64_w, i32_w]; rfl) : wpAnyLast P md ops Q S ds (fuel + 1) l a w := take_ l' hi hN hc hQ hy hS ha h
theorem tk6 {P : Program} {md : Region.Mode} {ops : Array Oper} {Q : Exit → Act → World → Prop} {S : World → Prop} {ds : List Nat} (i : Nat) (N : Option Tmp) (l' : Array Bool) {oi : Oper} {v : Value} {fuel : Nat} {l : Array Bool} {a a' : Act} {w : World} (h : wpAnyLast P md ops Q S ds fuel l' a' w)
 (hi : ops[i]? = some oi := by exact rfl) (hN : oi.dst = N := by exact rfl) (hc : takeB md ops ds l l' i = true := by exact take_ofW HT_.out HW_.out (by kernel_rfl)) (hQ : ∀ c a w, Q (.panic c) (a.put oi.dst v) w → Q (.panic c) a w := by exact fun _ _ _ h => h)
 (hy : YieldsIf P ops S oi v a := by exact Or.inl ⟨by rfl, by rintro w' ⟨s0, s1, s2, s3, s4, s5⟩; go_simp; with_reducible rfl⟩) (hS : S w := by exact hHeld) (ha : a.put N v = a' := by simp only [Act.put, List.setIfInBounds_toArray, List.set_cons_zero, List.set_cons_succ, i64_w, i32_w]; rfl) : wpAnyLast P md ops Q S ds (fuel + 1) l a w := take_ l' hi hN hc hQ hy hS ha h
theorem tk7 {P : Program} {md : Region.Mode} {ops : Array Oper} {Q : Exit → Act → World → Prop} {S : World → Prop} {ds : List Nat} (i : Nat) (N : Option Tmp) (l' : Array Bool) {oi : Oper} {v : Value} {fuel : Nat} {l : Array Bool} {a a' : Act} {w : World} (h : wpAnyLast P md ops Q S ds fuel l' a' w)
 (hi : ops[i]? = some oi := by exact rfl) (hN : oi.dst = N := by exact rfl) (hc : takeB md ops ds l l' i = true := by exact take_ofW HT_.out HW_.out (by kernel_rfl)) (hQ : ∀ c a w, Q (.panic c) (a.put oi.dst v) w → Q (.panic c) a w := by exact fun _ _ _ h => h)
 (hy : YieldsIf P ops S oi v a := by exact Or.inl ⟨by rfl, by rintro w' ⟨s0, s1, s2, s3, s4, s5, s6⟩; go_simp; with_reducible rfl⟩) (hS : S w := by exact hHeld) (ha : a.put N v = a' := by simp only [Act.put, List.setIfInBounds_toArray, List.set_cons_zero, List.set_cons_succ, i64_w, i32_w]; rfl) : wpAnyLast P md ops Q S ds (fuel + 1) l a w := take_ l' hi hN hc hQ hy hS ha h
theorem tk8 {P : Program} {md : Region.Mode} {ops : Array Oper} {Q : Exit → Act → World → Prop} {S : World → Prop} {ds : List Nat} (i : Nat) (N : Option Tmp) (l' : Array Bool) {oi : Oper} {v : Value} {fuel : Nat} {l : Array Bool} {a a' : Act} {w : World} (h : wpAnyLast P md ops Q S ds fuel l' a' w)
 (hi : ops[i]? = some oi := by exact rfl) (hN : oi.dst = N := by exact rfl) (hc : takeB md ops ds l l' i = true := by exact take_ofW HT_.out HW_.out (by kernel_rfl)) (hQ : ∀ c a w, Q (.panic c) (a.put oi.dst v) w → Q (.panic c) a w := by exact fun _ _ _ h => h)
 (hy : YieldsIf P ops S oi v a := by exact Or.inl ⟨by rfl, by rintro w' ⟨s0, s1, s2, s3, s4, s5, s6, s7⟩; go_simp; with_reducible rfl⟩) (hS : S w := by exact hHeld) (ha : a.put N v = a' := by simp only [Act.put, List.setIfInBounds_toArray, List.set_cons_zero, List.set_cons_succ, i64_w, i32_w]; rfl) : wpAnyLast P md ops Q S ds (fuel + 1) l a w := take_ l' hi hN hc hQ hy hS ha h
theorem tk9 {P : Program} {md : Region.Mode} {ops : Array Oper} {Q : Exit → Act → World → Prop} {S : World → Prop} {ds : List Nat} (i : Nat) (N : Option Tmp) (l' : Array Bool) {oi : Oper} {v : Value} {fuel : Nat} {l : Array Bool} {a a' : Act} {w : World} (h : wpAnyLast P md ops Q S ds fuel l' a' w)
 (hi : ops[i]? = some oi := by exact rfl) (hN : oi.dst = N := by exact rfl) (hc : takeB md ops ds l l' i = true := by exact take_ofW HT_.out HW_.out (by kernel_rfl)) (hQ : ∀ c a w, Q (.panic c) (a.put oi.dst v) w → Q (.panic c) a w := by exact fun _ _ _ h => h)
 (hy : YieldsIf P ops S oi v a := by exact Or.inl ⟨by rfl, by rintro w' ⟨s0, s1, s2, s3, s4, s5, s6, s7, s8⟩; go_simp; with_reducible rfl⟩) (hS : S w := by exact hHeld) (ha : a.put N v = a' := by simp only [Act.put, List.setIfInBounds_toArray, List.set_cons_zero, List.set_cons_succ, i64_w, i32_w]; rfl) : wpAnyLast P md ops Q S ds (fuel + 1) l a w := take_ l' hi hN hc hQ hy hS ha h
theorem tk10 {P : Program} {md : Region.Mode} {ops : Array Oper} {Q : Exit → Act → World → Prop} {S : World → Prop} {ds : List Nat} (i : Nat) (N : Option Tmp) (l' : Array Bool) {oi : Oper} {v : Value} {fuel : Nat} {l : Array Bool} {a a' : Act} {w : World} (h : wpAnyLast P md ops Q S ds fuel l' a' w)
 (hi : ops[i]? = some oi := by exact rfl) (hN : oi.dst = N := by exact rfl) (hc : takeB md ops ds l l' i = true := by exact take_ofW HT_.out HW_.out (by kernel_rfl)) (hQ : ∀ c a w, Q (.panic c) (a.put oi.dst v) w → Q (.panic c) a w := by exact fun _ _ _ h => h)
 (hy : YieldsIf P ops S oi v a := by exact Or.inl ⟨by rfl, by rintro w' ⟨s0, s1, s2, s3, s4, s5, s6, s7, s8, s9⟩; go_simp; with_reducible rfl⟩) (hS : S w := by exact hHeld) (ha : a.put N v = a' := by simp only [Act.put, List.setIfInBounds_toArray, List.set_cons_zero, List.set_cons_succ, i64_w, i32_w]; rfl) : wpAnyLast P md ops Q S ds (fuel + 1) l a w := take_ l' hi hN hc hQ hy hS ha h
theorem tk11 {P : Program} {md : Region.Mode} {ops : Array Oper} {Q : Exit → Act → World → Prop} {S : World → Prop} {ds : List Nat} (i : Nat) (N : Option Tmp) (l' : Array Bool) {oi : Oper} {v : Value} {fuel : Nat} {l : Array Bool} {a a' : Act} {w : World} (h : wpAnyLast P md ops Q S ds fuel l' a' w)
 (hi : ops[i]? = some oi := by exact rfl) (hN : oi.dst = N := by exact rfl) (hc : takeB md ops ds l l' i = true := by exact take_ofW HT_.out HW_.out (by kernel_rfl)) (hQ : ∀ c a w, Q (.panic c) (a.put oi.dst v) w → Q (.panic c) a w := by exact fun _ _ _ h => h)
 (hy : YieldsIf P ops S oi v a := by exact Or.inl ⟨by rfl, by rintro w' ⟨s0, s1, s2, s3, s4, s5, s6, s7, s8, s9, s10⟩; go_simp; with_reducible rfl⟩) (hS : S w := by exact hHeld) (ha : a.put N v = a' := by simp only [Act.put, List.setIfInBounds_toArray, List.set_cons_zero, List.set_cons_succ, i64_w, i32_w]; rfl) : wpAnyLast P md ops Q S ds (fuel + 1) l a w := take_ l' hi hN hc hQ hy hS ha h
theorem tk12 {P : Program} {md : Region.Mode} {ops : Array Oper} {Q : Exit → Act → World → Prop} {S : World → Prop} {ds : List Nat} (i : Nat) (N : Option Tmp) (l' : Array Bool) {oi : Oper} {v : Value} {fuel : Nat} {l : Array Bool} {a a' : Act} {w : World} (h : wpAnyLast P md ops Q S ds fuel l' a' w)
 (hi : ops[i]? = some oi := by exact rfl) (hN : oi.dst = N := by exact rfl) (hc : takeB md ops ds l l' i = true := by exact take_ofW HT_.out HW_.out (by kernel_rfl)) (hQ : ∀ c a w, Q (.panic c) (a.put oi.dst v) w → Q (.panic c) a w := by exact fun _ _ _ h => h)
 (hy : YieldsIf P ops S oi v a := by exact Or.inl ⟨by rfl, by rintro w' ⟨s0, s1, s2, s3, s4, s5, s6, s7, s8, s9, s10, s11⟩; go_simp; with_reducible rfl⟩) (hS : S w := by exact hHeld) (ha : a.put N v = a' := by simp only [Act.put, List.setIfInBounds_toArray, List.set_cons_zero, List.set_cons_succ, i64_w, i32_w]; rfl) : wpAnyLast P md ops Q S ds (fuel + 1) l a w := take_ l' hi hN hc hQ hy hS ha h
theorem tk13 {P : Program} {md : Region.Mode} {ops : Array Oper} {Q : Exit → Act → World → Prop} {S : World → Prop} {ds : List Nat} (i : Nat) (N : Option Tmp) (l' : Array Bool) {oi : Oper} {v : Value} {fuel : Nat} {l : Array Bool} {a a' : Act} {w : World} (h : wpAnyLast P md ops Q S ds fuel l' a' w)
 (hi : ops[i]? = some oi := by exact rfl) (hN : oi.dst = N := by exact rfl) (hc : takeB md ops ds l l' i = true := by exact take_ofW HT_.out HW_.out (by kernel_rfl)) (hQ : ∀ c a w, Q (.panic c) (a.put oi.dst v) w → Q (.panic c) a w := by exact fun _ _ _ h => h)
 (hy : YieldsIf P ops S oi v a := by exact Or.inl ⟨by rfl, by rintro w' ⟨s0, s1, s2, s3, s4, s5, s6, s7, s8, s9, s10, s11, s12⟩; go_simp; with_reducible rfl⟩) (hS : S w := by exact hHeld) (ha : a.put N v = a' := by simp only [Act.put, List.setIfInBounds_toArray, List.set_cons_zero, List.set_cons_succ, i64_w, i32_w]; rfl) : wpAnyLast P md ops Q S ds (fuel + 1) l a w := take_ l' hi hN hc hQ hy hS ha h
theorem tk14 {P : Program} {md : Region.Mode} {ops : Array Oper} {Q : Exit → Act → World → Prop} {S : World → Prop} {ds : List Nat} (i : Nat) (N : Option Tmp) (l' : Array Bool) {oi : Oper} {v : Value} {fuel : Nat} {l : Array Bool} {a a' : Act} {w : World} (h : wpAnyLast P md ops Q S ds fuel l' a' w)
 (hi : ops[i]? = some oi := by exact rfl) (hN : oi.dst = N := by exact rfl) (hc : takeB md ops ds l l' i = true := by exact take_ofW HT_.out HW_.out (by kernel_rfl)) (hQ : ∀ c a w, Q (.panic c) (a.put oi.dst v) w → Q (.panic c) a w := by exact fun _ _ _ h => h)
 (hy : YieldsIf P ops S oi v a := by exact Or.inl ⟨by rfl, by rintro w' ⟨s0, s1, s2, s3, s4, s5, s6, s7, s8, s9, s10, s11, s12, s13⟩; go_simp; with_reducible rfl⟩) (hS : S w := by exact hHeld) (ha : a.put N v = a' := by simp only [Act.put, List.setIfInBounds_toArray, List.set_cons_zero, List.set_cons_succ, i64_w, i32_w]; rfl) : wpAnyLast P md ops Q S ds (fuel + 1) l a w := take_ l' hi hN hc hQ hy hS ha h
theorem tk15 {P : Program} {md : Region.Mode} {ops : Array Oper} {Q : Exit → Act → World → Prop} {S : World → Prop} {ds : List Nat} (i : Nat) (N : Option Tmp) (l' : Array Bool) {oi : Oper} {v : Value} {fuel : Nat} {l : Array Bool} {a a' : Act} {w : World} (h : wpAnyLast P md ops Q S ds fuel l' a' w)
 (hi : ops[i]? = some oi := by exact rfl) (hN : oi.dst = N := by exact rfl) (hc : takeB md ops ds l l' i = true := by exact take_ofW HT_.out HW_.out (by kernel_rfl)) (hQ : ∀ c a w, Q (.panic c) (a.put oi.dst v) w → Q (.panic c) a w := by exact fun _ _ _ h => h)
 (hy : YieldsIf P ops S oi v a := by exact Or.inl ⟨by rfl, by rintro w' ⟨s0, s1, s2, s3, s4, s5, s6, s7, s8, s9, s10, s11, s12, s13, s14⟩; go_simp; with_reducible rfl⟩) (hS : S w := by exact hHeld) (ha : a.put N v = a' := by simp only [Act.put, List.setIfInBounds_toArray, List.set_cons_zero, List.set_cons_succ, i64_w, i32_w]; rfl) : wpAnyLast P md ops Q S ds (fuel + 1) l a w := take_ l' hi hN hc hQ hy hS ha h
theorem tk16 {P : Program} {md : Region.Mode} {ops : Array Oper} {Q : Exit → Act → World → Prop} {S : World → Prop} {ds : List Nat} (i : Nat) (N : Option Tmp) (l' : Array Bool) {oi : Oper} {v : Value} {fuel : Nat} {l : Array Bool} {a a' : Act} {w : World} (h : wpAnyLast P md ops Q S ds fuel l' a' w)
 (hi : ops[i]? = some oi := by exact rfl) (hN : oi.dst = N := by exact rfl) (hc : takeB md ops ds l l' i = true := by exact take_ofW HT_.out HW_.out (by kernel_rfl)) (hQ : ∀ c a w, Q (.panic c) (a.put oi.dst v) w → Q (.panic c) a w := by exact fun _ _ _ h => h)
 (hy : YieldsIf P ops S oi v a := by exact Or.inl ⟨by rfl, by rintro w' ⟨s0, s1, s2, s3, s4, s5, s6, s7, s8, s9, s10, s11, s12, s13, s14, s15⟩; go_simp; with_reducible rfl⟩) (hS : S w := by exact hHeld) (ha : a.put N v = a' := by simp only [Act.put, List.setIfInBounds_toArray, List.set_cons_zero, List.set_cons_succ, i64_w, i32_w]; rfl) : wpAnyLast P md ops Q S ds (fuel + 1) l a w := take_ l' hi hN hc hQ hy hS ha h
theorem tk17 {P : Program} {md : Region.Mode} {ops : Array Oper} {Q : Exit → Act → World → Prop} {S : World → Prop} {ds : List Nat} (i : Nat) (N : Option Tmp) (l' : Array Bool) {oi : Oper} {v : Value} {fuel : Nat} {l : Array Bool} {a a' : Act} {w : World} (h : wpAnyLast P md ops Q S ds fuel l' a' w)
 (hi : ops[i]? = some oi := by exact rfl) (hN : oi.dst = N := by exact rfl) (hc : takeB md ops ds l l' i = true := by exact take_ofW HT_.out HW_.out (by kernel_rfl)) (hQ : ∀ c a w, Q (.panic c) (a.put oi.dst v) w → Q (.panic c) a w := by exact fun _ _ _ h => h)
 (hy : YieldsIf P ops S oi v a := by exact Or.inl ⟨by rfl, by rintro w' ⟨s0, s1, s2, s3, s4, s5, s6, s7, s8, s9, s10, s11, s12, s13, s14, s15, s16⟩; go_simp; with_reducible rfl⟩) (hS : S w := by exact hHeld) (ha : a.put N v = a' := by simp only [Act.put, List.setIfInBounds_toArray, List.set_cons_zero, List.set_cons_succ, i64_w, i32_w]; rfl) : wpAnyLast P md ops Q S ds (fuel + 1) l a w := take_ l' hi hN hc hQ hy hS ha h
theorem tk18 {P : Program} {md : Region.Mode} {ops : Array Oper} {Q : Exit → Act → World → Prop} {S : World → Prop} {ds : List Nat} (i : Nat) (N : Option Tmp) (l' : Array Bool) {oi : Oper} {v : Value} {fuel : Nat} {l : Array Bool} {a a' : Act} {w : World} (h : wpAnyLast P md ops Q S ds fuel l' a' w)
 (hi : ops[i]? = some oi := by exact rfl) (hN : oi.dst = N := by exact rfl) (hc : takeB md ops ds l l' i = true := by exact take_ofW HT_.out HW_.out (by kernel_rfl)) (hQ : ∀ c a w, Q (.panic c) (a.put oi.dst v) w → Q (.panic c) a w := by exact fun _ _ _ h => h)
 (hy : YieldsIf P ops S oi v a := by exact Or.inl ⟨by rfl, by rintro w' ⟨s0, s1, s2, s3, s4, s5, s6, s7, s8, s9, s10, s11, s12, s13, s14, s15, s16, s17⟩; go_simp; with_reducible rfl⟩) (hS : S w := by exact hHeld) (ha : a.put N v = a' := by simp only [Act.put, List.setIfInBounds_toArray, List.set_cons_zero, List.set_cons_succ, i64_w, i32_w]; rfl) : wpAnyLast P md ops Q S ds (fuel + 1) l a w := take_ l' hi hN hc hQ hy hS ha h
theorem tk19 {P : Program} {md : Region.Mode} {ops : Array Oper} {Q : Exit → Act → World → Prop} {S : World → Prop} {ds : List Nat} (i : Nat) (N : Option Tmp) (l' : Array Bool) {oi : Oper} {v : Value} {fuel : Nat} {l : Array Bool} {a a' : Act} {w : World} (h : wpAnyLast P md ops Q S ds fuel l' a' w)
 (hi : ops[i]? = some oi := by exact rfl) (hN : oi.dst = N := by exact rfl) (hc : takeB md ops ds l l' i = true := by exact take_ofW HT_.out HW_.out (by kernel_rfl)) (hQ : ∀ c a w, Q (.panic c) (a.put oi.dst v) w → Q (.panic c) a w := by exact fun _ _ _ h => h)
 (hy : YieldsIf P ops S oi v a := by exact Or.inl ⟨by rfl, by rintro w' ⟨s0, s1, s2, s3, s4, s5, s6, s7, s8, s9, s10, s11, s12, s13, s14, s15, s16, s17, s18⟩; go_simp; with_reducible rfl⟩) (hS : S w := by exact hHeld) (ha : a.put N v = a' := by simp only [Act.put, List.setIfInBounds_toArray, List.set_cons_zero, List.set_cons_succ, i64_w, i32_w]; rfl) : wpAnyLast P md ops Q S ds (fuel + 1) l a w := take_ l' hi hN hc hQ hy hS ha h
theorem tk20 {P : Program} {md : Region.Mode} {ops : Array Oper} {Q : Exit → Act → World → Prop} {S : World → Prop} {ds : List Nat} (i : Nat) (N : Option Tmp) (l' : Array Bool) {oi : Oper} {v : Value} {fuel : Nat} {l : Array Bool} {a a' : Act} {w : World} (h : wpAnyLast P md ops Q S ds fuel l' a' w)
 (hi : ops[i]? = some oi := by exact rfl) (hN : oi.dst = N := by exact rfl) (hc : takeB md ops ds l l' i = true := by exact take_ofW HT_.out HW_.out (by kernel_rfl)) (hQ : ∀ c a w, Q (.panic c) (a.put oi.dst v) w → Q (.panic c) a w := by exact fun _ _ _ h => h)
 (hy : YieldsIf P ops S oi v a := by exact Or.inl ⟨by rfl, by rintro w' ⟨s0, s1, s2, s3, s4, s5, s6, s7, s8, s9, s10, s11, s12, s13, s14, s15, s16, s17, s18, s19⟩; go_simp; with_reducible rfl⟩) (hS : S w := by exact hHeld) (ha : a.put N v = a' := by simp only [Act.put, List.setIfInBounds_toArray, List.set_cons_zero, List.set_cons_succ, i64_w, i32_w]; rfl) : wpAnyLast P md ops Q S ds (fuel + 1) l a w := take_ l' hi hN hc hQ hy hS ha h
theorem tk21 {P : Program} {md : Region.Mode} {ops : Array Oper} {Q : Exit → Act → World → Prop} {S : World → Prop} {ds : List Nat} (i : Nat) (N : Option Tmp) (l' : Array Bool) {oi : Oper} {v : Value} {fuel : Nat} {l : Array Bool} {a a' : Act} {w : World} (h : wpAnyLast P md ops Q S ds fuel l' a' w)
 (hi : ops[i]? = some oi := by exact rfl) (hN : oi.dst = N := by exact rfl) (hc : takeB md ops ds l l' i = true := by exact take_ofW HT_.out HW_.out (by kernel_rfl)) (hQ : ∀ c a w, Q (.panic c) (a.put oi.dst v) w → Q (.panic c) a w := by exact fun _ _ _ h => h)
 (hy : YieldsIf P ops S oi v a := by exact Or.inl ⟨by rfl, by rintro w' ⟨s0, s1, s2, s3, s4, s5, s6, s7, s8, s9, s10, s11, s12, s13, s14, s15, s16, s17, s18, s19, s20⟩; go_simp; with_reducible rfl⟩) (hS : S w := by exact hHeld) (ha : a.put N v = a' := by simp only [Act.put, List.setIfInBounds_toArray, List.set_cons_zero, List.set_cons_succ, i64_w, i32_w]; rfl) : wpAnyLast P md ops Q S ds (fuel + 1) l a w := take_ l' hi hN hc hQ hy hS ha h
theorem tk22 {P : Program} {md : Region.Mode} {ops : Array Oper} {Q : Exit → Act → World → Prop} {S : World → Prop} {ds : List Nat} (i : Nat) (N : Option Tmp) (l' : Array Bool) {oi : Oper} {v : Value} {fuel : Nat} {l : Array Bool} {a a' : Act} {w : World} (h : wpAnyLast P md ops Q S ds fuel l' a' w)
 (hi : ops[i]? = some oi := by exact rfl) (hN : oi.dst = N := by exact rfl) (hc : takeB md ops ds l l' i = true := by exact take_ofW HT_.out HW_.out (by kernel_rfl)) (hQ : ∀ c a w, Q (.panic c) (a.put oi.dst v) w → Q (.panic c) a w := by exact fun _ _ _ h => h)
 (hy : YieldsIf P ops S oi v a := by exact Or.inl ⟨by rfl, by rintro w' ⟨s0, s1, s2, s3, s4, s5, s6, s7, s8, s9, s10, s11, s12, s13, s14, s15, s16, s17, s18, s19, s20, s21⟩; go_simp; with_reducible rfl⟩) (hS : S w := by exact hHeld) (ha : a.put N v = a' := by simp only [Act.put, List.setIfInBounds_toArray, List.set_cons_zero, List.set_cons_succ, i64_w, i32_w]; rfl) : wpAnyLast P md ops Q S ds (fuel + 1) l a w := take_ l' hi hN hc hQ hy hS ha h
theorem tk23 {P : Program} {md : Region.Mode} {ops : Array Oper} {Q : Exit → Act → World → Prop} {S : World → Prop} {ds : List Nat} (i : Nat) (N : Option Tmp) (l' : Array Bool) {oi : Oper} {v : Value} {fuel : Nat} {l : Array Bool} {a a' : Act} {w : World} (h : wpAnyLast P md ops Q S ds fuel l' a' w)
 (hi : ops[i]? = some oi := by exact rfl) (hN : oi.dst = N := by exact rfl) (hc : takeB md ops ds l l' i = true := by exact take_ofW HT_.out HW_.out (by kernel_rfl)) (hQ : ∀ c a w, Q (.panic c) (a.put oi.dst v) w → Q (.panic c) a w := by exact fun _ _ _ h => h)
 (hy : YieldsIf P ops S oi v a := by exact Or.inl ⟨by rfl, by rintro w' ⟨s0, s1, s2, s3, s4, s5, s6, s7, s8, s9, s10, s11, s12, s13, s14, s15, s16, s17, s18, s19, s20, s21, s22⟩; go_simp; with_reducible rfl⟩) (hS : S w := by exact hHeld) (ha : a.put N v = a' := by simp only [Act.put, List.setIfInBounds_toArray, List.set_cons_zero, List.set_cons_succ, i64_w, i32_w]; rfl) : wpAnyLast P md ops Q S ds (fuel + 1) l a w := take_ l' hi hN hc hQ hy hS ha h
theorem tk24 {P : Program} {md : Region.Mode} {ops : Array Oper} {Q : Exit → Act → World → Prop} {S : World → Prop} {ds : List Nat} (i : Nat) (N : Option Tmp) (l' : Array Bool) {oi : Oper} {v : Value} {fuel : Nat} {l : Array Bool} {a a' : Act} {w : World} (h : wpAnyLast P md ops Q S ds fuel l' a' w)
 (hi : ops[i]? = some oi := by exact rfl) (hN : oi.dst = N := by exact rfl) (hc : takeB md ops ds l l' i = true := by exact take_ofW HT_.out HW_.out (by kernel_rfl)) (hQ : ∀ c a w, Q (.panic c) (a.put oi.dst v) w → Q (.panic c) a w := by exact fun _ _ _ h => h)
 (hy : YieldsIf P ops S oi v a := by exact Or.inl ⟨by rfl, by rintro w' ⟨s0, s1, s2, s3, s4, s5, s6, s7, s8, s9, s10, s11, s12, s13, s14, s15, s16, s17, s18, s19, s20, s21, s22, s23⟩; go_simp; with_reducible rfl⟩) (hS : S w := by exact hHeld) (ha : a.put N v = a' := by simp only [Act.put, List.setIfInBounds_toArray, List.set_cons_zero, List.set_cons_succ, i64_w, i32_w]; rfl) : wpAnyLast P md ops Q S ds (fuel + 1) l a w := take_ l' hi hN hc hQ hy hS ha h
theorem tk25 {P : Program} {md : Region.Mode} {ops : Array Oper} {Q : Exit → Act → World → Prop} {S : World → Prop} {ds : List Nat} (i : Nat) (N : Option Tmp) (l' : Array Bool) {oi : Oper} {v : Value} {fuel : Nat} {l : Array Bool} {a a' : Act} {w : World} (h : wpAnyLast P md ops Q S ds fuel l' a' w)
 (hi : ops[i]? = some oi := by exact rfl) (hN : oi.dst = N := by exact rfl) (hc : takeB md ops ds l l' i = true := by exact take_ofW HT_.out HW_.out (by kernel_rfl)) (hQ : ∀ c a w, Q (.panic c) (a.put oi.dst v) w → Q (.panic c) a w := by exact fun _ _ _ h => h)
 (hy : YieldsIf P ops S oi v a := by exact Or.inl ⟨by rfl, by rintro w' ⟨s0, s1, s2, s3, s4, s5, s6, s7, s8, s9, s10, s11, s12, s13, s14, s15, s16, s17, s18, s19, s20, s21, s22, s23, s24⟩; go_simp; with_reducible rfl⟩) (hS : S w := by exact hHeld) (ha : a.put N v = a' := by simp only [Act.put, List.setIfInBounds_toArray, List.set_cons_zero, List.set_cons_succ, i64_w, i32_w]; rfl) : wpAnyLast P md ops Q S ds (fuel + 1) l a w := take_ l' hi hN hc hQ hy hS ha h
theorem tk26 {P : Program} {md : Region.Mode} {ops : Array Oper} {Q : Exit → Act → World → Prop} {S : World → Prop} {ds : List Nat} (i : Nat) (N : Option Tmp) (l' : Array Bool) {oi : Oper} {v : Value} {fuel : Nat} {l : Array Bool} {a a' : Act} {w : World} (h : wpAnyLast P md ops Q S ds fuel l' a' w)
 (hi : ops[i]? = some oi := by exact rfl) (hN : oi.dst = N := by exact rfl) (hc : takeB md ops ds l l' i = true := by exact take_ofW HT_.out HW_.out (by kernel_rfl)) (hQ : ∀ c a w, Q (.panic c) (a.put oi.dst v) w → Q (.panic c) a w := by exact fun _ _ _ h => h)
 (hy : YieldsIf P ops S oi v a := by exact Or.inl ⟨by rfl, by rintro w' ⟨s0, s1, s2, s3, s4, s5, s6, s7, s8, s9, s10, s11, s12, s13, s14, s15, s16, s17, s18, s19, s20, s21, s22, s23, s24, s25⟩; go_simp; with_reducible rfl⟩) (hS : S w := by exact hHeld) (ha : a.put N v = a' := by simp only [Act.put, List.setIfInBounds_toArray, List.set_cons_zero, List.set_cons_succ, i64_w, i32_w]; rfl) : wpAnyLast P md ops Q S ds (fuel + 1) l a w := take_ l' hi hN hc hQ hy hS ha h
theorem tk27 {P : Program} {md : Region.Mode} {ops : Array Oper} {Q : Exit → Act → World → Prop} {S : World → Prop} {ds : List Nat} (i : Nat) (N : Option Tmp) (l' : Array Bool) {oi : Oper} {v : Value} {fuel : Nat} {l : Array Bool} {a a' : Act} {w : World} (h : wpAnyLast P md ops Q S ds fuel l' a' w)
 (hi : ops[i]? = some oi := by exact rfl) (hN : oi.dst = N := by exact rfl) (hc : takeB md ops ds l l' i = true := by exact take_ofW HT_.out HW_.out (by kernel_rfl)) (hQ : ∀ c a w, Q (.panic c) (a.put oi.dst v) w → Q (.panic c) a w := by exact fun _ _ _ h => h)
 (hy : YieldsIf P ops S oi v a := by exact Or.inl ⟨by rfl, by rintro w' ⟨s0, s1, s2, s3, s4, s5, s6, s7, s8, s9, s10, s11, s12, s13, s14, s15, s16, s17, s18, s19, s20, s21, s22, s23, s24, s25, s26⟩; go_simp; with_reducible rfl⟩) (hS : S w := by exact hHeld) (ha : a.put N v = a' := by simp only [Act.put, List.setIfInBounds_toArray, List.set_cons_zero, List.set_cons_succ, i64_w, i32_w]; rfl) : wpAnyLast P md ops Q S ds (fuel + 1) l a w := take_ l' hi hN hc hQ hy hS ha h
theorem tk28 {P : Program} {md : Region.Mode} {ops : Array Oper} {Q : Exit → Act → World → Prop} {S : World → Prop} {ds : List Nat} (i : Nat) (N : Option Tmp) (l' : Array Bool) {oi : Oper} {v : Value} {fuel : Nat} {l : Array Bool} {a a' : Act} {w : World} (h : wpAnyLast P md ops Q S ds fuel l' a' w)
 (hi : ops[i]? = some oi := by exact rfl) (hN : oi.dst = N := by exact rfl) (hc : takeB md ops ds l l' i = true := by exact take_ofW HT_.out HW_.out (by kernel_rfl)) (hQ : ∀ c a w, Q (.panic c) (a.put oi.dst v) w → Q (.panic c) a w := by exact fun _ _ _ h => h)
 (hy : YieldsIf P ops S oi v a := by exact Or.inl ⟨by rfl, by rintro w' ⟨s0, s1, s2, s3, s4, s5, s6, s7, s8, s9, s10, s11, s12, s13, s14, s15, s16, s17, s18, s19, s20, s21, s22, s23, s24, s25, s26, s27⟩; go_simp; with_reducible rfl⟩) (hS : S w := by exact hHeld) (ha : a.put N v = a' := by simp only [Act.put, List.setIfInBounds_toArray, List.set_cons_zero, List.set_cons_succ, i64_w, i32_w]; rfl) : wpAnyLast P md ops Q S ds (fuel + 1) l a w := take_ l' hi hN hc hQ hy hS ha h
theorem tk29 {P : Program} {md : Region.Mode} {ops : Array Oper} {Q : Exit → Act → World → Prop} {S : World → Prop} {ds : List Nat} (i : Nat) (N : Option Tmp) (l' : Array Bool) {oi : Oper} {v : Value} {fuel : Nat} {l : Array Bool} {a a' : Act} {w : World} (h : wpAnyLast P md ops Q S ds fuel l' a' w)
 (hi : ops[i]? = some oi := by exact rfl) (hN : oi.dst = N := by exact rfl) (hc : takeB md ops ds l l' i = true := by exact take_ofW HT_.out HW_.out (by kernel_rfl)) (hQ : ∀ c a w, Q (.panic c) (a.put oi.dst v) w → Q (.panic c) a w := by exact fun _ _ _ h => h)
 (hy : YieldsIf P ops S oi v a := by exact Or.inl ⟨by rfl, by rintro w' ⟨s0, s1, s2, s3, s4, s5, s6, s7, s8, s9, s10, s11, s12, s13, s14, s15, s16, s17, s18, s19, s20, s21, s22, s23, s24, s25, s26, s27, s28⟩; go_simp; with_reducible rfl⟩) (hS : S w := by exact hHeld) (ha : a.put N v = a' := by simp only [Act.put, List.setIfInBounds_toArray, List.set_cons_zero, List.set_cons_succ, i64_w, i32_w]; rfl) : wpAnyLast P md ops Q S ds (fuel + 1) l a w := take_ l' hi hN hc hQ hy hS ha h
theorem tk30 {P : Program} {md : Region.Mode} {ops : Array Oper} {Q : Exit → Act → World → Prop} {S : World → Prop} {ds : List Nat} (i : Nat) (N : Option Tmp) (l' : Array Bool) {oi : Oper} {v : Value} {fuel : Nat} {l : Array Bool} {a a' : Act} {w : World} (h : wpAnyLast P md ops Q S ds fuel l' a' w)
 (hi : ops[i]? = some oi := by exact rfl) (hN : oi.dst = N := by exact rfl) (hc : takeB md ops ds l l' i = true := by exact take_ofW HT_.out HW_.out (by kernel_rfl)) (hQ : ∀ c a w, Q (.panic c) (a.put oi.dst v) w → Q (.panic c) a w := by exact fun _ _ _ h => h)
 (hy : YieldsIf P ops S oi v a := by exact Or.inl ⟨by rfl, by rintro w' ⟨s0, s1, s2, s3, s4, s5, s6, s7, s8, s9, s10, s11, s12, s13, s14, s15, s16, s17, s18, s19, s20, s21, s22, s23, s24, s25, s26, s27, s28, s29⟩; go_simp; with_reducible rfl⟩) (hS : S w := by exact hHeld) (ha : a.put N v = a' := by simp only [Act.put, List.setIfInBounds_toArray, List.set_cons_zero, List.set_cons_succ, i64_w, i32_w]; rfl) : wpAnyLast P md ops Q S ds (fuel + 1) l a w := take_ l' hi hN hc hQ hy hS ha h
theorem tk31 {P : Program} {md : Region.Mode} {ops : Array Oper} {Q : Exit → Act → World → Prop} {S : World → Prop} {ds : List Nat} (i : Nat) (N : Option Tmp) (l' : Array Bool) {oi : Oper} {v : Value} {fuel : Nat} {l : Array Bool} {a a' : Act} {w : World} (h : wpAnyLast P md ops Q S ds fuel l' a' w)
 (hi : ops[i]? = some oi := by exact rfl) (hN : oi.dst = N := by exact rfl) (hc : takeB md ops ds l l' i = true := by exact take_ofW HT_.out HW_.out (by kernel_rfl)) (hQ : ∀ c a w, Q (.panic c) (a.put oi.dst v) w → Q (.panic c) a w := by exact fun _ _ _ h => h)
 (hy : YieldsIf P ops S oi v a := by exact Or.inl ⟨by rfl, by rintro w' ⟨s0, s1, s2, s3, s4, s5, s6, s7, s8, s9, s10, s11, s12, s13, s14, s15, s16, s17, s18, s19, s20, s21, s22, s23, s24, s25, s26, s27, s28, s29, s30⟩; go_simp; with_reducible rfl⟩) (hS : S w := by exact hHeld) (ha : a.put N v = a' := by simp only [Act.put, List.setIfInBounds_toArray, List.set_cons_zero, List.set_cons_succ, i64_w, i32_w]; rfl) : wpAnyLast P md ops Q S ds (fuel + 1) l a w := take_ l' hi hN hc hQ hy hS ha h
theorem tk32 {P : Program} {md : Region.Mode} {ops : Array Oper} {Q : Exit → Act → World → Prop} {S : World → Prop} {ds : List Nat} (i : Nat) (N : Option Tmp) (l' : Array Bool) {oi : Oper} {v : Value} {fuel : Nat} {l : Array Bool} {a a' : Act} {w : World} (h : wpAnyLast P md ops Q S ds fuel l' a' w)
 (hi : ops[i]? = some oi := by exact rfl) (hN : oi.dst = N := by exact rfl) (hc : takeB md ops ds l l' i = true := by exact take_ofW HT_.out HW_.out (by kernel_rfl)) (hQ : ∀ c a w, Q (.panic c) (a.put oi.dst v) w → Q (.panic c) a w := by exact fun _ _ _ h => h)
 (hy : YieldsIf P ops S oi v a := by exact Or.inl ⟨by rfl, by rintro w' ⟨s0, s1, s2, s3, s4, s5, s6, s7, s8, s9, s10, s11, s12, s13, s14, s15, s16, s17, s18, s19, s20, s21, s22, s23, s24, s25, s26, s27, s28, s29, s30, s31⟩; go_simp; with_reducible rfl⟩) (hS : S w := by exact hHeld) (ha : a.put N v = a' := by simp only [Act.put, List.setIfInBounds_toArray, List.set_cons_zero, List.set_cons_succ, i64_w, i32_w]; rfl) : wpAnyLast P md ops Q S ds (fuel + 1) l a w := take_ l' hi hN hc hQ hy hS ha h
theorem tk33 {P : Program} {md : Region.Mode} {ops : Array Oper} {Q : Exit → Act → World → Prop} {S : World → Prop} {ds : List Nat} (i : Nat) (N : Option Tmp) (l' : Array Bool) {oi : Oper} {v : Value} {fuel : Nat} {l : Array Bool} {a a' : Act} {w : World} (h : wpAnyLast P md ops Q S ds fuel l' a' w)
 (hi : ops[i]? = some oi := by exact rfl) (hN : oi.dst = N := by exact rfl) (hc : takeB md ops ds l l' i = true := by exact take_ofW HT_.out HW_.out (by kernel_rfl)) (hQ : ∀ c a w, Q (.panic c) (a.put oi.dst v) w → Q (.panic c) a w := by exact fun _ _ _ h => h)
 (hy : YieldsIf P ops S oi v a := by exact Or.inl ⟨by rfl, by rintro w' ⟨s0, s1, s2, s3, s4, s5, s6, s7, s8, s9, s10, s11, s12, s13, s14, s15, s16, s17, s18, s19, s20, s21, s22, s23, s24, s25, s26, s27, s28, s29, s30, s31, s32⟩; go_simp; with_reducible rfl⟩) (hS : S w := by exact hHeld) (ha : a.put N v = a' := by simp only [Act.put, List.setIfInBounds_toArray, List.set_cons_zero, List.set_cons_succ, i64_w, i32_w]; rfl) : wpAnyLast P md ops Q S ds (fuel + 1) l a w := take_ l' hi hN hc hQ hy hS ha h
theorem tk34 {P : Program} {md : Region.Mode} {ops : Array Oper} {Q : Exit → Act → World → Prop} {S : World → Prop} {ds : List Nat} (i : Nat) (N : Option Tmp) (l' : Array Bool) {oi : Oper} {v : Value} {fuel : Nat} {l : Array Bool} {a a' : Act} {w : World} (h : wpAnyLast P md ops Q S ds fuel l' a' w)
 (hi : ops[i]? = some oi := by exact rfl) (hN : oi.dst = N := by exact rfl) (hc : takeB md ops ds l l' i = true := by exact take_ofW HT_.out HW_.out (by kernel_rfl)) (hQ : ∀ c a w, Q (.panic c) (a.put oi.dst v) w → Q (.panic c) a w := by exact fun _ _ _ h => h)
 (hy : YieldsIf P ops S oi v a := by exact Or.inl ⟨by rfl, by rintro w' ⟨s0, s1, s2, s3, s4, s5, s6, s7, s8, s9, s10, s11, s12, s13, s14, s15, s16, s17, s18, s19, s20, s21, s22, s23, s24, s25, s26, s27, s28, s29, s30, s31, s32, s33⟩; go_simp; with_reducible rfl⟩) (hS : S w := by exact hHeld) (ha : a.put N v = a' := by simp only [Act.put, List.setIfInBounds_toArray, List.set_cons_zero, List.set_cons_succ, i64_w, i32_w]; rfl) : wpAnyLast P md ops Q S ds (fuel + 1) l a w := take_ l' hi hN hc hQ hy hS ha h
theorem tk35 {P : Program} {md : Region.Mode} {ops : Array Oper} {Q : Exit → Act → World → Prop} {S : World → Prop} {ds : List Nat} (i : Nat) (N : Option Tmp) (l' : Array Bool) {oi : Oper} {v : Value} {fuel : Nat} {l : Array Bool} {a a' : Act} {w : World} (h : wpAnyLast P md ops Q S ds fuel l' a' w)
 (hi : ops[i]? = some oi := by exact rfl) (hN : oi.dst = N := by exact rfl) (hc : takeB md ops ds l l' i = true := by exact take_ofW HT_.out HW_.out (by kernel_rfl)) (hQ : ∀ c a w, Q (.panic c) (a.put oi.dst v) w → Q (.panic c) a w := by exact fun _ _ _ h => h)
 (hy : YieldsIf P ops S oi v a := by exact Or.inl ⟨by rfl, by rintro w' ⟨s0, s1, s2, s3, s4, s5, s6, s7, s8, s9, s10, s11, s12, s13, s14, s15, s16, s17, s18, s19, s20, s21, s22, s23, s24, s25, s26, s27, s28, s29, s30, s31, s32, s33, s34⟩; go_simp; with_reducible rfl⟩) (hS : S w := by exact hHeld) (ha : a.put N v = a' := by simp only [Act.put, List.setIfInBounds_toArray, List.set_cons_zero, List.set_cons_succ, i64_w, i32_w]; rfl) : wpAnyLast P md ops Q S ds (fuel + 1) l a w := take_ l' hi hN hc hQ hy hS ha h
theorem tk36 {P : Program} {md : Region.Mode} {ops : Array Oper} {Q : Exit → Act → World → Prop} {S : World → Prop} {ds : List Nat} (i : Nat) (N : Option Tmp) (l' : Array Bool) {oi : Oper} {v : Value} {fuel : Nat} {l : Array Bool} {a a' : Act} {w : World} (h : wpAnyLast P md ops Q S ds fuel l' a' w)
 (hi : ops[i]? = some oi := by exact rfl) (hN : oi.dst = N := by exact rfl) (hc : takeB md ops ds l l' i = true := by exact take_ofW HT_.out HW_.out (by kernel_rfl)) (hQ : ∀ c a w, Q (.panic c) (a.put oi.dst v) w → Q (.panic c) a w := by exact fun _ _ _ h => h)
 (hy : YieldsIf P ops S oi v a := by exact Or.inl ⟨by rfl, by rintro w' ⟨s0, s1, s2, s3, s4, s5, s6, s7, s8, s9, s10, s11, s12, s13, s14, s15, s16, s17, s18, s19, s20, s21, s22, s23, s24, s25, s26, s27, s28, s29, s30, s31, s32, s33, s34, s35⟩; go_simp; with_reducible rfl⟩) (hS : S w := by exact hHeld) (ha : a.put N v = a' := by simp only [Act.put, List.setIfInBounds_toArray, List.set_cons_zero, List.set_cons_succ, i64_w, i32_w]; rfl) : wpAnyLast P md ops Q S ds (fuel + 1) l a w := take_ l' hi hN hc hQ hy hS ha h
theorem tk37 {P : Program} {md : Region.Mode} {ops : Array Oper} {Q : Exit → Act → World → Prop} {S : World → Prop} {ds : List Nat} (i : Nat) (N : Option Tmp) (l' : Array Bool) {oi : Oper} {v : Value} {fuel : Nat} {l : Array Bool} {a a' : Act} {w : World} (h : wpAnyLast P md ops Q S ds fuel l' a' w)
 (hi : ops[i]? = some oi := by exact rfl) (hN : oi.dst = N := by exact rfl) (hc : takeB md ops ds l l' i = true := by exact take_ofW HT_.out HW_.out (by kernel_rfl)) (hQ : ∀ c a w, Q (.panic c) (a.put oi.dst v) w → Q (.panic c) a w := by exact fun _ _ _ h => h)
 (hy : YieldsIf P ops S oi v a := by exact Or.inl ⟨by rfl, by rintro w' ⟨s0, s1, s2, s3, s4, s5, s6, s7, s8, s9, s10, s11, s12, s13, s14, s15, s16, s17, s18, s19, s20, s21, s22, s23, s24, s25, s26, s27, s28, s29, s30, s31, s32, s33, s34, s35, s36⟩; go_simp; with_reducible rfl⟩) (hS : S w := by exact hHeld) (ha : a.put N v = a' := by simp only [Act.put, List.setIfInBounds_toArray, List.set_cons_zero, List.set_cons_succ, i64_w, i32_w]; rfl) : wpAnyLast P md ops Q S ds (fuel + 1) l a w := take_ l' hi hN hc hQ hy hS ha h
theorem tk38 {P : Program} {md : Region.Mode} {ops : Array Oper} {Q : Exit → Act → World → Prop} {S : World → Prop} {ds : List Nat} (i : Nat) (N : Option Tmp) (l' : Array Bool) {oi : Oper} {v : Value} {fuel : Nat} {l : Array Bool} {a a' : Act} {w : World} (h : wpAnyLast P md ops Q S ds fuel l' a' w)
 (hi : ops[i]? = some oi := by exact rfl) (hN : oi.dst = N := by exact rfl) (hc : takeB md ops ds l l' i = true := by exact take_ofW HT_.out HW_.out (by kernel_rfl)) (hQ : ∀ c a w, Q (.panic c) (a.put oi.dst v) w → Q (.panic c) a w := by exact fun _ _ _ h => h)
 (hy : YieldsIf P ops S oi v a := by exact Or.inl ⟨by rfl, by rintro w' ⟨s0, s1, s2, s3, s4, s5, s6, s7, s8, s9, s10, s11, s12, s13, s14, s15, s16, s17, s18, s19, s20, s21, s22, s23, s24, s25, s26, s27, s28, s29, s30, s31, s32, s33, s34, s35, s36, s37⟩; go_simp; with_reducible rfl⟩) (hS : S w := by exact hHeld) (ha : a.put N v = a' := by simp only [Act.put, List.setIfInBounds_toArray, List.set_cons_zero, List.set_cons_succ, i64_w, i32_w]; rfl) : wpAnyLast P md ops Q S ds (fuel + 1) l a w := take_ l' hi hN hc hQ hy hS ha h
theorem tk39 {P : Program} {md : Region.Mode} {ops : Array Oper} {Q : Exit → Act → World → Prop} {S : World → Prop} {ds : List Nat} (i : Nat) (N : Option Tmp) (l' : Array Bool) {oi : Oper} {v : Value} {fuel : Nat} {l : Array Bool} {a a' : Act} {w : World} (h : wpAnyLast P md ops Q S ds fuel l' a' w)
 (hi : ops[i]? = some oi := by exact rfl) (hN : oi.dst = N := by exact rfl) (hc : takeB md ops ds l l' i = true := by exact take_ofW HT_.out HW_.out (by kernel_rfl)) (hQ : ∀ c a w, Q (.panic c) (a.put oi.dst v) w → Q (.panic c) a w := by exact fun _ _ _ h => h)
 (hy : YieldsIf P ops S oi v a := by exact Or.inl ⟨by rfl, by rintro w' ⟨s0, s1, s2, s3, s4, s5, s6, s7, s8, s9, s10, s11, s12, s13, s14, s15, s16, s17, s18, s19, s20, s21, s22, s23, s24, s25, s26, s27, s28, s29, s30, s31, s32, s33, s34, s35, s36, s37, s38⟩; go_simp; with_reducible rfl⟩) (hS : S w := by exact hHeld) (ha : a.put N v = a' := by simp only [Act.put, List.setIfInBounds_toArray, List.set_cons_zero, List.set_cons_succ, i64_w, i32_w]; rfl) : wpAnyLast P md ops Q S ds (fuel + 1) l a w := take_ l' hi hN hc hQ hy hS ha h
theorem tk40 {P : Program} {md : Region.Mode} {ops : Array Oper} {Q : Exit → Act → World → Prop} {S : World → Prop} {ds : List Nat} (i : Nat) (N : Option Tmp) (l' : Array Bool) {oi : Oper} {v : Value} {fuel : Nat} {l : Array Bool} {a a' : Act} {w : World} (h : wpAnyLast P md ops Q S ds fuel l' a' w)
 (hi : ops[i]? = some oi := by exact rfl) (hN : oi.dst = N := by exact rfl) (hc : takeB md ops ds l l' i = true := by exact take_ofW HT_.out HW_.out (by kernel_rfl)) (hQ : ∀ c a w, Q (.panic c) (a.put oi.dst v) w → Q (.panic c) a w := by exact fun _ _ _ h => h)
 (hy : YieldsIf P ops S oi v a := by exact Or.inl ⟨by rfl, by rintro w' ⟨s0, s1, s2, s3, s4, s5, s6, s7, s8, s9, s10, s11, s12, s13, s14, s15, s16, s17, s18, s19, s20, s21, s22, s23, s24, s25, s26, s27, s28, s29, s30, s31, s32, s33, s34, s35, s36, s37, s38, s39⟩; go_simp; with_reducible rfl⟩) (hS : S w := by exact hHeld) (ha : a.put N v = a' := by simp only [Act.put, List.setIfInBounds_toArray, List.set_cons_zero, List.set_cons_succ, i64_w, i32_w]; rfl) : wpAnyLast P md ops Q S ds (fuel + 1) l a w := take_ l' hi hN hc hQ hy hS ha h
theorem tk41 {P : Program} {md : Region.Mode} {ops : Array Oper} {Q : Exit → Act → World → Prop} {S : World → Prop} {ds : List Nat} (i : Nat) (N : Option Tmp) (l' : Array Bool) {oi : Oper} {v : Value} {fuel : Nat} {l : Array Bool} {a a' : Act} {w : World} (h : wpAnyLast P md ops Q S ds fuel l' a' w)
 (hi : ops[i]? = some oi := by exact rfl) (hN : oi.dst = N := by exact rfl) (hc : takeB md ops ds l l' i = true := by exact take_ofW HT_.out HW_.out (by kernel_rfl)) (hQ : ∀ c a w, Q (.panic c) (a.put oi.dst v) w → Q (.panic c) a w := by exact fun _ _ _ h => h)
 (hy : YieldsIf P ops S oi v a := by exact Or.inl ⟨by rfl, by rintro w' ⟨s0, s1, s2, s3, s4, s5, s6, s7, s8, s9, s10, s11, s12, s13, s14, s15, s16, s17, s18, s19, s20, s21, s22, s23, s24, s25, s26, s27, s28, s29, s30, s31, s32, s33, s34, s35, s36, s37, s38, s39, s40⟩; go_simp; with_reducible rfl⟩) (hS : S w := by exact hHeld) (ha : a.put N v = a' := by simp only [Act.put, List.setIfInBounds_toArray, List.set_cons_zero, List.set_cons_succ, i64_w, i32_w]; rfl) : wpAnyLast P md ops Q S ds (fuel + 1) l a w := take_ l' hi hN hc hQ hy hS ha h
theorem tk42 {P : Program} {md : Region.Mode} {ops : Array Oper} {Q : Exit → Act → World → Prop} {S : World → Prop} {ds : List Nat} (i : Nat) (N : Option Tmp) (l' : Array Bool) {oi : Oper} {v : Value} {fuel : Nat} {l : Array Bool} {a a' : Act} {w : World} (h : wpAnyLast P md ops Q S ds fuel l' a' w)
 (hi : ops[i]? = some oi := by exact rfl) (hN : oi.dst = N := by exact rfl) (hc : takeB md ops ds l l' i = true := by exact take_ofW HT_.out HW_.out (by kernel_rfl)) (hQ : ∀ c a w, Q (.panic c) (a.put oi.dst v) w → Q (.panic c) a w := by exact fun _ _ _ h => h)
 (hy : YieldsIf P ops S oi v a := by exact Or.inl ⟨by rfl, by rintro w' ⟨s0, s1, s2, s3, s4, s5, s6, s7, s8, s9, s10, s11, s12, s13, s14, s15, s16, s17, s18, s19, s20, s21, s22, s23, s24, s25, s26, s27, s28, s29, s30, s31, s32, s33, s34, s35, s36, s37, s38, s39, s40, s41⟩; go_simp; with_reducible rfl⟩) (hS : S w := by exact hHeld) (ha : a.put N v = a' := by simp only [Act.put, List.setIfInBounds_toArray, List.set_cons_zero, List.set_cons_succ, i64_w, i32_w]; rfl) : wpAnyLast P md ops Q S ds (fuel + 1) l a w := take_ l' hi hN hc hQ hy hS ha h
theorem tk43 {P : Program} {md : Region.Mode} {ops : Array Oper} {Q : Exit → Act → World → Prop} {S : World → Prop} {ds : List Nat} (i : Nat) (N : Option Tmp) (l' : Array Bool) {oi : Oper} {v : Value} {fuel : Nat} {l : Array Bool} {a a' : Act} {w : World} (h : wpAnyLast P md ops Q S ds fuel l' a' w)
 (hi : ops[i]? = some oi := by exact rfl) (hN : oi.dst = N := by exact rfl) (hc : takeB md ops ds l l' i = true := by exact take_ofW HT_.out HW_.out (by kernel_rfl)) (hQ : ∀ c a w, Q (.panic c) (a.put oi.dst v) w → Q (.panic c) a w := by exact fun _ _ _ h => h)
 (hy : YieldsIf P ops S oi v a := by exact Or.inl ⟨by rfl, by rintro w' ⟨s0, s1, s2, s3, s4, s5, s6, s7, s8, s9, s10, s11, s12, s13, s14, s15, s16, s17, s18, s19, s20, s21, s22, s23, s24, s25, s26, s27, s28, s29, s30, s31, s32, s33, s34, s35, s36, s37, s38, s39, s40, s41, s42⟩; go_simp; with_reducible rfl⟩) (hS : S w := by exact hHeld) (ha : a.put N v = a' := by simp only [Act.put, List.setIfInBounds_toArray, List.set_cons_zero, List.set_cons_succ, i64_w, i32_w]; rfl) : wpAnyLast P md ops Q S ds (fuel + 1) l a w := take_ l' hi hN hc hQ hy hS ha h
theorem tk44 {P : Program} {md : Region.Mode} {ops : Array Oper} {Q : Exit → Act → World → Prop} {S : World → Prop} {ds : List Nat} (i : Nat) (N : Option Tmp) (l' : Array Bool) {oi : Oper} {v : Value} {fuel : Nat} {l : Array Bool} {a a' : Act} {w : World} (h : wpAnyLast P md ops Q S ds fuel l' a' w)
 (hi : ops[i]? = some oi := by exact rfl) (hN : oi.dst = N := by exact rfl) (hc : takeB md ops ds l l' i = true := by exact take_ofW HT_.out HW_.out (by kernel_rfl)) (hQ : ∀ c a w, Q (.panic c) (a.put oi.dst v) w → Q (.panic c) a w := by exact fun _ _ _ h => h)
 (hy : YieldsIf P ops S oi v a := by exact Or.inl ⟨by rfl, by rintro w' ⟨s0, s1, s2, s3, s4, s5, s6, s7, s8, s9, s10, s11, s12, s13, s14, s15, s16, s17, s18, s19, s20, s21, s22, s23, s24, s25, s26, s27, s28, s29, s30, s31, s32, s33, s34, s35, s36, s37, s38, s39, s40, s41, s42, s43⟩; go_simp; with_reducible rfl⟩) (hS : S w := by exact hHeld) (ha : a.put N v = a' := by simp only [Act.put, List.setIfInBounds_toArray, List.set_cons_zero, List.set_cons_succ, i64_w, i32_w]; rfl) : wpAnyLast P md ops Q S ds (fuel + 1) l a w := take_ l' hi hN hc hQ hy hS ha h
theorem tk45 {P : Program} {md : Region.Mode} {ops : Array Oper} {Q : Exit → Act → World → Prop} {S : World → Prop} {ds : List Nat} (i : Nat) (N : Option Tmp) (l' : Array Bool) {oi : Oper} {v : Value} {fuel : Nat} {l : Array Bool} {a a' : Act} {w : World} (h : wpAnyLast P md ops Q S ds fuel l' a' w)
 (hi : ops[i]? = some oi := by exact rfl) (hN : oi.dst = N := by exact rfl) (hc : takeB md ops ds l l' i = true := by exact take_ofW HT_.out HW_.out (by kernel_rfl)) (hQ : ∀ c a w, Q (.panic c) (a.put oi.dst v) w → Q (.panic c) a w := by exact fun _ _ _ h => h)
 (hy : YieldsIf P ops S oi v a := by exact Or.inl ⟨by rfl, by rintro w' ⟨s0, s1, s2, s3, s4, s5, s6, s7, s8, s9, s10, s11, s12, s13, s14, s15, s16, s17, s18, s19, s20, s21, s22, s23, s24, s25, s26, s27, s28, s29, s30, s31, s32, s33, s34, s35, s36, s37, s38, s39, s40, s41, s42, s43, s44⟩; go_simp; with_reducible rfl⟩) (hS : S w := by exact hHeld) (ha : a.put N v = a' := by simp only [Act.put, List.setIfInBounds_toArray, List.set_cons_zero, List.set_cons_succ, i64_w, i32_w]; rfl) : wpAnyLast P md ops Q S ds (fuel + 1) l a w := take_ l' hi hN hc hQ hy hS ha h
theorem tk46 {P : Program} {md : Region.Mode} {ops : Array Oper} {Q : Exit → Act → World → Prop} {S : World → Prop} {ds : List Nat} (i : Nat) (N : Option Tmp) (l' : Array Bool) {oi : Oper} {v : Value} {fuel : Nat} {l : Array Bool} {a a' : Act} {w : World} (h : wpAnyLast P md ops Q S ds fuel l' a' w)
 (hi : ops[i]? = some oi := by exact rfl) (hN : oi.dst = N := by exact rfl) (hc : takeB md ops ds l l' i = true := by exact take_ofW HT_.out HW_.out (by kernel_rfl)) (hQ : ∀ c a w, Q (.panic c) (a.put oi.dst v) w → Q (.panic c) a w := by exact fun _ _ _ h => h)
 (hy : YieldsIf P ops S oi v a := by exact Or.inl ⟨by rfl, by rintro w' ⟨s0, s1, s2, s3, s4, s5, s6, s7, s8, s9, s10, s11, s12, s13, s14, s15, s16, s17, s18, s19, s20, s21, s22, s23, s24, s25, s26, s27, s28, s29, s30, s31, s32, s33, s34, s35, s36, s37, s38, s39, s40, s41, s42, s43, s44, s45⟩; go_simp; with_reducible rfl⟩) (hS : S w := by exact hHeld) (ha : a.put N v = a' := by simp only [Act.put, List.setIfInBounds_toArray, List.set_cons_zero, List.set_cons_succ, i64_w, i32_w]; rfl) : wpAnyLast P md ops Q S ds (fuel + 1) l a w := take_ l' hi hN hc hQ hy hS ha h
theorem tk47 {P : Program} {md : Region.Mode} {ops : Array Oper} {Q : Exit → Act → World → Prop} {S : World → Prop} {ds : List Nat} (i : Nat) (N : Option Tmp) (l' : Array Bool) {oi : Oper} {v : Value} {fuel : Nat} {l : Array Bool} {a a' : Act} {w : World} (h : wpAnyLast P md ops Q S ds fuel l' a' w)
 (hi : ops[i]? = some oi := by exact rfl) (hN : oi.dst = N := by exact rfl) (hc : takeB md ops ds l l' i = true := by exact take_ofW HT_.out HW_.out (by kernel_rfl)) (hQ : ∀ c a w, Q (.panic c) (a.put oi.dst v) w → Q (.panic c) a w := by exact fun _ _ _ h => h)
 (hy : YieldsIf P ops S oi v a := by exact Or.inl ⟨by rfl, by rintro w' ⟨s0, s1, s2, s3, s4, s5, s6, s7, s8, s9, s10, s11, s12, s13, s14, s15, s16, s17, s18, s19, s20, s21, s22, s23, s24, s25, s26, s27, s28, s29, s30, s31, s32, s33, s34, s35, s36, s37, s38, s39, s40, s41, s42, s43, s44, s45, s46⟩; go_simp; with_reducible rfl⟩) (hS : S w := by exact hHeld) (ha : a.put N v = a' := by simp only [Act.put, List.setIfInBounds_toArray, List.set_cons_zero, List.set_cons_succ, i64_w, i32_w]; rfl) : wpAnyLast P md ops Q S ds (fuel + 1) l a w := take_ l' hi hN hc hQ hy hS ha h
theorem tk48 {P : Program} {md : Region.Mode} {ops : Array Oper} {Q : Exit → Act → World → Prop} {S : World → Prop} {ds : List Nat} (i : Nat) (N : Option Tmp) (l' : Array Bool) {oi : Oper} {v : Value} {fuel : Nat} {l : Array Bool} {a a' : Act} {w : World} (h : wpAnyLast P md ops Q S ds fuel l' a' w)
 (hi : ops[i]? = some oi := by exact rfl) (hN : oi.dst = N := by exact rfl) (hc : takeB md ops ds l l' i = true := by exact take_ofW HT_.out HW_.out (by kernel_rfl)) (hQ : ∀ c a w, Q (.panic c) (a.put oi.dst v) w → Q (.panic c) a w := by exact fun _ _ _ h => h)
 (hy : YieldsIf P ops S oi v a := by exact Or.inl ⟨by rfl, by rintro w' ⟨s0, s1, s2, s3, s4, s5, s6, s7, s8, s9, s10, s11, s12, s13, s14, s15, s16, s17, s18, s19, s20, s21, s22, s23, s24, s25, s26, s27, s28, s29, s30, s31, s32, s33, s34, s35, s36, s37, s38, s39, s40, s41, s42, s43, s44, s45, s46, s47⟩; go_simp; with_reducible rfl⟩) (hS : S w := by exact hHeld) (ha : a.put N v = a' := by simp only [Act.put, List.setIfInBounds_toArray, List.set_cons_zero, List.set_cons_succ, i64_w, i32_w]; rfl) : wpAnyLast P md ops Q S ds (fuel + 1) l a w := take_ l' hi hN hc hQ hy hS ha h
end
section
open Go.RowKit Go.Proofs.YtckhjehibjdjdaaW.PrintWords Go.Proofs.YtckhjehibjdjdaaW.PrintLast Go.Proofs.YtckhjehibjdjdaaW.PrintMore
theorem hb_ {w W : World} (h : Below w.heap.size w W := by repeat (first | (with_reducible first | exact HB.out | apply below_alloc | apply pw_below_drewN | apply below_drew1 | refine below_set ?_ (Aside0.out (by with_reducible assumption))) | exact HB.out)) : Below w.heap.size w W := h
theorem bk_ {W W' w' : World} {g : Nat} {o : Obj} (h : Aside0 (W.heap[g]? = some o)) (hb : Below W'.heap.size W' w') (e : W'.heap[g]? = some o := by (with_reducible repeat (first | refine blk_drewN ?_ _ | refine blk_drew ?_ | refine blk_alloc ?_ _)); exact Aside0.out (by with_reducible assumption)) : Aside0 (w'.heap[g]? = some o) := ⟨blk_below e hb⟩
theorem bo_ {W W' : World} {g : Nat} {o : Obj} (h : Aside0 (W.heap[g]? = some o)) (e : W'.heap[g]? = some o := by (with_reducible repeat (first | refine blk_drewN ?_ _ | refine blk_drew ?_ | refine blk_alloc ?_ _)); exact Aside0.out (by with_reducible assumption)) : W'.heap[g]? = some o := e
theorem hs_ {w W w2 : World} (k : Below W.heap.size W w2) (h : Below w.heap.size w W := by repeat (first | (with_reducible first | exact HB.out | apply below_alloc | apply pw_below_drewN | apply below_drew1 | refine below_set ?_ (Aside0.out (by with_reducible assumption))) | exact HB.out)) : Aside0 (Below w.heap.size w w2) := ⟨below_step h k⟩
theorem ge_ {w W : World} {g : Nat} (hg : g = W.heap.size) (h : Below w.heap.size w W := by repeat (first | (with_reducible first | exact HB.out | apply below_alloc | apply pw_below_drewN | apply below_drew1 | refine below_set ?_ (Aside0.out (by with_reducible assumption))) | exact HB.out)) : Aside0 (w.heap.size ≤ g) := ⟨hg ▸ below_size h⟩
theorem nl_ {W W' : World} {g g' : Nat} {o : Obj} (h : Aside0 (W.heap[g]? = some o)) (hg : g' = W'.heap.size) (e : W'.heap[g]? = some o := by (with_reducible repeat (first | refine blk_drewN ?_ _ | refine blk_drew ?_ | refine blk_alloc ?_ _)); exact Aside0.out (by with_reducible assumption)) : Aside0 (g ≠ g') := ⟨by rw [hg]; exact Nat.ne_of_lt (blk_lt e)⟩
theorem nr_ {W W' : World} {g g' : Nat} {o : Obj} (h : Aside0 (W.heap[g]? = some o)) (hg : g' = W'.heap.size) (e : W'.heap[g]? = some o := by (with_reducible repeat (first | refine blk_drewN ?_ _ | refine blk_drew ?_ | refine blk_alloc ?_ _)); exact Aside0.out (by with_reducible assumption)) : Aside0 (g' ≠ g) := ⟨by rw [hg]; exact Nat.ne_of_gt (blk_lt e)⟩
theorem cs_ {α : Type} {K : Kd α} {w W : World} {A : Option Addr} {n : Nat} {l : List α} (h : Aside0 (Kd.C K w A n l)) (e : Kd.C K W A n l := by repeat (first | exact Kd.C_below (Aside0.out (by with_reducible assumption)) HB.out | (with_reducible refine Kd.C_alloc ?_ _) | (with_reducible refine Kd.C_drewN ?_ _) | (with_reducible refine Kd.C_drew ?_))) : Kd.C K W A n l := e
theorem bs_ {p : Prop} (e : p := by (repeat (with_reducible first | refine blk_drewN ?_ _ | refine blk_drew ?_ | refine blk_alloc ?_ _ | apply blk_put | apply blk_far)); exact Aside0.out (by assumption); all_goals first | rfl | exact Aside0.out (by assumption)) : p := e
theorem kcl_ {w : World} {g i : Nat} {t : TypeId} {cs : Array Value} {v : Value} (h : Aside0 (w.heap[g]? = some (.cells cs t (0, 0)))) (e : cs[i]? = some v) : w.cell? ⟨g, i, none⟩ = some v := (blk_cell h.out i).trans e
theorem kcd_ {w : World} {g i n : Nat} {t : TypeId} {cs : Array Value} {v : Value} (h : Aside0 (w.heap[g]? = some (.cells cs t (0, 0)))) (e : cs[i]? = some v) : (w.drewN n).cell? ⟨g, i, none⟩ = some v := (blk_cell h.out i).trans e
theorem cx_ {w W : World} {a : Addr} {v : Value} (h : w.cell? a = some v) (hb : Below w.heap.size w W := by exact HB.out) : W.cell? a = some v := (hb.cell (World.block_lt_of_cell? w _ h)).trans h
theorem pv {P : Program} {md : Region.Mode} {ops : Array Oper} {Q : Exit → Act → World → Prop} {S : World → Prop} {ds : List Nat} (i : Nat) (N : Option Tmp) (l' : Array Bool) {oi : Oper} {fuel : Nat} {l : Array Bool} {a a' : Act} {w : World} (h : wpAnyLast P md ops Q S ds fuel l' a' w)
 (hi : ops[i]? = some oi := by exact rfl) (hN : oi.dst = N := by exact rfl) (hc : anyB md ops l l' i = true := by exact any_of HT_.out (by kernel_rfl)) (hQ : ∀ c a w, Q (.panic c) (a.put oi.dst undef) w → Q (.panic c) a w := by exact fun _ _ _ h => h)
 (hy : Yields P ops oi undef a := by exact Or.inr ⟨by rfl, rfl⟩) (ha : a.put N undef = a' := by simp only [Act.put, List.setIfInBounds_toArray, List.set_cons_zero, List.set_cons_succ, i64_w, i32_w]; rfl) : wpAnyLast P md ops Q S ds (fuel + 1) l a w := pure_ l' hi hN hc hQ hy ha h
theorem bz2_ {W : World} {g : Nat} {t : TypeId} {a b : Value} (h : Aside0 (W.heap[g]? = some (.cells #[a, b] t (0, 0)))) : W.cell? ⟨g, 0, none⟩ = some a ∧ W.cell? ⟨g, 1, none⟩ = some b ∧ W.frozen? ⟨g, 0, none⟩ = false ∧ W.frozen? ⟨g, 1, none⟩ = false := ⟨blk_cell h.out 0, blk_cell h.out 1, blk_frozen h.out 0, blk_frozen h.out 1⟩
theorem bz4_ {W : World} {g : Nat} {t : TypeId} {a b c d : Value} (h : Aside0 (W.heap[g]? = some (.cells #[a, b, c, d] t (0, 0)))) : W.cell? ⟨g, 0, none⟩ = some a ∧ W.cell? ⟨g, 1, none⟩ = some b ∧ W.cell? ⟨g, 2, none⟩ = some c ∧ W.cell? ⟨g, 3, none⟩ = some d ∧ W.frozen? ⟨g, 0, none⟩ = false ∧ W.frozen? ⟨g, 1, none⟩ = false ∧ W.frozen? ⟨g, 2, none⟩ = false ∧ W.frozen? ⟨g, 3, none⟩ = false := ⟨blk_cell h.out 0, blk_cell h.out 1, blk_cell h.out 2, blk_cell h.out 3, blk_frozen h.out 0, blk_frozen h.out 1, blk_frozen h.out 2, blk_frozen h.out 3⟩
theorem bz8_ {W : World} {g : Nat} {t : TypeId} {v0 v1 v2 v3 v4 v5 v6 v7 : Value} (h : Aside0 (W.heap[g]? = some (.cells #[v0, v1, v2, v3, v4, v5, v6, v7] t (0, 0)))) : W.cell? ⟨g, 0, none⟩ = some v0 ∧ W.cell? ⟨g, 1, none⟩ = some v1 ∧ W.cell? ⟨g, 2, none⟩ = some v2 ∧ W.cell? ⟨g, 3, none⟩ = some v3 ∧ W.cell? ⟨g, 4, none⟩ = some v4 ∧ W.cell? ⟨g, 5, none⟩ = some v5 ∧ W.cell? ⟨g, 6, none⟩ = some v6 ∧ W.cell? ⟨g, 7, none⟩ = some v7 ∧ W.frozen? ⟨g, 0, none⟩ = false ∧ W.frozen? ⟨g, 1, none⟩ = false ∧ W.frozen? ⟨g, 2, none⟩ = false ∧ W.frozen? ⟨g, 3, none⟩ = false ∧ W.frozen? ⟨g, 4, none⟩ = false ∧ W.frozen? ⟨g, 5, none⟩ = false ∧ W.frozen? ⟨g, 6, none⟩ = false ∧ W.frozen? ⟨g, 7, none⟩ = false := ⟨blk_cell h.out 0, blk_cell h.out 1, blk_cell h.out 2, blk_cell h.out 3, blk_cell h.out 4, blk_cell h.out 5, blk_cell h.out 6, blk_cell h.out 7, blk_frozen h.out 0, blk_frozen h.out 1, blk_frozen h.out 2, blk_frozen h.out 3, blk_frozen h.out 4, blk_frozen h.out 5, blk_frozen h.out 6, blk_frozen h.out 7⟩
theorem bz9_ {W : World} {g : Nat} {t : TypeId} {v0 v1 v2 v3 v4 v5 v6 v7 v8 : Value} (h : Aside0 (W.heap[g]? = some (.cells #[v0, v1, v2, v3, v4, v5, v6, v7, v8] t (0, 0)))) : W.cell? ⟨g, 0, none⟩ = some v0 ∧ W.cell? ⟨g, 1, none⟩ = some v1 ∧ W.cell? ⟨g, 2, none⟩ = some v2 ∧ W.cell? ⟨g, 3, none⟩ = some v3 ∧ W.cell? ⟨g, 4, none⟩ = some v4 ∧ W.cell? ⟨g, 5, none⟩ = some v5 ∧ W.cell? ⟨g, 6, none⟩ = some v6 ∧ W.cell? ⟨g, 7, none⟩ = some v7 ∧ W.cell? ⟨g, 8, none⟩ = some v8 ∧ W.frozen? ⟨g, 0, none⟩ = false ∧ W.frozen? ⟨g, 1, none⟩ = false ∧ W.frozen? ⟨g, 2, none⟩ = false ∧ W.frozen? ⟨g, 3, none⟩ = false ∧ W.frozen? ⟨g, 4, none⟩ = false ∧ W.frozen? ⟨g, 5, none⟩ = false ∧ W.frozen? ⟨g, 6, none⟩ = false ∧ W.frozen? ⟨g, 7, none⟩ = false ∧ W.frozen? ⟨g, 8, none⟩ = false := ⟨blk_cell h.out 0, blk_cell h.out 1, blk_cell h.out 2, blk_cell h.out 3, blk_cell h.out 4, blk_cell h.out 5, blk_cell h.out 6, blk_cell h.out 7, blk_cell h.out 8, blk_frozen h.out 0, blk_frozen h.out 1, blk_frozen h.out 2, blk_frozen h.out 3, blk_frozen h.out 4, blk_frozen h.out 5, blk_frozen h.out 6, blk_frozen h.out 7, blk_frozen h.out 8⟩
end


theorem Z0 {p : Prop} (h : p := by (try simp only [List.map_toArray, List.map_cons, List.map_nil]); first | done | rfl | (simp only [List.length_drop, List.length_take]; rfl)) : p := h
theorem Z1 {p : Prop} (h : p := by first | (with_reducible assumption) | assumption) : p := h
theorem Z2 {p : Prop} (h : p := by (with_reducible repeat (first | apply Kd.R_alloc | apply Kd.R_drewN | apply Kd.R_drew)); exact (Kd.R_mono (Kd.R_far (p := ⟨gb367, 3, none⟩) (Kd.R_far (p := ⟨gb367, 2, none⟩) (Kd.R_far (p := ⟨gb367, 1, none⟩) (Kd.R_far (p := ⟨gb367, 0, none⟩) (Kd.R_types HO_6.out BK367.out (by decide)) (fun _ hk => hk.2) (.int .i64 ((rd_T52 l1 x7_1).f0.f0))) (fun _ hk => hk.2) (.int .i64 ((rd_T52 l1 x7_1).f0.f1))) (fun _ hk => hk.2) (.int .u64 ((rd_T52 l1 x7_1).f1))) (fun _ hk => hk.2) (.int .i64 ((rd_T52 l1 x7_1).f2))) (fun _ h_ => h_.1))) : p := h
theorem Z3 {p : Prop} (h : p := by (with_reducible repeat (first | apply Kd.R_alloc | apply Kd.R_drewN | apply Kd.R_drew)); exact (Kd.R_mono (Kd.R_far (p := ⟨gb188, 3, none⟩) (Kd.R_far (p := ⟨gb188, 2, none⟩) (Kd.R_far (p := ⟨gb188, 1, none⟩) (Kd.R_far (p := ⟨gb188, 0, none⟩) (Kd.R_types HO_6.out BK188.out (by decide)) (fun _ hk => hk.2) (.int .i64 ((rd_T52 l1 x7_1).f0.f0))) (fun _ hk => hk.2) (.int .i64 ((rd_T52 l1 x7_1).f0.f1))) (fun _ hk => hk.2) (.int .u64 ((rd_T52 l1 x7_1).f1))) (fun _ hk => hk.2) (.int .i64 ((rd_T52 l1 x7_1).f2))) (fun _ h_ => h_.1))) : p := h
theorem Z4 {p : Prop} (h : p := by first | rfl | (simp; done) | (simp [*]; done)) : p := h
theorem Z5 {p : Prop} (h : p := by (with_reducible repeat (first | apply Kd.R_alloc | apply Kd.R_drewN | apply Kd.R_drew)); exact (Kd.R_mono (Kd.R_far (p := ⟨gb675, 1, none⟩) (Kd.R_far (p := ⟨gb675, 0, none⟩) (Kd.R_types HO_5.out BK675.out (by decide)) (fun _ hk => hk.2) (.int .i64 ((rd_T24 l0_5 a1_1).f0))) (fun _ hk => hk.2) (.int .i64 ((rd_T24 l0_5 a1_1).f1))) (fun _ h_ => h_.1))) : p := h
theorem Z6 {p : Prop} (h : p := by (with_reducible repeat (first | apply Kd.R_alloc | apply Kd.R_drewN | apply Kd.R_drew)); exact HO_6.out) : p := h
theorem Z7 {p : Prop} (h : p := by rw [List.length_append]; have := HLN.out; have := HL1.out; omega) : p := h
theorem Z8 {p : Prop} (h : p := by (with_reducible repeat (first | apply Kd.R_alloc | apply Kd.R_drewN | apply Kd.R_drew)); exact HO_5.out) : p := h
theorem Z9 {p : Prop} (h : p := by (with_reducible repeat (first | apply Kd.R_alloc | apply Kd.R_drewN | apply Kd.R_drew)); exact (Kd.R_mono (Kd.R_far (p := ⟨gb673, 1, none⟩) (Kd.R_far (p := ⟨gb673, 0, none⟩) (Kd.R_types HO_5.out BK673.out (by decide)) (fun _ hk => hk.2) (.int .i64 t671)) (fun _ hk => hk.2) (.int .i64 t672)) (fun _ h_ => h_.1))) : p := h
theorem Z10 {p : Prop} (h : p := by have := HL1.out; omega) : p := h
theorem Z11 {p : Prop} (h : p := by first | (rw [add_block]; exact hn674_1) | (show (Addr.add _ _).block ≠ _; rw [add_block]; exact hn674_1) | exact hn674_1) : p := h
theorem Z12 {p : Prop} (h : p := by first | (rw [add_block]; exact hn674_0) | (show (Addr.add _ _).block ≠ _; rw [add_block]; exact hn674_0) | exact hn674_0) : p := h
theorem Z13 {p : Prop} (h : p := by have := HLN.out; omega) : p := h
theorem Z14 {p : Prop} (h : p := by have := HML1.out; have := HL1.out; omega) : p := h
theorem Z15 {p : Prop} (h : p := by have := HLN.out; have := HL1.out; omega) : p := h
theorem Z16 {p : Prop} (h : p := by have := HL1.out; have := HLN.out; omega) : p := h
theorem Z17 {p : Prop} (h : p := by have := HB.out.size; omega) : p := h
end Go.Proofs.Ytckhjehibjdjdaa
namespace Go.Proofs.Ytckhjehibjdjdaa.P
open Go.RowKit Go.Proofs.YtckhjehibjdjdaaW.PrintWords Go.Proofs.YtckhjehibjdjdaaW.PrintLast Go.Proofs.YtckhjehibjdjdaaW.PrintMore
attribute [local go_sem] max2_int min2_int max_two min_two max_three min_three max_four min_four
set_option linter.unusedVariables false
set_option linter.unusedSimpArgs false
def errW : Option Int → Value
 | none => .nilIface
 | some c => .iface 0 (.int .i64 c)
theorem errW_none : errW none = .nilIface := rfl
theorem errW_some (c : Int) : errW (some c) = .iface 0 (.int .i64 c) := rfl
theorem info3 : (Try.prog.info? 3).map (fun i => (i.zero, i.size, i.bytes)) = some (some (.int .i64 0), 1, 8) := by kernel_rfl
theorem info51 : (Try.prog.info? 51).map (fun i => (i.zero, i.size, i.bytes)) = some (some (.agg #[(.int .i64 0), (.int .i64 0), (.int .u64 0), (.int .i64 0)]), 4, 32) := by kernel_rfl
theorem info52 : (Try.prog.info? 52).map (fun i => (i.zero, i.size, i.bytes)) = some (some (.agg #[(.int .i64 0), (.int .i64 0), (.int .u64 0), (.int .i64 0)]), 4, 32) := by kernel_rfl
structure S48 where
 f0 : Int
 f1 : Int
def z48 : S48 := ⟨(0 : Int), (0 : Int)⟩
def k48 : Kd S48 := Kd.iso (Kd.pair (Kd.int .i64) (Kd.int .i64)) (fun x : S48 => (x.f0, x.f1))
theorem k48_open {w : World} {x : S48} {cs : List Value} (h : k48.K w x cs) : cs = [.int .i64 x.f0, .int .i64 x.f1] := by
 obtain ⟨_, _, rfl, rfl, rfl⟩ := h
 exact rfl
theorem k48_openM {w : World} {base : Nat} {ok : Nat → Prop} {x : S48} {cs : List Value} (h : k48.M w base ok x cs) : cs = [.int .i64 x.f0, .int .i64 x.f1] := by
 obtain ⟨_, _, rfl, rfl, rfl⟩ := h
 exact rfl
theorem k48_mkM (w : World) (base : Nat) (ok : Nat → Prop) (x : S48)  : k48.M w base ok x [.int .i64 x.f0, .int .i64 x.f1] := ⟨[.int .i64 x.f0], [.int .i64 x.f1], rfl, rfl, rfl⟩
structure S51 where
 f0 : S48
 f1 : Int
 f2 : Int
def z51 : S51 := ⟨z48, (0 : Int), (0 : Int)⟩
def k51 : Kd S51 := Kd.iso (Kd.pair k48 (Kd.pair (Kd.int .u64) (Kd.int .i64))) (fun x : S51 => (x.f0, x.f1, x.f2))
theorem k51_open {w : World} {x : S51} {cs : List Value} (h : k51.K w x cs) : cs = [.int .i64 x.f0.f0, .int .i64 x.f0.f1, .int .u64 x.f1, .int .i64 x.f2] := by
 obtain ⟨_, _, rfl, s0, ⟨_, _, rfl, rfl, rfl⟩⟩ := h
 obtain rfl := k48_open s0
 exact rfl
theorem k51_openM {w : World} {base : Nat} {ok : Nat → Prop} {x : S51} {cs : List Value} (h : k51.M w base ok x cs) : cs = [.int .i64 x.f0.f0, .int .i64 x.f0.f1, .int .u64 x.f1, .int .i64 x.f2] := by
 obtain ⟨_, _, rfl, s0, ⟨_, _, rfl, rfl, rfl⟩⟩ := h
 obtain rfl := k48_openM s0
 exact rfl
theorem k51_mkM (w : World) (base : Nat) (ok : Nat → Prop) (x : S51)  : k51.M w base ok x [.int .i64 x.f0.f0, .int .i64 x.f0.f1, .int .u64 x.f1, .int .i64 x.f2] := ⟨[.int .i64 x.f0.f0, .int .i64 x.f0.f1], [.int .u64 x.f1, .int .i64 x.f2], rfl, (k48_mkM w base ok x.f0 ), ⟨[.int .u64 x.f1], [.int .i64 x.f2], rfl, rfl, rfl⟩⟩
def rd_T51 (xs : List S51) (i : Int) : S51 := xs.getD i.toNat z51
theorem at_T51 {w : World} {A : Option Addr} {n : Nat} {xs : List S51} (h : Kd.C k51 w A n xs) (i : Int) (h0 : 0 ≤ i) (h1 : i < n) : ∃ ad , A = some ad ∧ w.cell? (ad.add (i.toNat * 4)) = some (.int .i64 (rd_T51 xs i).f0.f0) ∧ w.cell? ⟨(ad.add (i.toNat * 4)).block, (ad.add (i.toNat * 4)).off + 1, none⟩ = some (.int .i64 (rd_T51 xs i).f0.f1) ∧ w.cell? ⟨(ad.add (i.toNat * 4)).block, (ad.add (i.toNat * 4)).off + 2, none⟩ = some (.int .u64 (rd_T51 xs i).f1) ∧ w.cell? ⟨(ad.add (i.toNat * 4)).block, (ad.add (i.toNat * 4)).off + 3, none⟩ = some (.int .i64 (rd_T51 xs i).f2) := by
 obtain ⟨ad, c, e, _, hK, hc0⟩ := Kd.C_get h z51 i h0 h1
 have hc : ∀ j u, c[j]? = some u → w.cell? (ad.add (i.toNat * 4 + j)) = some u := hc0
 obtain rfl := k51_open hK
 exact ⟨ad, e, hc 0 _ rfl, by rw [← add_field _ _ 1 (by omega)]; exact hc 1 _ rfl, by rw [← add_field _ _ 2 (by omega)]; exact hc 2 _ rfl, by rw [← add_field _ _ 3 (by omega)]; exact hc 3 _ rfl⟩
structure S24 where
 f0 : Int
 f1 : Int
def z24 : S24 := ⟨(0 : Int), (0 : Int)⟩
def k24 : Kd S24 := Kd.iso (Kd.pair (Kd.int .i64) (Kd.int .i64)) (fun x : S24 => (x.f0, x.f1))
theorem k24_open {w : World} {x : S24} {cs : List Value} (h : k24.K w x cs) : cs = [.int .i64 x.f0, .int .i64 x.f1] := by
 obtain ⟨_, _, rfl, rfl, rfl⟩ := h
 exact rfl
theorem k24_mkM (w : World) (base : Nat) (ok : Nat → Prop) (x : S24)  : k24.M w base ok x [.int .i64 x.f0, .int .i64 x.f1] := ⟨[.int .i64 x.f0], [.int .i64 x.f1], rfl, rfl, rfl⟩
def rd_T24 (xs : List S24) (i : Int) : S24 := xs.getD i.toNat z24
theorem at_T24 {w : World} {A : Option Addr} {n : Nat} {xs : List S24} (h : Kd.C k24 w A n xs) (i : Int) (h0 : 0 ≤ i) (h1 : i < n) : ∃ ad , A = some ad ∧ w.cell? (ad.add (i.toNat * 2)) = some (.int .i64 (rd_T24 xs i).f0) ∧ w.cell? ⟨(ad.add (i.toNat * 2)).block, (ad.add (i.toNat * 2)).off + 1, none⟩ = some (.int .i64 (rd_T24 xs i).f1) := by
 obtain ⟨ad, c, e, _, hK, hc0⟩ := Kd.C_get h z24 i h0 h1
 have hc : ∀ j u, c[j]? = some u → w.cell? (ad.add (i.toNat * 2 + j)) = some u := hc0
 obtain rfl := k24_open hK
 exact ⟨ad, e, hc 0 _ rfl, by rw [← add_field _ _ 1 (by omega)]; exact hc 1 _ rfl⟩
structure S52 where
 f0 : S48
 f1 : Int
 f2 : Int
def z52 : S52 := ⟨z48, (0 : Int), (0 : Int)⟩
def k52 : Kd S52 := Kd.iso (Kd.pair k48 (Kd.pair (Kd.int .u64) (Kd.int .i64))) (fun x : S52 => (x.f0, x.f1, x.f2))
theorem k52_open {w : World} {x : S52} {cs : List Value} (h : k52.K w x cs) : cs = [.int .i64 x.f0.f0, .int .i64 x.f0.f1, .int .u64 x.f1, .int .i64 x.f2] := by
 obtain ⟨_, _, rfl, s0, ⟨_, _, rfl, rfl, rfl⟩⟩ := h
 obtain rfl := k48_open s0
 exact rfl
theorem k52_mkM (w : World) (base : Nat) (ok : Nat → Prop) (x : S52)  : k52.M w base ok x [.int .i64 x.f0.f0, .int .i64 x.f0.f1, .int .u64 x.f1, .int .i64 x.f2] := ⟨[.int .i64 x.f0.f0, .int .i64 x.f0.f1], [.int .u64 x.f1, .int .i64 x.f2], rfl, (k48_mkM w base ok x.f0 ), ⟨[.int .u64 x.f1], [.int .i64 x.f2], rfl, rfl, rfl⟩⟩
def rd_T52 (xs : List S52) (i : Int) : S52 := xs.getD i.toNat z52
theorem at_T52 {w : World} {A : Option Addr} {n : Nat} {xs : List S52} (h : Kd.C k52 w A n xs) (i : Int) (h0 : 0 ≤ i) (h1 : i < n) : ∃ ad , A = some ad ∧ w.cell? (ad.add (i.toNat * 4)) = some (.int .i64 (rd_T52 xs i).f0.f0) ∧ w.cell? ⟨(ad.add (i.toNat * 4)).block, (ad.add (i.toNat * 4)).off + 1, none⟩ = some (.int .i64 (rd_T52 xs i).f0.f1) ∧ w.cell? ⟨(ad.add (i.toNat * 4)).block, (ad.add (i.toNat * 4)).off + 2, none⟩ = some (.int .u64 (rd_T52 xs i).f1) ∧ w.cell? ⟨(ad.add (i.toNat * 4)).block, (ad.add (i.toNat * 4)).off + 3, none⟩ = some (.int .i64 (rd_T52 xs i).f2) := by
 obtain ⟨ad, c, e, _, hK, hc0⟩ := Kd.C_get h z52 i h0 h1
 have hc : ∀ j u, c[j]? = some u → w.cell? (ad.add (i.toNat * 4 + j)) = some u := hc0
 obtain rfl := k52_open hK
 exact ⟨ad, e, hc 0 _ rfl, by rw [← add_field _ _ 1 (by omega)]; exact hc 1 _ rfl, by rw [← add_field _ _ 2 (by omega)]; exact hc 2 _ rfl, by rw [← add_field _ _ 3 (by omega)]; exact hc 3 _ rfl⟩
structure S41 where
 f0 : Int
 f1 : Int
 f2 : Int
 f3 : Bool
 f4 : (List S52)
def z41 : S41 := ⟨(0 : Int), (0 : Int), (0 : Int), false, ([] : List S52)⟩
def k41 : Kd S41 := Kd.iso (Kd.pair (Kd.int .i64) (Kd.pair (Kd.int .i64) (Kd.pair (Kd.int .i64) (Kd.pair Kd.bool (Kd.slice 52 k52))))) (fun x : S41 => (x.f0, x.f1, x.f2, x.f3, x.f4))
theorem k41_open {w : World} {x : S41} {cs : List Value} (h : k41.K w x cs) : ∃ A4 c4, cs = [.int .i64 x.f0, .int .i64 x.f1, .int .i64 x.f2, .bool x.f3, .slice A4 x.f4.length c4] ∧ x.f4.length ≤ c4 ∧ k52.C w A4 x.f4.length x.f4 := by
 obtain ⟨_, _, rfl, rfl, ⟨_, _, rfl, rfl, ⟨_, _, rfl, rfl, ⟨_, _, rfl, rfl, ⟨A4, c4, rfl, l4, g4⟩⟩⟩⟩⟩ := h
 exact ⟨A4, c4, rfl, l4, g4⟩
def rd_T41 (xs : List S41) (i : Int) : S41 := xs.getD i.toNat z41
theorem at_T41 {w : World} {A : Option Addr} {n : Nat} {xs : List S41} (h : Kd.C k41 w A n xs) (i : Int) (h0 : 0 ≤ i) (h1 : i < n) : ∃ ad A4 c4, A = some ad ∧ w.cell? (ad.add (i.toNat * 5)) = some (.int .i64 (rd_T41 xs i).f0) ∧ w.cell? ⟨(ad.add (i.toNat * 5)).block, (ad.add (i.toNat * 5)).off + 1, none⟩ = some (.int .i64 (rd_T41 xs i).f1) ∧ w.cell? ⟨(ad.add (i.toNat * 5)).block, (ad.add (i.toNat * 5)).off + 2, none⟩ = some (.int .i64 (rd_T41 xs i).f2) ∧ w.cell? ⟨(ad.add (i.toNat * 5)).block, (ad.add (i.toNat * 5)).off + 3, none⟩ = some (.bool (rd_T41 xs i).f3) ∧ w.cell? ⟨(ad.add (i.toNat * 5)).block, (ad.add (i.toNat * 5)).off + 4, none⟩ = some (.slice A4 (rd_T41 xs i).f4.length c4) ∧ (rd_T41 xs i).f4.length ≤ c4 ∧ k52.C w A4 (rd_T41 xs i).f4.length (rd_T41 xs i).f4 := by
 obtain ⟨ad, c, e, _, hK, hc0⟩ := Kd.C_get h z41 i h0 h1
 have hc : ∀ j u, c[j]? = some u → w.cell? (ad.add (i.toNat * 5 + j)) = some u := hc0
 obtain ⟨A4, c4, rfl, l4, g4⟩ := k41_open hK
 exact ⟨ad, A4, c4, e, hc 0 _ rfl, by rw [← add_field _ _ 1 (by omega)]; exact hc 1 _ rfl, by rw [← add_field _ _ 2 (by omega)]; exact hc 2 _ rfl, by rw [← add_field _ _ 3 (by omega)]; exact hc 3 _ rfl, by rw [← add_field _ _ 4 (by omega)]; exact hc 4 _ rfl, l4, g4⟩
structure S27 where
 f0 : Int
 f1 : Int
 f2 : Int
 f3 : Int
def k27 : Kd S27 := Kd.iso (Kd.pair (Kd.int .i64) (Kd.pair (Kd.int .i64) (Kd.pair (Kd.int .i64) (Kd.int .i64)))) (fun x : S27 => (x.f0, x.f1, x.f2, x.f3))
theorem k27_open {w : World} {x : S27} {cs : List Value} (h : k27.K w x cs) : cs = [.int .i64 x.f0, .int .i64 x.f1, .int .i64 x.f2, .int .i64 x.f3] := by
 obtain ⟨_, _, rfl, rfl, ⟨_, _, rfl, rfl, ⟨_, _, rfl, rfl, rfl⟩⟩⟩ := h
 exact rfl
structure S88 where
 f0 : Int
 f1 : Int
 f2 : Int
 f3 : Int
 f4 : S27
def k88 : Kd S88 := Kd.iso (Kd.pair (Kd.int .i64) (Kd.pair (Kd.int .i64) (Kd.pair (Kd.int .i64) (Kd.pair (Kd.int .i64) k27)))) (fun x : S88 => (x.f0, x.f1, x.f2, x.f3, x.f4))
theorem k88_open {w : World} {x : S88} {cs : List Value} (h : k88.K w x cs) : cs = [.int .i64 x.f0, .int .i64 x.f1, .int .i64 x.f2, .int .i64 x.f3, .int .i64 x.f4.f0, .int .i64 x.f4.f1, .int .i64 x.f4.f2, .int .i64 x.f4.f3] := by
 obtain ⟨_, _, rfl, rfl, ⟨_, _, rfl, rfl, ⟨_, _, rfl, rfl, ⟨_, _, rfl, rfl, s4⟩⟩⟩⟩ := h
 obtain rfl := k27_open s4
 exact rfl
structure S105 where
 f0 : S88
 f1 : Int
 f2 : Int
def k105 : Kd S105 := Kd.iso (Kd.pair k88 (Kd.pair (Kd.int .i64) (Kd.int .i64))) (fun x : S105 => (x.f0, x.f1, x.f2))
structure S149 where
 f0 : S88
 f1 : Int
 f2 : Int
 f3 : Int
 f4 : Int
 f5 : Int
 f6 : Int
 f7 : Int
 f8 : Int
def k149 : Kd S149 := Kd.iso (Kd.pair k88 (Kd.pair (Kd.int .i64) (Kd.pair (Kd.int .i64) (Kd.pair (Kd.int .i64) (Kd.pair (Kd.int .i64) (Kd.pair (Kd.int .i64) (Kd.pair (Kd.int .i64) (Kd.pair (Kd.int .i64) (Kd.int .i64))))))))) (fun x : S149 => (x.f0, x.f1, x.f2, x.f3, x.f4, x.f5, x.f6, x.f7, x.f8))
structure S86 where
 f0 : Int
 f1 : Int
 f2 : Int
 f3 : Int
 f4 : (List S51)
 f5 : (List S24)
 f6 : (List S41)
 f7 : (List S105)
 f8 : (List S149)
def k86 : Kd S86 := Kd.iso (Kd.pair (Kd.int .i64) (Kd.pair (Kd.int .i64) (Kd.pair (Kd.int .i64) (Kd.pair (Kd.int .i64) (Kd.pair (Kd.slice 51 k51) (Kd.pair (Kd.slice 24 k24) (Kd.pair (Kd.slice 41 k41) (Kd.pair (Kd.slice 105 k105) (Kd.slice 149 k149))))))))) (fun x : S86 => (x.f0, x.f1, x.f2, x.f3, x.f4, x.f5, x.f6, x.f7, x.f8))
theorem k86_open {w : World} {x : S86} {cs : List Value} (h : k86.K w x cs) : ∃ A4 c4 A5 c5 A6 c6 A7 c7 A8 c8, cs = [.int .i64 x.f0, .int .i64 x.f1, .int .i64 x.f2, .int .i64 x.f3, .slice A4 x.f4.length c4, .slice A5 x.f5.length c5, .slice A6 x.f6.length c6, .slice A7 x.f7.length c7, .slice A8 x.f8.length c8] ∧ x.f4.length ≤ c4 ∧ k51.C w A4 x.f4.length x.f4 ∧ x.f5.length ≤ c5 ∧ k24.C w A5 x.f5.length x.f5 ∧ x.f6.length ≤ c6 ∧ k41.C w A6 x.f6.length x.f6 ∧ x.f7.length ≤ c7 ∧ k105.C w A7 x.f7.length x.f7 ∧ x.f8.length ≤ c8 ∧ k149.C w A8 x.f8.length x.f8 := by
 obtain ⟨_, _, rfl, rfl, ⟨_, _, rfl, rfl, ⟨_, _, rfl, rfl, ⟨_, _, rfl, rfl, ⟨_, _, rfl, ⟨A4, c4, rfl, l4, g4⟩, ⟨_, _, rfl, ⟨A5, c5, rfl, l5, g5⟩, ⟨_, _, rfl, ⟨A6, c6, rfl, l6, g6⟩, ⟨_, _, rfl, ⟨A7, c7, rfl, l7, g7⟩, ⟨A8, c8, rfl, l8, g8⟩⟩⟩⟩⟩⟩⟩⟩⟩ := h
 exact ⟨A4, c4, A5, c5, A6, c6, A7, c7, A8, c8, rfl, l4, g4, l5, g5, l6, g6, l7, g7, l8, g8⟩
end Go.Proofs.Ytckhjehibjdjdaa.P
namespace Go.Proofs.Ytckhjehibjdjdaa.P
open Go.RowKit Go.Proofs.YtckhjehibjdjdaaW.PrintWords Go.Proofs.YtckhjehibjdjdaaW.PrintLast Go.Proofs.YtckhjehibjdjdaaW.PrintMore
attribute [local go_sem] max2_int min2_int max_two min_two max_three min_three max_four min_four
set_option linter.unusedVariables false
set_option linter.unusedSimpArgs false
def ensembleref01_Has.l0 : Nat → Int → Int → Int → Option (Bool)
 | 0, _, _, _ => none
 | k + 1, x0, x1, x5 => if x5 < x1 then (ensembleref01_Has.l0 k (IntKind.u64.wrap (Int.tdiv x0 2)) x1 (wrap64 (x5 + 1))) else (if x1 ≥ 0 then (if x1 < 64 then (some ((Int.tmod x0 2) == 1)) else (some false)) else (some false))
def ensembleref01_Has.f (k : Nat) (a0 : Int) (a1 : Int) : Option (Bool) := ensembleref01_Has.l0 k a0 a1 0
set_option maxHeartbeats 8000000 in
set_option maxRecDepth 100000 in
theorem ensembleref01_Has.calls (k : Nat) (a0 : Int) (a1 : Int) (r : Bool) (w : World) (h : ensembleref01_Has.f k a0 a1 = some r) :
  Calls Try.prog 106 #[.int .u64 a0, .int .i64 a1] w fun e w' => e = .returned (.bool r) ∧ Drawn0 w w' := by
 have H : (ensembleref01_Has.l0 k a0 a1 0) = some r := h
 clear h
 have H' := Aside0.mk H
 clear H
 go_enter Try.func106, Try.ntmps106
 go_wp2
 go_loopg [0, 5] k (fun kq v0 v5 w' => ∃ (x0_1 : Int) (x5_1 : Int), v0 = .int .u64 x0_1 ∧ v5 = .int .i64 x5_1 ∧ Aside0 (ensembleref01_Has.l0 kq x0_1 a1 x5_1 = some r) ∧ Aside0 (kq ≤ k) ∧ Drawn0 w w')
 case atStart => exact ⟨(a0), (0), Z4, Z4, H', ⟨Nat.le_refl _⟩, by repeat (first | exact Drawn0.refl _ | apply Drawn0.step)⟩
 case round =>
  clear H'
  try clear c1
  try clear p2
  obtain ⟨x0_1, x5_1, rfl, rfl, HA, HK1, ⟨m1, rfl⟩⟩ := hrel
  cases gk with
  | zero => exact absurd HA.out (by simp [ensembleref01_Has.l0])
  | succ k1 =>
   have H := HA.out
   clear HA
   simp only [ensembleref01_Has.l0] at H
   by_cases c3 : x5_1 < a1
   ·rw [if_pos c3] at H
    have c3b0 : decide (x5_1 < a1) = true := decide_eq_true c3
    clear c3
    have H' := Aside0.mk H
    clear H
    go_wp2
    go_roundg k1
    case measure => have := HK1.out; omega
    case rel => exact ⟨(IntKind.u64.wrap (Int.tdiv x0_1 2)), (wrap64 (x5_1 + 1)), Z4, Z4, H', ⟨by have := HK1.out; omega⟩, by repeat (first | exact Drawn0.refl _ | apply Drawn0.step)⟩
   ·rw [if_neg c3] at H
    have c3b0 : decide (x5_1 < a1) = false := decide_eq_false c3
    clear c3
    by_cases c4 : a1 ≥ 0
    ·rw [if_pos c4] at H
     have c4b0 : decide (0 ≤ a1) = true := decide_eq_true c4
     clear c4
     by_cases c5 : a1 < 64
     ·rw [if_pos c5] at H
      have c5b0 : decide (a1 < 64) = true := decide_eq_true c5
      clear c5
      obtain rfl := Option.some.inj H
      go_wp2
      go_ret
      exact ⟨by first | rfl | (simp; done) | (simp [*]; done), by repeat (first | exact Drawn0.refl _ | apply Drawn0.step)⟩
     ·rw [if_neg c5] at H
      have c5b0 : decide (a1 < 64) = false := decide_eq_false c5
      clear c5
      obtain rfl := Option.some.inj H
      go_wp2
      go_ret
      exact ⟨by first | rfl | (simp; done) | (simp [*]; done), by repeat (first | exact Drawn0.refl _ | apply Drawn0.step)⟩
    ·rw [if_neg c4] at H
     have c4b0 : decide (0 ≤ a1) = false := decide_eq_false c4
     clear c4
     obtain rfl := Option.some.inj H
     go_wp2
     go_ret
     exact ⟨by first | rfl | (simp; done) | (simp [*]; done), by repeat (first | exact Drawn0.refl _ | apply Drawn0.step)⟩
end Go.Proofs.Ytckhjehibjdjdaa.P
namespace Go.Proofs.Ytckhjehibjdjdaa.P
open Go.RowKit Go.Proofs.YtckhjehibjdjdaaW.PrintWords Go.Proofs.YtckhjehibjdjdaaW.PrintLast Go.Proofs.YtckhjehibjdjdaaW.PrintMore
attribute [local go_sem] max2_int min2_int max_two min_two max_three min_three max_four min_four
set_option linter.unusedVariables false
set_option linter.unusedSimpArgs false
def ensembleref01_Units.l0 : Nat → Int → List Int → Int → Option (List Int)
 | 0, _, _, _ => none
 | k + 1, x0, x3, x4 => if x4 < 64 then ((ensembleref01_Has.f k x0 x4).bind fun t134 => (if t134 = true then (if x3.length < 17592186044416 then (ensembleref01_Units.l0 k x0 (x3 ++ [x4]) (wrap64 (x4 + 1))) else (none)) else (ensembleref01_Units.l0 k x0 x3 (wrap64 (x4 + 1))))) else (some x3)
def ensembleref01_Units.f (k : Nat) (a0 : Int) : Option (List Int) := ensembleref01_Units.l0 k a0 ([] : List Int) 0
set_option maxHeartbeats 8000000 in
set_option maxRecDepth 100000 in
theorem ensembleref01_Units.calls (k : Nat) (a0 : Int) (r : List Int) (w : World) (h : ensembleref01_Units.f k a0 = some r) :
  Calls Try.prog 82 #[.int .u64 a0] w fun e w' => ∃ v0_ : Value, e = .returned (v0_) ∧ Kd.R (Kd.int .i64) 3 w' w.heap.size (fun _ => True) v0_ r ∧ Below w.heap.size w w' := by
 have HB := Aside0.mk (Below.refl w.heap.size w)
 have H : (ensembleref01_Units.l0 k a0 ([] : List Int) 0) = some r := h
 clear h
 have H' := Aside0.mk H
 clear H
 go_enter Try.func82, Try.ntmps82
 go_wp2
 go_loopg [3, 4] k (fun kq v3 v4 w' => ∃ (x3_1 : List Int) (x4_1 : Int), v4 = .int .i64 x4_1 ∧ Aside0 (ensembleref01_Units.l0 kq a0 x3_1 x4_1 = some r) ∧ Aside0 (kq ≤ k) ∧ Aside0 (Kd.R (Kd.int .i64) 3 w' w.heap.size (fun _ => True) v3 x3_1) ∧ Aside0 (Below w.heap.size w w'))
 case atStart => exact ⟨(([] : List Int)), (0), Z4, H', ⟨Nat.le_refl _⟩, ⟨by first | exact Kd.R_nil _ _ _ _ _ | exact Kd.N_nil _ _ _ _ _ | exact Kd.V_nil _ _ _ _ _ | exact Kd.Q_nil _ _ _ _ _ | exact Kd.S_nil _ _ _ _ _⟩, ⟨hb_⟩⟩
 case round =>
  clear H'
  obtain ⟨x3_1, x4_1, rfl, HA, HK1, HO_3, HB⟩ := hrel
  cases gk with
  | zero => exact absurd HA.out (by simp [ensembleref01_Units.l0])
  | succ k1 =>
   have H := HA.out
   clear HA
   simp only [ensembleref01_Units.l0] at H
   by_cases c2 : x4_1 < 64
   ·rw [if_pos c2] at H
    have c2b0 : decide (x4_1 < 64) = true := decide_eq_true c2
    clear c2
    replace H := Option.bind_eq_some_iff.mp H
    obtain ⟨t134, A30, H⟩ := H
    replace H : (if t134 = true then (if x3_1.length < 17592186044416 then (ensembleref01_Units.l0 k1 a0 (x3_1 ++ [x4_1]) (wrap64 (x4_1 + 1))) else (none)) else (ensembleref01_Units.l0 k1 a0 x3_1 (wrap64 (x4_1 + 1)))) = some r := H
    have A3 := Aside0.mk A30
    clear A30
    by_cases c4 : t134 = true
    ·subst c4
     have H1 : (if x3_1.length < 17592186044416 then (ensembleref01_Units.l0 k1 a0 (x3_1 ++ [x4_1]) (wrap64 (x4_1 + 1))) else (none)) = some r := by rw [if_pos rfl] at H; exact H
     clear H
     have H := H1
     clear H1
     by_cases c5 : x3_1.length < 17592186044416
     ·rw [if_pos c5] at H
      have LMc5 := Aside0.mk c5
      clear c5
      obtain ⟨y135, hy135⟩ : ∃ y_ : List Int, y_ = (x3_1 ++ [x4_1]) := ⟨_, rfl⟩
      replace H : (ensembleref01_Units.l0 k1 a0 y135 (wrap64 (x4_1 + 1))) = some r := by first | (rw [hy135]; with_reducible exact H) | (have H2_ := (Option.bind_some _ _).symm.trans H; rw [hy135]; with_reducible exact H2_) | (have H2_ := (Option.bind_some _ _).symm.trans H; with_reducible exact H2_) | with_reducible exact H | (rw [hy135]; exact H) | exact H
      have Ny135 := Aside0.mk hy135
      clear hy135
      have H' := Aside0.mk H
      clear H
      go_wp2_with (first | ((with_reducible refine gate_callee (f := 106) rfl ?_); refine goesL_ (some 11) rfl rfl Try.func106 (by kernel_rfl) rfl #[.int .u64 a0, .int .i64 x4_1] rfl Z0 ?_; (with_reducible refine (ensembleref01_Has.calls k1 a0 x4_1 true _ A3.out).mono ?_); rintro e w' ⟨rfl, ⟨nd, rfl⟩⟩; refine ⟨_, rfl, ?_⟩) | ((with_reducible refine gate_builtin (b := .append) (xs := #[.tmp 12, .tmp 14]) rfl ?_); at_builtin; refine Kd.R_append (Kd.int .i64) (w0 := w) w.heap.size rfl (.tmp 12) (.tmp 14) 71 3 (.int .i64 0) 8 rfl Try.underlying71 info3 rfl (by decide) (by omega) u3 x3_1 x4_1 [.int .i64 x4_1] (fun _ => True) (fun _ => False) rfl rfl ?aP (fun _ hk => hk.elim) ?aF ?aO ?aB ?aS ?aL ?_; (case aP => exact rfl); (case aB => exact hb_); (case aF => exact (fun _ _ => trivial)); (case aO => exact (by (with_reducible repeat (first | apply Kd.R_alloc | apply Kd.R_drewN | apply Kd.R_drew)); exact HO_3.out)); (case aS => exact (below_size hb_)); (case aL => have := LMc5.out; omega); intro v136 w6 ho hb hg hat; rw [← Ny135.out] at ho; have HO137 := Aside0.mk (ho); replace HB := Aside0.mk (hb); clear HO_3; clear ho hb hg hat))
      go_roundg k1
      case measure => have := HK1.out; omega
      case rel => exact ⟨(y135), (wrap64 (x4_1 + 1)), Z4, H', ⟨by have := HK1.out; omega⟩, ⟨by (with_reducible repeat (first | apply Kd.R_alloc | apply Kd.R_drewN | apply Kd.R_drew)); exact HO137.out⟩, ⟨hb_⟩⟩
     ·rw [if_neg c5] at H
      exact absurd H (by simp)
    ·replace c4 := Bool.eq_false_iff.mpr c4
     subst c4
     have H1 : (ensembleref01_Units.l0 k1 a0 x3_1 (wrap64 (x4_1 + 1))) = some r := by rw [if_neg (show ¬ (false = true) by decide)] at H; exact H
     clear H
     have H := H1
     clear H1
     have H' := Aside0.mk H
     clear H
     go_wp2_with (first | ((with_reducible refine gate_callee (f := 106) rfl ?_); refine goesL_ (some 11) rfl rfl Try.func106 (by kernel_rfl) rfl #[.int .u64 a0, .int .i64 x4_1] rfl Z0 ?_; (with_reducible refine (ensembleref01_Has.calls k1 a0 x4_1 false _ A3.out).mono ?_); rintro e w' ⟨rfl, ⟨nd, rfl⟩⟩; refine ⟨_, rfl, ?_⟩))
     go_roundg k1
     case measure => have := HK1.out; omega
     case rel => exact ⟨(x3_1), (wrap64 (x4_1 + 1)), Z4, H', ⟨by have := HK1.out; omega⟩, ⟨by (with_reducible repeat (first | apply Kd.R_alloc | apply Kd.R_drewN | apply Kd.R_drew)); exact HO_3.out⟩, ⟨hb_⟩⟩
   ·rw [if_neg c2] at H
    have c2b0 : decide (x4_1 < 64) = false := decide_eq_false c2
    clear c2
    obtain rfl := Option.some.inj H
    go_wp2
    go_ret
    exact ⟨_, by first | rfl | (simp [errW_none, errW_some] <;> rfl) | (simp [*, errW_none, errW_some] <;> rfl), by (with_reducible repeat (first | apply Kd.R_alloc | apply Kd.R_drewN | apply Kd.R_drew)); exact HO_3.out, hb_⟩
end Go.Proofs.Ytckhjehibjdjdaa.P
namespace Go.Proofs.Ytckhjehibjdjdaa.P
open Go.RowKit Go.Proofs.YtckhjehibjdjdaaW.PrintWords Go.Proofs.YtckhjehibjdjdaaW.PrintLast Go.Proofs.YtckhjehibjdjdaaW.PrintMore
attribute [local go_sem] max2_int min2_int max_two min_two max_three min_three max_four min_four
set_option linter.unusedVariables false
set_option linter.unusedSimpArgs false
def ensembleref01_bit.l0 : Nat → Int → Int → Int → Option (Int)
 | 0, _, _, _ => none
 | k + 1, x0, x3, x4 => if x4 < x0 then (ensembleref01_bit.l0 k x0 (IntKind.u64.wrap (x3 * 2)) (wrap64 (x4 + 1))) else (some x3)
def ensembleref01_bit.f (k : Nat) (a0 : Int) : Option (Int) := ensembleref01_bit.l0 k a0 1 0
set_option maxHeartbeats 8000000 in
set_option maxRecDepth 100000 in
theorem ensembleref01_bit.calls (k : Nat) (a0 : Int) (r : Int) (w : World) (h : ensembleref01_bit.f k a0 = some r) :
  Calls Try.prog 134 #[.int .i64 a0] w fun e w' => e = .returned (.int .u64 r) ∧ Drawn0 w w' := by
 have H : (ensembleref01_bit.l0 k a0 1 0) = some r := h
 clear h
 have H' := Aside0.mk H
 clear H
 go_enter Try.func134, Try.ntmps134
 go_wp2
 go_loopg [3, 4] k (fun kq v3 v4 w' => ∃ (x3_1 : Int) (x4_1 : Int), v3 = .int .u64 x3_1 ∧ v4 = .int .i64 x4_1 ∧ Aside0 (ensembleref01_bit.l0 kq a0 x3_1 x4_1 = some r) ∧ Aside0 (kq ≤ k) ∧ Drawn0 w w')
 case atStart => exact ⟨(1), (0), Z4, Z4, H', ⟨Nat.le_refl _⟩, by repeat (first | exact Drawn0.refl _ | apply Drawn0.step)⟩
 case round =>
  clear H'
  try clear c1
  obtain ⟨x3_1, x4_1, rfl, rfl, HA, HK1, ⟨m1, rfl⟩⟩ := hrel
  cases gk with
  | zero => exact absurd HA.out (by simp [ensembleref01_bit.l0])
  | succ k1 =>
   have H := HA.out
   clear HA
   simp only [ensembleref01_bit.l0] at H
   by_cases c2 : x4_1 < a0
   ·rw [if_pos c2] at H
    have c2b0 : decide (x4_1 < a0) = true := decide_eq_true c2
    clear c2
    have H' := Aside0.mk H
    clear H
    go_wp2
    go_roundg k1
    case measure => have := HK1.out; omega
    case rel => exact ⟨(IntKind.u64.wrap (x3_1 * 2)), (wrap64 (x4_1 + 1)), Z4, Z4, H', ⟨by have := HK1.out; omega⟩, by repeat (first | exact Drawn0.refl _ | apply Drawn0.step)⟩
   ·rw [if_neg c2] at H
    have c2b0 : decide (x4_1 < a0) = false := decide_eq_false c2
    clear c2
    obtain rfl := Option.some.inj H
    go_wp2
    go_ret
    exact ⟨by first | rfl | (simp; done) | (simp [*]; done), by repeat (first | exact Drawn0.refl _ | apply Drawn0.step)⟩
end Go.Proofs.Ytckhjehibjdjdaa.P
namespace Go.Proofs.Ytckhjehibjdjdaa.P
open Go.RowKit Go.Proofs.YtckhjehibjdjdaaW.PrintWords Go.Proofs.YtckhjehibjdjdaaW.PrintLast Go.Proofs.YtckhjehibjdjdaaW.PrintMore
attribute [local go_sem] max2_int min2_int max_two min_two max_three min_three max_four min_four
set_option linter.unusedVariables false
set_option linter.unusedSimpArgs false
def ensembleref01_Lowest.l0 : Nat → Int → List Int → Int → Int → Option (Int × Int)
 | 0, _, _, _, _ => none
 | k + 1, x1, x6, x7, x8 => if x8 < x1 then (if 0 ≤ x8 then (if x8 < (x6.length : Int) then ((ensembleref01_bit.f k (rd x6 x8)).bind fun t142 => (ensembleref01_Lowest.l0 k x1 x6 (IntKind.u64.wrap (x7 + t142)) (wrap64 (x8 + 1)))) else (none)) else (none)) else (some (x7, 0))
def ensembleref01_Lowest.f (k : Nat) (a0 : Int) (a1 : Int) : Option (Int × Int) := if a1 < 0 then (some (0, 1)) else ((ensembleref01_Units.f k a0).bind fun t138 => (if a1 > (t138.length : Int) then (some (0, 2)) else (ensembleref01_Lowest.l0 k a1 t138 0 0)))
set_option maxHeartbeats 8000000 in
set_option maxRecDepth 100000 in
theorem ensembleref01_Lowest.calls (k : Nat) (a0 : Int) (a1 : Int) (r1 : Int) (r2 : Int) (w : World) (h : ensembleref01_Lowest.f k a0 a1 = some (r1, r2)) :
  Calls Try.prog 115 #[.int .u64 a0, .int .i64 a1] w fun e w' => e = .returned (.tuple #[.int .u64 r1, .int .i64 r2]) ∧ Below w.heap.size w w' := by
 have HB := Aside0.mk (Below.refl w.heap.size w)
 have H : (if a1 < 0 then (some (0, 1)) else ((ensembleref01_Units.f k a0).bind fun t138 => (if a1 > (t138.length : Int) then (some (0, 2)) else (ensembleref01_Lowest.l0 k a1 t138 0 0)))) = some (r1, r2) := h
 clear h
 by_cases c3 : a1 < 0
 ·rw [if_pos c3] at H
  have c3b0 : decide (a1 < 0) = true := decide_eq_true c3
  clear c3
  simp only [Option.some.injEq, Prod.mk.injEq] at H
  obtain ⟨rfl, rfl⟩ := H
  go_enter Try.func115, Try.ntmps115
  go_wp2
  go_ret2
  exact ⟨by first | rfl | (simp [errW_none, errW_some] <;> rfl) | (simp [*, errW_none, errW_some] <;> rfl), hb_⟩
 ·rw [if_neg c3] at H
  have c3b0 : decide (a1 < 0) = false := decide_eq_false c3
  clear c3
  replace H := Option.bind_eq_some_iff.mp H
  obtain ⟨t138, A40, H⟩ := H
  replace H : (if a1 > (t138.length : Int) then (some (0, 2)) else (ensembleref01_Lowest.l0 k a1 t138 0 0)) = some (r1, r2) := H
  have A4 := Aside0.mk A40
  clear A40
  by_cases c5 : a1 > (t138.length : Int)
  ·rw [if_pos c5] at H
   have c5b0 : decide ((t138.length : Int) < a1) = true := decide_eq_true c5
   clear c5
   simp only [Option.some.injEq, Prod.mk.injEq] at H
   obtain ⟨rfl, rfl⟩ := H
   go_enter Try.func115, Try.ntmps115
   go_wp2_with (first | ((with_reducible refine gate_callee (f := 82) rfl ?_); refine goesL_ (some 12) rfl rfl Try.func82 (by kernel_rfl) rfl #[.int .u64 a0] rfl Z0 ?_; (with_reducible refine (ensembleref01_Units.calls k a0 t138 _ A4.out).mono ?_); rintro e w6 ⟨v139, rfl, ho0, hb⟩; refine ⟨_, rfl, ?_⟩; have HO140 := Aside0.mk (Kd.R_lower ho0 (below_size hb_)); replace HB := hs_ hb; (try clear hb); (try clear hb2); (try clear hk); (try clear hi); (try clear ho0); obtain ⟨Ao7, co7, eo7⟩ := Kd.R_slice HO140.out; subst eo7))
   go_ret2
   exact ⟨by first | rfl | (simp [errW_none, errW_some] <;> rfl) | (simp [*, errW_none, errW_some] <;> rfl), hb_⟩
  ·rw [if_neg c5] at H
   have c5b0 : decide ((t138.length : Int) < a1) = false := decide_eq_false c5
   clear c5
   have H' := Aside0.mk H
   clear H
   go_enter Try.func115, Try.ntmps115
   go_wp2_with (first | ((with_reducible refine gate_callee (f := 82) rfl ?_); refine goesL_ (some 12) rfl rfl Try.func82 (by kernel_rfl) rfl #[.int .u64 a0] rfl Z0 ?_; (with_reducible refine (ensembleref01_Units.calls k a0 t138 _ A4.out).mono ?_); rintro e w8 ⟨v139, rfl, ho0, hb⟩; refine ⟨_, rfl, ?_⟩; have HO140 := Aside0.mk (Kd.R_lower ho0 (below_size hb_)); replace HB := hs_ hb; (try clear hb); (try clear hb2); (try clear hk); (try clear hi); (try clear ho0); obtain ⟨Ao9, co9, eo9⟩ := Kd.R_slice HO140.out; subst eo9))
   go_loopg [7, 8] k (fun kq v7 v8 w' => ∃ (x7_1 : Int) (x8_1 : Int), v7 = .int .u64 x7_1 ∧ v8 = .int .i64 x8_1 ∧ Aside0 (ensembleref01_Lowest.l0 kq a1 t138 x7_1 x8_1 = some (r1, r2)) ∧ Aside0 (kq ≤ k) ∧ Aside0 (Kd.R (Kd.int .i64) 3 w' w.heap.size (fun _ => True) (.slice Ao9 t138.length co9) t138) ∧ Aside0 (Below w.heap.size w w'))
   case atStart => exact ⟨(0), (0), Z4, Z4, H', ⟨Nat.le_refl _⟩, ⟨by (with_reducible repeat (first | apply Kd.R_alloc | apply Kd.R_drewN | apply Kd.R_drew)); exact HO140.out⟩, ⟨hb_⟩⟩
   case round =>
    clear H'
    try clear c1
    try clear p2
    try clear c3
    try clear c3b0
    try clear c5
    try clear c5b0
    try clear c8
    obtain ⟨x7_1, x8_1, rfl, rfl, HA, HK1, HO_6, HB⟩ := hrel
    cases gk with
    | zero => exact absurd HA.out (by simp [ensembleref01_Lowest.l0])
    | succ k1 =>
     have H := HA.out
     clear HA
     simp only [ensembleref01_Lowest.l0] at H
     by_cases c10 : x8_1 < a1
     ·rw [if_pos c10] at H
      have c10b0 : decide (x8_1 < a1) = true := decide_eq_true c10
      clear c10
      by_cases c11 : 0 ≤ x8_1
      ·rw [if_pos c11] at H
       have c11b0 : decide (0 ≤ x8_1) = true := decide_eq_true c11
       clear c11
       by_cases c12 : x8_1 < (t138.length : Int)
       ·rw [if_pos c12] at H
        have c12b0 : decide (x8_1 < (t138.length : Int)) = true := decide_eq_true c12
        clear c12
        replace H := Option.bind_eq_some_iff.mp H
        obtain ⟨t142, A130, H⟩ := H
        replace H : (ensembleref01_Lowest.l0 k1 a1 t138 (IntKind.u64.wrap (x7_1 + t142)) (wrap64 (x8_1 + 1))) = some (r1, r2) := H
        have A13 := Aside0.mk A130
        clear A130
        have H' := Aside0.mk H
        clear H
        have p141 : 0 ≤ (x8_1 : Int) := of_decide_eq_true Z1
        have q141 : x8_1 < (t138.length : Int) := of_decide_eq_true Z1
        obtain ⟨ad141, e141, hx141_0⟩ := Kd.at_int (Kd.R_reads' HO_6.out).2.2 x8_1 p141 q141
        cases e141
        replace p141 := eq_true p141
        replace q141 := eq_true q141
        go_wp2_with (first | ((with_reducible refine gate_callee (f := 134) rfl ?_); refine goesL_ (some 27) rfl rfl Try.func134 (by kernel_rfl) rfl #[.int .i64 (rd t138 x8_1)] rfl Z0 ?_; (with_reducible refine (ensembleref01_bit.calls k1 (rd t138 x8_1) t142 _ A13.out).mono ?_); rintro e w' ⟨rfl, ⟨nd, rfl⟩⟩; refine ⟨_, rfl, ?_⟩))
        go_roundg k1
        case measure => have := HK1.out; omega
        case rel => exact ⟨(IntKind.u64.wrap (x7_1 + t142)), (wrap64 (x8_1 + 1)), Z4, Z4, H', ⟨by have := HK1.out; omega⟩, ⟨by (with_reducible repeat (first | apply Kd.R_alloc | apply Kd.R_drewN | apply Kd.R_drew)); exact HO_6.out⟩, ⟨hb_⟩⟩
       ·rw [if_neg c12] at H
        exact absurd H (by simp)
      ·rw [if_neg c11] at H
       exact absurd H (by simp)
     ·rw [if_neg c10] at H
      have c10b0 : decide (x8_1 < a1) = false := decide_eq_false c10
      clear c10
      simp only [Option.some.injEq, Prod.mk.injEq] at H
      obtain ⟨rfl, rfl⟩ := H
      go_wp2
      go_ret2
      exact ⟨by first | rfl | (simp [errW_none, errW_some] <;> rfl) | (simp [*, errW_none, errW_some] <;> rfl), hb_⟩
end Go.Proofs.Ytckhjehibjdjdaa.P
namespace Go.Proofs.Ytckhjehibjdjdaa.P
open Go.RowKit Go.Proofs.YtckhjehibjdjdaaW.PrintWords Go.Proofs.YtckhjehibjdjdaaW.PrintLast Go.Proofs.YtckhjehibjdjdaaW.PrintMore
attribute [local go_sem] max2_int min2_int max_two min_two max_three min_three max_four min_four
set_option linter.unusedVariables false
set_option linter.unusedSimpArgs false
def ensembleref04_Piece.f (k : Nat) (a0_0 : Int) (a0_1 : Int) (a0_2 : Int) (a0_3 : Int) (a1_0 : Int) (a1_1 : Int) (a1_2 : Int) (a1_3 : Int) : Option (Int × Int × Int × Int × Int × Int × Int × Int × Int) := (ensembleref01_Lowest.f k a1_2 a0_0).bind fun bt147 => (if bt147.2 = 0 then (if a1_3 < 0 then (some (0, 0, 0, 0, 0, 0, 0, 0, 7)) else (if a1_3 < a0_1 then (some (0, 0, 0, 0, 0, 0, 0, 0, 7)) else (some (a1_0, a1_1, bt147.1, a0_1, a1_0, a1_1, IntKind.u64.wrap (a1_2 - bt147.1), wrap64 (a1_3 - a0_1), 0)))) else (some (0, 0, 0, 0, 0, 0, 0, 0, 7)))
def ensembleref04_Piece.T4 : Bool × List (List Nat × List Nat) := (true, [([], []), ([0], [0]), ([], []), ([], []), ([3], [3]), ([1, 2, 4], [1, 2, 4]), ([], []), ([6], [6]), ([], []), ([8], [8]), ([], []), ([9, 10], [9, 10]), ([], []), ([12], [12]), ([], []), ([14], [14]), ([13, 15], [13, 15]), ([7, 11, 16], [7, 11, 16]), ([5, 0, 1, 2, 3, 4, 5], [5]), ([17, 18, 0, 1, 2, 3, 4, 5, 6, 7, 8, 9, 10, 11, 12, 13, 14, 15, 16, 17, 18], [17]), ([19, 0, 1, 2, 3, 4, 5, 6, 7, 8, 9, 10, 11, 12, 13, 14, 15, 16, 17, 18, 19], [])])
def ensembleref04_Piece.B4 : List Nat := [0, 1, 0, 0, 8, 31, 0, 64, 0, 256, 0, 1792, 0, 4096, 0, 16384, 61440, 131008, 63, 524287, 1048575]
theorem ensembleref04_Piece.tab4 : rtab .any (opsOf Try.f89 4) = ensembleref04_Piece.T4 := by kernel_rfl
theorem ensembleref04_Piece.bits4 : waitsOk ensembleref04_Piece.T4.2 ensembleref04_Piece.B4 = true := by kernel_rfl
set_option maxHeartbeats 8000000 in
set_option maxRecDepth 100000 in
theorem ensembleref04_Piece.calls (k : Nat) (a0_0 : Int) (a0_1 : Int) (a0_2 : Int) (a0_3 : Int) (a1_0 : Int) (a1_1 : Int) (a1_2 : Int) (a1_3 : Int) (r1 : Int) (r2 : Int) (r3 : Int) (r4 : Int) (r5 : Int) (r6 : Int) (r7 : Int) (r8 : Int) (r9 : Int) (w : World) (h : ensembleref04_Piece.f k a0_0 a0_1 a0_2 a0_3 a1_0 a1_1 a1_2 a1_3 = some (r1, r2, r3, r4, r5, r6, r7, r8, r9)) :
  Calls Try.prog 89 #[.agg #[.int .i64 a0_0, .int .i64 a0_1, .int .i64 a0_2, .int .i64 a0_3], .agg #[.int .i64 a1_0, .int .i64 a1_1, .int .u64 a1_2, .int .i64 a1_3]] w fun e w' => e = .returned (.tuple #[.agg #[.int .i64 r1, .int .i64 r2, .int .u64 r3, .int .i64 r4], .agg #[.int .i64 r5, .int .i64 r6, .int .u64 r7, .int .i64 r8], .int .i64 r9]) ∧ Below w.heap.size w w' := by
 have hu27 := Try.underlying27
 have hu51 := Try.underlying51
 have hu52 := Try.underlying52
 have hu48 := Try.underlying48
 have HB := Aside0.mk (Below.refl w.heap.size w)
 have H : ((ensembleref01_Lowest.f k a1_2 a0_0).bind fun bt147 => (if bt147.2 = 0 then (if a1_3 < 0 then (some (0, 0, 0, 0, 0, 0, 0, 0, 7)) else (if a1_3 < a0_1 then (some (0, 0, 0, 0, 0, 0, 0, 0, 7)) else (some (a1_0, a1_1, bt147.1, a0_1, a1_0, a1_1, IntKind.u64.wrap (a1_2 - bt147.1), wrap64 (a1_3 - a0_1), 0)))) else (some (0, 0, 0, 0, 0, 0, 0, 0, 7)))) = some (r1, r2, r3, r4, r5, r6, r7, r8, r9) := h
 clear h
 replace H := Option.bind_eq_some_iff.mp H
 obtain ⟨⟨t147, t148⟩, A30, H⟩ := H
 replace H : (if t148 = 0 then (if a1_3 < 0 then (some (0, 0, 0, 0, 0, 0, 0, 0, 7)) else (if a1_3 < a0_1 then (some (0, 0, 0, 0, 0, 0, 0, 0, 7)) else (some (a1_0, a1_1, t147, a0_1, a1_0, a1_1, IntKind.u64.wrap (a1_2 - t147), wrap64 (a1_3 - a0_1), 0)))) else (some (0, 0, 0, 0, 0, 0, 0, 0, 7))) = some (r1, r2, r3, r4, r5, r6, r7, r8, r9) := H
 have A3 := Aside0.mk A30
 clear A30
 by_cases c4 : t148 = 0
 ·rw [if_pos c4] at H
  have c4b0 : (t148 == 0) = true := beq_iff_eq.mpr c4
  have c4b1 : (t148 != 0) = false := bne_eq_false_iff_eq.mpr c4
  clear c4
  by_cases c5 : a1_3 < 0
  ·rw [if_pos c5] at H
   have c5b0 : decide (a1_3 < 0) = true := decide_eq_true c5
   clear c5
   simp only [Option.some.injEq, Prod.mk.injEq] at H
   obtain ⟨rfl, rfl, rfl, rfl, rfl, rfl, rfl, rfl, rfl⟩ := H
   go_enter Try.func89, Try.ntmps89
   go_wp2_with (first | ((with_reducible refine gate_dst (N := 2) rfl ?_); refine bx 2 #[.int .i64 a0_0, .int .i64 a0_1, .int .i64 a0_2, .int .i64 a0_3] 27 ?_; intro gb143 hg w6 hbox hb; have BK143 := Aside0.mk (hbox); have GW143 := ge_ hg; have GE143 := ge_ hg; replace HB := hs_ hb; clear hb hbox hg) | ((with_reducible refine gate_dst (N := 3) rfl ?_); refine bx 3 #[.int .i64 a1_0, .int .i64 a1_1, .int .u64 a1_2, .int .i64 a1_3] 51 ?_; intro gb144 hg w7 hbox hb; have BK144 := Aside0.mk (hbox); have GW144 := ge_ hg; have GE144 := ge_ hg; have NB143_144 := nl_ BK143 hg; have NB144_143 := nr_ BK143 hg; replace BK143 := bk_ BK143 hb; replace HB := hs_ hb; clear hb hbox hg) | ((with_reducible refine gate_dst (N := 4) rfl ?_); refine bx 4 #[.int .i64 0, .int .i64 0, .int .u64 0, .int .i64 0] 52 ?_; intro gb145 hg w8 hbox hb; have BK145 := Aside0.mk (hbox); have GW145 := ge_ hg; have GE145 := ge_ hg; have NB143_145 := nl_ BK143 hg; have NB145_143 := nr_ BK143 hg; have NB144_145 := nl_ BK144 hg; have NB145_144 := nr_ BK144 hg; replace BK143 := bk_ BK143 hb; replace BK144 := bk_ BK144 hb; replace HB := hs_ hb; clear hb hbox hg) | ((with_reducible refine gate_dst (N := 5) rfl ?_); refine bx 5 #[.int .i64 0, .int .i64 0, .int .u64 0, .int .i64 0] 51 ?_; intro gb146 hg w9 hbox hb; have BK146 := Aside0.mk (hbox); have GW146 := ge_ hg; have GE146 := ge_ hg; have NB143_146 := nl_ BK143 hg; have NB146_143 := nr_ BK143 hg; have NB144_146 := nl_ BK144 hg; have NB146_144 := nr_ BK144 hg; have NB145_146 := nl_ BK145 hg; have NB146_145 := nr_ BK145 hg; replace BK143 := bk_ BK143 hb; replace BK144 := bk_ BK144 hb; replace BK145 := bk_ BK145 hb; replace HB := hs_ hb; clear hb hbox hg; have hnb10 := NB144_143.out; have hnc10 := NB143_144.out; have hnb11 := NB144_145.out; have hnc11 := NB145_144.out; have hnb12 := NB144_146.out; have hnc12 := NB146_144.out; obtain ⟨hcz13_0, hcz13_1, hcz13_2, hcz13_3, hfz13_0, hfz13_1, hfz13_2, hfz13_3⟩ := bz4_ BK144; have hnb14 := NB143_145.out; have hnc14 := NB145_143.out; have hnb15 := NB143_146.out; have hnc15 := NB146_143.out; obtain ⟨hcz16_0, hcz16_1, hcz16_2, hcz16_3, hfz16_0, hfz16_1, hfz16_2, hfz16_3⟩ := bz4_ BK143) | ((with_reducible refine gate_callee (f := 115) rfl ?_); refine goesL_ (some 14) rfl rfl Try.func115 (by kernel_rfl) rfl #[.int .u64 a1_2, .int .i64 a0_0] rfl Z0 ?_; (with_reducible refine (ensembleref01_Lowest.calls k a1_2 a0_0 t147 t148 _ A3.out).mono ?_); rintro e w17 ⟨rfl, hb⟩; refine ⟨_, rfl, ?_⟩; replace BK143 := bk_ BK143 hb; replace BK144 := bk_ BK144 hb; replace BK145 := bk_ BK145 hb; replace BK146 := bk_ BK146 hb; replace HB := hs_ hb; (try clear hb); (try clear hb2); (try clear hk); (try clear hi); obtain ⟨hcz18_0, hcz18_1, hcz18_2, hcz18_3, hfz18_0, hfz18_1, hfz18_2, hfz18_3⟩ := bz4_ BK144; have hnb19 := NB145_146.out; have hnc19 := NB146_145.out; obtain ⟨hcz20_0, hcz20_1, hcz20_2, hcz20_3, hfz20_0, hfz20_1, hfz20_2, hfz20_3⟩ := bz4_ BK145; obtain ⟨hcz21_0, hcz21_1, hcz21_2, hcz21_3, hfz21_0, hfz21_1, hfz21_2, hfz21_3⟩ := bz4_ BK146))
   refine bodyPost_ret (results_list (rs := [.cell 4 52, .cell 5 51, .tmp 6]) rfl (by simp) (.cell gb145 52 #[.int .i64 0, .int .i64 0, .int .u64 0, .int .i64 0] (0, 0) _ rfl (by (with_reducible repeat (first | refine blk_drewN ?_ _ | refine blk_drew ?_ | refine blk_alloc ?_ _)); refine blk_far ?_ NB145_146.out _; (with_reducible repeat (first | refine blk_drewN ?_ _ | refine blk_drew ?_ | refine blk_alloc ?_ _)); refine blk_far ?_ NB145_146.out _; (with_reducible repeat (first | refine blk_drewN ?_ _ | refine blk_drew ?_ | refine blk_alloc ?_ _)); refine blk_far ?_ NB145_146.out _; (with_reducible repeat (first | refine blk_drewN ?_ _ | refine blk_drew ?_ | refine blk_alloc ?_ _)); refine blk_far ?_ NB145_146.out _; (with_reducible repeat (first | refine blk_drewN ?_ _ | refine blk_drew ?_ | refine blk_alloc ?_ _)); refine blk_put (cs := #[.int .i64 0, .int .i64 0, .int .u64 0, .int .i64 0]) ?_ 3 _ rfl; (with_reducible repeat (first | refine blk_drewN ?_ _ | refine blk_drew ?_ | refine blk_alloc ?_ _)); refine blk_put (cs := #[.int .i64 0, .int .i64 0, .int .u64 0, .int .i64 0]) ?_ 2 _ rfl; (with_reducible repeat (first | refine blk_drewN ?_ _ | refine blk_drew ?_ | refine blk_alloc ?_ _)); refine blk_put (cs := #[.int .i64 0, .int .i64 0, .int .u64 0, .int .i64 0]) ?_ 1 _ rfl; (with_reducible repeat (first | refine blk_drewN ?_ _ | refine blk_drew ?_ | refine blk_alloc ?_ _)); refine blk_put (cs := #[.int .i64 0, .int .i64 0, .int .u64 0, .int .i64 0]) ?_ 0 _ rfl; (with_reducible repeat (first | refine blk_drewN ?_ _ | refine blk_drew ?_ | refine blk_alloc ?_ _)); exact BK145.out) Try.underlying52 rfl (by kernel_rfl) (.cell gb146 51 #[.int .i64 0, .int .i64 0, .int .u64 0, .int .i64 0] (0, 0) _ rfl (by (with_reducible repeat (first | refine blk_drewN ?_ _ | refine blk_drew ?_ | refine blk_alloc ?_ _)); refine blk_put (cs := #[.int .i64 0, .int .i64 0, .int .u64 0, .int .i64 0]) ?_ 3 _ rfl; (with_reducible repeat (first | refine blk_drewN ?_ _ | refine blk_drew ?_ | refine blk_alloc ?_ _)); refine blk_put (cs := #[.int .i64 0, .int .i64 0, .int .u64 0, .int .i64 0]) ?_ 2 _ rfl; (with_reducible repeat (first | refine blk_drewN ?_ _ | refine blk_drew ?_ | refine blk_alloc ?_ _)); refine blk_put (cs := #[.int .i64 0, .int .i64 0, .int .u64 0, .int .i64 0]) ?_ 1 _ rfl; (with_reducible repeat (first | refine blk_drewN ?_ _ | refine blk_drew ?_ | refine blk_alloc ?_ _)); refine blk_put (cs := #[.int .i64 0, .int .i64 0, .int .u64 0, .int .i64 0]) ?_ 0 _ rfl; (with_reducible repeat (first | refine blk_drewN ?_ _ | refine blk_drew ?_ | refine blk_alloc ?_ _)); refine blk_far ?_ NB146_145.out _; (with_reducible repeat (first | refine blk_drewN ?_ _ | refine blk_drew ?_ | refine blk_alloc ?_ _)); refine blk_far ?_ NB146_145.out _; (with_reducible repeat (first | refine blk_drewN ?_ _ | refine blk_drew ?_ | refine blk_alloc ?_ _)); refine blk_far ?_ NB146_145.out _; (with_reducible repeat (first | refine blk_drewN ?_ _ | refine blk_drew ?_ | refine blk_alloc ?_ _)); refine blk_far ?_ NB146_145.out _; (with_reducible repeat (first | refine blk_drewN ?_ _ | refine blk_drew ?_ | refine blk_alloc ?_ _)); exact BK146.out) Try.underlying51 rfl (by kernel_rfl) (.tmp .nil)))) rfl ?_
   exact ⟨by first | rfl | (simp [errW_none, errW_some] <;> rfl) | (simp [*, errW_none, errW_some] <;> rfl), hb_⟩
  ·rw [if_neg c5] at H
   have c5b0 : decide (a1_3 < 0) = false := decide_eq_false c5
   clear c5
   by_cases c22 : a1_3 < a0_1
   ·rw [if_pos c22] at H
    have c22b0 : decide (a1_3 < a0_1) = true := decide_eq_true c22
    clear c22
    simp only [Option.some.injEq, Prod.mk.injEq] at H
    obtain ⟨rfl, rfl, rfl, rfl, rfl, rfl, rfl, rfl, rfl⟩ := H
    go_enter Try.func89, Try.ntmps89
    go_wp2_with (first | ((with_reducible refine gate_dst (N := 2) rfl ?_); refine bx 2 #[.int .i64 a0_0, .int .i64 a0_1, .int .i64 a0_2, .int .i64 a0_3] 27 ?_; intro gb143 hg w23 hbox hb; have BK143 := Aside0.mk (hbox); have GW143 := ge_ hg; have GE143 := ge_ hg; replace HB := hs_ hb; clear hb hbox hg) | ((with_reducible refine gate_dst (N := 3) rfl ?_); refine bx 3 #[.int .i64 a1_0, .int .i64 a1_1, .int .u64 a1_2, .int .i64 a1_3] 51 ?_; intro gb144 hg w24 hbox hb; have BK144 := Aside0.mk (hbox); have GW144 := ge_ hg; have GE144 := ge_ hg; have NB143_144 := nl_ BK143 hg; have NB144_143 := nr_ BK143 hg; replace BK143 := bk_ BK143 hb; replace HB := hs_ hb; clear hb hbox hg) | ((with_reducible refine gate_dst (N := 4) rfl ?_); refine bx 4 #[.int .i64 0, .int .i64 0, .int .u64 0, .int .i64 0] 52 ?_; intro gb145 hg w25 hbox hb; have BK145 := Aside0.mk (hbox); have GW145 := ge_ hg; have GE145 := ge_ hg; have NB143_145 := nl_ BK143 hg; have NB145_143 := nr_ BK143 hg; have NB144_145 := nl_ BK144 hg; have NB145_144 := nr_ BK144 hg; replace BK143 := bk_ BK143 hb; replace BK144 := bk_ BK144 hb; replace HB := hs_ hb; clear hb hbox hg) | ((with_reducible refine gate_dst (N := 5) rfl ?_); refine bx 5 #[.int .i64 0, .int .i64 0, .int .u64 0, .int .i64 0] 51 ?_; intro gb146 hg w26 hbox hb; have BK146 := Aside0.mk (hbox); have GW146 := ge_ hg; have GE146 := ge_ hg; have NB143_146 := nl_ BK143 hg; have NB146_143 := nr_ BK143 hg; have NB144_146 := nl_ BK144 hg; have NB146_144 := nr_ BK144 hg; have NB145_146 := nl_ BK145 hg; have NB146_145 := nr_ BK145 hg; replace BK143 := bk_ BK143 hb; replace BK144 := bk_ BK144 hb; replace BK145 := bk_ BK145 hb; replace HB := hs_ hb; clear hb hbox hg; have hnb27 := NB144_143.out; have hnc27 := NB143_144.out; have hnb28 := NB144_145.out; have hnc28 := NB145_144.out; have hnb29 := NB144_146.out; have hnc29 := NB146_144.out; obtain ⟨hcz30_0, hcz30_1, hcz30_2, hcz30_3, hfz30_0, hfz30_1, hfz30_2, hfz30_3⟩ := bz4_ BK144; have hnb31 := NB143_145.out; have hnc31 := NB145_143.out; have hnb32 := NB143_146.out; have hnc32 := NB146_143.out; obtain ⟨hcz33_0, hcz33_1, hcz33_2, hcz33_3, hfz33_0, hfz33_1, hfz33_2, hfz33_3⟩ := bz4_ BK143) | ((with_reducible refine gate_callee (f := 115) rfl ?_); refine goesL_ (some 14) rfl rfl Try.func115 (by kernel_rfl) rfl #[.int .u64 a1_2, .int .i64 a0_0] rfl Z0 ?_; (with_reducible refine (ensembleref01_Lowest.calls k a1_2 a0_0 t147 t148 _ A3.out).mono ?_); rintro e w34 ⟨rfl, hb⟩; refine ⟨_, rfl, ?_⟩; replace BK143 := bk_ BK143 hb; replace BK144 := bk_ BK144 hb; replace BK145 := bk_ BK145 hb; replace BK146 := bk_ BK146 hb; replace HB := hs_ hb; (try clear hb); (try clear hb2); (try clear hk); (try clear hi); obtain ⟨hcz35_0, hcz35_1, hcz35_2, hcz35_3, hfz35_0, hfz35_1, hfz35_2, hfz35_3⟩ := bz4_ BK144; obtain ⟨hcz36_0, hcz36_1, hcz36_2, hcz36_3, hfz36_0, hfz36_1, hfz36_2, hfz36_3⟩ := bz4_ BK143; have hnb37 := NB145_146.out; have hnc37 := NB146_145.out; obtain ⟨hcz38_0, hcz38_1, hcz38_2, hcz38_3, hfz38_0, hfz38_1, hfz38_2, hfz38_3⟩ := bz4_ BK145; obtain ⟨hcz39_0, hcz39_1, hcz39_2, hcz39_3, hfz39_0, hfz39_1, hfz39_2, hfz39_3⟩ := bz4_ BK146))
    refine bodyPost_ret (results_list (rs := [.cell 4 52, .cell 5 51, .tmp 6]) rfl (by simp) (.cell gb145 52 #[.int .i64 0, .int .i64 0, .int .u64 0, .int .i64 0] (0, 0) _ rfl (by (with_reducible repeat (first | refine blk_drewN ?_ _ | refine blk_drew ?_ | refine blk_alloc ?_ _)); refine blk_far ?_ NB145_146.out _; (with_reducible repeat (first | refine blk_drewN ?_ _ | refine blk_drew ?_ | refine blk_alloc ?_ _)); refine blk_far ?_ NB145_146.out _; (with_reducible repeat (first | refine blk_drewN ?_ _ | refine blk_drew ?_ | refine blk_alloc ?_ _)); refine blk_far ?_ NB145_146.out _; (with_reducible repeat (first | refine blk_drewN ?_ _ | refine blk_drew ?_ | refine blk_alloc ?_ _)); refine blk_far ?_ NB145_146.out _; (with_reducible repeat (first | refine blk_drewN ?_ _ | refine blk_drew ?_ | refine blk_alloc ?_ _)); refine blk_put (cs := #[.int .i64 0, .int .i64 0, .int .u64 0, .int .i64 0]) ?_ 3 _ rfl; (with_reducible repeat (first | refine blk_drewN ?_ _ | refine blk_drew ?_ | refine blk_alloc ?_ _)); refine blk_put (cs := #[.int .i64 0, .int .i64 0, .int .u64 0, .int .i64 0]) ?_ 2 _ rfl; (with_reducible repeat (first | refine blk_drewN ?_ _ | refine blk_drew ?_ | refine blk_alloc ?_ _)); refine blk_put (cs := #[.int .i64 0, .int .i64 0, .int .u64 0, .int .i64 0]) ?_ 1 _ rfl; (with_reducible repeat (first | refine blk_drewN ?_ _ | refine blk_drew ?_ | refine blk_alloc ?_ _)); refine blk_put (cs := #[.int .i64 0, .int .i64 0, .int .u64 0, .int .i64 0]) ?_ 0 _ rfl; (with_reducible repeat (first | refine blk_drewN ?_ _ | refine blk_drew ?_ | refine blk_alloc ?_ _)); exact BK145.out) Try.underlying52 rfl (by kernel_rfl) (.cell gb146 51 #[.int .i64 0, .int .i64 0, .int .u64 0, .int .i64 0] (0, 0) _ rfl (by (with_reducible repeat (first | refine blk_drewN ?_ _ | refine blk_drew ?_ | refine blk_alloc ?_ _)); refine blk_put (cs := #[.int .i64 0, .int .i64 0, .int .u64 0, .int .i64 0]) ?_ 3 _ rfl; (with_reducible repeat (first | refine blk_drewN ?_ _ | refine blk_drew ?_ | refine blk_alloc ?_ _)); refine blk_put (cs := #[.int .i64 0, .int .i64 0, .int .u64 0, .int .i64 0]) ?_ 2 _ rfl; (with_reducible repeat (first | refine blk_drewN ?_ _ | refine blk_drew ?_ | refine blk_alloc ?_ _)); refine blk_put (cs := #[.int .i64 0, .int .i64 0, .int .u64 0, .int .i64 0]) ?_ 1 _ rfl; (with_reducible repeat (first | refine blk_drewN ?_ _ | refine blk_drew ?_ | refine blk_alloc ?_ _)); refine blk_put (cs := #[.int .i64 0, .int .i64 0, .int .u64 0, .int .i64 0]) ?_ 0 _ rfl; (with_reducible repeat (first | refine blk_drewN ?_ _ | refine blk_drew ?_ | refine blk_alloc ?_ _)); refine blk_far ?_ NB146_145.out _; (with_reducible repeat (first | refine blk_drewN ?_ _ | refine blk_drew ?_ | refine blk_alloc ?_ _)); refine blk_far ?_ NB146_145.out _; (with_reducible repeat (first | refine blk_drewN ?_ _ | refine blk_drew ?_ | refine blk_alloc ?_ _)); refine blk_far ?_ NB146_145.out _; (with_reducible repeat (first | refine blk_drewN ?_ _ | refine blk_drew ?_ | refine blk_alloc ?_ _)); refine blk_far ?_ NB146_145.out _; (with_reducible repeat (first | refine blk_drewN ?_ _ | refine blk_drew ?_ | refine blk_alloc ?_ _)); exact BK146.out) Try.underlying51 rfl (by kernel_rfl) (.tmp .nil)))) rfl ?_
    exact ⟨by first | rfl | (simp [errW_none, errW_some] <;> rfl) | (simp [*, errW_none, errW_some] <;> rfl), hb_⟩
   ·rw [if_neg c22] at H
    have c22b0 : decide (a1_3 < a0_1) = false := decide_eq_false c22
    clear c22
    simp only [Option.some.injEq, Prod.mk.injEq] at H
    obtain ⟨rfl, rfl, rfl, rfl, rfl, rfl, rfl, rfl, rfl⟩ := H
    go_enter Try.func89, Try.ntmps89
    try go_wp2_with (first | ((with_reducible refine gate_dst (N := 2) rfl ?_); refine bx 2 #[.int .i64 a0_0, .int .i64 a0_1, .int .i64 a0_2, .int .i64 a0_3] 27 ?_; intro gb143 hg w40 hbox hb; have BK143 := Aside0.mk (hbox); have GW143 := ge_ hg; have GE143 := ge_ hg; replace HB := hs_ hb; clear hb hbox hg) | ((with_reducible refine gate_dst (N := 3) rfl ?_); refine bx 3 #[.int .i64 a1_0, .int .i64 a1_1, .int .u64 a1_2, .int .i64 a1_3] 51 ?_; intro gb144 hg w41 hbox hb; have BK144 := Aside0.mk (hbox); have GW144 := ge_ hg; have GE144 := ge_ hg; have NB143_144 := nl_ BK143 hg; have NB144_143 := nr_ BK143 hg; replace BK143 := bk_ BK143 hb; replace HB := hs_ hb; clear hb hbox hg) | ((with_reducible refine gate_dst (N := 4) rfl ?_); refine bx 4 #[.int .i64 0, .int .i64 0, .int .u64 0, .int .i64 0] 52 ?_; intro gb145 hg w42 hbox hb; have BK145 := Aside0.mk (hbox); have GW145 := ge_ hg; have GE145 := ge_ hg; have NB143_145 := nl_ BK143 hg; have NB145_143 := nr_ BK143 hg; have NB144_145 := nl_ BK144 hg; have NB145_144 := nr_ BK144 hg; replace BK143 := bk_ BK143 hb; replace BK144 := bk_ BK144 hb; replace HB := hs_ hb; clear hb hbox hg) | ((with_reducible refine gate_dst (N := 5) rfl ?_); refine bx 5 #[.int .i64 0, .int .i64 0, .int .u64 0, .int .i64 0] 51 ?_; intro gb146 hg w43 hbox hb; have BK146 := Aside0.mk (hbox); have GW146 := ge_ hg; have GE146 := ge_ hg; have NB143_146 := nl_ BK143 hg; have NB146_143 := nr_ BK143 hg; have NB144_146 := nl_ BK144 hg; have NB146_144 := nr_ BK144 hg; have NB145_146 := nl_ BK145 hg; have NB146_145 := nr_ BK145 hg; replace BK143 := bk_ BK143 hb; replace BK144 := bk_ BK144 hb; replace BK145 := bk_ BK145 hb; replace HB := hs_ hb; clear hb hbox hg; have hnb44 := NB144_143.out; have hnc44 := NB143_144.out; have hnb45 := NB144_145.out; have hnc45 := NB145_144.out; have hnb46 := NB144_146.out; have hnc46 := NB146_144.out; obtain ⟨hcz47_0, hcz47_1, hcz47_2, hcz47_3, hfz47_0, hfz47_1, hfz47_2, hfz47_3⟩ := bz4_ BK144; have hnb48 := NB143_145.out; have hnc48 := NB145_143.out; have hnb49 := NB143_146.out; have hnc49 := NB146_143.out; obtain ⟨hcz50_0, hcz50_1, hcz50_2, hcz50_3, hfz50_0, hfz50_1, hfz50_2, hfz50_3⟩ := bz4_ BK143) | ((with_reducible refine gate_callee (f := 115) rfl ?_); refine goesL_ (some 14) rfl rfl Try.func115 (by kernel_rfl) rfl #[.int .u64 a1_2, .int .i64 a0_0] rfl Z0 ?_; (with_reducible refine (ensembleref01_Lowest.calls k a1_2 a0_0 t147 t148 _ A3.out).mono ?_); rintro e w51 ⟨rfl, hb⟩; refine ⟨_, rfl, ?_⟩; replace BK143 := bk_ BK143 hb; replace BK144 := bk_ BK144 hb; replace BK145 := bk_ BK145 hb; replace BK146 := bk_ BK146 hb; replace HB := hs_ hb; (try clear hb); (try clear hb2); (try clear hk); (try clear hi); obtain ⟨hcz52_0, hcz52_1, hcz52_2, hcz52_3, hfz52_0, hfz52_1, hfz52_2, hfz52_3⟩ := bz4_ BK144; obtain ⟨hcz53_0, hcz53_1, hcz53_2, hcz53_3, hfz53_0, hfz53_1, hfz53_2, hfz53_3⟩ := bz4_ BK143))
    replace BK143 := Aside0.mk (blk_drew BK143.out)
    replace BK144 := Aside0.mk (blk_drew BK144.out)
    replace BK145 := Aside0.mk (blk_drew BK145.out)
    replace BK146 := Aside0.mk (blk_drew BK146.out)
    replace HB := Aside0.mk (below_drew1 HB.out)
    refine start_ (n := 21) (S := fun w' => w'.cell? ⟨gb144, 0, none⟩ = some (.int .i64 a1_0) ∧ w'.cell? ⟨gb144, 1, none⟩ = some (.int .i64 a1_1) ∧ w'.cell? ⟨gb144, 2, none⟩ = some (.int .u64 a1_2) ∧ w'.cell? ⟨gb144, 3, none⟩ = some (.int .i64 a1_3) ∧ w'.cell? ⟨gb143, 0, none⟩ = some (.int .i64 a0_0) ∧ w'.cell? ⟨gb143, 1, none⟩ = some (.int .i64 a0_1) ∧ w'.cell? ⟨gb143, 2, none⟩ = some (.int .i64 a0_2) ∧ w'.cell? ⟨gb143, 3, none⟩ = some (.int .i64 a0_3)) (ds := []) (bm 21 0) (by kernel_rfl) rfl rfl ⟨(blk_cell BK144.out 0).trans rfl, (blk_cell BK144.out 1).trans rfl, (blk_cell BK144.out 2).trans rfl, (blk_cell BK144.out 3).trans rfl, (blk_cell BK143.out 0).trans rfl, (blk_cell BK143.out 1).trans rfl, (blk_cell BK143.out 2).trans rfl, (blk_cell BK143.out 3).trans rfl⟩ (fun hHeld => ?_); refine with_tabW ensembleref04_Piece.tab4 ensembleref04_Piece.bits4 (fun HT_ HW_ => ?_)
    generalize w51.drew = w54 at BK143 BK144 BK145 BK146 HB hHeld ⊢
    refine pu 0 (some 33) (bm 21 1) ?_
    refine pu 2 (some 35) (bm 21 5) ?_
    refine pu 3 (some 36) (bm 21 13) ?_
    refine pu 6 (some 39) (bm 21 77) ?_
    refine pu 8 (some 41) (bm 21 333) ?_
    refine pu 10 (some 43) (bm 21 1357) ?_
    refine pu 12 (some 45) (bm 21 5453) ?_
    refine pu 14 (some 47) (bm 21 21837) ?_
    refine tk8 1 (some 34) (bm 21 21839) ?_
    refine tk8 4 (some 37) (bm 21 21855) ?_
    refine pu 5 (some 38) (bm 21 21887) ?_
    refine tk8 7 (some 40) (bm 21 22015) ?_
    refine tk8 9 (some 42) (bm 21 22527) ?_
    refine pu 11 (some 44) (bm 21 24575) ?_
    refine tk8 13 (some 46) (bm 21 32767) ?_
    refine tk8 15 (some 48) (bm 21 65535) ?_
    refine pu 16 (some 49) (bm 21 131071) ?_
    refine pu 17 (some 50) (bm 21 262143) ?_
    refine one_ (i := 18) (N := none) (bm 21 524287) rfl rfl (one_of HT_.out (by kernel_rfl)) (by decide) (fun K hK => ?_)
    have hs55 : w54.cell? ⟨gb145, 0, none⟩ = some (.int .i64 0) := (blk_cell BK145.out 0).trans rfl
    have hfs55 := blk_frozen BK145.out 0
    have hns55_0 := NB143_145.out
    have hns55_1 := NB144_145.out
    have hns55_3 := NB146_145.out
    have hms55_0 := NB145_143.out
    have hms55_1 := NB145_144.out
    have hms55_3 := NB145_146.out
    have hs56 : w54.cell? ⟨gb145, 1, none⟩ = some (.int .i64 0) := (blk_cell BK145.out 1).trans rfl
    have hfs56 := blk_frozen BK145.out 1
    have hns56_0 := NB143_145.out
    have hns56_1 := NB144_145.out
    have hns56_3 := NB146_145.out
    have hms56_0 := NB145_143.out
    have hms56_1 := NB145_144.out
    have hms56_3 := NB145_146.out
    have hs57 : w54.cell? ⟨gb145, 2, none⟩ = some (.int .u64 0) := (blk_cell BK145.out 2).trans rfl
    have hfs57 := blk_frozen BK145.out 2
    have hns57_0 := NB143_145.out
    have hns57_1 := NB144_145.out
    have hns57_3 := NB146_145.out
    have hms57_0 := NB145_143.out
    have hms57_1 := NB145_144.out
    have hms57_3 := NB145_146.out
    have hs58 : w54.cell? ⟨gb145, 3, none⟩ = some (.int .i64 0) := (blk_cell BK145.out 3).trans rfl
    have hfs58 := blk_frozen BK145.out 3
    have hns58_0 := NB143_145.out
    have hns58_1 := NB144_145.out
    have hns58_3 := NB146_145.out
    have hms58_0 := NB145_143.out
    have hms58_1 := NB145_144.out
    have hms58_3 := NB145_146.out
    refine skip_ (w1 := ?_) (by rfl) rfl ?_ ?_
    rotate_left
    ·go_simp
     rfl
    refine hK.out _ _ ⟨((cell_far (p := ⟨gb145, _, none⟩) NB144_145.out _).trans (((cell_far (p := ⟨gb145, _, none⟩) NB144_145.out _).trans (((cell_far (p := ⟨gb145, _, none⟩) NB144_145.out _).trans (((cell_far (p := ⟨gb145, _, none⟩) NB144_145.out _).trans (hHeld.1)))))))), ((cell_far (p := ⟨gb145, _, none⟩) NB144_145.out _).trans (((cell_far (p := ⟨gb145, _, none⟩) NB144_145.out _).trans (((cell_far (p := ⟨gb145, _, none⟩) NB144_145.out _).trans (((cell_far (p := ⟨gb145, _, none⟩) NB144_145.out _).trans (hHeld.2.1)))))))), ((cell_far (p := ⟨gb145, _, none⟩) NB144_145.out _).trans (((cell_far (p := ⟨gb145, _, none⟩) NB144_145.out _).trans (((cell_far (p := ⟨gb145, _, none⟩) NB144_145.out _).trans (((cell_far (p := ⟨gb145, _, none⟩) NB144_145.out _).trans (hHeld.2.2.1)))))))), ((cell_far (p := ⟨gb145, _, none⟩) NB144_145.out _).trans (((cell_far (p := ⟨gb145, _, none⟩) NB144_145.out _).trans (((cell_far (p := ⟨gb145, _, none⟩) NB144_145.out _).trans (((cell_far (p := ⟨gb145, _, none⟩) NB144_145.out _).trans (hHeld.2.2.2.1)))))))), ((cell_far (p := ⟨gb145, _, none⟩) NB143_145.out _).trans (((cell_far (p := ⟨gb145, _, none⟩) NB143_145.out _).trans (((cell_far (p := ⟨gb145, _, none⟩) NB143_145.out _).trans (((cell_far (p := ⟨gb145, _, none⟩) NB143_145.out _).trans (hHeld.2.2.2.2.1)))))))), ((cell_far (p := ⟨gb145, _, none⟩) NB143_145.out _).trans (((cell_far (p := ⟨gb145, _, none⟩) NB143_145.out _).trans (((cell_far (p := ⟨gb145, _, none⟩) NB143_145.out _).trans (((cell_far (p := ⟨gb145, _, none⟩) NB143_145.out _).trans (hHeld.2.2.2.2.2.1)))))))), ((cell_far (p := ⟨gb145, _, none⟩) NB143_145.out _).trans (((cell_far (p := ⟨gb145, _, none⟩) NB143_145.out _).trans (((cell_far (p := ⟨gb145, _, none⟩) NB143_145.out _).trans (((cell_far (p := ⟨gb145, _, none⟩) NB143_145.out _).trans (hHeld.2.2.2.2.2.2.1)))))))), ((cell_far (p := ⟨gb145, _, none⟩) NB143_145.out _).trans (((cell_far (p := ⟨gb145, _, none⟩) NB143_145.out _).trans (((cell_far (p := ⟨gb145, _, none⟩) NB143_145.out _).trans (((cell_far (p := ⟨gb145, _, none⟩) NB143_145.out _).trans (hHeld.2.2.2.2.2.2.2))))))))⟩ (fun hHeld => ?_)
    clear hK K
    refine one_ (i := 19) (N := none) (bm 21 1048575) rfl rfl (one_of HT_.out (by kernel_rfl)) (by decide) (fun K hK => ?_)
    have hs59 : w54.cell? ⟨gb146, 0, none⟩ = some (.int .i64 0) := (blk_cell BK146.out 0).trans rfl
    have hfs59 := blk_frozen BK146.out 0
    have hns59_0 := NB143_146.out
    have hns59_1 := NB144_146.out
    have hns59_2 := NB145_146.out
    have hms59_0 := NB146_143.out
    have hms59_1 := NB146_144.out
    have hms59_2 := NB146_145.out
    have hs60 : w54.cell? ⟨gb146, 1, none⟩ = some (.int .i64 0) := (blk_cell BK146.out 1).trans rfl
    have hfs60 := blk_frozen BK146.out 1
    have hns60_0 := NB143_146.out
    have hns60_1 := NB144_146.out
    have hns60_2 := NB145_146.out
    have hms60_0 := NB146_143.out
    have hms60_1 := NB146_144.out
    have hms60_2 := NB146_145.out
    have hs61 : w54.cell? ⟨gb146, 2, none⟩ = some (.int .u64 0) := (blk_cell BK146.out 2).trans rfl
    have hfs61 := blk_frozen BK146.out 2
    have hns61_0 := NB143_146.out
    have hns61_1 := NB144_146.out
    have hns61_2 := NB145_146.out
    have hms61_0 := NB146_143.out
    have hms61_1 := NB146_144.out
    have hms61_2 := NB146_145.out
    have hs62 : w54.cell? ⟨gb146, 3, none⟩ = some (.int .i64 0) := (blk_cell BK146.out 3).trans rfl
    have hfs62 := blk_frozen BK146.out 3
    have hns62_0 := NB143_146.out
    have hns62_1 := NB144_146.out
    have hns62_2 := NB145_146.out
    have hms62_0 := NB146_143.out
    have hms62_1 := NB146_144.out
    have hms62_2 := NB146_145.out
    refine skip_ (w1 := ?_) (by rfl) rfl ?_ ?_
    rotate_left
    ·go_simp
     rfl
    refine hK.out _ _ ⟨((cell_far (p := ⟨gb146, _, none⟩) NB144_146.out _).trans (((cell_far (p := ⟨gb146, _, none⟩) NB144_146.out _).trans (((cell_far (p := ⟨gb146, _, none⟩) NB144_146.out _).trans (((cell_far (p := ⟨gb146, _, none⟩) NB144_146.out _).trans (hHeld.1)))))))), ((cell_far (p := ⟨gb146, _, none⟩) NB144_146.out _).trans (((cell_far (p := ⟨gb146, _, none⟩) NB144_146.out _).trans (((cell_far (p := ⟨gb146, _, none⟩) NB144_146.out _).trans (((cell_far (p := ⟨gb146, _, none⟩) NB144_146.out _).trans (hHeld.2.1)))))))), ((cell_far (p := ⟨gb146, _, none⟩) NB144_146.out _).trans (((cell_far (p := ⟨gb146, _, none⟩) NB144_146.out _).trans (((cell_far (p := ⟨gb146, _, none⟩) NB144_146.out _).trans (((cell_far (p := ⟨gb146, _, none⟩) NB144_146.out _).trans (hHeld.2.2.1)))))))), ((cell_far (p := ⟨gb146, _, none⟩) NB144_146.out _).trans (((cell_far (p := ⟨gb146, _, none⟩) NB144_146.out _).trans (((cell_far (p := ⟨gb146, _, none⟩) NB144_146.out _).trans (((cell_far (p := ⟨gb146, _, none⟩) NB144_146.out _).trans (hHeld.2.2.2.1)))))))), ((cell_far (p := ⟨gb146, _, none⟩) NB143_146.out _).trans (((cell_far (p := ⟨gb146, _, none⟩) NB143_146.out _).trans (((cell_far (p := ⟨gb146, _, none⟩) NB143_146.out _).trans (((cell_far (p := ⟨gb146, _, none⟩) NB143_146.out _).trans (hHeld.2.2.2.2.1)))))))), ((cell_far (p := ⟨gb146, _, none⟩) NB143_146.out _).trans (((cell_far (p := ⟨gb146, _, none⟩) NB143_146.out _).trans (((cell_far (p := ⟨gb146, _, none⟩) NB143_146.out _).trans (((cell_far (p := ⟨gb146, _, none⟩) NB143_146.out _).trans (hHeld.2.2.2.2.2.1)))))))), ((cell_far (p := ⟨gb146, _, none⟩) NB143_146.out _).trans (((cell_far (p := ⟨gb146, _, none⟩) NB143_146.out _).trans (((cell_far (p := ⟨gb146, _, none⟩) NB143_146.out _).trans (((cell_far (p := ⟨gb146, _, none⟩) NB143_146.out _).trans (hHeld.2.2.2.2.2.2.1)))))))), ((cell_far (p := ⟨gb146, _, none⟩) NB143_146.out _).trans (((cell_far (p := ⟨gb146, _, none⟩) NB143_146.out _).trans (((cell_far (p := ⟨gb146, _, none⟩) NB143_146.out _).trans (((cell_far (p := ⟨gb146, _, none⟩) NB143_146.out _).trans (hHeld.2.2.2.2.2.2.2))))))))⟩ (fun hHeld => ?_)
    clear hK K
    refine pu 20 (some 6) (bm 21 2097151) ?_
    refine done_ (done_of HT_.out (by kernel_rfl)) ?_
    try go_wp2
    refine bodyPost_ret (results_list (rs := [.cell 4 52, .cell 5 51, .tmp 6]) rfl (by simp) (.cell gb145 52 #[.int .i64 a1_0, .int .i64 a1_1, .int .u64 t147, .int .i64 a0_1] (0, 0) _ rfl (by (with_reducible repeat (first | refine blk_drewN ?_ _ | refine blk_drew ?_ | refine blk_alloc ?_ _)); refine blk_far ?_ NB145_146.out _; (with_reducible repeat (first | refine blk_drewN ?_ _ | refine blk_drew ?_ | refine blk_alloc ?_ _)); refine blk_far ?_ NB145_146.out _; (with_reducible repeat (first | refine blk_drewN ?_ _ | refine blk_drew ?_ | refine blk_alloc ?_ _)); refine blk_far ?_ NB145_146.out _; (with_reducible repeat (first | refine blk_drewN ?_ _ | refine blk_drew ?_ | refine blk_alloc ?_ _)); refine blk_far ?_ NB145_146.out _; (with_reducible repeat (first | refine blk_drewN ?_ _ | refine blk_drew ?_ | refine blk_alloc ?_ _)); refine blk_put (cs := #[.int .i64 a1_0, .int .i64 a1_1, .int .u64 t147, .int .i64 0]) ?_ 3 _ rfl; (with_reducible repeat (first | refine blk_drewN ?_ _ | refine blk_drew ?_ | refine blk_alloc ?_ _)); refine blk_put (cs := #[.int .i64 a1_0, .int .i64 a1_1, .int .u64 0, .int .i64 0]) ?_ 2 _ rfl; (with_reducible repeat (first | refine blk_drewN ?_ _ | refine blk_drew ?_ | refine blk_alloc ?_ _)); refine blk_put (cs := #[.int .i64 a1_0, .int .i64 0, .int .u64 0, .int .i64 0]) ?_ 1 _ rfl; (with_reducible repeat (first | refine blk_drewN ?_ _ | refine blk_drew ?_ | refine blk_alloc ?_ _)); refine blk_put (cs := #[.int .i64 0, .int .i64 0, .int .u64 0, .int .i64 0]) ?_ 0 _ rfl; (with_reducible repeat (first | refine blk_drewN ?_ _ | refine blk_drew ?_ | refine blk_alloc ?_ _)); exact BK145.out) Try.underlying52 rfl (by kernel_rfl) (.cell gb146 51 #[.int .i64 a1_0, .int .i64 a1_1, .int .u64 (IntKind.u64.wrap (a1_2 - t147)), .int .i64 (wrap64 (a1_3 - a0_1))] (0, 0) _ rfl (by (with_reducible repeat (first | refine blk_drewN ?_ _ | refine blk_drew ?_ | refine blk_alloc ?_ _)); refine blk_put (cs := #[.int .i64 a1_0, .int .i64 a1_1, .int .u64 (IntKind.u64.wrap (a1_2 - t147)), .int .i64 0]) ?_ 3 _ rfl; (with_reducible repeat (first | refine blk_drewN ?_ _ | refine blk_drew ?_ | refine blk_alloc ?_ _)); refine blk_put (cs := #[.int .i64 a1_0, .int .i64 a1_1, .int .u64 0, .int .i64 0]) ?_ 2 _ rfl; (with_reducible repeat (first | refine blk_drewN ?_ _ | refine blk_drew ?_ | refine blk_alloc ?_ _)); refine blk_put (cs := #[.int .i64 a1_0, .int .i64 0, .int .u64 0, .int .i64 0]) ?_ 1 _ rfl; (with_reducible repeat (first | refine blk_drewN ?_ _ | refine blk_drew ?_ | refine blk_alloc ?_ _)); refine blk_put (cs := #[.int .i64 0, .int .i64 0, .int .u64 0, .int .i64 0]) ?_ 0 _ rfl; (with_reducible repeat (first | refine blk_drewN ?_ _ | refine blk_drew ?_ | refine blk_alloc ?_ _)); refine blk_far ?_ NB146_145.out _; (with_reducible repeat (first | refine blk_drewN ?_ _ | refine blk_drew ?_ | refine blk_alloc ?_ _)); refine blk_far ?_ NB146_145.out _; (with_reducible repeat (first | refine blk_drewN ?_ _ | refine blk_drew ?_ | refine blk_alloc ?_ _)); refine blk_far ?_ NB146_145.out _; (with_reducible repeat (first | refine blk_drewN ?_ _ | refine blk_drew ?_ | refine blk_alloc ?_ _)); refine blk_far ?_ NB146_145.out _; (with_reducible repeat (first | refine blk_drewN ?_ _ | refine blk_drew ?_ | refine blk_alloc ?_ _)); exact BK146.out) Try.underlying51 rfl (by kernel_rfl) (.tmp .nil)))) rfl ?_
    exact ⟨by first | rfl | (simp [errW_none, errW_some] <;> rfl) | (simp [*, errW_none, errW_some] <;> rfl), hb_⟩
 ·rw [if_neg c4] at H
  have c4b0 : (t148 == 0) = false := beq_eq_false_iff_ne.mpr c4
  have c4b1 : (t148 != 0) = true := bne_iff_ne.mpr c4
  simp only [Option.some.injEq, Prod.mk.injEq] at H
  obtain ⟨rfl, rfl, rfl, rfl, rfl, rfl, rfl, rfl, rfl⟩ := H
  go_enter Try.func89, Try.ntmps89
  go_wp2_with (first | ((with_reducible refine gate_dst (N := 2) rfl ?_); refine bx 2 #[.int .i64 a0_0, .int .i64 a0_1, .int .i64 a0_2, .int .i64 a0_3] 27 ?_; intro gb143 hg w63 hbox hb; have BK143 := Aside0.mk (hbox); have GW143 := ge_ hg; have GE143 := ge_ hg; replace HB := hs_ hb; clear hb hbox hg) | ((with_reducible refine gate_dst (N := 3) rfl ?_); refine bx 3 #[.int .i64 a1_0, .int .i64 a1_1, .int .u64 a1_2, .int .i64 a1_3] 51 ?_; intro gb144 hg w64 hbox hb; have BK144 := Aside0.mk (hbox); have GW144 := ge_ hg; have GE144 := ge_ hg; have NB143_144 := nl_ BK143 hg; have NB144_143 := nr_ BK143 hg; replace BK143 := bk_ BK143 hb; replace HB := hs_ hb; clear hb hbox hg) | ((with_reducible refine gate_dst (N := 4) rfl ?_); refine bx 4 #[.int .i64 0, .int .i64 0, .int .u64 0, .int .i64 0] 52 ?_; intro gb145 hg w65 hbox hb; have BK145 := Aside0.mk (hbox); have GW145 := ge_ hg; have GE145 := ge_ hg; have NB143_145 := nl_ BK143 hg; have NB145_143 := nr_ BK143 hg; have NB144_145 := nl_ BK144 hg; have NB145_144 := nr_ BK144 hg; replace BK143 := bk_ BK143 hb; replace BK144 := bk_ BK144 hb; replace HB := hs_ hb; clear hb hbox hg) | ((with_reducible refine gate_dst (N := 5) rfl ?_); refine bx 5 #[.int .i64 0, .int .i64 0, .int .u64 0, .int .i64 0] 51 ?_; intro gb146 hg w66 hbox hb; have BK146 := Aside0.mk (hbox); have GW146 := ge_ hg; have GE146 := ge_ hg; have NB143_146 := nl_ BK143 hg; have NB146_143 := nr_ BK143 hg; have NB144_146 := nl_ BK144 hg; have NB146_144 := nr_ BK144 hg; have NB145_146 := nl_ BK145 hg; have NB146_145 := nr_ BK145 hg; replace BK143 := bk_ BK143 hb; replace BK144 := bk_ BK144 hb; replace BK145 := bk_ BK145 hb; replace HB := hs_ hb; clear hb hbox hg; have hnb67 := NB144_143.out; have hnc67 := NB143_144.out; have hnb68 := NB144_145.out; have hnc68 := NB145_144.out; have hnb69 := NB144_146.out; have hnc69 := NB146_144.out; obtain ⟨hcz70_0, hcz70_1, hcz70_2, hcz70_3, hfz70_0, hfz70_1, hfz70_2, hfz70_3⟩ := bz4_ BK144; have hnb71 := NB143_145.out; have hnc71 := NB145_143.out; have hnb72 := NB143_146.out; have hnc72 := NB146_143.out; obtain ⟨hcz73_0, hcz73_1, hcz73_2, hcz73_3, hfz73_0, hfz73_1, hfz73_2, hfz73_3⟩ := bz4_ BK143) | ((with_reducible refine gate_callee (f := 115) rfl ?_); refine goesL_ (some 14) rfl rfl Try.func115 (by kernel_rfl) rfl #[.int .u64 a1_2, .int .i64 a0_0] rfl Z0 ?_; (with_reducible refine (ensembleref01_Lowest.calls k a1_2 a0_0 t147 t148 _ A3.out).mono ?_); rintro e w74 ⟨rfl, hb⟩; refine ⟨_, rfl, ?_⟩; replace BK143 := bk_ BK143 hb; replace BK144 := bk_ BK144 hb; replace BK145 := bk_ BK145 hb; replace BK146 := bk_ BK146 hb; replace HB := hs_ hb; (try clear hb); (try clear hb2); (try clear hk); (try clear hi); have hnb75 := NB145_146.out; have hnc75 := NB146_145.out; obtain ⟨hcz76_0, hcz76_1, hcz76_2, hcz76_3, hfz76_0, hfz76_1, hfz76_2, hfz76_3⟩ := bz4_ BK145; obtain ⟨hcz77_0, hcz77_1, hcz77_2, hcz77_3, hfz77_0, hfz77_1, hfz77_2, hfz77_3⟩ := bz4_ BK146))
  refine bodyPost_ret (results_list (rs := [.cell 4 52, .cell 5 51, .tmp 6]) rfl (by simp) (.cell gb145 52 #[.int .i64 0, .int .i64 0, .int .u64 0, .int .i64 0] (0, 0) _ rfl (by (with_reducible repeat (first | refine blk_drewN ?_ _ | refine blk_drew ?_ | refine blk_alloc ?_ _)); refine blk_far ?_ NB145_146.out _; (with_reducible repeat (first | refine blk_drewN ?_ _ | refine blk_drew ?_ | refine blk_alloc ?_ _)); refine blk_far ?_ NB145_146.out _; (with_reducible repeat (first | refine blk_drewN ?_ _ | refine blk_drew ?_ | refine blk_alloc ?_ _)); refine blk_far ?_ NB145_146.out _; (with_reducible repeat (first | refine blk_drewN ?_ _ | refine blk_drew ?_ | refine blk_alloc ?_ _)); refine blk_far ?_ NB145_146.out _; (with_reducible repeat (first | refine blk_drewN ?_ _ | refine blk_drew ?_ | refine blk_alloc ?_ _)); refine blk_put (cs := #[.int .i64 0, .int .i64 0, .int .u64 0, .int .i64 0]) ?_ 3 _ rfl; (with_reducible repeat (first | refine blk_drewN ?_ _ | refine blk_drew ?_ | refine blk_alloc ?_ _)); refine blk_put (cs := #[.int .i64 0, .int .i64 0, .int .u64 0, .int .i64 0]) ?_ 2 _ rfl; (with_reducible repeat (first | refine blk_drewN ?_ _ | refine blk_drew ?_ | refine blk_alloc ?_ _)); refine blk_put (cs := #[.int .i64 0, .int .i64 0, .int .u64 0, .int .i64 0]) ?_ 1 _ rfl; (with_reducible repeat (first | refine blk_drewN ?_ _ | refine blk_drew ?_ | refine blk_alloc ?_ _)); refine blk_put (cs := #[.int .i64 0, .int .i64 0, .int .u64 0, .int .i64 0]) ?_ 0 _ rfl; (with_reducible repeat (first | refine blk_drewN ?_ _ | refine blk_drew ?_ | refine blk_alloc ?_ _)); exact BK145.out) Try.underlying52 rfl (by kernel_rfl) (.cell gb146 51 #[.int .i64 0, .int .i64 0, .int .u64 0, .int .i64 0] (0, 0) _ rfl (by (with_reducible repeat (first | refine blk_drewN ?_ _ | refine blk_drew ?_ | refine blk_alloc ?_ _)); refine blk_put (cs := #[.int .i64 0, .int .i64 0, .int .u64 0, .int .i64 0]) ?_ 3 _ rfl; (with_reducible repeat (first | refine blk_drewN ?_ _ | refine blk_drew ?_ | refine blk_alloc ?_ _)); refine blk_put (cs := #[.int .i64 0, .int .i64 0, .int .u64 0, .int .i64 0]) ?_ 2 _ rfl; (with_reducible repeat (first | refine blk_drewN ?_ _ | refine blk_drew ?_ | refine blk_alloc ?_ _)); refine blk_put (cs := #[.int .i64 0, .int .i64 0, .int .u64 0, .int .i64 0]) ?_ 1 _ rfl; (with_reducible repeat (first | refine blk_drewN ?_ _ | refine blk_drew ?_ | refine blk_alloc ?_ _)); refine blk_put (cs := #[.int .i64 0, .int .i64 0, .int .u64 0, .int .i64 0]) ?_ 0 _ rfl; (with_reducible repeat (first | refine blk_drewN ?_ _ | refine blk_drew ?_ | refine blk_alloc ?_ _)); refine blk_far ?_ NB146_145.out _; (with_reducible repeat (first | refine blk_drewN ?_ _ | refine blk_drew ?_ | refine blk_alloc ?_ _)); refine blk_far ?_ NB146_145.out _; (with_reducible repeat (first | refine blk_drewN ?_ _ | refine blk_drew ?_ | refine blk_alloc ?_ _)); refine blk_far ?_ NB146_145.out _; (with_reducible repeat (first | refine blk_drewN ?_ _ | refine blk_drew ?_ | refine blk_alloc ?_ _)); refine blk_far ?_ NB146_145.out _; (with_reducible repeat (first | refine blk_drewN ?_ _ | refine blk_drew ?_ | refine blk_alloc ?_ _)); exact BK146.out) Try.underlying51 rfl (by kernel_rfl) (.tmp .nil)))) rfl ?_
  exact ⟨by first | rfl | (simp [errW_none, errW_some] <;> rfl) | (simp [*, errW_none, errW_some] <;> rfl), hb_⟩
end Go.Proofs.Ytckhjehibjdjdaa.P
namespace Go.Proofs.Ytckhjehibjdjdaa.P
open Go.RowKit Go.Proofs.YtckhjehibjdjdaaW.PrintWords Go.Proofs.YtckhjehibjdjdaaW.PrintLast Go.Proofs.YtckhjehibjdjdaaW.PrintMore
attribute [local go_sem] max2_int min2_int max_two min_two max_three min_three max_four min_four
set_option linter.unusedVariables false
set_option linter.unusedSimpArgs false
def ensembleref04_Right.f (a0_0 : Int) (a0_1 : Int) (a0_2 : Int) (a0_3 : Int) : Option (Bool) := if a0_0 ≥ 0 then (if a0_0 ≤ 16 then (if a0_1 ≥ 0 then (if a0_1 ≤ 1024 then (if (wrap64 (a0_0 + a0_1)) > 0 then (if a0_2 ≥ 1 then (if a0_2 ≤ a0_3 then (some (decide (a0_3 ≤ 16))) else (some false)) else (some false)) else (some false)) else (some false)) else (some false)) else (some false)) else (some false)
set_option maxHeartbeats 8000000 in
set_option maxRecDepth 100000 in
theorem ensembleref04_Right.calls (a0_0 : Int) (a0_1 : Int) (a0_2 : Int) (a0_3 : Int) (r : Bool) (w : World) (h : ensembleref04_Right.f a0_0 a0_1 a0_2 a0_3 = some r) :
  Calls Try.prog 45 #[.agg #[.int .i64 a0_0, .int .i64 a0_1, .int .i64 a0_2, .int .i64 a0_3]] w fun e w' => e = .returned (.bool r) ∧ Below w.heap.size w w' := by
 have hu27 := Try.underlying27
 have HB := Aside0.mk (Below.refl w.heap.size w)
 have H : (if a0_0 ≥ 0 then (if a0_0 ≤ 16 then (if a0_1 ≥ 0 then (if a0_1 ≤ 1024 then (if (wrap64 (a0_0 + a0_1)) > 0 then (if a0_2 ≥ 1 then (if a0_2 ≤ a0_3 then (some (decide (a0_3 ≤ 16))) else (some false)) else (some false)) else (some false)) else (some false)) else (some false)) else (some false)) else (some false)) = some r := h
 clear h
 by_cases c2 : a0_0 ≥ 0
 ·rw [if_pos c2] at H
  have c2b0 : decide (0 ≤ a0_0) = true := decide_eq_true c2
  clear c2
  by_cases c3 : a0_0 ≤ 16
  ·rw [if_pos c3] at H
   have c3b0 : decide (a0_0 ≤ 16) = true := decide_eq_true c3
   clear c3
   by_cases c4 : a0_1 ≥ 0
   ·rw [if_pos c4] at H
    have c4b0 : decide (0 ≤ a0_1) = true := decide_eq_true c4
    clear c4
    by_cases c5 : a0_1 ≤ 1024
    ·rw [if_pos c5] at H
     have c5b0 : decide (a0_1 ≤ 1024) = true := decide_eq_true c5
     clear c5
     by_cases c6 : (wrap64 (a0_0 + a0_1)) > 0
     ·rw [if_pos c6] at H
      have c6b0 : decide (0 < (wrap64 (a0_0 + a0_1))) = true := decide_eq_true c6
      clear c6
      by_cases c7 : a0_2 ≥ 1
      ·rw [if_pos c7] at H
       have c7b0 : decide (1 ≤ a0_2) = true := decide_eq_true c7
       clear c7
       by_cases c8 : a0_2 ≤ a0_3
       ·rw [if_pos c8] at H
        have c8b0 : decide (a0_2 ≤ a0_3) = true := decide_eq_true c8
        clear c8
        obtain rfl := Option.some.inj H
        go_enter Try.func45, Try.ntmps45
        go_wp2_with (first | ((with_reducible refine gate_dst (N := 1) rfl ?_); refine bx 1 #[.int .i64 a0_0, .int .i64 a0_1, .int .i64 a0_2, .int .i64 a0_3] 27 ?_; intro gb131 hg w9 hbox hb; have BK131 := Aside0.mk (hbox); have GW131 := ge_ hg; have GE131 := ge_ hg; replace HB := hs_ hb; clear hb hbox hg; obtain ⟨hcz10_0, hcz10_1, hcz10_2, hcz10_3, hfz10_0, hfz10_1, hfz10_2, hfz10_3⟩ := bz4_ BK131))
        go_ret
        exact ⟨by first | rfl | (simp [errW_none, errW_some] <;> rfl) | (simp [*, errW_none, errW_some] <;> rfl), hb_⟩
       ·rw [if_neg c8] at H
        have c8b0 : decide (a0_2 ≤ a0_3) = false := decide_eq_false c8
        clear c8
        obtain rfl := Option.some.inj H
        go_enter Try.func45, Try.ntmps45
        go_wp2_with (first | ((with_reducible refine gate_dst (N := 1) rfl ?_); refine bx 1 #[.int .i64 a0_0, .int .i64 a0_1, .int .i64 a0_2, .int .i64 a0_3] 27 ?_; intro gb131 hg w11 hbox hb; have BK131 := Aside0.mk (hbox); have GW131 := ge_ hg; have GE131 := ge_ hg; replace HB := hs_ hb; clear hb hbox hg; obtain ⟨hcz12_0, hcz12_1, hcz12_2, hcz12_3, hfz12_0, hfz12_1, hfz12_2, hfz12_3⟩ := bz4_ BK131))
        go_ret
        exact ⟨by first | rfl | (simp [errW_none, errW_some] <;> rfl) | (simp [*, errW_none, errW_some] <;> rfl), hb_⟩
      ·rw [if_neg c7] at H
       have c7b0 : decide (1 ≤ a0_2) = false := decide_eq_false c7
       clear c7
       obtain rfl := Option.some.inj H
       go_enter Try.func45, Try.ntmps45
       go_wp2_with (first | ((with_reducible refine gate_dst (N := 1) rfl ?_); refine bx 1 #[.int .i64 a0_0, .int .i64 a0_1, .int .i64 a0_2, .int .i64 a0_3] 27 ?_; intro gb131 hg w13 hbox hb; have BK131 := Aside0.mk (hbox); have GW131 := ge_ hg; have GE131 := ge_ hg; replace HB := hs_ hb; clear hb hbox hg; obtain ⟨hcz14_0, hcz14_1, hcz14_2, hcz14_3, hfz14_0, hfz14_1, hfz14_2, hfz14_3⟩ := bz4_ BK131))
       go_ret
       exact ⟨by first | rfl | (simp [errW_none, errW_some] <;> rfl) | (simp [*, errW_none, errW_some] <;> rfl), hb_⟩
     ·rw [if_neg c6] at H
      have c6b0 : decide (0 < (wrap64 (a0_0 + a0_1))) = false := decide_eq_false c6
      clear c6
      obtain rfl := Option.some.inj H
      go_enter Try.func45, Try.ntmps45
      go_wp2_with (first | ((with_reducible refine gate_dst (N := 1) rfl ?_); refine bx 1 #[.int .i64 a0_0, .int .i64 a0_1, .int .i64 a0_2, .int .i64 a0_3] 27 ?_; intro gb131 hg w15 hbox hb; have BK131 := Aside0.mk (hbox); have GW131 := ge_ hg; have GE131 := ge_ hg; replace HB := hs_ hb; clear hb hbox hg; obtain ⟨hcz16_0, hcz16_1, hcz16_2, hcz16_3, hfz16_0, hfz16_1, hfz16_2, hfz16_3⟩ := bz4_ BK131))
      go_ret
      exact ⟨by first | rfl | (simp [errW_none, errW_some] <;> rfl) | (simp [*, errW_none, errW_some] <;> rfl), hb_⟩
    ·rw [if_neg c5] at H
     have c5b0 : decide (a0_1 ≤ 1024) = false := decide_eq_false c5
     clear c5
     obtain rfl := Option.some.inj H
     go_enter Try.func45, Try.ntmps45
     go_wp2_with (first | ((with_reducible refine gate_dst (N := 1) rfl ?_); refine bx 1 #[.int .i64 a0_0, .int .i64 a0_1, .int .i64 a0_2, .int .i64 a0_3] 27 ?_; intro gb131 hg w17 hbox hb; have BK131 := Aside0.mk (hbox); have GW131 := ge_ hg; have GE131 := ge_ hg; replace HB := hs_ hb; clear hb hbox hg; obtain ⟨hcz18_0, hcz18_1, hcz18_2, hcz18_3, hfz18_0, hfz18_1, hfz18_2, hfz18_3⟩ := bz4_ BK131))
     go_ret
     exact ⟨by first | rfl | (simp [errW_none, errW_some] <;> rfl) | (simp [*, errW_none, errW_some] <;> rfl), hb_⟩
   ·rw [if_neg c4] at H
    have c4b0 : decide (0 ≤ a0_1) = false := decide_eq_false c4
    clear c4
    obtain rfl := Option.some.inj H
    go_enter Try.func45, Try.ntmps45
    go_wp2_with (first | ((with_reducible refine gate_dst (N := 1) rfl ?_); refine bx 1 #[.int .i64 a0_0, .int .i64 a0_1, .int .i64 a0_2, .int .i64 a0_3] 27 ?_; intro gb131 hg w19 hbox hb; have BK131 := Aside0.mk (hbox); have GW131 := ge_ hg; have GE131 := ge_ hg; replace HB := hs_ hb; clear hb hbox hg; obtain ⟨hcz20_0, hcz20_1, hcz20_2, hcz20_3, hfz20_0, hfz20_1, hfz20_2, hfz20_3⟩ := bz4_ BK131))
    go_ret
    exact ⟨by first | rfl | (simp [errW_none, errW_some] <;> rfl) | (simp [*, errW_none, errW_some] <;> rfl), hb_⟩
  ·rw [if_neg c3] at H
   have c3b0 : decide (a0_0 ≤ 16) = false := decide_eq_false c3
   clear c3
   obtain rfl := Option.some.inj H
   go_enter Try.func45, Try.ntmps45
   go_wp2_with (first | ((with_reducible refine gate_dst (N := 1) rfl ?_); refine bx 1 #[.int .i64 a0_0, .int .i64 a0_1, .int .i64 a0_2, .int .i64 a0_3] 27 ?_; intro gb131 hg w21 hbox hb; have BK131 := Aside0.mk (hbox); have GW131 := ge_ hg; have GE131 := ge_ hg; replace HB := hs_ hb; clear hb hbox hg; obtain ⟨hcz22_0, hcz22_1, hcz22_2, hcz22_3, hfz22_0, hfz22_1, hfz22_2, hfz22_3⟩ := bz4_ BK131))
   go_ret
   exact ⟨by first | rfl | (simp [errW_none, errW_some] <;> rfl) | (simp [*, errW_none, errW_some] <;> rfl), hb_⟩
 ·rw [if_neg c2] at H
  have c2b0 : decide (0 ≤ a0_0) = false := decide_eq_false c2
  clear c2
  obtain rfl := Option.some.inj H
  go_enter Try.func45, Try.ntmps45
  go_wp2_with (first | ((with_reducible refine gate_dst (N := 1) rfl ?_); refine bx 1 #[.int .i64 a0_0, .int .i64 a0_1, .int .i64 a0_2, .int .i64 a0_3] 27 ?_; intro gb131 hg w23 hbox hb; have BK131 := Aside0.mk (hbox); have GW131 := ge_ hg; have GE131 := ge_ hg; replace HB := hs_ hb; clear hb hbox hg; obtain ⟨hcz24_0, hcz24_1, hcz24_2, hcz24_3, hfz24_0, hfz24_1, hfz24_2, hfz24_3⟩ := bz4_ BK131))
  go_ret
  exact ⟨by first | rfl | (simp [errW_none, errW_some] <;> rfl) | (simp [*, errW_none, errW_some] <;> rfl), hb_⟩
end Go.Proofs.Ytckhjehibjdjdaa.P
namespace Go.Proofs.Ytckhjehibjdjdaa.P
open Go.RowKit Go.Proofs.YtckhjehibjdjdaaW.PrintWords Go.Proofs.YtckhjehibjdjdaaW.PrintLast Go.Proofs.YtckhjehibjdjdaaW.PrintMore
attribute [local go_sem] max2_int min2_int max_two min_two max_three min_three max_four min_four
set_option linter.unusedVariables false
set_option linter.unusedSimpArgs false
def ensembleref04_Fits.l0 : Nat → Int → Int → Int → Int → Int → Int → Int → Int → Int → Option (Int)
 | 0, _, _, _, _, _, _, _, _, _ => none
 | k + 1, x5, x150000, x150001, x150002, x150003, x151000, x151001, x151002, x151003 => if x5 < 16 then ((ensembleref04_Piece.f k x150000 x150001 x150002 x150003 x151000 x151001 x151002 x151003).bind fun bt152 => (if bt152.2.2.2.2.2.2.2.2 = 0 then (ensembleref04_Fits.l0 k (wrap64 (x5 + 1)) x150000 x150001 x150002 x150003 bt152.2.2.2.2.1 bt152.2.2.2.2.2.1 bt152.2.2.2.2.2.2.1 bt152.2.2.2.2.2.2.2.1) else (some x5))) else (some x5)
def ensembleref04_Fits.f (k : Nat) (a0_0 : Int) (a0_1 : Int) (a0_2 : Int) (a0_3 : Int) (a1_0 : Int) (a1_1 : Int) (a1_2 : Int) (a1_3 : Int) : Option (Int) := (ensembleref04_Right.f a0_0 a0_1 a0_2 a0_3).bind fun t151 => (if t151 = true then (ensembleref04_Fits.l0 k 0 a0_0 a0_1 a0_2 a0_3 a1_0 a1_1 a1_2 a1_3) else (some 0))
set_option maxHeartbeats 8000000 in
set_option maxRecDepth 100000 in
theorem ensembleref04_Fits.calls (k : Nat) (a0_0 : Int) (a0_1 : Int) (a0_2 : Int) (a0_3 : Int) (a1_0 : Int) (a1_1 : Int) (a1_2 : Int) (a1_3 : Int) (r : Int) (w : World) (h : ensembleref04_Fits.f k a0_0 a0_1 a0_2 a0_3 a1_0 a1_1 a1_2 a1_3 = some r) :
  Calls Try.prog 47 #[.agg #[.int .i64 a0_0, .int .i64 a0_1, .int .i64 a0_2, .int .i64 a0_3], .agg #[.int .i64 a1_0, .int .i64 a1_1, .int .u64 a1_2, .int .i64 a1_3]] w fun e w' => e = .returned (.int .i64 r) ∧ Below w.heap.size w w' := by
 have hu27 := Try.underlying27
 have hu51 := Try.underlying51
 have hu52 := Try.underlying52
 have HB := Aside0.mk (Below.refl w.heap.size w)
 have H : ((ensembleref04_Right.f a0_0 a0_1 a0_2 a0_3).bind fun t151 => (if t151 = true then (ensembleref04_Fits.l0 k 0 a0_0 a0_1 a0_2 a0_3 a1_0 a1_1 a1_2 a1_3) else (some 0))) = some r := h
 clear h
 replace H := Option.bind_eq_some_iff.mp H
 obtain ⟨t151, A30, H⟩ := H
 replace H : (if t151 = true then (ensembleref04_Fits.l0 k 0 a0_0 a0_1 a0_2 a0_3 a1_0 a1_1 a1_2 a1_3) else (some 0)) = some r := H
 have A3 := Aside0.mk A30
 clear A30
 by_cases c4 : t151 = true
 ·subst c4
  have H1 : (ensembleref04_Fits.l0 k 0 a0_0 a0_1 a0_2 a0_3 a1_0 a1_1 a1_2 a1_3) = some r := by rw [if_pos rfl] at H; exact H
  clear H
  have H := H1
  clear H1
  have H' := Aside0.mk H
  clear H
  go_enter Try.func47, Try.ntmps47
  go_wp2_with (first | ((with_reducible refine gate_dst (N := 2) rfl ?_); refine bx 2 #[.int .i64 a0_0, .int .i64 a0_1, .int .i64 a0_2, .int .i64 a0_3] 27 ?_; intro gb149 hg w5 hbox hb; have BK149 := Aside0.mk (hbox); have GW149 := ge_ hg; have GE149 := ge_ hg; replace HB := hs_ hb; clear hb hbox hg) | ((with_reducible refine gate_dst (N := 3) rfl ?_); refine bx 3 #[.int .i64 a1_0, .int .i64 a1_1, .int .u64 a1_2, .int .i64 a1_3] 51 ?_; intro gb150 hg w6 hbox hb; have BK150 := Aside0.mk (hbox); have GW150 := ge_ hg; have GE150 := ge_ hg; have NB149_150 := nl_ BK149 hg; have NB150_149 := nr_ BK149 hg; replace BK149 := bk_ BK149 hb; replace HB := hs_ hb; clear hb hbox hg; have hnb7 := NB149_150.out; have hnc7 := NB150_149.out; obtain ⟨hcz8_0, hcz8_1, hcz8_2, hcz8_3, hfz8_0, hfz8_1, hfz8_2, hfz8_3⟩ := bz4_ BK149) | ((with_reducible refine gate_callee (f := 45) rfl ?_); refine goesL_ (some 10) rfl rfl Try.func45 (by kernel_rfl) rfl #[.agg #[.int .i64 a0_0, .int .i64 a0_1, .int .i64 a0_2, .int .i64 a0_3]] rfl Z0 ?_; (with_reducible refine (ensembleref04_Right.calls a0_0 a0_1 a0_2 a0_3 true _ A3.out).mono ?_); rintro e w9 ⟨rfl, hb⟩; refine ⟨_, rfl, ?_⟩; replace BK149 := bk_ BK149 hb; replace BK150 := bk_ BK150 hb; replace HB := hs_ hb; (try clear hb); (try clear hb2); (try clear hk); (try clear hi)))
  go_loopg [5] k (fun kq v5 w' => ∃ (x5_1 : Int) (x151000_1 : Int) (x151001_1 : Int) (x151002_1 : Int) (x151003_1 : Int), v5 = .int .i64 x5_1 ∧ Aside0 (ensembleref04_Fits.l0 kq x5_1 a0_0 a0_1 a0_2 a0_3 x151000_1 x151001_1 x151002_1 x151003_1 = some r) ∧ Aside0 (kq ≤ k) ∧ Aside0 (w'.heap[gb149]? = some (.cells #[.int .i64 a0_0, .int .i64 a0_1, .int .i64 a0_2, .int .i64 a0_3] 27 (0, 0))) ∧ Aside0 (w'.heap[gb150]? = some (.cells #[.int .i64 x151000_1, .int .i64 x151001_1, .int .u64 x151002_1, .int .i64 x151003_1] 51 (0, 0))) ∧ Aside0 (Below w.heap.size w w'))
  case atStart => exact ⟨(0), (a1_0), (a1_1), (a1_2), (a1_3), Z4, H', ⟨Nat.le_refl _⟩, ⟨bo_ BK149⟩, ⟨bo_ BK150⟩, ⟨hb_⟩⟩
  case round =>
   clear H'
   try clear p2
   try clear c4
   try clear c7
   try clear hcz8_0
   try clear hcz8_1
   try clear hcz8_2
   try clear hcz8_3
   try clear hfz8_0
   try clear hfz8_1
   try clear hfz8_2
   try clear hfz8_3
   obtain ⟨x5_1, x151000_1, x151001_1, x151002_1, x151003_1, rfl, HA, HK1, BK149, BK150, HB⟩ := hrel
   cases gk with
   | zero => exact absurd HA.out (by simp [ensembleref04_Fits.l0])
   | succ k1 =>
    have H := HA.out
    clear HA
    simp only [ensembleref04_Fits.l0] at H
    by_cases c10 : x5_1 < 16
    ·rw [if_pos c10] at H
     have c10b0 : decide (x5_1 < 16) = true := decide_eq_true c10
     clear c10
     replace H := Option.bind_eq_some_iff.mp H
     obtain ⟨⟨t152, t153, t154, t155, t156, t157, t158, t159, t160⟩, A110, H⟩ := H
     replace H : (if t160 = 0 then (ensembleref04_Fits.l0 k1 (wrap64 (x5_1 + 1)) a0_0 a0_1 a0_2 a0_3 t156 t157 t158 t159) else (some x5_1)) = some r := H
     have A11 := Aside0.mk A110
     clear A110
     by_cases c12 : t160 = 0
     ·rw [if_pos c12] at H
      have c12b0 : (t160 == 0) = true := beq_iff_eq.mpr c12
      have c12b1 : (t160 != 0) = false := bne_eq_false_iff_eq.mpr c12
      clear c12
      have H' := Aside0.mk H
      clear H
      have hnb13 := NB149_150.out
      have hnc13 := NB150_149.out
      obtain ⟨hcz14_0, hcz14_1, hcz14_2, hcz14_3, hfz14_0, hfz14_1, hfz14_2, hfz14_3⟩ := bz4_ BK149
      obtain ⟨hcz15_0, hcz15_1, hcz15_2, hcz15_3, hfz15_0, hfz15_1, hfz15_2, hfz15_3⟩ := bz4_ BK150
      go_wp2_with (first | ((with_reducible refine gate_callee (f := 89) rfl ?_); refine goesL_ (some 17) rfl rfl Try.func89 (by kernel_rfl) rfl #[.agg #[.int .i64 a0_0, .int .i64 a0_1, .int .i64 a0_2, .int .i64 a0_3], .agg #[.int .i64 x151000_1, .int .i64 x151001_1, .int .u64 x151002_1, .int .i64 x151003_1]] rfl Z0 ?_; (with_reducible refine (ensembleref04_Piece.calls k1 a0_0 a0_1 a0_2 a0_3 x151000_1 x151001_1 x151002_1 x151003_1 t152 t153 t154 t155 t156 t157 t158 t159 t160 _ A11.out).mono ?_); rintro e w16 ⟨rfl, hb⟩; refine ⟨_, rfl, ?_⟩; replace BK149 := bk_ BK149 hb; replace BK150 := bk_ BK150 hb; replace HB := hs_ hb; (try clear hb); (try clear hb2); (try clear hk); (try clear hi)) | ((with_reducible refine gate_dst (N := 6) rfl ?_); refine bx 6 #[.int .i64 0, .int .i64 0, .int .u64 0, .int .i64 0] 52 ?_; intro gb161 hg w17 hbox hb; have BK161 := Aside0.mk (hbox); have GW161 := ge_ hg; have GE161 := ge_ hg; have NB149_161 := nl_ BK149 hg; have NB161_149 := nr_ BK149 hg; have NB150_161 := nl_ BK150 hg; have NB161_150 := nr_ BK150 hg; replace BK149 := bk_ BK149 hb; replace BK150 := bk_ BK150 hb; replace HB := hs_ hb; clear hb hbox hg) | ((with_reducible refine gate_dst (N := 7) rfl ?_); refine bx 7 #[.int .i64 0, .int .i64 0, .int .u64 0, .int .i64 0] 51 ?_; intro gb162 hg w18 hbox hb; have BK162 := Aside0.mk (hbox); have GW162 := ge_ hg; have GE162 := ge_ hg; have NB149_162 := nl_ BK149 hg; have NB162_149 := nr_ BK149 hg; have NB150_162 := nl_ BK150 hg; have NB162_150 := nr_ BK150 hg; have NB161_162 := nl_ BK161 hg; have NB162_161 := nr_ BK161 hg; replace BK149 := bk_ BK149 hb; replace BK150 := bk_ BK150 hb; replace BK161 := bk_ BK161 hb; replace HB := hs_ hb; clear hb hbox hg; have hnb19 := NB161_149.out; have hnc19 := NB149_161.out; have hnb20 := NB161_150.out; have hnc20 := NB150_161.out; have hnb21 := NB161_162.out; have hnc21 := NB162_161.out; obtain ⟨hcz22_0, hcz22_1, hcz22_2, hcz22_3, hfz22_0, hfz22_1, hfz22_2, hfz22_3⟩ := bz4_ BK161; have hnb23 := NB162_149.out; have hnc23 := NB149_162.out; have hnb24 := NB162_150.out; have hnc24 := NB150_162.out; obtain ⟨hcz25_0, hcz25_1, hcz25_2, hcz25_3, hfz25_0, hfz25_1, hfz25_2, hfz25_3⟩ := bz4_ BK162; obtain ⟨hcz26_0, hcz26_1, hcz26_2, hcz26_3, hfz26_0, hfz26_1, hfz26_2, hfz26_3⟩ := bz4_ BK150))
      go_roundg k1
      case measure => have := HK1.out; omega
      case rel => exact ⟨(wrap64 (x5_1 + 1)), (t156), (t157), (t158), (t159), Z4, H', ⟨by have := HK1.out; omega⟩, ⟨bs_⟩, ⟨bs_⟩, ⟨hb_⟩⟩
     ·rw [if_neg c12] at H
      have c12b0 : (t160 == 0) = false := beq_eq_false_iff_ne.mpr c12
      have c12b1 : (t160 != 0) = true := bne_iff_ne.mpr c12
      obtain rfl := Option.some.inj H
      have hnb27 := NB149_150.out
      have hnc27 := NB150_149.out
      obtain ⟨hcz28_0, hcz28_1, hcz28_2, hcz28_3, hfz28_0, hfz28_1, hfz28_2, hfz28_3⟩ := bz4_ BK149
      obtain ⟨hcz29_0, hcz29_1, hcz29_2, hcz29_3, hfz29_0, hfz29_1, hfz29_2, hfz29_3⟩ := bz4_ BK150
      go_wp2_with (first | ((with_reducible refine gate_callee (f := 89) rfl ?_); refine goesL_ (some 17) rfl rfl Try.func89 (by kernel_rfl) rfl #[.agg #[.int .i64 a0_0, .int .i64 a0_1, .int .i64 a0_2, .int .i64 a0_3], .agg #[.int .i64 x151000_1, .int .i64 x151001_1, .int .u64 x151002_1, .int .i64 x151003_1]] rfl Z0 ?_; (with_reducible refine (ensembleref04_Piece.calls k1 a0_0 a0_1 a0_2 a0_3 x151000_1 x151001_1 x151002_1 x151003_1 t152 t153 t154 t155 t156 t157 t158 t159 t160 _ A11.out).mono ?_); rintro e w30 ⟨rfl, hb⟩; refine ⟨_, rfl, ?_⟩; replace BK149 := bk_ BK149 hb; replace BK150 := bk_ BK150 hb; replace HB := hs_ hb; (try clear hb); (try clear hb2); (try clear hk); (try clear hi)) | ((with_reducible refine gate_dst (N := 6) rfl ?_); refine bx 6 #[.int .i64 0, .int .i64 0, .int .u64 0, .int .i64 0] 52 ?_; intro gb161 hg w31 hbox hb; have BK161 := Aside0.mk (hbox); have GW161 := ge_ hg; have GE161 := ge_ hg; have NB149_161 := nl_ BK149 hg; have NB161_149 := nr_ BK149 hg; have NB150_161 := nl_ BK150 hg; have NB161_150 := nr_ BK150 hg; replace BK149 := bk_ BK149 hb; replace BK150 := bk_ BK150 hb; replace HB := hs_ hb; clear hb hbox hg) | ((with_reducible refine gate_dst (N := 7) rfl ?_); refine bx 7 #[.int .i64 0, .int .i64 0, .int .u64 0, .int .i64 0] 51 ?_; intro gb162 hg w32 hbox hb; have BK162 := Aside0.mk (hbox); have GW162 := ge_ hg; have GE162 := ge_ hg; have NB149_162 := nl_ BK149 hg; have NB162_149 := nr_ BK149 hg; have NB150_162 := nl_ BK150 hg; have NB162_150 := nr_ BK150 hg; have NB161_162 := nl_ BK161 hg; have NB162_161 := nr_ BK161 hg; replace BK149 := bk_ BK149 hb; replace BK150 := bk_ BK150 hb; replace BK161 := bk_ BK161 hb; replace HB := hs_ hb; clear hb hbox hg; have hnb33 := NB161_149.out; have hnc33 := NB149_161.out; have hnb34 := NB161_150.out; have hnc34 := NB150_161.out; have hnb35 := NB161_162.out; have hnc35 := NB162_161.out; obtain ⟨hcz36_0, hcz36_1, hcz36_2, hcz36_3, hfz36_0, hfz36_1, hfz36_2, hfz36_3⟩ := bz4_ BK161; have hnb37 := NB162_149.out; have hnc37 := NB149_162.out; have hnb38 := NB162_150.out; have hnc38 := NB150_162.out; obtain ⟨hcz39_0, hcz39_1, hcz39_2, hcz39_3, hfz39_0, hfz39_1, hfz39_2, hfz39_3⟩ := bz4_ BK162))
      go_ret
      exact ⟨by first | rfl | (simp [errW_none, errW_some] <;> rfl) | (simp [*, errW_none, errW_some] <;> rfl), hb_⟩
    ·rw [if_neg c10] at H
     have c10b0 : decide (x5_1 < 16) = false := decide_eq_false c10
     clear c10
     obtain rfl := Option.some.inj H
     go_wp2
     go_ret
     exact ⟨by first | rfl | (simp [errW_none, errW_some] <;> rfl) | (simp [*, errW_none, errW_some] <;> rfl), hb_⟩
 ·replace c4 := Bool.eq_false_iff.mpr c4
  subst c4
  have H1 : (some 0) = some r := by rw [if_neg (show ¬ (false = true) by decide)] at H; exact H
  clear H
  have H := H1
  clear H1
  obtain rfl := Option.some.inj H
  go_enter Try.func47, Try.ntmps47
  go_wp2_with (first | ((with_reducible refine gate_dst (N := 2) rfl ?_); refine bx 2 #[.int .i64 a0_0, .int .i64 a0_1, .int .i64 a0_2, .int .i64 a0_3] 27 ?_; intro gb149 hg w40 hbox hb; have BK149 := Aside0.mk (hbox); have GW149 := ge_ hg; have GE149 := ge_ hg; replace HB := hs_ hb; clear hb hbox hg) | ((with_reducible refine gate_dst (N := 3) rfl ?_); refine bx 3 #[.int .i64 a1_0, .int .i64 a1_1, .int .u64 a1_2, .int .i64 a1_3] 51 ?_; intro gb150 hg w41 hbox hb; have BK150 := Aside0.mk (hbox); have GW150 := ge_ hg; have GE150 := ge_ hg; have NB149_150 := nl_ BK149 hg; have NB150_149 := nr_ BK149 hg; replace BK149 := bk_ BK149 hb; replace HB := hs_ hb; clear hb hbox hg; have hnb42 := NB149_150.out; have hnc42 := NB150_149.out; obtain ⟨hcz43_0, hcz43_1, hcz43_2, hcz43_3, hfz43_0, hfz43_1, hfz43_2, hfz43_3⟩ := bz4_ BK149) | ((with_reducible refine gate_callee (f := 45) rfl ?_); refine goesL_ (some 10) rfl rfl Try.func45 (by kernel_rfl) rfl #[.agg #[.int .i64 a0_0, .int .i64 a0_1, .int .i64 a0_2, .int .i64 a0_3]] rfl Z0 ?_; (with_reducible refine (ensembleref04_Right.calls a0_0 a0_1 a0_2 a0_3 false _ A3.out).mono ?_); rintro e w44 ⟨rfl, hb⟩; refine ⟨_, rfl, ?_⟩; replace BK149 := bk_ BK149 hb; replace BK150 := bk_ BK150 hb; replace HB := hs_ hb; (try clear hb); (try clear hb2); (try clear hk); (try clear hi)))
  go_ret
  exact ⟨by first | rfl | (simp [errW_none, errW_some] <;> rfl) | (simp [*, errW_none, errW_some] <;> rfl), hb_⟩
end Go.Proofs.Ytckhjehibjdjdaa.P
namespace Go.Proofs.Ytckhjehibjdjdaa.P
open Go.RowKit Go.Proofs.YtckhjehibjdjdaaW.PrintWords Go.Proofs.YtckhjehibjdjdaaW.PrintLast Go.Proofs.YtckhjehibjdjdaaW.PrintMore
attribute [local go_sem] max2_int min2_int max_two min_two max_three min_three max_four min_four
set_option linter.unusedVariables false
set_option linter.unusedSimpArgs false
def ensembleref05_Room.l0 : Nat → List (S51) → Int → Int → Int → Int → Int → Int → Option (Int)
 | 0, _, _, _, _, _, _, _ => none
 | k + 1, x0, x5, x6, x164000, x164001, x164002, x164003 => if x6 < (x0.length : Int) then (if 0 ≤ x6 then ((ensembleref04_Fits.f k x164000 x164001 x164002 x164003 ((rd_T51 x0 x6).f0.f0) ((rd_T51 x0 x6).f0.f1) ((rd_T51 x0 x6).f1) ((rd_T51 x0 x6).f2)).bind fun t165 => (ensembleref05_Room.l0 k x0 (wrap64 (x5 + t165)) (wrap64 (x6 + 1)) x164000 x164001 x164002 x164003)) else (none)) else (some x5)
def ensembleref05_Room.f (k : Nat) (l0 : List (S51)) (a1_0 : Int) (a1_1 : Int) (a1_2 : Int) (a1_3 : Int) : Option (Int) := ensembleref05_Room.l0 k l0 0 0 a1_0 a1_1 a1_2 a1_3
def ensembleref05_Room.T5 : Bool × List (List Nat × List Nat) := (true, [([], []), ([], []), ([], []), ([], []), ([2, 3], [2, 3]), ([4], [4]), ([1, 5], [1, 5]), ([0, 6], [0, 6]), ([7, 6, 0, 1, 2, 3, 4, 5, 6, 7], [0, 7])])
def ensembleref05_Room.B5 : List Nat := [0, 0, 0, 0, 12, 28, 62, 127, 255]
theorem ensembleref05_Room.tab5 : rtab .any (opsOf Try.f34 5) = ensembleref05_Room.T5 := by kernel_rfl
theorem ensembleref05_Room.bits5 : waitsOk ensembleref05_Room.T5.2 ensembleref05_Room.B5 = true := by kernel_rfl
set_option maxHeartbeats 8000000 in
set_option maxRecDepth 100000 in
theorem ensembleref05_Room.calls (k : Nat) (A0 : Option Addr) (c0 : Nat) (l0 : List (S51)) (a1_0 : Int) (a1_1 : Int) (a1_2 : Int) (a1_3 : Int) (r : Int) (w : World) (hr0 : Kd.C k51 w A0 l0.length l0) (hc0 : l0.length ≤ c0) (h : ensembleref05_Room.f k l0 a1_0 a1_1 a1_2 a1_3 = some r) :
  Calls Try.prog 34 #[.slice A0 l0.length c0, .agg #[.int .i64 a1_0, .int .i64 a1_1, .int .i64 a1_2, .int .i64 a1_3]] w fun e w' => e = .returned (.int .i64 r) ∧ Below w.heap.size w w' := by
 have hu27 := Try.underlying27
 have hu51 := Try.underlying51
 have HR0 := Aside0.mk hr0
 have HC0 := Aside0.mk hc0
 clear hr0 hc0
 have HB := Aside0.mk (Below.refl w.heap.size w)
 have H : (ensembleref05_Room.l0 k l0 0 0 a1_0 a1_1 a1_2 a1_3) = some r := h
 clear h
 have H' := Aside0.mk H
 clear H
 go_enter Try.func34, Try.ntmps34
 go_wp2_with (first | ((with_reducible refine gate_dst (N := 3) rfl ?_); refine bx 3 #[.int .i64 a1_0, .int .i64 a1_1, .int .i64 a1_2, .int .i64 a1_3] 27 ?_; intro gb163 hg w3 hbox hb; have BK163 := Aside0.mk (hbox); have GW163 := ge_ hg; have GE163 := ge_ hg; replace HB := hs_ hb; clear hb hbox hg))
 go_loopg [5, 6] k (fun kq v5 v6 w' => ∃ (x5_1 : Int) (x6_1 : Int), v5 = .int .i64 x5_1 ∧ v6 = .int .i64 x6_1 ∧ Aside0 (ensembleref05_Room.l0 kq l0 x5_1 x6_1 a1_0 a1_1 a1_2 a1_3 = some r) ∧ Aside0 (kq ≤ k) ∧ Aside0 (w'.heap[gb163]? = some (.cells #[.int .i64 a1_0, .int .i64 a1_1, .int .i64 a1_2, .int .i64 a1_3] 27 (0, 0))) ∧ Aside0 (Below w.heap.size w w'))
 case atStart => exact ⟨(0), (0), Z4, Z4, H', ⟨Nat.le_refl _⟩, ⟨bo_ BK163⟩, ⟨hb_⟩⟩
 case round =>
  clear H'
  try clear p2
  try clear c3
  obtain ⟨x5_1, x6_1, rfl, rfl, HA, HK1, BK163, HB⟩ := hrel
  cases gk with
  | zero => exact absurd HA.out (by simp [ensembleref05_Room.l0])
  | succ k1 =>
   have H := HA.out
   clear HA
   simp only [ensembleref05_Room.l0] at H
   by_cases c4 : x6_1 < (l0.length : Int)
   ·rw [if_pos c4] at H
    have c4b0 : decide (x6_1 < (l0.length : Int)) = true := decide_eq_true c4
    clear c4
    by_cases c5 : 0 ≤ x6_1
    ·rw [if_pos c5] at H
     have c5b0 : decide (0 ≤ x6_1) = true := decide_eq_true c5
     clear c5
     replace H := Option.bind_eq_some_iff.mp H
     obtain ⟨t165, A60, H⟩ := H
     replace H : (ensembleref05_Room.l0 k1 l0 (wrap64 (x5_1 + t165)) (wrap64 (x6_1 + 1)) a1_0 a1_1 a1_2 a1_3) = some r := H
     have A6 := Aside0.mk A60
     clear A60
     have H' := Aside0.mk H
     clear H
     try go_wp2
     replace BK163 := Aside0.mk (blk_drew BK163.out)
     replace HB := Aside0.mk (below_drew1 HB.out)
     have p164 : 0 ≤ (x6_1 : Int) := of_decide_eq_true Z1
     have q164 : x6_1 < (l0.length : Int) := of_decide_eq_true Z1
     obtain ⟨ad164, e164, hx164_0, hx164_1, hx164_2, hx164_3⟩ := at_T51 HR0.out x6_1 p164 q164
     have hw164_3 := hx164_3
     have hw164_2 := hx164_2
     have hw164_1 := hx164_1
     have hw164_0 := hx164_0
     cases e164
     replace hx164_0 := cx_ hx164_0
     replace hx164_1 := cx_ hx164_1
     replace hx164_2 := cx_ hx164_2
     replace hx164_3 := cx_ hx164_3
     replace p164 := eq_true p164
     replace q164 := eq_true q164
     refine start_ (n := 9) (S := fun w' => w'.cell? ⟨gb163, 0, none⟩ = some (.int .i64 a1_0) ∧ w'.cell? ⟨gb163, 1, none⟩ = some (.int .i64 a1_1) ∧ w'.cell? ⟨gb163, 2, none⟩ = some (.int .i64 a1_2) ∧ w'.cell? ⟨gb163, 3, none⟩ = some (.int .i64 a1_3) ∧ w'.cell? (ad164.add ((x6_1).toNat * 4)) = some (.int .i64 ((rd_T51 l0 x6_1).f0.f0)) ∧ w'.cell? ⟨(ad164.add ((x6_1).toNat * 4)).block, (ad164.add ((x6_1).toNat * 4)).off + 1, none⟩ = some (.int .i64 ((rd_T51 l0 x6_1).f0.f1)) ∧ w'.cell? ⟨(ad164.add ((x6_1).toNat * 4)).block, (ad164.add ((x6_1).toNat * 4)).off + 2, none⟩ = some (.int .u64 ((rd_T51 l0 x6_1).f1)) ∧ w'.cell? ⟨(ad164.add ((x6_1).toNat * 4)).block, (ad164.add ((x6_1).toNat * 4)).off + 3, none⟩ = some (.int .i64 ((rd_T51 l0 x6_1).f2))) (ds := []) (bm 9 0) (by kernel_rfl) rfl rfl ⟨(blk_cell BK163.out 0).trans rfl, (blk_cell BK163.out 1).trans rfl, (blk_cell BK163.out 2).trans rfl, (blk_cell BK163.out 3).trans rfl, ((HB.out.cell (World.block_lt_of_cell? w _ hw164_0)).trans hw164_0), ((HB.out.cell (World.block_lt_of_cell? w _ hw164_1)).trans hw164_1), ((HB.out.cell (World.block_lt_of_cell? w _ hw164_2)).trans hw164_2), ((HB.out.cell (World.block_lt_of_cell? w _ hw164_3)).trans hw164_3)⟩ (fun hHeld => ?_); refine with_tabW ensembleref05_Room.tab5 ensembleref05_Room.bits5 (fun HT_ HW_ => ?_)
     generalize wr.drew = w7 at BK163 HB hx164_0 hx164_1 hx164_2 hx164_3 hHeld ⊢
     refine pu 0 (some 13) (bm 9 1) ?_
     refine pu 2 (some 15) (bm 9 5) ?_
     refine pu 3 (some 16) (bm 9 13) ?_
     refine pu 4 (some 17) (bm 9 29) ?_
     refine tk8 1 (some 14) (bm 9 31) ?_
     refine tk8 5 (some 18) (bm 9 63) ?_
     refine one_ (i := 6) (N := some 19) (bm 9 127) rfl rfl (one_of HT_.out (by kernel_rfl)) (by decide) (fun K hK => ?_)
     refine goes_ Try.func47 (by kernel_rfl) rfl #[.agg #[.int .i64 a1_0, .int .i64 a1_1, .int .i64 a1_2, .int .i64 a1_3], .agg #[.int .i64 ((rd_T51 l0 x6_1).f0.f0), .int .i64 ((rd_T51 l0 x6_1).f0.f1), .int .u64 ((rd_T51 l0 x6_1).f1), .int .i64 ((rd_T51 l0 x6_1).f2)]] (by rfl) rfl rfl Z0 ?_
     with_reducible refine (ensembleref04_Fits.calls k1 a1_0 a1_1 a1_2 a1_3 ((rd_T51 l0 x6_1).f0.f0) ((rd_T51 l0 x6_1).f0.f1) ((rd_T51 l0 x6_1).f1) ((rd_T51 l0 x6_1).f2) t165 _ A6.out).mono ?_
     rintro e w8 ⟨rfl, hb⟩
     refine ⟨_, rfl, ?_⟩
     replace BK163 := bk_ BK163 hb
     replace HB := hs_ hb
     (try clear hb)
     (try clear hb2)
     (try clear hk)
     (try clear hi)
     refine hK.out _ _ ⟨(blk_cell BK163.out 0).trans rfl, (blk_cell BK163.out 1).trans rfl, (blk_cell BK163.out 2).trans rfl, (blk_cell BK163.out 3).trans rfl, ((HB.out.cell (World.block_lt_of_cell? w _ hw164_0)).trans hw164_0), ((HB.out.cell (World.block_lt_of_cell? w _ hw164_1)).trans hw164_1), ((HB.out.cell (World.block_lt_of_cell? w _ hw164_2)).trans hw164_2), ((HB.out.cell (World.block_lt_of_cell? w _ hw164_3)).trans hw164_3)⟩ (fun hHeld => ?_)
     clear hK K
     refine norm_ (a' := ?_) ?_ ?_
     rotate_left
     ·show Act.put _ (some 19) _ = _
      simp only [Act.put, List.setIfInBounds_toArray, List.set_cons_zero, List.set_cons_succ, i64_w, i32_w]
      rfl
     refine pu 7 (some 20) (bm 9 255) ?_
     refine pu 8 (some 5) (bm 9 511) ?_
     refine done_ (done_of HT_.out (by kernel_rfl)) ?_
     try go_wp2
     go_roundg k1
     case measure => have := HK1.out; omega
     case rel => exact ⟨(wrap64 (x5_1 + t165)), (wrap64 (x6_1 + 1)), Z4, Z4, H', ⟨by have := HK1.out; omega⟩, ⟨bo_ BK163⟩, ⟨hb_⟩⟩
    ·rw [if_neg c5] at H
     exact absurd H (by simp)
   ·rw [if_neg c4] at H
    have c4b0 : decide (x6_1 < (l0.length : Int)) = false := decide_eq_false c4
    clear c4
    obtain rfl := Option.some.inj H
    go_wp2
    go_ret
    exact ⟨by first | rfl | (simp [errW_none, errW_some] <;> rfl) | (simp [*, errW_none, errW_some] <;> rfl), hb_⟩
end Go.Proofs.Ytckhjehibjdjdaa.P
namespace Go.Proofs.Ytckhjehibjdjdaa.P
open Go.RowKit Go.Proofs.YtckhjehibjdjdaaW.PrintWords Go.Proofs.YtckhjehibjdjdaaW.PrintLast Go.Proofs.YtckhjehibjdjdaaW.PrintMore
attribute [local go_sem] max2_int min2_int max_two min_two max_three min_three max_four min_four
set_option linter.unusedVariables false
set_option linter.unusedSimpArgs false
def ensembleref08_Units.l0 : Nat → List (S52) → Int → Int → Int → Option (Int × Int)
 | 0, _, _, _, _ => none
 | k + 1, x0, x4, x199000, x199001 => if x4 < (x0.length : Int) then (if 0 ≤ x4 then ((ensembleref01_Units.f k ((rd_T52 x0 x4).f1)).bind fun t200 => (ensembleref08_Units.l0 k x0 (wrap64 (x4 + 1)) (wrap64 (x199000 + (t200.length : Int))) (wrap64 (x199001 + ((rd_T52 x0 x4).f2))))) else (none)) else (some (x199000, x199001))
def ensembleref08_Units.f (k : Nat) (l0 : List (S52)) : Option (Int × Int) := ensembleref08_Units.l0 k l0 0 0 0
def ensembleref08_Units.T5 : Bool × List (List Nat × List Nat) := (true, [([], []), ([0], [0]), ([], []), ([], []), ([2, 3], [2, 3]), ([4], [4]), ([5], [5]), ([6], [6]), ([7], [7]), ([1, 8], [1, 8]), ([0, 1, 2, 3, 4, 5, 6, 7, 8, 9], []), ([10, 9, 7, 0, 1, 2, 3, 4, 5, 6, 7, 8, 9], [9, 10])])
def ensembleref08_Units.B5 : List Nat := [0, 1, 0, 0, 12, 28, 60, 124, 252, 511, 1023, 2047]
theorem ensembleref08_Units.tab5 : rtab .any (opsOf Try.f42 5) = ensembleref08_Units.T5 := by kernel_rfl
theorem ensembleref08_Units.bits5 : waitsOk ensembleref08_Units.T5.2 ensembleref08_Units.B5 = true := by kernel_rfl
def ensembleref08_Units.T6 : Bool × List (List Nat × List Nat) := (true, [([], []), ([0], [0]), ([], []), ([], []), ([2, 3], [2, 3]), ([4], [4]), ([5], [5]), ([1, 6], [1, 6]), ([0, 1, 2, 3, 4, 5, 6, 7], []), ([8, 7, 0, 1, 2, 3, 4, 5, 6, 7], [7, 8])])
def ensembleref08_Units.B6 : List Nat := [0, 1, 0, 0, 12, 28, 60, 127, 255, 511]
theorem ensembleref08_Units.tab6 : rtab .any (opsOf Try.f42 6) = ensembleref08_Units.T6 := by kernel_rfl
theorem ensembleref08_Units.bits6 : waitsOk ensembleref08_Units.T6.2 ensembleref08_Units.B6 = true := by kernel_rfl
set_option maxHeartbeats 8000000 in
set_option maxRecDepth 100000 in
theorem ensembleref08_Units.calls (k : Nat) (A0 : Option Addr) (c0 : Nat) (l0 : List (S52)) (r1 : Int) (r2 : Int) (w : World) (hr0 : Kd.C k52 w A0 l0.length l0) (hc0 : l0.length ≤ c0) (h : ensembleref08_Units.f k l0 = some (r1, r2)) :
  Calls Try.prog 42 #[.slice A0 l0.length c0] w fun e w' => e = .returned (.agg #[.int .i64 r1, .int .i64 r2]) ∧ Below w.heap.size w w' := by
 have hu24 := Try.underlying24
 have HR0 := Aside0.mk hr0
 have HC0 := Aside0.mk hc0
 clear hr0 hc0
 have HB := Aside0.mk (Below.refl w.heap.size w)
 have H : (ensembleref08_Units.l0 k l0 0 0 0) = some (r1, r2) := h
 clear h
 have H' := Aside0.mk H
 clear H
 go_enter Try.func42, Try.ntmps42
 go_wp2_with (first | ((with_reducible refine gate_dst (N := 2) rfl ?_); refine bx 2 #[.int .i64 0, .int .i64 0] 24 ?_; intro gb197 hg w2 hbox hb; have BK197 := Aside0.mk (hbox); have GW197 := ge_ hg; have GE197 := ge_ hg; replace HB := hs_ hb; clear hb hbox hg) | ((with_reducible refine gate_dst (N := 3) rfl ?_); refine bx 3 #[.int .i64 0, .int .i64 0] 24 ?_; intro gb198 hg w3 hbox hb; have BK198 := Aside0.mk (hbox); have GW198 := ge_ hg; have GE198 := ge_ hg; have NB197_198 := nl_ BK197 hg; have NB198_197 := nr_ BK197 hg; replace BK197 := bk_ BK197 hb; replace HB := hs_ hb; clear hb hbox hg; have hnb4 := NB198_197.out; have hnc4 := NB197_198.out; obtain ⟨hcz5_0, hcz5_1, hfz5_0, hfz5_1⟩ := bz2_ BK198))
 go_loopg [4] k (fun kq v4 w' => ∃ (x4_1 : Int) (x199000_1 : Int) (x199001_1 : Int), v4 = .int .i64 x4_1 ∧ Aside0 (ensembleref08_Units.l0 kq l0 x4_1 x199000_1 x199001_1 = some (r1, r2)) ∧ Aside0 (kq ≤ k) ∧ Aside0 (w'.heap[gb197]? = some (.cells #[.int .i64 0, .int .i64 0] 24 (0, 0))) ∧ Aside0 (w'.heap[gb198]? = some (.cells #[.int .i64 x199000_1, .int .i64 x199001_1] 24 (0, 0))) ∧ Aside0 (Below w.heap.size w w'))
 case atStart => exact ⟨(0), (0), (0), Z4, H', ⟨Nat.le_refl _⟩, ⟨bs_⟩, ⟨bs_⟩, ⟨hb_⟩⟩
 case round =>
  clear H'
  try clear p2
  try clear c4
  try clear hcz5_0
  try clear hcz5_1
  try clear hfz5_0
  try clear hfz5_1
  obtain ⟨x4_1, x199000_1, x199001_1, rfl, HA, HK1, BK197, BK198, HB⟩ := hrel
  cases gk with
  | zero => exact absurd HA.out (by simp [ensembleref08_Units.l0])
  | succ k1 =>
   have H := HA.out
   clear HA
   simp only [ensembleref08_Units.l0] at H
   by_cases c6 : x4_1 < (l0.length : Int)
   ·rw [if_pos c6] at H
    have c6b0 : decide (x4_1 < (l0.length : Int)) = true := decide_eq_true c6
    clear c6
    by_cases c7 : 0 ≤ x4_1
    ·rw [if_pos c7] at H
     have c7b0 : decide (0 ≤ x4_1) = true := decide_eq_true c7
     clear c7
     replace H := Option.bind_eq_some_iff.mp H
     obtain ⟨t200, A80, H⟩ := H
     replace H : (ensembleref08_Units.l0 k1 l0 (wrap64 (x4_1 + 1)) (wrap64 (x199000_1 + (t200.length : Int))) (wrap64 (x199001_1 + ((rd_T52 l0 x4_1).f2)))) = some (r1, r2) := H
     have A8 := Aside0.mk A80
     clear A80
     have H' := Aside0.mk H
     clear H
     try go_wp2
     replace BK197 := Aside0.mk (blk_drew BK197.out)
     replace BK198 := Aside0.mk (blk_drew BK198.out)
     replace HB := Aside0.mk (below_drew1 HB.out)
     have p199 : 0 ≤ (x4_1 : Int) := of_decide_eq_true Z1
     have q199 : x4_1 < (l0.length : Int) := of_decide_eq_true Z1
     obtain ⟨ad199, e199, hx199_0, hx199_1, hx199_2, hx199_3⟩ := at_T52 HR0.out x4_1 p199 q199
     have hw199_3 := hx199_3
     have hw199_2 := hx199_2
     have hw199_1 := hx199_1
     have hw199_0 := hx199_0
     cases e199
     replace hx199_0 := cx_ hx199_0
     replace hx199_1 := cx_ hx199_1
     replace hx199_2 := cx_ hx199_2
     replace hx199_3 := cx_ hx199_3
     replace p199 := eq_true p199
     replace q199 := eq_true q199
     refine start_ (n := 12) (S := fun w' => w'.cell? ⟨gb198, 0, none⟩ = some (.int .i64 x199000_1) ∧ w'.cell? ⟨gb198, 1, none⟩ = some (.int .i64 x199001_1) ∧ w'.cell? (ad199.add ((x4_1).toNat * 4)) = some (.int .i64 ((rd_T52 l0 x4_1).f0.f0)) ∧ w'.cell? ⟨(ad199.add ((x4_1).toNat * 4)).block, (ad199.add ((x4_1).toNat * 4)).off + 1, none⟩ = some (.int .i64 ((rd_T52 l0 x4_1).f0.f1)) ∧ w'.cell? ⟨(ad199.add ((x4_1).toNat * 4)).block, (ad199.add ((x4_1).toNat * 4)).off + 2, none⟩ = some (.int .u64 ((rd_T52 l0 x4_1).f1)) ∧ w'.cell? ⟨(ad199.add ((x4_1).toNat * 4)).block, (ad199.add ((x4_1).toNat * 4)).off + 3, none⟩ = some (.int .i64 ((rd_T52 l0 x4_1).f2))) (ds := [11]) (bm 12 0) (by kernel_rfl) rfl rfl ⟨(blk_cell BK198.out 0).trans rfl, (blk_cell BK198.out 1).trans rfl, ((HB.out.cell (World.block_lt_of_cell? w _ hw199_0)).trans hw199_0), ((HB.out.cell (World.block_lt_of_cell? w _ hw199_1)).trans hw199_1), ((HB.out.cell (World.block_lt_of_cell? w _ hw199_2)).trans hw199_2), ((HB.out.cell (World.block_lt_of_cell? w _ hw199_3)).trans hw199_3)⟩ (fun hHeld => ?_); refine with_tabW ensembleref08_Units.tab5 ensembleref08_Units.bits5 (fun HT_ HW_ => ?_)
     generalize wr.drew = w9 at BK197 BK198 HB hx199_0 hx199_1 hx199_2 hx199_3 hHeld ⊢
     refine pu 0 (some 12) (bm 12 1) ?_
     refine pu 2 (some 14) (bm 12 5) ?_
     refine pu 3 (some 15) (bm 12 13) ?_
     refine pu 4 (some 16) (bm 12 29) ?_
     refine pu 5 (some 17) (bm 12 61) ?_
     refine tk6 1 (some 13) (bm 12 63) ?_
     refine tk6 6 (some 18) (bm 12 127) ?_
     refine one_ (i := 7) (N := some 19) (bm 12 255) rfl rfl (one_of HT_.out (by kernel_rfl)) (by decide) (fun K hK => ?_)
     refine goes_ Try.func82 (by kernel_rfl) rfl #[.int .u64 ((rd_T52 l0 x4_1).f1)] (by rfl) rfl rfl Z0 ?_
     with_reducible refine (ensembleref01_Units.calls k1 ((rd_T52 l0 x4_1).f1) t200 _ A8.out).mono ?_
     rintro e w10 ⟨v201, rfl, ho0, hb⟩
     refine ⟨_, rfl, ?_⟩
     have HO202 := Aside0.mk (Kd.R_lower ho0 (below_size hb_))
     replace BK197 := bk_ BK197 hb
     replace BK198 := bk_ BK198 hb
     replace HB := hs_ hb
     (try clear hb)
     (try clear hb2)
     (try clear hk)
     (try clear hi)
     (try clear ho0)
     obtain ⟨Ao11, co11, eo11⟩ := Kd.R_slice HO202.out
     (first | subst eo11 | (injection eo11 with f1_ f2_ f3_; have f4_ := f1_.symm; have f5_ := f3_.symm; clear f1_ f2_ f3_; subst f4_; subst f5_))
     refine hK.out _ _ ⟨(blk_cell BK198.out 0).trans rfl, (blk_cell BK198.out 1).trans rfl, ((HB.out.cell (World.block_lt_of_cell? w _ hw199_0)).trans hw199_0), ((HB.out.cell (World.block_lt_of_cell? w _ hw199_1)).trans hw199_1), ((HB.out.cell (World.block_lt_of_cell? w _ hw199_2)).trans hw199_2), ((HB.out.cell (World.block_lt_of_cell? w _ hw199_3)).trans hw199_3)⟩ (fun hHeld => ?_)
     clear hK K
     refine norm_ (a' := ?_) ?_ ?_
     rotate_left
     ·show Act.put _ (some 19) _ = _
      simp only [Act.put, List.setIfInBounds_toArray, List.set_cons_zero, List.set_cons_succ, i64_w, i32_w]
      rfl
     refine pu 8 (some 20) (bm 12 511) ?_
     refine pu 9 (some 21) (bm 12 1023) ?_
     refine pu 10 (some 22) (bm 12 2047) ?_
     refine last_ (i := 11) (N := none) (bm 12 4095) rfl rfl (one_of HT_.out (by kernel_rfl)) (by decide) (fun K hK => ?_)
     have hs12 : w10.cell? ⟨gb198, 0, none⟩ = some (.int .i64 x199000_1) := (blk_cell BK198.out 0).trans rfl
     have hfs12 := blk_frozen BK198.out 0
     have hns12_0 := NB197_198.out
     have hms12_0 := NB198_197.out
     refine skip_ (w1 := ?_) (by rfl) rfl ?_ ?_
     rotate_left
     ·go_simp
      rfl
     refine hK.out _ _ ?_
     clear hK K
     refine done_ (done_of HT_.out (by kernel_rfl)) ?_
     try go_wp2
     have n0_ : Aside0 (Kd.R (Kd.int .i64) 3 (w10.setCell ⟨gb198, 0, none⟩ (.int .i64 (wrap64 (x199000_1 + (t200.length : Int))))) w.heap.size (fun _ => True) (.slice Ao11 t200.length co11) t200) := ⟨by (with_reducible repeat (first | apply Kd.R_alloc | apply Kd.R_drewN | apply Kd.R_drew)); exact Kd.R_mono (Kd.R_far (p := ⟨gb198, 0, none⟩) (Kd.R_types HO202.out BK198.out (by decide)) (fun _ hk => hk.2) (.int .i64 (wrap64 (x199000_1 + (t200.length : Int))))) (fun _ hk => trivial)⟩
     have n1_ : Aside0 ((w10.setCell ⟨gb198, 0, none⟩ (.int .i64 (wrap64 (x199000_1 + (t200.length : Int))))).heap[gb197]? = some (.cells #[.int .i64 0, .int .i64 0] 24 (0, 0))) := ⟨bs_⟩
     have n2_ : Aside0 ((w10.setCell ⟨gb198, 0, none⟩ (.int .i64 (wrap64 (x199000_1 + (t200.length : Int))))).heap[gb198]? = some (.cells #[.int .i64 (wrap64 (x199000_1 + (t200.length : Int))), .int .i64 x199001_1] 24 (0, 0))) := ⟨bs_⟩
     have n3_ : Aside0 (Below w.heap.size w (w10.setCell ⟨gb198, 0, none⟩ (.int .i64 (wrap64 (x199000_1 + (t200.length : Int)))))) := ⟨hb_⟩
     (try clear HO202)
     (try clear BK197)
     (try clear BK198)
     (try clear HB)
     generalize (w10.setCell ⟨gb198, 0, none⟩ (.int .i64 (wrap64 (x199000_1 + (t200.length : Int))))) = w13 at n0_ n1_ n2_ n3_ ⊢
     have HO202 := n0_
     have BK197 := n1_
     have BK198 := n2_
     have HB := n3_
     clear n0_ n1_ n2_ n3_
     replace HO202 := Aside0.mk (Kd.R_drew HO202.out)
     replace BK197 := Aside0.mk (blk_drew BK197.out)
     replace BK198 := Aside0.mk (blk_drew BK198.out)
     replace HB := Aside0.mk (below_drew1 HB.out)
     have p203 : 0 ≤ (x4_1 : Int) := of_decide_eq_true Z1
     have q203 : x4_1 < (l0.length : Int) := of_decide_eq_true Z1
     obtain ⟨ad203, e203, hx203_0, hx203_1, hx203_2, hx203_3⟩ := at_T52 HR0.out x4_1 p203 q203
     have hw203_3 := hx203_3
     have hw203_2 := hx203_2
     have hw203_1 := hx203_1
     have hw203_0 := hx203_0
     obtain rfl : ad199 = ad203 := (by injection e203)
     replace hx203_0 := cx_ hx203_0
     replace hx203_1 := cx_ hx203_1
     replace hx203_2 := cx_ hx203_2
     replace hx203_3 := cx_ hx203_3
     replace p203 := eq_true p203
     replace q203 := eq_true q203
     refine start_ (n := 10) (S := fun w' => w'.cell? ⟨gb198, 0, none⟩ = some (.int .i64 (wrap64 (x199000_1 + (t200.length : Int)))) ∧ w'.cell? ⟨gb198, 1, none⟩ = some (.int .i64 x199001_1) ∧ w'.cell? (ad199.add ((x4_1).toNat * 4)) = some (.int .i64 ((rd_T52 l0 x4_1).f0.f0)) ∧ w'.cell? ⟨(ad199.add ((x4_1).toNat * 4)).block, (ad199.add ((x4_1).toNat * 4)).off + 1, none⟩ = some (.int .i64 ((rd_T52 l0 x4_1).f0.f1)) ∧ w'.cell? ⟨(ad199.add ((x4_1).toNat * 4)).block, (ad199.add ((x4_1).toNat * 4)).off + 2, none⟩ = some (.int .u64 ((rd_T52 l0 x4_1).f1)) ∧ w'.cell? ⟨(ad199.add ((x4_1).toNat * 4)).block, (ad199.add ((x4_1).toNat * 4)).off + 3, none⟩ = some (.int .i64 ((rd_T52 l0 x4_1).f2))) (ds := [9]) (bm 10 0) (by kernel_rfl) rfl rfl ⟨(blk_cell BK198.out 0).trans rfl, (blk_cell BK198.out 1).trans rfl, ((HB.out.cell (World.block_lt_of_cell? w _ hw203_0)).trans hw203_0), ((HB.out.cell (World.block_lt_of_cell? w _ hw203_1)).trans hw203_1), ((HB.out.cell (World.block_lt_of_cell? w _ hw203_2)).trans hw203_2), ((HB.out.cell (World.block_lt_of_cell? w _ hw203_3)).trans hw203_3)⟩ (fun hHeld => ?_); refine with_tabW ensembleref08_Units.tab6 ensembleref08_Units.bits6 (fun HT_ HW_ => ?_)
     generalize w13.drew = w14 at HO202 BK197 BK198 HB hx203_0 hx203_1 hx203_2 hx203_3 hHeld ⊢
     refine pu 0 (some 23) (bm 10 1) ?_
     refine pu 2 (some 25) (bm 10 5) ?_
     refine pu 3 (some 26) (bm 10 13) ?_
     refine pu 4 (some 27) (bm 10 29) ?_
     refine pu 5 (some 28) (bm 10 61) ?_
     refine tk6 1 (some 24) (bm 10 63) ?_
     refine tk6 6 (some 29) (bm 10 127) ?_
     refine pu 7 (some 30) (bm 10 255) ?_
     refine pu 8 (some 31) (bm 10 511) ?_
     refine last_ (i := 9) (N := none) (bm 10 1023) rfl rfl (one_of HT_.out (by kernel_rfl)) (by decide) (fun K hK => ?_)
     have hs15 : w14.cell? ⟨gb198, 1, none⟩ = some (.int .i64 x199001_1) := (blk_cell BK198.out 1).trans rfl
     have hfs15 := blk_frozen BK198.out 1
     have hns15_0 := NB197_198.out
     have hms15_0 := NB198_197.out
     refine skip_ (w1 := ?_) (by rfl) rfl ?_ ?_
     rotate_left
     ·go_simp
      rfl
     refine hK.out _ _ ?_
     clear hK K
     refine done_ (done_of HT_.out (by kernel_rfl)) ?_
     try go_wp2
     go_roundg k1
     case measure => have := HK1.out; omega
     case rel => exact ⟨(wrap64 (x4_1 + 1)), (wrap64 (x199000_1 + (t200.length : Int))), (wrap64 (x199001_1 + ((rd_T52 l0 x4_1).f2))), Z4, H', ⟨by have := HK1.out; omega⟩, ⟨bs_⟩, ⟨bs_⟩, ⟨hb_⟩⟩
    ·rw [if_neg c7] at H
     exact absurd H (by simp)
   ·rw [if_neg c6] at H
    have c6b0 : decide (x4_1 < (l0.length : Int)) = false := decide_eq_false c6
    clear c6
    simp only [Option.some.injEq, Prod.mk.injEq] at H
    obtain ⟨rfl, rfl⟩ := H
    have hnb16 := NB198_197.out
    have hnc16 := NB197_198.out
    obtain ⟨hcz17_0, hcz17_1, hfz17_0, hfz17_1⟩ := bz2_ BK198
    obtain ⟨hcz18_0, hcz18_1, hfz18_0, hfz18_1⟩ := bz2_ BK197
    go_wp2
    refine bodyPost_ret (results_cell_row rfl _ _ gb197 24 #[.int .i64 x199000_1, .int .i64 x199001_1] (0, 0) _ rfl (by (with_reducible repeat (first | refine blk_drewN ?_ _ | refine blk_drew ?_ | refine blk_alloc ?_ _)); refine blk_put (cs := #[.int .i64 x199000_1, .int .i64 0]) ?_ 1 _ rfl; (with_reducible repeat (first | refine blk_drewN ?_ _ | refine blk_drew ?_ | refine blk_alloc ?_ _)); refine blk_put (cs := #[.int .i64 0, .int .i64 0]) ?_ 0 _ rfl; (with_reducible repeat (first | refine blk_drewN ?_ _ | refine blk_drew ?_ | refine blk_alloc ?_ _)); exact BK197.out) Try.underlying24 rfl (by kernel_rfl)) rfl ?_
    exact ⟨by first | rfl | (simp [errW_none, errW_some] <;> rfl) | (simp [*, errW_none, errW_some] <;> rfl), hb_⟩
end Go.Proofs.Ytckhjehibjdjdaa.P
namespace Go.Proofs.Ytckhjehibjdjdaa.P
open Go.RowKit Go.Proofs.YtckhjehibjdjdaaW.PrintWords Go.Proofs.YtckhjehibjdjdaaW.PrintLast Go.Proofs.YtckhjehibjdjdaaW.PrintMore
attribute [local go_sem] max2_int min2_int max_two min_two max_three min_three max_four min_four
set_option linter.unusedVariables false
set_option linter.unusedSimpArgs false
def ensembleref05_masks.l0 : Nat → Int → Int → List Int → Int → Option (Int)
 | 0, _, _, _, _ => none
 | k + 1, x1, x5, x6, x7 => if x7 < (x6.length : Int) then (if 0 ≤ x7 then ((ensembleref01_Has.f k x1 (rd x6 x7)).bind fun t180 => (if t180 = true then (ensembleref05_masks.l0 k x1 (wrap64 (x5 + 1)) x6 (wrap64 (x7 + 1))) else (ensembleref05_masks.l0 k x1 x5 x6 (wrap64 (x7 + 1))))) else (none)) else (some x5)
def ensembleref05_masks.f (k : Nat) (a0 : Int) (a1 : Int) : Option (Int) := (ensembleref01_Units.f k a0).bind fun t176 => (ensembleref05_masks.l0 k a1 0 t176 0)
set_option maxHeartbeats 8000000 in
set_option maxRecDepth 100000 in
theorem ensembleref05_masks.calls (k : Nat) (a0 : Int) (a1 : Int) (r : Int) (w : World) (h : ensembleref05_masks.f k a0 a1 = some r) :
  Calls Try.prog 80 #[.int .u64 a0, .int .u64 a1] w fun e w' => e = .returned (.int .i64 r) ∧ Below w.heap.size w w' := by
 have HB := Aside0.mk (Below.refl w.heap.size w)
 have H : ((ensembleref01_Units.f k a0).bind fun t176 => (ensembleref05_masks.l0 k a1 0 t176 0)) = some r := h
 clear h
 replace H := Option.bind_eq_some_iff.mp H
 obtain ⟨t176, A30, H⟩ := H
 replace H : (ensembleref05_masks.l0 k a1 0 t176 0) = some r := H
 have A3 := Aside0.mk A30
 clear A30
 have H' := Aside0.mk H
 clear H
 go_enter Try.func80, Try.ntmps80
 go_wp2_with (first | ((with_reducible refine gate_callee (f := 82) rfl ?_); refine goesL_ (some 9) rfl rfl Try.func82 (by kernel_rfl) rfl #[.int .u64 a0] rfl Z0 ?_; (with_reducible refine (ensembleref01_Units.calls k a0 t176 _ A3.out).mono ?_); rintro e w4 ⟨v177, rfl, ho0, hb⟩; refine ⟨_, rfl, ?_⟩; have HO178 := Aside0.mk (Kd.R_lower ho0 (below_size hb_)); replace HB := hs_ hb; (try clear hb); (try clear hb2); (try clear hk); (try clear hi); (try clear ho0)))
 go_loopg [5, 7] k (fun kq v5 v7 w' => ∃ (x5_1 : Int) (x7_1 : Int), v5 = .int .i64 x5_1 ∧ v7 = .int .i64 x7_1 ∧ Aside0 (ensembleref05_masks.l0 kq a1 x5_1 t176 x7_1 = some r) ∧ Aside0 (kq ≤ k) ∧ Aside0 (Kd.R (Kd.int .i64) 3 w' w.heap.size (fun _ => True) v177 t176) ∧ Aside0 (Below w.heap.size w w'))
 case atStart => exact ⟨(0), (0), Z4, Z4, H', ⟨Nat.le_refl _⟩, ⟨by (with_reducible repeat (first | apply Kd.R_alloc | apply Kd.R_drewN | apply Kd.R_drew)); exact HO178.out⟩, ⟨hb_⟩⟩
 case round =>
  clear H'
  try clear p2
  obtain ⟨x5_1, x7_1, rfl, rfl, HA, HK1, HO_6, HB⟩ := hrel
  cases gk with
  | zero => exact absurd HA.out (by simp [ensembleref05_masks.l0])
  | succ k1 =>
   have H := HA.out
   clear HA
   simp only [ensembleref05_masks.l0] at H
   by_cases c5 : x7_1 < (t176.length : Int)
   ·rw [if_pos c5] at H
    have c5b0 : decide (x7_1 < (t176.length : Int)) = true := decide_eq_true c5
    clear c5
    by_cases c6 : 0 ≤ x7_1
    ·rw [if_pos c6] at H
     have c6b0 : decide (0 ≤ x7_1) = true := decide_eq_true c6
     clear c6
     replace H := Option.bind_eq_some_iff.mp H
     obtain ⟨t180, A70, H⟩ := H
     replace H : (if t180 = true then (ensembleref05_masks.l0 k1 a1 (wrap64 (x5_1 + 1)) t176 (wrap64 (x7_1 + 1))) else (ensembleref05_masks.l0 k1 a1 x5_1 t176 (wrap64 (x7_1 + 1)))) = some r := H
     have A7 := Aside0.mk A70
     clear A70
     by_cases c8 : t180 = true
     ·subst c8
      have H1 : (ensembleref05_masks.l0 k1 a1 (wrap64 (x5_1 + 1)) t176 (wrap64 (x7_1 + 1))) = some r := by rw [if_pos rfl] at H; exact H
      clear H
      have H := H1
      clear H1
      have H' := Aside0.mk H
      clear H
      obtain ⟨Ao9, co9, eo9⟩ := Kd.R_slice HO_6.out
      subst eo9
      have p179 : 0 ≤ (x7_1 : Int) := of_decide_eq_true Z1
      have q179 : x7_1 < (t176.length : Int) := of_decide_eq_true Z1
      obtain ⟨ad179, e179, hx179_0⟩ := Kd.at_int (Kd.R_reads' HO_6.out).2.2 x7_1 p179 q179
      cases e179
      replace p179 := eq_true p179
      replace q179 := eq_true q179
      go_wp2_with (first | ((with_reducible refine gate_callee (f := 106) rfl ?_); refine goesL_ (some 21) rfl rfl Try.func106 (by kernel_rfl) rfl #[.int .u64 a1, .int .i64 (rd t176 x7_1)] rfl Z0 ?_; (with_reducible refine (ensembleref01_Has.calls k1 a1 (rd t176 x7_1) true _ A7.out).mono ?_); rintro e w' ⟨rfl, ⟨nd, rfl⟩⟩; refine ⟨_, rfl, ?_⟩))
      go_roundg k1
      case measure => have := HK1.out; omega
      case rel => exact ⟨(wrap64 (x5_1 + 1)), (wrap64 (x7_1 + 1)), Z4, Z4, H', ⟨by have := HK1.out; omega⟩, ⟨by (with_reducible repeat (first | apply Kd.R_alloc | apply Kd.R_drewN | apply Kd.R_drew)); exact HO_6.out⟩, ⟨hb_⟩⟩
     ·replace c8 := Bool.eq_false_iff.mpr c8
      subst c8
      have H1 : (ensembleref05_masks.l0 k1 a1 x5_1 t176 (wrap64 (x7_1 + 1))) = some r := by rw [if_neg (show ¬ (false = true) by decide)] at H; exact H
      clear H
      have H := H1
      clear H1
      have H' := Aside0.mk H
      clear H
      obtain ⟨Ao10, co10, eo10⟩ := Kd.R_slice HO_6.out
      subst eo10
      have p179 : 0 ≤ (x7_1 : Int) := of_decide_eq_true Z1
      have q179 : x7_1 < (t176.length : Int) := of_decide_eq_true Z1
      obtain ⟨ad179, e179, hx179_0⟩ := Kd.at_int (Kd.R_reads' HO_6.out).2.2 x7_1 p179 q179
      cases e179
      replace p179 := eq_true p179
      replace q179 := eq_true q179
      go_wp2_with (first | ((with_reducible refine gate_callee (f := 106) rfl ?_); refine goesL_ (some 21) rfl rfl Try.func106 (by kernel_rfl) rfl #[.int .u64 a1, .int .i64 (rd t176 x7_1)] rfl Z0 ?_; (with_reducible refine (ensembleref01_Has.calls k1 a1 (rd t176 x7_1) false _ A7.out).mono ?_); rintro e w' ⟨rfl, ⟨nd, rfl⟩⟩; refine ⟨_, rfl, ?_⟩))
      go_roundg k1
      case measure => have := HK1.out; omega
      case rel => exact ⟨(x5_1), (wrap64 (x7_1 + 1)), Z4, Z4, H', ⟨by have := HK1.out; omega⟩, ⟨by (with_reducible repeat (first | apply Kd.R_alloc | apply Kd.R_drewN | apply Kd.R_drew)); exact HO_6.out⟩, ⟨hb_⟩⟩
    ·rw [if_neg c6] at H
     exact absurd H (by simp)
   ·rw [if_neg c5] at H
    have c5b0 : decide (x7_1 < (t176.length : Int)) = false := decide_eq_false c5
    clear c5
    obtain rfl := Option.some.inj H
    obtain ⟨Ao11, co11, eo11⟩ := Kd.R_slice HO_6.out
    subst eo11
    go_wp2
    go_ret
    exact ⟨by first | rfl | (simp [errW_none, errW_some] <;> rfl) | (simp [*, errW_none, errW_some] <;> rfl), hb_⟩
end Go.Proofs.Ytckhjehibjdjdaa.P
namespace Go.Proofs.Ytckhjehibjdjdaa.P
open Go.RowKit Go.Proofs.YtckhjehibjdjdaaW.PrintWords Go.Proofs.YtckhjehibjdjdaaW.PrintLast Go.Proofs.YtckhjehibjdjdaaW.PrintMore
attribute [local go_sem] max2_int min2_int max_two min_two max_three min_three max_four min_four
set_option linter.unusedVariables false
set_option linter.unusedSimpArgs false
theorem eqA48 (d : Nat) (w : World) (x0 y0 : Int) (x1 y1 : Int) :
  (Op.equalIn (d + 2) 48 (.agg #[.int .i64 x0, .int .i64 x1]) (.agg #[.int .i64 y0, .int .i64 y1])).run Try.prog w = .ok (x0 == y0 && (x1 == y1)) w := by
 refine eqA_of Try.underlying48 (by kernel_rfl) ?_
 refine eqf_cons (by rfl) (by go_simp; rfl) (by go_simp; rfl) (by go_simp) ?_
 exact eqf_last (by rfl) (by go_simp; rfl) (by go_simp; rfl) (by go_simp)
end Go.Proofs.Ytckhjehibjdjdaa.P
namespace Go.Proofs.Ytckhjehibjdjdaa.P
open Go.RowKit Go.Proofs.YtckhjehibjdjdaaW.PrintWords Go.Proofs.YtckhjehibjdjdaaW.PrintLast Go.Proofs.YtckhjehibjdjdaaW.PrintMore
attribute [local go_sem] max2_int min2_int max_two min_two max_three min_three max_four min_four
set_option linter.unusedVariables false
set_option linter.unusedSimpArgs false
attribute [local go_sem high] eqA48
def ensembleref05_find.l0 : Nat → List (S51) → Int → Int → Int → Option (Int)
 | 0, _, _, _, _ => none
 | k + 1, x0, x5, x119000, x119001 => if x5 < (x0.length : Int) then (if 0 ≤ x5 then (if (((rd_T51 x0 x5).f0.f0) == x119000 && (((rd_T51 x0 x5).f0.f1) == x119001)) = true then (some x5) else (ensembleref05_find.l0 k x0 (wrap64 (x5 + 1)) x119000 x119001)) else (none)) else (some (-1))
def ensembleref05_find.f (k : Nat) (l0 : List (S51)) (a1_0 : Int) (a1_1 : Int) : Option (Int) := ensembleref05_find.l0 k l0 0 a1_0 a1_1
set_option maxHeartbeats 8000000 in
set_option maxRecDepth 100000 in
theorem ensembleref05_find.calls (k : Nat) (A0 : Option Addr) (c0 : Nat) (l0 : List (S51)) (a1_0 : Int) (a1_1 : Int) (r : Int) (w : World) (hr0 : Kd.C k51 w A0 l0.length l0) (hc0 : l0.length ≤ c0) (h : ensembleref05_find.f k l0 a1_0 a1_1 = some r) :
  Calls Try.prog 79 #[.slice A0 l0.length c0, .agg #[.int .i64 a1_0, .int .i64 a1_1]] w fun e w' => e = .returned (.int .i64 r) ∧ Below w.heap.size w w' := by
 have hu48 := Try.underlying48
 have HR0 := Aside0.mk hr0
 have HC0 := Aside0.mk hc0
 clear hr0 hc0
 have HB := Aside0.mk (Below.refl w.heap.size w)
 have H : (ensembleref05_find.l0 k l0 0 a1_0 a1_1) = some r := h
 clear h
 have H' := Aside0.mk H
 clear H
 go_enter Try.func79, Try.ntmps79
 go_wp2_with (first | ((with_reducible refine gate_dst (N := 3) rfl ?_); refine bx 3 #[.int .i64 a1_0, .int .i64 a1_1] 48 ?_; intro gb118 hg w3 hbox hb; have BK118 := Aside0.mk (hbox); have GW118 := ge_ hg; have GE118 := ge_ hg; replace HB := hs_ hb; clear hb hbox hg))
 repeat (go_quiet (first | ((with_reducible refine gate_dst (N := 3) rfl ?_); refine bx 3 #[.int .i64 a1_0, .int .i64 a1_1] 48 ?_; intro gb118 hg w3 hbox hb; have BK118 := Aside0.mk (hbox); have GW118 := ge_ hg; have GE118 := ge_ hg; replace HB := hs_ hb; clear hb hbox hg)); try go_wp2_with (first | ((with_reducible refine gate_dst (N := 3) rfl ?_); refine bx 3 #[.int .i64 a1_0, .int .i64 a1_1] 48 ?_; intro gb118 hg w3 hbox hb; have BK118 := Aside0.mk (hbox); have GW118 := ge_ hg; have GE118 := ge_ hg; replace HB := hs_ hb; clear hb hbox hg)))
 go_loopg [5] k (fun kq v5 w' => ∃ (x5_1 : Int), v5 = .int .i64 x5_1 ∧ Aside0 (ensembleref05_find.l0 kq l0 x5_1 a1_0 a1_1 = some r) ∧ Aside0 (kq ≤ k) ∧ Aside0 (w'.heap[gb118]? = some (.cells #[.int .i64 a1_0, .int .i64 a1_1] 48 (0, 0))) ∧ Aside0 (Below w.heap.size w w'))
 case atStart => exact ⟨(0), Z4, H', ⟨Nat.le_refl _⟩, ⟨bo_ BK118⟩, ⟨hb_⟩⟩
 case round =>
  clear H'
  try clear p2
  obtain ⟨x5_1, rfl, HA, HK1, BK118, HB⟩ := hrel
  cases gk with
  | zero => exact absurd HA.out (by simp [ensembleref05_find.l0])
  | succ k1 =>
   have H := HA.out
   clear HA
   simp only [ensembleref05_find.l0] at H
   by_cases c4 : x5_1 < (l0.length : Int)
   ·rw [if_pos c4] at H
    have c4b0 : decide (x5_1 < (l0.length : Int)) = true := decide_eq_true c4
    clear c4
    by_cases c5 : 0 ≤ x5_1
    ·rw [if_pos c5] at H
     have c5b0 : decide (0 ≤ x5_1) = true := decide_eq_true c5
     clear c5
     by_cases c6 : (((rd_T51 l0 x5_1).f0.f0) == a1_0 && (((rd_T51 l0 x5_1).f0.f1) == a1_1)) = true
     ·rw [if_pos c6] at H
      have c6b0 : (((rd_T51 l0 x5_1).f0.f0) == a1_0 && (((rd_T51 l0 x5_1).f0.f1) == a1_1)) = true := c6
      (try (have c6b1 : decide (((rd_T51 l0 x5_1).f0.f0) = a1_0 && (((rd_T51 l0 x5_1).f0.f1) == a1_1)) = true := by simpa using c6))
      (try (have c6b2 : (((rd_T51 l0 x5_1).f0.f0) == a1_0 && (((rd_T51 l0 x5_1).f0.f1) == a1_1)) = true := by simpa using c6))
      clear c6
      obtain rfl := Option.some.inj H
      have p119 : 0 ≤ (x5_1 : Int) := of_decide_eq_true Z1
      have q119 : x5_1 < (l0.length : Int) := of_decide_eq_true Z1
      obtain ⟨ad119, e119, hx119_0, hx119_1, hx119_2, hx119_3⟩ := at_T51 HR0.out x5_1 p119 q119
      cases e119
      replace hx119_0 := cx_ hx119_0
      replace hx119_1 := cx_ hx119_1
      replace hx119_2 := cx_ hx119_2
      replace hx119_3 := cx_ hx119_3
      replace p119 := eq_true p119
      replace q119 := eq_true q119
      obtain ⟨hcz7_0, hcz7_1, hfz7_0, hfz7_1⟩ := bz2_ BK118
      go_wp2
      repeat (go_quiet (fail); try go_wp2)
      go_ret
      exact ⟨by first | rfl | (simp [errW_none, errW_some] <;> rfl) | (simp [*, errW_none, errW_some] <;> rfl), hb_⟩
     ·rw [if_neg c6] at H
      have c6b0 : (((rd_T51 l0 x5_1).f0.f0) == a1_0 && (((rd_T51 l0 x5_1).f0.f1) == a1_1)) = false := by simpa using c6
      (try (have c6b1 : decide (((rd_T51 l0 x5_1).f0.f0) = a1_0 && (((rd_T51 l0 x5_1).f0.f1) == a1_1)) = false := by simpa using c6))
      (try (have c6b2 : (((rd_T51 l0 x5_1).f0.f0) == a1_0 && (((rd_T51 l0 x5_1).f0.f1) == a1_1)) = false := by simpa using c6))
      (try (have c6b3 : ¬ (((rd_T51 l0 x5_1).f0.f0) = a1_0 && (((rd_T51 l0 x5_1).f0.f1) == a1_1)) := by simpa using c6))
      clear c6
      have H' := Aside0.mk H
      clear H
      have p119 : 0 ≤ (x5_1 : Int) := of_decide_eq_true Z1
      have q119 : x5_1 < (l0.length : Int) := of_decide_eq_true Z1
      obtain ⟨ad119, e119, hx119_0, hx119_1, hx119_2, hx119_3⟩ := at_T51 HR0.out x5_1 p119 q119
      cases e119
      replace hx119_0 := cx_ hx119_0
      replace hx119_1 := cx_ hx119_1
      replace hx119_2 := cx_ hx119_2
      replace hx119_3 := cx_ hx119_3
      replace p119 := eq_true p119
      replace q119 := eq_true q119
      obtain ⟨hcz8_0, hcz8_1, hfz8_0, hfz8_1⟩ := bz2_ BK118
      go_wp2
      repeat (go_quiet (fail); try go_wp2)
      go_roundg k1
      case measure => have := HK1.out; omega
      case rel => exact ⟨(wrap64 (x5_1 + 1)), Z4, H', ⟨by have := HK1.out; omega⟩, ⟨bo_ BK118⟩, ⟨hb_⟩⟩
    ·rw [if_neg c5] at H
     exact absurd H (by simp)
   ·rw [if_neg c4] at H
    have c4b0 : decide (x5_1 < (l0.length : Int)) = false := decide_eq_false c4
    clear c4
    obtain rfl := Option.some.inj H
    go_wp2
    repeat (go_quiet (fail); try go_wp2)
    go_ret
    exact ⟨by first | rfl | (simp [errW_none, errW_some] <;> rfl) | (simp [*, errW_none, errW_some] <;> rfl), hb_⟩
end Go.Proofs.Ytckhjehibjdjdaa.P
namespace Go.Proofs.Ytckhjehibjdjdaa.P
open Go.RowKit Go.Proofs.YtckhjehibjdjdaaW.PrintWords Go.Proofs.YtckhjehibjdjdaaW.PrintLast Go.Proofs.YtckhjehibjdjdaaW.PrintMore
attribute [local go_sem] max2_int min2_int max_two min_two max_three min_three max_four min_four
set_option linter.unusedVariables false
set_option linter.unusedSimpArgs false
def ensembleref05_Less.l0 : Nat → List (S52) → List (S51) → Int → Option ((List (S51)) × Int)
 | 0, _, _, _ => none
 | k + 1, x1, x6, x7 => if x7 < (x1.length : Int) then (if 0 ≤ x7 then (if ((rd_T52 x1 x7).f2) < 0 then (some (([] : List (S51)), 1)) else ((ensembleref05_find.f k x6 ((rd_T52 x1 x7).f0.f0) ((rd_T52 x1 x7).f0.f1)).bind fun t368 => (if t368 < 0 then (some (([] : List (S51)), 3)) else (if 0 ≤ t368 then (if t368 < (x6.length : Int) then ((ensembleref05_masks.f k ((rd_T52 x1 x7).f1) ((rd_T51 x6 t368).f1)).bind fun t370 => ((ensembleref01_Units.f k ((rd_T52 x1 x7).f1)).bind fun t371 => (if t370 < (t371.length : Int) then (some (([] : List (S51)), 5)) else (if ((rd_T52 x1 x7).f2) > ((rd_T51 x6 t368).f2) then (some (([] : List (S51)), 5)) else ((some (x6.set (t368 : Int).toNat (⟨(⟨(rd_T51 x6 t368).f0.f0, (rd_T51 x6 t368).f0.f1⟩ : S48), IntKind.u64.wrap (((rd_T51 x6 t368).f1) - ((rd_T52 x1 x7).f1)), (rd_T51 x6 t368).f2⟩ : S51) : List (S51))).bind fun y376 => (ensembleref05_Less.l0 k x1 (y376.set (t368 : Int).toNat (⟨(⟨(rd_T51 y376 t368).f0.f0, (rd_T51 y376 t368).f0.f1⟩ : S48), (rd_T51 y376 t368).f1, wrap64 (((rd_T51 y376 t368).f2) - ((rd_T52 x1 x7).f2))⟩ : S51)) (wrap64 (x7 + 1)))))))) else (none)) else (none))))) else (none)) else (some (x6, 0))
def ensembleref05_Less.f (k : Nat) (l0 : List (S51)) (l1 : List (S52)) : Option ((List (S51)) × Int) := (some (([] : List (S51)) : List (S51))).bind fun y360 => (if y360.length + l0.length < 4398046511104 then (ensembleref05_Less.l0 k l1 (y360 ++ l0) 0) else (none))
def ensembleref05_Less.T11 : Bool × List (List Nat × List Nat) := (true, [([], []), ([0], [0]), ([], []), ([], []), ([2, 3], [2, 3]), ([4], [4]), ([5], [5]), ([1, 6], [1, 6]), ([], []), ([8], [8]), ([9, 7], [9]), ([10], [10]), ([7, 11], [7, 11]), ([12, 10], [12]), ([13], [13]), ([14, 13], [13, 14]), ([13], [13]), ([13], [13]), ([16, 17, 13], [13, 16, 17]), ([18, 13], [13, 18]), ([19, 13], [13, 19]), ([15, 20, 13], [13, 15, 20]), ([13, 21], [13, 21])])
def ensembleref05_Less.B11 : List Nat := [0, 1, 0, 0, 12, 28, 60, 127, 0, 256, 1023, 2047, 4095, 8191, 16383, 32767, 16383, 16383, 212991, 475135, 999423, 2097151, 4194303]
theorem ensembleref05_Less.tab11 : rtab .any (opsOf Try.f41 11) = ensembleref05_Less.T11 := by kernel_rfl
theorem ensembleref05_Less.bits11 : waitsOk ensembleref05_Less.T11.2 ensembleref05_Less.B11 = true := by kernel_rfl
def ensembleref05_Less.T13 : Bool × List (List Nat × List Nat) := (true, [([], []), ([], []), ([], []), ([], []), ([2, 3], [2, 3]), ([4], [4]), ([5], [5]), ([], []), ([7], [7]), ([6, 8], [6, 8]), ([0, 1, 0, 1, 2, 3, 4, 5, 6, 7, 8, 9], [0, 1]), ([10, 0, 1, 2, 3, 4, 5, 6, 7, 8, 9], [10]), ([11, 9, 0, 1, 2, 3, 4, 5, 6, 7, 8, 9], [9, 11])])
def ensembleref05_Less.B13 : List Nat := [0, 0, 0, 0, 12, 28, 60, 0, 128, 508, 1023, 2047, 4095]
theorem ensembleref05_Less.tab13 : rtab .any (opsOf Try.f41 13) = ensembleref05_Less.T13 := by kernel_rfl
theorem ensembleref05_Less.bits13 : waitsOk ensembleref05_Less.T13.2 ensembleref05_Less.B13 = true := by kernel_rfl
def ensembleref05_Less.T14 : Bool × List (List Nat × List Nat) := (true, [([], []), ([], []), ([], []), ([], []), ([2, 3], [2, 3]), ([4], [4]), ([5], [5]), ([], []), ([7], [7]), ([6, 8], [6, 8]), ([0, 1, 0, 1, 2, 3, 4, 5, 6, 7, 8, 9], [0, 1]), ([10, 0, 1, 2, 3, 4, 5, 6, 7, 8, 9], [10]), ([11, 9, 0, 1, 2, 3, 4, 5, 6, 7, 8, 9], [9, 11])])
def ensembleref05_Less.B14 : List Nat := [0, 0, 0, 0, 12, 28, 60, 0, 128, 508, 1023, 2047, 4095]
theorem ensembleref05_Less.tab14 : rtab .any (opsOf Try.f41 14) = ensembleref05_Less.T14 := by kernel_rfl
theorem ensembleref05_Less.bits14 : waitsOk ensembleref05_Less.T14.2 ensembleref05_Less.B14 = true := by kernel_rfl
set_option maxHeartbeats 8000000 in
set_option maxRecDepth 100000 in
theorem ensembleref05_Less.calls (k : Nat) (A0 : Option Addr) (c0 : Nat) (l0 : List (S51)) (A1 : Option Addr) (c1 : Nat) (l1 : List (S52)) (r1 : List (S51)) (r2 : Int) (w : World) (hr0 : Kd.C k51 w A0 l0.length l0) (hc0 : l0.length ≤ c0) (hr1 : Kd.C k52 w A1 l1.length l1) (hc1 : l1.length ≤ c1) (h : ensembleref05_Less.f k l0 l1 = some (r1, r2)) :
  Calls Try.prog 41 #[.slice A0 l0.length c0, .slice A1 l1.length c1] w fun e w' => ∃ v0_ : Value, e = .returned (.tuple #[v0_, .int .i64 r2]) ∧ Kd.R k51 51 w' w.heap.size (fun _ => True) v0_ r1 ∧ Below w.heap.size w w' := by
 have hu52 := Try.underlying52
 have hu48 := Try.underlying48
 have HR0 := Aside0.mk hr0
 have HC0 := Aside0.mk hc0
 clear hr0 hc0
 have HR1 := Aside0.mk hr1
 have HC1 := Aside0.mk hc1
 clear hr1 hc1
 have HB := Aside0.mk (Below.refl w.heap.size w)
 have H : ((some (([] : List (S51)) : List (S51))).bind fun y360 => (if y360.length + l0.length < 4398046511104 then (ensembleref05_Less.l0 k l1 (y360 ++ l0) 0) else (none))) = some (r1, r2) := h
 clear h
 obtain ⟨y360, hy360⟩ : ∃ y_ : List (S51), y_ = (([] : List (S51))) := ⟨_, rfl⟩
 replace H : (if y360.length + l0.length < 4398046511104 then (ensembleref05_Less.l0 k l1 (y360 ++ l0) 0) else (none)) = some (r1, r2) := by first | (rw [hy360]; with_reducible exact H) | (have H2_ := (Option.bind_some _ _).symm.trans H; rw [hy360]; with_reducible exact H2_) | (have H2_ := (Option.bind_some _ _).symm.trans H; with_reducible exact H2_) | with_reducible exact H | (rw [hy360]; exact H) | exact H
 have Ny360 := Aside0.mk hy360
 clear hy360
 by_cases c3 : y360.length + l0.length < 4398046511104
 ·rw [if_pos c3] at H
  have LMc3 := Aside0.mk c3
  clear c3
  obtain ⟨y363, hy363⟩ : ∃ y_ : List (S51), y_ = (y360 ++ l0) := ⟨_, rfl⟩
  replace H : (ensembleref05_Less.l0 k l1 y363 0) = some (r1, r2) := by first | (rw [hy363]; with_reducible exact H) | (have H2_ := (Option.bind_some _ _).symm.trans H; rw [hy363]; with_reducible exact H2_) | (have H2_ := (Option.bind_some _ _).symm.trans H; with_reducible exact H2_) | with_reducible exact H | (rw [hy363]; exact H) | exact H
  have Ny363 := Aside0.mk hy363
  clear hy363
  have H' := Aside0.mk H
  clear H
  go_enter Try.func41, Try.ntmps41
  go_wp2_with (first | ((with_reducible refine gate_dst (N := 10) rfl ?_); refine Kd.R_lit k51 _ 51 ?hg (N := 10) ?hd (xs := ([] : List (S51))) (inner := []) (ok := fun _ => True) (okp := fun _ => True) ?hr ?hp (fun _ hk => hk) trivial (Below.refl _ _) (Nat.le_refl _) (by simp) ?_; (case hd => rfl); (case hg => rfl); (case hr => first | (go_simp; done) | (go_simp; rfl)); (case hp => exact (Reps.none _ _)); intro v361 w4 ho5 hb hg_ hnew_; clear hg_ hnew_; (first | rw [← Ny360.out] at ho5 | (simp only [Int.reduceToNat] at ho5; rw [← Ny360.out] at ho5)); have HO362 := Aside0.mk (Kd.R_lower ho5 (below_size hb_)); replace HB := hs_ hb; clear hb ho5) | ((with_reducible refine gate_builtin (b := .append) (xs := #[.tmp 10, .tmp 11]) rfl ?_); at_builtin; refine Kd.R_append_rows k51 (w0 := w) w.heap.size rfl (.tmp 10) (.tmp 11) 22 51 (.agg #[(.int .i64 0), (.int .i64 0), (.int .u64 0), (.int .i64 0)]) 32 rfl Try.underlying22 info51 rfl (by decide) (by omega) v361 y360 l0 _ _ _ (fun _ => True) (fun _ => False) rfl rfl ?aO ?aR (fun _ _ h => h) (fun _ h => h.elim) ?aF ?aB ?aS ?aL ?_; (case aR => repeat (first | exact (Kd.C_below HR0.out HB.out) | (with_reducible refine Kd.C_alloc ?_ _) | (with_reducible refine Kd.C_drewN ?_ _) | (with_reducible refine Kd.C_drew ?_))); (case aB => exact hb_); (case aF => exact (fun _ _ => trivial)); (case aO => exact (by (with_reducible repeat (first | apply Kd.R_alloc | apply Kd.R_drewN | apply Kd.R_drew)); exact HO362.out)); (case aS => exact (below_size hb_)); (case aL => have := LMc3.out; omega); intro v364 w6 ho hb hg hat; rw [← Ny363.out] at ho; have HO365 := Aside0.mk (ho); replace HB := Aside0.mk (hb); clear HO362; clear ho hb hg hat))
  go_loopg [7] k (fun kq v7 w' => ∃ (x6_1 : List (S51)) (x7_1 : Int), v7 = .int .i64 x7_1 ∧ Aside0 (ensembleref05_Less.l0 kq l1 x6_1 x7_1 = some (r1, r2)) ∧ Aside0 (kq ≤ k) ∧ Aside0 (Kd.R k51 51 w' w.heap.size (fun _ => True) v364 x6_1) ∧ Aside0 (Below w.heap.size w w'))
  case atStart => exact ⟨(y363), (0), Z4, H', ⟨Nat.le_refl _⟩, ⟨by (with_reducible repeat (first | apply Kd.R_alloc | apply Kd.R_drewN | apply Kd.R_drew)); exact HO365.out⟩, ⟨hb_⟩⟩
  case round =>
   clear H'
   try clear c1
   try clear p2
   try clear c3
   try clear c4
   obtain ⟨x6_1, x7_1, rfl, HA, HK1, HO_6, HB⟩ := hrel
   cases gk with
   | zero => exact absurd HA.out (by simp [ensembleref05_Less.l0])
   | succ k1 =>
    have H := HA.out
    clear HA
    simp only [ensembleref05_Less.l0] at H
    by_cases c7 : x7_1 < (l1.length : Int)
    ·rw [if_pos c7] at H
     have c7b0 : decide (x7_1 < (l1.length : Int)) = true := decide_eq_true c7
     clear c7
     by_cases c8 : 0 ≤ x7_1
     ·rw [if_pos c8] at H
      have c8b0 : decide (0 ≤ x7_1) = true := decide_eq_true c8
      clear c8
      by_cases c9 : ((rd_T52 l1 x7_1).f2) < 0
      ·rw [if_pos c9] at H
       have c9b0 : decide (((rd_T52 l1 x7_1).f2) < 0) = true := decide_eq_true c9
       clear c9
       simp only [Option.some.injEq, Prod.mk.injEq] at H
       obtain ⟨rfl, rfl⟩ := H
       have p366 : 0 ≤ (x7_1 : Int) := of_decide_eq_true Z1
       have q366 : x7_1 < (l1.length : Int) := of_decide_eq_true Z1
       obtain ⟨ad366, e366, hx366_0, hx366_1, hx366_2, hx366_3⟩ := at_T52 HR1.out x7_1 p366 q366
       cases e366
       replace hx366_0 := cx_ hx366_0
       replace hx366_1 := cx_ hx366_1
       replace hx366_2 := cx_ hx366_2
       replace hx366_3 := cx_ hx366_3
       replace p366 := eq_true p366
       replace q366 := eq_true q366
       go_wp2_with (first | ((with_reducible refine gate_dst (N := 8) rfl ?_); refine bx 8 #[.int .i64 0, .int .i64 0, .int .u64 0, .int .i64 0] 52 ?_; intro gb367 hg w10 hbox hb; have BK367 := Aside0.mk (hbox); have GW367 := ge_ hg; have GE367 := ge_ hg; replace HO_6 := Aside0.mk (Kd.R_below Z6 hb); replace HB := hs_ hb; clear hb hbox hg; obtain ⟨hcz11_0, hcz11_1, hcz11_2, hcz11_3, hfz11_0, hfz11_1, hfz11_2, hfz11_3⟩ := bz4_ BK367))
       go_ret2
       exact ⟨_, by first | rfl | (simp [errW_none, errW_some] <;> rfl) | (simp [*, errW_none, errW_some] <;> rfl), by first | exact Kd.R_nil _ _ _ _ _ | exact Kd.N_nil _ _ _ _ _ | exact Kd.V_nil _ _ _ _ _ | exact Kd.Q_nil _ _ _ _ _ | exact Kd.S_nil _ _ _ _ _, hb_⟩
      ·rw [if_neg c9] at H
       have c9b0 : decide (((rd_T52 l1 x7_1).f2) < 0) = false := decide_eq_false c9
       clear c9
       replace H := Option.bind_eq_some_iff.mp H
       obtain ⟨t368, A120, H⟩ := H
       replace H : (if t368 < 0 then (some (([] : List (S51)), 3)) else (if 0 ≤ t368 then (if t368 < (x6_1.length : Int) then ((ensembleref05_masks.f k1 ((rd_T52 l1 x7_1).f1) ((rd_T51 x6_1 t368).f1)).bind fun t370 => ((ensembleref01_Units.f k1 ((rd_T52 l1 x7_1).f1)).bind fun t371 => (if t370 < (t371.length : Int) then (some (([] : List (S51)), 5)) else (if ((rd_T52 l1 x7_1).f2) > ((rd_T51 x6_1 t368).f2) then (some (([] : List (S51)), 5)) else ((some (x6_1.set (t368 : Int).toNat (⟨(⟨(rd_T51 x6_1 t368).f0.f0, (rd_T51 x6_1 t368).f0.f1⟩ : S48), IntKind.u64.wrap (((rd_T51 x6_1 t368).f1) - ((rd_T52 l1 x7_1).f1)), (rd_T51 x6_1 t368).f2⟩ : S51) : List (S51))).bind fun y376 => (ensembleref05_Less.l0 k1 l1 (y376.set (t368 : Int).toNat (⟨(⟨(rd_T51 y376 t368).f0.f0, (rd_T51 y376 t368).f0.f1⟩ : S48), (rd_T51 y376 t368).f1, wrap64 (((rd_T51 y376 t368).f2) - ((rd_T52 l1 x7_1).f2))⟩ : S51)) (wrap64 (x7_1 + 1)))))))) else (none)) else (none))) = some (r1, r2) := H
       have A12 := Aside0.mk A120
       clear A120
       by_cases c13 : t368 < 0
       ·rw [if_pos c13] at H
        have c13b0 : decide (t368 < 0) = true := decide_eq_true c13
        clear c13
        simp only [Option.some.injEq, Prod.mk.injEq] at H
        obtain ⟨rfl, rfl⟩ := H
        have p366 : 0 ≤ (x7_1 : Int) := of_decide_eq_true Z1
        have q366 : x7_1 < (l1.length : Int) := of_decide_eq_true Z1
        obtain ⟨ad366, e366, hx366_0, hx366_1, hx366_2, hx366_3⟩ := at_T52 HR1.out x7_1 p366 q366
        cases e366
        replace hx366_0 := cx_ hx366_0
        replace hx366_1 := cx_ hx366_1
        replace hx366_2 := cx_ hx366_2
        replace hx366_3 := cx_ hx366_3
        replace p366 := eq_true p366
        replace q366 := eq_true q366
        go_wp2_with (first | ((with_reducible refine gate_dst (N := 8) rfl ?_); refine bx 8 #[.int .i64 0, .int .i64 0, .int .u64 0, .int .i64 0] 52 ?_; intro gb367 hg w14 hbox hb; have BK367 := Aside0.mk (hbox); have GW367 := ge_ hg; have GE367 := ge_ hg; replace HO_6 := Aside0.mk (Kd.R_below Z6 hb); replace HB := hs_ hb; clear hb hbox hg; obtain ⟨hcz15_0, hcz15_1, hcz15_2, hcz15_3, hfz15_0, hfz15_1, hfz15_2, hfz15_3⟩ := bz4_ BK367; obtain ⟨Ao16, co16, eo16⟩ := Kd.R_slice HO_6.out; subst eo16) | ((with_reducible refine gate_callee (f := 79) rfl ?_); refine goesL_ (some 29) rfl rfl Try.func79 (by kernel_rfl) rfl #[.slice Ao16 x6_1.length co16, .agg #[.int .i64 ((rd_T52 l1 x7_1).f0.f0), .int .i64 ((rd_T52 l1 x7_1).f0.f1)]] rfl Z0 ?_; (with_reducible refine (ensembleref05_find.calls k1 _ _ x6_1 ((rd_T52 l1 x7_1).f0.f0) ((rd_T52 l1 x7_1).f0.f1) t368 _ ?side1 ?side2 A12.out).mono ?_); (case side1 => refine (Kd.R_reads' (e := 51) (base := w.heap.size) (ok := fun k_ => True) (n := x6_1.length) (c := co16) ?_).2.2; exact Z2); (case side2 => exact (Kd.R_reads' HO_6.out).2.1); rintro e w17 ⟨rfl, hb⟩; refine ⟨_, rfl, ?_⟩; replace HO_6 := Aside0.mk (Kd.R_below Z2 hb); replace BK367 := Aside0.mk (blk_below (g := gb367) (o := .cells #[.int .i64 ((rd_T52 l1 x7_1).f0.f0), .int .i64 ((rd_T52 l1 x7_1).f0.f1), .int .u64 ((rd_T52 l1 x7_1).f1), .int .i64 ((rd_T52 l1 x7_1).f2)] 52 (0, 0)) (by (with_reducible repeat (first | refine blk_drewN ?_ _ | refine blk_drew ?_ | refine blk_alloc ?_ _)); refine blk_put (cs := #[.int .i64 ((rd_T52 l1 x7_1).f0.f0), .int .i64 ((rd_T52 l1 x7_1).f0.f1), .int .u64 ((rd_T52 l1 x7_1).f1), .int .i64 0]) ?_ 3 _ rfl; (with_reducible repeat (first | refine blk_drewN ?_ _ | refine blk_drew ?_ | refine blk_alloc ?_ _)); refine blk_put (cs := #[.int .i64 ((rd_T52 l1 x7_1).f0.f0), .int .i64 ((rd_T52 l1 x7_1).f0.f1), .int .u64 0, .int .i64 0]) ?_ 2 _ rfl; (with_reducible repeat (first | refine blk_drewN ?_ _ | refine blk_drew ?_ | refine blk_alloc ?_ _)); refine blk_put (cs := #[.int .i64 ((rd_T52 l1 x7_1).f0.f0), .int .i64 0, .int .u64 0, .int .i64 0]) ?_ 1 _ rfl; (with_reducible repeat (first | refine blk_drewN ?_ _ | refine blk_drew ?_ | refine blk_alloc ?_ _)); refine blk_put (cs := #[.int .i64 0, .int .i64 0, .int .u64 0, .int .i64 0]) ?_ 0 _ rfl; (with_reducible repeat (first | refine blk_drewN ?_ _ | refine blk_drew ?_ | refine blk_alloc ?_ _)); exact BK367.out) hb); replace HB := hs_ hb; (try clear hb); (try clear hb2); (try clear hk); (try clear hi)))
        go_ret2
        exact ⟨_, by first | rfl | (simp [errW_none, errW_some] <;> rfl) | (simp [*, errW_none, errW_some] <;> rfl), by first | exact Kd.R_nil _ _ _ _ _ | exact Kd.N_nil _ _ _ _ _ | exact Kd.V_nil _ _ _ _ _ | exact Kd.Q_nil _ _ _ _ _ | exact Kd.S_nil _ _ _ _ _, hb_⟩
       ·rw [if_neg c13] at H
        have c13b0 : decide (t368 < 0) = false := decide_eq_false c13
        clear c13
        by_cases c18 : 0 ≤ t368
        ·rw [if_pos c18] at H
         have c18b0 : decide (0 ≤ t368) = true := decide_eq_true c18
         clear c18
         by_cases c19 : t368 < (x6_1.length : Int)
         ·rw [if_pos c19] at H
          have c19b0 : decide (t368 < (x6_1.length : Int)) = true := decide_eq_true c19
          clear c19
          replace H := Option.bind_eq_some_iff.mp H
          obtain ⟨t370, A200, H⟩ := H
          replace H : ((ensembleref01_Units.f k1 ((rd_T52 l1 x7_1).f1)).bind fun t371 => (if t370 < (t371.length : Int) then (some (([] : List (S51)), 5)) else (if ((rd_T52 l1 x7_1).f2) > ((rd_T51 x6_1 t368).f2) then (some (([] : List (S51)), 5)) else ((some (x6_1.set (t368 : Int).toNat (⟨(⟨(rd_T51 x6_1 t368).f0.f0, (rd_T51 x6_1 t368).f0.f1⟩ : S48), IntKind.u64.wrap (((rd_T51 x6_1 t368).f1) - ((rd_T52 l1 x7_1).f1)), (rd_T51 x6_1 t368).f2⟩ : S51) : List (S51))).bind fun y376 => (ensembleref05_Less.l0 k1 l1 (y376.set (t368 : Int).toNat (⟨(⟨(rd_T51 y376 t368).f0.f0, (rd_T51 y376 t368).f0.f1⟩ : S48), (rd_T51 y376 t368).f1, wrap64 (((rd_T51 y376 t368).f2) - ((rd_T52 l1 x7_1).f2))⟩ : S51)) (wrap64 (x7_1 + 1))))))) = some (r1, r2) := H
          have A20 := Aside0.mk A200
          clear A200
          replace H := Option.bind_eq_some_iff.mp H
          obtain ⟨t371, A210, H⟩ := H
          replace H : (if t370 < (t371.length : Int) then (some (([] : List (S51)), 5)) else (if ((rd_T52 l1 x7_1).f2) > ((rd_T51 x6_1 t368).f2) then (some (([] : List (S51)), 5)) else ((some (x6_1.set (t368 : Int).toNat (⟨(⟨(rd_T51 x6_1 t368).f0.f0, (rd_T51 x6_1 t368).f0.f1⟩ : S48), IntKind.u64.wrap (((rd_T51 x6_1 t368).f1) - ((rd_T52 l1 x7_1).f1)), (rd_T51 x6_1 t368).f2⟩ : S51) : List (S51))).bind fun y376 => (ensembleref05_Less.l0 k1 l1 (y376.set (t368 : Int).toNat (⟨(⟨(rd_T51 y376 t368).f0.f0, (rd_T51 y376 t368).f0.f1⟩ : S48), (rd_T51 y376 t368).f1, wrap64 (((rd_T51 y376 t368).f2) - ((rd_T52 l1 x7_1).f2))⟩ : S51)) (wrap64 (x7_1 + 1)))))) = some (r1, r2) := H
          have A21 := Aside0.mk A210
          clear A210
          by_cases c22 : t370 < (t371.length : Int)
          ·rw [if_pos c22] at H
           have c22b0 : decide (t370 < (t371.length : Int)) = true := decide_eq_true c22
           clear c22
           simp only [Option.some.injEq, Prod.mk.injEq] at H
           obtain ⟨rfl, rfl⟩ := H
           have p366 : 0 ≤ (x7_1 : Int) := of_decide_eq_true Z1
           have q366 : x7_1 < (l1.length : Int) := of_decide_eq_true Z1
           obtain ⟨ad366, e366, hx366_0, hx366_1, hx366_2, hx366_3⟩ := at_T52 HR1.out x7_1 p366 q366
           cases e366
           replace hx366_0 := cx_ hx366_0
           replace hx366_1 := cx_ hx366_1
           replace hx366_2 := cx_ hx366_2
           replace hx366_3 := cx_ hx366_3
           replace p366 := eq_true p366
           replace q366 := eq_true q366
           try go_wp2_with (first | ((with_reducible refine gate_dst (N := 8) rfl ?_); refine bx 8 #[.int .i64 0, .int .i64 0, .int .u64 0, .int .i64 0] 52 ?_; intro gb367 hg w23 hbox hb; have BK367 := Aside0.mk (hbox); have GW367 := ge_ hg; have GE367 := ge_ hg; replace HO_6 := Aside0.mk (Kd.R_below Z6 hb); replace HB := hs_ hb; clear hb hbox hg; obtain ⟨hcz24_0, hcz24_1, hcz24_2, hcz24_3, hfz24_0, hfz24_1, hfz24_2, hfz24_3⟩ := bz4_ BK367; obtain ⟨Ao25, co25, eo25⟩ := Kd.R_slice HO_6.out; subst eo25) | ((with_reducible refine gate_callee (f := 79) rfl ?_); refine goesL_ (some 29) rfl rfl Try.func79 (by kernel_rfl) rfl #[.slice Ao25 x6_1.length co25, .agg #[.int .i64 ((rd_T52 l1 x7_1).f0.f0), .int .i64 ((rd_T52 l1 x7_1).f0.f1)]] rfl Z0 ?_; (with_reducible refine (ensembleref05_find.calls k1 _ _ x6_1 ((rd_T52 l1 x7_1).f0.f0) ((rd_T52 l1 x7_1).f0.f1) t368 _ ?side1 ?side2 A12.out).mono ?_); (case side1 => refine (Kd.R_reads' (e := 51) (base := w.heap.size) (ok := fun k_ => True) (n := x6_1.length) (c := co25) ?_).2.2; exact Z2); (case side2 => exact (Kd.R_reads' HO_6.out).2.1); rintro e w26 ⟨rfl, hb⟩; refine ⟨_, rfl, ?_⟩; replace HO_6 := Aside0.mk (Kd.R_below Z2 hb); replace BK367 := Aside0.mk (blk_below (g := gb367) (o := .cells #[.int .i64 ((rd_T52 l1 x7_1).f0.f0), .int .i64 ((rd_T52 l1 x7_1).f0.f1), .int .u64 ((rd_T52 l1 x7_1).f1), .int .i64 ((rd_T52 l1 x7_1).f2)] 52 (0, 0)) (by (with_reducible repeat (first | refine blk_drewN ?_ _ | refine blk_drew ?_ | refine blk_alloc ?_ _)); refine blk_put (cs := #[.int .i64 ((rd_T52 l1 x7_1).f0.f0), .int .i64 ((rd_T52 l1 x7_1).f0.f1), .int .u64 ((rd_T52 l1 x7_1).f1), .int .i64 0]) ?_ 3 _ rfl; (with_reducible repeat (first | refine blk_drewN ?_ _ | refine blk_drew ?_ | refine blk_alloc ?_ _)); refine blk_put (cs := #[.int .i64 ((rd_T52 l1 x7_1).f0.f0), .int .i64 ((rd_T52 l1 x7_1).f0.f1), .int .u64 0, .int .i64 0]) ?_ 2 _ rfl; (with_reducible repeat (first | refine blk_drewN ?_ _ | refine blk_drew ?_ | refine blk_alloc ?_ _)); refine blk_put (cs := #[.int .i64 ((rd_T52 l1 x7_1).f0.f0), .int .i64 0, .int .u64 0, .int .i64 0]) ?_ 1 _ rfl; (with_reducible repeat (first | refine blk_drewN ?_ _ | refine blk_drew ?_ | refine blk_alloc ?_ _)); refine blk_put (cs := #[.int .i64 0, .int .i64 0, .int .u64 0, .int .i64 0]) ?_ 0 _ rfl; (with_reducible repeat (first | refine blk_drewN ?_ _ | refine blk_drew ?_ | refine blk_alloc ?_ _)); exact BK367.out) hb); replace HB := hs_ hb; (try clear hb); (try clear hb2); (try clear hk); (try clear hi)))
           replace HO_6 := Aside0.mk (Kd.R_drew HO_6.out)
           replace BK367 := Aside0.mk (blk_drew BK367.out)
           replace HB := Aside0.mk (below_drew1 HB.out)
           have p369 : 0 ≤ (t368 : Int) := of_decide_eq_true Z1
           have q369 : t368 < (x6_1.length : Int) := of_decide_eq_true Z1
           obtain ⟨ad369, e369, hx369_0, hx369_1, hx369_2, hx369_3⟩ := at_T51 (Kd.R_reads' HO_6.out).2.2 t368 p369 q369
           cases e369
           replace p369 := eq_true p369
           replace q369 := eq_true q369
           refine start_ (n := 23) (S := fun w' => w'.cell? ⟨gb367, 0, none⟩ = some (.int .i64 ((rd_T52 l1 x7_1).f0.f0)) ∧ w'.cell? ⟨gb367, 1, none⟩ = some (.int .i64 ((rd_T52 l1 x7_1).f0.f1)) ∧ w'.cell? ⟨gb367, 2, none⟩ = some (.int .u64 ((rd_T52 l1 x7_1).f1)) ∧ w'.cell? ⟨gb367, 3, none⟩ = some (.int .i64 ((rd_T52 l1 x7_1).f2)) ∧ w'.cell? (ad369.add ((t368).toNat * 4)) = some (.int .i64 ((rd_T51 x6_1 t368).f0.f0)) ∧ w'.cell? ⟨(ad369.add ((t368).toNat * 4)).block, (ad369.add ((t368).toNat * 4)).off + 1, none⟩ = some (.int .i64 ((rd_T51 x6_1 t368).f0.f1)) ∧ w'.cell? ⟨(ad369.add ((t368).toNat * 4)).block, (ad369.add ((t368).toNat * 4)).off + 2, none⟩ = some (.int .u64 ((rd_T51 x6_1 t368).f1)) ∧ w'.cell? ⟨(ad369.add ((t368).toNat * 4)).block, (ad369.add ((t368).toNat * 4)).off + 3, none⟩ = some (.int .i64 ((rd_T51 x6_1 t368).f2))) (ds := []) (bm 23 0) (by kernel_rfl) rfl rfl ⟨(blk_cell BK367.out 0).trans rfl, (blk_cell BK367.out 1).trans rfl, (blk_cell BK367.out 2).trans rfl, (blk_cell BK367.out 3).trans rfl, hx369_0, hx369_1, hx369_2, hx369_3⟩ (fun hHeld => ?_); refine with_tabW ensembleref05_Less.tab11 ensembleref05_Less.bits11 (fun HT_ HW_ => ?_)
           generalize w26.drew = w27 at HO_6 BK367 HB hx369_0 hx369_1 hx369_2 hx369_3 hHeld ⊢
           refine pu 0 (some 32) (bm 23 1) ?_
           refine pu 2 (some 34) (bm 23 5) ?_
           refine pu 3 (some 35) (bm 23 13) ?_
           refine pu 4 (some 36) (bm 23 29) ?_
           refine pu 5 (some 37) (bm 23 61) ?_
           refine pu 8 (some 40) (bm 23 317) ?_
           refine tk8 1 (some 33) (bm 23 319) ?_
           refine tk8 6 (some 38) (bm 23 383) ?_
           refine tk8 9 (some 41) (bm 23 895) ?_
           refine one_ (i := 7) (N := some 39) (bm 23 1023) rfl rfl (one_of HT_.out (by kernel_rfl)) (by decide) (fun K hK => ?_)
           refine goes_ Try.func80 (by kernel_rfl) rfl #[.int .u64 ((rd_T52 l1 x7_1).f1), .int .u64 ((rd_T51 x6_1 t368).f1)] (by rfl) rfl rfl Z0 ?_
           with_reducible refine (ensembleref05_masks.calls k1 ((rd_T52 l1 x7_1).f1) ((rd_T51 x6_1 t368).f1) t370 _ A20.out).mono ?_
           rintro e w28 ⟨rfl, hb⟩
           have HS4_ := (hb.cell (World.block_lt_of_cell? _ _ (hHeld.2.2.2.2.1))).trans (hHeld.2.2.2.2.1)
           have HS5_ := (hb.cell (World.block_lt_of_cell? _ _ (hHeld.2.2.2.2.2.1))).trans (hHeld.2.2.2.2.2.1)
           have HS6_ := (hb.cell (World.block_lt_of_cell? _ _ (hHeld.2.2.2.2.2.2.1))).trans (hHeld.2.2.2.2.2.2.1)
           have HS7_ := (hb.cell (World.block_lt_of_cell? _ _ (hHeld.2.2.2.2.2.2.2))).trans (hHeld.2.2.2.2.2.2.2)
           refine ⟨_, rfl, ?_⟩
           replace HO_6 := Aside0.mk (Kd.R_below Z6 hb)
           replace BK367 := Aside0.mk (blk_below (g := gb367) (o := .cells #[.int .i64 ((rd_T52 l1 x7_1).f0.f0), .int .i64 ((rd_T52 l1 x7_1).f0.f1), .int .u64 ((rd_T52 l1 x7_1).f1), .int .i64 ((rd_T52 l1 x7_1).f2)] 52 (0, 0)) (bo_ BK367) hb)
           replace HB := hs_ hb
           (try clear hb)
           (try clear hb2)
           (try clear hk)
           (try clear hi)
           refine hK.out _ _ ⟨(blk_cell BK367.out 0).trans rfl, (blk_cell BK367.out 1).trans rfl, (blk_cell BK367.out 2).trans rfl, (blk_cell BK367.out 3).trans rfl, HS4_, HS5_, HS6_, HS7_⟩ (fun hHeld => ?_)
           clear hK K
           refine norm_ (a' := ?_) ?_ ?_
           rotate_left
           ·show Act.put _ (some 39) _ = _
            simp only [Act.put, List.setIfInBounds_toArray, List.set_cons_zero, List.set_cons_succ, i64_w, i32_w]
            rfl
           refine one_ (i := 10) (N := some 42) (bm 23 2047) rfl rfl (one_of HT_.out (by kernel_rfl)) (by decide) (fun K hK => ?_)
           refine goes_ Try.func82 (by kernel_rfl) rfl #[.int .u64 ((rd_T52 l1 x7_1).f1)] (by rfl) rfl rfl Z0 ?_
           with_reducible refine (ensembleref01_Units.calls k1 ((rd_T52 l1 x7_1).f1) t371 _ A21.out).mono ?_
           rintro e w29 ⟨v372, rfl, ho0, hb⟩
           have HS4_ := (hb.cell (World.block_lt_of_cell? _ _ (hHeld.2.2.2.2.1))).trans (hHeld.2.2.2.2.1)
           have HS5_ := (hb.cell (World.block_lt_of_cell? _ _ (hHeld.2.2.2.2.2.1))).trans (hHeld.2.2.2.2.2.1)
           have HS6_ := (hb.cell (World.block_lt_of_cell? _ _ (hHeld.2.2.2.2.2.2.1))).trans (hHeld.2.2.2.2.2.2.1)
           have HS7_ := (hb.cell (World.block_lt_of_cell? _ _ (hHeld.2.2.2.2.2.2.2))).trans (hHeld.2.2.2.2.2.2.2)
           refine ⟨_, rfl, ?_⟩
           have HO373 := Aside0.mk (Kd.R_lower ho0 (below_size hb_))
           replace HO_6 := Aside0.mk (Kd.R_below Z6 hb)
           replace BK367 := Aside0.mk (blk_below (g := gb367) (o := .cells #[.int .i64 ((rd_T52 l1 x7_1).f0.f0), .int .i64 ((rd_T52 l1 x7_1).f0.f1), .int .u64 ((rd_T52 l1 x7_1).f1), .int .i64 ((rd_T52 l1 x7_1).f2)] 52 (0, 0)) (bo_ BK367) hb)
           replace HB := hs_ hb
           (try clear hb)
           (try clear hb2)
           (try clear hk)
           (try clear hi)
           (try clear ho0)
           obtain ⟨Ao30, co30, eo30⟩ := Kd.R_slice HO373.out
           (first | subst eo30 | (injection eo30 with f1_ f2_ f3_; have f4_ := f1_.symm; have f5_ := f3_.symm; clear f1_ f2_ f3_; subst f4_; subst f5_))
           refine hK.out _ _ ⟨(blk_cell BK367.out 0).trans rfl, (blk_cell BK367.out 1).trans rfl, (blk_cell BK367.out 2).trans rfl, (blk_cell BK367.out 3).trans rfl, HS4_, HS5_, HS6_, HS7_⟩ (fun hHeld => ?_)
           clear hK K
           refine norm_ (a' := ?_) ?_ ?_
           rotate_left
           ·show Act.put _ (some 42) _ = _
            simp only [Act.put, List.setIfInBounds_toArray, List.set_cons_zero, List.set_cons_succ, i64_w, i32_w]
            rfl
           refine pu 11 (some 43) (bm 23 4095) ?_
           refine pu 12 (some 44) (bm 23 8191) ?_
           refine pu 13 (some 45) (bm 23 16383) ?_
           refine pv 14 (some 46) (bm 23 32767) ?_
           refine pv 15 (some 47) (bm 23 65535) ?_
           refine pv 16 (some 48) (bm 23 131071) ?_
           refine pv 17 (some 49) (bm 23 262143) ?_
           refine pv 18 (some 50) (bm 23 524287) ?_
           refine pv 19 (some 51) (bm 23 1048575) ?_
           refine pv 20 (some 52) (bm 23 2097151) ?_
           refine pv 21 (some 53) (bm 23 4194303) ?_
           refine pu 22 (some 54) (bm 23 8388607) ?_
           refine done_ (done_of HT_.out (by kernel_rfl)) ?_
           try go_wp2
           go_ret2
           exact ⟨_, by first | rfl | (simp [errW_none, errW_some] <;> rfl) | (simp [*, errW_none, errW_some] <;> rfl), by first | exact Kd.R_nil _ _ _ _ _ | exact Kd.N_nil _ _ _ _ _ | exact Kd.V_nil _ _ _ _ _ | exact Kd.Q_nil _ _ _ _ _ | exact Kd.S_nil _ _ _ _ _, hb_⟩
          ·rw [if_neg c22] at H
           have c22b0 : decide (t370 < (t371.length : Int)) = false := decide_eq_false c22
           clear c22
           by_cases c31 : ((rd_T52 l1 x7_1).f2) > ((rd_T51 x6_1 t368).f2)
           ·rw [if_pos c31] at H
            have c31b0 : decide (((rd_T51 x6_1 t368).f2) < ((rd_T52 l1 x7_1).f2)) = true := decide_eq_true c31
            clear c31
            simp only [Option.some.injEq, Prod.mk.injEq] at H
            obtain ⟨rfl, rfl⟩ := H
            have p366 : 0 ≤ (x7_1 : Int) := of_decide_eq_true Z1
            have q366 : x7_1 < (l1.length : Int) := of_decide_eq_true Z1
            obtain ⟨ad366, e366, hx366_0, hx366_1, hx366_2, hx366_3⟩ := at_T52 HR1.out x7_1 p366 q366
            cases e366
            replace hx366_0 := cx_ hx366_0
            replace hx366_1 := cx_ hx366_1
            replace hx366_2 := cx_ hx366_2
            replace hx366_3 := cx_ hx366_3
            replace p366 := eq_true p366
            replace q366 := eq_true q366
            try go_wp2_with (first | ((with_reducible refine gate_dst (N := 8) rfl ?_); refine bx 8 #[.int .i64 0, .int .i64 0, .int .u64 0, .int .i64 0] 52 ?_; intro gb367 hg w32 hbox hb; have BK367 := Aside0.mk (hbox); have GW367 := ge_ hg; have GE367 := ge_ hg; replace HO_6 := Aside0.mk (Kd.R_below Z6 hb); replace HB := hs_ hb; clear hb hbox hg; obtain ⟨hcz33_0, hcz33_1, hcz33_2, hcz33_3, hfz33_0, hfz33_1, hfz33_2, hfz33_3⟩ := bz4_ BK367; obtain ⟨Ao34, co34, eo34⟩ := Kd.R_slice HO_6.out; subst eo34) | ((with_reducible refine gate_callee (f := 79) rfl ?_); refine goesL_ (some 29) rfl rfl Try.func79 (by kernel_rfl) rfl #[.slice Ao34 x6_1.length co34, .agg #[.int .i64 ((rd_T52 l1 x7_1).f0.f0), .int .i64 ((rd_T52 l1 x7_1).f0.f1)]] rfl Z0 ?_; (with_reducible refine (ensembleref05_find.calls k1 _ _ x6_1 ((rd_T52 l1 x7_1).f0.f0) ((rd_T52 l1 x7_1).f0.f1) t368 _ ?side1 ?side2 A12.out).mono ?_); (case side1 => refine (Kd.R_reads' (e := 51) (base := w.heap.size) (ok := fun k_ => True) (n := x6_1.length) (c := co34) ?_).2.2; exact Z2); (case side2 => exact (Kd.R_reads' HO_6.out).2.1); rintro e w35 ⟨rfl, hb⟩; refine ⟨_, rfl, ?_⟩; replace HO_6 := Aside0.mk (Kd.R_below Z2 hb); replace BK367 := Aside0.mk (blk_below (g := gb367) (o := .cells #[.int .i64 ((rd_T52 l1 x7_1).f0.f0), .int .i64 ((rd_T52 l1 x7_1).f0.f1), .int .u64 ((rd_T52 l1 x7_1).f1), .int .i64 ((rd_T52 l1 x7_1).f2)] 52 (0, 0)) (by (with_reducible repeat (first | refine blk_drewN ?_ _ | refine blk_drew ?_ | refine blk_alloc ?_ _)); refine blk_put (cs := #[.int .i64 ((rd_T52 l1 x7_1).f0.f0), .int .i64 ((rd_T52 l1 x7_1).f0.f1), .int .u64 ((rd_T52 l1 x7_1).f1), .int .i64 0]) ?_ 3 _ rfl; (with_reducible repeat (first | refine blk_drewN ?_ _ | refine blk_drew ?_ | refine blk_alloc ?_ _)); refine blk_put (cs := #[.int .i64 ((rd_T52 l1 x7_1).f0.f0), .int .i64 ((rd_T52 l1 x7_1).f0.f1), .int .u64 0, .int .i64 0]) ?_ 2 _ rfl; (with_reducible repeat (first | refine blk_drewN ?_ _ | refine blk_drew ?_ | refine blk_alloc ?_ _)); refine blk_put (cs := #[.int .i64 ((rd_T52 l1 x7_1).f0.f0), .int .i64 0, .int .u64 0, .int .i64 0]) ?_ 1 _ rfl; (with_reducible repeat (first | refine blk_drewN ?_ _ | refine blk_drew ?_ | refine blk_alloc ?_ _)); refine blk_put (cs := #[.int .i64 0, .int .i64 0, .int .u64 0, .int .i64 0]) ?_ 0 _ rfl; (with_reducible repeat (first | refine blk_drewN ?_ _ | refine blk_drew ?_ | refine blk_alloc ?_ _)); exact BK367.out) hb); replace HB := hs_ hb; (try clear hb); (try clear hb2); (try clear hk); (try clear hi)))
            replace HO_6 := Aside0.mk (Kd.R_drew HO_6.out)
            replace BK367 := Aside0.mk (blk_drew BK367.out)
            replace HB := Aside0.mk (below_drew1 HB.out)
            have p369 : 0 ≤ (t368 : Int) := of_decide_eq_true Z1
            have q369 : t368 < (x6_1.length : Int) := of_decide_eq_true Z1
            obtain ⟨ad369, e369, hx369_0, hx369_1, hx369_2, hx369_3⟩ := at_T51 (Kd.R_reads' HO_6.out).2.2 t368 p369 q369
            cases e369
            replace p369 := eq_true p369
            replace q369 := eq_true q369
            have p374 : 0 ≤ (t368 : Int) := of_decide_eq_true Z1
            have q374 : t368 < (x6_1.length : Int) := of_decide_eq_true Z1
            obtain ⟨ad374, e374, hx374_0, hx374_1, hx374_2, hx374_3⟩ := at_T51 (Kd.R_reads' HO_6.out).2.2 t368 p374 q374
            obtain rfl : ad369 = ad374 := (by injection e374)
            replace p374 := eq_true p374
            replace q374 := eq_true q374
            refine start_ (n := 23) (S := fun w' => w'.cell? ⟨gb367, 0, none⟩ = some (.int .i64 ((rd_T52 l1 x7_1).f0.f0)) ∧ w'.cell? ⟨gb367, 1, none⟩ = some (.int .i64 ((rd_T52 l1 x7_1).f0.f1)) ∧ w'.cell? ⟨gb367, 2, none⟩ = some (.int .u64 ((rd_T52 l1 x7_1).f1)) ∧ w'.cell? ⟨gb367, 3, none⟩ = some (.int .i64 ((rd_T52 l1 x7_1).f2)) ∧ w'.cell? (ad369.add ((t368).toNat * 4)) = some (.int .i64 ((rd_T51 x6_1 t368).f0.f0)) ∧ w'.cell? ⟨(ad369.add ((t368).toNat * 4)).block, (ad369.add ((t368).toNat * 4)).off + 1, none⟩ = some (.int .i64 ((rd_T51 x6_1 t368).f0.f1)) ∧ w'.cell? ⟨(ad369.add ((t368).toNat * 4)).block, (ad369.add ((t368).toNat * 4)).off + 2, none⟩ = some (.int .u64 ((rd_T51 x6_1 t368).f1)) ∧ w'.cell? ⟨(ad369.add ((t368).toNat * 4)).block, (ad369.add ((t368).toNat * 4)).off + 3, none⟩ = some (.int .i64 ((rd_T51 x6_1 t368).f2)) ∧ w'.cell? (ad369.add ((t368).toNat * 4)) = some (.int .i64 ((rd_T51 x6_1 t368).f0.f0)) ∧ w'.cell? ⟨(ad369.add ((t368).toNat * 4)).block, (ad369.add ((t368).toNat * 4)).off + 1, none⟩ = some (.int .i64 ((rd_T51 x6_1 t368).f0.f1)) ∧ w'.cell? ⟨(ad369.add ((t368).toNat * 4)).block, (ad369.add ((t368).toNat * 4)).off + 2, none⟩ = some (.int .u64 ((rd_T51 x6_1 t368).f1)) ∧ w'.cell? ⟨(ad369.add ((t368).toNat * 4)).block, (ad369.add ((t368).toNat * 4)).off + 3, none⟩ = some (.int .i64 ((rd_T51 x6_1 t368).f2))) (ds := []) (bm 23 0) (by kernel_rfl) rfl rfl ⟨(blk_cell BK367.out 0).trans rfl, (blk_cell BK367.out 1).trans rfl, (blk_cell BK367.out 2).trans rfl, (blk_cell BK367.out 3).trans rfl, hx369_0, hx369_1, hx369_2, hx369_3, hx374_0, hx374_1, hx374_2, hx374_3⟩ (fun hHeld => ?_); refine with_tabW ensembleref05_Less.tab11 ensembleref05_Less.bits11 (fun HT_ HW_ => ?_)
            generalize w35.drew = w36 at HO_6 BK367 HB hx369_0 hx369_1 hx369_2 hx369_3 hx374_0 hx374_1 hx374_2 hx374_3 hHeld ⊢
            refine pu 0 (some 32) (bm 23 1) ?_
            refine pu 2 (some 34) (bm 23 5) ?_
            refine pu 3 (some 35) (bm 23 13) ?_
            refine pu 4 (some 36) (bm 23 29) ?_
            refine pu 5 (some 37) (bm 23 61) ?_
            refine pu 8 (some 40) (bm 23 317) ?_
            refine tk12 1 (some 33) (bm 23 319) ?_
            refine tk12 6 (some 38) (bm 23 383) ?_
            refine tk12 9 (some 41) (bm 23 895) ?_
            refine one_ (i := 7) (N := some 39) (bm 23 1023) rfl rfl (one_of HT_.out (by kernel_rfl)) (by decide) (fun K hK => ?_)
            refine goes_ Try.func80 (by kernel_rfl) rfl #[.int .u64 ((rd_T52 l1 x7_1).f1), .int .u64 ((rd_T51 x6_1 t368).f1)] (by rfl) rfl rfl Z0 ?_
            with_reducible refine (ensembleref05_masks.calls k1 ((rd_T52 l1 x7_1).f1) ((rd_T51 x6_1 t368).f1) t370 _ A20.out).mono ?_
            rintro e w37 ⟨rfl, hb⟩
            have HS4_ := (hb.cell (World.block_lt_of_cell? _ _ (hHeld.2.2.2.2.1))).trans (hHeld.2.2.2.2.1)
            have HS5_ := (hb.cell (World.block_lt_of_cell? _ _ (hHeld.2.2.2.2.2.1))).trans (hHeld.2.2.2.2.2.1)
            have HS6_ := (hb.cell (World.block_lt_of_cell? _ _ (hHeld.2.2.2.2.2.2.1))).trans (hHeld.2.2.2.2.2.2.1)
            have HS7_ := (hb.cell (World.block_lt_of_cell? _ _ (hHeld.2.2.2.2.2.2.2.1))).trans (hHeld.2.2.2.2.2.2.2.1)
            have HS8_ := (hb.cell (World.block_lt_of_cell? _ _ (hHeld.2.2.2.2.2.2.2.2.1))).trans (hHeld.2.2.2.2.2.2.2.2.1)
            have HS9_ := (hb.cell (World.block_lt_of_cell? _ _ (hHeld.2.2.2.2.2.2.2.2.2.1))).trans (hHeld.2.2.2.2.2.2.2.2.2.1)
            have HS10_ := (hb.cell (World.block_lt_of_cell? _ _ (hHeld.2.2.2.2.2.2.2.2.2.2.1))).trans (hHeld.2.2.2.2.2.2.2.2.2.2.1)
            have HS11_ := (hb.cell (World.block_lt_of_cell? _ _ (hHeld.2.2.2.2.2.2.2.2.2.2.2))).trans (hHeld.2.2.2.2.2.2.2.2.2.2.2)
            refine ⟨_, rfl, ?_⟩
            replace HO_6 := Aside0.mk (Kd.R_below Z6 hb)
            replace BK367 := Aside0.mk (blk_below (g := gb367) (o := .cells #[.int .i64 ((rd_T52 l1 x7_1).f0.f0), .int .i64 ((rd_T52 l1 x7_1).f0.f1), .int .u64 ((rd_T52 l1 x7_1).f1), .int .i64 ((rd_T52 l1 x7_1).f2)] 52 (0, 0)) (bo_ BK367) hb)
            replace HB := hs_ hb
            (try clear hb)
            (try clear hb2)
            (try clear hk)
            (try clear hi)
            refine hK.out _ _ ⟨(blk_cell BK367.out 0).trans rfl, (blk_cell BK367.out 1).trans rfl, (blk_cell BK367.out 2).trans rfl, (blk_cell BK367.out 3).trans rfl, HS4_, HS5_, HS6_, HS7_, HS8_, HS9_, HS10_, HS11_⟩ (fun hHeld => ?_)
            clear hK K
            refine norm_ (a' := ?_) ?_ ?_
            rotate_left
            ·show Act.put _ (some 39) _ = _
             simp only [Act.put, List.setIfInBounds_toArray, List.set_cons_zero, List.set_cons_succ, i64_w, i32_w]
             rfl
            refine one_ (i := 10) (N := some 42) (bm 23 2047) rfl rfl (one_of HT_.out (by kernel_rfl)) (by decide) (fun K hK => ?_)
            refine goes_ Try.func82 (by kernel_rfl) rfl #[.int .u64 ((rd_T52 l1 x7_1).f1)] (by rfl) rfl rfl Z0 ?_
            with_reducible refine (ensembleref01_Units.calls k1 ((rd_T52 l1 x7_1).f1) t371 _ A21.out).mono ?_
            rintro e w38 ⟨v372, rfl, ho0, hb⟩
            have HS4_ := (hb.cell (World.block_lt_of_cell? _ _ (hHeld.2.2.2.2.1))).trans (hHeld.2.2.2.2.1)
            have HS5_ := (hb.cell (World.block_lt_of_cell? _ _ (hHeld.2.2.2.2.2.1))).trans (hHeld.2.2.2.2.2.1)
            have HS6_ := (hb.cell (World.block_lt_of_cell? _ _ (hHeld.2.2.2.2.2.2.1))).trans (hHeld.2.2.2.2.2.2.1)
            have HS7_ := (hb.cell (World.block_lt_of_cell? _ _ (hHeld.2.2.2.2.2.2.2.1))).trans (hHeld.2.2.2.2.2.2.2.1)
            have HS8_ := (hb.cell (World.block_lt_of_cell? _ _ (hHeld.2.2.2.2.2.2.2.2.1))).trans (hHeld.2.2.2.2.2.2.2.2.1)
            have HS9_ := (hb.cell (World.block_lt_of_cell? _ _ (hHeld.2.2.2.2.2.2.2.2.2.1))).trans (hHeld.2.2.2.2.2.2.2.2.2.1)
            have HS10_ := (hb.cell (World.block_lt_of_cell? _ _ (hHeld.2.2.2.2.2.2.2.2.2.2.1))).trans (hHeld.2.2.2.2.2.2.2.2.2.2.1)
            have HS11_ := (hb.cell (World.block_lt_of_cell? _ _ (hHeld.2.2.2.2.2.2.2.2.2.2.2))).trans (hHeld.2.2.2.2.2.2.2.2.2.2.2)
            refine ⟨_, rfl, ?_⟩
            have HO373 := Aside0.mk (Kd.R_lower ho0 (below_size hb_))
            replace HO_6 := Aside0.mk (Kd.R_below Z6 hb)
            replace BK367 := Aside0.mk (blk_below (g := gb367) (o := .cells #[.int .i64 ((rd_T52 l1 x7_1).f0.f0), .int .i64 ((rd_T52 l1 x7_1).f0.f1), .int .u64 ((rd_T52 l1 x7_1).f1), .int .i64 ((rd_T52 l1 x7_1).f2)] 52 (0, 0)) (bo_ BK367) hb)
            replace HB := hs_ hb
            (try clear hb)
            (try clear hb2)
            (try clear hk)
            (try clear hi)
            (try clear ho0)
            obtain ⟨Ao39, co39, eo39⟩ := Kd.R_slice HO373.out
            (first | subst eo39 | (injection eo39 with f1_ f2_ f3_; have f4_ := f1_.symm; have f5_ := f3_.symm; clear f1_ f2_ f3_; subst f4_; subst f5_))
            refine hK.out _ _ ⟨(blk_cell BK367.out 0).trans rfl, (blk_cell BK367.out 1).trans rfl, (blk_cell BK367.out 2).trans rfl, (blk_cell BK367.out 3).trans rfl, HS4_, HS5_, HS6_, HS7_, HS8_, HS9_, HS10_, HS11_⟩ (fun hHeld => ?_)
            clear hK K
            refine norm_ (a' := ?_) ?_ ?_
            rotate_left
            ·show Act.put _ (some 42) _ = _
             simp only [Act.put, List.setIfInBounds_toArray, List.set_cons_zero, List.set_cons_succ, i64_w, i32_w]
             rfl
            refine pu 11 (some 43) (bm 23 4095) ?_
            refine pu 12 (some 44) (bm 23 8191) ?_
            refine pu 13 (some 45) (bm 23 16383) ?_
            refine pu 14 (some 46) (bm 23 32767) ?_
            refine pu 16 (some 48) (bm 23 98303) ?_
            refine pu 17 (some 49) (bm 23 229375) ?_
            refine pu 18 (some 50) (bm 23 491519) ?_
            refine pu 19 (some 51) (bm 23 1015807) ?_
            refine tk12 15 (some 47) (bm 23 1048575) ?_
            refine tk12 20 (some 52) (bm 23 2097151) ?_
            refine pu 21 (some 53) (bm 23 4194303) ?_
            refine pu 22 (some 54) (bm 23 8388607) ?_
            refine done_ (done_of HT_.out (by kernel_rfl)) ?_
            try go_wp2
            go_ret2
            exact ⟨_, by first | rfl | (simp [errW_none, errW_some] <;> rfl) | (simp [*, errW_none, errW_some] <;> rfl), by first | exact Kd.R_nil _ _ _ _ _ | exact Kd.N_nil _ _ _ _ _ | exact Kd.V_nil _ _ _ _ _ | exact Kd.Q_nil _ _ _ _ _ | exact Kd.S_nil _ _ _ _ _, hb_⟩
           ·rw [if_neg c31] at H
            have c31b0 : decide (((rd_T51 x6_1 t368).f2) < ((rd_T52 l1 x7_1).f2)) = false := decide_eq_false c31
            clear c31
            obtain ⟨y376, hy376⟩ : ∃ y_ : List (S51), y_ = (x6_1.set (t368 : Int).toNat (⟨(⟨(rd_T51 x6_1 t368).f0.f0, (rd_T51 x6_1 t368).f0.f1⟩ : S48), IntKind.u64.wrap (((rd_T51 x6_1 t368).f1) - ((rd_T52 l1 x7_1).f1)), (rd_T51 x6_1 t368).f2⟩ : S51)) := ⟨_, rfl⟩
            replace H : (ensembleref05_Less.l0 k1 l1 (y376.set (t368 : Int).toNat (⟨(⟨(rd_T51 y376 t368).f0.f0, (rd_T51 y376 t368).f0.f1⟩ : S48), (rd_T51 y376 t368).f1, wrap64 (((rd_T51 y376 t368).f2) - ((rd_T52 l1 x7_1).f2))⟩ : S51)) (wrap64 (x7_1 + 1))) = some (r1, r2) := by first | (rw [hy376]; with_reducible exact H) | (have H2_ := (Option.bind_some _ _).symm.trans H; rw [hy376]; with_reducible exact H2_) | (have H2_ := (Option.bind_some _ _).symm.trans H; with_reducible exact H2_) | with_reducible exact H | (rw [hy376]; exact H) | exact H
            have Ny376 := Aside0.mk hy376
            clear hy376
            obtain ⟨y378, hy378⟩ : ∃ y_ : List (S51), y_ = (y376.set (t368 : Int).toNat (⟨(⟨(rd_T51 y376 t368).f0.f0, (rd_T51 y376 t368).f0.f1⟩ : S48), (rd_T51 y376 t368).f1, wrap64 (((rd_T51 y376 t368).f2) - ((rd_T52 l1 x7_1).f2))⟩ : S51)) := ⟨_, rfl⟩
            replace H : (ensembleref05_Less.l0 k1 l1 y378 (wrap64 (x7_1 + 1))) = some (r1, r2) := by first | (rw [hy378]; with_reducible exact H) | (have H2_ := (Option.bind_some _ _).symm.trans H; rw [hy378]; with_reducible exact H2_) | (have H2_ := (Option.bind_some _ _).symm.trans H; with_reducible exact H2_) | with_reducible exact H | (rw [hy378]; exact H) | exact H
            have Ny378 := Aside0.mk hy378
            clear hy378
            have H' := Aside0.mk H
            clear H
            have p366 : 0 ≤ (x7_1 : Int) := of_decide_eq_true Z1
            have q366 : x7_1 < (l1.length : Int) := of_decide_eq_true Z1
            obtain ⟨ad366, e366, hx366_0, hx366_1, hx366_2, hx366_3⟩ := at_T52 HR1.out x7_1 p366 q366
            cases e366
            replace hx366_0 := cx_ hx366_0
            replace hx366_1 := cx_ hx366_1
            replace hx366_2 := cx_ hx366_2
            replace hx366_3 := cx_ hx366_3
            replace p366 := eq_true p366
            replace q366 := eq_true q366
            try go_wp2_with (first | ((with_reducible refine gate_dst (N := 8) rfl ?_); refine bx 8 #[.int .i64 0, .int .i64 0, .int .u64 0, .int .i64 0] 52 ?_; intro gb367 hg w42 hbox hb; have BK367 := Aside0.mk (hbox); have GW367 := ge_ hg; have GE367 := ge_ hg; replace HO_6 := Aside0.mk (Kd.R_below Z6 hb); replace HB := hs_ hb; clear hb hbox hg; obtain ⟨hcz43_0, hcz43_1, hcz43_2, hcz43_3, hfz43_0, hfz43_1, hfz43_2, hfz43_3⟩ := bz4_ BK367; obtain ⟨Ao44, co44, eo44⟩ := Kd.R_slice HO_6.out; subst eo44) | ((with_reducible refine gate_callee (f := 79) rfl ?_); refine goesL_ (some 29) rfl rfl Try.func79 (by kernel_rfl) rfl #[.slice Ao44 x6_1.length co44, .agg #[.int .i64 ((rd_T52 l1 x7_1).f0.f0), .int .i64 ((rd_T52 l1 x7_1).f0.f1)]] rfl Z0 ?_; (with_reducible refine (ensembleref05_find.calls k1 _ _ x6_1 ((rd_T52 l1 x7_1).f0.f0) ((rd_T52 l1 x7_1).f0.f1) t368 _ ?side1 ?side2 A12.out).mono ?_); (case side1 => refine (Kd.R_reads' (e := 51) (base := w.heap.size) (ok := fun k_ => True) (n := x6_1.length) (c := co44) ?_).2.2; exact Z2); (case side2 => exact (Kd.R_reads' HO_6.out).2.1); rintro e w45 ⟨rfl, hb⟩; refine ⟨_, rfl, ?_⟩; replace HO_6 := Aside0.mk (Kd.R_below Z2 hb); replace BK367 := Aside0.mk (blk_below (g := gb367) (o := .cells #[.int .i64 ((rd_T52 l1 x7_1).f0.f0), .int .i64 ((rd_T52 l1 x7_1).f0.f1), .int .u64 ((rd_T52 l1 x7_1).f1), .int .i64 ((rd_T52 l1 x7_1).f2)] 52 (0, 0)) (by (with_reducible repeat (first | refine blk_drewN ?_ _ | refine blk_drew ?_ | refine blk_alloc ?_ _)); refine blk_put (cs := #[.int .i64 ((rd_T52 l1 x7_1).f0.f0), .int .i64 ((rd_T52 l1 x7_1).f0.f1), .int .u64 ((rd_T52 l1 x7_1).f1), .int .i64 0]) ?_ 3 _ rfl; (with_reducible repeat (first | refine blk_drewN ?_ _ | refine blk_drew ?_ | refine blk_alloc ?_ _)); refine blk_put (cs := #[.int .i64 ((rd_T52 l1 x7_1).f0.f0), .int .i64 ((rd_T52 l1 x7_1).f0.f1), .int .u64 0, .int .i64 0]) ?_ 2 _ rfl; (with_reducible repeat (first | refine blk_drewN ?_ _ | refine blk_drew ?_ | refine blk_alloc ?_ _)); refine blk_put (cs := #[.int .i64 ((rd_T52 l1 x7_1).f0.f0), .int .i64 0, .int .u64 0, .int .i64 0]) ?_ 1 _ rfl; (with_reducible repeat (first | refine blk_drewN ?_ _ | refine blk_drew ?_ | refine blk_alloc ?_ _)); refine blk_put (cs := #[.int .i64 0, .int .i64 0, .int .u64 0, .int .i64 0]) ?_ 0 _ rfl; (with_reducible repeat (first | refine blk_drewN ?_ _ | refine blk_drew ?_ | refine blk_alloc ?_ _)); exact BK367.out) hb); replace HB := hs_ hb; (try clear hb); (try clear hb2); (try clear hk); (try clear hi)))
            replace HO_6 := Aside0.mk (Kd.R_drew HO_6.out)
            replace BK367 := Aside0.mk (blk_drew BK367.out)
            replace HB := Aside0.mk (below_drew1 HB.out)
            have p369 : 0 ≤ (t368 : Int) := of_decide_eq_true Z1
            have q369 : t368 < (x6_1.length : Int) := of_decide_eq_true Z1
            obtain ⟨ad369, e369, hx369_0, hx369_1, hx369_2, hx369_3⟩ := at_T51 (Kd.R_reads' HO_6.out).2.2 t368 p369 q369
            cases e369
            replace p369 := eq_true p369
            replace q369 := eq_true q369
            have p374 : 0 ≤ (t368 : Int) := of_decide_eq_true Z1
            have q374 : t368 < (x6_1.length : Int) := of_decide_eq_true Z1
            obtain ⟨ad374, e374, hx374_0, hx374_1, hx374_2, hx374_3⟩ := at_T51 (Kd.R_reads' HO_6.out).2.2 t368 p374 q374
            obtain rfl : ad369 = ad374 := (by injection e374)
            replace p374 := eq_true p374
            replace q374 := eq_true q374
            refine start_ (n := 23) (S := fun w' => w'.cell? ⟨gb367, 0, none⟩ = some (.int .i64 ((rd_T52 l1 x7_1).f0.f0)) ∧ w'.cell? ⟨gb367, 1, none⟩ = some (.int .i64 ((rd_T52 l1 x7_1).f0.f1)) ∧ w'.cell? ⟨gb367, 2, none⟩ = some (.int .u64 ((rd_T52 l1 x7_1).f1)) ∧ w'.cell? ⟨gb367, 3, none⟩ = some (.int .i64 ((rd_T52 l1 x7_1).f2)) ∧ w'.cell? (ad369.add ((t368).toNat * 4)) = some (.int .i64 ((rd_T51 x6_1 t368).f0.f0)) ∧ w'.cell? ⟨(ad369.add ((t368).toNat * 4)).block, (ad369.add ((t368).toNat * 4)).off + 1, none⟩ = some (.int .i64 ((rd_T51 x6_1 t368).f0.f1)) ∧ w'.cell? ⟨(ad369.add ((t368).toNat * 4)).block, (ad369.add ((t368).toNat * 4)).off + 2, none⟩ = some (.int .u64 ((rd_T51 x6_1 t368).f1)) ∧ w'.cell? ⟨(ad369.add ((t368).toNat * 4)).block, (ad369.add ((t368).toNat * 4)).off + 3, none⟩ = some (.int .i64 ((rd_T51 x6_1 t368).f2)) ∧ w'.cell? (ad369.add ((t368).toNat * 4)) = some (.int .i64 ((rd_T51 x6_1 t368).f0.f0)) ∧ w'.cell? ⟨(ad369.add ((t368).toNat * 4)).block, (ad369.add ((t368).toNat * 4)).off + 1, none⟩ = some (.int .i64 ((rd_T51 x6_1 t368).f0.f1)) ∧ w'.cell? ⟨(ad369.add ((t368).toNat * 4)).block, (ad369.add ((t368).toNat * 4)).off + 2, none⟩ = some (.int .u64 ((rd_T51 x6_1 t368).f1)) ∧ w'.cell? ⟨(ad369.add ((t368).toNat * 4)).block, (ad369.add ((t368).toNat * 4)).off + 3, none⟩ = some (.int .i64 ((rd_T51 x6_1 t368).f2))) (ds := []) (bm 23 0) (by kernel_rfl) rfl rfl ⟨(blk_cell BK367.out 0).trans rfl, (blk_cell BK367.out 1).trans rfl, (blk_cell BK367.out 2).trans rfl, (blk_cell BK367.out 3).trans rfl, hx369_0, hx369_1, hx369_2, hx369_3, hx374_0, hx374_1, hx374_2, hx374_3⟩ (fun hHeld => ?_); refine with_tabW ensembleref05_Less.tab11 ensembleref05_Less.bits11 (fun HT_ HW_ => ?_)
            generalize w45.drew = w46 at HO_6 BK367 HB hx369_0 hx369_1 hx369_2 hx369_3 hx374_0 hx374_1 hx374_2 hx374_3 hHeld ⊢
            refine pu 0 (some 32) (bm 23 1) ?_
            refine pu 2 (some 34) (bm 23 5) ?_
            refine pu 3 (some 35) (bm 23 13) ?_
            refine pu 4 (some 36) (bm 23 29) ?_
            refine pu 5 (some 37) (bm 23 61) ?_
            refine pu 8 (some 40) (bm 23 317) ?_
            refine tk12 1 (some 33) (bm 23 319) ?_
            refine tk12 6 (some 38) (bm 23 383) ?_
            refine tk12 9 (some 41) (bm 23 895) ?_
            refine one_ (i := 7) (N := some 39) (bm 23 1023) rfl rfl (one_of HT_.out (by kernel_rfl)) (by decide) (fun K hK => ?_)
            refine goes_ Try.func80 (by kernel_rfl) rfl #[.int .u64 ((rd_T52 l1 x7_1).f1), .int .u64 ((rd_T51 x6_1 t368).f1)] (by rfl) rfl rfl Z0 ?_
            with_reducible refine (ensembleref05_masks.calls k1 ((rd_T52 l1 x7_1).f1) ((rd_T51 x6_1 t368).f1) t370 _ A20.out).mono ?_
            rintro e w47 ⟨rfl, hb⟩
            have HS4_ := (hb.cell (World.block_lt_of_cell? _ _ (hHeld.2.2.2.2.1))).trans (hHeld.2.2.2.2.1)
            have HS5_ := (hb.cell (World.block_lt_of_cell? _ _ (hHeld.2.2.2.2.2.1))).trans (hHeld.2.2.2.2.2.1)
            have HS6_ := (hb.cell (World.block_lt_of_cell? _ _ (hHeld.2.2.2.2.2.2.1))).trans (hHeld.2.2.2.2.2.2.1)
            have HS7_ := (hb.cell (World.block_lt_of_cell? _ _ (hHeld.2.2.2.2.2.2.2.1))).trans (hHeld.2.2.2.2.2.2.2.1)
            have HS8_ := (hb.cell (World.block_lt_of_cell? _ _ (hHeld.2.2.2.2.2.2.2.2.1))).trans (hHeld.2.2.2.2.2.2.2.2.1)
            have HS9_ := (hb.cell (World.block_lt_of_cell? _ _ (hHeld.2.2.2.2.2.2.2.2.2.1))).trans (hHeld.2.2.2.2.2.2.2.2.2.1)
            have HS10_ := (hb.cell (World.block_lt_of_cell? _ _ (hHeld.2.2.2.2.2.2.2.2.2.2.1))).trans (hHeld.2.2.2.2.2.2.2.2.2.2.1)
            have HS11_ := (hb.cell (World.block_lt_of_cell? _ _ (hHeld.2.2.2.2.2.2.2.2.2.2.2))).trans (hHeld.2.2.2.2.2.2.2.2.2.2.2)
            refine ⟨_, rfl, ?_⟩
            replace HO_6 := Aside0.mk (Kd.R_below Z6 hb)
            replace BK367 := Aside0.mk (blk_below (g := gb367) (o := .cells #[.int .i64 ((rd_T52 l1 x7_1).f0.f0), .int .i64 ((rd_T52 l1 x7_1).f0.f1), .int .u64 ((rd_T52 l1 x7_1).f1), .int .i64 ((rd_T52 l1 x7_1).f2)] 52 (0, 0)) (bo_ BK367) hb)
            replace HB := hs_ hb
            (try clear hb)
            (try clear hb2)
            (try clear hk)
            (try clear hi)
            refine hK.out _ _ ⟨(blk_cell BK367.out 0).trans rfl, (blk_cell BK367.out 1).trans rfl, (blk_cell BK367.out 2).trans rfl, (blk_cell BK367.out 3).trans rfl, HS4_, HS5_, HS6_, HS7_, HS8_, HS9_, HS10_, HS11_⟩ (fun hHeld => ?_)
            clear hK K
            refine norm_ (a' := ?_) ?_ ?_
            rotate_left
            ·show Act.put _ (some 39) _ = _
             simp only [Act.put, List.setIfInBounds_toArray, List.set_cons_zero, List.set_cons_succ, i64_w, i32_w]
             rfl
            refine one_ (i := 10) (N := some 42) (bm 23 2047) rfl rfl (one_of HT_.out (by kernel_rfl)) (by decide) (fun K hK => ?_)
            refine goes_ Try.func82 (by kernel_rfl) rfl #[.int .u64 ((rd_T52 l1 x7_1).f1)] (by rfl) rfl rfl Z0 ?_
            with_reducible refine (ensembleref01_Units.calls k1 ((rd_T52 l1 x7_1).f1) t371 _ A21.out).mono ?_
            rintro e w48 ⟨v372, rfl, ho0, hb⟩
            have HS4_ := (hb.cell (World.block_lt_of_cell? _ _ (hHeld.2.2.2.2.1))).trans (hHeld.2.2.2.2.1)
            have HS5_ := (hb.cell (World.block_lt_of_cell? _ _ (hHeld.2.2.2.2.2.1))).trans (hHeld.2.2.2.2.2.1)
            have HS6_ := (hb.cell (World.block_lt_of_cell? _ _ (hHeld.2.2.2.2.2.2.1))).trans (hHeld.2.2.2.2.2.2.1)
            have HS7_ := (hb.cell (World.block_lt_of_cell? _ _ (hHeld.2.2.2.2.2.2.2.1))).trans (hHeld.2.2.2.2.2.2.2.1)
            have HS8_ := (hb.cell (World.block_lt_of_cell? _ _ (hHeld.2.2.2.2.2.2.2.2.1))).trans (hHeld.2.2.2.2.2.2.2.2.1)
            have HS9_ := (hb.cell (World.block_lt_of_cell? _ _ (hHeld.2.2.2.2.2.2.2.2.2.1))).trans (hHeld.2.2.2.2.2.2.2.2.2.1)
            have HS10_ := (hb.cell (World.block_lt_of_cell? _ _ (hHeld.2.2.2.2.2.2.2.2.2.2.1))).trans (hHeld.2.2.2.2.2.2.2.2.2.2.1)
            have HS11_ := (hb.cell (World.block_lt_of_cell? _ _ (hHeld.2.2.2.2.2.2.2.2.2.2.2))).trans (hHeld.2.2.2.2.2.2.2.2.2.2.2)
            refine ⟨_, rfl, ?_⟩
            have HO373 := Aside0.mk (Kd.R_lower ho0 (below_size hb_))
            replace HO_6 := Aside0.mk (Kd.R_below Z6 hb)
            replace BK367 := Aside0.mk (blk_below (g := gb367) (o := .cells #[.int .i64 ((rd_T52 l1 x7_1).f0.f0), .int .i64 ((rd_T52 l1 x7_1).f0.f1), .int .u64 ((rd_T52 l1 x7_1).f1), .int .i64 ((rd_T52 l1 x7_1).f2)] 52 (0, 0)) (bo_ BK367) hb)
            replace HB := hs_ hb
            (try clear hb)
            (try clear hb2)
            (try clear hk)
            (try clear hi)
            (try clear ho0)
            obtain ⟨Ao49, co49, eo49⟩ := Kd.R_slice HO373.out
            (first | subst eo49 | (injection eo49 with f1_ f2_ f3_; have f4_ := f1_.symm; have f5_ := f3_.symm; clear f1_ f2_ f3_; subst f4_; subst f5_))
            refine hK.out _ _ ⟨(blk_cell BK367.out 0).trans rfl, (blk_cell BK367.out 1).trans rfl, (blk_cell BK367.out 2).trans rfl, (blk_cell BK367.out 3).trans rfl, HS4_, HS5_, HS6_, HS7_, HS8_, HS9_, HS10_, HS11_⟩ (fun hHeld => ?_)
            clear hK K
            refine norm_ (a' := ?_) ?_ ?_
            rotate_left
            ·show Act.put _ (some 42) _ = _
             simp only [Act.put, List.setIfInBounds_toArray, List.set_cons_zero, List.set_cons_succ, i64_w, i32_w]
             rfl
            refine pu 11 (some 43) (bm 23 4095) ?_
            refine pu 12 (some 44) (bm 23 8191) ?_
            refine pu 13 (some 45) (bm 23 16383) ?_
            refine pu 14 (some 46) (bm 23 32767) ?_
            refine pu 16 (some 48) (bm 23 98303) ?_
            refine pu 17 (some 49) (bm 23 229375) ?_
            refine pu 18 (some 50) (bm 23 491519) ?_
            refine pu 19 (some 51) (bm 23 1015807) ?_
            refine tk12 15 (some 47) (bm 23 1048575) ?_
            refine tk12 20 (some 52) (bm 23 2097151) ?_
            refine pu 21 (some 53) (bm 23 4194303) ?_
            refine pu 22 (some 54) (bm 23 8388607) ?_
            refine done_ (done_of HT_.out (by kernel_rfl)) ?_
            try go_wp2
            replace HO_6 := Aside0.mk (Kd.R_drew HO_6.out)
            replace HO373 := Aside0.mk (Kd.R_drew HO373.out)
            replace BK367 := Aside0.mk (blk_drew BK367.out)
            replace HB := Aside0.mk (below_drew1 HB.out)
            have p375 : 0 ≤ (t368 : Int) := of_decide_eq_true Z1
            have q375 : t368 < (x6_1.length : Int) := of_decide_eq_true Z1
            obtain ⟨ad375, e375, hx375_0, hx375_1, hx375_2, hx375_3⟩ := at_T51 (Kd.R_reads' HO_6.out).2.2 t368 p375 q375
            obtain rfl : ad369 = ad375 := (by injection e375)
            replace p375 := eq_true p375
            replace q375 := eq_true q375
            have p40 : 0 ≤ (t368 : Int) := of_decide_eq_true Z1
            have q40 : (t368 : Int) < ((x6_1.length : Int) : Int) := of_decide_eq_true Z1
            obtain ⟨go40, co40, eo40, gb40, gl40, cl40, HG40⟩ := Kd.R_form HO_6.out (by omega)
            (first | cases eo40 | (injection eo40 with ea_ en_ ec_; (first | subst ea_ | (injection ea_ with ea_; subst ea_)); subst ec_; clear en_))
            have GB40 := Aside0.mk gb40
            have GG40 := Aside0.mk HG40
            clear gb40 gl40 HG40
            (first | simp only [add_plain] at hx369_0 | skip)
            (first | simp only [add_plain] at hx369_1 | skip)
            (first | simp only [add_plain] at hx369_2 | skip)
            (first | simp only [add_plain] at hx369_3 | skip)
            (first | simp only [add_plain] at hx374_0 | skip)
            (first | simp only [add_plain] at hx374_1 | skip)
            (first | simp only [add_plain] at hx374_2 | skip)
            (first | simp only [add_plain] at hx374_3 | skip)
            (first | simp only [add_plain] at hx375_0 | skip)
            (first | simp only [add_plain] at hx375_1 | skip)
            (first | simp only [add_plain] at hx375_2 | skip)
            (first | simp only [add_plain] at hx375_3 | skip)
            obtain ⟨ce40, hcl40, hM40, hcc40, hfr40⟩ := Kd.R_elem HO_6.out z51 (t368 : Int) p40 q40
            obtain rfl := k51_openM hM40
            have hx40_0 : World.cell? _ ⟨go40, (t368 : Int).toNat * 4, none⟩ = some (.int .i64 ((rd_T51 x6_1 t368).f0.f0)) := hcc40 0 _ rfl
            have hx40_1 : World.cell? _ ⟨go40, (t368 : Int).toNat * 4 + 1, none⟩ = some (.int .i64 ((rd_T51 x6_1 t368).f0.f1)) := hcc40 1 _ rfl
            have hx40_2 : World.cell? _ ⟨go40, (t368 : Int).toNat * 4 + 2, none⟩ = some (.int .u64 ((rd_T51 x6_1 t368).f1)) := hcc40 2 _ rfl
            have hx40_3 : World.cell? _ ⟨go40, (t368 : Int).toNat * 4 + 3, none⟩ = some (.int .i64 ((rd_T51 x6_1 t368).f2)) := hcc40 3 _ rfl
            have hf40_0 : World.frozen? _ ⟨go40, (t368 : Int).toNat * 4, none⟩ = false := hfr40 0
            have hf40_1 : World.frozen? _ ⟨go40, (t368 : Int).toNat * 4 + 1, none⟩ = false := hfr40 1
            have hf40_2 : World.frozen? _ ⟨go40, (t368 : Int).toNat * 4 + 2, none⟩ = false := hfr40 2
            have hf40_3 : World.frozen? _ ⟨go40, (t368 : Int).toNat * 4 + 3, none⟩ = false := hfr40 3
            clear hcl40 hcc40 hfr40 hM40
            replace p40 := eq_true p40
            replace q40 := eq_true q40
            obtain ⟨ce51, hcl51, hM51, hcc51, hfr51⟩ := Kd.R_elem HO_6.out z51 (t368 : Int) (of_decide_eq_true Z1) (by have h_ : (t368 : Int) < ((x6_1.length : Int) : Int) := of_decide_eq_true Z1; first | exact h_ | (have e_ := (Kd.R_reads' HO_6.out).1; omega) | simpa using h_)
            obtain rfl := k51_openM hM51
            have HP51 := (Kd.R_seg HO_6.out (t368 : Int) (of_decide_eq_true Z1) (by have h_ : (t368 : Int) < ((x6_1.length : Int) : Int) := of_decide_eq_true Z1; first | exact h_ | (have e_ := (Kd.R_reads' HO_6.out).1; omega) | simpa using h_) (seg := [.int .u64 (IntKind.u64.wrap (((rd_T51 x6_1 t368).f1) - ((rd_T52 l1 x7_1).f1)))]) (j := 2) hcl51 hcc51 (show 3 ≤ 4 from by decide) (x' := (⟨(⟨(rd_T51 x6_1 t368).f0.f0, (rd_T51 x6_1 t368).f0.f1⟩ : S48), IntKind.u64.wrap (((rd_T51 x6_1 t368).f1) - ((rd_T52 l1 x7_1).f1)), (rd_T51 x6_1 t368).f2⟩ : S51)) (k51_mkM _ _ _ (⟨(⟨(rd_T51 x6_1 t368).f0.f0, (rd_T51 x6_1 t368).f0.f1⟩ : S48), IntKind.u64.wrap (((rd_T51 x6_1 t368).f1) - ((rd_T52 l1 x7_1).f1)), (rd_T51 x6_1 t368).f2⟩ : S51) ) (fun _ hk => hk)).1
            rw [← Ny376.out] at HP51
            have HQ51 := Aside0.mk HP51
            clear hcl51 hcc51 hfr51 hM51 HP51
            refine start_ (n := 13) (S := fun w' => w'.cell? ⟨gb367, 0, none⟩ = some (.int .i64 ((rd_T52 l1 x7_1).f0.f0)) ∧ w'.cell? ⟨gb367, 1, none⟩ = some (.int .i64 ((rd_T52 l1 x7_1).f0.f1)) ∧ w'.cell? ⟨gb367, 2, none⟩ = some (.int .u64 ((rd_T52 l1 x7_1).f1)) ∧ w'.cell? ⟨gb367, 3, none⟩ = some (.int .i64 ((rd_T52 l1 x7_1).f2)) ∧ w'.cell? ⟨go40, ((t368).toNat * 4), none⟩ = some (.int .i64 ((rd_T51 x6_1 t368).f0.f0)) ∧ w'.cell? ⟨go40, ((t368).toNat * 4) + 1, none⟩ = some (.int .i64 ((rd_T51 x6_1 t368).f0.f1)) ∧ w'.cell? ⟨go40, ((t368).toNat * 4) + 2, none⟩ = some (.int .u64 ((rd_T51 x6_1 t368).f1)) ∧ w'.cell? ⟨go40, ((t368).toNat * 4) + 3, none⟩ = some (.int .i64 ((rd_T51 x6_1 t368).f2))) (ds := [12]) (bm 13 0) (by kernel_rfl) rfl rfl ⟨(blk_cell BK367.out 0).trans rfl, (blk_cell BK367.out 1).trans rfl, (blk_cell BK367.out 2).trans rfl, (blk_cell BK367.out 3).trans rfl, hx375_0, hx375_1, hx375_2, hx375_3⟩ (fun hHeld => ?_); refine with_tabW ensembleref05_Less.tab13 ensembleref05_Less.bits13 (fun HT_ HW_ => ?_)
            generalize w48.drew = w50 at HO_6 HO373 BK367 HB GG40 HQ51 hf40_0 hf40_1 hf40_2 hf40_3 hx369_0 hx369_1 hx369_2 hx369_3 hx374_0 hx374_1 hx374_2 hx374_3 hx375_0 hx375_1 hx375_2 hx375_3 hx40_0 hx40_1 hx40_2 hx40_3 hHeld ⊢
            refine pu 0 (some 55) (bm 13 1) ?_
            refine pu 1 (some 56) (bm 13 3) ?_
            refine pu 2 (some 57) (bm 13 7) ?_
            refine pu 3 (some 58) (bm 13 15) ?_
            refine pu 4 (some 59) (bm 13 31) ?_
            refine pu 5 (some 60) (bm 13 63) ?_
            refine pu 7 (some 62) (bm 13 191) ?_
            refine tk8 6 (some 61) (bm 13 255) ?_
            refine tk8 8 (some 63) (bm 13 511) ?_
            refine pu 9 (some 64) (bm 13 1023) ?_
            refine pu 10 (some 65) (bm 13 2047) ?_
            refine pu 11 (some 66) (bm 13 4095) ?_
            refine last_ (i := 12) (N := none) (bm 13 8191) rfl rfl (one_of HT_.out (by kernel_rfl)) (by decide) (fun K hK => ?_)
            refine skip_ (w1 := ?_) (by rfl) rfl ?_ ?_
            rotate_left
            ·go_simp
             rfl
            refine hK.out _ _ ?_
            clear hK K
            refine done_ (done_of HT_.out (by kernel_rfl)) ?_
            try go_wp2
            have n0_ : Aside0 (Kd.R k51 51 (w50.setCell ⟨go40, (t368 : Int).toNat * 4 + 2, none⟩ (.int .u64 (IntKind.u64.wrap (((rd_T51 x6_1 t368).f1) - ((rd_T52 l1 x7_1).f1))))) w.heap.size (fun _ => True) (.slice (some ⟨go40, 0, none⟩) x6_1.length co44) y376) := ⟨by (with_reducible repeat (first | apply Kd.R_alloc | apply Kd.R_drewN | apply Kd.R_drew)); exact HQ51.out⟩
            have n1_ : Aside0 (Kd.R (Kd.int .i64) 3 (w50.setCell ⟨go40, (t368 : Int).toNat * 4 + 2, none⟩ (.int .u64 (IntKind.u64.wrap (((rd_T51 x6_1 t368).f1) - ((rd_T52 l1 x7_1).f1))))) w.heap.size (fun _ => True) (.slice Ao49 t371.length co49) t371) := ⟨by (with_reducible repeat (first | apply Kd.R_alloc | apply Kd.R_drewN | apply Kd.R_drew)); exact Kd.R_mono (Kd.R_far (p := ⟨go40, (t368 : Int).toNat * 4 + 2, none⟩) (Kd.R_types HO373.out GG40.out (by decide)) (fun _ hk => hk.2) (.int .u64 (IntKind.u64.wrap (((rd_T51 x6_1 t368).f1) - ((rd_T52 l1 x7_1).f1))))) (fun _ hk => trivial)⟩
            have n2_ : Aside0 ((w50.setCell ⟨go40, (t368 : Int).toNat * 4 + 2, none⟩ (.int .u64 (IntKind.u64.wrap (((rd_T51 x6_1 t368).f1) - ((rd_T52 l1 x7_1).f1))))).heap[gb367]? = some (.cells #[.int .i64 ((rd_T52 l1 x7_1).f0.f0), .int .i64 ((rd_T52 l1 x7_1).f0.f1), .int .u64 ((rd_T52 l1 x7_1).f1), .int .i64 ((rd_T52 l1 x7_1).f2)] 52 (0, 0))) := ⟨by (with_reducible repeat (first | refine blk_drewN ?_ _ | refine blk_drew ?_ | refine blk_alloc ?_ _)); refine blk_far ?_ (by have h_ := Kd.R_ne HO_6.out BK367.out (by decide); intro e_; exact h_ (by rw [e_]; rfl)) _; (with_reducible repeat (first | refine blk_drewN ?_ _ | refine blk_drew ?_ | refine blk_alloc ?_ _)); exact BK367.out⟩
            have n3_ : Aside0 (Below w.heap.size w (w50.setCell ⟨go40, (t368 : Int).toNat * 4 + 2, none⟩ (.int .u64 (IntKind.u64.wrap (((rd_T51 x6_1 t368).f1) - ((rd_T52 l1 x7_1).f1)))))) := ⟨by repeat (first | (with_reducible first | exact HB.out | apply below_alloc | apply pw_below_drewN | apply below_drew1 | refine below_set ?_ GB40.out | refine below_set ?_ GE367.out) | exact HB.out)⟩
            (try clear HO_6)
            (try clear HO373)
            (try clear BK367)
            (try clear HB)
            generalize (w50.setCell ⟨go40, (t368 : Int).toNat * 4 + 2, none⟩ (.int .u64 (IntKind.u64.wrap (((rd_T51 x6_1 t368).f1) - ((rd_T52 l1 x7_1).f1))))) = w52 at n0_ n1_ n2_ n3_ ⊢
            have HO_6 := n0_
            have HO373 := n1_
            have BK367 := n2_
            have HB := n3_
            clear n0_ n1_ n2_ n3_
            replace HO_6 := Aside0.mk (Kd.R_drew HO_6.out)
            replace HO373 := Aside0.mk (Kd.R_drew HO373.out)
            replace BK367 := Aside0.mk (blk_drew BK367.out)
            replace HB := Aside0.mk (below_drew1 HB.out)
            have p377 : 0 ≤ (t368 : Int) := of_decide_eq_true Z1
            have q377 : t368 < (y376.length : Int) := (by have h_ : (t368 : Int) < ((x6_1.length : Int) : Int) := of_decide_eq_true Z1; first | (have e_ := (Kd.R_reads' HO_6.out).1; omega) | simpa only [Ny376.out, List.length_set] using h_)
            have ql377 : ((t368 : Int) < ((x6_1.length : Int) : Int)) = True := eq_true (of_decide_eq_true Z1)
            obtain ⟨ad377, e377, hx377_0, hx377_1, hx377_2, hx377_3⟩ := at_T51 (Kd.R_reads' HO_6.out).2.2 t368 p377 q377
            obtain rfl : (⟨go40, 0, none⟩ : Addr) = ad377 := (by injection e377)
            (first | simp only [add_plain] at hx377_0 | simp only [add_at] at hx377_0 | simp only [Addr.add, Nat.zero_add] at hx377_0 | skip)
            (first | simp only [add_plain] at hx377_1 | simp only [add_at] at hx377_1 | simp only [Addr.add, Nat.zero_add] at hx377_1 | skip)
            (first | simp only [add_plain] at hx377_2 | simp only [add_at] at hx377_2 | simp only [Addr.add, Nat.zero_add] at hx377_2 | skip)
            (first | simp only [add_plain] at hx377_3 | simp only [add_at] at hx377_3 | simp only [Addr.add, Nat.zero_add] at hx377_3 | skip)
            replace p377 := eq_true p377
            replace q377 := eq_true q377
            have p41 : 0 ≤ (t368 : Int) := of_decide_eq_true Z1
            have q41 : (t368 : Int) < ((x6_1.length : Int) : Int) := of_decide_eq_true Z1
            obtain ⟨ce41, hcl41, hM41, hcc41, hfr41⟩ := Kd.R_elem HO_6.out z51 (t368 : Int) p41 q41
            obtain rfl := k51_openM hM41
            have hx41_0 : World.cell? _ ⟨go40, (t368 : Int).toNat * 4, none⟩ = some (.int .i64 ((rd_T51 y376 t368).f0.f0)) := hcc41 0 _ rfl
            have hx41_1 : World.cell? _ ⟨go40, (t368 : Int).toNat * 4 + 1, none⟩ = some (.int .i64 ((rd_T51 y376 t368).f0.f1)) := hcc41 1 _ rfl
            have hx41_2 : World.cell? _ ⟨go40, (t368 : Int).toNat * 4 + 2, none⟩ = some (.int .u64 ((rd_T51 y376 t368).f1)) := hcc41 2 _ rfl
            have hx41_3 : World.cell? _ ⟨go40, (t368 : Int).toNat * 4 + 3, none⟩ = some (.int .i64 ((rd_T51 y376 t368).f2)) := hcc41 3 _ rfl
            have hf41_0 : World.frozen? _ ⟨go40, (t368 : Int).toNat * 4, none⟩ = false := hfr41 0
            have hf41_1 : World.frozen? _ ⟨go40, (t368 : Int).toNat * 4 + 1, none⟩ = false := hfr41 1
            have hf41_2 : World.frozen? _ ⟨go40, (t368 : Int).toNat * 4 + 2, none⟩ = false := hfr41 2
            have hf41_3 : World.frozen? _ ⟨go40, (t368 : Int).toNat * 4 + 3, none⟩ = false := hfr41 3
            clear hcl41 hcc41 hfr41 hM41
            replace p41 := eq_true p41
            replace q41 := eq_true q41
            obtain ⟨ce54, hcl54, hM54, hcc54, hfr54⟩ := Kd.R_elem HO_6.out z51 (t368 : Int) (of_decide_eq_true Z1) (by have h_ : (t368 : Int) < ((x6_1.length : Int) : Int) := of_decide_eq_true Z1; first | exact h_ | (have e_ := (Kd.R_reads' HO_6.out).1; omega) | simpa using h_)
            obtain rfl := k51_openM hM54
            have HP54 := (Kd.R_seg HO_6.out (t368 : Int) (of_decide_eq_true Z1) (by have h_ : (t368 : Int) < ((x6_1.length : Int) : Int) := of_decide_eq_true Z1; first | exact h_ | (have e_ := (Kd.R_reads' HO_6.out).1; omega) | simpa using h_) (seg := [.int .i64 (wrap64 (((rd_T51 y376 t368).f2) - ((rd_T52 l1 x7_1).f2)))]) (j := 3) hcl54 hcc54 (show 4 ≤ 4 from by decide) (x' := (⟨(⟨(rd_T51 y376 t368).f0.f0, (rd_T51 y376 t368).f0.f1⟩ : S48), (rd_T51 y376 t368).f1, wrap64 (((rd_T51 y376 t368).f2) - ((rd_T52 l1 x7_1).f2))⟩ : S51)) (k51_mkM _ _ _ (⟨(⟨(rd_T51 y376 t368).f0.f0, (rd_T51 y376 t368).f0.f1⟩ : S48), (rd_T51 y376 t368).f1, wrap64 (((rd_T51 y376 t368).f2) - ((rd_T52 l1 x7_1).f2))⟩ : S51) ) (fun _ hk => hk)).1
            rw [← Ny378.out] at HP54
            have HQ54 := Aside0.mk HP54
            clear hcl54 hcc54 hfr54 hM54 HP54
            refine start_ (n := 13) (S := fun w' => w'.cell? ⟨gb367, 0, none⟩ = some (.int .i64 ((rd_T52 l1 x7_1).f0.f0)) ∧ w'.cell? ⟨gb367, 1, none⟩ = some (.int .i64 ((rd_T52 l1 x7_1).f0.f1)) ∧ w'.cell? ⟨gb367, 2, none⟩ = some (.int .u64 ((rd_T52 l1 x7_1).f1)) ∧ w'.cell? ⟨gb367, 3, none⟩ = some (.int .i64 ((rd_T52 l1 x7_1).f2)) ∧ w'.cell? ⟨go40, (t368).toNat * 4, none⟩ = some (.int .i64 ((rd_T51 y376 t368).f0.f0)) ∧ w'.cell? ⟨go40, (t368).toNat * 4 + 1, none⟩ = some (.int .i64 ((rd_T51 y376 t368).f0.f1)) ∧ w'.cell? ⟨go40, (t368).toNat * 4 + 2, none⟩ = some (.int .u64 ((rd_T51 y376 t368).f1)) ∧ w'.cell? ⟨go40, (t368).toNat * 4 + 3, none⟩ = some (.int .i64 ((rd_T51 y376 t368).f2))) (ds := [12]) (bm 13 0) (by kernel_rfl) rfl rfl ⟨(blk_cell BK367.out 0).trans rfl, (blk_cell BK367.out 1).trans rfl, (blk_cell BK367.out 2).trans rfl, (blk_cell BK367.out 3).trans rfl, hx377_0, hx377_1, hx377_2, hx377_3⟩ (fun hHeld => ?_); refine with_tabW ensembleref05_Less.tab14 ensembleref05_Less.bits14 (fun HT_ HW_ => ?_)
            generalize w52.drew = w53 at HO_6 HO373 BK367 HB HQ51 HQ54 hf41_0 hf41_1 hf41_2 hf41_3 hx377_0 hx377_1 hx377_2 hx377_3 hx41_0 hx41_1 hx41_2 hx41_3 hHeld ⊢
            refine pu 0 (some 67) (bm 13 1) ?_
            refine pu 1 (some 68) (bm 13 3) ?_
            refine pu 2 (some 69) (bm 13 7) ?_
            refine pu 3 (some 70) (bm 13 15) ?_
            refine pu 4 (some 71) (bm 13 31) ?_
            refine pu 5 (some 72) (bm 13 63) ?_
            refine pu 7 (some 74) (bm 13 191) ?_
            refine tk8 6 (some 73) (bm 13 255) ?_
            refine tk8 8 (some 75) (bm 13 511) ?_
            refine pu 9 (some 76) (bm 13 1023) ?_
            refine pu 10 (some 77) (bm 13 2047) ?_
            refine pu 11 (some 78) (bm 13 4095) ?_
            refine last_ (i := 12) (N := none) (bm 13 8191) rfl rfl (one_of HT_.out (by kernel_rfl)) (by decide) (fun K hK => ?_)
            refine skip_ (w1 := ?_) (by rfl) rfl ?_ ?_
            rotate_left
            ·go_simp
             rfl
            refine hK.out _ _ ?_
            clear hK K
            refine done_ (done_of HT_.out (by kernel_rfl)) ?_
            try go_wp2
            go_roundg k1
            case measure => have := HK1.out; omega
            case rel => exact ⟨(y378), (wrap64 (x7_1 + 1)), Z4, H', ⟨by have := HK1.out; omega⟩, ⟨by (with_reducible repeat (first | apply Kd.R_alloc | apply Kd.R_drewN | apply Kd.R_drew)); exact HQ54.out⟩, ⟨by repeat (first | (with_reducible first | exact HB.out | apply below_alloc | apply pw_below_drewN | apply below_drew1 | refine below_set ?_ GB40.out | refine below_set ?_ GE367.out) | exact HB.out)⟩⟩
         ·rw [if_neg c19] at H
          exact absurd H (by simp)
        ·rw [if_neg c18] at H
         exact absurd H (by simp)
     ·rw [if_neg c8] at H
      exact absurd H (by simp)
    ·rw [if_neg c7] at H
     have c7b0 : decide (x7_1 < (l1.length : Int)) = false := decide_eq_false c7
     clear c7
     simp only [Option.some.injEq, Prod.mk.injEq] at H
     obtain ⟨rfl, rfl⟩ := H
     go_wp2
     go_ret2
     exact ⟨_, by first | rfl | (simp [errW_none, errW_some] <;> rfl) | (simp [*, errW_none, errW_some] <;> rfl), by (with_reducible repeat (first | apply Kd.R_alloc | apply Kd.R_drewN | apply Kd.R_drew)); exact HO_6.out, hb_⟩
 ·rw [if_neg c3] at H
  exact absurd H (by simp)
end Go.Proofs.Ytckhjehibjdjdaa.P
