/- WorkerRests: part 4 of the walk and of the plain law that it comes to. No condition. -/
import Derived.Test.YtckhjehibjdjdaaZWorkerRests3
import Derived.ArgAppend
import Derived.Below
import Derived.BigQuiet
import Derived.BigRegion
import Derived.Carry
import Derived.Deep.AppendLies
import Derived.Deep.CutBlock
import Derived.Deep.DeepCutAuto
import Derived.Deep.Draws
import Derived.Deep.LoopGhost
import Derived.Deep.OwnRows
import Derived.Deep.QuietTactic
import Derived.Deep.RegionHeld3
import Derived.DeepKeys3
import Derived.KernelRfl
import Derived.Laws.Bits64
import Derived.Laws.Bits64b
import Derived.Laws.BitsLemmas
import Derived.Laws.BytesArg
import Derived.Laws.EntriesVeiled
import Derived.Laws.Externs
import Derived.Laws.IdiomCopy
import Derived.Laws.MakeOwn
import Derived.Laws.OwnMore
import Derived.Laws.Rows
import Derived.Laws.Slices
import Derived.Lib.AppendStr
import Derived.Lib.ConvBytes
import Derived.Lib.ReflectliteSlice
import Derived.Lib.ReflectliteSwap
import Derived.Lib.SliceRun
import Derived.LoopIn
import Derived.LoopN
import Derived.LoopNIn
import Derived.LoopTactic
import Derived.Maps.AppendAt
import Derived.Maps.Keyed
import Derived.Maps.Own
import Derived.Maps.OwnOps
import Derived.Maps.OwnSet
import Derived.Maps.Views
import Derived.OrdersHeld
import Derived.Outline
import Derived.OwnWalk
import Derived.OwnWalkIn
import Derived.RangeFuncBound
import Derived.RangeFuncBox
import Derived.RangeFuncCalls
import Derived.RangeFuncFrom
import Derived.RangeFuncLeaves
import Derived.RangeFuncNested
import Derived.RowKit
import Derived.RowKit3
import Derived.Shelf.Abstract
import Derived.Shelf.RegionOpen
import Derived.StillTailTactics
import Derived.Tactics
import Derived.TacticsInMore
import Derived.WalkKit
import Derived.WideLaws
set_option linter.unusedVariables false
set_option linter.unusedSimpArgs false
namespace Go.Proofs.Ytckhjehibjdjdaa.P
open Go.RowKit Go.Shelf Go.Proofs.YtckhjehibjdjdaaW.PrintWords Go.Proofs.YtckhjehibjdjdaaW.PrintLast Go.Proofs.YtckhjehibjdjdaaW.PrintMore
open Go.Proofs.Ytckhjehibjdjdaa.Bits
attribute [local go_sem] Oper.semAt_some
def subU (a : Int × Int) (s : S52) : Int × Int := (wrap64 (a.1 - popI s.f1), wrap64 (a.2 - s.f2))
def subL (a : Int × Int) (l : List S52) : Int × Int := l.foldl subU a
theorem subL_step (a : Int × Int) (l : List S52) (j : Nat) (h : j < l.length) : subL a (l.take (j + 1)) = subU (subL a (l.take j)) (a5_ l (j : Int)) := by
 have e : a5_ l (j : Int) = l[j] := by simp [a5_, List.getD_eq_getElem?_getD, List.getElem?_eq_getElem h]
 unfold subL
 rw [List.take_succ_eq_append_getElem h, List.foldl_append, e]; rfl
set_option maxHeartbeats 8000000 in
set_option maxRecDepth 100000 in
theorem take1 (gl : Nat) (t0 t1 sm sc lg lc : Int) (w : World) (hl : w.heap[gl]? = some (.cells #[.int .i64 lg, .int .i64 lc] 24 (0, 0))) (hm : 0 ≤ sm ∧ sm < 18446744073709551616) :
  Calls Try.prog 107 #[.agg #[.int .i64 t0, .int .i64 t1, .int .u64 sm, .int .i64 sc], .pointer (some ⟨gl, 0, none⟩)] w fun e w' => e = .returned (.tuple #[]) ∧ KP w w' (fun k => k = gl) ∧
   w'.heap[gl]? = some (.cells #[.int .i64 (wrap64 (lg - popI sm)), .int .i64 (wrap64 (lc - sc))] 24 (0, 0)) := by
 have hu52 := Try.underlying52
 have hu24 := Try.underlying24
 have gll := c6_ hl
 have HL0 := m_ hl
 have HMK := m_ hm
 clear hl hm
 go_enter Try.func107, Try.ntmps107
 go_wp2_with (first | ((with_reducible refine a3_ (N := 2) rfl ?_); refine bx 2 #[.int .i64 t0, .int .i64 t1, .int .u64 sm, .int .i64 sc] 52 ?_; intro g4 hg4 w4 hx4 hb4; have HX4 := m_ hx4; have HB4 := m_ hb4; have n3 : gl ≠ g4 := (by omega); have HL4 := m_ (a1_ HL0.out hb4); have l0 : w4.cell? ⟨gl, 0, none⟩ = some (.int .i64 lg) := (a0_ (a1_ HL0.out hb4) 0).trans rfl; have b2 : w4.cell? ⟨g4, 1 + 1, none⟩ = some (.int .u64 sm) := (a0_ hx4 2).trans rfl; clear hg4 hx4 hb4))
 go_still_tail 7, (by kernel_rfl)
 still_call ((count_any _ HMK.out.1 HMK.out.2 _))
 repeat still_step
 refine wpStill_nil ?_
 change wpList _ _ _ _ _ w4.drew
 clear l0 b2
 have l0 : w4.drew.cell? ⟨gl, 0, none⟩ = some (.int .i64 lg) := (a0_ HL4.out 0).trans rfl
 have z0 : w4.drew.frozen? ⟨gl, 0, none⟩ = false := a2_ HL4.out 0
 have z1 : w4.frozen? ⟨gl, 1, none⟩ = false := a2_ HL4.out 1
 have l1 : w4.cell? ⟨gl, 1, none⟩ = some (.int .i64 lc) := (a0_ HL4.out 1).trans rfl
 have b3 : w4.cell? ⟨g4, 3, none⟩ = some (.int .i64 sc) := (a0_ HX4.out 3).trans rfl
 go_wp2
 go_end0
 exact ⟨rfl, (((KP.below (KP.refl w (fun k => k = gl)) HB4.out).set (g := gl) (j := 0) (Or.inl rfl) _).set (g := gl) (j := 1) (Or.inl rfl) _).drew, blk_set (blk_set HL4.out 0 _) 1 _⟩
def maskAll (l : List S52) : Bool := l.all maskOk && decide (l.length < 1000000000)
def fill_take.f (a0_0 a0_1 : Int) (l1 : List (S52)) : Option (Int × Int) := if maskAll l1 = true then some (subL (a0_0, a0_1) l1) else none
set_option maxHeartbeats 8000000 in
set_option maxRecDepth 100000 in
theorem take_any (a0_0 a0_1 : Int) (A1 : Option Addr) (c1 : Nat) (l1 : List (S52)) (w : World) (hr1 : Kd.C k52 w A1 l1.length l1) (hm : ∀ s ∈ l1, maskOk s = true) (hl : l1.length < 1000000000) :
  Calls Try.prog 81 #[.agg #[.int .i64 a0_0, .int .i64 a0_1], .slice A1 l1.length c1] w fun e w' => e = .returned (.agg #[.int .i64 (subL (a0_0, a0_1) l1).1, .int .i64 (subL (a0_0, a0_1) l1).2]) ∧ Below w.heap.size w w' := by
 have hu52 := Try.underlying52
 have hu24 := Try.underlying24
 have HR := m_ hr1
 have HM := m_ hm
 have HL := m_ hl
 clear hr1 hm hl
 go_enter Try.func81, Try.ntmps81
 go_wp2_with (first | ((with_reducible refine a3_ (N := 2) rfl ?_); refine bx 2 #[.int .i64 a0_0, .int .i64 a0_1] 24 ?_; intro gb hgb wb hxb hbb; have HXB := m_ hxb; have HBB := m_ hbb; have hgb2 : w.heap.size ≤ gb := (by omega); clear hgb hxb hbb))
 have hB1 := b5_ HBB.out (.cells #[.int .i64 0, .int .i64 0] 24)
 have hG1 := b9_ HXB.out (.cells #[.int .i64 0, .int .i64 0] 24)
 have hR1 := heap_alloc_new wb (.cells #[.int .i64 0, .int .i64 0] 24)
 have hne : wb.heap.size ≠ gb := by have := c6_ HXB.out; omega
 have hrs : w.heap.size ≤ wb.heap.size := HBB.out.size
 have HB1 := m_ hB1
 have HG1 := m_ hG1
 have HR1 := m_ hR1
 obtain ⟨gr, hgr⟩ : ∃ gr, gr = wb.heap.size := ⟨_, rfl⟩
 rw [← hgr] at HR1 hne hrs ⊢
 clear hB1 hG1 hR1 hgr HXB HBB
 go_loopw [11] (fun v11 wr => ∃ j : Nat, j ≤ l1.length ∧ v11 = .int .i64 (j : Int) ∧ A_ (Below w.heap.size w wr) ∧ A_ (wr.heap[gb]? = some (.cells #[.int .i64 (subL (a0_0, a0_1) (l1.take j)).1, .int .i64 (subL (a0_0, a0_1) (l1.take j)).2] 24 (0, 0))) ∧ A_ (wr.heap[gr]? = some (.cells #[.int .i64 0, .int .i64 0] 24 (0, 0)))) (fun v11 _ => l1.length - (intOf v11).toNat)
 case atStart => exact ⟨0, Nat.zero_le _, rfl, HB1, HG1, HR1⟩
 case round =>
  clear HB1 HG1 HR1
  obtain ⟨j, hj, rfl, HB, HG, HE⟩ := hrel
  have hC := Kd.C_below HR.out HB.out
  have hlm := HL.out
  by_cases hlt : j < l1.length
  ·have h0 : 0 ≤ (j : Int) := by omega
   have h1' : (j : Int) < l1.length := by omega
   obtain ⟨ad1, ee, y0, y1, y2, y3⟩ := at_T52 hC (j : Int) h0 h1'
   cases ee
   simp only [Int.toNat_natCast] at y0 y1 y2 y3
   have hstep := subL_step (a0_0, a0_1) l1 j hlt
   have hmk := HM.out (a5_ l1 (j : Int)) (by simp [a5_, List.getD_eq_getElem?_getD, List.getElem?_eq_getElem hlt])
   generalize a5_ l1 (j : Int) = s at *
   generalize subL (a0_0, a0_1) (l1.take j) = acc at *
   obtain ⟨⟨t0, t1⟩, sm, sc⟩ := s
   simp only [maskOk, Bool.and_eq_true, decide_eq_true_eq] at hmk
   have HMK := m_ hmk
   have HST := m_ hstep
   clear hmk hstep hC
   simp only at y0 y1 y2 y3
   have HBA := m_ (b5_ HB.out (.cells #[.int .i64 t0, .int .i64 t1, .int .u64 sm, .int .i64 sc] 52))
   have HGA := m_ (b9_ HG.out (.cells #[.int .i64 t0, .int .i64 t1, .int .u64 sm, .int .i64 sc] 52))
   have HEA := m_ (b9_ HE.out (.cells #[.int .i64 t0, .int .i64 t1, .int .u64 sm, .int .i64 sc] 52))
   clear HB HG HE
   go_wp2_with (go_at_call 107; refine (take1 gb t0 t1 sm sc acc.1 acc.2 _ HGA.out HMK.out).mono ?_; rintro e w5 ⟨rfl, hk5, hg5⟩; have HB5 := m_ (hk5.under HBA.out (fun k hk => by omega)); have HG5 := m_ hg5; have HE5 := m_ ((hk5.kept.2 gr (c6_ HEA.out) hne).trans HEA.out); clear hk5 hg5)
   go_roundw
   case rel => exact ⟨j + 1, by omega, by go_num, HB5, ⟨by rw [HST.out]; exact HG5.out⟩, HE5⟩
   case measure => simp [intOf]; omega
  ·obtain rfl : j = l1.length := by omega
   have hg := HG.out
   rw [List.take_length] at hg
   obtain ⟨p0, p1⟩ := cz2_ ⟨hg⟩
   have e0 : wr.cell? ⟨gr, 0, none⟩ = some (.int .i64 0) := (a0_ HE.out 0).trans rfl
   have e1 : wr.cell? ⟨gr, 1, none⟩ = some (.int .i64 0) := (a0_ HE.out 1).trans rfl
   have z0 := a2_ HE.out 0
   have z1 := a2_ HE.out 1
   clear hg hC
   go_wp2
   refine bodyPost_ret (results_cell_row rfl _ _ gr 24 #[.int .i64 (subL (a0_0, a0_1) l1).1, .int .i64 (subL (a0_0, a0_1) l1).2] (0, 0) _ rfl (blk_set (blk_set HE.out 0 _) 1 _) Try.underlying24 rfl rfl) rfl ?_
   exact ⟨rfl, b6_ (b6_ HB.out hrs) hrs⟩
theorem fill_take.calls (a0_0 a0_1 : Int) (A1 : Option Addr) (c1 : Nat) (l1 : List (S52)) (r1 r2 : Int) (w : World) (hr1 : Kd.C k52 w A1 l1.length l1) (hc1 : l1.length ≤ c1) (h : fill_take.f a0_0 a0_1 l1 = some (r1, r2)) :
  Calls Try.prog 81 #[.agg #[.int .i64 a0_0, .int .i64 a0_1], .slice A1 l1.length c1] w fun e w' => e = .returned (.agg #[.int .i64 r1, .int .i64 r2]) ∧ Below w.heap.size w w' := by
 unfold fill_take.f at h
 by_cases ho : maskAll l1 = true
 ·rw [if_pos ho] at h
  unfold maskAll at ho
  rw [Bool.and_eq_true] at ho
  have e := Option.some.inj h
  have e1 : r1 = (subL (a0_0, a0_1) l1).1 := by rw [e]
  have e2 : r2 = (subL (a0_0, a0_1) l1).2 := by rw [e]
  rw [e1, e2]
  exact take_any a0_0 a0_1 A1 c1 l1 w hr1 (fun s hs => List.all_eq_true.1 ho.1 s hs) (of_decide_eq_true ho.2)
 ·rw [if_neg ho] at h; cases h
end Go.Proofs.Ytckhjehibjdjdaa.P
namespace Go.Proofs.Ytckhjehibjdjdaa.P
open Go.RowKit Go.Proofs.YtckhjehibjdjdaaW.PrintWords Go.Proofs.YtckhjehibjdjdaaW.PrintLast Go.Proofs.YtckhjehibjdjdaaW.PrintMore
def Sh {α : Type} (k : Kd α) (e : TypeId) (w W : World) (base : Nat) (v : Value) (l : List α) : Prop :=
 ∃ rows : List (List Value), rows.length = l.length ∧ (Kd.raw k.sz).R e W base (fun _ => True) v rows ∧ ∀ (j : Nat) (y : α) (c : List Value), l[j]? = some y → rows[j]? = some c → k.K w y c
section
variable {α : Type} {k : Kd α} {e base : Nat} {w W W' : World} {v : Value} {l : List α}
theorem Sh.nil : Sh k e w W base (.slice none 0 0) [] := ⟨[], rfl, Kd.R_nil _ _ _ _ _, fun j y c h => by simp at h⟩
theorem rowIn {A : Option Addr} {n : Nat} (h : k.C w A n l) (hb : Below w.heap.size w W) : ReadsRow (k.K w) k.sz W A n l := ReadsRow.imp_ h hb (fun _ _ h => h)
theorem rowBx {g t : Nat} {cs : Array Value} {x : α} [b : Bx W g cs t] (hk : k.K w x cs.toList) : ReadsRow (k.K w) k.sz W (some ⟨g, 0, none⟩) [x].length [x] :=
 ⟨rfl, by simp, fun _ => ⟨_, rfl, fun j p hj => by
  cases j with
  | succ j => simp at hj
  | zero =>
   obtain rfl : x = p := by simpa using hj
   refine ⟨cs.toList, k.K_len hk, hk, fun i u hu => ?_⟩
   rw [Nat.zero_mul, Nat.zero_add, e2_, cellBx]
   simpa using hu⟩⟩
theorem Sh.step (h : Sh k e w W base v l) (hb : Below W.heap.size W W') : Sh k e w W' base v l :=
 let ⟨r, a, b, c⟩ := h; ⟨r, a, Kd.R_below b hb, c⟩
theorem Sh.drew (h : Sh k e w W base v l) : Sh k e w W.drew base v l := let ⟨r, a, b, c⟩ := h; ⟨r, a, Kd.R_drew b, c⟩
theorem Sh.read (h : Sh k e w W base v l) (hw : Below w.heap.size w W) : ∃ A c, v = .slice A l.length c ∧ Rw k W A c l := by
 obtain ⟨rows, hl, hR, hk⟩ := h
 obtain ⟨A, c, rfl, hc, hC⟩ := Kd.R_reads hR
 refine ⟨A, c, by rw [hl], ⟨?_, by omega⟩⟩
 refine ⟨rfl, by have := hC.2.1; omega, fun hn => ?_⟩
 obtain ⟨ad, ea, hh⟩ := hC.2.2 (by omega)
 refine ⟨ad, ea, fun j p hj => ?_⟩
 have hjl := (List.getElem?_eq_some_iff.1 hj).1
 have hr : rows[j]? = some (rows[j]'(by omega)) := List.getElem?_eq_getElem (by omega)
 obtain ⟨c', h1, h2, h3⟩ := hh j _ hr
 obtain ⟨rfl, _, _⟩ := h2
 exact ⟨_, h1, k.K_below hw (hk j p _ hj hr), h3⟩
theorem Sh.elem {g n cap i : Nat} {y : α} (h : Sh k e w W base (.slice (some ⟨g, 0, none⟩) n cap) l) (hy : l[i]? = some y) :
  ∃ c, k.K w y c ∧ (∀ (j : Nat) (u : Value), c[j]? = some u → W.cell? ⟨g, i * k.sz + j, none⟩ = some u) ∧ (∀ j, W.frozen? ⟨g, i * k.sz + j, none⟩ = false) ∧
   ∀ (j : Nat) (u : Value) (y' : α), j < k.sz → k.K w y' (c.set j u) → Sh k e w (W.setCell ⟨g, i * k.sz + j, none⟩ u) base (.slice (some ⟨g, 0, none⟩) n cap) (l.set i y') := by
 obtain ⟨rows, hl, hR, hk⟩ := h
 have hil := (List.getElem?_eq_some_iff.1 hy).1
 have hn := (Kd.R_reads' hR).1
 obtain ⟨c, hcl, hM, hcc, hfr⟩ := Kd.R_elem hR [] (i : Int) (by omega) (by omega)
 have hr : rows[i]? = some (rows[i]'(by omega)) := List.getElem?_eq_getElem (by omega)
 have ec : c = rows[i]'(by omega) := by
  have := hM.1
  simpa [List.getD_eq_getElem?_getD, hr] using this
 have hK := hk i y _ hy hr
 rw [← ec] at hK
 refine ⟨c, hK, fun j u hu => by simpa [Kd.raw] using hcc j u hu, fun j => by simpa [Kd.raw] using hfr j, fun j u y' hj hK' => ?_⟩
 have hone := k.K_one hK'
 have hlen := k.K_len hK'
 have e1 : c.take j ++ [u] ++ c.drop (j + [u].length) = c.set j u := by
  rw [List.set_eq_take_append_cons_drop, if_pos (by rw [hcl]; exact hj)]
  simp
 have := (Kd.R_seg hR (i : Int) (by omega) (by omega) (seg := [u]) (j := j) (x' := c.set j u) (okp := fun _ => False) hcl hcc (by show j + 1 ≤ k.sz; omega) (by rw [e1]; exact ⟨rfl, hlen, hone⟩) (fun _ hk => hk.elim)).1
 refine ⟨rows.set i (c.set j u), by rw [List.length_set, List.length_set, hl], by simpa [World.setCells, Kd.raw] using this, fun j2 y2 c2 h1 h2 => ?_⟩
 by_cases hij : i = j2
 ·subst hij
  rw [List.getElem?_set_self hil] at h1
  rw [List.getElem?_set_self (by omega)] at h2
  obtain rfl := Option.some.inj h1
  obtain rfl := Option.some.inj h2
  exact hK'
 ·rw [List.getElem?_set_ne hij] at h1 h2
  exact hk j2 y2 c2 h1 h2
theorem Sh.joined {rows news : List (List Value)} {xs ys : List α} (hl : rows.length = xs.length) (hk : ∀ (j : Nat) (y : α) (c : List Value), xs[j]? = some y → rows[j]? = some c → k.K w y c) (hnl : news.length = ys.length) (hn : ∀ (j : Nat) (y : α) (c : List Value), ys[j]? = some y → news[j]? = some c → k.K w y c)
  (hR : (Kd.raw k.sz).R e W base (fun _ => True) v (rows ++ news)) : Sh k e w W base v (xs ++ ys) := by
 refine ⟨rows ++ news, by rw [List.length_append, List.length_append, hl, hnl], hR, fun j y c h1 h2 => ?_⟩
 by_cases hj : j < xs.length
 ·rw [List.getElem?_append_left hj] at h1
  rw [List.getElem?_append_left (by omega)] at h2
  exact hk j y c h1 h2
 ·rw [List.getElem?_append_right (by omega)] at h1
  rw [List.getElem?_append_right (by omega), hl] at h2
  exact hn _ y c h1 h2
end
section
variable {P : Program} {ops : Array Oper} {rest : List Oper} {o : Oper} {a : Act} {Q : Exit → Act → World → Prop} {Kc : Act → World → Prop} {α : Type}
theorem litS {w W : World} (N : Tmp) (k : Kd α) (e : TypeId) (h : ∀ v w1, Sh k e w w1 W.heap.size v [] → Bl W w1 → wpList P ops Q rest (a.put o.dst v) w1)
  (hg : o.guard = none := by exact rfl) (hd : o.dst = some N := by exact rfl)
  (hr : (execOp a.eval o).run P W = .ok (.value (.slice (some ⟨W.heap.size, 0, none⟩) 0 0)) (W.alloc (.cells #[] e)) := by first | (go_simp; done) | (go_simp; rfl)) : wpList P ops Q (o :: rest) a W :=
 Kd.R_lit (Kd.raw k.sz) (w0 := W) W.heap.size e hg hd (xs := []) (inner := []) (ok := fun _ => True) (okp := fun _ => True) hr (Reps.none _ _) (fun _ hk => hk) trivial (Below.refl _ _) (Nat.le_refl _) (by simp)
  fun v1 w1 ho hb _ _ => h v1 w1 ⟨[], rfl, ho, fun j y c h1 => by simp at h1⟩ ⟨hb⟩
theorem appS (k : Kd α) {w W0 W : World} (hgd : o.guard = none) (s x : Operand) (t e : TypeId) (z : Value) (bytes : Nat)
  (ho : o.op = .call { callee := .builtin .append, args := #[s, x], argTypes := #[t, t] })
  (ht : P.underlying t = some (.slice e)) (hinfo : (P.info? e).map (fun i => (i.zero, i.size, i.bytes)) = some (some z, k.sz, bytes)) (hz : z.cells.size = k.sz) (hs0 : 0 < k.sz) (hb0 : 0 < bytes)
  {v : Value} {xs ys : List α} {A : Option Addr} {c : Nat} (hs : a.eval s = v) (hx : a.eval x = .slice A ys.length c)
  (HO : Sh k e w W W0.heap.size v xs) (HR : ReadsRow (k.K w) k.sz W A ys.length ys) (HB : Below W0.heap.size W0 W) (hl : (xs.length + ys.length) * bytes ≤ 140737488355328)
  (h : ∀ v1 w1, Sh k e w w1 W0.heap.size v1 (xs ++ ys) → Bl W0 w1 → wpList P ops Q rest (a.put o.dst v1) w1) :
  wpList P ops Q (o :: rest) a W := by
 obtain ⟨rows, hrl, hR, hk⟩ := HO
 obtain ⟨news, hnl, hnr, hnf⟩ := Kd.reads_raw HR (fun y c hk => ⟨k.K_len hk, k.K_one hk⟩)
 refine Kd.R_append_rows (Kd.raw k.sz) W0.heap.size hgd s x t e z bytes ho ht hinfo hz hs0 hb0 v rows news A ys.length c (fun _ => True) (fun _ => False) hs hx hR hnr (fun _ _ hk => hk) (fun _ hk => hk.elim) (fun _ _ => trivial) HB HB.size (by rw [hrl]; exact hl) ?_
 intro v1 w1 h1 h2 _ _
 exact h v1 w1 (Sh.joined hrl hk hnl hnf h1) ⟨h2⟩
theorem appS_step (k : Kd α) {w W0 W : World} (hw' : Region.wanted o (yielded ops a.tmps) = true) (s x : Operand) (t e : TypeId) (z : Value) (bytes : Nat)
  (ho : o.op = .call { callee := .builtin .append, args := #[s, x], argTypes := #[t, t] })
  (ht : P.underlying t = some (.slice e)) (hinfo : (P.info? e).map (fun i => (i.zero, i.size, i.bytes)) = some (some z, k.sz, bytes)) (hz : z.cells.size = k.sz) (hs0 : 0 < k.sz) (hb0 : 0 < bytes)
  {v : Value} {xs ys : List α} {A : Option Addr} {c : Nat} (hs : a.eval s = v) (hx : a.eval x = .slice A ys.length c)
  (HO : Sh k e w W W0.heap.size v xs) (HR : ReadsRow (k.K w) k.sz W A ys.length ys) (HB : Below W0.heap.size W0 W) (hl : (xs.length + ys.length) * bytes ≤ 140737488355328)
  (h : ∀ v1 w1, Sh k e w w1 W0.heap.size v1 (xs ++ ys) → Bl W0 w1 → Kc (a.put o.dst v1) w1) :
  if Region.wanted o (yielded ops a.tmps) = true then Oper.wp P o a W Kc Q else Kc (a.put o.dst undef) W := by
 obtain ⟨rows, hrl, hR, hk⟩ := HO
 obtain ⟨news, hnl, hnr, hnf⟩ := Kd.reads_raw HR (fun y c hk => ⟨k.K_len hk, k.K_one hk⟩)
 refine Kd.R_append_rows_step (Kd.raw k.sz) W0.heap.size hw' s x t e z bytes ho ht hinfo hz hs0 hb0 v rows news A ys.length c (fun _ => True) (fun _ => False) hs hx hR hnr (fun _ _ hk => hk) (fun _ hk => hk.elim) (fun _ _ => trivial) HB HB.size (by rw [hrl]; exact hl) ?_
 intro v1 w1 h1 h2 _ _
 exact h v1 w1 (Sh.joined hrl hk hnl hnf h1) ⟨h2⟩
end
end Go.Proofs.Ytckhjehibjdjdaa.P
namespace Go.Proofs.Ytckhjehibjdjdaa.P
open Go.RowKit Go.Shelf Go.Proofs.YtckhjehibjdjdaaW.PrintWords Go.Proofs.YtckhjehibjdjdaaW.PrintLast Go.Proofs.YtckhjehibjdjdaaW.PrintMore
attribute [local go_sem] Oper.semAt_some
def api_Hold.f (l0 : List (S41)) : Option ((List (S41))) := if l0.length < 1000000 then some l0 else none
end Go.Proofs.Ytckhjehibjdjdaa.P
namespace Go.Proofs.Ytckhjehibjdjdaa.P
open Go.RowKit Go.Proofs.YtckhjehibjdjdaaW.PrintWords Go.Proofs.YtckhjehibjdjdaaW.PrintLast Go.Proofs.YtckhjehibjdjdaaW.PrintMore
attribute [local go_sem] Oper.semAt_some
set_option maxHeartbeats 4000000 in
set_option maxRecDepth 100000 in
theorem cloneS {A0 : Option Addr} {c0 : Nat} {l0 l1 : List S41} {w W : World} (hr0 : Kd.C k41 w A0 l0.length l0) (hw : Below w.heap.size w W) (h : A_ (api_Hold.f l0 = some l1)) :
  Calls Try.prog 70 #[.slice A0 l0.length c0] W fun e w' => ∃ v0_ : Value, e = .returned v0_ ∧ Sh k41 41 w w' W.heap.size v0_ l1 ∧ Below W.heap.size W w' := by
 have hu25 := Try.underlying25
 have q25 : ∀ (w : World) (a : Option Addr) (n c n' c' : Nat), (binOp .eql 25 (.slice a n c) (.slice none n' c')).run Try.prog w = .ok (.bool a.isNone) w := fun w a n c n' c' => Lib.run_eql_slice_nil w _ _ a n c n' c' Try.underlying25
 have h := h.out
 unfold api_Hold.f at h
 by_cases hl : l0.length < 1000000
 case neg => rw [if_neg hl] at h; cases h
 rw [if_pos hl] at h
 obtain rfl := Option.some.inj h
 clear h
 have HR := m_ (rowIn hr0 hw)
 have HL := m_ hl
 cases A0 with
 | none =>
  obtain rfl : l0 = [] := by
   rcases Nat.eq_zero_or_pos l0.length with h | h
   ·exact List.eq_nil_of_length_eq_zero h
   ·obtain ⟨ad, hA, _⟩ := hr0.2.2 h
    cases hA
  clear hr0 hw hl
  go_enter Try.func70, Try.ntmps70
  go_wp2
  all_goals go_ret
  all_goals exact ⟨_, rfl, Sh.nil, Below.refl _ _⟩
 | some ad =>
  clear hr0 hw hl
  go_enter Try.func70, Try.ntmps70
  go_wp2_with (first | ((with_reducible refine a3_ (N := 5) rfl ?_); refine litS (w := w) 5 k41 41 ?_; intro v5 w5 hs hb; have HS := m_ hs; clear hs) | ((with_reducible refine gate_builtin (b := .append) (xs := #[.tmp 5, .tmp 6]) rfl ?_); at_builtin; refine appS k41 (w := w) (W0 := W) rfl (.tmp 5) (.tmp 6) 25 41 (.agg #[(.int .i64 0), (.int .i64 0), (.int .i64 0), (.bool false), (.slice none 0 0)]) 56 rfl Try.underlying25 info41 rfl (by decide) (by omega) rfl rfl HS.out (ReadsRow.imp_ HR.out hb.out (fun _ _ h => h)) hb.out (by have := HL.out; simp; omega) ?_; intro v7 w7 hs7 hb7; have HS7 := m_ hs7; clear hs7 HS))
  all_goals go_ret
  all_goals exact ⟨_, rfl, HS7.out, hb7.out⟩
end Go.Proofs.Ytckhjehibjdjdaa.P
namespace Go.Proofs.Ytckhjehibjdjdaa.P
open Go.RowKit Go.Proofs.YtckhjehibjdjdaaW.PrintWords Go.Proofs.YtckhjehibjdjdaaW.PrintLast Go.Proofs.YtckhjehibjdjdaaW.PrintMore
attribute [local go_sem] cellBx frozBx
def fill_After.f (a0 : Int) (l1 : List (S51)) (a2_0 a2_1 : Int) (l3 : List (S41)) (a4_0 a4_1 a4_2 a4_3 a4_4 a4_5 a5_0 a5_1 a5_2 : Int) (a5_3 : Bool) (l5_4 : List (S52)) : Option (Int × Int) := (pack_Less.f l1 l5_4).bind fun bt329 => (if bt329.2 = 0 then (if a5_1 = a4_0 then ((fill_take.f a2_0 a2_1 l5_4).bind fun bt333 => ((api_Hold.f l3).bind fun t335 => ((some (([(⟨a5_0, a5_1, a5_2, a5_3, l5_4⟩ : S41)] : List (S41)) : List (S41))).bind fun y338 => (if t335.length + y338.length < 2513169434916 then ((promise_Earliest.f a0 bt329.1 bt333.1 bt333.2 (t335 ++ y338) a4_0 a4_1 a4_2 a4_3 a4_4 a4_5).bind fun bt344 => (some (bt344.1, bt344.2))) else (none))))) else ((api_Hold.f l3).bind fun t346 => ((some (([(⟨a5_0, a5_1, a5_2, a5_3, l5_4⟩ : S41)] : List (S41)) : List (S41))).bind fun y349 => (if t346.length + y349.length < 2513169434916 then ((promise_Earliest.f a0 bt329.1 a2_0 a2_1 (t346 ++ y349) a4_0 a4_1 a4_2 a4_3 a4_4 a4_5).bind fun bt355 => (some (bt355.1, bt355.2))) else (none))))) else (some (0, bt329.2)))
set_option maxHeartbeats 8000000 in
set_option maxRecDepth 100000 in
theorem fill_After.calls (a0 : Int) (A1 : Option Addr) (c1 : Nat) (l1 : List (S51)) (a2_0 a2_1 : Int) (A3 : Option Addr) (c3 : Nat) (l3 : List (S41)) (a4_0 a4_1 a4_2 a4_3 a4_4 a4_5 a5_0 a5_1 a5_2 : Int) (a5_3 : Bool) (A5_4 : Option Addr) (c5_4 : Nat) (l5_4 : List (S52)) (r1 r2 : Int) (w : World) (hr1 : Kd.C k51 w A1 l1.length l1) (hc1 : l1.length ≤ c1) (hr3 : Kd.C k41 w A3 l3.length l3) (hc3 : l3.length ≤ c3) (hr5_4 : Kd.C k52 w A5_4 l5_4.length l5_4) (hc5_4 : l5_4.length ≤ c5_4) (h : fill_After.f a0 l1 a2_0 a2_1 l3 a4_0 a4_1 a4_2 a4_3 a4_4 a4_5 a5_0 a5_1 a5_2 a5_3 l5_4 = some (r1, r2)) :
  Calls Try.prog 39 #[.int .i64 a0, .slice A1 l1.length c1, .agg #[.int .i64 a2_0, .int .i64 a2_1], .slice A3 l3.length c3, .agg #[.int .i64 a4_0, .int .i64 a4_1, .int .i64 a4_2, .int .i64 a4_3, .int .i64 a4_4, .int .i64 a4_5], .agg #[.int .i64 a5_0, .int .i64 a5_1, .int .i64 a5_2, .bool a5_3, .slice A5_4 l5_4.length c5_4]] w fun e w' => e = .returned (.tuple #[.int .i64 r1, .int .i64 r2]) ∧ Below w.heap.size w w' := by
 have hu24 := Try.underlying24
 have hu29 := Try.underlying29
 have hu41 := Try.underlying41
 have hu25 := Try.underlying25
 have : Be w w := ⟨Below.refl _ _⟩
 unfold fill_After.f at h
 replace h := bindS h
 obtain ⟨⟨less, e⟩, hL, h⟩ := h
 simp only at h
 have HL := m_ hL
 have H := m_ h
 clear hL h
 go_enter Try.func39, Try.ntmps39
 go_upto_region 2 with (first | ((with_reducible refine a3_ (N := 8) rfl ?_); refine bxT 8 #[.int .i64 a2_0, .int .i64 a2_1] 24 ?_; intro g8 w8 _ _ _) | ((with_reducible refine a3_ (N := 10) rfl ?_); refine bxT 10 #[.int .i64 a4_0, .int .i64 a4_1, .int .i64 a4_2, .int .i64 a4_3, .int .i64 a4_4, .int .i64 a4_5] 29 ?_; intro g10 w10 _ _ _) | ((with_reducible refine a3_ (N := 11) rfl ?_); refine bxT 11 #[.int .i64 a5_0, .int .i64 a5_1, .int .i64 a5_2, .bool a5_3, .slice A5_4 l5_4.length c5_4] 41 ?_; intro g11 w11 _ _ _) | (go_at_call 51; refine (pack_Less.calls _ _ _ _ _ _ _ _ _ (Kd.C_below hr1 Be.out) hc1 (Kd.C_below hr5_4 Be.out) hc5_4 HL.out).mono ?_; rintro e wl ⟨vl, rfl, hv, hb⟩; have := Bl.mk hb; obtain ⟨Al, cl, hvl⟩ := Kd.R_slice hv; subst hvl; have HV := m_ hv; clear hb hv))
 have hh := H.out
 clear H HL
 by_cases c8 : e = 0
 ·rw [if_pos c8] at hh
  have t : (e != 0) = false := by rw [c8]; rfl
  clear c8
  go_upto_region 4 with (fail)
  clear t
  by_cases c9 : a5_1 = a4_0
  case' pos =>
   rw [if_pos c9] at hh
   have t : (a5_1 == a4_0) = true := beq_iff_eq.2 c9
   clear c9
   replace hh := bindS hh
   obtain ⟨⟨lg, lc⟩, hT, hh⟩ := hh
   simp only at hh
   have HT := m_ hT
   have H := m_ hh
   clear hT hh
   go_upto_region 6 with (first | (go_at_call 81; refine (fill_take.calls _ _ _ _ _ _ _ _ (Kd.C_below hr5_4 Be.out) hc5_4 HT.out).mono ?_; rintro e wt ⟨rfl, hb⟩; have := Bl.mk hb; clear hb))
   have b8 : Bx ((wt.setCell ⟨g8, 0, none⟩ (.int .i64 lg)).setCell ⟨g8, 1, none⟩ (.int .i64 lc)) g8 #[.int .i64 lg, .int .i64 lc] 24 := bxSetS (h := bxSetS (cs := #[.int .i64 a2_0, .int .i64 a2_1]))
   have b10 : Bx ((wt.setCell ⟨g8, 0, none⟩ (.int .i64 lg)).setCell ⟨g8, 1, none⟩ (.int .i64 lc)) g10 #[.int .i64 a4_0, .int .i64 a4_1, .int .i64 a4_2, .int .i64 a4_3, .int .i64 a4_4, .int .i64 a4_5] 29 := inferInstance
   have b11 : Bx ((wt.setCell ⟨g8, 0, none⟩ (.int .i64 lg)).setCell ⟨g8, 1, none⟩ (.int .i64 lc)) g11 #[.int .i64 a5_0, .int .i64 a5_1, .int .i64 a5_2, .bool a5_3, .slice A5_4 l5_4.length c5_4] 41 := inferInstance
   have be : Be w ((wt.setCell ⟨g8, 0, none⟩ (.int .i64 lg)).setCell ⟨g8, 1, none⟩ (.int .i64 lc)) := inferInstance
   have HV2 := m_ (roFar (g := g8) (j := 1) (u := .int .i64 lc) (roFar (g := g8) (j := 0) (u := .int .i64 lg) (Kd.R_below HV.out (Bl.out (W' := wt))) (by decide)) (by decide))
   generalize (wt.setCell ⟨g8, 0, none⟩ (.int .i64 lg)).setCell ⟨g8, 1, none⟩ (.int .i64 lc) = wq at *
   clear HT HV t
  case' neg =>
   rw [if_neg c9] at hh
   have t : (a5_1 == a4_0) = false := beq_eq_false_iff_ne.2 c9
   clear c9
   obtain ⟨lg, hlg⟩ : ∃ x, x = a2_0 := ⟨_, rfl⟩
   obtain ⟨lc, hlc⟩ : ∃ x, x = a2_1 := ⟨_, rfl⟩
   subst hlg
   subst hlc
   have H := m_ hh
   clear hh
   go_upto_region 6 with (fail)
   obtain ⟨wq, hwq⟩ : ∃ x, x = wl := ⟨_, rfl⟩
   subst hwq
   have b8 : Bx wq g8 #[.int .i64 lg, .int .i64 lc] 24 := inferInstance
   have b10 : Bx wq g10 #[.int .i64 a4_0, .int .i64 a4_1, .int .i64 a4_2, .int .i64 a4_3, .int .i64 a4_4, .int .i64 a4_5] 29 := inferInstance
   have b11 : Bx wq g11 #[.int .i64 a5_0, .int .i64 a5_1, .int .i64 a5_2, .bool a5_3, .slice A5_4 l5_4.length c5_4] 41 := inferInstance
   have be : Be w wq := inferInstance
   have HV2 := HV
   clear HV t
  all_goals
   have hh := H.out
   clear H
   replace hh := bindS hh
   obtain ⟨cl2, hC, hh⟩ := hh
   rw [Option.bind_some] at hh
   by_cases c12 : cl2.length + ([(⟨a5_0, a5_1, a5_2, a5_3, l5_4⟩ : S41)] : List S41).length < 2513169434916
   case neg => rw [if_neg c12] at hh; cases hh
   rw [if_pos c12] at hh
   replace hh := bindS hh
   obtain ⟨⟨t1, t2⟩, hE, hh⟩ := hh
   simp only [Option.some.injEq, Prod.mk.injEq] at hh
   obtain ⟨rfl, rfl⟩ := hh
   obtain ⟨lx, hlx⟩ : ∃ x, x = cl2 ++ [(⟨a5_0, a5_1, a5_2, a5_3, l5_4⟩ : S41)] := ⟨_, rfl⟩
   rw [← hlx] at hE
   have HLX := m_ hlx
   clear hlx
   have HC := m_ hC
   have HE := m_ hE
   clear hC hE
   have HN := m_ c12
   have : Rw k51 wq Al cl less := ⟨(Kd.R_reads' HV2.out).2.2, (Kd.R_reads' HV2.out).2.1⟩
   clear c12
   have HX := m_ (k41_mk w (⟨a5_0, a5_1, a5_2, a5_3, l5_4⟩ : S41) hc5_4 hr5_4)
   go_region_held3 (fun w' => w'.cell? ⟨g8, 0, none⟩ = some (.int .i64 lg) ∧ w'.cell? ⟨g8, 1, none⟩ = some (.int .i64 lc) ∧ w'.cell? ⟨g10, 0, none⟩ = some (.int .i64 a4_0) ∧ w'.cell? ⟨g10, 1, none⟩ = some (.int .i64 a4_1) ∧ w'.cell? ⟨g10, 2, none⟩ = some (.int .i64 a4_2) ∧ w'.cell? ⟨g10, 3, none⟩ = some (.int .i64 a4_3) ∧ w'.cell? ⟨g10, 4, none⟩ = some (.int .i64 a4_4) ∧ w'.cell? ⟨g10, 5, none⟩ = some (.int .i64 a4_5) ∧ w'.cell? ⟨g11, 0, none⟩ = some (.int .i64 a5_0) ∧ w'.cell? ⟨g11, 1, none⟩ = some (.int .i64 a5_1) ∧ w'.cell? ⟨g11, 2, none⟩ = some (.int .i64 a5_2) ∧ w'.cell? ⟨g11, 3, none⟩ = some (.bool a5_3) ∧ w'.cell? ⟨g11, 4, none⟩ = some (.slice A5_4 l5_4.length c5_4)) (((repeat' (refine And.intro ?_ ?_)) <;> first | exact (cellBx _).trans rfl | exact e1_ hb1.out (by first | exact (cellBx _).trans rfl))) (first | ((go_at_call 70); refine (cloneS hr3 Be.out HC).mono ?_; rintro e wc ⟨vc, rfl, hs, hb⟩; have := Bl.mk hb; have HSc := m_ hs; have HBc := m_ hb; clear hs hb) | (refine appS_step k41 (w := w) (by rfl) (.tmp 39) (.tmp 41) 25 41 (.agg #[(.int .i64 0), (.int .i64 0), (.int .i64 0), (.bool false), (.slice none 0 0)]) 56 (by rfl) Try.underlying25 info41 rfl (by decide) (by omega) (by rfl) (by rfl) (by first | exact HSc.out | exact HSc.out.step (b5_ (Below.refl _ _) _)) (rowBx HX.out) (by first | exact HBc.out | exact b5_ HBc.out _) (by have := HN.out; simp at this ⊢; omega) ?_; intro v1 w1 hs1 hb1; rw [← HLX.out] at hs1; obtain ⟨Ae, ce, hve, hq⟩ := hs1.read Be.out; subst hve; have HQ := m_ hq; clear hs1) | (go_at_call 27; refine (promise_Earliest.calls _ _ _ _ _ _ _ _ _ _ _ _ _ _ _ _ _ _ (Rw.out (k := k51) (A := Al) (l := less)) (Rw.le (k := k51) (W := w1) (A := Al) (l := less)) HQ.out.out HQ.out.le HE.out).mono ?_; rintro e we ⟨rfl, hb⟩; have := Bl.mk hb; clear hb))
   all_goals go_wp2
   all_goals go_ret2
   all_goals exact ⟨rfl, Be.out⟩
 ·rw [if_neg c8] at hh
  simp only [Option.some.injEq, Prod.mk.injEq] at hh
  obtain ⟨rfl, rfl⟩ := hh
  have t : (e != 0) = true := bne_iff_ne.2 c8
  clear c8
  go_wp2
  go_ret2
  exact ⟨rfl, Be.out⟩
end Go.Proofs.Ytckhjehibjdjdaa.P
namespace Go.Proofs.Ytckhjehibjdjdaa.P
open Go.RowKit Go.Proofs.YtckhjehibjdjdaaW.PrintWords Go.Proofs.YtckhjehibjdjdaaW.PrintLast Go.Proofs.YtckhjehibjdjdaaW.PrintMore
attribute [local go_sem] max2_int min2_int max_two min_two max_three min_three max_four min_four
def fill_Safe.f (a0 : Int) (l1 : List (S51)) (a2_0 a2_1 : Int) (l3 : List (S41)) (a4_0 a4_1 a4_2 a4_3 a4_4 a4_5 a5 a6_0 a6_1 a6_2 : Int) (a6_3 : Bool) (l6_4 : List (S52)) : Option (Bool × Int) := (fill_After.f a0 l1 a2_0 a2_1 l3 a4_0 a4_1 a4_2 a4_3 a4_4 a4_5 a6_0 a6_1 a6_2 a6_3 l6_4).bind fun bt329 => (if bt329.2 = 0 then (some (decide (bt329.1 ≤ (mx a0 a5)), bt329.2)) else (some (false, bt329.2)))
set_option maxHeartbeats 8000000 in
set_option maxRecDepth 100000 in
theorem fill_Safe.calls (a0 : Int) (A1 : Option Addr) (c1 : Nat) (l1 : List (S51)) (a2_0 a2_1 : Int) (A3 : Option Addr) (c3 : Nat) (l3 : List (S41)) (a4_0 a4_1 a4_2 a4_3 a4_4 a4_5 a5 a6_0 a6_1 a6_2 : Int) (a6_3 : Bool) (A6_4 : Option Addr) (c6_4 : Nat) (l6_4 : List (S52)) (r1 : Bool) (r2 : Int) (w : World) (hr1 : Kd.C k51 w A1 l1.length l1) (hc1 : l1.length ≤ c1) (hr3 : Kd.C k41 w A3 l3.length l3) (hc3 : l3.length ≤ c3) (hr6_4 : Kd.C k52 w A6_4 l6_4.length l6_4) (hc6_4 : l6_4.length ≤ c6_4) (h : fill_Safe.f a0 l1 a2_0 a2_1 l3 a4_0 a4_1 a4_2 a4_3 a4_4 a4_5 a5 a6_0 a6_1 a6_2 a6_3 l6_4 = some (r1, r2)) :
  Calls Try.prog 37 #[.int .i64 a0, .slice A1 l1.length c1, .agg #[.int .i64 a2_0, .int .i64 a2_1], .slice A3 l3.length c3, .agg #[.int .i64 a4_0, .int .i64 a4_1, .int .i64 a4_2, .int .i64 a4_3, .int .i64 a4_4, .int .i64 a4_5], .int .i64 a5, .agg #[.int .i64 a6_0, .int .i64 a6_1, .int .i64 a6_2, .bool a6_3, .slice A6_4 l6_4.length c6_4]] w fun e w' => e = .returned (.tuple #[.bool r1, .int .i64 r2]) ∧ Below w.heap.size w w' := by
 have hu24 := Try.underlying24
 have hu29 := Try.underlying29
 have hu41 := Try.underlying41
 have HR1 := m_ hr1
 have HC1 := m_ hc1
 clear hr1 hc1
 have HR3 := m_ hr3
 have HC3 := m_ hc3
 clear hr3 hc3
 have HR6_4 := m_ hr6_4
 have HC6_4 := m_ hc6_4
 clear hr6_4 hc6_4
 have HB := m_ (Below.refl w.heap.size w)
 have H := h
 unfold fill_Safe.f at H
 clear h
 replace H := Option.bind_eq_some_iff.mp H
 obtain ⟨⟨t329, t330⟩, A80, H⟩ := H
 try dsimp only at H
 have A8 := m_ A80
 clear A80
 by_cases c9 : t330 = 0
 ·rw [if_pos c9] at H
  have c9b0 : (t330 == 0) = true := beq_iff_eq.mpr c9
  have c9b1 : (t330 != 0) = false := bne_eq_false_iff_eq.mpr c9
  clear c9
  obtain ⟨ji10, hji10⟩ : ∃ j_ : Int, (mx a0 a5) = j_ := ⟨_, rfl⟩
  replace H : (some (decide (t329 ≤ (ji10)), t330)) = some (r1, r2) := by first | (rw [hji10] at H; exact H) | (simp only [hji10] at H ⊢; exact H)
  (try rw [hji10] at A8)
  have hji10_ : (if a0 < a5 then a5 else a0) = ji10 := hji10
  simp only [Option.some.injEq, Prod.mk.injEq] at H
  obtain ⟨rfl, rfl⟩ := H
  go_enter Try.func37, Try.ntmps37
  go_wp2_with (first | ((with_reducible refine a3_ (N := 9) rfl ?_); (try (refine gate_guard (by rfl) ?_; dsimp only)); refine bx 9 #[.int .i64 a2_0, .int .i64 a2_1] 24 ?_; intro gb326 hg w11 hbox hb; have BK326 := m_ (hbox); have GW326 := ge_ hg; have GE326 := ge_ hg; replace HB := hs_ hb; clear hb hbox hg) | ((with_reducible refine a3_ (N := 11) rfl ?_); (try (refine gate_guard (by rfl) ?_; dsimp only)); refine bx 11 #[.int .i64 a4_0, .int .i64 a4_1, .int .i64 a4_2, .int .i64 a4_3, .int .i64 a4_4, .int .i64 a4_5] 29 ?_; intro gb327 hg w12 hbox hb; have BK327 := m_ (hbox); have GW327 := ge_ hg; have GE327 := ge_ hg; have NB326_327 := nl_ BK326 hg; have NB327_326 := nr_ BK326 hg; replace BK326 := bk_ BK326 hb; replace HB := hs_ hb; clear hb hbox hg) | ((with_reducible refine a3_ (N := 13) rfl ?_); (try (refine gate_guard (by rfl) ?_; dsimp only)); refine bx 13 #[.int .i64 a6_0, .int .i64 a6_1, .int .i64 a6_2, .bool a6_3, .slice A6_4 l6_4.length c6_4] 41 ?_; intro gb328 hg w13 hbox hb; have BK328 := m_ (hbox); have GW328 := ge_ hg; have GE328 := ge_ hg; have NB326_328 := nl_ BK326 hg; have NB328_326 := nr_ BK326 hg; have NB327_328 := nl_ BK327 hg; have NB328_327 := nr_ BK327 hg; replace BK326 := bk_ BK326 hb; replace BK327 := bk_ BK327 hb; replace HB := hs_ hb; clear hb hbox hg; have hnb14 := NB326_327.out; have hnc14 := NB327_326.out; have hnb15 := NB326_328.out; have hnc15 := NB328_326.out; obtain ⟨hcz16_0, hcz16_1, hfz16_0, hfz16_1⟩ := bz2_ BK326; have hnb17 := NB327_328.out; have hnc17 := NB328_327.out; obtain ⟨hcz18_0, hcz18_1, hcz18_2, hcz18_3, hcz18_4, hcz18_5, hfz18_0, hfz18_1, hfz18_2, hfz18_3, hfz18_4, hfz18_5⟩ := bz6_ BK327; obtain ⟨hcz19_0, hcz19_1, hcz19_2, hcz19_3, hcz19_4, hfz19_0, hfz19_1, hfz19_2, hfz19_3, hfz19_4⟩ := bz5_ BK328) | ((with_reducible refine b3_ (f := 39) rfl ?_); refine goesL_ (some 25) rfl rfl Try.func39 (by kernel_rfl) rfl #[.int .i64 a0, .slice A1 l1.length c1, .agg #[.int .i64 a2_0, .int .i64 a2_1], .slice A3 l3.length c3, .agg #[.int .i64 a4_0, .int .i64 a4_1, .int .i64 a4_2, .int .i64 a4_3, .int .i64 a4_4, .int .i64 a4_5], .agg #[.int .i64 a6_0, .int .i64 a6_1, .int .i64 a6_2, .bool a6_3, .slice A6_4 l6_4.length c6_4]] rfl Z0 ?_; (with_reducible refine (fill_After.calls a0 _ _ l1 a2_0 a2_1 _ _ l3 a4_0 a4_1 a4_2 a4_3 a4_4 a4_5 a6_0 a6_1 a6_2 a6_3 _ _ l6_4 t329 t330 _ ?side1 ?side2 ?side3 ?side4 ?side5 ?side6 A8.out).mono ?_); (case side1 => exact cs_ HR1); (case side2 => exact HC1.out); (case side3 => exact cs_ HR3); (case side4 => exact HC3.out); (case side5 => exact cs_ HR6_4); (case side6 => exact HC6_4.out); rintro e w20 ⟨rfl, hb⟩; refine ⟨_, rfl, ?_⟩; replace BK326 := bk_ BK326 hb; replace BK327 := bk_ BK327 hb; replace BK328 := bk_ BK328 hb; replace HB := hs_ hb; (try clear hb); (try clear hb2); (try clear hk); (try clear hi)))
  go_ret2
  exact ⟨by first | rfl | (simp [b2_, b1_] <;> rfl) | (simp only [← hji10]; first | rfl | (simp [b2_, b1_] <;> rfl)) | (simp [*, b2_, b1_] <;> rfl), hb_⟩
 ·rw [if_neg c9] at H
  have c9b0 : (t330 == 0) = false := beq_eq_false_iff_ne.mpr c9
  have c9b1 : (t330 != 0) = true := bne_iff_ne.mpr c9
  simp only [Option.some.injEq, Prod.mk.injEq] at H
  obtain ⟨rfl, rfl⟩ := H
  go_enter Try.func37, Try.ntmps37
  go_wp2_with (first | ((with_reducible refine a3_ (N := 9) rfl ?_); (try (refine gate_guard (by rfl) ?_; dsimp only)); refine bx 9 #[.int .i64 a2_0, .int .i64 a2_1] 24 ?_; intro gb326 hg w21 hbox hb; have BK326 := m_ (hbox); have GW326 := ge_ hg; have GE326 := ge_ hg; replace HB := hs_ hb; clear hb hbox hg) | ((with_reducible refine a3_ (N := 11) rfl ?_); (try (refine gate_guard (by rfl) ?_; dsimp only)); refine bx 11 #[.int .i64 a4_0, .int .i64 a4_1, .int .i64 a4_2, .int .i64 a4_3, .int .i64 a4_4, .int .i64 a4_5] 29 ?_; intro gb327 hg w22 hbox hb; have BK327 := m_ (hbox); have GW327 := ge_ hg; have GE327 := ge_ hg; have NB326_327 := nl_ BK326 hg; have NB327_326 := nr_ BK326 hg; replace BK326 := bk_ BK326 hb; replace HB := hs_ hb; clear hb hbox hg) | ((with_reducible refine a3_ (N := 13) rfl ?_); (try (refine gate_guard (by rfl) ?_; dsimp only)); refine bx 13 #[.int .i64 a6_0, .int .i64 a6_1, .int .i64 a6_2, .bool a6_3, .slice A6_4 l6_4.length c6_4] 41 ?_; intro gb328 hg w23 hbox hb; have BK328 := m_ (hbox); have GW328 := ge_ hg; have GE328 := ge_ hg; have NB326_328 := nl_ BK326 hg; have NB328_326 := nr_ BK326 hg; have NB327_328 := nl_ BK327 hg; have NB328_327 := nr_ BK327 hg; replace BK326 := bk_ BK326 hb; replace BK327 := bk_ BK327 hb; replace HB := hs_ hb; clear hb hbox hg; have hnb24 := NB326_327.out; have hnc24 := NB327_326.out; have hnb25 := NB326_328.out; have hnc25 := NB328_326.out; obtain ⟨hcz26_0, hcz26_1, hfz26_0, hfz26_1⟩ := bz2_ BK326; have hnb27 := NB327_328.out; have hnc27 := NB328_327.out; obtain ⟨hcz28_0, hcz28_1, hcz28_2, hcz28_3, hcz28_4, hcz28_5, hfz28_0, hfz28_1, hfz28_2, hfz28_3, hfz28_4, hfz28_5⟩ := bz6_ BK327; obtain ⟨hcz29_0, hcz29_1, hcz29_2, hcz29_3, hcz29_4, hfz29_0, hfz29_1, hfz29_2, hfz29_3, hfz29_4⟩ := bz5_ BK328) | ((with_reducible refine b3_ (f := 39) rfl ?_); refine goesL_ (some 25) rfl rfl Try.func39 (by kernel_rfl) rfl #[.int .i64 a0, .slice A1 l1.length c1, .agg #[.int .i64 a2_0, .int .i64 a2_1], .slice A3 l3.length c3, .agg #[.int .i64 a4_0, .int .i64 a4_1, .int .i64 a4_2, .int .i64 a4_3, .int .i64 a4_4, .int .i64 a4_5], .agg #[.int .i64 a6_0, .int .i64 a6_1, .int .i64 a6_2, .bool a6_3, .slice A6_4 l6_4.length c6_4]] rfl Z0 ?_; (with_reducible refine (fill_After.calls a0 _ _ l1 a2_0 a2_1 _ _ l3 a4_0 a4_1 a4_2 a4_3 a4_4 a4_5 a6_0 a6_1 a6_2 a6_3 _ _ l6_4 t329 t330 _ ?side1 ?side2 ?side3 ?side4 ?side5 ?side6 A8.out).mono ?_); (case side1 => exact cs_ HR1); (case side2 => exact HC1.out); (case side3 => exact cs_ HR3); (case side4 => exact HC3.out); (case side5 => exact cs_ HR6_4); (case side6 => exact HC6_4.out); rintro e w30 ⟨rfl, hb⟩; refine ⟨_, rfl, ?_⟩; replace BK326 := bk_ BK326 hb; replace BK327 := bk_ BK327 hb; replace BK328 := bk_ BK328 hb; replace HB := hs_ hb; (try clear hb); (try clear hb2); (try clear hk); (try clear hi)))
  go_ret2
  exact ⟨by first | rfl | (simp [b2_, b1_] <;> rfl) | (simp [*, b2_, b1_] <;> rfl), hb_⟩
end Go.Proofs.Ytckhjehibjdjdaa.P
namespace Go.Proofs.Ytckhjehibjdjdaa.P
open Go.RowKit Go.Proofs.YtckhjehibjdjdaaW.PrintWords Go.Proofs.YtckhjehibjdjdaaW.PrintLast Go.Proofs.YtckhjehibjdjdaaW.PrintMore
attribute [local go_sem] cellBx frozBx
def headL (h : Int) : List S105 → Int × Int × Int × Int × Int × Int × Bool
 | [] => (0, 0, 0, 0, 0, 0, false)
 | x :: r => if h ≠ 0 ∧ x.f0.f0 = h then (x.f0.f1, x.f0.f4.f2, x.f0.f4.f0, x.f0.f4.f1, x.f0.f4.f2, x.f0.f4.f3, true) else headL h r
def elastic_Head.f (a0_0 a0_1 a0_2 a0_3 : Int) (l0_4 : List S51) (l0_5 : List S24) (l0_6 : List S41) (l0_7 : List S105) (l0_8 : List S149) : Option (Int × Int × Int × Int × Int × Int × Bool) := if l0_7.length ≤ 1000000 then some (headL a0_1 l0_7) else none
set_option maxHeartbeats 8000000 in
set_option maxRecDepth 100000 in
theorem elastic_Head.calls (a0_0 a0_1 a0_2 a0_3 : Int) (A0_4 : Option Addr) (c0_4 : Nat) (l0_4 : List (S51)) (A0_5 : Option Addr) (c0_5 : Nat) (l0_5 : List (S24)) (A0_6 : Option Addr) (c0_6 : Nat) (l0_6 : List (S41)) (A0_7 : Option Addr) (c0_7 : Nat) (l0_7 : List (S105)) (A0_8 : Option Addr) (c0_8 : Nat) (l0_8 : List (S149)) (r1 r2 r3 r4 r5 r6 : Int) (r7 : Bool) (w : World) (hr0_4 : Kd.C k51 w A0_4 l0_4.length l0_4) (hc0_4 : l0_4.length ≤ c0_4) (hr0_5 : Kd.C k24 w A0_5 l0_5.length l0_5) (hc0_5 : l0_5.length ≤ c0_5) (hr0_6 : Kd.C k41 w A0_6 l0_6.length l0_6) (hc0_6 : l0_6.length ≤ c0_6) (hr0_7 : Kd.C k105 w A0_7 l0_7.length l0_7) (hc0_7 : l0_7.length ≤ c0_7) (hr0_8 : Kd.C k149 w A0_8 l0_8.length l0_8) (hc0_8 : l0_8.length ≤ c0_8) (h : elastic_Head.f a0_0 a0_1 a0_2 a0_3 l0_4 l0_5 l0_6 l0_7 l0_8 = some (r1, r2, r3, r4, r5, r6, r7)) :
  Calls Try.prog 60 #[.agg #[.int .i64 a0_0, .int .i64 a0_1, .int .i64 a0_2, .int .i64 a0_3, .slice A0_4 l0_4.length c0_4, .slice A0_5 l0_5.length c0_5, .slice A0_6 l0_6.length c0_6, .slice A0_7 l0_7.length c0_7, .slice A0_8 l0_8.length c0_8]] w fun e w' => e = .returned (.tuple #[.agg #[.int .i64 r1, .int .i64 r2, .int .i64 r3, .int .i64 r4, .int .i64 r5, .int .i64 r6], .bool r7]) ∧ Below w.heap.size w w' := by
 have hu86 := Try.underlying86
 have hu29 := Try.underlying29
 have hu105 := Try.underlying105
 have hu88 := Try.underlying88
 have hu27 := Try.underlying27
 have HR0_7 := m_ hr0_7
 clear hr0_4 hc0_4 hr0_5 hc0_5 hr0_6 hc0_6 hr0_7 hc0_7 hr0_8 hc0_8
 have : Be w w := ⟨Below.refl _ _⟩
 unfold elastic_Head.f at h
 by_cases hn : l0_7.length ≤ 1000000
 case neg => rw [if_neg hn] at h; cases h
 rw [if_pos hn] at h
 have HN := m_ hn
 have HA0 := m_ (show headL a0_1 (l0_7.drop 0) = (r1, r2, r3, r4, r5, r6, r7) from Option.some.inj h)
 clear h hn
 go_enter Try.func60, Try.ntmps60
 go_wp2_with (first | ((with_reducible refine a3_ (N := 1) rfl ?_); refine bxT 1 #[.int .i64 a0_0, .int .i64 a0_1, .int .i64 a0_2, .int .i64 a0_3, .slice A0_4 l0_4.length c0_4, .slice A0_5 l0_5.length c0_5, .slice A0_6 l0_6.length c0_6, .slice A0_7 l0_7.length c0_7, .slice A0_8 l0_8.length c0_8] 86 ?_; intro g1 w1 _ _ _) | ((with_reducible refine a3_ (N := 2) rfl ?_); refine bxT 2 #[.int .i64 0, .int .i64 0, .int .i64 0, .int .i64 0, .int .i64 0, .int .i64 0] 29 ?_; intro g2 w2 _ _ _))
 go_loopw [10] (fun v10 wr => ∃ i : Nat, i ≤ l0_7.length ∧ v10 = .int .i64 (i : Int) ∧ A_ (headL a0_1 (l0_7.drop i) = (r1, r2, r3, r4, r5, r6, r7)) ∧ Bx wr g1 #[.int .i64 a0_0, .int .i64 a0_1, .int .i64 a0_2, .int .i64 a0_3, .slice A0_4 l0_4.length c0_4, .slice A0_5 l0_5.length c0_5, .slice A0_6 l0_6.length c0_6, .slice A0_7 l0_7.length c0_7, .slice A0_8 l0_8.length c0_8] 86 ∧ Bx wr g2 #[.int .i64 0, .int .i64 0, .int .i64 0, .int .i64 0, .int .i64 0, .int .i64 0] 29 ∧ Be w wr) (fun v10 _ => l0_7.length - (intOf v10).toNat)
 case atStart => exact ⟨0, Nat.zero_le _, rfl, HA0, inferInstance, inferInstance, inferInstance⟩
 case round =>
  clear HA0
  obtain ⟨i, hi, rfl, HA, b1, b2, be⟩ := hrel
  by_cases hlt : i < l0_7.length
  ·have hib : (i : Int) ≤ 1000000 := by have := HN.out; omega
   have hrC := Kd.C_below HR0_7.out be.out
   obtain ⟨ad1, ee, y0, y1, y2, y3, y4, y5, y6, y7, y8, y9⟩ := at_T105 hrC (i : Int) (by omega) (by omega)
   cases ee
   clear hrC
   simp only [Int.toNat_natCast] at y0 y1 y2 y3 y4 y5 y6 y7 y8 y9
   have hx : a6_ l0_7 (i : Int) = l0_7[i] := by simp [a6_, List.getD_eq_getElem?_getD, List.getElem?_eq_getElem hlt]
   have ha := HA.out
   rw [List.drop_eq_getElem_cons hlt] at ha
   rw [hx] at y0 y1 y2 y3 y4 y5 y6 y7 y8 y9
   generalize l0_7[i] = x at *
   rw [headL] at ha
   have HA2 := m_ ha
   have HLT := m_ hlt
   have hlt' : (i : Int) < l0_7.length := by omega
   have h0i : 0 ≤ (i : Int) := by omega
   clear HA ha hx hlt
   have ha := HA2.out
   clear HA2
   by_cases h0 : a0_1 ≠ 0 ∧ x.f0.f0 = a0_1
   ·rw [if_pos h0] at ha
    simp only [Prod.mk.injEq] at ha
    obtain ⟨rfl, rfl, rfl, rfl, rfl, rfl, rfl⟩ := ha
    have t0 : (a0_1 != 0) = true := bne_iff_ne.2 h0.1
    have t1 : (x.f0.f0 == a0_1) = true := beq_iff_eq.2 h0.2
    clear h0
    go_wp2
    refine bodyPost_ret (results_ct rfl _ _ g2 29 _ (0, 0) _ rfl Bx.out Try.underlying29 rfl (by kernel_rfl)) rfl ?_
    exact ⟨rfl, Be.out⟩
   ·rw [if_neg h0] at ha
    have HA3 := m_ ha
    clear ha
    by_cases h1 : a0_1 = 0
    ·have t0 : (a0_1 != 0) = false := by simpa using h1
     clear h0 h1
     go_wp2
     go_roundw
     case rel => exact ⟨i + 1, HLT.out, by go_num, HA3, inferInstance, inferInstance, inferInstance⟩
     case measure => have := HLT.out; simp [intOf]; omega
    ·have t0 : (a0_1 != 0) = true := bne_iff_ne.2 h1
     have t1 : (x.f0.f0 == a0_1) = false := beq_eq_false_iff_ne.2 fun h => h0 ⟨h1, h⟩
     clear h0 h1
     go_wp2
     go_roundw
     case rel => exact ⟨i + 1, HLT.out, by go_num, HA3, inferInstance, inferInstance, inferInstance⟩
     case measure => have := HLT.out; simp [intOf]; omega
  ·obtain rfl : i = l0_7.length := by omega
   have ha := HA.out
   rw [List.drop_length, headL] at ha
   simp only [Prod.mk.injEq] at ha
   obtain ⟨rfl, rfl, rfl, rfl, rfl, rfl, rfl⟩ := ha
   clear HA
   go_wp2
   refine bodyPost_ret (results_ct rfl _ _ g2 29 _ (0, 0) _ rfl Bx.out Try.underlying29 rfl (by kernel_rfl)) rfl ?_
   exact ⟨rfl, Be.out⟩
end Go.Proofs.Ytckhjehibjdjdaa.P
namespace Go.Proofs.Ytckhjehibjdjdaa.P
open Go.RowKit Go.Proofs.YtckhjehibjdjdaaW.PrintWords Go.Proofs.YtckhjehibjdjdaaW.PrintLast Go.Proofs.YtckhjehibjdjdaaW.PrintMore
attribute [local go_sem] max2_int min2_int max_two min_two max_three min_three max_four min_four
attribute [local go_sem] cellBx frozBx
def elastic_safe.j0 : Nat → Bool → Int → Int → Int → Int → List (S51) → List (S24) → List (S41) → List (S105) → List (S149) → Int → Int → Int → Bool → List (S52) → Int → Int → Int → Int → Int → Int → Option (Bool)
 | 0, _, _, _, _, _, _, _, _, _, _, _, _, _, _, _, _, _, _, _, _, _ => none
 | k + 1, x22, x887000, x887001, x887002, x887003, x887004, x887005, x887006, x887007, x887008, x888000, x888001, x888002, x888003, x888004, x896000, x896001, x896002, x896003, x896004, x896005 => if x22 = true then (some true) else (if x896000 < 0 then (some false) else (if x896000 ≥ (x887005.length : Int) then (some false) else (if 0 ≤ x896000 then (if x896000 < (x887005.length : Int) then ((fill_Safe.f x887000 x887004 ((a7_ x887005 x896000).f0) ((a7_ x887005 x896000).f1) x887006 x896000 x896001 x896002 x896003 x896004 x896005 x887002 x888000 x888001 x888002 x888003 x888004).bind fun bt897 => (some bt897.1)) else (none)) else (none))))
def elastic_safe.f (k : Nat) (a0_0 a0_1 a0_2 a0_3 : Int) (l0_4 : List (S51)) (l0_5 : List (S24)) (l0_6 : List (S41)) (l0_7 : List (S105)) (l0_8 : List (S149)) (a1_0 a1_1 a1_2 : Int) (a1_3 : Bool) (l1_4 : List (S52)) : Option (Bool) := (elastic_Head.f a0_0 a0_1 a0_2 a0_3 l0_4 l0_5 l0_6 l0_7 l0_8).bind fun bt888 => (if bt888.2.2.2.2.2.2 = true then (elastic_safe.j0 k (a1_0 == a0_1) a0_0 a0_1 a0_2 a0_3 l0_4 l0_5 l0_6 l0_7 l0_8 a1_0 a1_1 a1_2 a1_3 l1_4 bt888.1 bt888.2.1 bt888.2.2.1 bt888.2.2.2.1 bt888.2.2.2.2.1 bt888.2.2.2.2.2.1) else (elastic_safe.j0 k true a0_0 a0_1 a0_2 a0_3 l0_4 l0_5 l0_6 l0_7 l0_8 a1_0 a1_1 a1_2 a1_3 l1_4 bt888.1 bt888.2.1 bt888.2.2.1 bt888.2.2.2.1 bt888.2.2.2.2.1 bt888.2.2.2.2.2.1))
set_option maxHeartbeats 8000000 in
set_option maxRecDepth 100000 in
theorem elastic_safe.calls (k : Nat) (a0_0 a0_1 a0_2 a0_3 : Int) (A0_4 : Option Addr) (c0_4 : Nat) (l0_4 : List (S51)) (A0_5 : Option Addr) (c0_5 : Nat) (l0_5 : List (S24)) (A0_6 : Option Addr) (c0_6 : Nat) (l0_6 : List (S41)) (A0_7 : Option Addr) (c0_7 : Nat) (l0_7 : List (S105)) (A0_8 : Option Addr) (c0_8 : Nat) (l0_8 : List (S149)) (a1_0 a1_1 a1_2 : Int) (a1_3 : Bool) (A1_4 : Option Addr) (c1_4 : Nat) (l1_4 : List (S52)) (r : Bool) (w : World) (hr0_4 : Kd.C k51 w A0_4 l0_4.length l0_4) (hc0_4 : l0_4.length ≤ c0_4) (hr0_5 : Kd.C k24 w A0_5 l0_5.length l0_5) (hc0_5 : l0_5.length ≤ c0_5) (hr0_6 : Kd.C k41 w A0_6 l0_6.length l0_6) (hc0_6 : l0_6.length ≤ c0_6) (hr0_7 : Kd.C k105 w A0_7 l0_7.length l0_7) (hc0_7 : l0_7.length ≤ c0_7) (hr0_8 : Kd.C k149 w A0_8 l0_8.length l0_8) (hc0_8 : l0_8.length ≤ c0_8) (hr1_4 : Kd.C k52 w A1_4 l1_4.length l1_4) (hc1_4 : l1_4.length ≤ c1_4) (h : elastic_safe.f k a0_0 a0_1 a0_2 a0_3 l0_4 l0_5 l0_6 l0_7 l0_8 a1_0 a1_1 a1_2 a1_3 l1_4 = some r) :
  Calls Try.prog 97 #[.agg #[.int .i64 a0_0, .int .i64 a0_1, .int .i64 a0_2, .int .i64 a0_3, .slice A0_4 l0_4.length c0_4, .slice A0_5 l0_5.length c0_5, .slice A0_6 l0_6.length c0_6, .slice A0_7 l0_7.length c0_7, .slice A0_8 l0_8.length c0_8], .agg #[.int .i64 a1_0, .int .i64 a1_1, .int .i64 a1_2, .bool a1_3, .slice A1_4 l1_4.length c1_4]] w fun e w' => e = .returned (.bool r) ∧ Below w.heap.size w w' := by
 have hu86 := Try.underlying86
 have hu41 := Try.underlying41
 have hu29 := Try.underlying29
 have hu24 := Try.underlying24
 have hu27 := Try.underlying27
 have : Be w w := ⟨Below.refl _ _⟩
 unfold elastic_safe.f at h
 replace h := bindS h
 obtain ⟨⟨q, m, s1, s2, s3, s4, ok⟩, hH, h⟩ := h
 simp only at h
 have HH := m_ hH
 have H := m_ h
 clear hH h
 go_enter Try.func97, Try.ntmps97
 go_upto_region 2 with (first | ((with_reducible refine a3_ (N := 2) rfl ?_); refine bxT 2 #[.int .i64 a0_0, .int .i64 a0_1, .int .i64 a0_2, .int .i64 a0_3, .slice A0_4 l0_4.length c0_4, .slice A0_5 l0_5.length c0_5, .slice A0_6 l0_6.length c0_6, .slice A0_7 l0_7.length c0_7, .slice A0_8 l0_8.length c0_8] 86 ?_; intro g2 w2 _ _ _) | ((with_reducible refine a3_ (N := 3) rfl ?_); refine bxT 3 #[.int .i64 a1_0, .int .i64 a1_1, .int .i64 a1_2, .bool a1_3, .slice A1_4 l1_4.length c1_4] 41 ?_; intro g3 w3 _ _ _) | (go_at_call 60; refine (elastic_Head.calls _ _ _ _ _ _ _ _ _ _ _ _ _ _ _ _ _ _ _ _ _ _ _ _ _ _ _ (Kd.C_below hr0_4 Be.out) hc0_4 (Kd.C_below hr0_5 Be.out) hc0_5 (Kd.C_below hr0_6 Be.out) hc0_6 (Kd.C_below hr0_7 Be.out) hc0_7 (Kd.C_below hr0_8 Be.out) hc0_8 HH.out).mono ?_; rintro e wh ⟨rfl, hb⟩; have := Bl.mk hb; clear hb))
 obtain ⟨g5, w5, _, _, _, e1, e2⟩ := nameA wh #[.int .i64 q, .int .i64 m, .int .i64 s1, .int .i64 s2, .int .i64 s3, .int .i64 s4] 29
 rw [e1, e2]
 clear e1 e2
 have hh := H.out
 clear H HH
 cases ok with
 | false =>
  rw [if_neg (by decide)] at hh
  cases k with
  | zero => exact absurd hh (by simp [elastic_safe.j0])
  | succ k =>
   rw [elastic_safe.j0, if_pos rfl] at hh
   obtain rfl := Option.some.inj hh
   clear hh
   go_wp2
   go_ret
   exact ⟨rfl, Be.out⟩
 | true =>
  rw [if_pos rfl] at hh
  cases k with
  | zero => exact absurd hh (by simp [elastic_safe.j0])
  | succ k =>
   rw [elastic_safe.j0] at hh
   by_cases hi : a1_0 = a0_1
   ·have t : (a1_0 == a0_1) = true := beq_iff_eq.2 hi
    rw [t, if_pos rfl] at hh
    obtain rfl := Option.some.inj hh
    clear hh
    clear hi
    go_wp2
    go_ret
    exact ⟨rfl, Be.out⟩
   ·have t : (a1_0 == a0_1) = false := beq_eq_false_iff_ne.2 hi
    rw [t, if_neg (by decide)] at hh
    by_cases c1 : q < 0
    ·rw [if_pos c1] at hh
     obtain rfl := Option.some.inj hh
     clear hh
     have q1 := decide_eq_true c1
     clear c1 hi
     go_wp2
     go_ret
     exact ⟨rfl, Be.out⟩
    rw [if_neg c1] at hh
    by_cases c2 : q ≥ (l0_5.length : Int)
    ·rw [if_pos c2] at hh
     obtain rfl := Option.some.inj hh
     clear hh
     have q1 := decide_eq_false c1
     have q2 := decide_eq_true c2
     clear c1 c2 hi
     go_wp2
     go_ret
     exact ⟨rfl, Be.out⟩
    rw [if_neg c2, if_pos (by omega), if_pos (by omega)] at hh
    replace hh := bindS hh
    obtain ⟨⟨r1, r2⟩, hS, hh⟩ := hh
    simp only at hh
    obtain rfl := Option.some.inj hh
    clear hh
    have HS := m_ hS
    clear hS
    have p1 : decide (q < 0) = false := decide_eq_false c1
    have p2 : decide (q ≥ (l0_5.length : Int)) = false := decide_eq_false c2
    have p3 : (0 ≤ q) = True := eq_true (by omega)
    have p4 : (q < (l0_5.length : Int)) = True := eq_true (by omega)
    obtain ⟨ad, hea, y0, y1⟩ := at_T24 hr0_5 q (by omega) (by omega)
    subst hea
    clear c1 c2
    go_upto_region 6 with (fail)
    clear p1 p2
    go_region_held3 (fun w' => w'.cell? ⟨g2, 0, none⟩ = some (.int .i64 a0_0) ∧ w'.cell? ⟨g2, 4, none⟩ = some (.slice A0_4 l0_4.length c0_4) ∧ w'.cell? ⟨g2, 5, none⟩ = some (.slice (some ad) l0_5.length c0_5) ∧ w'.cell? ⟨g2, 6, none⟩ = some (.slice A0_6 l0_6.length c0_6) ∧ w'.cell? ⟨g2, 2, none⟩ = some (.int .i64 a0_2) ∧ w'.cell? ⟨g5, 0, none⟩ = some (.int .i64 q) ∧ w'.cell? ⟨g5, 1, none⟩ = some (.int .i64 m) ∧ w'.cell? ⟨g5, 2, none⟩ = some (.int .i64 s1) ∧ w'.cell? ⟨g5, 3, none⟩ = some (.int .i64 s2) ∧ w'.cell? ⟨g5, 4, none⟩ = some (.int .i64 s3) ∧ w'.cell? ⟨g5, 5, none⟩ = some (.int .i64 s4) ∧ w'.cell? ⟨g3, 0, none⟩ = some (.int .i64 a1_0) ∧ w'.cell? ⟨g3, 1, none⟩ = some (.int .i64 a1_1) ∧ w'.cell? ⟨g3, 2, none⟩ = some (.int .i64 a1_2) ∧ w'.cell? ⟨g3, 3, none⟩ = some (.bool a1_3) ∧ w'.cell? ⟨g3, 4, none⟩ = some (.slice A1_4 l1_4.length c1_4) ∧ w'.cell? (ad.add (q.toNat * 2)) = some (.int .i64 (a7_ l0_5 q).f0) ∧ w'.cell? ⟨(ad.add (q.toNat * 2)).block, (ad.add (q.toNat * 2)).off + 1, none⟩ = some (.int .i64 (a7_ l0_5 q).f1)) (((repeat' (refine And.intro ?_ ?_)) <;> first | exact (cellBx _).trans rfl | exact e1_ Be.out y0 | exact e1_ Be.out y1)) ((go_at_call 37; refine (fill_Safe.calls _ _ _ _ _ _ _ _ _ _ _ _ _ _ _ _ _ _ _ _ _ _ _ _ _ _ (Kd.C_below hr0_4 Be.out) hc0_4 (Kd.C_below hr0_6 Be.out) hc0_6 (Kd.C_below hr1_4 Be.out) hc1_4 HS.out).mono ?_; rintro e ws ⟨rfl, hb⟩; have := Bl.mk hb; clear hb))
    go_wp2
    go_ret
    exact ⟨rfl, Be.out⟩
end Go.Proofs.Ytckhjehibjdjdaa.P
namespace Go.Proofs.Ytckhjehibjdjdaa.P
open Go.RowKit Go.Shelf Go.Proofs.YtckhjehibjdjdaaW.PrintWords Go.Proofs.YtckhjehibjdjdaaW.PrintLast Go.Proofs.YtckhjehibjdjdaaW.PrintMore
open Go.Proofs.Ytckhjehibjdjdaa.RF
attribute [local go_sem] Oper.semAt_some
set_option maxHeartbeats 8000000 in
set_option maxRecDepth 100000 in
theorem try_calls (ks : Nat) (a0_0 a0_1 a0_2 a0_3 : Int) (A0_4 : Option Addr) (c0_4 : Nat) (l0_4 : List (S51)) (A0_5 : Option Addr) (c0_5 : Nat) (l0_5 : List (S24)) (A0_6 : Option Addr) (c0_6 : Nat) (l0_6 : List (S41)) (A0_7 : Option Addr) (c0_7 : Nat) (l0_7 : List (S105)) (A0_8 : Option Addr) (c0_8 : Nat) (l0_8 : List (S149)) (a1_0 a1_1 a1_2 a1_3 a1_4 a1_5 a1_6 a1_7 u n : Int) (p : List S52 × Int) (b : Bool) (g3 g4 g5 : Nat) (w : World) (hr0_4 : Kd.C k51 w A0_4 l0_4.length l0_4) (hc0_4 : l0_4.length ≤ c0_4) (hr0_5 : Kd.C k24 w A0_5 l0_5.length l0_5) (hc0_5 : l0_5.length ≤ c0_5) (hr0_6 : Kd.C k41 w A0_6 l0_6.length l0_6) (hc0_6 : l0_6.length ≤ c0_6) (hr0_7 : Kd.C k105 w A0_7 l0_7.length l0_7) (hc0_7 : l0_7.length ≤ c0_7) (hr0_8 : Kd.C k149 w A0_8 l0_8.length l0_8) (hc0_8 : l0_8.length ≤ c0_8)
  (b3 : w.heap[g3]? = some (.cells #[.int .i64 a0_0, .int .i64 a0_1, .int .i64 a0_2, .int .i64 a0_3, .slice A0_4 l0_4.length c0_4, .slice A0_5 l0_5.length c0_5, .slice A0_6 l0_6.length c0_6, .slice A0_7 l0_7.length c0_7, .slice A0_8 l0_8.length c0_8] 86 (0, 0))) (b4 : w.heap[g4]? = some (.cells #[.int .i64 a1_0, .int .i64 a1_1, .int .i64 a1_2, .int .i64 a1_3, .int .i64 a1_4, .int .i64 a1_5, .int .i64 a1_6, .int .i64 a1_7] 88 (0, 0))) (b5 : w.heap[g5]? = some (.cells #[.int .i64 u] 3 (0, 0)))
  (hp : pack_Place.f l0_4 a1_4 a1_5 a1_6 a1_7 n = some p) (hs : elastic_safe.f ks a0_0 a0_1 a0_2 a0_3 l0_4 l0_5 l0_6 l0_7 l0_8 a1_0 a1_1 u false p.1 = some b) :
  Calls Try.prog 96 #[.int .i64 n, .pointer (some ⟨g3, 0, none⟩), .pointer (some ⟨g4, 0, none⟩), .pointer (some ⟨g5, 0, none⟩)] w fun e w' => ∃ v, e = .returned (.tuple #[v, .bool b]) ∧ Kd.R k52 52 w' w.heap.size (fun _ => True) v p.1 ∧ Below w.heap.size w w' := by
 have hu86 := Try.underlying86
 have hu88 := Try.underlying88
 have hu27 := Try.underlying27
 have hu41 := Try.underlying41
 have hu39 := Try.underlying39
 have hu32 := Try.underlying32
 have hu139 := Try.underlying139
 have hu3 := Try.underlying3
 have HR0_4 := m_ hr0_4
 have HC0_4 := m_ hc0_4
 clear hr0_4 hc0_4
 have HR0_5 := m_ hr0_5
 have HC0_5 := m_ hc0_5
 clear hr0_5 hc0_5
 have HR0_6 := m_ hr0_6
 have HC0_6 := m_ hc0_6
 clear hr0_6 hc0_6
 have HR0_7 := m_ hr0_7
 have HC0_7 := m_ hc0_7
 clear hr0_7 hc0_7
 have HR0_8 := m_ hr0_8
 have HC0_8 := m_ hc0_8
 clear hr0_8 hc0_8
 have HXg3 := m_ b3
 have HXg4 := m_ b4
 have HXg5 := m_ b5
 have HP := m_ hp
 have HS := m_ hs
 have HB := m_ (Below.refl w.heap.size w)
 clear b3 b4 b5 hp hs
 obtain ⟨cg3_0, cg3_1, cg3_2, cg3_3, cg3_4, cg3_5, cg3_6, cg3_7, cg3_8⟩ := cz9_ HXg3
 obtain ⟨cg4_0, cg4_1, cg4_2, cg4_3, cg4_4, cg4_5, cg4_6, cg4_7⟩ := cz8_ HXg4
 have cg5_0 : w.cell? ⟨g5, 0, none⟩ = some (.int .i64 u) := (a0_ HXg5.out 0).trans rfl
 go_enter Try.func96, Try.ntmps96
 go_wp2_with (first | (go_at_call 46; refine (pack_Place.calls _ _ l0_4 a1_4 a1_5 a1_6 a1_7 n _ _ _ (Kd.C_below HR0_4.out HB.out) HC0_4.out HP.out).mono ?_; rintro e wp ⟨vp, rfl, hrp, hbp⟩; obtain ⟨Ap, cp, rfl⟩ := Kd.R_slice hrp; have HRP := m_ hrp; clear cg3_0 cg3_1 cg3_2 cg3_3 cg3_4 cg3_5 cg3_6 cg3_7 cg3_8 cg4_0 cg4_1 cg4_2 cg4_3 cg4_4 cg4_5 cg4_6 cg4_7 cg5_0; replace HXg3 := m_ (a1_ HXg3.out hbp); replace HXg4 := m_ (a1_ HXg4.out hbp); replace HXg5 := m_ (a1_ HXg5.out hbp); replace HB := m_ (b0_ HB.out hbp); clear hbp hrp; obtain ⟨cg3_0, cg3_1, cg3_2, cg3_3, cg3_4, cg3_5, cg3_6, cg3_7, cg3_8⟩ := cz9_ HXg3; obtain ⟨cg4_0, cg4_1, cg4_2, cg4_3, cg4_4, cg4_5, cg4_6, cg4_7⟩ := cz8_ HXg4; have cg5_0 : wp.cell? ⟨g5, 0, none⟩ = some (.int .i64 u) := (a0_ HXg5.out 0).trans rfl) | (go_at_call 97; refine (elastic_safe.calls ks a0_0 a0_1 a0_2 a0_3 _ _ l0_4 _ _ l0_5 _ _ l0_6 _ _ l0_7 _ _ l0_8 a1_0 a1_1 u false _ _ p.1 _ _ (Kd.C_below HR0_4.out (HB.out)) HC0_4.out (Kd.C_below HR0_5.out (HB.out)) HC0_5.out (Kd.C_below HR0_6.out (HB.out)) HC0_6.out (Kd.C_below HR0_7.out (HB.out)) HC0_7.out (Kd.C_below HR0_8.out (HB.out)) HC0_8.out (Kd.R_reads' HRP.out).2.2 (Kd.R_reads' HRP.out).2.1 HS.out).mono ?_; rintro e ws ⟨rfl, hbs⟩; clear cg3_0 cg3_1 cg3_2 cg3_3 cg3_4 cg3_5 cg3_6 cg3_7 cg3_8 cg4_0 cg4_1 cg4_2 cg4_3 cg4_4 cg4_5 cg4_6 cg4_7 cg5_0; replace HXg3 := m_ (a1_ HXg3.out hbs); replace HXg4 := m_ (a1_ HXg4.out hbs); replace HXg5 := m_ (a1_ HXg5.out hbs); replace HRP := m_ (Kd.R_below HRP.out hbs); replace HB := m_ (b0_ HB.out hbs); clear hbs))
 go_ret2
 exact ⟨_, rfl, HRP.out, HB.out⟩
def fillTs (k : Nat) (a0_0 a0_1 a0_2 a0_3 : Int) (l0_4 : List S51) (l0_5 : List S24) (l0_6 : List S41) (l0_7 : List S105) (l0_8 : List S149) (id q g c mn mx u : Int) : List Int → Option (List (List S52 × Bool))
 | [] => some []
 | n :: r => (pack_Place.f l0_4 g c mn mx n).bind fun p => (elastic_safe.f k a0_0 a0_1 a0_2 a0_3 l0_4 l0_5 l0_6 l0_7 l0_8 id q u false p.1).bind fun b => (fillTs k a0_0 a0_1 a0_2 a0_3 l0_4 l0_5 l0_6 l0_7 l0_8 id q g c mn mx u r).bind fun t => some ((p.1, b) :: t)
def fillR (t : List (List S52 × Bool)) : List S52 × Int := match t.find? (fun x => x.2) with | some x => (x.1, 0) | none => ([], 5)
def elastic_Fill.f (k : Nat) (a0_0 a0_1 a0_2 a0_3 : Int) (l0_4 : List (S51)) (l0_5 : List (S24)) (l0_6 : List (S41)) (l0_7 : List (S105)) (l0_8 : List (S149)) (a1_0 a1_1 a1_2 a1_3 a1_4 a1_5 a1_6 a1_7 a2 : Int) : Option ((List (S52)) × Int) :=
 (elastic_Most.f a0_0 a0_1 a0_2 a0_3 l0_4 l0_5 l0_6 l0_7 l0_8 a1_0 a1_1 a1_2 a1_3 a1_4 a1_5 a1_6 a1_7).bind fun m => if m.2 = 0 then (if -1000000 ≤ a1_6 ∧ a1_6 ≤ 1000000 ∧ m.1.length ≤ 1000000 then (fillTs k a0_0 a0_1 a0_2 a0_3 l0_4 l0_5 l0_6 l0_7 l0_8 a1_0 a1_1 a1_4 a1_5 a1_6 a1_7 a2 (downL m.1.length a1_6)).bind fun t => some (fillR t) else none) else some ([], m.2)
theorem fillTs_get {k : Nat} {a0_0 a0_1 a0_2 a0_3 : Int} {l0_4 : List S51} {l0_5 : List S24} {l0_6 : List S41} {l0_7 : List S105} {l0_8 : List S149} {id q g c mn mx u : Int} : ∀ {L : List Int} {t : List (List S52 × Bool)}, fillTs k a0_0 a0_1 a0_2 a0_3 l0_4 l0_5 l0_6 l0_7 l0_8 id q g c mn mx u L = some t →
  t.length = L.length ∧ ∀ (i : Nat) (n : Int), L[i]? = some n → ∃ (p : List S52 × Int) (b : Bool), t[i]? = some (p.1, b) ∧ pack_Place.f l0_4 g c mn mx n = some p ∧ elastic_safe.f k a0_0 a0_1 a0_2 a0_3 l0_4 l0_5 l0_6 l0_7 l0_8 id q u false p.1 = some b
 | [], t, h => by
  have h := Option.some.inj h
  subst h
  refine ⟨rfl, fun i n hn => ?_⟩
  simp at hn
 | m :: r, t, h => by
  rw [fillTs] at h
  obtain ⟨p, hp, h⟩ := Option.bind_eq_some_iff.1 h
  obtain ⟨b, hb, h⟩ := Option.bind_eq_some_iff.1 h
  obtain ⟨t', ht, h⟩ := Option.bind_eq_some_iff.1 h
  cases h
  obtain ⟨hl, ih⟩ := fillTs_get ht
  refine ⟨by simp [hl], fun i n hn => ?_⟩
  cases i with
  | zero => cases hn; exact ⟨p, b, rfl, hp, hb⟩
  | succ i => exact ih i n hn
theorem results58 {tmps : Array Value} {w : World} {g4 g5 : Nat} {v u : Value} {t t' : TypeId} (h4 : tmps.getD 6 undef = .pointer (some ⟨g4, 0, none⟩)) (h5 : tmps.getD 7 undef = .pointer (some ⟨g5, 0, none⟩))
  (b4 : w.heap[g4]? = some (.cells #[v] t (0, 0))) (b5 : w.heap[g5]? = some (.cells #[u] t' (0, 0))) : (results Try.f58 tmps).run Try.prog w = .ok (.tuple #[v, u]) w := by
 have h4' : tmps[6]?.getD undef = .pointer (some ⟨g4, 0, none⟩) := by simpa using h4
 have h5' : tmps[7]?.getD undef = .pointer (some ⟨g5, 0, none⟩) := by simpa using h5
 have c4 : w.cell? ⟨g4, 0, none⟩ = some v := (a0_ b4 0).trans rfl
 have c5 : w.cell? ⟨g5, 0, none⟩ = some u := (a0_ b5 0).trans rfl
 have hu39 := Try.underlying39
 have hu32 := Try.underlying32
 simp [results, Try.f58, go_sem, h4', h5', c4, c5, hu39, hu32]
set_option maxHeartbeats 8000000 in
set_option maxRecDepth 100000 in
theorem fill_no (a0_0 a0_1 a0_2 a0_3 : Int) (A0_4 : Option Addr) (c0_4 : Nat) (l0_4 : List (S51)) (A0_5 : Option Addr) (c0_5 : Nat) (l0_5 : List (S24)) (A0_6 : Option Addr) (c0_6 : Nat) (l0_6 : List (S41)) (A0_7 : Option Addr) (c0_7 : Nat) (l0_7 : List (S105)) (A0_8 : Option Addr) (c0_8 : Nat) (l0_8 : List (S149)) (a1_0 a1_1 a1_2 a1_3 a1_4 a1_5 a1_6 a1_7 u : Int) (ms : List S52) (e0 : Int) (w : World) (hr0_4 : Kd.C k51 w A0_4 l0_4.length l0_4) (hc0_4 : l0_4.length ≤ c0_4) (hr0_5 : Kd.C k24 w A0_5 l0_5.length l0_5) (hc0_5 : l0_5.length ≤ c0_5) (hr0_6 : Kd.C k41 w A0_6 l0_6.length l0_6) (hc0_6 : l0_6.length ≤ c0_6) (hr0_7 : Kd.C k105 w A0_7 l0_7.length l0_7) (hc0_7 : l0_7.length ≤ c0_7) (hr0_8 : Kd.C k149 w A0_8 l0_8.length l0_8) (hc0_8 : l0_8.length ≤ c0_8) (hM : elastic_Most.f a0_0 a0_1 a0_2 a0_3 l0_4 l0_5 l0_6 l0_7 l0_8 a1_0 a1_1 a1_2 a1_3 a1_4 a1_5 a1_6 a1_7 = some (ms, e0)) (he : e0 ≠ 0) :
  Calls Try.prog 58 #[.agg #[.int .i64 a0_0, .int .i64 a0_1, .int .i64 a0_2, .int .i64 a0_3, .slice A0_4 l0_4.length c0_4, .slice A0_5 l0_5.length c0_5, .slice A0_6 l0_6.length c0_6, .slice A0_7 l0_7.length c0_7, .slice A0_8 l0_8.length c0_8], .agg #[.int .i64 a1_0, .int .i64 a1_1, .int .i64 a1_2, .int .i64 a1_3, .int .i64 a1_4, .int .i64 a1_5, .int .i64 a1_6, .int .i64 a1_7], .int .i64 u] w fun e w' => ∃ v0_ : Value, e = .returned (.tuple #[v0_, .int .i64 e0]) ∧ Kd.R k52 52 w' w.heap.size (fun _ => True) v0_ [] ∧ Below w.heap.size w w' := by
 have hu86 := Try.underlying86
 have hu88 := Try.underlying88
 have hu27 := Try.underlying27
 have hu41 := Try.underlying41
 have hu39 := Try.underlying39
 have hu32 := Try.underlying32
 have hu139 := Try.underlying139
 have hu3 := Try.underlying3
 have HR0_4 := m_ hr0_4
 have HC0_4 := m_ hc0_4
 clear hr0_4 hc0_4
 have HR0_5 := m_ hr0_5
 have HC0_5 := m_ hc0_5
 clear hr0_5 hc0_5
 have HR0_6 := m_ hr0_6
 have HC0_6 := m_ hc0_6
 clear hr0_6 hc0_6
 have HR0_7 := m_ hr0_7
 have HC0_7 := m_ hc0_7
 clear hr0_7 hc0_7
 have HR0_8 := m_ hr0_8
 have HC0_8 := m_ hc0_8
 clear hr0_8 hc0_8
 have HM := m_ hM
 have HB := m_ (Below.refl w.heap.size w)
 have t0 : (e0 != 0) = true := by simpa using he
 clear hM he
 refine calls_marks Try.func58 rfl ?_
 simp only [Try.ntmps58, List.size_toArray, List.length_cons, List.length_nil, Nat.reduceAdd, Nat.reduceSub, Array.replicate_succ, Array.replicate_zero, List.push_toArray, List.append_toArray, List.nil_append, List.cons_append]
 go_wp2_with (first | ((with_reducible refine a3_ (N := 3) rfl ?_); refine bx 3 #[.int .i64 a0_0, .int .i64 a0_1, .int .i64 a0_2, .int .i64 a0_3, .slice A0_4 l0_4.length c0_4, .slice A0_5 l0_5.length c0_5, .slice A0_6 l0_6.length c0_6, .slice A0_7 l0_7.length c0_7, .slice A0_8 l0_8.length c0_8] 86 ?_; intro g3 hgg3 wg3 hxg3 hbg3; have Gg3 : w.heap.size ≤ g3 := Z6; replace HB := m_ (b0_ HB.out hbg3); have HXg3 := m_ hxg3; clear hgg3 hxg3 hbg3) | ((with_reducible refine a3_ (N := 4) rfl ?_); refine bx 4 #[.int .i64 a1_0, .int .i64 a1_1, .int .i64 a1_2, .int .i64 a1_3, .int .i64 a1_4, .int .i64 a1_5, .int .i64 a1_6, .int .i64 a1_7] 88 ?_; intro g4 hgg4 wg4 hxg4 hbg4; have Ng3_g4 := m_ (show g3 ≠ g4 from by have := c6_ HXg3.out; omega); replace HXg3 := m_ (a1_ HXg3.out hbg4); have Gg4 : w.heap.size ≤ g4 := Z6; replace HB := m_ (b0_ HB.out hbg4); have HXg4 := m_ hxg4; clear hgg4 hxg4 hbg4) | ((with_reducible refine a3_ (N := 5) rfl ?_); refine bx 5 #[.int .i64 u] 3 ?_; intro g5 hgg5 wg5 hxg5 hbg5; have Ng3_g5 := m_ (show g3 ≠ g5 from by have := c6_ HXg3.out; omega); have Ng4_g5 := m_ (show g4 ≠ g5 from by have := c6_ HXg4.out; omega); replace HXg3 := m_ (a1_ HXg3.out hbg5); replace HXg4 := m_ (a1_ HXg4.out hbg5); have Gg5 : w.heap.size ≤ g5 := Z6; replace HB := m_ (b0_ HB.out hbg5); have HXg5 := m_ hxg5; clear hgg5 hxg5 hbg5) | ((with_reducible refine a3_ (N := 6) rfl ?_); refine bx 6 #[.slice none 0 0] 39 ?_; intro g6 hgg6 wg6 hxg6 hbg6; have Ng3_g6 := m_ (show g3 ≠ g6 from by have := c6_ HXg3.out; omega); have Ng4_g6 := m_ (show g4 ≠ g6 from by have := c6_ HXg4.out; omega); have Ng5_g6 := m_ (show g5 ≠ g6 from by have := c6_ HXg5.out; omega); replace HXg3 := m_ (a1_ HXg3.out hbg6); replace HXg4 := m_ (a1_ HXg4.out hbg6); replace HXg5 := m_ (a1_ HXg5.out hbg6); have Gg6 : w.heap.size ≤ g6 := Z6; replace HB := m_ (b0_ HB.out hbg6); have HXg6 := m_ hxg6; clear hgg6 hxg6 hbg6) | ((with_reducible refine a3_ (N := 7) rfl ?_); refine bx 7 #[.int .i64 0] 32 ?_; intro g7 hgg7 wg7 hxg7 hbg7; have Ng3_g7 := m_ (show g3 ≠ g7 from by have := c6_ HXg3.out; omega); have Ng4_g7 := m_ (show g4 ≠ g7 from by have := c6_ HXg4.out; omega); have Ng5_g7 := m_ (show g5 ≠ g7 from by have := c6_ HXg5.out; omega); have Ng6_g7 := m_ (show g6 ≠ g7 from by have := c6_ HXg6.out; omega); replace HXg3 := m_ (a1_ HXg3.out hbg7); replace HXg4 := m_ (a1_ HXg4.out hbg7); replace HXg5 := m_ (a1_ HXg5.out hbg7); replace HXg6 := m_ (a1_ HXg6.out hbg7); have Gg7 : w.heap.size ≤ g7 := Z6; replace HB := m_ (b0_ HB.out hbg7); have HXg7 := m_ hxg7; clear hgg7 hxg7 hbg7; obtain ⟨cg3_0, cg3_1, cg3_2, cg3_3, cg3_4, cg3_5, cg3_6, cg3_7, cg3_8⟩ := cz9_ HXg3; obtain ⟨cg4_0, cg4_1, cg4_2, cg4_3, cg4_4, cg4_5, cg4_6, cg4_7⟩ := cz8_ HXg4) | (go_at_call 57; refine (elastic_Most.calls a0_0 a0_1 a0_2 a0_3 _ _ l0_4 _ _ l0_5 _ _ l0_6 _ _ l0_7 _ _ l0_8 a1_0 a1_1 a1_2 a1_3 a1_4 a1_5 a1_6 a1_7 ms e0 _ (Kd.C_below HR0_4.out (HB.out)) HC0_4.out (Kd.C_below HR0_5.out (HB.out)) HC0_5.out (Kd.C_below HR0_6.out (HB.out)) HC0_6.out (Kd.C_below HR0_7.out (HB.out)) HC0_7.out (Kd.C_below HR0_8.out (HB.out)) HC0_8.out HM.out).mono ?_; rintro e w8 ⟨vm, rfl, hrm, hb8⟩; obtain ⟨Am, cm, rfl⟩ := Kd.R_slice hrm; clear cg3_0 cg3_1 cg3_2 cg3_3 cg3_4 cg3_5 cg3_6 cg3_7 cg3_8 cg4_0 cg4_1 cg4_2 cg4_3 cg4_4 cg4_5 cg4_6 cg4_7; replace HXg3 := m_ (a1_ HXg3.out hb8); replace HXg4 := m_ (a1_ HXg4.out hb8); replace HXg5 := m_ (a1_ HXg5.out hb8); replace HXg6 := m_ (a1_ HXg6.out hb8); replace HXg7 := m_ (a1_ HXg7.out hb8); replace HB := m_ (b0_ HB.out hb8); clear hb8 hrm; have zg6 : w8.frozen? ⟨g6, 0, none⟩ = false := a2_ HXg6.out 0; have zg7 : w8.frozen? ⟨g7, 0, none⟩ = false := a2_ HXg7.out 0; have cg6_0 : w8.cell? ⟨g6, 0, none⟩ = some (.slice none 0 0) := (a0_ HXg6.out 0).trans rfl; have cg7_0 : w8.cell? ⟨g7, 0, none⟩ = some (.int .i64 0) := (a0_ HXg7.out 0).trans rfl; have n67 := Ng6_g7.out))
 have h6 : ((w8.setCell ⟨g6, 0, none⟩ (.slice none 0 0)).setCell ⟨g7, 0, none⟩ (.int .i64 e0)).heap[g6]? = some (.cells #[.slice none 0 0] 39 (0, 0)) := c7_ (d4_ HXg6.out 0 _ rfl) n67 _
 have h7 : ((w8.setCell ⟨g6, 0, none⟩ (.slice none 0 0)).setCell ⟨g7, 0, none⟩ (.int .i64 e0)).heap[g7]? = some (.cells #[.int .i64 e0] 32 (0, 0)) := d4_ (c7_ HXg7.out n67.symm _) 0 _ rfl
 exact marks_ret0 (results58 rfl rfl h6 h7) ⟨_, rfl, Kd.R_nil _ _ _ _ _, b6_ (b6_ HB.out Gg6) Gg7⟩
set_option maxHeartbeats 8000000 in
set_option maxRecDepth 100000 in
theorem fill_yes (ks : Nat) (a0_0 a0_1 a0_2 a0_3 : Int) (A0_4 : Option Addr) (c0_4 : Nat) (l0_4 : List (S51)) (A0_5 : Option Addr) (c0_5 : Nat) (l0_5 : List (S24)) (A0_6 : Option Addr) (c0_6 : Nat) (l0_6 : List (S41)) (A0_7 : Option Addr) (c0_7 : Nat) (l0_7 : List (S105)) (A0_8 : Option Addr) (c0_8 : Nat) (l0_8 : List (S149)) (a1_0 a1_1 a1_2 a1_3 a1_4 a1_5 a1_6 a1_7 u : Int) (ms : List S52) (ts : List (List S52 × Bool)) (rr : List S52 × Int) (w : World) (hr0_4 : Kd.C k51 w A0_4 l0_4.length l0_4) (hc0_4 : l0_4.length ≤ c0_4) (hr0_5 : Kd.C k24 w A0_5 l0_5.length l0_5) (hc0_5 : l0_5.length ≤ c0_5) (hr0_6 : Kd.C k41 w A0_6 l0_6.length l0_6) (hc0_6 : l0_6.length ≤ c0_6) (hr0_7 : Kd.C k105 w A0_7 l0_7.length l0_7) (hc0_7 : l0_7.length ≤ c0_7) (hr0_8 : Kd.C k149 w A0_8 l0_8.length l0_8) (hc0_8 : l0_8.length ≤ c0_8) (hM : elastic_Most.f a0_0 a0_1 a0_2 a0_3 l0_4 l0_5 l0_6 l0_7 l0_8 a1_0 a1_1 a1_2 a1_3 a1_4 a1_5 a1_6 a1_7 = some (ms, 0))
  (hmn : (-1000000 ≤ a1_6 ∧ a1_6 ≤ 1000000) ∧ ms.length ≤ 1000000) (hts : fillTs ks a0_0 a0_1 a0_2 a0_3 l0_4 l0_5 l0_6 l0_7 l0_8 a1_0 a1_1 a1_4 a1_5 a1_6 a1_7 u (downL ms.length a1_6) = some ts) (hR : rr = fillR ts) :
  Calls Try.prog 58 #[.agg #[.int .i64 a0_0, .int .i64 a0_1, .int .i64 a0_2, .int .i64 a0_3, .slice A0_4 l0_4.length c0_4, .slice A0_5 l0_5.length c0_5, .slice A0_6 l0_6.length c0_6, .slice A0_7 l0_7.length c0_7, .slice A0_8 l0_8.length c0_8], .agg #[.int .i64 a1_0, .int .i64 a1_1, .int .i64 a1_2, .int .i64 a1_3, .int .i64 a1_4, .int .i64 a1_5, .int .i64 a1_6, .int .i64 a1_7], .int .i64 u] w fun e w' => ∃ v0_ : Value, e = .returned (.tuple #[v0_, .int .i64 rr.2]) ∧ Kd.R k52 52 w' w.heap.size (fun _ => True) v0_ rr.1 ∧ Below w.heap.size w w' := by
 have hu86 := Try.underlying86
 have hu88 := Try.underlying88
 have hu27 := Try.underlying27
 have hu41 := Try.underlying41
 have hu39 := Try.underlying39
 have hu32 := Try.underlying32
 have hu139 := Try.underlying139
 have hu3 := Try.underlying3
 have HR0_4 := m_ hr0_4
 have HC0_4 := m_ hc0_4
 clear hr0_4 hc0_4
 have HR0_5 := m_ hr0_5
 have HC0_5 := m_ hc0_5
 clear hr0_5 hc0_5
 have HR0_6 := m_ hr0_6
 have HC0_6 := m_ hc0_6
 clear hr0_6 hc0_6
 have HR0_7 := m_ hr0_7
 have HC0_7 := m_ hc0_7
 clear hr0_7 hc0_7
 have HR0_8 := m_ hr0_8
 have HC0_8 := m_ hc0_8
 clear hr0_8 hc0_8
 have HM := m_ hM
 have HTS := m_ (fillTs_get hts)
 have HMN := m_ hmn
 have HRR := m_ hR
 have HB := m_ (Below.refl w.heap.size w)
 clear hM hts hmn hR
 refine calls_marks Try.func58 rfl ?_
 simp only [Try.ntmps58, List.size_toArray, List.length_cons, List.length_nil, Nat.reduceAdd, Nat.reduceSub, Array.replicate_succ, Array.replicate_zero, List.push_toArray, List.append_toArray, List.nil_append, List.cons_append]
 go_upto_region 4 with (first | ((with_reducible refine a3_ (N := 3) rfl ?_); refine bx 3 #[.int .i64 a0_0, .int .i64 a0_1, .int .i64 a0_2, .int .i64 a0_3, .slice A0_4 l0_4.length c0_4, .slice A0_5 l0_5.length c0_5, .slice A0_6 l0_6.length c0_6, .slice A0_7 l0_7.length c0_7, .slice A0_8 l0_8.length c0_8] 86 ?_; intro g3 hgg3 wg3 hxg3 hbg3; have Gg3 : w.heap.size ≤ g3 := Z6; replace HB := m_ (b0_ HB.out hbg3); have HXg3 := m_ hxg3; clear hgg3 hxg3 hbg3) | ((with_reducible refine a3_ (N := 4) rfl ?_); refine bx 4 #[.int .i64 a1_0, .int .i64 a1_1, .int .i64 a1_2, .int .i64 a1_3, .int .i64 a1_4, .int .i64 a1_5, .int .i64 a1_6, .int .i64 a1_7] 88 ?_; intro g4 hgg4 wg4 hxg4 hbg4; have Ng3_g4 := m_ (show g3 ≠ g4 from by have := c6_ HXg3.out; omega); replace HXg3 := m_ (a1_ HXg3.out hbg4); have Gg4 : w.heap.size ≤ g4 := Z6; replace HB := m_ (b0_ HB.out hbg4); have HXg4 := m_ hxg4; clear hgg4 hxg4 hbg4) | ((with_reducible refine a3_ (N := 5) rfl ?_); refine bx 5 #[.int .i64 u] 3 ?_; intro g5 hgg5 wg5 hxg5 hbg5; have Ng3_g5 := m_ (show g3 ≠ g5 from by have := c6_ HXg3.out; omega); have Ng4_g5 := m_ (show g4 ≠ g5 from by have := c6_ HXg4.out; omega); replace HXg3 := m_ (a1_ HXg3.out hbg5); replace HXg4 := m_ (a1_ HXg4.out hbg5); have Gg5 : w.heap.size ≤ g5 := Z6; replace HB := m_ (b0_ HB.out hbg5); have HXg5 := m_ hxg5; clear hgg5 hxg5 hbg5) | ((with_reducible refine a3_ (N := 6) rfl ?_); refine bx 6 #[.slice none 0 0] 39 ?_; intro g6 hgg6 wg6 hxg6 hbg6; have Ng3_g6 := m_ (show g3 ≠ g6 from by have := c6_ HXg3.out; omega); have Ng4_g6 := m_ (show g4 ≠ g6 from by have := c6_ HXg4.out; omega); have Ng5_g6 := m_ (show g5 ≠ g6 from by have := c6_ HXg5.out; omega); replace HXg3 := m_ (a1_ HXg3.out hbg6); replace HXg4 := m_ (a1_ HXg4.out hbg6); replace HXg5 := m_ (a1_ HXg5.out hbg6); have Gg6 : w.heap.size ≤ g6 := Z6; replace HB := m_ (b0_ HB.out hbg6); have HXg6 := m_ hxg6; clear hgg6 hxg6 hbg6) | ((with_reducible refine a3_ (N := 7) rfl ?_); refine bx 7 #[.int .i64 0] 32 ?_; intro g7 hgg7 wg7 hxg7 hbg7; have Ng3_g7 := m_ (show g3 ≠ g7 from by have := c6_ HXg3.out; omega); have Ng4_g7 := m_ (show g4 ≠ g7 from by have := c6_ HXg4.out; omega); have Ng5_g7 := m_ (show g5 ≠ g7 from by have := c6_ HXg5.out; omega); have Ng6_g7 := m_ (show g6 ≠ g7 from by have := c6_ HXg6.out; omega); replace HXg3 := m_ (a1_ HXg3.out hbg7); replace HXg4 := m_ (a1_ HXg4.out hbg7); replace HXg5 := m_ (a1_ HXg5.out hbg7); replace HXg6 := m_ (a1_ HXg6.out hbg7); have Gg7 : w.heap.size ≤ g7 := Z6; replace HB := m_ (b0_ HB.out hbg7); have HXg7 := m_ hxg7; clear hgg7 hxg7 hbg7; obtain ⟨cg3_0, cg3_1, cg3_2, cg3_3, cg3_4, cg3_5, cg3_6, cg3_7, cg3_8⟩ := cz9_ HXg3; obtain ⟨cg4_0, cg4_1, cg4_2, cg4_3, cg4_4, cg4_5, cg4_6, cg4_7⟩ := cz8_ HXg4) | (go_at_call 57; refine (elastic_Most.calls a0_0 a0_1 a0_2 a0_3 _ _ l0_4 _ _ l0_5 _ _ l0_6 _ _ l0_7 _ _ l0_8 a1_0 a1_1 a1_2 a1_3 a1_4 a1_5 a1_6 a1_7 ms 0 _ (Kd.C_below HR0_4.out (HB.out)) HC0_4.out (Kd.C_below HR0_5.out (HB.out)) HC0_5.out (Kd.C_below HR0_6.out (HB.out)) HC0_6.out (Kd.C_below HR0_7.out (HB.out)) HC0_7.out (Kd.C_below HR0_8.out (HB.out)) HC0_8.out HM.out).mono ?_; rintro e w8 ⟨vm, rfl, hrm, hb8⟩; obtain ⟨Am, cm, rfl⟩ := Kd.R_slice hrm; clear cg3_0 cg3_1 cg3_2 cg3_3 cg3_4 cg3_5 cg3_6 cg3_7 cg3_8 cg4_0 cg4_1 cg4_2 cg4_3 cg4_4 cg4_5 cg4_6 cg4_7; replace HXg3 := m_ (a1_ HXg3.out hb8); replace HXg4 := m_ (a1_ HXg4.out hb8); replace HXg5 := m_ (a1_ HXg5.out hb8); replace HXg6 := m_ (a1_ HXg6.out hb8); replace HXg7 := m_ (a1_ HXg7.out hb8); replace HB := m_ (b0_ HB.out hb8); clear hb8 hrm))
 go_upto_region 5 with (first | ((with_reducible refine a3_ (N := 23) rfl ?_); refine Kd.event_run (w1 := w8) (v := .func (.func 96) #[] #[.pointer (some ⟨g3, 0, none⟩), .pointer (some ⟨g4, 0, none⟩), .pointer (some ⟨g5, 0, none⟩)]) rfl ?hmk ?_; (case hmk => first | (go_simp; done) | (go_simp; rfl)); refine bx 10 #[.nilFunc] 139 ?_; intro g10 hgg10 wg10 hxg10 hbg10; have Ng3_g10 := m_ (show g3 ≠ g10 from by have := c6_ HXg3.out; omega); have Ng4_g10 := m_ (show g4 ≠ g10 from by have := c6_ HXg4.out; omega); have Ng5_g10 := m_ (show g5 ≠ g10 from by have := c6_ HXg5.out; omega); have Ng6_g10 := m_ (show g6 ≠ g10 from by have := c6_ HXg6.out; omega); have Ng7_g10 := m_ (show g7 ≠ g10 from by have := c6_ HXg7.out; omega); replace HXg3 := m_ (a1_ HXg3.out hbg10); replace HXg4 := m_ (a1_ HXg4.out hbg10); replace HXg5 := m_ (a1_ HXg5.out hbg10); replace HXg6 := m_ (a1_ HXg6.out hbg10); replace HXg7 := m_ (a1_ HXg7.out hbg10); have Gg10 : w.heap.size ≤ g10 := Z6; replace HB := m_ (b0_ HB.out hbg10); have HXg10 := m_ hxg10; clear hgg10 hxg10 hbg10; have zg10_0 : wg10.frozen? ⟨g10, 0, none⟩ = false := a2_ HXg10.out 0; have cg10_0 : wg10.cell? ⟨g10, 0, none⟩ = some (.nilFunc) := (a0_ HXg10.out 0).trans rfl))
 obtain ⟨wB, hwB⟩ : ∃ wB, wB = wg10.setCell ⟨g10, 0, none⟩ (.func (.func 96) #[] #[.pointer (some ⟨g3, 0, none⟩), .pointer (some ⟨g4, 0, none⟩), .pointer (some ⟨g5, 0, none⟩)]) := ⟨_, rfl⟩
 rw [← hwB]
 have hxg3 : wB.heap[g3]? = some (.cells #[.int .i64 a0_0, .int .i64 a0_1, .int .i64 a0_2, .int .i64 a0_3, .slice A0_4 l0_4.length c0_4, .slice A0_5 l0_5.length c0_5, .slice A0_6 l0_6.length c0_6, .slice A0_7 l0_7.length c0_7, .slice A0_8 l0_8.length c0_8] 86 (0, 0)) := by rw [hwB]; exact c7_ HXg3.out (Ng3_g10.out) _
 have hxg4 : wB.heap[g4]? = some (.cells #[.int .i64 a1_0, .int .i64 a1_1, .int .i64 a1_2, .int .i64 a1_3, .int .i64 a1_4, .int .i64 a1_5, .int .i64 a1_6, .int .i64 a1_7] 88 (0, 0)) := by rw [hwB]; exact c7_ HXg4.out (Ng4_g10.out) _
 have hxg5 : wB.heap[g5]? = some (.cells #[.int .i64 u] 3 (0, 0)) := by rw [hwB]; exact c7_ HXg5.out (Ng5_g10.out) _
 have hxg6 : wB.heap[g6]? = some (.cells #[.slice none 0 0] 39 (0, 0)) := by rw [hwB]; exact c7_ HXg6.out (Ng6_g10.out) _
 have hxg7 : wB.heap[g7]? = some (.cells #[.int .i64 0] 32 (0, 0)) := by rw [hwB]; exact c7_ HXg7.out (Ng7_g10.out) _
 have hxg10 : wB.heap[g10]? = some (.cells #[.func (.func 96) #[] #[.pointer (some ⟨g3, 0, none⟩), .pointer (some ⟨g4, 0, none⟩), .pointer (some ⟨g5, 0, none⟩)]] 139 (0, 0)) := by rw [hwB]; exact d4_ HXg10.out 0 _ rfl
 have hbB : Below w.heap.size w wB := by rw [hwB]; exact b6_ HB.out Gg10
 replace HXg3 := m_ hxg3
 replace HXg4 := m_ hxg4
 replace HXg5 := m_ hxg5
 replace HXg6 := m_ hxg6
 replace HXg7 := m_ hxg7
 replace HXg10 := m_ hxg10
 replace HB := m_ hbB
 clear hwB hxg3 hxg4 hxg5 hxg6 hxg7 hxg10 hbB zg10_0 cg10_0
 obtain ⟨cg4_0, cg4_1, cg4_2, cg4_3, cg4_4, cg4_5, cg4_6, cg4_7⟩ := cz8_ HXg4
 go_wp2_with (first | (go_at_call 95; refine (down_calls ms.length a1_6 _).mono ?_; rintro e w9 ⟨rfl, hd1, hd2, hb9⟩; have HD1 := m_ hd1; have HD2 := m_ hd2; have HBL := m_ (HB.out.size); clear cg4_0 cg4_1 cg4_2 cg4_3 cg4_4 cg4_5 cg4_6 cg4_7; replace HXg3 := m_ (a1_ HXg3.out hb9); replace HXg4 := m_ (a1_ HXg4.out hb9); replace HXg5 := m_ (a1_ HXg5.out hb9); replace HXg6 := m_ (a1_ HXg6.out hb9); replace HXg7 := m_ (a1_ HXg7.out hb9); replace HXg10 := m_ (a1_ HXg10.out hb9); replace HB := m_ (b0_ HB.out hb9); clear hb9 hd1 hd2))
 refine range_try (gf := 117) (lb := #[.pointer (some ⟨wB.heap.size, 0, none⟩), .pointer (some ⟨wB.heap.size + 1, 0, none⟩)]) rfl (enters_of Try.func117 (by kernel_rfl) rfl)
  (enc := fun x : Int => #[.int .i64 x]) (down_goes _ _ ms.length a1_6 _ HD1.out HD2.out (by have := HMN.out; omega) (by have := HMN.out; omega)) (fun _ => rfl)
  (fun x => ∀ i : Nat, (downL ms.length a1_6)[i]? = some x → ∃ p, ts[i]? = some (p, false)) (fun x W => ∃ p : List S52 × Int, (∀ i : Nat, (downL ms.length a1_6)[i]? = some x → ts[i]? = some (p.1, true)) ∧ Stands w g6 g7 (p.1, 0) W) ?hRx
  (fun x a' _ => a' = { tmps := #[.agg #[.int .i64 a0_0, .int .i64 a0_1, .int .i64 a0_2, .int .i64 a0_3, .slice A0_4 l0_4.length c0_4, .slice A0_5 l0_5.length c0_5, .slice A0_6 l0_6.length c0_6, .slice A0_7 l0_7.length c0_7, .slice A0_8 l0_8.length c0_8], .agg #[.int .i64 a1_0, .int .i64 a1_1, .int .i64 a1_2, .int .i64 a1_3, .int .i64 a1_4, .int .i64 a1_5, .int .i64 a1_6, .int .i64 a1_7], .int .i64 u, .pointer (some ⟨g3, 0, none⟩), .pointer (some ⟨g4, 0, none⟩), .pointer (some ⟨g5, 0, none⟩), .pointer (some ⟨g6, 0, none⟩), .pointer (some ⟨g7, 0, none⟩), .slice Am ms.length cm, .int .i64 0, .pointer (some ⟨g10, 0, none⟩), .int .i64 x, undef, undef, .tuple #[.slice Am ms.length cm, .int .i64 0], .agg #[.int .i64 a0_0, .int .i64 a0_1, .int .i64 a0_2, .int .i64 a0_3, .slice A0_4 l0_4.length c0_4, .slice A0_5 l0_5.length c0_5, .slice A0_6 l0_6.length c0_6, .slice A0_7 l0_7.length c0_7, .slice A0_8 l0_8.length c0_8], .agg #[.int .i64 a1_0, .int .i64 a1_1, .int .i64 a1_2, .int .i64 a1_3, .int .i64 a1_4, .int .i64 a1_5, .int .i64 a1_6, .int .i64 a1_7], .tuple #[.slice Am ms.length cm, .int .i64 0], .slice Am ms.length cm, .int .i64 0, .int .i64 0, .bool false, undef, .func (.func 96) #[] #[.pointer (some ⟨g3, 0, none⟩), .pointer (some ⟨g4, 0, none⟩), .pointer (some ⟨g5, 0, none⟩)], .slice Am ms.length cm, .int .i64 ms.length, .pointer (some ⟨g4, 4, none⟩), .pointer (some ⟨g4, 6, none⟩), .int .i64 a1_6, .func (.func 117) #[] #[.pointer (some ⟨wB.heap.size, 0, none⟩), .pointer (some ⟨wB.heap.size + 1, 0, none⟩)], .int .i64 x, undef, undef, undef, undef, undef, undef, undef, undef], defers := [] }) (fun _ _ => ownFrom_pure (β := Unit) _ _) ?assign ?body ?done ?stop
 case hRx =>
  rintro y _ A C row ⟨p, hp, hs⟩ hg hr
  exact ⟨p, hp, Stands.own HB.out.size () A C row hs hg hr⟩
 case assign =>
  intro l x W K hx hB hK
  gi_wp2
  exact hK _ _ (Below.refl _ _) rfl
 case body =>
  rintro l x a' W hx hBW rfl
  obtain ⟨i0, hi0⟩ := List.getElem?_of_mem hx
  obtain ⟨px, bx, ht0, hpx, hsx⟩ := HTS.out.2 i0 x hi0
  have hall : ∀ i : Nat, (downL ms.length a1_6)[i]? = some x → ts[i]? = some (px.1, bx) := fun i hi => by
   obtain ⟨p', b', h1, h2, h3⟩ := HTS.out.2 i x hi
   rw [hpx] at h2
   have h2 := Option.some.inj h2
   subst h2
   rw [hsx] at h3
   have h3 := Option.some.inj h3
   subst h3
   exact h1
  have HPx := m_ hpx
  have HSx := m_ hsx
  have HAL := m_ hall
  have HBW := m_ (b0_ HB.out hBW)
  have HS9 := m_ hBW.size
  have HBQ := m_ HB.out.size
  replace HXg3 := m_ (a1_ HXg3.out hBW)
  replace HXg4 := m_ (a1_ HXg4.out hBW)
  replace HXg5 := m_ (a1_ HXg5.out hBW)
  replace HXg6 := m_ (a1_ HXg6.out hBW)
  replace HXg7 := m_ (a1_ HXg7.out hBW)
  replace HXg10 := m_ (a1_ HXg10.out hBW)
  clear HB hBW hx ht0 hpx hsx hall hi0 HD1 HD2 HM HTS
  have HB := HBW
  clear HBW
  have cg10_0 : W.cell? ⟨g10, 0, none⟩ = some (.func (.func 96) #[] #[.pointer (some ⟨g3, 0, none⟩), .pointer (some ⟨g4, 0, none⟩), .pointer (some ⟨g5, 0, none⟩)]) := (a0_ HXg10.out 0).trans rfl
  cases bx with
  | true =>
   gi_wp2_with (first | ((try refine ⟨trivial, ?_⟩); gi_at_call 96; refine (CallsIn.inRound l (callsIn_wide.2 (try_calls ks a0_0 a0_1 a0_2 a0_3 A0_4 c0_4 l0_4 A0_5 c0_5 l0_5 A0_6 c0_6 l0_6 A0_7 c0_7 l0_7 A0_8 c0_8 l0_8 a1_0 a1_1 a1_2 a1_3 a1_4 a1_5 a1_6 a1_7 u x px _ g3 g4 g5 _ (Kd.C_below HR0_4.out (HB.out)) HC0_4.out (Kd.C_below HR0_5.out (HB.out)) HC0_5.out (Kd.C_below HR0_6.out (HB.out)) HC0_6.out (Kd.C_below HR0_7.out (HB.out)) HC0_7.out (Kd.C_below HR0_8.out (HB.out)) HC0_8.out HXg3.out HXg4.out HXg5.out HPx.out HSx.out))).mono ?_; rintro e wp ⟨vp, rfl, hrp, hbp⟩; obtain ⟨Ap, cp, rfl⟩ := Kd.R_slice hrp; have HBP := m_ hbp; have HRP := m_ hrp; clear cg10_0; replace HXg3 := m_ (a1_ HXg3.out hbp); replace HXg4 := m_ (a1_ HXg4.out hbp); replace HXg5 := m_ (a1_ HXg5.out hbp); replace HXg6 := m_ (a1_ HXg6.out hbp); replace HXg7 := m_ (a1_ HXg7.out hbp); replace HXg10 := m_ (a1_ HXg10.out hbp); replace HB := m_ (b0_ HB.out hbp); clear hbp hrp; have zg6 : wp.frozen? ⟨g6, 0, none⟩ = false := a2_ HXg6.out 0; have zg7 : wp.frozen? ⟨g7, 0, none⟩ = false := a2_ HXg7.out 0; have cg6_0 : wp.cell? ⟨g6, 0, none⟩ = some (.slice none 0 0) := (a0_ HXg6.out 0).trans rfl; have cg7_0 : wp.cell? ⟨g7, 0, none⟩ = some (.int .i64 0) := (a0_ HXg7.out 0).trans rfl; have n67 := Ng6_g7.out))
   have h6 : ((wp.setCell ⟨g6, 0, none⟩ (.slice Ap px.1.length cp)).setCell ⟨g7, 0, none⟩ (.int .i64 0)).heap[g6]? = some (.cells #[.slice Ap px.1.length cp] 39 (0, 0)) := c7_ (d4_ HXg6.out 0 _ rfl) n67 _
   have h7 : ((wp.setCell ⟨g6, 0, none⟩ (.slice Ap px.1.length cp)).setCell ⟨g7, 0, none⟩ (.int .i64 0)).heap[g7]? = some (.cells #[.int .i64 0] 32 (0, 0)) := d4_ (c7_ HXg7.out n67.symm _) 0 _ rfl
   have hr1 := Kd.R_grown2 HRP.out rfl (grown_set (j := 0) (v := .slice Ap px.1.length cp) (d6_ wp (some g6))) (fun k hk => by injection hk with hk; subst hk; exact Kd.R_ne HRP.out HXg6.out (by decide))
   have hx7 : (wp.setCell ⟨g6, 0, none⟩ (.slice Ap px.1.length cp)).heap[g7]? = some (.cells #[.int .i64 0] 32 (0, 0)) := c7_ HXg7.out n67.symm _
   have hr2 := Kd.R_grown2 hr1 rfl (grown_set (j := 0) (v := .int .i64 0) (d6_ _ (some g7))) (fun k hk => by injection hk with hk; subst hk; exact Kd.R_ne hr1 hx7 (by decide))
   refine ⟨(keepsFrom_below HBP.out).trans (((KeepsOthers.setCell _ _ _).trans (KeepsOthers.setCell _ _ _)).from _), px, HAL.out, _, h6, h7, Kd.R_lower hr2 ?_, b6_ (b6_ HB.out Gg6) Gg7⟩
   have h2 := HS9.out
   have h6 := HBQ.out
   omega
  | false =>
   gi_wp2_with (first | ((try refine ⟨trivial, ?_⟩); gi_at_call 96; refine (CallsIn.inRound l (callsIn_wide.2 (try_calls ks a0_0 a0_1 a0_2 a0_3 A0_4 c0_4 l0_4 A0_5 c0_5 l0_5 A0_6 c0_6 l0_6 A0_7 c0_7 l0_7 A0_8 c0_8 l0_8 a1_0 a1_1 a1_2 a1_3 a1_4 a1_5 a1_6 a1_7 u x px _ g3 g4 g5 _ (Kd.C_below HR0_4.out (HB.out)) HC0_4.out (Kd.C_below HR0_5.out (HB.out)) HC0_5.out (Kd.C_below HR0_6.out (HB.out)) HC0_6.out (Kd.C_below HR0_7.out (HB.out)) HC0_7.out (Kd.C_below HR0_8.out (HB.out)) HC0_8.out HXg3.out HXg4.out HXg5.out HPx.out HSx.out))).mono ?_; rintro e wp ⟨vp, rfl, hrp, hbp⟩; obtain ⟨Ap, cp, rfl⟩ := Kd.R_slice hrp; have HBP := m_ hbp; have HRP := m_ hrp; clear cg10_0; replace HXg3 := m_ (a1_ HXg3.out hbp); replace HXg4 := m_ (a1_ HXg4.out hbp); replace HXg5 := m_ (a1_ HXg5.out hbp); replace HXg6 := m_ (a1_ HXg6.out hbp); replace HXg7 := m_ (a1_ HXg7.out hbp); replace HXg10 := m_ (a1_ HXg10.out hbp); replace HB := m_ (b0_ HB.out hbp); clear hbp hrp; have zg6 : wp.frozen? ⟨g6, 0, none⟩ = false := a2_ HXg6.out 0; have zg7 : wp.frozen? ⟨g7, 0, none⟩ = false := a2_ HXg7.out 0; have cg6_0 : wp.cell? ⟨g6, 0, none⟩ = some (.slice none 0 0) := (a0_ HXg6.out 0).trans rfl; have cg7_0 : wp.cell? ⟨g7, 0, none⟩ = some (.int .i64 0) := (a0_ HXg7.out 0).trans rfl; have n67 := Ng6_g7.out))
   exact ⟨HBP.out, fun i hi => ⟨_, HAL.out i hi⟩⟩
 case done =>
  intro D W hD hf hBW hK
  have hrr : rr = ([], 5) := by
   rw [HRR.out]
   have : ts.find? (fun x => x.2) = none := List.find?_eq_none.2 fun x hx => by
    obtain ⟨i, hi⟩ := List.getElem?_of_mem hx
    have hil : i < (downL ms.length a1_6).length := by
     rw [← HTS.out.1]; exact (List.getElem?_eq_some_iff.1 hi).1
    obtain ⟨p, hp⟩ := hf _ (List.getElem_mem hil) i (List.getElem?_eq_getElem hil)
    rw [hi] at hp
    rw [Option.some.inj hp]; simp
   unfold fillR; rw [this]
  subst hrr
  replace HXg6 := m_ (a1_ HXg6.out hBW)
  replace HXg7 := m_ (a1_ HXg7.out hBW)
  have HBW := m_ (b0_ HB.out hBW)
  have HD := m_ hD
  have HK := m_ hK
  have HW9 := m_ HB.out.size
  clear HXg3 HXg4 HXg5 HXg10 HB hBW hK hD hf HD1 HD2 HTS HRR
  have z6 : W.frozen? ⟨g6, 0, none⟩ = false := a2_ HXg6.out 0
  have z7 : W.frozen? ⟨g7, 0, none⟩ = false := a2_ HXg7.out 0
  have c6 : W.cell? ⟨g6, 0, none⟩ = some (.slice none 0 0) := (a0_ HXg6.out 0).trans rfl
  have c7 : W.cell? ⟨g7, 0, none⟩ = some (.int .i64 0) := (a0_ HXg7.out 0).trans rfl
  have n67 := Ng6_g7.out
  go_wp2
  have h6 : ((W.setCell ⟨g6, 0, none⟩ (.slice none 0 0)).setCell ⟨g7, 0, none⟩ (.int .i64 5)).heap[g6]? = some (.cells #[.slice none 0 0] 39 (0, 0)) := c7_ (d4_ HXg6.out 0 _ rfl) n67 _
  have h7 : ((W.setCell ⟨g6, 0, none⟩ (.slice none 0 0)).setCell ⟨g7, 0, none⟩ (.int .i64 5)).heap[g7]? = some (.cells #[.int .i64 5] 32 (0, 0)) := d4_ (c7_ HXg7.out n67.symm _) 0 _ rfl
  have hk := ((KeepsOthers.setCell W ⟨g6, 0, none⟩ (.slice none 0 0)).trans (KeepsOthers.setCell _ ⟨g7, 0, none⟩ (.int .i64 5))).same D _ HK.out rfl
  have hs : Stands w g6 g7 ([], 5) ((W.setCell ⟨g6, 0, none⟩ (.slice none 0 0)).setCell ⟨g7, 0, none⟩ (.int .i64 5)) := ⟨_, h6, h7, Kd.R_nil _ _ _ _ _, b6_ (b6_ HBW.out Gg6) Gg7⟩
  obtain ⟨v, k4, k5, kr, kb⟩ := hs.mark (by have := HD.out; have := HW9.out; omega) hk
  exact marks_ret1 hk (results58 rfl rfl k4 k5) ⟨v, rfl, kr, kb⟩
 case stop =>
  intro D k x W hD hx hf ⟨p, hp, hs⟩ hK
  have hrr : rr = (p.1, 0) := by
   rw [HRR.out]
   have : ts.find? (fun x => x.2) = some (p.1, true) := by
    rw [List.find?_eq_some_iff_getElem]
    obtain ⟨hk, he⟩ := List.getElem?_eq_some_iff.1 (hp k hx)
    refine ⟨rfl, k, hk, he, fun j hj => ?_⟩
    have hjl : j < (downL ms.length a1_6).length := by rw [← HTS.out.1]; omega
    obtain ⟨q, hq⟩ := hf (downL ms.length a1_6)[j] (List.mem_take_iff_getElem.2 ⟨j, by omega, rfl⟩) j (List.getElem?_eq_getElem hjl)
    rw [List.getElem?_eq_getElem (by omega)] at hq
    rw [Option.some.inj hq]; simp
   unfold fillR; rw [this]
  subst hrr
  have hw := HB.out.size
  obtain ⟨v, k4, k5, kr, kb⟩ := hs.mark (by omega) hK
  exact marks_ret1 hK (results58 rfl rfl k4 k5) ⟨v, rfl, kr, kb⟩
theorem elastic_Fill.calls (k : Nat) (a0_0 a0_1 a0_2 a0_3 : Int) (A0_4 : Option Addr) (c0_4 : Nat) (l0_4 : List (S51)) (A0_5 : Option Addr) (c0_5 : Nat) (l0_5 : List (S24)) (A0_6 : Option Addr) (c0_6 : Nat) (l0_6 : List (S41)) (A0_7 : Option Addr) (c0_7 : Nat) (l0_7 : List (S105)) (A0_8 : Option Addr) (c0_8 : Nat) (l0_8 : List (S149)) (a1_0 a1_1 a1_2 a1_3 a1_4 a1_5 a1_6 a1_7 a2 : Int) (r1 : List (S52)) (r2 : Int) (w : World) (hr0_4 : Kd.C k51 w A0_4 l0_4.length l0_4) (hc0_4 : l0_4.length ≤ c0_4) (hr0_5 : Kd.C k24 w A0_5 l0_5.length l0_5) (hc0_5 : l0_5.length ≤ c0_5) (hr0_6 : Kd.C k41 w A0_6 l0_6.length l0_6) (hc0_6 : l0_6.length ≤ c0_6) (hr0_7 : Kd.C k105 w A0_7 l0_7.length l0_7) (hc0_7 : l0_7.length ≤ c0_7) (hr0_8 : Kd.C k149 w A0_8 l0_8.length l0_8) (hc0_8 : l0_8.length ≤ c0_8) (h : elastic_Fill.f k a0_0 a0_1 a0_2 a0_3 l0_4 l0_5 l0_6 l0_7 l0_8 a1_0 a1_1 a1_2 a1_3 a1_4 a1_5 a1_6 a1_7 a2 = some (r1, r2)) :
  Calls Try.prog 58 #[.agg #[.int .i64 a0_0, .int .i64 a0_1, .int .i64 a0_2, .int .i64 a0_3, .slice A0_4 l0_4.length c0_4, .slice A0_5 l0_5.length c0_5, .slice A0_6 l0_6.length c0_6, .slice A0_7 l0_7.length c0_7, .slice A0_8 l0_8.length c0_8], .agg #[.int .i64 a1_0, .int .i64 a1_1, .int .i64 a1_2, .int .i64 a1_3, .int .i64 a1_4, .int .i64 a1_5, .int .i64 a1_6, .int .i64 a1_7], .int .i64 a2] w fun e w' => ∃ v0_ : Value, e = .returned (.tuple #[v0_, .int .i64 r2]) ∧ Kd.R k52 52 w' w.heap.size (fun _ => True) v0_ r1 ∧ Below w.heap.size w w' := by
 unfold elastic_Fill.f at h
 obtain ⟨⟨ms, e0⟩, hM, h⟩ := Option.bind_eq_some_iff.1 h
 simp only at h
 by_cases he : e0 = 0
 ·rw [if_pos he] at h
  subst he
  by_cases hb : -1000000 ≤ a1_6 ∧ a1_6 ≤ 1000000 ∧ ms.length ≤ 1000000
  ·rw [if_pos hb] at h
   obtain ⟨ts, hts, h⟩ := Option.bind_eq_some_iff.1 h
   have h := Option.some.inj h
   have := fill_yes k a0_0 a0_1 a0_2 a0_3 A0_4 c0_4 l0_4 A0_5 c0_5 l0_5 A0_6 c0_6 l0_6 A0_7 c0_7 l0_7 A0_8 c0_8 l0_8 a1_0 a1_1 a1_2 a1_3 a1_4 a1_5 a1_6 a1_7 a2 ms ts _ w hr0_4 hc0_4 hr0_5 hc0_5 hr0_6 hc0_6 hr0_7 hc0_7 hr0_8 hc0_8 hM ⟨⟨hb.1, hb.2.1⟩, hb.2.2⟩ hts rfl
   rw [h] at this
   exact this
  ·rw [if_neg hb] at h; cases h
 ·rw [if_neg he] at h
  have h := Option.some.inj h
  injection h with h1 h2
  subst h1 h2
  exact fill_no a0_0 a0_1 a0_2 a0_3 A0_4 c0_4 l0_4 A0_5 c0_5 l0_5 A0_6 c0_6 l0_6 A0_7 c0_7 l0_7 A0_8 c0_8 l0_8 a1_0 a1_1 a1_2 a1_3 a1_4 a1_5 a1_6 a1_7 a2 ms e0 w hr0_4 hc0_4 hr0_5 hc0_5 hr0_6 hc0_6 hr0_7 hc0_7 hr0_8 hc0_8 hM he
theorem grown_bj {W W' : World} (h : Below W.heap.size W W') : W.grownBy W' none := ⟨h.os, h.tape, h.output, h.size, fun k hk _ => h.block k hk⟩
def isHd (h : Int) (x : S105) : Bool := decide (h ≠ 0) && decide (x.f0.f0 = h)
def jobsL (h : Int) (hd : Bool) (l : List S105) : List S88 := (l.filter fun x => isHd h x == hd).map fun x => x.f0
theorem jobsL_step {h : Int} {hd : Bool} {l : List S105} {i : Nat} (hi : i < l.length) : jobsL h hd (l.take (i + 1)) = jobsL h hd (l.take i) ++ (if (isHd h l[i] == hd) = true then [l[i].f0] else []) := by
 unfold jobsL
 rw [List.take_succ_eq_append_getElem hi, List.filter_append, List.map_append]
 congr 1
 by_cases e : (isHd h l[i] == hd) = true
 ·rw [if_pos e]; simp [List.filter_cons, e]
 ·rw [if_neg e]; simp [List.filter_cons, e]
theorem jobsL_pre (h : Int) (hd : Bool) (l : List S105) (i : Nat) : jobsL h hd (l.take i) <+: jobsL h hd l := by
 refine ⟨jobsL h hd (l.drop i), ?_⟩
 unfold jobsL
 rw [← List.map_append, ← List.filter_append, List.take_append_drop]
def encJ (x : S88) : Array Value := #[.agg #[.int .i64 x.f0, .int .i64 x.f1, .int .i64 x.f2, .int .i64 x.f3, .int .i64 x.f4.f0, .int .i64 x.f4.f1, .int .i64 x.f4.f2, .int .i64 x.f4.f3]]
set_option maxHeartbeats 2000000 in
set_option maxRecDepth 100000 in
theorem jobs_calls (a0_0 a0_1 a0_2 a0_3 : Int) (A0_4 : Option Addr) (c0_4 : Nat) (l0_4 : List (S51)) (A0_5 : Option Addr) (c0_5 : Nat) (l0_5 : List (S24)) (A0_6 : Option Addr) (c0_6 : Nat) (l0_6 : List (S41)) (A0_7 : Option Addr) (c0_7 : Nat) (l0_7 : List (S105)) (A0_8 : Option Addr) (c0_8 : Nat) (l0_8 : List (S149)) (hd : Bool) (w : World) : Calls Try.prog 118 #[.agg #[.int .i64 a0_0, .int .i64 a0_1, .int .i64 a0_2, .int .i64 a0_3, .slice A0_4 l0_4.length c0_4, .slice A0_5 l0_5.length c0_5, .slice A0_6 l0_6.length c0_6, .slice A0_7 l0_7.length c0_7, .slice A0_8 l0_8.length c0_8], .bool hd] w fun e w' => e = .returned (.func (.func 135) #[] #[.pointer (some ⟨w.heap.size, 0, none⟩), .pointer (some ⟨w.heap.size + 1, 0, none⟩)]) ∧
  w'.heap[w.heap.size]? = some (.cells #[.int .i64 a0_0, .int .i64 a0_1, .int .i64 a0_2, .int .i64 a0_3, .slice A0_4 l0_4.length c0_4, .slice A0_5 l0_5.length c0_5, .slice A0_6 l0_6.length c0_6, .slice A0_7 l0_7.length c0_7, .slice A0_8 l0_8.length c0_8] 86 (0, 0)) ∧ w'.heap[w.heap.size + 1]? = some (.cells #[.bool hd] 4 (0, 0)) ∧ Below w.heap.size w w' := by
 have hu4 := Try.underlying4
 have hu86 := Try.underlying86
 go_enter Try.func118, Try.ntmps118
 go_wp2
 go_ret
 refine ⟨rfl, ?_, ?_, b5_ (b5_ (Below.refl _ _) _) _⟩
 ·exact b9_ (heap_alloc_new w _) _
 ·have := heap_alloc_new (w.alloc (.cells #[.int .i64 a0_0, .int .i64 a0_1, .int .i64 a0_2, .int .i64 a0_3, .slice A0_4 l0_4.length c0_4, .slice A0_5 l0_5.length c0_5, .slice A0_6 l0_6.length c0_6, .slice A0_7 l0_7.length c0_7, .slice A0_8 l0_8.length c0_8] 86)) (.cells #[.bool hd] 4)
  rwa [World.size_alloc] at this
set_option maxHeartbeats 8000000 in
set_option maxRecDepth 100000 in
theorem jobs_goes (gl gb : Nat) (hd : Bool) (a0_0 a0_1 a0_2 a0_3 : Int) (A0_4 : Option Addr) (c0_4 : Nat) (l0_4 : List (S51)) (A0_5 : Option Addr) (c0_5 : Nat) (l0_5 : List (S24)) (A0_6 : Option Addr) (c0_6 : Nat) (l0_6 : List (S41)) (A0_7 : Option Addr) (c0_7 : Nat) (l0_7 : List (S105)) (A0_8 : Option Addr) (c0_8 : Nat) (l0_8 : List (S149)) (w : World) (hl : w.heap[gl]? = some (.cells #[.int .i64 a0_0, .int .i64 a0_1, .int .i64 a0_2, .int .i64 a0_3, .slice A0_4 l0_4.length c0_4, .slice A0_5 l0_5.length c0_5, .slice A0_6 l0_6.length c0_6, .slice A0_7 l0_7.length c0_7, .slice A0_8 l0_8.length c0_8] 86 (0, 0))) (hb : w.heap[gb]? = some (.cells #[.bool hd] 4 (0, 0))) (hr : Kd.C k105 w A0_7 l0_7.length l0_7) (hn : l0_7.length ≤ 1000000) :
  GoesOver Try.prog 135 #[.pointer (some ⟨gl, 0, none⟩), .pointer (some ⟨gb, 0, none⟩)] encJ (jobsL a0_1 hd l0_7) w := by
 intro l J Jx W hW hJ hJx hY h0
 have hl1 := (Array.getElem?_eq_some_iff.1 hl).1
 have hb1 := (Array.getElem?_eq_some_iff.1 hb).1
 have HL := m_ (fun (X : World) (h : Below w.heap.size w X) => (h.block gl hl1).trans hl)
 have HBX := m_ (fun (X : World) (h : Below w.heap.size w X) => (h.block gb hb1).trans hb)
 have HR := m_ (fun (X : World) (h : Below w.heap.size w X) => Kd.C_below hr h)
 have HN := m_ hn
 have HW := m_ hW
 have HJ := m_ hJ
 have HXgl := m_ (HL.out W hW)
 clear hl hb hl1 hb1 hW hr hn hJ
 have hu86 := Try.underlying86
 have hu105 := Try.underlying105
 have hu88 := Try.underlying88
 obtain ⟨cgl_0, cgl_1, cgl_2, cgl_3, cgl_4, cgl_5, cgl_6, cgl_7, cgl_8⟩ := cz9_ HXgl
 refine callsIn_of_wp Try.func135 rfl trivial ?_ rfl
 simp only [Try.ntmps135, List.size_toArray, List.length_cons, List.length_nil, Nat.reduceAdd, Nat.reduceSub, Array.replicate_succ, Array.replicate_zero, List.push_toArray, List.append_toArray, List.nil_append, List.cons_append]
 gi_wp2
 gi_loopw [10] (fun v10 wr => ∃ (pre : List {x // x ∈ jobsL a0_1 hd l0_7}) (i : Nat), A_ (pre.map (fun y => y.1) = jobsL a0_1 hd (l0_7.take i)) ∧ i ≤ l0_7.length ∧ v10 = .int .i64 (i : Int) ∧ A_ (J pre wr) ∧ A_ (Below w.heap.size w wr) ∧ A_ (W.heap.size ≤ wr.heap.size))
  (fun v10 _ => l0_7.length - (intOf v10).toNat)
 case atStart => exact ⟨[], 0, ⟨rfl⟩, Nat.zero_le _, rfl, ⟨h0⟩, HW, ⟨Nat.le_refl _⟩⟩
 case round =>
  clear cgl_0 cgl_1 cgl_2 cgl_3 cgl_4 cgl_5 cgl_6 cgl_7 cgl_8
  clear HXgl h0
  obtain ⟨pre, i, HP, hi, rfl, HJP, HB, HSZ⟩ := hrel
  have HXgl := m_ (HL.out wr HB.out)
  have HXgb := m_ (HBX.out wr HB.out)
  by_cases hlt : i < l0_7.length
  ·have hlt' : (i : Int) < l0_7.length := by omega
   have h0i : 0 ≤ (i : Int) := by omega
   have hrC := HR.out wr HB.out
   obtain ⟨ad1, ee, y0, y1, y2, y3, y4, y5, y6, y7, y8, y9⟩ := at_T105 hrC (i : Int) h0i hlt'
   cases ee
   simp only [Int.toNat_natCast] at y0 y1 y2 y3 y4 y5 y6 y7 y8 y9
   have hx : a6_ l0_7 (i : Int) = l0_7[i] := by simp [a6_, List.getD_eq_getElem?_getD, List.getElem?_eq_getElem hlt]
   have hst := jobsL_step (h := a0_1) (hd := hd) hlt
   have hmem := List.getElem_mem hlt
   rw [hx] at y0 y1 y2 y3 y4 y5 y6 y7 y8 y9
   generalize l0_7[i] = x at *
   have HST := m_ hst
   have HMEM := m_ hmem
   have HLT := m_ hlt
   have hib : (i : Int) ≤ 1000000 := by have := HN.out; omega
   clear hst hmem hx hlt hrC
   obtain ⟨cgl_0, cgl_1, cgl_2, cgl_3, cgl_4, cgl_5, cgl_6, cgl_7, cgl_8⟩ := cz9_ HXgl
   have cgb_0 : wr.cell? ⟨gb, 0, none⟩ = some (.bool hd) := (a0_ HXgb.out 0).trans rfl
   have HXW := b9_ HXgl.out (.cells #[.int .i64 x.f0.f0, .int .i64 x.f0.f1, .int .i64 x.f0.f2, .int .i64 x.f0.f3, .int .i64 x.f0.f4.f0, .int .i64 x.f0.f4.f1, .int .i64 x.f0.f4.f2, .int .i64 x.f0.f4.f3, .int .i64 x.f1, .int .i64 x.f2] 105)
   have HXV := b9_ HXgb.out (.cells #[.int .i64 x.f0.f0, .int .i64 x.f0.f1, .int .i64 x.f0.f2, .int .i64 x.f0.f3, .int .i64 x.f0.f4.f0, .int .i64 x.f0.f4.f1, .int .i64 x.f0.f4.f2, .int .i64 x.f0.f4.f3, .int .i64 x.f1, .int .i64 x.f2] 105)
   have HXN := blk_new wr (.cells #[.int .i64 x.f0.f0, .int .i64 x.f0.f1, .int .i64 x.f0.f2, .int .i64 x.f0.f3, .int .i64 x.f0.f4.f0, .int .i64 x.f0.f4.f1, .int .i64 x.f0.f4.f2, .int .i64 x.f0.f4.f3, .int .i64 x.f1, .int .i64 x.f2] 105)
   have d1 : (wr.alloc (.cells #[.int .i64 x.f0.f0, .int .i64 x.f0.f1, .int .i64 x.f0.f2, .int .i64 x.f0.f3, .int .i64 x.f0.f4.f0, .int .i64 x.f0.f4.f1, .int .i64 x.f0.f4.f2, .int .i64 x.f0.f4.f3, .int .i64 x.f1, .int .i64 x.f2] 105)).cell? ⟨gl, 1, none⟩ = some (.int .i64 a0_1) := (a0_ HXW 1).trans rfl
   have d7 : (wr.alloc (.cells #[.int .i64 x.f0.f0, .int .i64 x.f0.f1, .int .i64 x.f0.f2, .int .i64 x.f0.f3, .int .i64 x.f0.f4.f0, .int .i64 x.f0.f4.f1, .int .i64 x.f0.f4.f2, .int .i64 x.f0.f4.f3, .int .i64 x.f1, .int .i64 x.f2] 105)).cell? ⟨gl, 7, none⟩ = some (.slice (some ad1) l0_7.length c0_7) := (a0_ HXW 7).trans rfl
   have db : (wr.alloc (.cells #[.int .i64 x.f0.f0, .int .i64 x.f0.f1, .int .i64 x.f0.f2, .int .i64 x.f0.f3, .int .i64 x.f0.f4.f0, .int .i64 x.f0.f4.f1, .int .i64 x.f0.f4.f2, .int .i64 x.f0.f4.f3, .int .i64 x.f1, .int .i64 x.f2] 105)).cell? ⟨gb, 0, none⟩ = some (.bool hd) := (a0_ HXV 0).trans rfl
   have e0 : (wr.alloc (.cells #[.int .i64 x.f0.f0, .int .i64 x.f0.f1, .int .i64 x.f0.f2, .int .i64 x.f0.f3, .int .i64 x.f0.f4.f0, .int .i64 x.f0.f4.f1, .int .i64 x.f0.f4.f2, .int .i64 x.f0.f4.f3, .int .i64 x.f1, .int .i64 x.f2] 105)).cell? ⟨wr.heap.size, 0, none⟩ = some (.int .i64 x.f0.f0) := (a0_ HXN 0).trans rfl
   have e1 : (wr.alloc (.cells #[.int .i64 x.f0.f0, .int .i64 x.f0.f1, .int .i64 x.f0.f2, .int .i64 x.f0.f3, .int .i64 x.f0.f4.f0, .int .i64 x.f0.f4.f1, .int .i64 x.f0.f4.f2, .int .i64 x.f0.f4.f3, .int .i64 x.f1, .int .i64 x.f2] 105)).cell? ⟨wr.heap.size, 1, none⟩ = some (.int .i64 x.f0.f1) := (a0_ HXN 1).trans rfl
   have e2 : (wr.alloc (.cells #[.int .i64 x.f0.f0, .int .i64 x.f0.f1, .int .i64 x.f0.f2, .int .i64 x.f0.f3, .int .i64 x.f0.f4.f0, .int .i64 x.f0.f4.f1, .int .i64 x.f0.f4.f2, .int .i64 x.f0.f4.f3, .int .i64 x.f1, .int .i64 x.f2] 105)).cell? ⟨wr.heap.size, 2, none⟩ = some (.int .i64 x.f0.f2) := (a0_ HXN 2).trans rfl
   have e3 : (wr.alloc (.cells #[.int .i64 x.f0.f0, .int .i64 x.f0.f1, .int .i64 x.f0.f2, .int .i64 x.f0.f3, .int .i64 x.f0.f4.f0, .int .i64 x.f0.f4.f1, .int .i64 x.f0.f4.f2, .int .i64 x.f0.f4.f3, .int .i64 x.f1, .int .i64 x.f2] 105)).cell? ⟨wr.heap.size, 3, none⟩ = some (.int .i64 x.f0.f3) := (a0_ HXN 3).trans rfl
   have e4 : (wr.alloc (.cells #[.int .i64 x.f0.f0, .int .i64 x.f0.f1, .int .i64 x.f0.f2, .int .i64 x.f0.f3, .int .i64 x.f0.f4.f0, .int .i64 x.f0.f4.f1, .int .i64 x.f0.f4.f2, .int .i64 x.f0.f4.f3, .int .i64 x.f1, .int .i64 x.f2] 105)).cell? ⟨wr.heap.size, 4, none⟩ = some (.int .i64 x.f0.f4.f0) := (a0_ HXN 4).trans rfl
   have e5 : (wr.alloc (.cells #[.int .i64 x.f0.f0, .int .i64 x.f0.f1, .int .i64 x.f0.f2, .int .i64 x.f0.f3, .int .i64 x.f0.f4.f0, .int .i64 x.f0.f4.f1, .int .i64 x.f0.f4.f2, .int .i64 x.f0.f4.f3, .int .i64 x.f1, .int .i64 x.f2] 105)).cell? ⟨wr.heap.size, 5, none⟩ = some (.int .i64 x.f0.f4.f1) := (a0_ HXN 5).trans rfl
   have e6 : (wr.alloc (.cells #[.int .i64 x.f0.f0, .int .i64 x.f0.f1, .int .i64 x.f0.f2, .int .i64 x.f0.f3, .int .i64 x.f0.f4.f0, .int .i64 x.f0.f4.f1, .int .i64 x.f0.f4.f2, .int .i64 x.f0.f4.f3, .int .i64 x.f1, .int .i64 x.f2] 105)).cell? ⟨wr.heap.size, 6, none⟩ = some (.int .i64 x.f0.f4.f2) := (a0_ HXN 6).trans rfl
   have e7 : (wr.alloc (.cells #[.int .i64 x.f0.f0, .int .i64 x.f0.f1, .int .i64 x.f0.f2, .int .i64 x.f0.f3, .int .i64 x.f0.f4.f0, .int .i64 x.f0.f4.f1, .int .i64 x.f0.f4.f2, .int .i64 x.f0.f4.f3, .int .i64 x.f1, .int .i64 x.f2] 105)).cell? ⟨wr.heap.size, 7, none⟩ = some (.int .i64 x.f0.f4.f3) := (a0_ HXN 7).trans rfl
   have HBA := m_ (b5_ (Below.refl wr.heap.size wr) (.cells #[.int .i64 x.f0.f0, .int .i64 x.f0.f1, .int .i64 x.f0.f2, .int .i64 x.f0.f3, .int .i64 x.f0.f4.f0, .int .i64 x.f0.f4.f1, .int .i64 x.f0.f4.f2, .int .i64 x.f0.f4.f3, .int .i64 x.f1, .int .i64 x.f2] 105))
   clear HXW HXV HXN
   have hpl : (isHd a0_1 x == hd) = true → pre.length < (jobsL a0_1 hd l0_7).length := fun hh => by
    have h1 := congrArg List.length HP.out
    have h2 := (jobsL_pre a0_1 hd l0_7 (i + 1)).length_le
    rw [HST.out, if_pos hh, List.length_append] at h2
    rw [List.length_map] at h1
    simp at h2
    omega
   have hin : (isHd a0_1 x == hd) = true → x.f0 ∈ jobsL a0_1 hd l0_7 := fun hh => List.mem_map.2 ⟨x, List.mem_filter.2 ⟨HMEM.out, hh⟩, rfl⟩
   have HPL := m_ hpl
   have HIN := m_ hin
   clear hpl hin
   obtain ⟨b, hbe⟩ : ∃ b, b = isHd a0_1 x := ⟨_, rfl⟩
   rw [← hbe] at HST HPL HIN
   have t1 : b = (if a0_1 = 0 then false else decide (x.f0.f0 = a0_1)) := by
    rw [hbe]; unfold isHd
    by_cases hz : a0_1 = 0
    ·simp [hz]
    ·simp [hz]
   have HT1 := m_ t1
   clear hbe t1
   have HTST : (a0_1 = 0 ∧ b = false) ∨ (a0_1 ≠ 0 ∧ x.f0.f0 = a0_1 ∧ b = true) ∨ (a0_1 ≠ 0 ∧ x.f0.f0 ≠ a0_1 ∧ b = false) := by
    have := HT1.out
    by_cases hz : a0_1 = 0
    ·exact .inl ⟨hz, by rw [this, if_pos hz]⟩
    ·rw [if_neg hz] at this
     by_cases hx : x.f0.f0 = a0_1
     ·exact .inr (.inl ⟨hz, hx, by rw [this, decide_eq_true hx]⟩)
     ·exact .inr (.inr ⟨hz, hx, by rw [this, decide_eq_false hx]⟩)
   clear HT1
   rcases HTST with ⟨hz, rfl⟩ | ⟨hz, hx, rfl⟩ | ⟨hz, hx, rfl⟩
   ·have z1 : (a0_1 != 0) = false := by simpa using hz
    clear hz
    cases hd with
    | true =>
     gi_wp2
     refine ⟨fun _ h => (by cases h), ?_⟩
     gi_wp2
     go_roundw
     case rel => exact ⟨pre, i + 1, ⟨by rw [HP.out, HST.out]; simp⟩, HLT.out, by go_num, ⟨HJ.out _ _ _ none HJP.out (grown_bj HBA.out) (fun r e => by cases e)⟩, ⟨b0_ HB.out HBA.out⟩, ⟨Nat.le_trans HSZ.out HBA.out.size⟩⟩
     case measure => have := HLT.out; simp [intOf]; omega
    | false =>
     have hpl := HPL.out rfl
     have hin := HIN.out rfl
     obtain ⟨fn, tmps, assign, body, hy, hR⟩ := hY pre ⟨x.f0, hin⟩ (wr.alloc (.cells #[.int .i64 x.f0.f0, .int .i64 x.f0.f1, .int .i64 x.f0.f2, .int .i64 x.f0.f3, .int .i64 x.f0.f4.f0, .int .i64 x.f0.f4.f1, .int .i64 x.f0.f4.f2, .int .i64 x.f0.f4.f3, .int .i64 x.f1, .int .i64 x.f2] 105)) (HJ.out _ _ _ none HJP.out (grown_bj HBA.out) (fun r e => by cases e)) hpl
     unfold encJ at hy
     have HHIN := m_ hin
     clear hpl
     gi_wp2
     refine hR.mono ?_
     rintro e W3 (⟨rfl, hJ3, hk3⟩ | ⟨rfl, hJx3⟩)
     ·have HB3 := m_ ((b0_ HB.out HBA.out).trans hk3)
      have HS3 := m_ (Nat.le_trans HSZ.out (Nat.le_trans HBA.out.size hk3.size))
      clear hk3 hy hR
      clear d1 d7 db e0 e1 e2 e3 e4 e5 e6 e7
      gi_wp2
      go_roundw
      case rel => exact ⟨pre ++ [⟨x.f0, hin⟩], i + 1, ⟨by rw [List.map_append, HP.out, HST.out]; rfl⟩, HLT.out, by go_num, ⟨hJ3⟩, HB3, HS3⟩
      case measure => have := HLT.out; simp [intOf]; omega
     ·gi_wp2
      refine bodyPost_ret (results_none rfl _ _ _) rfl ?_
      exact ⟨⟨_, rfl⟩, .inr ⟨pre ++ [⟨x.f0, hin⟩], by
       rw [List.map_append, HP.out]
       have := jobsL_pre a0_1 false l0_7 (i + 1)
       rw [HST.out] at this
       exact this, hJx3⟩⟩
   ·have z1 : (a0_1 != 0) = true := by simpa using hz
    have z2 : (x.f0.f0 == a0_1) = true := by simpa using hx
    clear hz hx
    cases hd with
    | true =>
     have hpl := HPL.out rfl
     have hin := HIN.out rfl
     obtain ⟨fn, tmps, assign, body, hy, hR⟩ := hY pre ⟨x.f0, hin⟩ (wr.alloc (.cells #[.int .i64 x.f0.f0, .int .i64 x.f0.f1, .int .i64 x.f0.f2, .int .i64 x.f0.f3, .int .i64 x.f0.f4.f0, .int .i64 x.f0.f4.f1, .int .i64 x.f0.f4.f2, .int .i64 x.f0.f4.f3, .int .i64 x.f1, .int .i64 x.f2] 105)) (HJ.out _ _ _ none HJP.out (grown_bj HBA.out) (fun r e => by cases e)) hpl
     unfold encJ at hy
     have HHIN := m_ hin
     clear hpl
     gi_wp2
     refine hR.mono ?_
     rintro e W3 (⟨rfl, hJ3, hk3⟩ | ⟨rfl, hJx3⟩)
     ·have HB3 := m_ ((b0_ HB.out HBA.out).trans hk3)
      have HS3 := m_ (Nat.le_trans HSZ.out (Nat.le_trans HBA.out.size hk3.size))
      clear hk3 hy hR
      clear d1 d7 db e0 e1 e2 e3 e4 e5 e6 e7
      gi_wp2
      go_roundw
      case rel => exact ⟨pre ++ [⟨x.f0, hin⟩], i + 1, ⟨by rw [List.map_append, HP.out, HST.out]; rfl⟩, HLT.out, by go_num, ⟨hJ3⟩, HB3, HS3⟩
      case measure => have := HLT.out; simp [intOf]; omega
     ·gi_wp2
      refine bodyPost_ret (results_none rfl _ _ _) rfl ?_
      exact ⟨⟨_, rfl⟩, .inr ⟨pre ++ [⟨x.f0, hin⟩], by
       rw [List.map_append, HP.out]
       have := jobsL_pre a0_1 true l0_7 (i + 1)
       rw [HST.out] at this
       exact this, hJx3⟩⟩
    | false =>
     gi_wp2
     refine ⟨fun _ h => (by cases h), ?_⟩
     gi_wp2
     go_roundw
     case rel => exact ⟨pre, i + 1, ⟨by rw [HP.out, HST.out]; simp⟩, HLT.out, by go_num, ⟨HJ.out _ _ _ none HJP.out (grown_bj HBA.out) (fun r e => by cases e)⟩, ⟨b0_ HB.out HBA.out⟩, ⟨Nat.le_trans HSZ.out HBA.out.size⟩⟩
     case measure => have := HLT.out; simp [intOf]; omega
   ·have z1 : (a0_1 != 0) = true := by simpa using hz
    have z2 : (x.f0.f0 == a0_1) = false := by simpa using hx
    clear hz hx
    cases hd with
    | true =>
     gi_wp2
     refine ⟨fun _ h => (by cases h), ?_⟩
     gi_wp2
     go_roundw
     case rel => exact ⟨pre, i + 1, ⟨by rw [HP.out, HST.out]; simp⟩, HLT.out, by go_num, ⟨HJ.out _ _ _ none HJP.out (grown_bj HBA.out) (fun r e => by cases e)⟩, ⟨b0_ HB.out HBA.out⟩, ⟨Nat.le_trans HSZ.out HBA.out.size⟩⟩
     case measure => have := HLT.out; simp [intOf]; omega
    | false =>
     have hpl := HPL.out rfl
     have hin := HIN.out rfl
     obtain ⟨fn, tmps, assign, body, hy, hR⟩ := hY pre ⟨x.f0, hin⟩ (wr.alloc (.cells #[.int .i64 x.f0.f0, .int .i64 x.f0.f1, .int .i64 x.f0.f2, .int .i64 x.f0.f3, .int .i64 x.f0.f4.f0, .int .i64 x.f0.f4.f1, .int .i64 x.f0.f4.f2, .int .i64 x.f0.f4.f3, .int .i64 x.f1, .int .i64 x.f2] 105)) (HJ.out _ _ _ none HJP.out (grown_bj HBA.out) (fun r e => by cases e)) hpl
     unfold encJ at hy
     have HHIN := m_ hin
     clear hpl
     gi_wp2
     refine hR.mono ?_
     rintro e W3 (⟨rfl, hJ3, hk3⟩ | ⟨rfl, hJx3⟩)
     ·have HB3 := m_ ((b0_ HB.out HBA.out).trans hk3)
      have HS3 := m_ (Nat.le_trans HSZ.out (Nat.le_trans HBA.out.size hk3.size))
      clear hk3 hy hR
      clear d1 d7 db e0 e1 e2 e3 e4 e5 e6 e7
      gi_wp2
      go_roundw
      case rel => exact ⟨pre ++ [⟨x.f0, hin⟩], i + 1, ⟨by rw [List.map_append, HP.out, HST.out]; rfl⟩, HLT.out, by go_num, ⟨hJ3⟩, HB3, HS3⟩
      case measure => have := HLT.out; simp [intOf]; omega
     ·gi_wp2
      refine bodyPost_ret (results_none rfl _ _ _) rfl ?_
      exact ⟨⟨_, rfl⟩, .inr ⟨pre ++ [⟨x.f0, hin⟩], by
       rw [List.map_append, HP.out]
       have := jobsL_pre a0_1 false l0_7 (i + 1)
       rw [HST.out] at this
       exact this, hJx3⟩⟩
  ·obtain rfl : i = l0_7.length := by omega
   have hnn : ¬ ((l0_7.length : Int) < l0_7.length) := by omega
   gi_wp2
   go_end0
   exact ⟨⟨_, rfl⟩, .inl ⟨pre, by show pre.map (fun y => y.1) = _; rw [HP.out, List.take_length], HJP.out⟩⟩
def Chosen (w : World) (g2 g3 : Nat) (d id : Int) (sl : List S52) (ok : Bool) (W : World) : Prop :=
 ∃ A c, W.heap[g2]? = some (.cells #[.int .i64 d, .int .i64 id, .slice A sl.length c] 100 (0, 0)) ∧ W.heap[g3]? = some (.cells #[.bool ok] 4 (0, 0)) ∧ Kd.R k52 52 W w.heap.size (fun _ => True) (.slice A sl.length c) sl ∧ Below w.heap.size w W
theorem Chosen.own {w : World} {g2 g3 : Nat} {d id : Int} {sl : List S52} {ok : Bool} {B : Nat} (hB : w.heap.size ≤ B) : OwnFrom B (fun (_ : Unit) W => Chosen w g2 g3 d id sl ok W) := by
 rintro _ A C row ⟨a, c, h1, h2, h3, h4⟩ hg hr
 have hr' : ∀ r, row = some r → ∃ o : Obj, A.heap[r]? = some o ∧ o.isCells = false := fun r e => (hr r e).2
 exact ⟨a, c, blk_own h1 hg hr', blk_own h2 hg hr', R_own h3 hg hr', h4.grown hg h4.size (fun k e => Nat.le_trans hB (hr k e).1)⟩
theorem Chosen.mark {w : World} {g2 g3 : Nat} {d id : Int} {sl : List S52} {ok : Bool} {W : World} {D : Nat} (h : Chosen w g2 g3 d id sl ok W) (hD : w.heap.size ≤ D) (hK : W.heap[D]? = some (.deferred (some []))) : Chosen w g2 g3 d id sl ok (W.putObj D (.deferred none)) :=
 Chosen.own (Nat.le_refl _) () _ _ (some D) h (grownBy_putObj' W D _) (fun r e => by cases e; exact ⟨hD, _, hK, rfl⟩)
theorem results100 {tmps : Array Value} {w : World} {g2 g3 : Nat} {a b c u : Value} {t t' : TypeId} (h4 : tmps.getD 2 undef = .pointer (some ⟨g2, 0, none⟩)) (h5 : tmps.getD 3 undef = .pointer (some ⟨g3, 0, none⟩))
  (b4 : w.heap[g2]? = some (.cells #[a, b, c] t (0, 0))) (b5 : w.heap[g3]? = some (.cells #[u] t' (0, 0))) : (results Try.f100 tmps).run Try.prog w = .ok (.tuple #[.agg #[a, b, c], u]) w := by
 have h4' : tmps[2]?.getD undef = .pointer (some ⟨g2, 0, none⟩) := by simpa using h4
 have h5' : tmps[3]?.getD undef = .pointer (some ⟨g3, 0, none⟩) := by simpa using h5
 obtain ⟨c0, c1, c2⟩ := cz3_ ⟨b4⟩
 have c5 : w.cell? ⟨g3, 0, none⟩ = some u := (a0_ b5 0).trans rfl
 have hu100 := Try.underlying100
 have hu4 := Try.underlying4
 simp [results, Try.f100, go_sem, h4', h5', c0, c1, c2, c5, hu100, hu4]
theorem results101 {tmps : Array Value} {w : World} {g2 g3 : Nat} {a b c u : Value} {t t' : TypeId} (h4 : tmps.getD 2 undef = .pointer (some ⟨g2, 0, none⟩)) (h5 : tmps.getD 3 undef = .pointer (some ⟨g3, 0, none⟩))
  (b4 : w.heap[g2]? = some (.cells #[a, b, c] t (0, 0))) (b5 : w.heap[g3]? = some (.cells #[u] t' (0, 0))) : (results Try.f101 tmps).run Try.prog w = .ok (.tuple #[.agg #[a, b, c], u]) w := by
 have h4' : tmps[2]?.getD undef = .pointer (some ⟨g2, 0, none⟩) := by simpa using h4
 have h5' : tmps[3]?.getD undef = .pointer (some ⟨g3, 0, none⟩) := by simpa using h5
 obtain ⟨c0, c1, c2⟩ := cz3_ ⟨b4⟩
 have c5 : w.cell? ⟨g3, 0, none⟩ = some u := (a0_ b5 0).trans rfl
 have hu100 := Try.underlying100
 have hu4 := Try.underlying4
 simp [results, Try.f101, go_sem, h4', h5', c0, c1, c2, c5, hu100, hu4]
def headF (a0_0 a0_1 a0_2 a0_3 : Int) (l0_4 : List S51) (l0_5 : List S24) (l0_6 : List S41) (l0_7 : List S105) (l0_8 : List S149) : Option (Int × Int × List S52 × Bool) :=
 match jobsL a0_1 true l0_7 with
 | [] => some (0, 0, [], false)
 | x :: _ => (elastic_Most.f a0_0 a0_1 a0_2 a0_3 l0_4 l0_5 l0_6 l0_7 l0_8 x.f0 x.f1 x.f2 x.f3 x.f4.f0 x.f4.f1 x.f4.f2 x.f4.f3).bind fun m => some (1, x.f0, m.1, m.2 == 0)
set_option maxHeartbeats 8000000 in
set_option maxRecDepth 100000 in
theorem head_calls (a0_0 a0_1 a0_2 a0_3 : Int) (A0_4 : Option Addr) (c0_4 : Nat) (l0_4 : List (S51)) (A0_5 : Option Addr) (c0_5 : Nat) (l0_5 : List (S24)) (A0_6 : Option Addr) (c0_6 : Nat) (l0_6 : List (S41)) (A0_7 : Option Addr) (c0_7 : Nat) (l0_7 : List (S105)) (A0_8 : Option Addr) (c0_8 : Nat) (l0_8 : List (S149)) (d id : Int) (sl : List S52) (ok : Bool) (w : World) (hr0_4 : Kd.C k51 w A0_4 l0_4.length l0_4) (hc0_4 : l0_4.length ≤ c0_4) (hr0_5 : Kd.C k24 w A0_5 l0_5.length l0_5) (hc0_5 : l0_5.length ≤ c0_5) (hr0_6 : Kd.C k41 w A0_6 l0_6.length l0_6) (hc0_6 : l0_6.length ≤ c0_6) (hr0_7 : Kd.C k105 w A0_7 l0_7.length l0_7) (hc0_7 : l0_7.length ≤ c0_7) (hr0_8 : Kd.C k149 w A0_8 l0_8.length l0_8) (hc0_8 : l0_8.length ≤ c0_8) (hn : l0_7.length ≤ 1000000) (h : headF a0_0 a0_1 a0_2 a0_3 l0_4 l0_5 l0_6 l0_7 l0_8 = some (d, id, sl, ok)) :
  Calls Try.prog 100 #[.agg #[.int .i64 a0_0, .int .i64 a0_1, .int .i64 a0_2, .int .i64 a0_3, .slice A0_4 l0_4.length c0_4, .slice A0_5 l0_5.length c0_5, .slice A0_6 l0_6.length c0_6, .slice A0_7 l0_7.length c0_7, .slice A0_8 l0_8.length c0_8]] w fun e w' => ∃ A c, e = .returned (.tuple #[.agg #[.int .i64 d, .int .i64 id, .slice A sl.length c], .bool ok]) ∧ Kd.R k52 52 w' w.heap.size (fun _ => True) (.slice A sl.length c) sl ∧ Below w.heap.size w w' := by
 have hu86 := Try.underlying86
 have hu88 := Try.underlying88
 have hu100 := Try.underlying100
 have hu39 := Try.underlying39
 have hu32 := Try.underlying32
 have hu4 := Try.underlying4
 have hu3 := Try.underlying3
 have HR0_4 := m_ hr0_4
 have HC0_4 := m_ hc0_4
 clear hr0_4 hc0_4
 have HR0_5 := m_ hr0_5
 have HC0_5 := m_ hc0_5
 clear hr0_5 hc0_5
 have HR0_6 := m_ hr0_6
 have HC0_6 := m_ hc0_6
 clear hr0_6 hc0_6
 have HR0_7 := m_ hr0_7
 have HC0_7 := m_ hc0_7
 clear hr0_7 hc0_7
 have HR0_8 := m_ hr0_8
 have HC0_8 := m_ hc0_8
 clear hr0_8 hc0_8
 have HB := m_ (Below.refl w.heap.size w)
 have HH := m_ h
 have HN := m_ hn
 clear h hn
 refine calls_marks Try.func100 rfl ?_
 simp only [Try.ntmps100, List.size_toArray, List.length_cons, List.length_nil, Nat.reduceAdd, Nat.reduceSub, Array.replicate_succ, Array.replicate_zero, List.push_toArray, List.append_toArray, List.nil_append, List.cons_append]
 go_wp2_with (first | ((with_reducible refine a3_ (N := 1) rfl ?_); refine bx 1 #[.int .i64 a0_0, .int .i64 a0_1, .int .i64 a0_2, .int .i64 a0_3, .slice A0_4 l0_4.length c0_4, .slice A0_5 l0_5.length c0_5, .slice A0_6 l0_6.length c0_6, .slice A0_7 l0_7.length c0_7, .slice A0_8 l0_8.length c0_8] 86 ?_; intro g1 hgg1 wg1 hxg1 hbg1; have Gg1 : w.heap.size ≤ g1 := Z6; replace HB := m_ (b0_ HB.out hbg1); have HXg1 := m_ hxg1; clear hgg1 hxg1 hbg1) | ((with_reducible refine a3_ (N := 2) rfl ?_); refine bx 2 #[.int .i64 0, .int .i64 0, .slice none 0 0] 100 ?_; intro g2 hgg2 wg2 hxg2 hbg2; have Ng1_g2 := m_ (show g1 ≠ g2 from by have := c6_ HXg1.out; omega); replace HXg1 := m_ (a1_ HXg1.out hbg2); have Gg2 : w.heap.size ≤ g2 := Z6; replace HB := m_ (b0_ HB.out hbg2); have HXg2 := m_ hxg2; clear hgg2 hxg2 hbg2) | ((with_reducible refine a3_ (N := 3) rfl ?_); refine bx 3 #[.bool false] 4 ?_; intro g3 hgg3 wg3 hxg3 hbg3; have Ng1_g3 := m_ (show g1 ≠ g3 from by have := c6_ HXg1.out; omega); have Ng2_g3 := m_ (show g2 ≠ g3 from by have := c6_ HXg2.out; omega); replace HXg1 := m_ (a1_ HXg1.out hbg3); replace HXg2 := m_ (a1_ HXg2.out hbg3); have Gg3 : w.heap.size ≤ g3 := Z6; replace HB := m_ (b0_ HB.out hbg3); have HXg3 := m_ hxg3; clear hgg3 hxg3 hbg3; obtain ⟨cg1_0, cg1_1, cg1_2, cg1_3, cg1_4, cg1_5, cg1_6, cg1_7, cg1_8⟩ := cz9_ HXg1) | (go_at_call 118; refine (jobs_calls a0_0 a0_1 a0_2 a0_3 A0_4 c0_4 l0_4 A0_5 c0_5 l0_5 A0_6 c0_6 l0_6 A0_7 c0_7 l0_7 A0_8 c0_8 l0_8 true _).mono ?_; rintro e w9 ⟨rfl, hd1, hd2, hb9⟩; have HD1 := m_ hd1; have HD2 := m_ hd2; have HBL := m_ (HB.out.size); clear cg1_0 cg1_1 cg1_2 cg1_3 cg1_4 cg1_5 cg1_6 cg1_7 cg1_8; replace HXg1 := m_ (a1_ HXg1.out hb9); replace HXg2 := m_ (a1_ HXg2.out hb9); replace HXg3 := m_ (a1_ HXg3.out hb9); replace HB := m_ (b0_ HB.out hb9); clear hb9 hd1 hd2))
 refine range_try (gf := 135) (lb := #[.pointer (some ⟨wg3.heap.size, 0, none⟩), .pointer (some ⟨wg3.heap.size + 1, 0, none⟩)]) rfl (enters_of Try.func135 (by kernel_rfl) rfl)
  (enc := encJ) (jobs_goes _ _ true a0_0 a0_1 a0_2 a0_3 A0_4 c0_4 l0_4 A0_5 c0_5 l0_5 A0_6 c0_6 l0_6 A0_7 c0_7 l0_7 A0_8 c0_8 l0_8 _ HD1.out HD2.out (Kd.C_below HR0_7.out HB.out) HN.out) (fun _ => rfl)
  (fun _ => False) (fun x W => ∀ r, jobsL a0_1 true l0_7 = x :: r → Chosen w g2 g3 d id sl ok W) ?hRx
  (fun x a' W => ∃ g4, a' = { tmps := #[.agg #[.int .i64 a0_0, .int .i64 a0_1, .int .i64 a0_2, .int .i64 a0_3, .slice A0_4 l0_4.length c0_4, .slice A0_5 l0_5.length c0_5, .slice A0_6 l0_6.length c0_6, .slice A0_7 l0_7.length c0_7, .slice A0_8 l0_8.length c0_8], .pointer (some ⟨g1, 0, none⟩), .pointer (some ⟨g2, 0, none⟩), .pointer (some ⟨g3, 0, none⟩), .pointer (some ⟨g4, 0, none⟩), undef, undef, .agg #[.int .i64 a0_0, .int .i64 a0_1, .int .i64 a0_2, .int .i64 a0_3, .slice A0_4 l0_4.length c0_4, .slice A0_5 l0_5.length c0_5, .slice A0_6 l0_6.length c0_6, .slice A0_7 l0_7.length c0_7, .slice A0_8 l0_8.length c0_8], .func (.func 135) #[] #[.pointer (some ⟨wg3.heap.size, 0, none⟩), .pointer (some ⟨wg3.heap.size + 1, 0, none⟩)], .agg #[.int .i64 x.f0, .int .i64 x.f1, .int .i64 x.f2, .int .i64 x.f3, .int .i64 x.f4.f0, .int .i64 x.f4.f1, .int .i64 x.f4.f2, .int .i64 x.f4.f3], undef, undef, undef, undef, undef, undef, undef, undef, undef, undef, undef, undef, undef], defers := [] } ∧ W.heap[g4]? = some (.cells #[.int .i64 x.f0, .int .i64 x.f1, .int .i64 x.f2, .int .i64 x.f3, .int .i64 x.f4.f0, .int .i64 x.f4.f1, .int .i64 x.f4.f2, .int .i64 x.f4.f3] 88 (0, 0))) ?hAx ?assign ?body ?done ?stop
 case hRx =>
  rintro y _ A C row hs hg hr r hr'
  exact Chosen.own HB.out.size () A C row (hs r hr') hg hr
 case hAx =>
  rintro x a' _ A C row ⟨g4, e, hx⟩ hg hr
  exact ⟨g4, e, blk_own hx hg (fun r e => (hr r e).2)⟩
 case assign =>
  intro l x W K hx hB hK
  unfold encJ
  gi_wp2
  exact hK _ _ (b5_ (Below.refl _ _) _) ⟨W.heap.size, rfl, blk_new W _⟩
 case body =>
  rintro l x a' W hx hBW ⟨g4, rfl, hg4⟩
  have hM : elastic_Most.f a0_0 a0_1 a0_2 a0_3 l0_4 l0_5 l0_6 l0_7 l0_8 x.f0 x.f1 x.f2 x.f3 x.f4.f0 x.f4.f1 x.f4.f2 x.f4.f3 = some (mostB l0_4 l0_5 x.f1 x.f4.f0 x.f4.f1 x.f4.f2 x.f4.f3) := by
   have hh := HH.out
   unfold headF at hh
   cases hj : jobsL a0_1 true l0_7 with
   | nil => rw [hj] at hx; cases hx
   | cons y r =>
    rw [hj] at hh
    obtain ⟨m, hm, _⟩ := Option.bind_eq_some_iff.1 hh
    unfold elastic_Most.f at hm ⊢
    by_cases hok : placeOk l0_4 = true
    ·rw [if_pos hok]
    ·rw [if_neg hok] at hm; cases hm
  obtain ⟨m, hme⟩ : ∃ m, m = mostB l0_4 l0_5 x.f1 x.f4.f0 x.f4.f1 x.f4.f2 x.f4.f3 := ⟨_, rfl⟩
  rw [← hme] at hM
  obtain ⟨ms, e0⟩ := m
  have HM := m_ hM
  have HXg4 := m_ hg4
  have HBW := m_ (b0_ HB.out hBW)
  have HS9 := m_ hBW.size
  have HBQ := m_ HB.out.size
  replace HXg1 := m_ (a1_ HXg1.out hBW)
  replace HXg2 := m_ (a1_ HXg2.out hBW)
  replace HXg3 := m_ (a1_ HXg3.out hBW)
  clear HB hBW hx hM hme hg4 HD1 HD2
  have HB := HBW
  clear HBW
  obtain ⟨cg1_0, cg1_1, cg1_2, cg1_3, cg1_4, cg1_5, cg1_6, cg1_7, cg1_8⟩ := cz9_ HXg1
  obtain ⟨cg4_0, cg4_1, cg4_2, cg4_3, cg4_4, cg4_5, cg4_6, cg4_7⟩ := cz8_ HXg4
  gi_wp2_with (first | ((try refine ⟨trivial, ?_⟩); gi_at_call 57; refine (CallsIn.inRound l (callsIn_wide.2 (elastic_Most.calls a0_0 a0_1 a0_2 a0_3 _ _ l0_4 _ _ l0_5 _ _ l0_6 _ _ l0_7 _ _ l0_8 x.f0 x.f1 x.f2 x.f3 x.f4.f0 x.f4.f1 x.f4.f2 x.f4.f3 _ _ _ (Kd.C_below HR0_4.out (HB.out)) HC0_4.out (Kd.C_below HR0_5.out (HB.out)) HC0_5.out (Kd.C_below HR0_6.out (HB.out)) HC0_6.out (Kd.C_below HR0_7.out (HB.out)) HC0_7.out (Kd.C_below HR0_8.out (HB.out)) HC0_8.out HM.out))).mono ?_; rintro e wp ⟨vp, rfl, hrp, hbp⟩; obtain ⟨Ap, cp, rfl⟩ := Kd.R_slice hrp; have HBP := m_ hbp; have HRP := m_ hrp; clear cg1_0 cg1_1 cg1_2 cg1_3 cg1_4 cg1_5 cg1_6 cg1_7 cg1_8 cg4_0 cg4_1 cg4_2 cg4_3 cg4_4 cg4_5 cg4_6 cg4_7; replace HXg1 := m_ (a1_ HXg1.out hbp); replace HXg2 := m_ (a1_ HXg2.out hbp); replace HXg3 := m_ (a1_ HXg3.out hbp); replace HXg4 := m_ (a1_ HXg4.out hbp); replace HB := m_ (b0_ HB.out hbp); clear hbp hrp; have zg2_0 : wp.frozen? ⟨g2, 0, none⟩ = false := a2_ HXg2.out 0; have zg2_1 : wp.frozen? ⟨g2, 1, none⟩ = false := a2_ HXg2.out 1; have zg2_2 : wp.frozen? ⟨g2, 2, none⟩ = false := a2_ HXg2.out 2; have zg3_0 : wp.frozen? ⟨g3, 0, none⟩ = false := a2_ HXg3.out 0; have n23 := Ng2_g3.out; obtain ⟨cg4_0, cg4_1, cg4_2, cg4_3, cg4_4, cg4_5, cg4_6, cg4_7⟩ := cz8_ HXg4; obtain ⟨cg2_0, cg2_1, cg2_2⟩ := cz3_ HXg2; have cg3_0 : wp.cell? ⟨g3, 0, none⟩ = some (.bool false) := (a0_ HXg3.out 0).trans rfl))
  have h2 : ((((wp.setCell ⟨g2, 0, none⟩ (.int .i64 1)).setCell ⟨g2, 1, none⟩ (.int .i64 x.f0)).setCell ⟨g2, 2, none⟩ (.slice Ap ms.length cp)).setCell ⟨g3, 0, none⟩ (.bool (e0 == 0))).heap[g2]? = some (.cells #[.int .i64 1, .int .i64 x.f0, .slice Ap ms.length cp] 100 (0, 0)) := c7_ (d4_ (d4_ (d4_ HXg2.out 0 _ rfl) 1 _ rfl) 2 _ rfl) n23 _
  have h3 : ((((wp.setCell ⟨g2, 0, none⟩ (.int .i64 1)).setCell ⟨g2, 1, none⟩ (.int .i64 x.f0)).setCell ⟨g2, 2, none⟩ (.slice Ap ms.length cp)).setCell ⟨g3, 0, none⟩ (.bool (e0 == 0))).heap[g3]? = some (.cells #[.bool (e0 == 0)] 4 (0, 0)) := d4_ (c7_ (c7_ (c7_ HXg3.out n23.symm _) n23.symm _) n23.symm _) 0 _ rfl
  have r0 := HRP.out
  have r1 := Kd.R_grown2 r0 rfl (grown_set (j := 0) (v := .int .i64 1) (d6_ _ (some g2))) (fun k hk => by injection hk with hk; subst hk; exact Kd.R_ne r0 HXg2.out (by decide))
  have y1 : (wp.setCell ⟨g2, 0, none⟩ (.int .i64 1)).heap[g2]? = some (.cells #[.int .i64 1, .int .i64 0, .slice none 0 0] 100 (0, 0)) := d4_ HXg2.out 0 _ rfl
  have r2 := Kd.R_grown2 r1 rfl (grown_set (j := 1) (v := .int .i64 x.f0) (d6_ _ (some g2))) (fun k hk => by injection hk with hk; subst hk; exact Kd.R_ne r1 y1 (by decide))
  have y2 := d4_ y1 1 (.int .i64 x.f0) rfl
  have r3 := Kd.R_grown2 r2 rfl (grown_set (j := 2) (v := .slice Ap ms.length cp) (d6_ _ (some g2))) (fun k hk => by injection hk with hk; subst hk; exact Kd.R_ne r2 y2 (by decide))
  have y3 : (((wp.setCell ⟨g2, 0, none⟩ (.int .i64 1)).setCell ⟨g2, 1, none⟩ (.int .i64 x.f0)).setCell ⟨g2, 2, none⟩ (.slice Ap ms.length cp)).heap[g3]? = some (.cells #[.bool false] 4 (0, 0)) := c7_ (c7_ (c7_ HXg3.out n23.symm _) n23.symm _) n23.symm _
  have r4 := Kd.R_grown2 r3 rfl (grown_set (j := 0) (v := .bool (e0 == 0)) (d6_ _ (some g3))) (fun k hk => by injection hk with hk; subst hk; exact Kd.R_ne r3 y3 (by decide))
  refine ⟨(keepsFrom_below HBP.out).trans (((((KeepsOthers.setCell _ _ _).trans (KeepsOthers.setCell _ _ _)).trans (KeepsOthers.setCell _ _ _)).trans (KeepsOthers.setCell _ _ _)).from _), fun r hr => ?_⟩
  have hh := HH.out
  unfold headF at hh
  rw [hr] at hh
  simp only [HM.out, Option.bind_some, Option.some.injEq, Prod.mk.injEq] at hh
  obtain ⟨rfl, rfl, rfl, rfl⟩ := hh
  refine ⟨Ap, cp, h2, h3, Kd.R_lower r4 ?_, b6_ (b6_ (b6_ (b6_ HB.out Gg2) Gg2) Gg2) Gg3⟩
  have := HS9.out
  have := HBQ.out
  omega
 case done =>
  intro D W hD hf hBW hK
  have hL : jobsL a0_1 true l0_7 = [] := List.eq_nil_iff_forall_not_mem.2 fun x hx => hf x hx
  have hh := HH.out
  unfold headF at hh
  rw [hL] at hh
  simp only [Option.some.injEq, Prod.mk.injEq] at hh
  obtain ⟨rfl, rfl, rfl, rfl⟩ := hh
  replace HXg2 := m_ (a1_ HXg2.out hBW)
  replace HXg3 := m_ (a1_ HXg3.out hBW)
  have HBW := m_ (b0_ HB.out hBW)
  have HD := m_ hD
  have HK := m_ hK
  have HW9 := m_ HB.out.size
  clear HXg1 HB hBW hK hD hf HD1 HD2 hL HH
  have zg2_0 : W.frozen? ⟨g2, 0, none⟩ = false := a2_ HXg2.out 0
  have zg2_1 : W.frozen? ⟨g2, 1, none⟩ = false := a2_ HXg2.out 1
  have zg2_2 : W.frozen? ⟨g2, 2, none⟩ = false := a2_ HXg2.out 2
  have zg3_0 : W.frozen? ⟨g3, 0, none⟩ = false := a2_ HXg3.out 0
  have n23 := Ng2_g3.out
  obtain ⟨cg2_0, cg2_1, cg2_2⟩ := cz3_ HXg2
  have cg3_0 : W.cell? ⟨g3, 0, none⟩ = some (.bool false) := (a0_ HXg3.out 0).trans rfl
  go_wp2
  have h2 : ((((W.setCell ⟨g2, 0, none⟩ (.int .i64 0)).setCell ⟨g2, 1, none⟩ (.int .i64 0)).setCell ⟨g2, 2, none⟩ (.slice none 0 0)).setCell ⟨g3, 0, none⟩ (.bool false)).heap[g2]? = some (.cells #[.int .i64 0, .int .i64 0, .slice none 0 0] 100 (0, 0)) := c7_ (d4_ (d4_ (d4_ HXg2.out 0 _ rfl) 1 _ rfl) 2 _ rfl) n23 _
  have h3 : ((((W.setCell ⟨g2, 0, none⟩ (.int .i64 0)).setCell ⟨g2, 1, none⟩ (.int .i64 0)).setCell ⟨g2, 2, none⟩ (.slice none 0 0)).setCell ⟨g3, 0, none⟩ (.bool false)).heap[g3]? = some (.cells #[.bool false] 4 (0, 0)) := d4_ (c7_ (c7_ (c7_ HXg3.out n23.symm _) n23.symm _) n23.symm _) 0 _ rfl
  have hk := ((((KeepsOthers.setCell W ⟨g2, 0, none⟩ (.int .i64 0)).trans (KeepsOthers.setCell _ ⟨g2, 1, none⟩ (.int .i64 0))).trans (KeepsOthers.setCell _ ⟨g2, 2, none⟩ (.slice none 0 0))).trans (KeepsOthers.setCell _ ⟨g3, 0, none⟩ (.bool false))).same D _ HK.out rfl
  have hs : Chosen w g2 g3 0 0 [] false ((((W.setCell ⟨g2, 0, none⟩ (.int .i64 0)).setCell ⟨g2, 1, none⟩ (.int .i64 0)).setCell ⟨g2, 2, none⟩ (.slice none 0 0)).setCell ⟨g3, 0, none⟩ (.bool false)) := ⟨none, 0, h2, h3, Kd.R_nil _ _ _ _ _, b6_ (b6_ (b6_ (b6_ HBW.out Gg2) Gg2) Gg2) Gg3⟩
  obtain ⟨A, c, k4, k5, kr, kb⟩ := hs.mark (by have := HD.out; have := HW9.out; omega) hk
  exact marks_ret1 hk (results100 rfl rfl k4 k5) ⟨A, c, rfl, kr, kb⟩
 case stop =>
  intro D k x W hD hx hf hs hK
  have hL : ∃ r, jobsL a0_1 true l0_7 = x :: r := by
   cases hj : jobsL a0_1 true l0_7 with
   | nil => rw [hj] at hx; simp at hx
   | cons y r =>
    cases k with
    | zero => rw [hj] at hx; cases hx; exact ⟨r, rfl⟩
    | succ k => exact (hf y (by rw [hj]; simp)).elim
  obtain ⟨r, hr⟩ := hL
  have hw := HB.out.size
  obtain ⟨A, c, k4, k5, kr, kb⟩ := (hs r hr).mark (by omega) hK
  exact marks_ret1 hK (results100 rfl rfl k4 k5) ⟨A, c, rfl, kr, kb⟩
end Go.Proofs.Ytckhjehibjdjdaa.P
namespace Go.Proofs.Ytckhjehibjdjdaa.RF
open Go.RowKit Go.Shelf Go.Proofs.YtckhjehibjdjdaaW.PrintWords Go.Proofs.YtckhjehibjdjdaaW.PrintLast
variable {P : Program} {ops : Array Oper} {Q : Exit → Act → World → Prop} {l n : Nat}
theorem upon_round {o : Oper} {a : Act} {next next' : Act → World → Prop} (hn : ∀ a w, next a w → next' a w) {r : Result Next} (h : o.upon P a next Q r) : o.uponIn (Fence.wide.inRound l) n P a next' Q r := by
 cases r with
 | ok x w =>
  cases x with
  | value v => exact hn _ _ h
  | skip => exact hn _ _ h
  | defer d => exact hn _ _ h
  | enter f args =>
   refine ⟨fun h => (by cases h), ?_⟩
   refine (callsIn_wide (n := n - 1)).2 (Calls.mono h ?_)
   intro e w' he
   cases e with
   | returned v => exact hn _ _ he
   | panicked c => exact he
   | outgrown => exact he
  | row row args =>
   refine ⟨fun h => (by cases h), fun c cs _ => ?_⟩
   obtain ⟨v, w', hv, s⟩ := (show Rows P row args w _ from h) c cs
   exact ⟨v, w', hn _ _ hv, stepsIn_wide.2 s⟩
  | _ => exact h.elim
 | halt h' w =>
  cases h' with
  | panic v => exact h
  | _ => exact h.elim
def noDefer (ops : Array Oper) : Bool := ops.all fun o => match o.op with | .defer _ => false | _ => true
theorem ops_round (hd : noDefer ops = true) (hL : ¬ LetsOut Q) : ∀ (is : List Nat) (a : Act) (w : World), wpOps P ops Q is a w → wpOpsIn (Fence.wide.inRound l) n P ops Q is a w
 | [], a, w, h => h
 | i :: rest, a, w, h => by
  unfold wpOps at h
  unfold wpOpsIn
  cases ho : ops[i]? with
  | none => simp only [ho] at h ⊢; exact ops_round hd hL rest a w h
  | some o =>
   simp only [ho] at h ⊢
   by_cases hw : Region.wanted o (yielded ops a.tmps) = true
   ·rw [if_pos hw] at h ⊢
    rcases h with h | h
    ·refine ⟨fun _ _ => trivial, ?_⟩
     have hnd : ∀ c, o.op ≠ .defer c := fun c e => by
      unfold noDefer at hd
      have := Array.all_eq_true_iff_forall_mem.1 hd o (Array.mem_of_getElem? ho)
      rw [e] at this; cases this
     rw [Oper.semAt_eq _ _ _ hnd]
     exact upon_round (fun a w h => ops_round hd hL rest a w h) h
    ·exact absurd h.2 hL
   ·rw [if_neg hw] at h ⊢
    exact ⟨fun _ _ => trivial, ops_round hd hL rest _ w h⟩
theorem region_round {id : Nat} {a : Act} {w : World} (hm : P.follows .mixedOrders = true) (hd : noDefer ops = true) (hL : ¬ LetsOut Q) {S : World → Prop} {ds : List Nat} {m : Nat} (lb : Array Bool) (hn : ops.size = m) (hl : Array.replicate m false = lb) (hS : S w.drew)
  (h : S w.drew → d5_ P .any ops Q S ds m lb a w.drew) : (Code.region id ops true).wpIn (Fence.wide.inRound l) n P Q a w := by
 subst hn
 subst hl
 refine wpIn_region_draw fun t => ops_round hd hL _ a _ ?_
 simp only [Region.schedule, hm, Bool.true_or, if_true]
 exact wpAny_sound ops.size t _ a _ (wpAny_of_last _ _ _ _ (h hS))
end Go.Proofs.Ytckhjehibjdjdaa.RF
namespace Go.Proofs.Ytckhjehibjdjdaa.P
open Go.RowKit Go.Shelf Go.Proofs.YtckhjehibjdjdaaW.PrintWords Go.Proofs.YtckhjehibjdjdaaW.PrintLast Go.Proofs.YtckhjehibjdjdaaW.PrintMore
open Go.Proofs.Ytckhjehibjdjdaa.RF
attribute [local go_sem] Oper.semAt_some
set_option maxHeartbeats 8000000 in
set_option maxRecDepth 100000 in
theorem latest_calls (a0_0 a0_1 a0_2 a0_3 : Int) (A0_4 : Option Addr) (c0_4 : Nat) (l0_4 : List (S51)) (A0_5 : Option Addr) (c0_5 : Nat) (l0_5 : List (S24)) (A0_6 : Option Addr) (c0_6 : Nat) (l0_6 : List (S41)) (A0_7 : Option Addr) (c0_7 : Nat) (l0_7 : List (S105)) (A0_8 : Option Addr) (c0_8 : Nat) (l0_8 : List (S149)) (a1_0 a1_1 a1_2 a1_3 a1_4 a1_5 a1_6 a1_7 : Int) (w : World) : Calls Try.prog 99 #[.agg #[.int .i64 a0_0, .int .i64 a0_1, .int .i64 a0_2, .int .i64 a0_3, .slice A0_4 l0_4.length c0_4, .slice A0_5 l0_5.length c0_5, .slice A0_6 l0_6.length c0_6, .slice A0_7 l0_7.length c0_7, .slice A0_8 l0_8.length c0_8], .agg #[.int .i64 a1_0, .int .i64 a1_1, .int .i64 a1_2, .int .i64 a1_3, .int .i64 a1_4, .int .i64 a1_5, .int .i64 a1_6, .int .i64 a1_7]] w fun e w' => e = .returned (.int .i64 (wrap64 (wrap64 (a0_0 + a0_3) + a1_3))) ∧ Below w.heap.size w w' := by
 have hu86 := Try.underlying86
 have hu88 := Try.underlying88
 go_enter Try.func99, Try.ntmps99
 go_wp2
 go_ret
 exact ⟨rfl, b5_ (b5_ (Below.refl _ _) _) _⟩
def fillJs (k : Nat) (a0_0 a0_1 a0_2 a0_3 : Int) (l0_4 : List S51) (l0_5 : List S24) (l0_6 : List S41) (l0_7 : List S105) (l0_8 : List S149) : List S88 → Option (List (List S52 × Int))
 | [] => some []
 | x :: r => (elastic_Fill.f k a0_0 a0_1 a0_2 a0_3 l0_4 l0_5 l0_6 l0_7 l0_8 x.f0 x.f1 x.f2 x.f3 x.f4.f0 x.f4.f1 x.f4.f2 x.f4.f3 (wrap64 (wrap64 (a0_0 + a0_3) + x.f3))).bind fun m => (fillJs k a0_0 a0_1 a0_2 a0_3 l0_4 l0_5 l0_6 l0_7 l0_8 r).bind fun t => some (m :: t)
def fillW : List S88 → List (List S52 × Int) → Int × Int × List S52 × Bool
 | x :: r, m :: t => if m.2 = 0 then (2, x.f0, m.1, true) else fillW r t
 | _, _ => (0, 0, [], false)
theorem fillJs_get {k : Nat} {a0_0 a0_1 a0_2 a0_3 : Int} {l0_4 : List S51} {l0_5 : List S24} {l0_6 : List S41} {l0_7 : List S105} {l0_8 : List S149} : ∀ {L : List S88} {t : List (List S52 × Int)}, fillJs k a0_0 a0_1 a0_2 a0_3 l0_4 l0_5 l0_6 l0_7 l0_8 L = some t →
  t.length = L.length ∧ ∀ (i : Nat) (x : S88), L[i]? = some x → ∃ m : List S52 × Int, t[i]? = some m ∧ elastic_Fill.f k a0_0 a0_1 a0_2 a0_3 l0_4 l0_5 l0_6 l0_7 l0_8 x.f0 x.f1 x.f2 x.f3 x.f4.f0 x.f4.f1 x.f4.f2 x.f4.f3 (wrap64 (wrap64 (a0_0 + a0_3) + x.f3)) = some m
 | [], t, h => by
  have h := Option.some.inj h
  subst h
  refine ⟨rfl, fun i n hn => ?_⟩
  simp at hn
 | y :: r, t, h => by
  rw [fillJs] at h
  obtain ⟨m, hm, h⟩ := Option.bind_eq_some_iff.1 h
  obtain ⟨t', ht, h⟩ := Option.bind_eq_some_iff.1 h
  cases h
  obtain ⟨hl, ih⟩ := fillJs_get ht
  refine ⟨by simp [hl], fun i x hx => ?_⟩
  cases i with
  | zero => cases hx; exact ⟨m, rfl, hm⟩
  | succ i => exact ih i x hx
theorem fillW_none : ∀ {L : List S88} {t : List (List S52 × Int)}, (∀ m ∈ t, m.2 ≠ 0) → fillW L t = (0, 0, [], false)
 | [], _, _ => by unfold fillW; rfl
 | _ :: _, [], _ => by unfold fillW; rfl
 | x :: r, m :: t, h => by
  unfold fillW
  rw [if_neg (h m (by simp))]
  exact fillW_none (fun y hy => h y (by simp [hy]))
theorem fillW_some : ∀ {L : List S88} {t : List (List S52 × Int)} {i : Nat} {x : S88} {m : List S52 × Int}, L[i]? = some x → t[i]? = some m → m.2 = 0 → (∀ m' ∈ t.take i, m'.2 ≠ 0) → fillW L t = (2, x.f0, m.1, true)
 | [], _, i, x, m, h, _, _, _ => by simp at h
 | _ :: _, [], i, x, m, _, h, _, _ => by simp at h
 | y :: r, n :: t, 0, x, m, h1, h2, h3, _ => by
  cases h1; cases h2
  unfold fillW; rw [if_pos h3]
 | y :: r, n :: t, i + 1, x, m, h1, h2, h3, h4 => by
  unfold fillW
  rw [if_neg (h4 n (by simp))]
  exact fillW_some (i := i) h1 h2 h3 (fun m' hm => h4 m' (by simp [hm]))
def T101 : Bool × List (List Nat × List Nat) := (true, [([], []), ([], []), ([], []), ([], []), ([2, 3], [2, 3]), ([0, 1, 4, 4], [0, 1, 4]), ([5], [5]), ([6], [6]), ([6], [6]), ([7, 5, 0, 1, 2, 3, 4, 5, 6, 7], [7]), ([8, 9, 0, 1, 2, 3, 4, 5, 6, 7, 8, 9], [8])])
def B101 : List Nat := [0, 0, 0, 0, 12, 31, 63, 127, 127, 255, 1023]
theorem tab101 : rtab .any (opsOf Try.f101 3) = T101 := by kernel_rfl
theorem bits101 : waitsOk T101.2 B101 = true := by kernel_rfl
set_option maxHeartbeats 8000000 in
set_option maxRecDepth 100000 in
theorem fill_calls (ks : Nat) (a0_0 a0_1 a0_2 a0_3 : Int) (A0_4 : Option Addr) (c0_4 : Nat) (l0_4 : List (S51)) (A0_5 : Option Addr) (c0_5 : Nat) (l0_5 : List (S24)) (A0_6 : Option Addr) (c0_6 : Nat) (l0_6 : List (S41)) (A0_7 : Option Addr) (c0_7 : Nat) (l0_7 : List (S105)) (A0_8 : Option Addr) (c0_8 : Nat) (l0_8 : List (S149)) (ts : List (List S52 × Int)) (d id : Int) (sl : List S52) (ok : Bool) (w : World) (hr0_4 : Kd.C k51 w A0_4 l0_4.length l0_4) (hc0_4 : l0_4.length ≤ c0_4) (hr0_5 : Kd.C k24 w A0_5 l0_5.length l0_5) (hc0_5 : l0_5.length ≤ c0_5) (hr0_6 : Kd.C k41 w A0_6 l0_6.length l0_6) (hc0_6 : l0_6.length ≤ c0_6) (hr0_7 : Kd.C k105 w A0_7 l0_7.length l0_7) (hc0_7 : l0_7.length ≤ c0_7) (hr0_8 : Kd.C k149 w A0_8 l0_8.length l0_8) (hc0_8 : l0_8.length ≤ c0_8) (hn : l0_7.length ≤ 1000000) (h : fillJs ks a0_0 a0_1 a0_2 a0_3 l0_4 l0_5 l0_6 l0_7 l0_8 (jobsL a0_1 false l0_7) = some ts) (hr : fillW (jobsL a0_1 false l0_7) ts = (d, id, sl, ok)) :
  Calls Try.prog 101 #[.agg #[.int .i64 a0_0, .int .i64 a0_1, .int .i64 a0_2, .int .i64 a0_3, .slice A0_4 l0_4.length c0_4, .slice A0_5 l0_5.length c0_5, .slice A0_6 l0_6.length c0_6, .slice A0_7 l0_7.length c0_7, .slice A0_8 l0_8.length c0_8]] w fun e w' => ∃ A c, e = .returned (.tuple #[.agg #[.int .i64 d, .int .i64 id, .slice A sl.length c], .bool ok]) ∧ Kd.R k52 52 w' w.heap.size (fun _ => True) (.slice A sl.length c) sl ∧ Below w.heap.size w w' := by
 have hu86 := Try.underlying86
 have hu88 := Try.underlying88
 have hu100 := Try.underlying100
 have hu39 := Try.underlying39
 have hu32 := Try.underlying32
 have hu4 := Try.underlying4
 have hu3 := Try.underlying3
 have HR0_4 := m_ hr0_4
 have HC0_4 := m_ hc0_4
 clear hr0_4 hc0_4
 have HR0_5 := m_ hr0_5
 have HC0_5 := m_ hc0_5
 clear hr0_5 hc0_5
 have HR0_6 := m_ hr0_6
 have HC0_6 := m_ hc0_6
 clear hr0_6 hc0_6
 have HR0_7 := m_ hr0_7
 have HC0_7 := m_ hc0_7
 clear hr0_7 hc0_7
 have HR0_8 := m_ hr0_8
 have HC0_8 := m_ hc0_8
 clear hr0_8 hc0_8
 have HB := m_ (Below.refl w.heap.size w)
 have HH := m_ (fillJs_get h)
 have HRR := m_ hr
 have HN := m_ hn
 clear h hn hr
 refine calls_marks Try.func101 rfl ?_
 simp only [Try.ntmps101, List.size_toArray, List.length_cons, List.length_nil, Nat.reduceAdd, Nat.reduceSub, Array.replicate_succ, Array.replicate_zero, List.push_toArray, List.append_toArray, List.nil_append, List.cons_append]
 go_wp2_with (first | ((with_reducible refine a3_ (N := 1) rfl ?_); refine bx 1 #[.int .i64 a0_0, .int .i64 a0_1, .int .i64 a0_2, .int .i64 a0_3, .slice A0_4 l0_4.length c0_4, .slice A0_5 l0_5.length c0_5, .slice A0_6 l0_6.length c0_6, .slice A0_7 l0_7.length c0_7, .slice A0_8 l0_8.length c0_8] 86 ?_; intro g1 hgg1 wg1 hxg1 hbg1; have Gg1 : w.heap.size ≤ g1 := Z6; replace HB := m_ (b0_ HB.out hbg1); have HXg1 := m_ hxg1; clear hgg1 hxg1 hbg1) | ((with_reducible refine a3_ (N := 2) rfl ?_); refine bx 2 #[.int .i64 0, .int .i64 0, .slice none 0 0] 100 ?_; intro g2 hgg2 wg2 hxg2 hbg2; have Ng1_g2 := m_ (show g1 ≠ g2 from by have := c6_ HXg1.out; omega); replace HXg1 := m_ (a1_ HXg1.out hbg2); have Gg2 : w.heap.size ≤ g2 := Z6; replace HB := m_ (b0_ HB.out hbg2); have HXg2 := m_ hxg2; clear hgg2 hxg2 hbg2) | ((with_reducible refine a3_ (N := 3) rfl ?_); refine bx 3 #[.bool false] 4 ?_; intro g3 hgg3 wg3 hxg3 hbg3; have Ng1_g3 := m_ (show g1 ≠ g3 from by have := c6_ HXg1.out; omega); have Ng2_g3 := m_ (show g2 ≠ g3 from by have := c6_ HXg2.out; omega); replace HXg1 := m_ (a1_ HXg1.out hbg3); replace HXg2 := m_ (a1_ HXg2.out hbg3); have Gg3 : w.heap.size ≤ g3 := Z6; replace HB := m_ (b0_ HB.out hbg3); have HXg3 := m_ hxg3; clear hgg3 hxg3 hbg3; obtain ⟨cg1_0, cg1_1, cg1_2, cg1_3, cg1_4, cg1_5, cg1_6, cg1_7, cg1_8⟩ := cz9_ HXg1) | (go_at_call 118; refine (jobs_calls a0_0 a0_1 a0_2 a0_3 A0_4 c0_4 l0_4 A0_5 c0_5 l0_5 A0_6 c0_6 l0_6 A0_7 c0_7 l0_7 A0_8 c0_8 l0_8 false _).mono ?_; rintro e w9 ⟨rfl, hd1, hd2, hb9⟩; have HD1 := m_ hd1; have HD2 := m_ hd2; have HBL := m_ (HB.out.size); clear cg1_0 cg1_1 cg1_2 cg1_3 cg1_4 cg1_5 cg1_6 cg1_7 cg1_8; replace HXg1 := m_ (a1_ HXg1.out hb9); replace HXg2 := m_ (a1_ HXg2.out hb9); replace HXg3 := m_ (a1_ HXg3.out hb9); replace HB := m_ (b0_ HB.out hb9); clear hb9 hd1 hd2))
 refine range_try (gf := 135) (lb := #[.pointer (some ⟨wg3.heap.size, 0, none⟩), .pointer (some ⟨wg3.heap.size + 1, 0, none⟩)]) rfl (enters_of Try.func135 (by kernel_rfl) rfl)
  (enc := encJ) (jobs_goes _ _ false a0_0 a0_1 a0_2 a0_3 A0_4 c0_4 l0_4 A0_5 c0_5 l0_5 A0_6 c0_6 l0_6 A0_7 c0_7 l0_7 A0_8 c0_8 l0_8 _ HD1.out HD2.out (Kd.C_below HR0_7.out HB.out) HN.out) (fun _ => rfl)
  (fun x => ∀ i : Nat, (jobsL a0_1 false l0_7)[i]? = some x → ∃ m, ts[i]? = some m ∧ m.2 ≠ 0) (fun x W => ∃ m : List S52, (∀ i : Nat, (jobsL a0_1 false l0_7)[i]? = some x → ts[i]? = some (m, 0)) ∧ Chosen w g2 g3 2 x.f0 m true W) ?hRx
  (fun x a' W => ∃ g4, a' = { tmps := #[.agg #[.int .i64 a0_0, .int .i64 a0_1, .int .i64 a0_2, .int .i64 a0_3, .slice A0_4 l0_4.length c0_4, .slice A0_5 l0_5.length c0_5, .slice A0_6 l0_6.length c0_6, .slice A0_7 l0_7.length c0_7, .slice A0_8 l0_8.length c0_8], .pointer (some ⟨g1, 0, none⟩), .pointer (some ⟨g2, 0, none⟩), .pointer (some ⟨g3, 0, none⟩), .pointer (some ⟨g4, 0, none⟩), undef, undef, .agg #[.int .i64 a0_0, .int .i64 a0_1, .int .i64 a0_2, .int .i64 a0_3, .slice A0_4 l0_4.length c0_4, .slice A0_5 l0_5.length c0_5, .slice A0_6 l0_6.length c0_6, .slice A0_7 l0_7.length c0_7, .slice A0_8 l0_8.length c0_8], .func (.func 135) #[] #[.pointer (some ⟨wg3.heap.size, 0, none⟩), .pointer (some ⟨wg3.heap.size + 1, 0, none⟩)], .agg #[.int .i64 x.f0, .int .i64 x.f1, .int .i64 x.f2, .int .i64 x.f3, .int .i64 x.f4.f0, .int .i64 x.f4.f1, .int .i64 x.f4.f2, .int .i64 x.f4.f3], undef, undef, undef, undef, undef, undef, undef, undef, undef, undef, undef, undef, undef, undef, undef, undef], defers := [] } ∧ W.heap[g4]? = some (.cells #[.int .i64 x.f0, .int .i64 x.f1, .int .i64 x.f2, .int .i64 x.f3, .int .i64 x.f4.f0, .int .i64 x.f4.f1, .int .i64 x.f4.f2, .int .i64 x.f4.f3] 88 (0, 0))) ?hAx ?assign ?body ?done ?stop
 case hRx =>
  rintro y _ A C row ⟨m, hm, hs⟩ hg hr
  exact ⟨m, hm, Chosen.own HB.out.size () A C row hs hg hr⟩
 case hAx =>
  rintro x a' _ A C row ⟨g4, e, hx⟩ hg hr
  exact ⟨g4, e, blk_own hx hg (fun r e => (hr r e).2)⟩
 case assign =>
  intro l x W K hx hB hK
  unfold encJ
  gi_wp2
  exact hK _ _ (b5_ (Below.refl _ _) _) ⟨W.heap.size, rfl, blk_new W _⟩
 case body =>
  rintro l x a' W hx hBW ⟨g4, rfl, hg4⟩
  obtain ⟨i0, hi0⟩ := List.getElem?_of_mem hx
  obtain ⟨⟨ms, e0⟩, ht0, hM⟩ := HH.out.2 i0 x hi0
  have hall : ∀ i : Nat, (jobsL a0_1 false l0_7)[i]? = some x → ts[i]? = some (ms, e0) := fun i hi => by
   obtain ⟨m', h1, h2⟩ := HH.out.2 i x hi
   rw [hM] at h2
   have h2 := Option.some.inj h2
   subst h2
   exact h1
  have HM := m_ hM
  have HAL := m_ hall
  have HXg4 := m_ hg4
  have HBW := m_ (b0_ HB.out hBW)
  have HS9 := m_ hBW.size
  have HBQ := m_ HB.out.size
  replace HXg1 := m_ (a1_ HXg1.out hBW)
  replace HXg2 := m_ (a1_ HXg2.out hBW)
  replace HXg3 := m_ (a1_ HXg3.out hBW)
  clear HB hBW hx hM ht0 hi0 hall hg4 HD1 HD2 HH HRR
  have HB := HBW
  clear HBW
  obtain ⟨cg1_0, cg1_1, cg1_2, cg1_3, cg1_4, cg1_5, cg1_6, cg1_7, cg1_8⟩ := cz9_ HXg1
  obtain ⟨cg4_0, cg4_1, cg4_2, cg4_3, cg4_4, cg4_5, cg4_6, cg4_7⟩ := cz8_ HXg4
  have hfol : Try.prog.follows Departure.mixedOrders = true := by kernel_rfl
  gi_wp2
  have HBW2 := m_ (b8_ (Below.refl W.heap.size W))
  replace HXg1 := m_ (show W.drew.heap[g1]? = some (.cells #[.int .i64 a0_0, .int .i64 a0_1, .int .i64 a0_2, .int .i64 a0_3, .slice A0_4 l0_4.length c0_4, .slice A0_5 l0_5.length c0_5, .slice A0_6 l0_6.length c0_6, .slice A0_7 l0_7.length c0_7, .slice A0_8 l0_8.length c0_8] 86 (0, 0)) from HXg1.out)
  replace HXg2 := m_ (show W.drew.heap[g2]? = some (.cells #[.int .i64 0, .int .i64 0, .slice none 0 0] 100 (0, 0)) from HXg2.out)
  replace HXg3 := m_ (show W.drew.heap[g3]? = some (.cells #[.bool false] 4 (0, 0)) from HXg3.out)
  replace HXg4 := m_ (show W.drew.heap[g4]? = some (.cells #[.int .i64 x.f0, .int .i64 x.f1, .int .i64 x.f2, .int .i64 x.f3, .int .i64 x.f4.f0, .int .i64 x.f4.f1, .int .i64 x.f4.f2, .int .i64 x.f4.f3] 88 (0, 0)) from HXg4.out)
  replace HB := m_ (b8_ HB.out)
  have HT_ := m_ tab101
  have HW_ := m_ bits101
  clear cg1_0 cg1_1 cg1_2 cg1_3 cg1_4 cg1_5 cg1_6 cg1_7 cg1_8 cg4_0 cg4_1 cg4_2 cg4_3 cg4_4 cg4_5 cg4_6 cg4_7
  refine region_round hfol (by kernel_rfl) (fun ⟨_, _, h⟩ => h) (m := 11) (S := fun w' => w'.cell? ⟨g1, 0, none⟩ = some (.int .i64 a0_0) ∧ w'.cell? ⟨g1, 1, none⟩ = some (.int .i64 a0_1) ∧ w'.cell? ⟨g1, 2, none⟩ = some (.int .i64 a0_2) ∧ w'.cell? ⟨g1, 3, none⟩ = some (.int .i64 a0_3) ∧ w'.cell? ⟨g1, 4, none⟩ = some (.slice A0_4 l0_4.length c0_4) ∧ w'.cell? ⟨g1, 5, none⟩ = some (.slice A0_5 l0_5.length c0_5) ∧ w'.cell? ⟨g1, 6, none⟩ = some (.slice A0_6 l0_6.length c0_6) ∧ w'.cell? ⟨g1, 7, none⟩ = some (.slice A0_7 l0_7.length c0_7) ∧ w'.cell? ⟨g1, 8, none⟩ = some (.slice A0_8 l0_8.length c0_8) ∧ w'.cell? ⟨g4, 0, none⟩ = some (.int .i64 x.f0) ∧ w'.cell? ⟨g4, 1, none⟩ = some (.int .i64 x.f1) ∧ w'.cell? ⟨g4, 2, none⟩ = some (.int .i64 x.f2) ∧ w'.cell? ⟨g4, 3, none⟩ = some (.int .i64 x.f3) ∧ w'.cell? ⟨g4, 4, none⟩ = some (.int .i64 x.f4.f0) ∧ w'.cell? ⟨g4, 5, none⟩ = some (.int .i64 x.f4.f1) ∧ w'.cell? ⟨g4, 6, none⟩ = some (.int .i64 x.f4.f2) ∧ w'.cell? ⟨g4, 7, none⟩ = some (.int .i64 x.f4.f3)) (ds := []) (bm 11 0) rfl rfl ⟨(a0_ HXg1.out 0).trans rfl, (a0_ HXg1.out 1).trans rfl, (a0_ HXg1.out 2).trans rfl, (a0_ HXg1.out 3).trans rfl, (a0_ HXg1.out 4).trans rfl, (a0_ HXg1.out 5).trans rfl, (a0_ HXg1.out 6).trans rfl, (a0_ HXg1.out 7).trans rfl, (a0_ HXg1.out 8).trans rfl, (a0_ HXg4.out 0).trans rfl, (a0_ HXg4.out 1).trans rfl, (a0_ HXg4.out 2).trans rfl, (a0_ HXg4.out 3).trans rfl, (a0_ HXg4.out 4).trans rfl, (a0_ HXg4.out 5).trans rfl, (a0_ HXg4.out 6).trans rfl, (a0_ HXg4.out 7).trans rfl⟩ (fun hHeld => ?_)
  refine tk 0 (some 11) (bm 11 1) ?_
  refine tk 1 (some 12) (bm 11 3) ?_
  refine tk 2 (some 13) (bm 11 7) ?_
  refine tk 3 (some 14) (bm 11 15) ?_
  refine one_ (i := 4) (N := some 15) (bm 11 31) rfl rfl (one_of HT_.out (by kernel_rfl)) (by decide) (fun K hK => ?_)
  refine goes_ Try.func99 (by kernel_rfl) rfl #[.agg #[.int .i64 a0_0, .int .i64 a0_1, .int .i64 a0_2, .int .i64 a0_3, .slice A0_4 l0_4.length c0_4, .slice A0_5 l0_5.length c0_5, .slice A0_6 l0_6.length c0_6, .slice A0_7 l0_7.length c0_7, .slice A0_8 l0_8.length c0_8], .agg #[.int .i64 x.f0, .int .i64 x.f1, .int .i64 x.f2, .int .i64 x.f3, .int .i64 x.f4.f0, .int .i64 x.f4.f1, .int .i64 x.f4.f2, .int .i64 x.f4.f3]] (by rfl) rfl rfl Z11 ?_
  refine (latest_calls a0_0 a0_1 a0_2 a0_3 A0_4 c0_4 l0_4 A0_5 c0_5 l0_5 A0_6 c0_6 l0_6 A0_7 c0_7 l0_7 A0_8 c0_8 l0_8 x.f0 x.f1 x.f2 x.f3 x.f4.f0 x.f4.f1 x.f4.f2 x.f4.f3 _).mono ?_
  rintro e wq ⟨rfl, hb⟩
  refine ⟨_, rfl, ?_⟩
  have hbq0 := m_ hb
  replace HXg1 := m_ (a1_ HXg1.out hb)
  replace HXg2 := m_ (a1_ HXg2.out hb)
  replace HXg3 := m_ (a1_ HXg3.out hb)
  replace HXg4 := m_ (a1_ HXg4.out hb)
  replace HB := m_ (b0_ HB.out hb)
  clear hb
  refine hK.out _ _ kc_ (fun hHeld => ?_)
  clear hK K
  refine norm_ (a' := ?_) ?_ ?_
  rotate_left
  ·show Act.put _ (some 15) _ = _
   simp only [Act.put, List.setIfInBounds_toArray, List.set_cons_zero, List.set_cons_succ, i64_w, i32_w]
   rfl
  refine one_ (i := 5) (N := some 16) (bm 11 63) rfl rfl (one_of HT_.out (by kernel_rfl)) (by decide) (fun K hK => ?_)
  refine goes_ Try.func58 (by kernel_rfl) rfl #[.agg #[.int .i64 a0_0, .int .i64 a0_1, .int .i64 a0_2, .int .i64 a0_3, .slice A0_4 l0_4.length c0_4, .slice A0_5 l0_5.length c0_5, .slice A0_6 l0_6.length c0_6, .slice A0_7 l0_7.length c0_7, .slice A0_8 l0_8.length c0_8], .agg #[.int .i64 x.f0, .int .i64 x.f1, .int .i64 x.f2, .int .i64 x.f3, .int .i64 x.f4.f0, .int .i64 x.f4.f1, .int .i64 x.f4.f2, .int .i64 x.f4.f3], .int .i64 (wrap64 (wrap64 (a0_0 + a0_3) + x.f3))] (by rfl) rfl rfl Z11 ?_
  refine (elastic_Fill.calls ks a0_0 a0_1 a0_2 a0_3 _ _ l0_4 _ _ l0_5 _ _ l0_6 _ _ l0_7 _ _ l0_8 x.f0 x.f1 x.f2 x.f3 x.f4.f0 x.f4.f1 x.f4.f2 x.f4.f3 (wrap64 (wrap64 (a0_0 + a0_3) + x.f3)) _ _ _ (Kd.C_below HR0_4.out (HB.out)) HC0_4.out (Kd.C_below HR0_5.out (HB.out)) HC0_5.out (Kd.C_below HR0_6.out (HB.out)) HC0_6.out (Kd.C_below HR0_7.out (HB.out)) HC0_7.out (Kd.C_below HR0_8.out (HB.out)) HC0_8.out HM.out).mono ?_
  rintro e wp ⟨vp, rfl, hrp, hb⟩
  refine ⟨_, rfl, ?_⟩
  have hbp0 := m_ hb
  have HRP := m_ hrp
  replace HXg1 := m_ (a1_ HXg1.out hb)
  replace HXg2 := m_ (a1_ HXg2.out hb)
  replace HXg3 := m_ (a1_ HXg3.out hb)
  replace HXg4 := m_ (a1_ HXg4.out hb)
  replace HB := m_ (b0_ HB.out hb)
  clear hb hrp
  obtain ⟨Ap, cp, hvp⟩ := Kd.R_slice HRP.out
  subst hvp
  refine hK.out _ _ kc_ (fun hHeld => ?_)
  clear hK K
  refine norm_ (a' := ?_) ?_ ?_
  rotate_left
  ·show Act.put _ (some 16) _ = _
   simp only [Act.put, List.setIfInBounds_toArray, List.set_cons_zero, List.set_cons_succ, i64_w, i32_w]
   rfl
  refine pu 6 (some 10) (bm 11 127) ?_
  refine pu 7 (some 17) (bm 11 255) ?_
  refine pu 8 (some 18) (bm 11 511) ?_
  refine pu 9 (some 5) (bm 11 1023) ?_
  refine pu 10 (some 6) (bm 11 2047) ?_
  refine done_ (done_of HT_.out (by kernel_rfl)) ?_
  have zg2_0 : wp.frozen? ⟨g2, 0, none⟩ = false := a2_ HXg2.out 0
  have zg2_1 : wp.frozen? ⟨g2, 1, none⟩ = false := a2_ HXg2.out 1
  have zg2_2 : wp.frozen? ⟨g2, 2, none⟩ = false := a2_ HXg2.out 2
  have zg3_0 : wp.frozen? ⟨g3, 0, none⟩ = false := a2_ HXg3.out 0
  have n23 := Ng2_g3.out
  obtain ⟨cg2_0, cg2_1, cg2_2⟩ := cz3_ HXg2
  have cg3_0 : wp.cell? ⟨g3, 0, none⟩ = some (.bool false) := (a0_ HXg3.out 0).trans rfl
  obtain ⟨cg4_0, cg4_1, cg4_2, cg4_3, cg4_4, cg4_5, cg4_6, cg4_7⟩ := cz8_ HXg4
  have HBQ1 := m_ hbq0.out
  have HBP := m_ hbp0.out
  all_goals
   by_cases he : e0 = 0
   ·subst he
    gi_wp2
    have h2 : ((((wp.setCell ⟨g2, 0, none⟩ (.int .i64 2)).setCell ⟨g2, 1, none⟩ (.int .i64 x.f0)).setCell ⟨g2, 2, none⟩ (.slice Ap ms.length cp)).setCell ⟨g3, 0, none⟩ (.bool true)).heap[g2]? = some (.cells #[.int .i64 2, .int .i64 x.f0, .slice Ap ms.length cp] 100 (0, 0)) := c7_ (d4_ (d4_ (d4_ HXg2.out 0 _ rfl) 1 _ rfl) 2 _ rfl) n23 _
    have h3 : ((((wp.setCell ⟨g2, 0, none⟩ (.int .i64 2)).setCell ⟨g2, 1, none⟩ (.int .i64 x.f0)).setCell ⟨g2, 2, none⟩ (.slice Ap ms.length cp)).setCell ⟨g3, 0, none⟩ (.bool true)).heap[g3]? = some (.cells #[.bool true] 4 (0, 0)) := d4_ (c7_ (c7_ (c7_ HXg3.out n23.symm _) n23.symm _) n23.symm _) 0 _ rfl
    have r0 := HRP.out
    have r1 := Kd.R_grown2 r0 rfl (grown_set (j := 0) (v := .int .i64 2) (d6_ _ (some g2))) (fun k hk => by injection hk with hk; subst hk; exact Kd.R_ne r0 HXg2.out (by decide))
    have y1 : (wp.setCell ⟨g2, 0, none⟩ (.int .i64 2)).heap[g2]? = some (.cells #[.int .i64 2, .int .i64 0, .slice none 0 0] 100 (0, 0)) := d4_ HXg2.out 0 _ rfl
    have r2 := Kd.R_grown2 r1 rfl (grown_set (j := 1) (v := .int .i64 x.f0) (d6_ _ (some g2))) (fun k hk => by injection hk with hk; subst hk; exact Kd.R_ne r1 y1 (by decide))
    have y2 := d4_ y1 1 (.int .i64 x.f0) rfl
    have r3 := Kd.R_grown2 r2 rfl (grown_set (j := 2) (v := .slice Ap ms.length cp) (d6_ _ (some g2))) (fun k hk => by injection hk with hk; subst hk; exact Kd.R_ne r2 y2 (by decide))
    have y3 : (((wp.setCell ⟨g2, 0, none⟩ (.int .i64 2)).setCell ⟨g2, 1, none⟩ (.int .i64 x.f0)).setCell ⟨g2, 2, none⟩ (.slice Ap ms.length cp)).heap[g3]? = some (.cells #[.bool false] 4 (0, 0)) := c7_ (c7_ (c7_ HXg3.out n23.symm _) n23.symm _) n23.symm _
    have r4 := Kd.R_grown2 r3 rfl (grown_set (j := 0) (v := .bool true) (d6_ _ (some g3))) (fun k hk => by injection hk with hk; subst hk; exact Kd.R_ne r3 y3 (by decide))
    have hkf : Below W.heap.size W wp := b0_ (b0_ HBW2.out HBQ1.out) HBP.out
    refine ⟨(keepsFrom_below hkf).trans (((((KeepsOthers.setCell _ _ _).trans (KeepsOthers.setCell _ _ _)).trans (KeepsOthers.setCell _ _ _)).trans (KeepsOthers.setCell _ _ _)).from _), ms, HAL.out, Ap, cp, h2, h3, Kd.R_lower r4 ?_, b6_ (b6_ (b6_ (b6_ HB.out Gg2) Gg2) Gg2) Gg3⟩
    have a1 := HBQ1.out.size
    have a2 : w.heap.size ≤ W.heap.size := Nat.le_trans HBQ.out HS9.out
    have a3 : W.drew.heap.size = W.heap.size := rfl
    omega
   ·have t0 : (e0 == 0) = false := by simpa using he
    have HE := m_ he
    clear he
    gi_wp2
    exact ⟨b0_ (b0_ HBW2.out HBQ1.out) HBP.out, fun i hi => ⟨_, HAL.out i hi, HE.out⟩⟩
 case done =>
  intro D W hD hf hBW hK
  have hL : fillW (jobsL a0_1 false l0_7) ts = (0, 0, [], false) := fillW_none fun m hm => by
   obtain ⟨i, hi⟩ := List.getElem?_of_mem hm
   have hil : i < (jobsL a0_1 false l0_7).length := by
    rw [← HH.out.1]; exact (List.getElem?_eq_some_iff.1 hi).1
   obtain ⟨m', h1, h2⟩ := hf _ (List.getElem_mem hil) i (List.getElem?_eq_getElem hil)
   rw [hi] at h1
   rw [Option.some.inj h1]; exact h2
  have hh := HRR.out
  rw [hL] at hh
  simp only [Prod.mk.injEq] at hh
  obtain ⟨rfl, rfl, rfl, rfl⟩ := hh
  replace HXg2 := m_ (a1_ HXg2.out hBW)
  replace HXg3 := m_ (a1_ HXg3.out hBW)
  have HBW := m_ (b0_ HB.out hBW)
  have HD := m_ hD
  have HK := m_ hK
  have HW9 := m_ HB.out.size
  clear HXg1 HB hBW hK hD hf HD1 HD2 hL HH HRR
  have zg2_0 : W.frozen? ⟨g2, 0, none⟩ = false := a2_ HXg2.out 0
  have zg2_1 : W.frozen? ⟨g2, 1, none⟩ = false := a2_ HXg2.out 1
  have zg2_2 : W.frozen? ⟨g2, 2, none⟩ = false := a2_ HXg2.out 2
  have zg3_0 : W.frozen? ⟨g3, 0, none⟩ = false := a2_ HXg3.out 0
  have n23 := Ng2_g3.out
  obtain ⟨cg2_0, cg2_1, cg2_2⟩ := cz3_ HXg2
  have cg3_0 : W.cell? ⟨g3, 0, none⟩ = some (.bool false) := (a0_ HXg3.out 0).trans rfl
  go_wp2
  have h2 : ((((W.setCell ⟨g2, 0, none⟩ (.int .i64 0)).setCell ⟨g2, 1, none⟩ (.int .i64 0)).setCell ⟨g2, 2, none⟩ (.slice none 0 0)).setCell ⟨g3, 0, none⟩ (.bool false)).heap[g2]? = some (.cells #[.int .i64 0, .int .i64 0, .slice none 0 0] 100 (0, 0)) := c7_ (d4_ (d4_ (d4_ HXg2.out 0 _ rfl) 1 _ rfl) 2 _ rfl) n23 _
  have h3 : ((((W.setCell ⟨g2, 0, none⟩ (.int .i64 0)).setCell ⟨g2, 1, none⟩ (.int .i64 0)).setCell ⟨g2, 2, none⟩ (.slice none 0 0)).setCell ⟨g3, 0, none⟩ (.bool false)).heap[g3]? = some (.cells #[.bool false] 4 (0, 0)) := d4_ (c7_ (c7_ (c7_ HXg3.out n23.symm _) n23.symm _) n23.symm _) 0 _ rfl
  have hk := ((((KeepsOthers.setCell W ⟨g2, 0, none⟩ (.int .i64 0)).trans (KeepsOthers.setCell _ ⟨g2, 1, none⟩ (.int .i64 0))).trans (KeepsOthers.setCell _ ⟨g2, 2, none⟩ (.slice none 0 0))).trans (KeepsOthers.setCell _ ⟨g3, 0, none⟩ (.bool false))).same D _ HK.out rfl
  have hs : Chosen w g2 g3 0 0 [] false ((((W.setCell ⟨g2, 0, none⟩ (.int .i64 0)).setCell ⟨g2, 1, none⟩ (.int .i64 0)).setCell ⟨g2, 2, none⟩ (.slice none 0 0)).setCell ⟨g3, 0, none⟩ (.bool false)) := ⟨none, 0, h2, h3, Kd.R_nil _ _ _ _ _, b6_ (b6_ (b6_ (b6_ HBW.out Gg2) Gg2) Gg2) Gg3⟩
  obtain ⟨A, c, k4, k5, kr, kb⟩ := hs.mark (by have := HD.out; have := HW9.out; omega) hk
  exact marks_ret1 hk (results101 rfl rfl k4 k5) ⟨A, c, rfl, kr, kb⟩
 case stop =>
  intro D k x W hD hx hf ⟨m, hm, hs⟩ hK
  have hL : fillW (jobsL a0_1 false l0_7) ts = (2, x.f0, m, true) := fillW_some hx (hm k hx) rfl fun m' hm' => by
   obtain ⟨i, hi, rfl⟩ := List.mem_take_iff_getElem.1 hm'
   have hil : i < (jobsL a0_1 false l0_7).length := by rw [← HH.out.1]; omega
   obtain ⟨m'', h1, h2⟩ := hf (jobsL a0_1 false l0_7)[i] (List.mem_take_iff_getElem.2 ⟨i, by omega, rfl⟩) i (List.getElem?_eq_getElem hil)
   rw [List.getElem?_eq_getElem (by omega)] at h1
   rw [Option.some.inj h1]; exact h2
  have hh := HRR.out
  rw [hL] at hh
  simp only [Prod.mk.injEq] at hh
  obtain ⟨rfl, rfl, rfl, rfl⟩ := hh
  have hw := HB.out.size
  obtain ⟨A, c, k4, k5, kr, kb⟩ := hs.mark (by omega) hK
  exact marks_ret1 hK (results101 rfl rfl k4 k5) ⟨A, c, rfl, kr, kb⟩
end Go.Proofs.Ytckhjehibjdjdaa.P
namespace Go.Proofs.Ytckhjehibjdjdaa.P
open Go.RowKit Go.Proofs.YtckhjehibjdjdaaW.PrintWords Go.Proofs.YtckhjehibjdjdaaW.PrintLast Go.Proofs.YtckhjehibjdjdaaW.PrintMore
attribute [local go_sem] max2_int min2_int max_two min_two max_three min_three max_four min_four
def worker_hold.l0 : Nat → Int → List (S41) → Int → Int → Option (Int × Int × Int × Bool × (List (S52)) × Bool)
 | 0, _, _, _, _ => none
 | k + 1, x1, x9, x10, x11 => if x11 < x10 then (if 0 ≤ x11 then (if x11 < (x9.length : Int) then (if ((a8_ x9 x11).f0) = x1 then (some ((a8_ x9 x11).f0, (a8_ x9 x11).f1, (a8_ x9 x11).f2, (a8_ x9 x11).f3, (a8_ x9 x11).f4, true)) else (worker_hold.l0 k x1 x9 x10 (wrap64 (x11 + 1)))) else (none)) else (none)) else (some (0, 0, 0, false, ([] : List (S52)), false))
def worker_hold.f (k : Nat) (a0_0 a0_1 a0_2 a0_3 : Int) (l0_4 : List (S51)) (l0_5 : List (S24)) (l0_6 : List (S41)) (l0_7 : List (S105)) (l0_8 : List (S149)) (a1 : Int) : Option (Int × Int × Int × Bool × (List (S52)) × Bool) := worker_hold.l0 k a1 l0_6 (l0_6.length : Int) 0
set_option maxHeartbeats 8000000 in
set_option maxRecDepth 100000 in
theorem worker_hold.calls (k : Nat) (a0_0 a0_1 a0_2 a0_3 : Int) (A0_4 : Option Addr) (c0_4 : Nat) (l0_4 : List (S51)) (A0_5 : Option Addr) (c0_5 : Nat) (l0_5 : List (S24)) (P0_6_ : Nat → Prop) (A0_6 : Option Addr) (c0_6 : Nat) (l0_6 : List (S41)) (A0_7 : Option Addr) (c0_7 : Nat) (l0_7 : List (S105)) (A0_8 : Option Addr) (c0_8 : Nat) (l0_8 : List (S149)) (a1 r1 r2 r3 : Int) (r4 : Bool) (r5 : List (S52)) (r6 : Bool) (w : World) (hr0_4 : Kd.C k51 w A0_4 l0_4.length l0_4) (hc0_4 : l0_4.length ≤ c0_4) (hr0_5 : Kd.C k24 w A0_5 l0_5.length l0_5) (hc0_5 : l0_5.length ≤ c0_5) (hs0_6 : Kd.V k41 41 w w.heap.size (fun k_ => P0_6_ k_) (.slice A0_6 l0_6.length c0_6) l0_6) (hr0_7 : Kd.C k105 w A0_7 l0_7.length l0_7) (hc0_7 : l0_7.length ≤ c0_7) (hr0_8 : Kd.C k149 w A0_8 l0_8.length l0_8) (hc0_8 : l0_8.length ≤ c0_8) (h : worker_hold.f k a0_0 a0_1 a0_2 a0_3 l0_4 l0_5 l0_6 l0_7 l0_8 a1 = some (r1, r2, r3, r4, r5, r6)) :
  Calls Try.prog 119 #[.agg #[.int .i64 a0_0, .int .i64 a0_1, .int .i64 a0_2, .int .i64 a0_3, .slice A0_4 l0_4.length c0_4, .slice A0_5 l0_5.length c0_5, .slice A0_6 l0_6.length c0_6, .slice A0_7 l0_7.length c0_7, .slice A0_8 l0_8.length c0_8], .int .i64 a1] w fun e w' => ∃ v4_ : Value, e = .returned (.tuple #[.agg #[.int .i64 r1, .int .i64 r2, .int .i64 r3, .bool r4, v4_], .bool r6]) ∧ Kd.V k52 52 w' w.heap.size (fun k_ => (P0_6_ k_ ∨ w.heap.size ≤ k_)) v4_ r5 ∧ Below w.heap.size w w' := by
 have hu86 := Try.underlying86
 have hu41 := Try.underlying41
 have HR0_4 := m_ hr0_4
 have HC0_4 := m_ hc0_4
 clear hr0_4 hc0_4
 have HR0_5 := m_ hr0_5
 have HC0_5 := m_ hc0_5
 clear hr0_5 hc0_5
 have HO0_6 := m_ (show Kd.V k41 41 w w.heap.size (fun k_ => (P0_6_ k_ ∨ w.heap.size ≤ k_)) (.slice A0_6 l0_6.length c0_6) l0_6 from Kd.V_mono hs0_6 (fun k_ hk => .inl hk))
 have HR0_7 := m_ hr0_7
 have HC0_7 := m_ hc0_7
 clear hr0_7 hc0_7
 have HR0_8 := m_ hr0_8
 have HC0_8 := m_ hc0_8
 clear hr0_8 hc0_8
 have HB := m_ (Below.refl w.heap.size w)
 have H := h
 unfold worker_hold.f at H
 clear h
 have H' := m_ H
 clear H
 go_enter Try.func119, Try.ntmps119
 go_wp2_with (first | ((with_reducible refine a3_ (N := 2) rfl ?_); refine bx 2 #[.int .i64 a0_0, .int .i64 a0_1, .int .i64 a0_2, .int .i64 a0_3, .slice A0_4 l0_4.length c0_4, .slice A0_5 l0_5.length c0_5, .slice A0_6 l0_6.length c0_6, .slice A0_7 l0_7.length c0_7, .slice A0_8 l0_8.length c0_8] 86 ?_; intro gb844 hg w3 hbox hb; have BK844 := m_ (hbox); have GW844 := ge_ hg; have GE844 := ge_ hg; replace HO0_6 := m_ (Kd.V_below (Kd.V_elderB (by (with_reducible repeat (first | apply Kd.V_alloc | apply Kd.V_drewN | apply Kd.V_drew)); exact HO0_6.out) gb844 (Nat.le_of_eq hg.symm)) hb); replace HB := hs_ hb; clear hb hbox hg) | ((with_reducible refine a3_ (N := 4) rfl ?_); refine bx 4 #[.int .i64 0, .int .i64 0, .int .i64 0, .bool false, .slice none 0 0] 41 ?_; intro gb845 hg w4 hbox hb; have BK845 := m_ (hbox); have GW845 := ge_ hg; have GE845 := ge_ hg; have NB844_845 := nl_ BK844 hg; have NB845_844 := nr_ BK844 hg; replace HO0_6 := m_ (Kd.V_below (Kd.V_elderB (by (with_reducible repeat (first | apply Kd.V_alloc | apply Kd.V_drewN | apply Kd.V_drew)); exact HO0_6.out) gb845 (Nat.le_of_eq hg.symm)) hb); replace BK844 := bk_ BK844 hb; replace HB := hs_ hb; clear hb hbox hg; have hnb5 := NB844_845.out; have hnc5 := NB845_844.out; obtain ⟨hcz6_0, hcz6_1, hcz6_2, hcz6_3, hcz6_4, hcz6_5, hcz6_6, hcz6_7, hcz6_8, hfz6_0, hfz6_1, hfz6_2, hfz6_3, hfz6_4, hfz6_5, hfz6_6, hfz6_7, hfz6_8⟩ := bz9_ BK844))
 go_loopg [11] k (fun kq v11 w' => ∃ (x11_1 : Int) (x846000_1 : Int) (x846001_1 : Int) (x846002_1 : Int) (x846003_1 : Bool), v11 = .int .i64 x11_1 ∧ A_ (worker_hold.l0 kq a1 l0_6 (l0_6.length : Int) x11_1 = some (r1, r2, r3, r4, r5, r6)) ∧ A_ (kq ≤ k) ∧ A_ (Kd.V k41 41 w' w.heap.size (fun k_ => (P0_6_ k_ ∨ w.heap.size ≤ k_) ∧ k_ ≠ gb844 ∧ k_ ≠ gb845) (.slice A0_6 l0_6.length c0_6) l0_6) ∧ A_ (Kd.V k41 41 w' w.heap.size (fun k_ => (P0_6_ k_ ∨ w.heap.size ≤ k_) ∧ k_ ≠ gb844 ∧ k_ ≠ gb845) (.slice A0_6 l0_6.length c0_6) l0_6) ∧ A_ (w'.heap[gb844]? = some (.cells #[.int .i64 a0_0, .int .i64 a0_1, .int .i64 a0_2, .int .i64 a0_3, (.slice A0_4 l0_4.length c0_4), (.slice A0_5 l0_5.length c0_5), (.slice A0_6 l0_6.length c0_6), (.slice A0_7 l0_7.length c0_7), (.slice A0_8 l0_8.length c0_8)] 86 (0, 0))) ∧ A_ (w'.heap[gb845]? = some (.cells #[.int .i64 x846000_1, .int .i64 x846001_1, .int .i64 x846002_1, .bool x846003_1, (.slice none 0 0)] 41 (0, 0))) ∧ A_ (Below w.heap.size w w'))
 case atStart => exact ⟨(0), (0), (0), (0), (false), Z1, H', ⟨Nat.le_refl _⟩, ⟨by (with_reducible repeat (first | apply Kd.V_alloc | apply Kd.V_drewN | apply Kd.V_drew)); exact Kd.V_mono HO0_6.out (fun _ hk => ⟨hk.1.1, ⟨hk.1.2, hk.2⟩⟩)⟩, ⟨by (with_reducible repeat (first | apply Kd.V_alloc | apply Kd.V_drewN | apply Kd.V_drew)); exact Kd.V_mono HO0_6.out (fun _ hk => ⟨hk.1.1, ⟨hk.1.2, hk.2⟩⟩)⟩, ⟨bo_ BK844⟩, ⟨bo_ BK845⟩, ⟨hb_⟩⟩
 case round =>
  clear H'
  try clear c1
  try clear p2
  try clear c5
  try clear hcz6_0 hcz6_1 hcz6_2 hcz6_3 hcz6_4 hcz6_5 hcz6_6 hcz6_7 hcz6_8 hfz6_0 hfz6_1 hfz6_2 hfz6_3 hfz6_4 hfz6_5 hfz6_6 hfz6_7 hfz6_8
  obtain ⟨x11_1, x846000_1, x846001_1, x846002_1, x846003_1, rfl, HA, HK1, HO_9, HO_845006, BK844, BK845, HB⟩ := hrel
  cases gk with
  | zero => exact absurd HA.out (by simp [worker_hold.l0])
  | succ k1 =>
   have H := HA.out
   clear HA
   simp only [worker_hold.l0] at H
   by_cases c7 : x11_1 < (l0_6.length : Int)
   ·rw [if_pos c7] at H
    have c7b0 : decide (x11_1 < (l0_6.length : Int)) = true := decide_eq_true c7
    clear c7
    by_cases c8 : 0 ≤ x11_1
    ·rw [if_pos c8] at H
     have c8b0 : decide (0 ≤ x11_1) = true := decide_eq_true c8
     clear c8
     by_cases c9 : x11_1 < (l0_6.length : Int)
     ·rw [if_pos c9] at H
      have c9b0 : decide (x11_1 < (l0_6.length : Int)) = true := decide_eq_true c9
      clear c9
      by_cases c10 : ((a8_ l0_6 x11_1).f0) = a1
      ·rw [if_pos c10] at H
       have c10b0 : (((a8_ l0_6 x11_1).f0) == a1) = true := beq_iff_eq.mpr c10
       have c10b1 : (((a8_ l0_6 x11_1).f0) != a1) = false := bne_eq_false_iff_eq.mpr c10
       clear c10
       simp only [Option.some.injEq, Prod.mk.injEq] at H
       obtain ⟨rfl, rfl, rfl, rfl, rfl, rfl⟩ := H
       have p846 : 0 ≤ (x11_1 : Int) := of_decide_eq_true Z4
       have q846 : x11_1 < (l0_6.length : Int) := of_decide_eq_true Z4
       obtain ⟨ad846, A846_4, c846_4, e846, hx846_0, hx846_1, hx846_2, hx846_3, hx846_4, hl846_4, hi846_4⟩ := at_T41 (Kd.V_reads' HO_9.out).2.2 x11_1 p846 q846
       cases e846
       obtain ⟨ce846, hce846, hMe846, hcc846⟩ := Kd.V_get HO_9.out z41 x11_1 p846 (by first | exact q846 | exact of_decide_eq_true Z4 | (have e_ := (Kd.V_reads' HO_9.out).1; omega))
       obtain ⟨ua846_4, uc846_4, rfl, ul846_4, ge846_4⟩ := k41_openF hMe846
       have hv846_4 := hcc846 4 _ rfl
       rw [e3_ _ _ 4 (by omega)] at hv846_4
       replace hv846_4 := Option.some.inj (hv846_4.symm.trans hx846_4)
       injection hv846_4 with hva_ hvn_ hvc_
       rw [hva_] at ge846_4
       rw [hvc_] at ul846_4
       have HL846_4 := m_ (show Kd.V k52 52 _ w.heap.size _ _ ((a8_ l0_6 x11_1).f4) from Kd.V_mk ul846_4 ge846_4)
       clear hva_ hvn_ hvc_ ge846_4 ul846_4
       clear hcc846 hce846
       have HR846_4 := m_ hi846_4
       have HC846_4 := m_ hl846_4
       clear hi846_4 hl846_4
       replace p846 := eq_true p846
       replace q846 := eq_true q846
       go_wp2_with (first | ((with_reducible refine a3_ (N := 7) rfl ?_); refine bx 7 #[.int .i64 0, .int .i64 0, .int .i64 0, .bool false, .slice none 0 0] 41 ?_; intro gb847 hg w11 hbox hb; have BK847 := m_ (hbox); have GW847 := ge_ hg; have GE847 := ge_ hg; have NB844_847 := nl_ BK844 hg; have NB847_844 := nr_ BK844 hg; have NB845_847 := nl_ BK845 hg; have NB847_845 := nr_ BK845 hg; replace HO_9 := m_ (Kd.V_below (Kd.V_elderB (by (with_reducible repeat (first | apply Kd.V_alloc | apply Kd.V_drewN | apply Kd.V_drew)); exact HO_9.out) gb847 (Nat.le_of_eq hg.symm)) hb); replace HO_845006 := m_ (Kd.V_below (Kd.V_elderB (by (with_reducible repeat (first | apply Kd.V_alloc | apply Kd.V_drewN | apply Kd.V_drew)); exact HO_845006.out) gb847 (Nat.le_of_eq hg.symm)) hb); replace HL846_4 := m_ (Kd.V_below (Kd.V_elderB (by (with_reducible repeat (first | apply Kd.V_alloc | apply Kd.V_drewN | apply Kd.V_drew)); exact HL846_4.out) gb847 (Nat.le_of_eq hg.symm)) hb); replace BK844 := bk_ BK844 hb; replace BK845 := bk_ BK845 hb; replace HR846_4 := m_ (Kd.C_below (by repeat (first | (with_reducible exact HR846_4.out) | (with_reducible refine Kd.C_alloc ?_ _) | (with_reducible refine Kd.C_drewN ?_ _) | (with_reducible refine Kd.C_drew ?_) | exact HR846_4.out)) hb); replace HB := hs_ hb; clear hb hbox hg; have hnb12 := NB847_844.out; have hnc12 := NB844_847.out; have hnb13 := NB847_845.out; have hnc13 := NB845_847.out; obtain ⟨hcz14_0, hcz14_1, hcz14_2, hcz14_3, hcz14_4, hfz14_0, hfz14_1, hfz14_2, hfz14_3, hfz14_4⟩ := bz5_ BK847; have hnb15 := NB845_844.out; have hnc15 := NB844_845.out; obtain ⟨hcz16_0, hcz16_1, hcz16_2, hcz16_3, hcz16_4, hfz16_0, hfz16_1, hfz16_2, hfz16_3, hfz16_4⟩ := bz5_ BK845))
       refine bodyPost_ret (results_ct rfl _ _ gb845 41 #[.int .i64 ((a8_ l0_6 x11_1).f0), .int .i64 ((a8_ l0_6 x11_1).f1), .int .i64 ((a8_ l0_6 x11_1).f2), .bool ((a8_ l0_6 x11_1).f3), .slice A846_4 ((a8_ l0_6 x11_1).f4).length c846_4] (0, 0) _ rfl (bt_ BK845) Try.underlying41 rfl (by kernel_rfl)) rfl ?_
       exact ⟨_, by first | rfl | (simp [b2_, b1_] <;> rfl) | (simp [*, b2_, b1_] <;> rfl), by (with_reducible repeat (first | apply Kd.V_alloc | apply Kd.V_drewN | apply Kd.V_drew)); exact Kd.V_mono (Kd.V_far (p := ⟨gb845, 4, none⟩) (Kd.V_far (p := ⟨gb845, 3, none⟩) (Kd.V_far (p := ⟨gb845, 2, none⟩) (Kd.V_far (p := ⟨gb845, 1, none⟩) (Kd.V_far (p := ⟨gb845, 0, none⟩) (Kd.V_far (p := ⟨gb847, 4, none⟩) (Kd.V_far (p := ⟨gb847, 3, none⟩) (Kd.V_far (p := ⟨gb847, 2, none⟩) (Kd.V_far (p := ⟨gb847, 1, none⟩) (Kd.V_far (p := ⟨gb847, 0, none⟩) (Kd.V_mono (Kd.V_mono HL846_4.out (fun k_ hk => (⟨hk, hk.2⟩ : _ ∧ k_ ≠ gb847))) (fun k_ hk => (⟨hk, hk.1.1.2.2⟩ : _ ∧ k_ ≠ gb845))) (fun _ hk => hk.1.2) (.int .i64 ((a8_ l0_6 x11_1).f0))) (fun _ hk => hk.1.2) (.int .i64 ((a8_ l0_6 x11_1).f1))) (fun _ hk => hk.1.2) (.int .i64 ((a8_ l0_6 x11_1).f2))) (fun _ hk => hk.1.2) (.bool ((a8_ l0_6 x11_1).f3))) (fun _ hk => hk.1.2) (.slice A846_4 ((a8_ l0_6 x11_1).f4).length c846_4)) (fun _ hk => hk.2) (.int .i64 ((a8_ l0_6 x11_1).f0))) (fun _ hk => hk.2) (.int .i64 ((a8_ l0_6 x11_1).f1))) (fun _ hk => hk.2) (.int .i64 ((a8_ l0_6 x11_1).f2))) (fun _ hk => hk.2) (.bool ((a8_ l0_6 x11_1).f3))) (fun _ hk => hk.2) (.slice A846_4 ((a8_ l0_6 x11_1).f4).length c846_4)) (fun _ hk => hk.1.1.1.1), hb_⟩
      ·rw [if_neg c10] at H
       have c10b0 : (((a8_ l0_6 x11_1).f0) == a1) = false := beq_eq_false_iff_ne.mpr c10
       have c10b1 : (((a8_ l0_6 x11_1).f0) != a1) = true := bne_iff_ne.mpr c10
       have H' := m_ H
       clear H
       have p846 : 0 ≤ (x11_1 : Int) := of_decide_eq_true Z4
       have q846 : x11_1 < (l0_6.length : Int) := of_decide_eq_true Z4
       obtain ⟨ad846, A846_4, c846_4, e846, hx846_0, hx846_1, hx846_2, hx846_3, hx846_4, hl846_4, hi846_4⟩ := at_T41 (Kd.V_reads' HO_9.out).2.2 x11_1 p846 q846
       cases e846
       obtain ⟨ce846, hce846, hMe846, hcc846⟩ := Kd.V_get HO_9.out z41 x11_1 p846 (by first | exact q846 | exact of_decide_eq_true Z4 | (have e_ := (Kd.V_reads' HO_9.out).1; omega))
       obtain ⟨ua846_4, uc846_4, rfl, ul846_4, ge846_4⟩ := k41_openF hMe846
       have hv846_4 := hcc846 4 _ rfl
       rw [e3_ _ _ 4 (by omega)] at hv846_4
       replace hv846_4 := Option.some.inj (hv846_4.symm.trans hx846_4)
       injection hv846_4 with hva_ hvn_ hvc_
       rw [hva_] at ge846_4
       rw [hvc_] at ul846_4
       have HL846_4 := m_ (show Kd.V k52 52 _ w.heap.size _ _ ((a8_ l0_6 x11_1).f4) from Kd.V_mk ul846_4 ge846_4)
       clear hva_ hvn_ hvc_ ge846_4 ul846_4
       clear hcc846 hce846
       have HR846_4 := m_ hi846_4
       have HC846_4 := m_ hl846_4
       clear hi846_4 hl846_4
       replace p846 := eq_true p846
       replace q846 := eq_true q846
       go_wp2_with (first | ((with_reducible refine a3_ (N := 7) rfl ?_); refine bx 7 #[.int .i64 0, .int .i64 0, .int .i64 0, .bool false, .slice none 0 0] 41 ?_; intro gb847 hg w17 hbox hb; have BK847 := m_ (hbox); have GW847 := ge_ hg; have GE847 := ge_ hg; have NB844_847 := nl_ BK844 hg; have NB847_844 := nr_ BK844 hg; have NB845_847 := nl_ BK845 hg; have NB847_845 := nr_ BK845 hg; replace HO_9 := m_ (Kd.V_below (Kd.V_elderB (by (with_reducible repeat (first | apply Kd.V_alloc | apply Kd.V_drewN | apply Kd.V_drew)); exact HO_9.out) gb847 (Nat.le_of_eq hg.symm)) hb); replace HO_845006 := m_ (Kd.V_below (Kd.V_elderB (by (with_reducible repeat (first | apply Kd.V_alloc | apply Kd.V_drewN | apply Kd.V_drew)); exact HO_845006.out) gb847 (Nat.le_of_eq hg.symm)) hb); replace HL846_4 := m_ (Kd.V_below (Kd.V_elderB (by (with_reducible repeat (first | apply Kd.V_alloc | apply Kd.V_drewN | apply Kd.V_drew)); exact HL846_4.out) gb847 (Nat.le_of_eq hg.symm)) hb); replace BK844 := bk_ BK844 hb; replace BK845 := bk_ BK845 hb; replace HR846_4 := m_ (Kd.C_below (by repeat (first | (with_reducible exact HR846_4.out) | (with_reducible refine Kd.C_alloc ?_ _) | (with_reducible refine Kd.C_drewN ?_ _) | (with_reducible refine Kd.C_drew ?_) | exact HR846_4.out)) hb); replace HB := hs_ hb; clear hb hbox hg; have hnb18 := NB847_844.out; have hnc18 := NB844_847.out; have hnb19 := NB847_845.out; have hnc19 := NB845_847.out; obtain ⟨hcz20_0, hcz20_1, hcz20_2, hcz20_3, hcz20_4, hfz20_0, hfz20_1, hfz20_2, hfz20_3, hfz20_4⟩ := bz5_ BK847))
       go_roundg k1
       case measure => have := HK1.out; omega
       case rel => exact ⟨(wrap64 (x11_1 + 1)), (x846000_1), (x846001_1), (x846002_1), (x846003_1), Z1, H', ⟨by have := HK1.out; omega⟩, ⟨by (with_reducible repeat (first | apply Kd.V_alloc | apply Kd.V_drewN | apply Kd.V_drew)); exact Kd.V_mono (Kd.V_far (p := ⟨gb847, 4, none⟩) (Kd.V_far (p := ⟨gb847, 3, none⟩) (Kd.V_far (p := ⟨gb847, 2, none⟩) (Kd.V_far (p := ⟨gb847, 1, none⟩) (Kd.V_far (p := ⟨gb847, 0, none⟩) (Kd.V_mono HO_9.out (fun k_ hk => (⟨hk, hk.2⟩ : _ ∧ k_ ≠ gb847))) (fun _ hk => hk.2) (.int .i64 ((a8_ l0_6 x11_1).f0))) (fun _ hk => hk.2) (.int .i64 ((a8_ l0_6 x11_1).f1))) (fun _ hk => hk.2) (.int .i64 ((a8_ l0_6 x11_1).f2))) (fun _ hk => hk.2) (.bool ((a8_ l0_6 x11_1).f3))) (fun _ hk => hk.2) (.slice A846_4 ((a8_ l0_6 x11_1).f4).length c846_4)) (fun _ hk => ⟨hk.1.1.1, ⟨hk.1.1.2.1, hk.1.1.2.2⟩⟩)⟩, ⟨by (with_reducible repeat (first | apply Kd.V_alloc | apply Kd.V_drewN | apply Kd.V_drew)); exact Kd.V_mono (Kd.V_far (p := ⟨gb847, 4, none⟩) (Kd.V_far (p := ⟨gb847, 3, none⟩) (Kd.V_far (p := ⟨gb847, 2, none⟩) (Kd.V_far (p := ⟨gb847, 1, none⟩) (Kd.V_far (p := ⟨gb847, 0, none⟩) (Kd.V_mono HO_845006.out (fun k_ hk => (⟨hk, hk.2⟩ : _ ∧ k_ ≠ gb847))) (fun _ hk => hk.2) (.int .i64 ((a8_ l0_6 x11_1).f0))) (fun _ hk => hk.2) (.int .i64 ((a8_ l0_6 x11_1).f1))) (fun _ hk => hk.2) (.int .i64 ((a8_ l0_6 x11_1).f2))) (fun _ hk => hk.2) (.bool ((a8_ l0_6 x11_1).f3))) (fun _ hk => hk.2) (.slice A846_4 ((a8_ l0_6 x11_1).f4).length c846_4)) (fun _ hk => ⟨hk.1.1.1, ⟨hk.1.1.2.1, hk.1.1.2.2⟩⟩)⟩, ⟨bs_⟩, ⟨bs_⟩, ⟨hb_⟩⟩
     ·rw [if_neg c9] at H
      exact absurd H (by simp)
    ·rw [if_neg c8] at H
     exact absurd H (by simp)
   ·rw [if_neg c7] at H
    have c7b0 : decide (x11_1 < (l0_6.length : Int)) = false := decide_eq_false c7
    clear c7
    simp only [Option.some.injEq, Prod.mk.injEq] at H
    obtain ⟨rfl, rfl, rfl, rfl, rfl, rfl⟩ := H
    have hnb21 := NB845_844.out
    have hnc21 := NB844_845.out
    obtain ⟨hcz22_0, hcz22_1, hcz22_2, hcz22_3, hcz22_4, hfz22_0, hfz22_1, hfz22_2, hfz22_3, hfz22_4⟩ := bz5_ BK845
    go_wp2
    refine bodyPost_ret (results_ct rfl _ _ gb845 41 #[.int .i64 0, .int .i64 0, .int .i64 0, .bool false, .slice none 0 0] (0, 0) _ rfl (bt_ BK845) Try.underlying41 rfl (by kernel_rfl)) rfl ?_
    exact ⟨_, by first | rfl | (simp [b2_, b1_] <;> rfl) | (simp [*, b2_, b1_] <;> rfl), Kd.V_nil _ _ _ _ _, hb_⟩
end Go.Proofs.Ytckhjehibjdjdaa.P
namespace Go.Proofs.Ytckhjehibjdjdaa.P
open Go.RowKit Go.Shelf Go.Proofs.YtckhjehibjdjdaaW.PrintWords Go.Proofs.YtckhjehibjdjdaaW.PrintLast Go.Proofs.YtckhjehibjdjdaaW.PrintMore
attribute [local go_sem] Oper.semAt_some
def elastic_Grow.f (k : Nat) (a0_0 a0_1 a0_2 a0_3 : Int) (l0_4 : List (S51)) (l0_5 : List (S24)) (l0_6 : List (S41)) (l0_7 : List (S105)) (l0_8 : List (S149)) (a1_0 a1_1 a1_2 : Int) (a1_3 : Bool) (l1_4 : List (S52)) (a2_0 a2_1 a2_2 a2_3 a2_4 a2_5 a2_6 a2_7 : Int) : Option (Int × Int × Int × Int × Int) := (elastic_left.f a0_0 a0_1 a0_2 a0_3 l0_4 l0_5 l0_6 l0_7 l0_8 a2_0 a2_1 a2_2 a2_3 a2_4 a2_5 a2_6 a2_7).bind fun bt752 => (if bt752.2.2 = 0 then (if (l1_4.length : Int) ≥ a2_7 then (some (0, 0, 0, 0, 2)) else ((elastic_can.f k a0_0 a0_1 a0_2 a0_3 l0_4 l0_5 l0_6 l0_7 l0_8 a2_4 a2_5 a2_6 a2_7 1 bt752.1 bt752.2.1).bind fun t756 => (if t756 = 0 then ((pack_Place.f l0_4 a2_4 a2_5 a2_6 a2_7 1).bind fun bt757 => ((elastic_safe.f k a0_0 a0_1 a0_2 a0_3 l0_4 l0_5 l0_6 l0_7 l0_8 a2_0 a2_1 a1_2 false bt757.1).bind fun t761 => (if t761 = true then (if 0 < (bt757.1.length : Int) then (some ((a5_ bt757.1 0).f0.f0, (a5_ bt757.1 0).f0.f1, (a5_ bt757.1 0).f1, (a5_ bt757.1 0).f2, 0)) else (none)) else (some (0, 0, 0, 0, 5))))) else (some (0, 0, 0, 0, t756))))) else (some (0, 0, 0, 0, bt752.2.2)))
set_option maxHeartbeats 8000000 in
set_option maxRecDepth 100000 in
theorem elastic_Grow.calls (k : Nat) (a0_0 a0_1 a0_2 a0_3 : Int) (A0_4 : Option Addr) (c0_4 : Nat) (l0_4 : List (S51)) (A0_5 : Option Addr) (c0_5 : Nat) (l0_5 : List (S24)) (A0_6 : Option Addr) (c0_6 : Nat) (l0_6 : List (S41)) (A0_7 : Option Addr) (c0_7 : Nat) (l0_7 : List (S105)) (A0_8 : Option Addr) (c0_8 : Nat) (l0_8 : List (S149)) (a1_0 a1_1 a1_2 : Int) (a1_3 : Bool) (A1_4 : Option Addr) (c1_4 : Nat) (l1_4 : List (S52)) (a2_0 a2_1 a2_2 a2_3 a2_4 a2_5 a2_6 a2_7 r1 r2 r3 r4 r5 : Int) (w : World) (hr0_4 : Kd.C k51 w A0_4 l0_4.length l0_4) (hc0_4 : l0_4.length ≤ c0_4) (hr0_5 : Kd.C k24 w A0_5 l0_5.length l0_5) (hc0_5 : l0_5.length ≤ c0_5) (hr0_6 : Kd.C k41 w A0_6 l0_6.length l0_6) (hc0_6 : l0_6.length ≤ c0_6) (hr0_7 : Kd.C k105 w A0_7 l0_7.length l0_7) (hc0_7 : l0_7.length ≤ c0_7) (hr0_8 : Kd.C k149 w A0_8 l0_8.length l0_8) (hc0_8 : l0_8.length ≤ c0_8) (hr1_4 : Kd.C k52 w A1_4 l1_4.length l1_4) (hc1_4 : l1_4.length ≤ c1_4) (h : elastic_Grow.f k a0_0 a0_1 a0_2 a0_3 l0_4 l0_5 l0_6 l0_7 l0_8 a1_0 a1_1 a1_2 a1_3 l1_4 a2_0 a2_1 a2_2 a2_3 a2_4 a2_5 a2_6 a2_7 = some (r1, r2, r3, r4, r5)) :
  Calls Try.prog 59 #[.agg #[.int .i64 a0_0, .int .i64 a0_1, .int .i64 a0_2, .int .i64 a0_3, .slice A0_4 l0_4.length c0_4, .slice A0_5 l0_5.length c0_5, .slice A0_6 l0_6.length c0_6, .slice A0_7 l0_7.length c0_7, .slice A0_8 l0_8.length c0_8], .agg #[.int .i64 a1_0, .int .i64 a1_1, .int .i64 a1_2, .bool a1_3, .slice A1_4 l1_4.length c1_4], .agg #[.int .i64 a2_0, .int .i64 a2_1, .int .i64 a2_2, .int .i64 a2_3, .int .i64 a2_4, .int .i64 a2_5, .int .i64 a2_6, .int .i64 a2_7]] w fun e w' => e = .returned (.tuple #[.agg #[.int .i64 r1, .int .i64 r2, .int .u64 r3, .int .i64 r4], .int .i64 r5]) ∧ Below w.heap.size w w' := by
 have hu86 := Try.underlying86
 have hu41 := Try.underlying41
 have hu88 := Try.underlying88
 have hu52 := Try.underlying52
 have hu24 := Try.underlying24
 have hu27 := Try.underlying27
 have HR0_4 := m_ hr0_4
 have HC0_4 := m_ hc0_4
 clear hr0_4 hc0_4
 have HR0_5 := m_ hr0_5
 have HC0_5 := m_ hc0_5
 clear hr0_5 hc0_5
 have HR0_6 := m_ hr0_6
 have HC0_6 := m_ hc0_6
 clear hr0_6 hc0_6
 have HR0_7 := m_ hr0_7
 have HC0_7 := m_ hc0_7
 clear hr0_7 hc0_7
 have HR0_8 := m_ hr0_8
 have HC0_8 := m_ hc0_8
 clear hr0_8 hc0_8
 have HR1 := m_ hr1_4
 have HC1 := m_ hc1_4
 have HB := m_ (Below.refl w.heap.size w)
 unfold elastic_Grow.f at h
 obtain ⟨⟨lg, lc, le⟩, hL, h⟩ := Option.bind_eq_some_iff.1 h
 have HL := m_ hL
 have H := m_ h
 clear h hL hr1_4 hc1_4
 go_enter Try.func59, Try.ntmps59
 go_upto_region 2 with (first | ((with_reducible refine a3_ (N := 3) rfl ?_); refine bx 3 #[.int .i64 a0_0, .int .i64 a0_1, .int .i64 a0_2, .int .i64 a0_3, .slice A0_4 l0_4.length c0_4, .slice A0_5 l0_5.length c0_5, .slice A0_6 l0_6.length c0_6, .slice A0_7 l0_7.length c0_7, .slice A0_8 l0_8.length c0_8] 86 ?_; intro g1 hgg1 wg1 hxg1 hbg1; have Gg1 : w.heap.size ≤ g1 := Z6; replace HB := m_ (b0_ HB.out hbg1); have HXg1 := m_ hxg1; clear hgg1 hxg1 hbg1) | ((with_reducible refine a3_ (N := 4) rfl ?_); refine bx 4 #[.int .i64 a1_0, .int .i64 a1_1, .int .i64 a1_2, .bool a1_3, .slice A1_4 l1_4.length c1_4] 41 ?_; intro g2 hgg2 wg2 hxg2 hbg2; have Ng1_g2 := m_ (show g1 ≠ g2 from by have := c6_ HXg1.out; omega); replace HXg1 := m_ (a1_ HXg1.out hbg2); have Gg2 : w.heap.size ≤ g2 := Z6; replace HB := m_ (b0_ HB.out hbg2); have HXg2 := m_ hxg2; clear hgg2 hxg2 hbg2) | ((with_reducible refine a3_ (N := 5) rfl ?_); refine bx 5 #[.int .i64 a2_0, .int .i64 a2_1, .int .i64 a2_2, .int .i64 a2_3, .int .i64 a2_4, .int .i64 a2_5, .int .i64 a2_6, .int .i64 a2_7] 88 ?_; intro g3 hgg3 wg3 hxg3 hbg3; have Ng1_g3 := m_ (show g1 ≠ g3 from by have := c6_ HXg1.out; omega); have Ng2_g3 := m_ (show g2 ≠ g3 from by have := c6_ HXg2.out; omega); replace HXg1 := m_ (a1_ HXg1.out hbg3); replace HXg2 := m_ (a1_ HXg2.out hbg3); have Gg3 : w.heap.size ≤ g3 := Z6; replace HB := m_ (b0_ HB.out hbg3); have HXg3 := m_ hxg3; clear hgg3 hxg3 hbg3) | ((with_reducible refine a3_ (N := 6) rfl ?_); refine bx 6 #[.int .i64 0, .int .i64 0, .int .u64 0, .int .i64 0] 52 ?_; intro g4 hgg4 wg4 hxg4 hbg4; have Ng1_g4 := m_ (show g1 ≠ g4 from by have := c6_ HXg1.out; omega); have Ng2_g4 := m_ (show g2 ≠ g4 from by have := c6_ HXg2.out; omega); have Ng3_g4 := m_ (show g3 ≠ g4 from by have := c6_ HXg3.out; omega); replace HXg1 := m_ (a1_ HXg1.out hbg4); replace HXg2 := m_ (a1_ HXg2.out hbg4); replace HXg3 := m_ (a1_ HXg3.out hbg4); have Gg4 : w.heap.size ≤ g4 := Z6; replace HB := m_ (b0_ HB.out hbg4); have HXg4 := m_ hxg4; clear hgg4 hxg4 hbg4; obtain ⟨cg1_0, cg1_1, cg1_2, cg1_3, cg1_4, cg1_5, cg1_6, cg1_7, cg1_8⟩ := cz9_ HXg1; obtain ⟨cg3_0, cg3_1, cg3_2, cg3_3, cg3_4, cg3_5, cg3_6, cg3_7⟩ := cz8_ HXg3) | (go_at_call 93; refine (elastic_left.calls a0_0 a0_1 a0_2 a0_3 A0_4 c0_4 l0_4 A0_5 c0_5 l0_5 A0_6 c0_6 l0_6 A0_7 c0_7 l0_7 A0_8 c0_8 l0_8 a2_0 a2_1 a2_2 a2_3 a2_4 a2_5 a2_6 a2_7 lg lc le _ (Kd.C_below HR0_4.out HB.out) HC0_4.out (Kd.C_below HR0_5.out HB.out) HC0_5.out (Kd.C_below HR0_6.out HB.out) HC0_6.out (Kd.C_below HR0_7.out HB.out) HC0_7.out (Kd.C_below HR0_8.out HB.out) HC0_8.out HL.out).mono ?_; rintro e w1 ⟨rfl, hb⟩; clear cg1_0 cg1_1 cg1_2 cg1_3 cg1_4 cg1_5 cg1_6 cg1_7 cg1_8 cg3_0 cg3_1 cg3_2 cg3_3 cg3_4 cg3_5 cg3_6 cg3_7; replace HXg1 := m_ (a1_ HXg1.out hb); replace HXg2 := m_ (a1_ HXg2.out hb); replace HXg3 := m_ (a1_ HXg3.out hb); replace HXg4 := m_ (a1_ HXg4.out hb); replace HB := m_ (b0_ HB.out hb); clear hb))
 have hag1 := b9_ HXg1.out (.cells #[.int .i64 lg, .int .i64 lc] 24)
 have hag2 := b9_ HXg2.out (.cells #[.int .i64 lg, .int .i64 lc] 24)
 have hag3 := b9_ HXg3.out (.cells #[.int .i64 lg, .int .i64 lc] 24)
 have hag4 := b9_ HXg4.out (.cells #[.int .i64 lg, .int .i64 lc] 24)
 have haN := blk_new w1 (.cells #[.int .i64 lg, .int .i64 lc] 24)
 have haB := b5_ HB.out (.cells #[.int .i64 lg, .int .i64 lc] 24)
 obtain ⟨g5, hg5⟩ : ∃ g, g = w1.heap.size := ⟨_, rfl⟩
 rw [← hg5] at haN ⊢
 clear HB hg5 HXg1 HXg2 HXg3 HXg4
 generalize w1.alloc (.cells #[.int .i64 lg, .int .i64 lc] 24) = w2 at *
 have HXg1 := m_ hag1
 have HXg2 := m_ hag2
 have HXg3 := m_ hag3
 have HXg4 := m_ hag4
 have HXg5 := m_ haN
 have HB := m_ haB
 clear haN haB hag1 hag2 hag3 hag4
 have hh := H.out
 clear H
 by_cases he : le = 0
 case neg =>
  rw [if_neg he] at hh
  obtain ⟨rfl, rfl, rfl, rfl, rfl⟩ : (0 : Int) = r1 ∧ (0 : Int) = r2 ∧ (0 : Int) = r3 ∧ (0 : Int) = r4 ∧ le = r5 := by simpa using hh
  clear hh
  have t0 : (le != 0) = true := bne_iff_ne.2 he
  clear he
  obtain ⟨cg4_0, cg4_1, cg4_2, cg4_3, zg4_0, zg4_1, zg4_2, zg4_3⟩ := bz4_ HXg4
  go_wp2
  refine bodyPost_ret (results_ct rfl _ _ g4 52 #[.int .i64 0, .int .i64 0, .int .u64 0, .int .i64 0] (0, 0) _ rfl (d4_ (d4_ (d4_ (d4_ HXg4.out 0 _ rfl) 1 _ rfl) 2 _ rfl) 3 _ rfl) Try.underlying52 rfl (by kernel_rfl)) rfl ?_
  exact ⟨rfl, b6_ (b6_ (b6_ (b6_ HB.out Gg4) Gg4) Gg4) Gg4⟩
 subst he
 rw [if_pos rfl] at hh
 obtain ⟨cg1_0, cg1_1, cg1_2, cg1_3, cg1_4, cg1_5, cg1_6, cg1_7, cg1_8⟩ := cz9_ HXg1
 obtain ⟨cg2_0, cg2_1, cg2_2, cg2_3, cg2_4⟩ := cz5_ HXg2
 obtain ⟨cg3_0, cg3_1, cg3_2, cg3_3, cg3_4, cg3_5, cg3_6, cg3_7⟩ := cz8_ HXg3
 obtain ⟨cg4_0, cg4_1, cg4_2, cg4_3⟩ := cz4_ HXg4
 obtain ⟨cg5_0, cg5_1⟩ := cz2_ HXg5
 by_cases hm : (l1_4.length : Int) ≥ a2_7
 ·rw [if_pos hm] at hh
  obtain ⟨rfl, rfl, rfl, rfl, rfl⟩ : (0 : Int) = r1 ∧ (0 : Int) = r2 ∧ (0 : Int) = r3 ∧ (0 : Int) = r4 ∧ (2 : Int) = r5 := by simpa using hh
  clear hh
  have t0 : decide ((l1_4.length : Int) ≥ a2_7) = true := decide_eq_true hm
  clear hm
  have zg4_0 : w2.frozen? ⟨g4, 0, none⟩ = false := a2_ HXg4.out 0
  have zg4_1 : w2.frozen? ⟨g4, 1, none⟩ = false := a2_ HXg4.out 1
  have zg4_2 : w2.frozen? ⟨g4, 2, none⟩ = false := a2_ HXg4.out 2
  have zg4_3 : w2.frozen? ⟨g4, 3, none⟩ = false := a2_ HXg4.out 3
  go_wp2
  refine bodyPost_ret (results_ct rfl _ _ g4 52 #[.int .i64 0, .int .i64 0, .int .u64 0, .int .i64 0] (0, 0) _ rfl (d4_ (d4_ (d4_ (d4_ HXg4.out 0 _ rfl) 1 _ rfl) 2 _ rfl) 3 _ rfl) Try.underlying52 rfl (by kernel_rfl)) rfl ?_
  exact ⟨rfl, b6_ (b6_ (b6_ (b6_ HB.out Gg4) Gg4) Gg4) Gg4⟩
 rw [if_neg hm] at hh
 have t0 : decide ((l1_4.length : Int) ≥ a2_7) = false := decide_eq_false hm
 clear hm
 obtain ⟨t, hT, hh⟩ := Option.bind_eq_some_iff.1 hh
 have HT := m_ hT
 clear hT
 have H := m_ hh
 clear hh
 go_upto_region 7 with (first | (go_at_call 94; refine (elastic_can.calls k a0_0 a0_1 a0_2 a0_3 A0_4 c0_4 l0_4 A0_5 c0_5 l0_5 A0_6 c0_6 l0_6 A0_7 c0_7 l0_7 A0_8 c0_8 l0_8 a2_4 a2_5 a2_6 a2_7 1 lg lc t _ (Kd.C_below HR0_4.out HB.out) HC0_4.out (Kd.C_below HR0_5.out HB.out) HC0_5.out (Kd.C_below HR0_6.out HB.out) HC0_6.out (Kd.C_below HR0_7.out HB.out) HC0_7.out (Kd.C_below HR0_8.out HB.out) HC0_8.out HT.out).mono ?_; rintro e w3 ⟨rfl, hb⟩; clear cg1_0 cg1_1 cg1_2 cg1_3 cg1_4 cg1_5 cg1_6 cg1_7 cg1_8 cg2_0 cg2_1 cg2_2 cg2_3 cg2_4 cg3_0 cg3_1 cg3_2 cg3_3 cg3_4 cg3_5 cg3_6 cg3_7 cg4_0 cg4_1 cg4_2 cg4_3 cg5_0 cg5_1; replace HXg1 := m_ (a1_ HXg1.out hb); replace HXg2 := m_ (a1_ HXg2.out hb); replace HXg3 := m_ (a1_ HXg3.out hb); replace HXg4 := m_ (a1_ HXg4.out hb); replace HXg5 := m_ (a1_ HXg5.out hb); replace HB := m_ (b0_ HB.out hb); clear hb))
 clear t0 HT
 have hh := H.out
 clear H
 by_cases ht : t = 0
 case neg =>
  rw [if_neg ht] at hh
  obtain ⟨rfl, rfl, rfl, rfl, rfl⟩ : (0 : Int) = r1 ∧ (0 : Int) = r2 ∧ (0 : Int) = r3 ∧ (0 : Int) = r4 ∧ t = r5 := by simpa using hh
  clear hh
  have t0 : (t != 0) = true := bne_iff_ne.2 ht
  clear ht
  obtain ⟨cg4_0, cg4_1, cg4_2, cg4_3, zg4_0, zg4_1, zg4_2, zg4_3⟩ := bz4_ HXg4
  go_wp2
  refine bodyPost_ret (results_ct rfl _ _ g4 52 #[.int .i64 0, .int .i64 0, .int .u64 0, .int .i64 0] (0, 0) _ rfl (d4_ (d4_ (d4_ (d4_ HXg4.out 0 _ rfl) 1 _ rfl) 2 _ rfl) 3 _ rfl) Try.underlying52 rfl (by kernel_rfl)) rfl ?_
  exact ⟨rfl, b6_ (b6_ (b6_ (b6_ HB.out Gg4) Gg4) Gg4) Gg4⟩
 subst ht
 rw [if_pos rfl] at hh
 obtain ⟨⟨p, pe⟩, hT, hh⟩ := Option.bind_eq_some_iff.1 hh
 have HT := m_ hT
 clear hT
 obtain ⟨b, hU, hh⟩ := Option.bind_eq_some_iff.1 hh
 have HU := m_ hU
 clear hU
 have H := m_ hh
 clear hh
 obtain ⟨cg1_0, cg1_1, cg1_2, cg1_3, cg1_4, cg1_5, cg1_6, cg1_7, cg1_8⟩ := cz9_ HXg1
 obtain ⟨cg2_0, cg2_1, cg2_2, cg2_3, cg2_4⟩ := cz5_ HXg2
 obtain ⟨cg3_0, cg3_1, cg3_2, cg3_3, cg3_4, cg3_5, cg3_6, cg3_7⟩ := cz8_ HXg3
 obtain ⟨cg4_0, cg4_1, cg4_2, cg4_3⟩ := cz4_ HXg4
 obtain ⟨cg5_0, cg5_1⟩ := cz2_ HXg5
 go_upto_region 10 with (first | (go_at_call 46; refine (pack_Place.calls _ _ l0_4 a2_4 a2_5 a2_6 a2_7 1 p pe _ (Kd.C_below HR0_4.out HB.out) HC0_4.out HT.out).mono ?_; rintro e w4 ⟨vp, rfl, hrp, hb⟩; obtain ⟨Ap, cp, hvp⟩ := Kd.R_slice hrp; subst hvp; have HS := m_ (Kd.R_reads' hrp).2.2; have HSL := m_ (Kd.R_reads' hrp).2.1; clear cg1_0 cg1_1 cg1_2 cg1_3 cg1_4 cg1_5 cg1_6 cg1_7 cg1_8 cg2_0 cg2_1 cg2_2 cg2_3 cg2_4 cg3_0 cg3_1 cg3_2 cg3_3 cg3_4 cg3_5 cg3_6 cg3_7 cg4_0 cg4_1 cg4_2 cg4_3 cg5_0 cg5_1; replace HXg1 := m_ (a1_ HXg1.out hb); replace HXg2 := m_ (a1_ HXg2.out hb); replace HXg3 := m_ (a1_ HXg3.out hb); replace HXg4 := m_ (a1_ HXg4.out hb); replace HXg5 := m_ (a1_ HXg5.out hb); replace HB := m_ (b0_ HB.out hb); clear hb hrp))
 obtain ⟨cg1_0, cg1_1, cg1_2, cg1_3, cg1_4, cg1_5, cg1_6, cg1_7, cg1_8⟩ := cz9_ HXg1
 obtain ⟨cg2_0, cg2_1, cg2_2, cg2_3, cg2_4⟩ := cz5_ HXg2
 obtain ⟨cg3_0, cg3_1, cg3_2, cg3_3, cg3_4, cg3_5, cg3_6, cg3_7⟩ := cz8_ HXg3
 obtain ⟨cg4_0, cg4_1, cg4_2, cg4_3⟩ := cz4_ HXg4
 obtain ⟨cg5_0, cg5_1⟩ := cz2_ HXg5
 cases b with
 | false =>
  go_upto_region 11 with (first | (go_at_call 97; refine (elastic_safe.calls k a0_0 a0_1 a0_2 a0_3 A0_4 c0_4 l0_4 A0_5 c0_5 l0_5 A0_6 c0_6 l0_6 A0_7 c0_7 l0_7 A0_8 c0_8 l0_8 a2_0 a2_1 a1_2 false _ _ p false _ (Kd.C_below HR0_4.out HB.out) HC0_4.out (Kd.C_below HR0_5.out HB.out) HC0_5.out (Kd.C_below HR0_6.out HB.out) HC0_6.out (Kd.C_below HR0_7.out HB.out) HC0_7.out (Kd.C_below HR0_8.out HB.out) HC0_8.out HS.out HSL.out HU.out).mono ?_; rintro e w5 ⟨rfl, hb⟩; clear cg1_0 cg1_1 cg1_2 cg1_3 cg1_4 cg1_5 cg1_6 cg1_7 cg1_8 cg2_0 cg2_1 cg2_2 cg2_3 cg2_4 cg3_0 cg3_1 cg3_2 cg3_3 cg3_4 cg3_5 cg3_6 cg3_7 cg4_0 cg4_1 cg4_2 cg4_3 cg5_0 cg5_1; replace HXg1 := m_ (a1_ HXg1.out hb); replace HXg2 := m_ (a1_ HXg2.out hb); replace HXg3 := m_ (a1_ HXg3.out hb); replace HXg4 := m_ (a1_ HXg4.out hb); replace HXg5 := m_ (a1_ HXg5.out hb); replace HB := m_ (b0_ HB.out hb); replace HS := m_ (Kd.C_below HS.out hb); clear hb))
  have hh := H.out
  clear H
  rw [if_neg (by decide)] at hh
  obtain ⟨rfl, rfl, rfl, rfl, rfl⟩ : (0 : Int) = r1 ∧ (0 : Int) = r2 ∧ (0 : Int) = r3 ∧ (0 : Int) = r4 ∧ (5 : Int) = r5 := by simpa using hh
  clear hh
  obtain ⟨cg4_0, cg4_1, cg4_2, cg4_3, zg4_0, zg4_1, zg4_2, zg4_3⟩ := bz4_ HXg4
  go_wp2
  refine bodyPost_ret (results_ct rfl _ _ g4 52 #[.int .i64 0, .int .i64 0, .int .u64 0, .int .i64 0] (0, 0) _ rfl (d4_ (d4_ (d4_ (d4_ HXg4.out 0 _ rfl) 1 _ rfl) 2 _ rfl) 3 _ rfl) Try.underlying52 rfl (by kernel_rfl)) rfl ?_
  exact ⟨rfl, b6_ (b6_ (b6_ (b6_ HB.out Gg4) Gg4) Gg4) Gg4⟩
 | true =>
  go_upto_region 12 with (first | (go_at_call 97; refine (elastic_safe.calls k a0_0 a0_1 a0_2 a0_3 A0_4 c0_4 l0_4 A0_5 c0_5 l0_5 A0_6 c0_6 l0_6 A0_7 c0_7 l0_7 A0_8 c0_8 l0_8 a2_0 a2_1 a1_2 false _ _ p true _ (Kd.C_below HR0_4.out HB.out) HC0_4.out (Kd.C_below HR0_5.out HB.out) HC0_5.out (Kd.C_below HR0_6.out HB.out) HC0_6.out (Kd.C_below HR0_7.out HB.out) HC0_7.out (Kd.C_below HR0_8.out HB.out) HC0_8.out HS.out HSL.out HU.out).mono ?_; rintro e w5 ⟨rfl, hb⟩; clear cg1_0 cg1_1 cg1_2 cg1_3 cg1_4 cg1_5 cg1_6 cg1_7 cg1_8 cg2_0 cg2_1 cg2_2 cg2_3 cg2_4 cg3_0 cg3_1 cg3_2 cg3_3 cg3_4 cg3_5 cg3_6 cg3_7 cg4_0 cg4_1 cg4_2 cg4_3 cg5_0 cg5_1; replace HXg1 := m_ (a1_ HXg1.out hb); replace HXg2 := m_ (a1_ HXg2.out hb); replace HXg3 := m_ (a1_ HXg3.out hb); replace HXg4 := m_ (a1_ HXg4.out hb); replace HXg5 := m_ (a1_ HXg5.out hb); replace HB := m_ (b0_ HB.out hb); replace HS := m_ (Kd.C_below HS.out hb); clear hb))
  have hh := H.out
  clear H
  first | rw [if_pos rfl] at hh | rw [if_pos trivial] at hh
  by_cases hp : 0 < (p.length : Int)
  case neg => rw [if_neg hp] at hh; cases hh
  rw [if_pos hp] at hh
  obtain ⟨rfl, rfl, rfl, rfl, rfl⟩ : (a5_ p 0).f0.f0 = r1 ∧ (a5_ p 0).f0.f1 = r2 ∧ (a5_ p 0).f1 = r3 ∧ (a5_ p 0).f2 = r4 ∧ (0 : Int) = r5 := by simpa using hh
  clear hh
  obtain ⟨ad, hea, y0, y1, y2, y3⟩ := at_T52 HS.out 0 (by decide) hp
  subst hea
  replace y0 : w5.cell? ad = some (.int .i64 (a5_ p 0).f0.f0) := y0
  replace y1 : w5.cell? ⟨ad.block, ad.off + 1, none⟩ = some (.int .i64 (a5_ p 0).f0.f1) := y1
  replace y2 : w5.cell? ⟨ad.block, ad.off + 2, none⟩ = some (.int .u64 (a5_ p 0).f1) := y2
  replace y3 : w5.cell? ⟨ad.block, ad.off + 3, none⟩ = some (.int .i64 (a5_ p 0).f2) := y3
  have hp2 : (0 < p.length) = True := eq_true (by omega)
  clear hp
  obtain ⟨cg4_0, cg4_1, cg4_2, cg4_3, zg4_0, zg4_1, zg4_2, zg4_3⟩ := bz4_ HXg4
  go_wp2
  refine bodyPost_ret (results_ct rfl _ _ g4 52 #[.int .i64 (a5_ p 0).f0.f0, .int .i64 (a5_ p 0).f0.f1, .int .u64 (a5_ p 0).f1, .int .i64 (a5_ p 0).f2] (0, 0) _ rfl (d4_ (d4_ (d4_ (d4_ HXg4.out 0 _ rfl) 1 _ rfl) 2 _ rfl) 3 _ rfl) Try.underlying52 rfl (by kernel_rfl)) rfl ?_
  exact ⟨rfl, b6_ (b6_ (b6_ (b6_ HB.out Gg4) Gg4) Gg4) Gg4⟩
def growG (k : Nat) (a0_0 a0_1 a0_2 a0_3 : Int) (l0_4 : List S51) (l0_5 : List S24) (l0_6 : List S41) (l0_7 : List S105) (l0_8 : List S149) : List S149 → Option (Int × Int × List S52 × Bool)
 | [] => some (0, 0, [], false)
 | x :: r => (worker_hold.f k a0_0 a0_1 a0_2 a0_3 l0_4 l0_5 l0_6 l0_7 l0_8 x.f0.f0).bind fun h => if h.2.2.2.2.2 = true then (elastic_Grow.f k a0_0 a0_1 a0_2 a0_3 l0_4 l0_5 l0_6 l0_7 l0_8 h.1 h.2.1 h.2.2.1 h.2.2.2.1 h.2.2.2.2.1 x.f0.f0 x.f0.f1 x.f0.f2 x.f0.f3 x.f0.f4.f0 x.f0.f4.f1 x.f0.f4.f2 x.f0.f4.f3).bind fun g => if g.2.2.2.2 = 0 then some (3, x.f0.f0, [(⟨⟨g.1, g.2.1⟩, g.2.2.1, g.2.2.2.1⟩ : S52)], true) else growG k a0_0 a0_1 a0_2 a0_3 l0_4 l0_5 l0_6 l0_7 l0_8 r
   else growG k a0_0 a0_1 a0_2 a0_3 l0_4 l0_5 l0_6 l0_7 l0_8 r
theorem results102 {tmps : Array Value} {w : World} {g2 : Nat} {a b c u : Value} {t : TypeId} (h4 : tmps.getD 2 undef = .pointer (some ⟨g2, 0, none⟩)) (h5 : tmps.getD 3 undef = u)
  (b4 : w.heap[g2]? = some (.cells #[a, b, c] t (0, 0))) : (results Try.f102 tmps).run Try.prog w = .ok (.tuple #[.agg #[a, b, c], u]) w := by
 have h4' : tmps[2]?.getD undef = .pointer (some ⟨g2, 0, none⟩) := by simpa using h4
 have h5' : tmps[3]?.getD undef = u := by simpa using h5
 obtain ⟨c0, c1, c2⟩ := cz3_ ⟨b4⟩
 have hu100 := Try.underlying100
 simp [results, Try.f102, go_sem, h4', h5', c0, c1, c2, hu100]
set_option maxHeartbeats 8000000 in
set_option maxRecDepth 100000 in
theorem grow_calls (ks : Nat) (a0_0 a0_1 a0_2 a0_3 : Int) (A0_4 : Option Addr) (c0_4 : Nat) (l0_4 : List (S51)) (A0_5 : Option Addr) (c0_5 : Nat) (l0_5 : List (S24)) (A0_6 : Option Addr) (c0_6 : Nat) (l0_6 : List (S41)) (A0_7 : Option Addr) (c0_7 : Nat) (l0_7 : List (S105)) (A0_8 : Option Addr) (c0_8 : Nat) (l0_8 : List (S149)) (d id : Int) (sl : List S52) (ok : Bool) (w : World) (hr0_4 : Kd.C k51 w A0_4 l0_4.length l0_4) (hc0_4 : l0_4.length ≤ c0_4) (hr0_5 : Kd.C k24 w A0_5 l0_5.length l0_5) (hc0_5 : l0_5.length ≤ c0_5) (hr0_6 : Kd.C k41 w A0_6 l0_6.length l0_6) (hc0_6 : l0_6.length ≤ c0_6) (hr0_7 : Kd.C k105 w A0_7 l0_7.length l0_7) (hc0_7 : l0_7.length ≤ c0_7) (hr0_8 : Kd.C k149 w A0_8 l0_8.length l0_8) (hc0_8 : l0_8.length ≤ c0_8) (hn : l0_8.length ≤ 1000000) (h : growG ks a0_0 a0_1 a0_2 a0_3 l0_4 l0_5 l0_6 l0_7 l0_8 l0_8 = some (d, id, sl, ok)) :
  Calls Try.prog 102 #[.agg #[.int .i64 a0_0, .int .i64 a0_1, .int .i64 a0_2, .int .i64 a0_3, .slice A0_4 l0_4.length c0_4, .slice A0_5 l0_5.length c0_5, .slice A0_6 l0_6.length c0_6, .slice A0_7 l0_7.length c0_7, .slice A0_8 l0_8.length c0_8]] w fun e w' => ∃ A c, e = .returned (.tuple #[.agg #[.int .i64 d, .int .i64 id, .slice A sl.length c], .bool ok]) ∧ Kd.R k52 52 w' w.heap.size (fun _ => True) (.slice A sl.length c) sl ∧ Below w.heap.size w w' := by
 have hu86 := Try.underlying86
 have hu149 := Try.underlying149
 have hu88 := Try.underlying88
 have hu41 := Try.underlying41
 have hu52 := Try.underlying52
 have hu100 := Try.underlying100
 have hu39 := Try.underlying39
 have hu32 := Try.underlying32
 have HR0_4 := m_ hr0_4
 have HC0_4 := m_ hc0_4
 clear hr0_4 hc0_4
 have HR0_5 := m_ hr0_5
 have HC0_5 := m_ hc0_5
 clear hr0_5 hc0_5
 have HR0_6 := m_ hr0_6
 have HC0_6 := m_ hc0_6
 clear hr0_6 hc0_6
 have HR0_7 := m_ hr0_7
 have HC0_7 := m_ hc0_7
 clear hr0_7 hc0_7
 have HR0_8 := m_ hr0_8
 have HC0_8 := m_ hc0_8
 clear hr0_8 hc0_8
 have HB := m_ (Below.refl w.heap.size w)
 have HN := m_ hn
 have HA0 := m_ (show growG ks a0_0 a0_1 a0_2 a0_3 l0_4 l0_5 l0_6 l0_7 l0_8 (l0_8.drop 0) = some (d, id, sl, ok) from h)
 clear h hn
 go_enter Try.func102, Try.ntmps102
 go_wp2_with (first | ((with_reducible refine a3_ (N := 1) rfl ?_); refine bx 1 #[.int .i64 a0_0, .int .i64 a0_1, .int .i64 a0_2, .int .i64 a0_3, .slice A0_4 l0_4.length c0_4, .slice A0_5 l0_5.length c0_5, .slice A0_6 l0_6.length c0_6, .slice A0_7 l0_7.length c0_7, .slice A0_8 l0_8.length c0_8] 86 ?_; intro g1 hgg1 wg1 hxg1 hbg1; have Gg1 : w.heap.size ≤ g1 := Z6; replace HB := m_ (b0_ HB.out hbg1); have HXg1 := m_ hxg1; clear hgg1 hxg1 hbg1) | ((with_reducible refine a3_ (N := 2) rfl ?_); refine bx 2 #[.int .i64 0, .int .i64 0, .slice none 0 0] 100 ?_; intro g2 hgg2 wg2 hxg2 hbg2; have Ng1_g2 := m_ (show g1 ≠ g2 from by have := c6_ HXg1.out; omega); replace HXg1 := m_ (a1_ HXg1.out hbg2); have Gg2 : w.heap.size ≤ g2 := Z6; replace HB := m_ (b0_ HB.out hbg2); have HXg2 := m_ hxg2; clear hgg2 hxg2 hbg2; obtain ⟨cg1_0, cg1_1, cg1_2, cg1_3, cg1_4, cg1_5, cg1_6, cg1_7, cg1_8⟩ := cz9_ HXg1))
 clear cg1_0 cg1_1 cg1_2 cg1_3 cg1_4 cg1_5 cg1_6 cg1_7 cg1_8
 go_loopw [13] (fun v13 wr => ∃ i : Nat, i ≤ l0_8.length ∧ v13 = .int .i64 (i : Int) ∧ A_ (growG ks a0_0 a0_1 a0_2 a0_3 l0_4 l0_5 l0_6 l0_7 l0_8 (l0_8.drop i) = some (d, id, sl, ok)) ∧ A_ (wr.heap[g1]? = some (.cells #[.int .i64 a0_0, .int .i64 a0_1, .int .i64 a0_2, .int .i64 a0_3, .slice A0_4 l0_4.length c0_4, .slice A0_5 l0_5.length c0_5, .slice A0_6 l0_6.length c0_6, .slice A0_7 l0_7.length c0_7, .slice A0_8 l0_8.length c0_8] 86 (0, 0))) ∧ A_ (wr.heap[g2]? = some (.cells #[.int .i64 0, .int .i64 0, .slice none 0 0] 100 (0, 0))) ∧ A_ (Below w.heap.size w wr)) (fun v13 _ => l0_8.length - (intOf v13).toNat)
 case atStart => exact ⟨0, Nat.zero_le _, rfl, HA0, HXg1, HXg2, HB⟩
 case round =>
  clear HA0 HXg1 HXg2 HB
  obtain ⟨i, hi, rfl, HA, HXg1, HXg2, HB⟩ := hrel
  by_cases hlt : i < l0_8.length
  ·have hlt' : (i : Int) < l0_8.length := by omega
   have h0i : 0 ≤ (i : Int) := by omega
   have hib : (i : Int) ≤ 1000000 := by have := HN.out; omega
   have hrC := Kd.C_below HR0_8.out HB.out
   obtain ⟨ad1, ee, y0, y1, y2, y3, y4, y5, y6, y7, y8, y9, y10, y11, y12, y13, y14, y15⟩ := at_T149 hrC (i : Int) h0i hlt'
   cases ee
   simp only [Int.toNat_natCast] at y0 y1 y2 y3 y4 y5 y6 y7 y8 y9 y10 y11 y12 y13 y14 y15
   have hx : a9_ l0_8 (i : Int) = l0_8[i] := by simp [a9_, List.getD_eq_getElem?_getD, List.getElem?_eq_getElem hlt]
   have ha := HA.out
   rw [List.drop_eq_getElem_cons hlt] at ha
   rw [hx] at y0 y1 y2 y3 y4 y5 y6 y7 y8 y9 y10 y11 y12 y13 y14 y15
   generalize l0_8[i] = x at *
   rw [growG] at ha
   obtain ⟨⟨i1, i2, i3, b4, hl, b6⟩, hho, ha⟩ := Option.bind_eq_some_iff.1 ha
   simp only at ha
   have HHO := m_ hho
   have HA2 := m_ ha
   have HLT := m_ hlt
   clear HA ha hho hx hlt hrC
   obtain ⟨cg1_0, cg1_1, cg1_2, cg1_3, cg1_4, cg1_5, cg1_6, cg1_7, cg1_8⟩ := cz9_ HXg1
   go_upto_region 4 with (fail)
   have hxA := b9_ HXg1.out (.cells #[.int .i64 x.f0.f0, .int .i64 x.f0.f1, .int .i64 x.f0.f2, .int .i64 x.f0.f3, .int .i64 x.f0.f4.f0, .int .i64 x.f0.f4.f1, .int .i64 x.f0.f4.f2, .int .i64 x.f0.f4.f3, .int .i64 x.f1, .int .i64 x.f2, .int .i64 x.f3, .int .i64 x.f4, .int .i64 x.f5, .int .i64 x.f6, .int .i64 x.f7, .int .i64 x.f8] 149)
   have hxB := b9_ HXg2.out (.cells #[.int .i64 x.f0.f0, .int .i64 x.f0.f1, .int .i64 x.f0.f2, .int .i64 x.f0.f3, .int .i64 x.f0.f4.f0, .int .i64 x.f0.f4.f1, .int .i64 x.f0.f4.f2, .int .i64 x.f0.f4.f3, .int .i64 x.f1, .int .i64 x.f2, .int .i64 x.f3, .int .i64 x.f4, .int .i64 x.f5, .int .i64 x.f6, .int .i64 x.f7, .int .i64 x.f8] 149)
   have hxN := blk_new wr (.cells #[.int .i64 x.f0.f0, .int .i64 x.f0.f1, .int .i64 x.f0.f2, .int .i64 x.f0.f3, .int .i64 x.f0.f4.f0, .int .i64 x.f0.f4.f1, .int .i64 x.f0.f4.f2, .int .i64 x.f0.f4.f3, .int .i64 x.f1, .int .i64 x.f2, .int .i64 x.f3, .int .i64 x.f4, .int .i64 x.f5, .int .i64 x.f6, .int .i64 x.f7, .int .i64 x.f8] 149)
   have hxH := b5_ HB.out (.cells #[.int .i64 x.f0.f0, .int .i64 x.f0.f1, .int .i64 x.f0.f2, .int .i64 x.f0.f3, .int .i64 x.f0.f4.f0, .int .i64 x.f0.f4.f1, .int .i64 x.f0.f4.f2, .int .i64 x.f0.f4.f3, .int .i64 x.f1, .int .i64 x.f2, .int .i64 x.f3, .int .i64 x.f4, .int .i64 x.f5, .int .i64 x.f6, .int .i64 x.f7, .int .i64 x.f8] 149)
   obtain ⟨g5, hg5⟩ : ∃ g5, g5 = wr.heap.size := ⟨_, rfl⟩
   have Gg5 : w.heap.size ≤ g5 := by rw [hg5]; exact HB.out.size
   rw [← hg5] at hxN ⊢
   clear HXg1 HXg2 HB hg5
   clear cg1_0 cg1_1 cg1_2 cg1_3 cg1_4 cg1_5 cg1_6 cg1_7 cg1_8
   generalize wr.alloc (.cells #[.int .i64 x.f0.f0, .int .i64 x.f0.f1, .int .i64 x.f0.f2, .int .i64 x.f0.f3, .int .i64 x.f0.f4.f0, .int .i64 x.f0.f4.f1, .int .i64 x.f0.f4.f2, .int .i64 x.f0.f4.f3, .int .i64 x.f1, .int .i64 x.f2, .int .i64 x.f3, .int .i64 x.f4, .int .i64 x.f5, .int .i64 x.f6, .int .i64 x.f7, .int .i64 x.f8] 149) = wa at *
   have HXg1 := m_ hxA
   have HXg2 := m_ hxB
   have HXg5 := m_ hxN
   have HB := m_ hxH
   clear hxA hxB hxN hxH y0 y1 y2 y3 y4 y5 y6 y7 y8 y9 y10 y11 y12 y13 y14 y15
   obtain ⟨cg1_0, cg1_1, cg1_2, cg1_3, cg1_4, cg1_5, cg1_6, cg1_7, cg1_8⟩ := cz9_ HXg1
   have e0 : wa.cell? ⟨g5, 0, none⟩ = some (.int .i64 x.f0.f0) := (a0_ HXg5.out 0).trans rfl
   go_upto_region 5 with (first | (go_at_call 119; refine (worker_hold.calls ks a0_0 a0_1 a0_2 a0_3 _ _ l0_4 _ _ l0_5 (fun k_ => k_ < w.heap.size) _ _ l0_6 _ _ l0_7 _ _ l0_8 x.f0.f0 i1 i2 i3 b4 hl b6 _ (Kd.C_below HR0_4.out HB.out) HC0_4.out (Kd.C_below HR0_5.out HB.out) HC0_5.out (Kd.V_mk HC0_6.out (Kd.F_below (Kd.C_F k41_heap HR0_6.out) HB.out)) (Kd.C_below HR0_7.out HB.out) HC0_7.out (Kd.C_below HR0_8.out HB.out) HC0_8.out HHO.out).mono ?_; rintro e wh ⟨vh, rfl, hv, hb⟩; obtain ⟨Ah, ch, rfl⟩ := Kd.V_slice hv; have HV := m_ hv; clear cg1_0 cg1_1 cg1_2 cg1_3 cg1_4 cg1_5 cg1_6 cg1_7 cg1_8; clear e0; replace HXg1 := m_ (a1_ HXg1.out hb); replace HXg2 := m_ (a1_ HXg2.out hb); replace HXg5 := m_ (a1_ HXg5.out hb); replace HB := m_ (b0_ HB.out hb); clear hb hv))
   have hxA := b9_ HXg1.out (.cells #[.int .i64 i1, .int .i64 i2, .int .i64 i3, .bool b4, .slice Ah hl.length ch] 41)
   have hxB := b9_ HXg2.out (.cells #[.int .i64 i1, .int .i64 i2, .int .i64 i3, .bool b4, .slice Ah hl.length ch] 41)
   have hxC := b9_ HXg5.out (.cells #[.int .i64 i1, .int .i64 i2, .int .i64 i3, .bool b4, .slice Ah hl.length ch] 41)
   have hxN := blk_new wh (.cells #[.int .i64 i1, .int .i64 i2, .int .i64 i3, .bool b4, .slice Ah hl.length ch] 41)
   have hxV := Kd.V_alloc HV.out (.cells #[.int .i64 i1, .int .i64 i2, .int .i64 i3, .bool b4, .slice Ah hl.length ch] 41)
   have hxH := b5_ HB.out (.cells #[.int .i64 i1, .int .i64 i2, .int .i64 i3, .bool b4, .slice Ah hl.length ch] 41)
   obtain ⟨g6, hg6⟩ : ∃ g6, g6 = wh.heap.size := ⟨_, rfl⟩
   rw [← hg6] at hxN ⊢
   clear HXg1 HXg2 HXg5 HB HV hg6
   generalize wh.alloc (.cells #[.int .i64 i1, .int .i64 i2, .int .i64 i3, .bool b4, .slice Ah hl.length ch] 41) = wb at *
   have HXg1 := m_ hxA
   have HXg2 := m_ hxB
   have HXg5 := m_ hxC
   have HXg6 := m_ hxN
   have HV := m_ hxV
   have HB := m_ hxH
   clear hxA hxB hxC hxN hxH hxV
   cases b6 with
   | false =>
    have ha := HA2.out
    rw [if_neg (by decide)] at ha
    have HA3 := m_ ha
    clear ha HA2
    go_wp2
    go_roundw
    case rel => exact ⟨i + 1, HLT.out, by go_num, HA3, HXg1, HXg2, HB⟩
    case measure => have := HLT.out; simp [intOf]; omega
   | true =>
    have ha := HA2.out
    rw [if_pos rfl] at ha
    obtain ⟨⟨s1, s2, s3, s4, s5⟩, hgr, ha⟩ := Option.bind_eq_some_iff.1 ha
    simp only at ha
    have HGR := m_ hgr
    have HA3 := m_ ha
    clear ha HA2 hgr
    obtain ⟨cg1_0, cg1_1, cg1_2, cg1_3, cg1_4, cg1_5, cg1_6, cg1_7, cg1_8⟩ := cz9_ HXg1
    obtain ⟨cg6_0, cg6_1, cg6_2, cg6_3, cg6_4⟩ := cz5_ HXg6
    obtain ⟨e0, e1, e2, e3, e4, e5, e6, e7, e8, e9, e10, e11, e12, e13, e14, e15⟩ := cz16_ HXg5
    go_upto_region 7 with (first | (go_at_call 59; refine (elastic_Grow.calls ks a0_0 a0_1 a0_2 a0_3 _ _ l0_4 _ _ l0_5 _ _ l0_6 _ _ l0_7 _ _ l0_8 i1 i2 i3 b4 _ _ hl x.f0.f0 x.f0.f1 x.f0.f2 x.f0.f3 x.f0.f4.f0 x.f0.f4.f1 x.f0.f4.f2 x.f0.f4.f3 s1 s2 s3 s4 s5 _ (Kd.C_below HR0_4.out (HB.out)) HC0_4.out (Kd.C_below HR0_5.out (HB.out)) HC0_5.out (Kd.C_below HR0_6.out (HB.out)) HC0_6.out (Kd.C_below HR0_7.out (HB.out)) HC0_7.out (Kd.C_below HR0_8.out (HB.out)) HC0_8.out (Kd.V_reads' HV.out).2.2 (Kd.V_reads' HV.out).2.1 HGR.out).mono ?_; rintro e wg ⟨rfl, hb⟩; clear cg1_0 cg1_1 cg1_2 cg1_3 cg1_4 cg1_5 cg1_6 cg1_7 cg1_8 cg6_0 cg6_1 cg6_2 cg6_3 cg6_4 e0 e1 e2 e3 e4 e5 e6 e7; replace HXg1 := m_ (a1_ HXg1.out hb); replace HXg2 := m_ (a1_ HXg2.out hb); replace HXg5 := m_ (a1_ HXg5.out hb); replace HB := m_ (b0_ HB.out hb); clear hb HV))
    have hxA := b9_ HXg1.out (.cells #[.int .i64 s1, .int .i64 s2, .int .u64 s3, .int .i64 s4] 52)
    have hxB := b9_ HXg2.out (.cells #[.int .i64 s1, .int .i64 s2, .int .u64 s3, .int .i64 s4] 52)
    have hxC := b9_ HXg5.out (.cells #[.int .i64 s1, .int .i64 s2, .int .u64 s3, .int .i64 s4] 52)
    have hxN := blk_new wg (.cells #[.int .i64 s1, .int .i64 s2, .int .u64 s3, .int .i64 s4] 52)
    have hxH := b5_ HB.out (.cells #[.int .i64 s1, .int .i64 s2, .int .u64 s3, .int .i64 s4] 52)
    obtain ⟨g8, hg8⟩ : ∃ g8, g8 = wg.heap.size := ⟨_, rfl⟩
    rw [← hg8] at hxN ⊢
    clear HXg1 HXg2 HXg5 HB hg8
    generalize wg.alloc (.cells #[.int .i64 s1, .int .i64 s2, .int .u64 s3, .int .i64 s4] 52) = wc at *
    have HXg1 := m_ hxA
    have HXg2 := m_ hxB
    have HXg5 := m_ hxC
    have HXg8 := m_ hxN
    have HB := m_ hxH
    clear hxA hxB hxC hxN hxH
    by_cases hs : s5 = 0
    ·have ha := HA3.out
     rw [if_pos hs] at ha
     simp only [Option.some.injEq, Prod.mk.injEq] at ha
     obtain ⟨rfl, rfl, rfl, rfl⟩ := ha
     have t0 : (s5 == 0) = true := by simpa using hs
     clear hs HA3
     have e0 : wc.cell? ⟨g5, 0, none⟩ = some (.int .i64 x.f0.f0) := (a0_ HXg5.out 0).trans rfl
     obtain ⟨cg8_0, cg8_1, cg8_2, cg8_3⟩ := cz4_ HXg8
     go_wp2_with (first | ((with_reducible refine a3_ (N := 41) rfl ?_); refine Kd.R_lit k52 _ 52 ?hg (N := 41) ?hd (xs := ([(⟨⟨s1, s2⟩, s3, s4⟩ : S52)] : List (S52))) (inner := [.int .i64 s1, .int .i64 s2, .int .u64 s3, .int .i64 s4]) (ok := fun _ => True) (okp := fun _ => True) ?hr ?hpl (fun _ hk => hk) trivial (Below.refl _ _) (Nat.le_refl _) (by simp) ?_; (case hd => rfl); (case hg => rfl); (case hr => first | (go_simp; done) | (go_simp; rfl)); (case hpl => exact (Reps.c4 (show Kd.M k52 _ _ _ (⟨⟨s1, s2⟩, s3, s4⟩ : S52) [.int .i64 s1, .int .i64 s2, .int .u64 s3, .int .i64 s4] from (k52_mkM _ _ _ (⟨⟨s1, s2⟩, s3, s4⟩ : S52))) (Reps.none _ _))); intro v41 wl ho hb hg_ hnew_; clear hg_ hnew_; obtain ⟨Al, cl, hvl⟩ := Kd.R_slice ho; have HO := m_ ho; have HBS := m_ HB.out.size; subst hvl; clear e0 cg8_0 cg8_1 cg8_2 cg8_3; replace HXg1 := m_ (a1_ HXg1.out hb); replace HXg2 := m_ (a1_ HXg2.out hb); replace HXg5 := m_ (a1_ HXg5.out hb); replace HB := m_ (b0_ HB.out hb); clear hb ho; have zg2_0 : wl.frozen? ⟨g2, 0, none⟩ = false := a2_ HXg2.out 0; have zg2_1 : wl.frozen? ⟨g2, 1, none⟩ = false := a2_ HXg2.out 1; have zg2_2 : wl.frozen? ⟨g2, 2, none⟩ = false := a2_ HXg2.out 2; obtain ⟨cg2_0, cg2_1, cg2_2⟩ := cz3_ HXg2))
     have h2 : (((wl.setCell ⟨g2, 0, none⟩ (.int .i64 3)).setCell ⟨g2, 1, none⟩ (.int .i64 x.f0.f0)).setCell ⟨g2, 2, none⟩ (.slice Al 1 cl)).heap[g2]? = some (.cells #[.int .i64 3, .int .i64 x.f0.f0, .slice Al 1 cl] 100 (0, 0)) := d4_ (d4_ (d4_ HXg2.out 0 _ rfl) 1 _ rfl) 2 _ rfl
     have r0 := HO.out
     have r1 := Kd.R_grown2 r0 rfl (grown_set (j := 0) (v := .int .i64 3) (d6_ _ (some g2))) (fun k hk => by injection hk with hk; subst hk; exact Kd.R_ne r0 HXg2.out (by decide))
     have y1 : (wl.setCell ⟨g2, 0, none⟩ (.int .i64 3)).heap[g2]? = some (.cells #[.int .i64 3, .int .i64 0, .slice none 0 0] 100 (0, 0)) := d4_ HXg2.out 0 _ rfl
     have r2 := Kd.R_grown2 r1 rfl (grown_set (j := 1) (v := .int .i64 x.f0.f0) (d6_ _ (some g2))) (fun k hk => by injection hk with hk; subst hk; exact Kd.R_ne r1 y1 (by decide))
     have y2 := d4_ y1 1 (.int .i64 x.f0.f0) rfl
     have r3 := Kd.R_grown2 r2 rfl (grown_set (j := 2) (v := .slice Al 1 cl) (d6_ _ (some g2))) (fun k hk => by injection hk with hk; subst hk; exact Kd.R_ne r2 y2 (by decide))
     refine bodyPost_ret (results102 rfl rfl h2) rfl ?_
     exact ⟨Al, cl, rfl, Kd.R_lower r3 HBS.out, b6_ (b6_ (b6_ HB.out Gg2) Gg2) Gg2⟩
    ·have ha := HA3.out
     rw [if_neg hs] at ha
     have HA4 := m_ ha
     have t0 : (s5 == 0) = false := by simpa using hs
     clear ha HA3 hs
     go_wp2
     go_roundw
     case rel => exact ⟨i + 1, HLT.out, by go_num, HA4, HXg1, HXg2, HB⟩
     case measure => have := HLT.out; simp [intOf]; omega
  ·obtain rfl : i = l0_8.length := by omega
   have ha := HA.out
   rw [List.drop_length, growG] at ha
   simp only [Option.some.injEq, Prod.mk.injEq] at ha
   obtain ⟨rfl, rfl, rfl, rfl⟩ := ha
   clear HA
   have zg2_0 : wr.frozen? ⟨g2, 0, none⟩ = false := a2_ HXg2.out 0
   have zg2_1 : wr.frozen? ⟨g2, 1, none⟩ = false := a2_ HXg2.out 1
   have zg2_2 : wr.frozen? ⟨g2, 2, none⟩ = false := a2_ HXg2.out 2
   obtain ⟨cg2_0, cg2_1, cg2_2⟩ := cz3_ HXg2
   go_wp2
   have h2 : (((wr.setCell ⟨g2, 0, none⟩ (.int .i64 0)).setCell ⟨g2, 1, none⟩ (.int .i64 0)).setCell ⟨g2, 2, none⟩ (.slice none 0 0)).heap[g2]? = some (.cells #[.int .i64 0, .int .i64 0, .slice none 0 0] 100 (0, 0)) := d4_ (d4_ (d4_ HXg2.out 0 _ rfl) 1 _ rfl) 2 _ rfl
   refine bodyPost_ret (results102 rfl rfl h2) rfl ?_
   exact ⟨none, 0, rfl, Kd.R_nil _ _ _ _ _, b6_ (b6_ (b6_ HB.out Gg2) Gg2) Gg2⟩
theorem results63 {tmps : Array Value} {w : World} {g2 : Nat} {a b c : Value} {t : TypeId} (h4 : tmps.getD 2 undef = .pointer (some ⟨g2, 0, none⟩))
  (b4 : w.heap[g2]? = some (.cells #[a, b, c] t (0, 0))) : (results Try.f63 tmps).run Try.prog w = .ok (.agg #[a, b, c]) w := by
 have h4' : tmps[2]?.getD undef = .pointer (some ⟨g2, 0, none⟩) := by simpa using h4
 obtain ⟨c0, c1, c2⟩ := cz3_ ⟨b4⟩
 have hu100 := Try.underlying100
 simp [results, Try.f63, go_sem, h4', c0, c1, c2, hu100]
def pickC : Int × Int × List S52 × Bool → Int × Int × List S52 × Bool → Int × Int × List S52 × Bool → Int × Int × List S52
 | (d, k, l, true), _, _ => (d, k, l)
 | (_, _, _, false), (d, k, l, true), _ => (d, k, l)
 | (_, _, _, false), (_, _, _, false), (d, k, l, true) => (d, k, l)
 | (_, _, _, false), (_, _, _, false), (_, _, _, false) => (0, 0, [])
def worker_Choose.f (k : Nat) (a0_0 a0_1 a0_2 a0_3 : Int) (l0_4 : List (S51)) (l0_5 : List (S24)) (l0_6 : List (S41)) (l0_7 : List (S105)) (l0_8 : List (S149)) : Option (Int × Int × (List (S52))) :=
 if l0_7.length ≤ 1000000 ∧ l0_8.length ≤ 1000000 then (headF a0_0 a0_1 a0_2 a0_3 l0_4 l0_5 l0_6 l0_7 l0_8).bind fun h => (fillJs k a0_0 a0_1 a0_2 a0_3 l0_4 l0_5 l0_6 l0_7 l0_8 (jobsL a0_1 false l0_7)).bind fun ts => (growG k a0_0 a0_1 a0_2 a0_3 l0_4 l0_5 l0_6 l0_7 l0_8 l0_8).bind fun g => some (pickC h (fillW (jobsL a0_1 false l0_7) ts) g) else none
set_option maxHeartbeats 8000000 in
set_option maxRecDepth 100000 in
theorem choose_calls (ks : Nat) (a0_0 a0_1 a0_2 a0_3 : Int) (A0_4 : Option Addr) (c0_4 : Nat) (l0_4 : List (S51)) (A0_5 : Option Addr) (c0_5 : Nat) (l0_5 : List (S24)) (A0_6 : Option Addr) (c0_6 : Nat) (l0_6 : List (S41)) (A0_7 : Option Addr) (c0_7 : Nat) (l0_7 : List (S105)) (A0_8 : Option Addr) (c0_8 : Nat) (l0_8 : List (S149)) (ts : List (List S52 × Int)) (d0 k0 : Int) (l0 : List S52) (o0 : Bool) (d1 k1 : Int) (l1 : List S52) (o1 : Bool) (d2 k2 : Int) (l2 : List S52) (o2 : Bool) (d k : Int) (sl : List S52) (w : World) (hr0_4 : Kd.C k51 w A0_4 l0_4.length l0_4) (hc0_4 : l0_4.length ≤ c0_4) (hr0_5 : Kd.C k24 w A0_5 l0_5.length l0_5) (hc0_5 : l0_5.length ≤ c0_5) (hr0_6 : Kd.C k41 w A0_6 l0_6.length l0_6) (hc0_6 : l0_6.length ≤ c0_6) (hr0_7 : Kd.C k105 w A0_7 l0_7.length l0_7) (hc0_7 : l0_7.length ≤ c0_7) (hr0_8 : Kd.C k149 w A0_8 l0_8.length l0_8) (hc0_8 : l0_8.length ≤ c0_8) (hn7 : l0_7.length ≤ 1000000) (hn8 : l0_8.length ≤ 1000000)
  (h0 : headF a0_0 a0_1 a0_2 a0_3 l0_4 l0_5 l0_6 l0_7 l0_8 = some (d0, k0, l0, o0)) (h1 : fillJs ks a0_0 a0_1 a0_2 a0_3 l0_4 l0_5 l0_6 l0_7 l0_8 (jobsL a0_1 false l0_7) = some ts) (h1b : fillW (jobsL a0_1 false l0_7) ts = (d1, k1, l1, o1)) (h2 : growG ks a0_0 a0_1 a0_2 a0_3 l0_4 l0_5 l0_6 l0_7 l0_8 l0_8 = some (d2, k2, l2, o2)) (hR : pickC (d0, k0, l0, o0) (d1, k1, l1, o1) (d2, k2, l2, o2) = (d, k, sl)) :
  Calls Try.prog 63 #[.agg #[.int .i64 a0_0, .int .i64 a0_1, .int .i64 a0_2, .int .i64 a0_3, .slice A0_4 l0_4.length c0_4, .slice A0_5 l0_5.length c0_5, .slice A0_6 l0_6.length c0_6, .slice A0_7 l0_7.length c0_7, .slice A0_8 l0_8.length c0_8]] w fun e w' => ∃ v2_ : Value, e = .returned (.agg #[.int .i64 d, .int .i64 k, v2_]) ∧ Kd.R k52 52 w' w.heap.size (fun _ => True) v2_ sl ∧ Below w.heap.size w w' := by
 have hu86 := Try.underlying86
 have hu100 := Try.underlying100
 have hu145 := Try.underlying145
 have hu146 := Try.underlying146
 have hu39 := Try.underlying39
 have i0 : ∀ (W : World) (x0 x1 x2 : Value), (Instr.index 146 (.agg #[x0, x1, x2]) (.int .i64 0)).run Try.prog W = .ok (.agg #[x0]) W := fun _ _ _ _ => by kernel_rfl
 have i1 : ∀ (W : World) (x0 x1 x2 : Value), (Instr.index 146 (.agg #[x0, x1, x2]) (.int .i64 1)).run Try.prog W = .ok (.agg #[x1]) W := fun _ _ _ _ => by kernel_rfl
 have i2 : ∀ (W : World) (x0 x1 x2 : Value), (Instr.index 146 (.agg #[x0, x1, x2]) (.int .i64 2)).run Try.prog W = .ok (.agg #[x2]) W := fun _ _ _ _ => by kernel_rfl
 have HR0_4 := m_ hr0_4
 have HC0_4 := m_ hc0_4
 clear hr0_4 hc0_4
 have HR0_5 := m_ hr0_5
 have HC0_5 := m_ hc0_5
 clear hr0_5 hc0_5
 have HR0_6 := m_ hr0_6
 have HC0_6 := m_ hc0_6
 clear hr0_6 hc0_6
 have HR0_7 := m_ hr0_7
 have HC0_7 := m_ hc0_7
 clear hr0_7 hc0_7
 have HR0_8 := m_ hr0_8
 have HC0_8 := m_ hc0_8
 clear hr0_8 hc0_8
 have HB := m_ (Below.refl w.heap.size w)
 have HN7 := m_ hn7
 have HN8 := m_ hn8
 have H0 := m_ h0
 have H1 := m_ h1
 have H1b := m_ h1b
 have H2 := m_ h2
 have HRR := m_ hR
 clear hn7 hn8 h0 h1 h1b h2 hR
 go_enter Try.func63, Try.ntmps63
 go_wp2_with (first | ((with_reducible refine a3_ (N := 1) rfl ?_); refine bx 1 #[.int .i64 a0_0, .int .i64 a0_1, .int .i64 a0_2, .int .i64 a0_3, .slice A0_4 l0_4.length c0_4, .slice A0_5 l0_5.length c0_5, .slice A0_6 l0_6.length c0_6, .slice A0_7 l0_7.length c0_7, .slice A0_8 l0_8.length c0_8] 86 ?_; intro g1 hgg1 wg1 hxg1 hbg1; have Gg1 : w.heap.size ≤ g1 := Z6; replace HB := m_ (b0_ HB.out hbg1); have HXg1 := m_ hxg1; clear hgg1 hxg1 hbg1) | ((with_reducible refine a3_ (N := 2) rfl ?_); refine bx 2 #[.int .i64 0, .int .i64 0, .slice none 0 0] 100 ?_; intro g2 hgg2 wg2 hxg2 hbg2; have Ng1_g2 := m_ (show g1 ≠ g2 from by have := c6_ HXg1.out; omega); replace HXg1 := m_ (a1_ HXg1.out hbg2); have Gg2 : w.heap.size ≤ g2 := Z6; replace HB := m_ (b0_ HB.out hbg2); have HXg2 := m_ hxg2; clear hgg2 hxg2 hbg2))
 generalize wg2 = W0 at *
 refine wp_loop_rounds 4 ?_
 rw [rounds_succ]
 go_upto_region 4 with (fail)
 have ha1 := b9_ HXg1.out (.cells #[.func (.func 100) #[] #[]] 145)
 have ha2 := b9_ HXg2.out (.cells #[.func (.func 100) #[] #[]] 145)
 have haN := blk_new W0 (.cells #[.func (.func 100) #[] #[]] 145)
 have haB := b5_ HB.out (.cells #[.func (.func 100) #[] #[]] 145)
 obtain ⟨q0, hq0⟩ : ∃ q, q = W0.heap.size := ⟨_, rfl⟩
 rw [← hq0] at haN ⊢
 clear HXg1 HXg2 HB hq0
 generalize W0.alloc (.cells #[.func (.func 100) #[] #[]] 145) = V0 at *
 have HXg1 := m_ ha1
 have HXg2 := m_ ha2
 have HB := m_ haB
 have eq0 : V0.cell? ⟨q0, 0, none⟩ = some (.func (.func 100) #[] #[]) := (a0_ haN 0).trans rfl
 clear ha1 ha2 haN haB
 obtain ⟨cg1_0, cg1_1, cg1_2, cg1_3, cg1_4, cg1_5, cg1_6, cg1_7, cg1_8⟩ := cz9_ HXg1
 go_upto_region 5 with (first | (go_at_call 100; refine (head_calls a0_0 a0_1 a0_2 a0_3 A0_4 c0_4 l0_4 A0_5 c0_5 l0_5 A0_6 c0_6 l0_6 A0_7 c0_7 l0_7 A0_8 c0_8 l0_8 d0 k0 l0 o0 _ (Kd.C_below HR0_4.out (HB.out)) HC0_4.out (Kd.C_below HR0_5.out (HB.out)) HC0_5.out (Kd.C_below HR0_6.out (HB.out)) HC0_6.out (Kd.C_below HR0_7.out (HB.out)) HC0_7.out (Kd.C_below HR0_8.out (HB.out)) HC0_8.out HN7.out H0.out).mono ?_; rintro e U0 ⟨A0, c0, rfl, hr, hb⟩; have HR0 := m_ hr; have HZ0 := m_ HB.out.size; clear cg1_0 cg1_1 cg1_2 cg1_3 cg1_4 cg1_5 cg1_6 cg1_7 cg1_8; clear eq0; replace HXg1 := m_ (a1_ HXg1.out hb); replace HXg2 := m_ (a1_ HXg2.out hb); replace HB := m_ (b0_ HB.out hb); clear hb hr))
 have ha1 := b9_ HXg1.out (.cells #[.int .i64 d0, .int .i64 k0, .slice A0 l0.length c0] 100)
 have ha2 := b9_ HXg2.out (.cells #[.int .i64 d0, .int .i64 k0, .slice A0 l0.length c0] 100)
 have haN := blk_new U0 (.cells #[.int .i64 d0, .int .i64 k0, .slice A0 l0.length c0] 100)
 have haR := Kd.R_alloc HR0.out (.cells #[.int .i64 d0, .int .i64 k0, .slice A0 l0.length c0] 100)
 have haB := b5_ HB.out (.cells #[.int .i64 d0, .int .i64 k0, .slice A0 l0.length c0] 100)
 have haQ : g2 ≠ U0.heap.size := (by have := c6_ HXg2.out; omega)
 obtain ⟨p0, hp0⟩ : ∃ p, p = U0.heap.size := ⟨_, rfl⟩
 rw [← hp0] at haN haQ ⊢
 clear HXg1 HXg2 HB HR0 hp0
 generalize U0.alloc (.cells #[.int .i64 d0, .int .i64 k0, .slice A0 l0.length c0] 100) = W1 at *
 have HXg1 := m_ ha1
 have HXg2 := m_ ha2
 have HXp := m_ haN
 have HR0 := m_ haR
 have HB := m_ haB
 clear ha1 ha2 haN haR haB
 cases o0 with
 | true =>
  have hh := HRR.out
  simp only [pickC] at hh
  simp only [Prod.mk.injEq] at hh
  obtain ⟨rfl, rfl, rfl⟩ := hh
  clear HRR
  obtain ⟨cp0_0, cp0_1, cp0_2⟩ := cz3_ HXp
  have zg2_0 : W1.frozen? ⟨g2, 0, none⟩ = false := a2_ HXg2.out 0
  have zg2_1 : W1.frozen? ⟨g2, 1, none⟩ = false := a2_ HXg2.out 1
  have zg2_2 : W1.frozen? ⟨g2, 2, none⟩ = false := a2_ HXg2.out 2
  obtain ⟨cg2_0, cg2_1, cg2_2⟩ := cz3_ HXg2
  go_wp2
  have h2 : (((W1.setCell ⟨g2, 0, none⟩ (.int .i64 d0)).setCell ⟨g2, 1, none⟩ (.int .i64 k0)).setCell ⟨g2, 2, none⟩ (.slice A0 l0.length c0)).heap[g2]? = some (.cells #[.int .i64 d0, .int .i64 k0, .slice A0 l0.length c0] 100 (0, 0)) := d4_ (d4_ (d4_ HXg2.out 0 _ rfl) 1 _ rfl) 2 _ rfl
  have r0 := HR0.out
  have r1 := Kd.R_grown2 r0 rfl (grown_set (j := 0) (v := .int .i64 d0) (d6_ _ (some g2))) (fun k hk => by injection hk with hk; subst hk; exact Kd.R_ne r0 HXg2.out (by decide))
  have y1 : (W1.setCell ⟨g2, 0, none⟩ (.int .i64 d0)).heap[g2]? = some (.cells #[.int .i64 d0, .int .i64 0, .slice none 0 0] 100 (0, 0)) := d4_ HXg2.out 0 _ rfl
  have r2 := Kd.R_grown2 r1 rfl (grown_set (j := 1) (v := .int .i64 k0) (d6_ _ (some g2))) (fun k hk => by injection hk with hk; subst hk; exact Kd.R_ne r1 y1 (by decide))
  have y2 := d4_ y1 1 (.int .i64 k0) rfl
  have r3 := Kd.R_grown2 r2 rfl (grown_set (j := 2) (v := .slice A0 l0.length c0) (d6_ _ (some g2))) (fun k hk => by injection hk with hk; subst hk; exact Kd.R_ne r2 y2 (by decide))
  refine bodyPost_ret (results63 rfl h2) rfl ?_
  exact ⟨_, rfl, Kd.R_lower r3 HZ0.out, b6_ (b6_ (b6_ HB.out Gg2) Gg2) Gg2⟩
 | false =>
  clear HXp haQ
  go_wp2
  rw [rounds_succ]
  go_upto_region 4 with (fail)
  have ha1 := b9_ HXg1.out (.cells #[.func (.func 101) #[] #[]] 145)
  have ha2 := b9_ HXg2.out (.cells #[.func (.func 101) #[] #[]] 145)
  have haN := blk_new W1 (.cells #[.func (.func 101) #[] #[]] 145)
  have haB := b5_ HB.out (.cells #[.func (.func 101) #[] #[]] 145)
  obtain ⟨q1, hq1⟩ : ∃ q, q = W1.heap.size := ⟨_, rfl⟩
  rw [← hq1] at haN ⊢
  clear HXg1 HXg2 HB hq1
  generalize W1.alloc (.cells #[.func (.func 101) #[] #[]] 145) = V1 at *
  have HXg1 := m_ ha1
  have HXg2 := m_ ha2
  have HB := m_ haB
  have eq1 : V1.cell? ⟨q1, 0, none⟩ = some (.func (.func 101) #[] #[]) := (a0_ haN 0).trans rfl
  clear ha1 ha2 haN haB
  obtain ⟨cg1_0, cg1_1, cg1_2, cg1_3, cg1_4, cg1_5, cg1_6, cg1_7, cg1_8⟩ := cz9_ HXg1
  go_upto_region 5 with (first | (go_at_call 101; refine (fill_calls ks a0_0 a0_1 a0_2 a0_3 A0_4 c0_4 l0_4 A0_5 c0_5 l0_5 A0_6 c0_6 l0_6 A0_7 c0_7 l0_7 A0_8 c0_8 l0_8 ts d1 k1 l1 o1 _ (Kd.C_below HR0_4.out (HB.out)) HC0_4.out (Kd.C_below HR0_5.out (HB.out)) HC0_5.out (Kd.C_below HR0_6.out (HB.out)) HC0_6.out (Kd.C_below HR0_7.out (HB.out)) HC0_7.out (Kd.C_below HR0_8.out (HB.out)) HC0_8.out HN7.out H1.out H1b.out).mono ?_; rintro e U1 ⟨A1, c1, rfl, hr, hb⟩; have HR1 := m_ hr; have HZ1 := m_ HB.out.size; clear cg1_0 cg1_1 cg1_2 cg1_3 cg1_4 cg1_5 cg1_6 cg1_7 cg1_8; clear eq1; replace HXg1 := m_ (a1_ HXg1.out hb); replace HXg2 := m_ (a1_ HXg2.out hb); replace HB := m_ (b0_ HB.out hb); clear hb hr))
  have ha1 := b9_ HXg1.out (.cells #[.int .i64 d1, .int .i64 k1, .slice A1 l1.length c1] 100)
  have ha2 := b9_ HXg2.out (.cells #[.int .i64 d1, .int .i64 k1, .slice A1 l1.length c1] 100)
  have haN := blk_new U1 (.cells #[.int .i64 d1, .int .i64 k1, .slice A1 l1.length c1] 100)
  have haR := Kd.R_alloc HR1.out (.cells #[.int .i64 d1, .int .i64 k1, .slice A1 l1.length c1] 100)
  have haB := b5_ HB.out (.cells #[.int .i64 d1, .int .i64 k1, .slice A1 l1.length c1] 100)
  have haQ : g2 ≠ U1.heap.size := (by have := c6_ HXg2.out; omega)
  obtain ⟨p1, hp1⟩ : ∃ p, p = U1.heap.size := ⟨_, rfl⟩
  rw [← hp1] at haN haQ ⊢
  clear HXg1 HXg2 HB HR1 hp1
  generalize U1.alloc (.cells #[.int .i64 d1, .int .i64 k1, .slice A1 l1.length c1] 100) = W2 at *
  have HXg1 := m_ ha1
  have HXg2 := m_ ha2
  have HXp := m_ haN
  have HR1 := m_ haR
  have HB := m_ haB
  clear ha1 ha2 haN haR haB
  cases o1 with
  | true =>
   have hh := HRR.out
   simp only [pickC] at hh
   simp only [Prod.mk.injEq] at hh
   obtain ⟨rfl, rfl, rfl⟩ := hh
   clear HRR
   obtain ⟨cp1_0, cp1_1, cp1_2⟩ := cz3_ HXp
   have zg2_0 : W2.frozen? ⟨g2, 0, none⟩ = false := a2_ HXg2.out 0
   have zg2_1 : W2.frozen? ⟨g2, 1, none⟩ = false := a2_ HXg2.out 1
   have zg2_2 : W2.frozen? ⟨g2, 2, none⟩ = false := a2_ HXg2.out 2
   obtain ⟨cg2_0, cg2_1, cg2_2⟩ := cz3_ HXg2
   go_wp2
   have h2 : (((W2.setCell ⟨g2, 0, none⟩ (.int .i64 d1)).setCell ⟨g2, 1, none⟩ (.int .i64 k1)).setCell ⟨g2, 2, none⟩ (.slice A1 l1.length c1)).heap[g2]? = some (.cells #[.int .i64 d1, .int .i64 k1, .slice A1 l1.length c1] 100 (0, 0)) := d4_ (d4_ (d4_ HXg2.out 0 _ rfl) 1 _ rfl) 2 _ rfl
   have r0 := HR1.out
   have r1 := Kd.R_grown2 r0 rfl (grown_set (j := 0) (v := .int .i64 d1) (d6_ _ (some g2))) (fun k hk => by injection hk with hk; subst hk; exact Kd.R_ne r0 HXg2.out (by decide))
   have y1 : (W2.setCell ⟨g2, 0, none⟩ (.int .i64 d1)).heap[g2]? = some (.cells #[.int .i64 d1, .int .i64 0, .slice none 0 0] 100 (0, 0)) := d4_ HXg2.out 0 _ rfl
   have r2 := Kd.R_grown2 r1 rfl (grown_set (j := 1) (v := .int .i64 k1) (d6_ _ (some g2))) (fun k hk => by injection hk with hk; subst hk; exact Kd.R_ne r1 y1 (by decide))
   have y2 := d4_ y1 1 (.int .i64 k1) rfl
   have r3 := Kd.R_grown2 r2 rfl (grown_set (j := 2) (v := .slice A1 l1.length c1) (d6_ _ (some g2))) (fun k hk => by injection hk with hk; subst hk; exact Kd.R_ne r2 y2 (by decide))
   refine bodyPost_ret (results63 rfl h2) rfl ?_
   exact ⟨_, rfl, Kd.R_lower r3 HZ1.out, b6_ (b6_ (b6_ HB.out Gg2) Gg2) Gg2⟩
  | false =>
   clear HXp haQ
   go_wp2
   rw [rounds_succ]
   go_upto_region 4 with (fail)
   have ha1 := b9_ HXg1.out (.cells #[.func (.func 102) #[] #[]] 145)
   have ha2 := b9_ HXg2.out (.cells #[.func (.func 102) #[] #[]] 145)
   have haN := blk_new W2 (.cells #[.func (.func 102) #[] #[]] 145)
   have haB := b5_ HB.out (.cells #[.func (.func 102) #[] #[]] 145)
   obtain ⟨q2, hq2⟩ : ∃ q, q = W2.heap.size := ⟨_, rfl⟩
   rw [← hq2] at haN ⊢
   clear HXg1 HXg2 HB hq2
   generalize W2.alloc (.cells #[.func (.func 102) #[] #[]] 145) = V2 at *
   have HXg1 := m_ ha1
   have HXg2 := m_ ha2
   have HB := m_ haB
   have eq2 : V2.cell? ⟨q2, 0, none⟩ = some (.func (.func 102) #[] #[]) := (a0_ haN 0).trans rfl
   clear ha1 ha2 haN haB
   obtain ⟨cg1_0, cg1_1, cg1_2, cg1_3, cg1_4, cg1_5, cg1_6, cg1_7, cg1_8⟩ := cz9_ HXg1
   go_upto_region 5 with (first | (go_at_call 102; refine (grow_calls ks a0_0 a0_1 a0_2 a0_3 A0_4 c0_4 l0_4 A0_5 c0_5 l0_5 A0_6 c0_6 l0_6 A0_7 c0_7 l0_7 A0_8 c0_8 l0_8 d2 k2 l2 o2 _ (Kd.C_below HR0_4.out (HB.out)) HC0_4.out (Kd.C_below HR0_5.out (HB.out)) HC0_5.out (Kd.C_below HR0_6.out (HB.out)) HC0_6.out (Kd.C_below HR0_7.out (HB.out)) HC0_7.out (Kd.C_below HR0_8.out (HB.out)) HC0_8.out HN8.out H2.out).mono ?_; rintro e U2 ⟨A2, c2, rfl, hr, hb⟩; have HR2 := m_ hr; have HZ2 := m_ HB.out.size; clear cg1_0 cg1_1 cg1_2 cg1_3 cg1_4 cg1_5 cg1_6 cg1_7 cg1_8; clear eq2; replace HXg1 := m_ (a1_ HXg1.out hb); replace HXg2 := m_ (a1_ HXg2.out hb); replace HB := m_ (b0_ HB.out hb); clear hb hr))
   have ha1 := b9_ HXg1.out (.cells #[.int .i64 d2, .int .i64 k2, .slice A2 l2.length c2] 100)
   have ha2 := b9_ HXg2.out (.cells #[.int .i64 d2, .int .i64 k2, .slice A2 l2.length c2] 100)
   have haN := blk_new U2 (.cells #[.int .i64 d2, .int .i64 k2, .slice A2 l2.length c2] 100)
   have haR := Kd.R_alloc HR2.out (.cells #[.int .i64 d2, .int .i64 k2, .slice A2 l2.length c2] 100)
   have haB := b5_ HB.out (.cells #[.int .i64 d2, .int .i64 k2, .slice A2 l2.length c2] 100)
   have haQ : g2 ≠ U2.heap.size := (by have := c6_ HXg2.out; omega)
   obtain ⟨p2, hp2⟩ : ∃ p, p = U2.heap.size := ⟨_, rfl⟩
   rw [← hp2] at haN haQ ⊢
   clear HXg1 HXg2 HB HR2 hp2
   generalize U2.alloc (.cells #[.int .i64 d2, .int .i64 k2, .slice A2 l2.length c2] 100) = W3 at *
   have HXg1 := m_ ha1
   have HXg2 := m_ ha2
   have HXp := m_ haN
   have HR2 := m_ haR
   have HB := m_ haB
   clear ha1 ha2 haN haR haB
   cases o2 with
   | true =>
    have hh := HRR.out
    simp only [pickC] at hh
    simp only [Prod.mk.injEq] at hh
    obtain ⟨rfl, rfl, rfl⟩ := hh
    clear HRR
    obtain ⟨cp2_0, cp2_1, cp2_2⟩ := cz3_ HXp
    have zg2_0 : W3.frozen? ⟨g2, 0, none⟩ = false := a2_ HXg2.out 0
    have zg2_1 : W3.frozen? ⟨g2, 1, none⟩ = false := a2_ HXg2.out 1
    have zg2_2 : W3.frozen? ⟨g2, 2, none⟩ = false := a2_ HXg2.out 2
    obtain ⟨cg2_0, cg2_1, cg2_2⟩ := cz3_ HXg2
    go_wp2
    have h2 : (((W3.setCell ⟨g2, 0, none⟩ (.int .i64 d2)).setCell ⟨g2, 1, none⟩ (.int .i64 k2)).setCell ⟨g2, 2, none⟩ (.slice A2 l2.length c2)).heap[g2]? = some (.cells #[.int .i64 d2, .int .i64 k2, .slice A2 l2.length c2] 100 (0, 0)) := d4_ (d4_ (d4_ HXg2.out 0 _ rfl) 1 _ rfl) 2 _ rfl
    have r0 := HR2.out
    have r1 := Kd.R_grown2 r0 rfl (grown_set (j := 0) (v := .int .i64 d2) (d6_ _ (some g2))) (fun k hk => by injection hk with hk; subst hk; exact Kd.R_ne r0 HXg2.out (by decide))
    have y1 : (W3.setCell ⟨g2, 0, none⟩ (.int .i64 d2)).heap[g2]? = some (.cells #[.int .i64 d2, .int .i64 0, .slice none 0 0] 100 (0, 0)) := d4_ HXg2.out 0 _ rfl
    have r2 := Kd.R_grown2 r1 rfl (grown_set (j := 1) (v := .int .i64 k2) (d6_ _ (some g2))) (fun k hk => by injection hk with hk; subst hk; exact Kd.R_ne r1 y1 (by decide))
    have y2 := d4_ y1 1 (.int .i64 k2) rfl
    have r3 := Kd.R_grown2 r2 rfl (grown_set (j := 2) (v := .slice A2 l2.length c2) (d6_ _ (some g2))) (fun k hk => by injection hk with hk; subst hk; exact Kd.R_ne r2 y2 (by decide))
    refine bodyPost_ret (results63 rfl h2) rfl ?_
    exact ⟨_, rfl, Kd.R_lower r3 HZ2.out, b6_ (b6_ (b6_ HB.out Gg2) Gg2) Gg2⟩
   | false =>
    clear HXp haQ
    go_wp2
    simp only [pickC] at HRR
    rw [rounds_succ]
    have zg2_0 : W3.frozen? ⟨g2, 0, none⟩ = false := a2_ HXg2.out 0
    have zg2_1 : W3.frozen? ⟨g2, 1, none⟩ = false := a2_ HXg2.out 1
    have zg2_2 : W3.frozen? ⟨g2, 2, none⟩ = false := a2_ HXg2.out 2
    obtain ⟨cg2_0, cg2_1, cg2_2⟩ := cz3_ HXg2
    have hh := HRR.out
    simp only [Prod.mk.injEq] at hh
    obtain ⟨rfl, rfl, rfl⟩ := hh
    clear HRR
    go_wp2
    have h2 : (((W3.setCell ⟨g2, 0, none⟩ (.int .i64 0)).setCell ⟨g2, 1, none⟩ (.int .i64 0)).setCell ⟨g2, 2, none⟩ (.slice none 0 0)).heap[g2]? = some (.cells #[.int .i64 0, .int .i64 0, .slice none 0 0] 100 (0, 0)) := d4_ (d4_ (d4_ HXg2.out 0 _ rfl) 1 _ rfl) 2 _ rfl
    refine bodyPost_ret (results63 rfl h2) rfl ?_
    exact ⟨_, rfl, Kd.R_nil _ _ _ _ _, b6_ (b6_ (b6_ HB.out Gg2) Gg2) Gg2⟩
theorem worker_Choose.calls (k : Nat) (a0_0 a0_1 a0_2 a0_3 : Int) (A0_4 : Option Addr) (c0_4 : Nat) (l0_4 : List (S51)) (A0_5 : Option Addr) (c0_5 : Nat) (l0_5 : List (S24)) (A0_6 : Option Addr) (c0_6 : Nat) (l0_6 : List (S41)) (A0_7 : Option Addr) (c0_7 : Nat) (l0_7 : List (S105)) (A0_8 : Option Addr) (c0_8 : Nat) (l0_8 : List (S149)) (r1 r2 : Int) (r3 : List (S52)) (w : World) (hr0_4 : Kd.C k51 w A0_4 l0_4.length l0_4) (hc0_4 : l0_4.length ≤ c0_4) (hr0_5 : Kd.C k24 w A0_5 l0_5.length l0_5) (hc0_5 : l0_5.length ≤ c0_5) (hr0_6 : Kd.C k41 w A0_6 l0_6.length l0_6) (hc0_6 : l0_6.length ≤ c0_6) (hr0_7 : Kd.C k105 w A0_7 l0_7.length l0_7) (hc0_7 : l0_7.length ≤ c0_7) (hr0_8 : Kd.C k149 w A0_8 l0_8.length l0_8) (hc0_8 : l0_8.length ≤ c0_8) (h : worker_Choose.f k a0_0 a0_1 a0_2 a0_3 l0_4 l0_5 l0_6 l0_7 l0_8 = some (r1, r2, r3)) :
  Calls Try.prog 63 #[.agg #[.int .i64 a0_0, .int .i64 a0_1, .int .i64 a0_2, .int .i64 a0_3, .slice A0_4 l0_4.length c0_4, .slice A0_5 l0_5.length c0_5, .slice A0_6 l0_6.length c0_6, .slice A0_7 l0_7.length c0_7, .slice A0_8 l0_8.length c0_8]] w fun e w' => ∃ v2_ : Value, e = .returned (.agg #[.int .i64 r1, .int .i64 r2, v2_]) ∧ Kd.R k52 52 w' w.heap.size (fun _ => True) v2_ r3 ∧ Below w.heap.size w w' := by
 unfold worker_Choose.f at h
 by_cases hb : l0_7.length ≤ 1000000 ∧ l0_8.length ≤ 1000000
 ·rw [if_pos hb] at h
  obtain ⟨⟨d0, k0, l0, o0⟩, h0, h⟩ := Option.bind_eq_some_iff.1 h
  obtain ⟨ts, h1, h⟩ := Option.bind_eq_some_iff.1 h
  obtain ⟨⟨d2, k2, l2, o2⟩, h2, h⟩ := Option.bind_eq_some_iff.1 h
  have h := Option.some.inj h
  obtain ⟨⟨d1, k1, l1, o1⟩, hf⟩ : ∃ f, fillW (jobsL a0_1 false l0_7) ts = f := ⟨_, rfl⟩
  rw [hf] at h
  exact choose_calls k a0_0 a0_1 a0_2 a0_3 A0_4 c0_4 l0_4 A0_5 c0_5 l0_5 A0_6 c0_6 l0_6 A0_7 c0_7 l0_7 A0_8 c0_8 l0_8 ts d0 k0 l0 o0 d1 k1 l1 o1 d2 k2 l2 o2 r1 r2 r3 w hr0_4 hc0_4 hr0_5 hc0_5 hr0_6 hc0_6 hr0_7 hc0_7 hr0_8 hc0_8 hb.1 hb.2 h0 h1 hf h2 h
 ·rw [if_neg hb] at h; cases h
theorem ch15 : worker_Choose.f 20 0 1 9 1 ([(⟨⟨0, 0⟩, 3, 0⟩ : S51)] : List S51) ([(⟨9, 0⟩ : S24)] : List S24) ([(⟨0, 0, 9, false, ([(⟨⟨0, 0⟩, 12, 0⟩ : S52)] : List S52)⟩ : S41)] : List S41) ([(⟨⟨1, 0, 0, 2, ⟨1, 0, 4, 4⟩⟩, 0, 0⟩ : S105), (⟨⟨2, 0, 0, 2, ⟨1, 0, 1, 1⟩⟩, 0, 0⟩ : S105)] : List S105) [] = some (2, 2, [(⟨⟨0, 0⟩, 1, 0⟩ : S52)]) := by kernel_rfl
set_option maxHeartbeats 4000000 in
set_option maxRecDepth 100000 in
theorem one_calls (i n : Int) (w : World) : Calls Try.prog 98 #[.int .i64 i, .int .i64 n] w fun e w' => e = .returned (.agg #[.int .i64 i, .int .i64 0, .int .i64 0, .int .i64 2, .int .i64 1, .int .i64 0, .int .i64 n, .int .i64 n, .int .i64 0, .int .i64 0]) ∧ Below w.heap.size w w' := by
 have hu105 := Try.underlying105
 have hu88 := Try.underlying88
 have hu27 := Try.underlying27
 go_enter Try.func98, Try.ntmps98
 go_wp2
 refine bodyPost_ret (results_cell_row rfl _ _ w.heap.size 105 #[.int .i64 i, .int .i64 0, .int .i64 0, .int .i64 2, .int .i64 1, .int .i64 0, .int .i64 n, .int .i64 n, .int .i64 0, .int .i64 0] (0, 0) _ rfl (blk_new w _) Try.underlying105 rfl rfl) rfl ?_
 exact ⟨rfl, b5_ (Below.refl _ _) _⟩
def T61 : Bool × List (List Nat × List Nat) := (true, [([], []), ([0], [0]), ([1], [1]), ([2], [2]), ([3], [3]), ([4, 3], [3, 4]), ([5, 3], [3, 5]), ([3, 6], [3, 6]), ([7, 3], [7]), ([8], [8]), ([9, 8], [8, 9]), ([10, 8], [8, 10]), ([11, 8], [8, 11]), ([8, 12], [8, 12]), ([13, 8], [13]), ([14], [14]), ([14], [14]), ([16, 14], [14, 16]), ([17, 14], [14, 17]), ([18, 14], [14, 18]), ([19, 14], [14, 19]), ([15, 20, 14, 14], [14, 15, 20]), ([21, 14], [14, 21]), ([14, 22], [14, 22]), ([23, 21, 0, 1, 2, 3, 4, 5, 6, 7, 8, 9, 10, 11, 12, 13, 14, 15, 16, 17, 18, 19, 20, 21, 22, 23], [23])])
def B61 : List Nat := [0, 1, 3, 7, 15, 31, 63, 127, 255, 511, 1023, 2047, 4095, 8191, 16383, 32767, 32767, 98303, 229375, 491519, 1015807, 2097151, 4194303, 8388607, 16777215]
theorem tab61 : rtab .any (opsOf Try.f61 4) = T61 := by kernel_rfl
theorem bits61 : waitsOk T61.2 B61 = true := by kernel_rfl
def ensemblelaw15_awake.f : Option (Bool) := some true
set_option maxHeartbeats 8000000 in
set_option maxRecDepth 100000 in
theorem ensemblelaw15_awake.calls (r : Bool) (w : World) (h : ensemblelaw15_awake.f = some r) : Calls Try.prog 61 #[] w fun e w' => e = .returned (.bool r) ∧ Below w.heap.size w w' := by
 obtain rfl : true = r := Option.some.inj h
 have hu86 := Try.underlying86
 have hu51 := Try.underlying51
 have hu24 := Try.underlying24
 have hu41 := Try.underlying41
 have hu52 := Try.underlying52
 have hu100 := Try.underlying100
 have hu105 := Try.underlying105
 have hu88 := Try.underlying88
 have HB := m_ (Below.refl w.heap.size w)
 clear h
 go_enter Try.func61, Try.ntmps61
 go_upto_region 3 with (first | ((with_reducible refine a3_ (N := 5) rfl ?_); refine Kd.R_lit k51 _ 51 ?hg (N := 5) ?hd (xs := ([(⟨⟨0, 0⟩, 3, 0⟩ : S51)] : List S51)) (inner := [.int .i64 0, .int .i64 0, .int .u64 3, .int .i64 0]) (ok := fun _ => True) (okp := fun _ => True) ?hr ?hpl5 (fun _ _ => trivial) trivial (Below.refl _ _) (Nat.le_refl _) (by simp) ?_; (case hd => rfl); (case hg => rfl); (case hr => first | (go_simp; done) | (go_simp; rfl)); (case hpl5 => exact (Reps.c4 (show Kd.M k51 _ _ _ (⟨⟨0, 0⟩, 3, 0⟩ : S51) [.int .i64 0, .int .i64 0, .int .u64 3, .int .i64 0] from (k51_mkM _ _ _ (⟨⟨0, 0⟩, 3, 0⟩ : S51))) (Reps.none _ _))); intro v w5 ho hb hg_ hnew_; clear hg_ hnew_; obtain ⟨A51, c51, hv⟩ := Kd.R_slice ho; subst hv; replace HB := m_ (b0_ HB.out hb); have HC51 := m_ (Kd.R_reads' ho).2.2; have HP51 := m_ (Kd.R_reads' ho).2.1; clear ho hb) | ((with_reducible refine a3_ (N := 7) rfl ?_); refine Kd.R_lit k24 _ 24 ?hg (N := 7) ?hd (xs := ([(⟨9, 0⟩ : S24)] : List S24)) (inner := [.int .i64 9, .int .i64 0]) (ok := fun _ => True) (okp := fun _ => True) ?hr ?hpl7 (fun _ _ => trivial) trivial (Below.refl _ _) (Nat.le_refl _) (by simp) ?_; (case hd => rfl); (case hg => rfl); (case hr => first | (go_simp; done) | (go_simp; rfl)); (case hpl7 => exact (Reps.c2 (show Kd.M k24 _ _ _ (⟨9, 0⟩ : S24) [.int .i64 9, .int .i64 0] from (k24_mkM _ _ _ (⟨9, 0⟩ : S24))) (Reps.none _ _))); intro v w7 ho hb hg_ hnew_; clear hg_ hnew_; obtain ⟨A24, c24, hv⟩ := Kd.R_slice ho; subst hv; replace HC51 := m_ (Kd.C_below HC51.out hb); replace HB := m_ (b0_ HB.out hb); have HC24 := m_ (Kd.R_reads' ho).2.2; have HP24 := m_ (Kd.R_reads' ho).2.1; clear ho hb) | (go_at_call 98; refine (one_calls _ _ _).mono ?_; rintro e w9 ⟨rfl, hb⟩; replace HC51 := m_ (Kd.C_below HC51.out hb); replace HC24 := m_ (Kd.C_below HC24.out hb); replace HB := m_ (b0_ HB.out hb); clear hb) | ((with_reducible refine a3_ (N := 12) rfl ?_); refine Kd.R_lit k105 _ 105 ?hg (N := 12) ?hd (xs := ([(⟨⟨1, 0, 0, 2, ⟨1, 0, 4, 4⟩⟩, 0, 0⟩ : S105), (⟨⟨2, 0, 0, 2, ⟨1, 0, 1, 1⟩⟩, 0, 0⟩ : S105)] : List S105)) (inner := [.int .i64 1, .int .i64 0, .int .i64 0, .int .i64 2, .int .i64 1, .int .i64 0, .int .i64 4, .int .i64 4, .int .i64 0, .int .i64 0, .int .i64 2, .int .i64 0, .int .i64 0, .int .i64 2, .int .i64 1, .int .i64 0, .int .i64 1, .int .i64 1, .int .i64 0, .int .i64 0]) (ok := fun _ => True) (okp := fun _ => True) ?hr ?hpl12 (fun _ _ => trivial) trivial (Below.refl _ _) (Nat.le_refl _) (by simp) ?_; (case hd => rfl); (case hg => rfl); (case hr => first | (go_simp; done) | (go_simp; rfl)); (case hpl12 => exact (Reps.c10 (show Kd.M k105 _ _ _ (⟨⟨1, 0, 0, 2, ⟨1, 0, 4, 4⟩⟩, 0, 0⟩ : S105) [.int .i64 1, .int .i64 0, .int .i64 0, .int .i64 2, .int .i64 1, .int .i64 0, .int .i64 4, .int .i64 4, .int .i64 0, .int .i64 0] from (k105_mkM _ _ _ (⟨⟨1, 0, 0, 2, ⟨1, 0, 4, 4⟩⟩, 0, 0⟩ : S105))) (Reps.c10 (show Kd.M k105 _ _ _ (⟨⟨2, 0, 0, 2, ⟨1, 0, 1, 1⟩⟩, 0, 0⟩ : S105) [.int .i64 2, .int .i64 0, .int .i64 0, .int .i64 2, .int .i64 1, .int .i64 0, .int .i64 1, .int .i64 1, .int .i64 0, .int .i64 0] from (k105_mkM _ _ _ (⟨⟨2, 0, 0, 2, ⟨1, 0, 1, 1⟩⟩, 0, 0⟩ : S105))) (Reps.none _ _)))); intro v w12 ho hb hg_ hnew_; clear hg_ hnew_; obtain ⟨A105, c105, hv⟩ := Kd.R_slice ho; subst hv; replace HC51 := m_ (Kd.C_below HC51.out hb); replace HC24 := m_ (Kd.C_below HC24.out hb); replace HB := m_ (b0_ HB.out hb); have HC105 := m_ (Kd.R_reads' ho).2.2; have HP105 := m_ (Kd.R_reads' ho).2.1; clear ho hb) | ((with_reducible refine a3_ (N := 14) rfl ?_); refine Kd.R_lit k52 _ 52 ?hg (N := 14) ?hd (xs := ([(⟨⟨0, 0⟩, 12, 0⟩ : S52)] : List S52)) (inner := [.int .i64 0, .int .i64 0, .int .u64 12, .int .i64 0]) (ok := fun _ => True) (okp := fun _ => True) ?hr ?hpl14 (fun _ _ => trivial) trivial (Below.refl _ _) (Nat.le_refl _) (by simp) ?_; (case hd => rfl); (case hg => rfl); (case hr => first | (go_simp; done) | (go_simp; rfl)); (case hpl14 => exact (Reps.c4 (show Kd.M k52 _ _ _ (⟨⟨0, 0⟩, 12, 0⟩ : S52) [.int .i64 0, .int .i64 0, .int .u64 12, .int .i64 0] from (k52_mkM _ _ _ (⟨⟨0, 0⟩, 12, 0⟩ : S52))) (Reps.none _ _))); intro v w14 ho hb hg_ hnew_; clear hg_ hnew_; obtain ⟨A52, c52, hv⟩ := Kd.R_slice ho; subst hv; replace HC51 := m_ (Kd.C_below HC51.out hb); replace HC24 := m_ (Kd.C_below HC24.out hb); replace HC105 := m_ (Kd.C_below HC105.out hb); replace HB := m_ (b0_ HB.out hb); have HC52 := m_ (Kd.R_reads' ho).2.2; have HP52 := m_ (Kd.R_reads' ho).2.1; clear ho hb) | ((with_reducible refine a3_ (N := 16) rfl ?_); refine Kd.N_lit k41 _ 41 ?hg (N' := 16) ?hd (xs := ([(⟨0, 0, 9, false, ([(⟨⟨0, 0⟩, 12, 0⟩ : S52)] : List S52)⟩ : S41)] : List S41)) (inner := [.int .i64 0, .int .i64 0, .int .i64 9, .bool false, .slice A52 1 c52]) (ok := fun _ => True) (okp := fun _ => True) ?hr ?hpl16 (fun _ _ => trivial) trivial (Below.refl _ _) (Nat.le_refl _) (by simp) ?_; (case hd => rfl); (case hg => rfl); (case hr => first | (go_simp; done) | (go_simp; rfl)); (case hpl16 => exact (Reps.c5 (show Kd.FK k41 _ _ (⟨0, 0, 9, false, ([(⟨⟨0, 0⟩, 12, 0⟩ : S52)] : List S52)⟩ : S41) [.int .i64 0, .int .i64 0, .int .i64 9, .bool false, .slice A52 1 c52] from (k41_mkF _ _ (⟨0, 0, 9, false, ([(⟨⟨0, 0⟩, 12, 0⟩ : S52)] : List S52)⟩ : S41) HP52.out (Kd.F_mono (Kd.C_F k52_heap HC52.out) (fun _ _ => trivial)))) (Reps.none _ _))); intro v w16 ho hb hg_ hnew_; clear hg_ hnew_; obtain ⟨A41, c41, hv⟩ := Kd.N_slice ho; subst hv; replace HC51 := m_ (Kd.C_below HC51.out hb); replace HC24 := m_ (Kd.C_below HC24.out hb); replace HC105 := m_ (Kd.C_below HC105.out hb); replace HC52 := m_ (Kd.C_below HC52.out hb); replace HB := m_ (b0_ HB.out hb); have HC41 := m_ (Kd.N_reads' ho).2.2; have HP41 := m_ (Kd.N_reads' ho).2.1; clear ho hb))
 have haN := blk_new w16 (.cells #[.int .i64 0, .int .i64 1, .int .i64 9, .int .i64 1, .slice A51 1 c51, .slice A24 1 c24, .slice A41 1 c41, .slice A105 2 c105, .slice none 0 0] 86)
 have haB := b5_ HB.out (.cells #[.int .i64 0, .int .i64 1, .int .i64 9, .int .i64 1, .slice A51 1 c51, .slice A24 1 c24, .slice A41 1 c41, .slice A105 2 c105, .slice none 0 0] 86)
 replace HC51 := m_ (Kd.C_alloc HC51.out (.cells #[.int .i64 0, .int .i64 1, .int .i64 9, .int .i64 1, .slice A51 1 c51, .slice A24 1 c24, .slice A41 1 c41, .slice A105 2 c105, .slice none 0 0] 86))
 replace HC24 := m_ (Kd.C_alloc HC24.out (.cells #[.int .i64 0, .int .i64 1, .int .i64 9, .int .i64 1, .slice A51 1 c51, .slice A24 1 c24, .slice A41 1 c41, .slice A105 2 c105, .slice none 0 0] 86))
 replace HC105 := m_ (Kd.C_alloc HC105.out (.cells #[.int .i64 0, .int .i64 1, .int .i64 9, .int .i64 1, .slice A51 1 c51, .slice A24 1 c24, .slice A41 1 c41, .slice A105 2 c105, .slice none 0 0] 86))
 replace HC41 := m_ (Kd.C_alloc HC41.out (.cells #[.int .i64 0, .int .i64 1, .int .i64 9, .int .i64 1, .slice A51 1 c51, .slice A24 1 c24, .slice A41 1 c41, .slice A105 2 c105, .slice none 0 0] 86))
 obtain ⟨g2, hg2⟩ : ∃ g, g = w16.heap.size := ⟨_, rfl⟩
 rw [← hg2] at haN ⊢
 clear HB hg2 HC52 HP52
 generalize w16.alloc (.cells #[.int .i64 0, .int .i64 1, .int .i64 9, .int .i64 1, .slice A51 1 c51, .slice A24 1 c24, .slice A41 1 c41, .slice A105 2 c105, .slice none 0 0] 86) = wA at *
 have HXg2 := m_ haN
 have HB := m_ haB
 clear haN haB
 obtain ⟨cg2_0, cg2_1, cg2_2, cg2_3, cg2_4, cg2_5, cg2_6, cg2_7, cg2_8⟩ := cz9_ HXg2
 go_upto_region 4 with (first | (go_at_call 63; refine (worker_Choose.calls 20 0 1 9 1 _ _ ([(⟨⟨0, 0⟩, 3, 0⟩ : S51)] : List S51) _ _ ([(⟨9, 0⟩ : S24)] : List S24) _ _ ([(⟨0, 0, 9, false, ([(⟨⟨0, 0⟩, 12, 0⟩ : S52)] : List S52)⟩ : S41)] : List S41) _ _ ([(⟨⟨1, 0, 0, 2, ⟨1, 0, 4, 4⟩⟩, 0, 0⟩ : S105), (⟨⟨2, 0, 0, 2, ⟨1, 0, 1, 1⟩⟩, 0, 0⟩ : S105)] : List S105) none 0 [] 2 2 [(⟨⟨0, 0⟩, 1, 0⟩ : S52)] _ HC51.out HP51.out HC24.out HP24.out HC41.out HP41.out HC105.out HP105.out (⟨rfl, by simp, fun h => absurd h (by simp)⟩ : Kd.C k149 _ none 0 ([] : List S149)) (Nat.le_refl _) ch15).mono ?_; rintro e w19 ⟨vc, rfl, hrc, hb⟩; obtain ⟨Ac, cc, hvc⟩ := Kd.R_slice hrc; subst hvc; clear cg2_0 cg2_1 cg2_2 cg2_3 cg2_4 cg2_5 cg2_6 cg2_7 cg2_8; replace HXg2 := m_ (a1_ HXg2.out hb); replace HC51 := m_ (Kd.C_below HC51.out hb); replace HC24 := m_ (Kd.C_below HC24.out hb); replace HC105 := m_ (Kd.C_below HC105.out hb); replace HC41 := m_ (Kd.C_below HC41.out hb); replace HB := m_ (b0_ HB.out hb); clear hb hrc))
 have haN := blk_new w19 (.cells #[.int .i64 2, .int .i64 2, .slice Ac 1 cc] 100)
 have ha2 := b9_ HXg2.out (.cells #[.int .i64 2, .int .i64 2, .slice Ac 1 cc] 100)
 have haB := b5_ HB.out (.cells #[.int .i64 2, .int .i64 2, .slice Ac 1 cc] 100)
 replace HC51 := m_ (Kd.C_alloc HC51.out (.cells #[.int .i64 2, .int .i64 2, .slice Ac 1 cc] 100))
 replace HC24 := m_ (Kd.C_alloc HC24.out (.cells #[.int .i64 2, .int .i64 2, .slice Ac 1 cc] 100))
 replace HC105 := m_ (Kd.C_alloc HC105.out (.cells #[.int .i64 2, .int .i64 2, .slice Ac 1 cc] 100))
 replace HC41 := m_ (Kd.C_alloc HC41.out (.cells #[.int .i64 2, .int .i64 2, .slice Ac 1 cc] 100))
 obtain ⟨g3, hg3⟩ : ∃ g, g = w19.heap.size := ⟨_, rfl⟩
 rw [← hg3] at haN ⊢
 clear HB hg3 HXg2
 generalize w19.alloc (.cells #[.int .i64 2, .int .i64 2, .slice Ac 1 cc] 100) = wB at *
 have HXg3 := m_ haN
 have HXg2 := m_ ha2
 have HB := m_ haB
 clear haN ha2 haB
 obtain ⟨ad, hea, y0, y1, y2, y3, y4, y5, y6, y7, y8, y9⟩ := at_T105 HC105.out 0 (by decide) (by decide)
 subst hea
 have hfol : Try.prog.follows Departure.mixedOrders = true := by kernel_rfl
 have HT_ := m_ tab61
 have HW_ := m_ bits61
 replace y0 : wB.cell? ad = some (.int .i64 1) := y0
 replace y1 : wB.cell? ⟨ad.block, ad.off + 1, none⟩ = some (.int .i64 0) := y1
 replace y2 : wB.cell? ⟨ad.block, ad.off + 2, none⟩ = some (.int .i64 0) := y2
 replace y3 : wB.cell? ⟨ad.block, ad.off + 3, none⟩ = some (.int .i64 2) := y3
 replace y4 : wB.cell? ⟨ad.block, ad.off + 4, none⟩ = some (.int .i64 1) := y4
 replace y5 : wB.cell? ⟨ad.block, ad.off + 5, none⟩ = some (.int .i64 0) := y5
 replace y6 : wB.cell? ⟨ad.block, ad.off + 6, none⟩ = some (.int .i64 4) := y6
 replace y7 : wB.cell? ⟨ad.block, ad.off + 7, none⟩ = some (.int .i64 4) := y7
 clear y8 y9
 refine start_ (n := 25) (S := fun w' => w'.cell? ⟨g2, 0, none⟩ = some (.int .i64 0) ∧ w'.cell? ⟨g2, 1, none⟩ = some (.int .i64 1) ∧ w'.cell? ⟨g2, 2, none⟩ = some (.int .i64 9) ∧ w'.cell? ⟨g2, 3, none⟩ = some (.int .i64 1) ∧ w'.cell? ⟨g2, 4, none⟩ = some (.slice A51 1 c51) ∧ w'.cell? ⟨g2, 5, none⟩ = some (.slice A24 1 c24) ∧ w'.cell? ⟨g2, 6, none⟩ = some (.slice A41 1 c41) ∧ w'.cell? ⟨g2, 7, none⟩ = some (.slice (some ad) 2 c105) ∧ w'.cell? ⟨g2, 8, none⟩ = some (.slice none 0 0) ∧ w'.cell? ⟨g3, 0, none⟩ = some (.int .i64 2) ∧ w'.cell? ⟨g3, 1, none⟩ = some (.int .i64 2) ∧ w'.cell? ⟨g3, 2, none⟩ = some (.slice Ac 1 cc) ∧ w'.cell? (ad) = some (.int .i64 1) ∧ w'.cell? (⟨ad.block, ad.off + 1, none⟩) = some (.int .i64 0) ∧ w'.cell? (⟨ad.block, ad.off + 2, none⟩) = some (.int .i64 0) ∧ w'.cell? (⟨ad.block, ad.off + 3, none⟩) = some (.int .i64 2) ∧ w'.cell? (⟨ad.block, ad.off + 4, none⟩) = some (.int .i64 1) ∧ w'.cell? (⟨ad.block, ad.off + 5, none⟩) = some (.int .i64 0) ∧ w'.cell? (⟨ad.block, ad.off + 6, none⟩) = some (.int .i64 4) ∧ w'.cell? (⟨ad.block, ad.off + 7, none⟩) = some (.int .i64 4)) (ds := []) (bm 25 0) (by kernel_rfl) rfl rfl ⟨(a0_ HXg2.out 0).trans rfl, (a0_ HXg2.out 1).trans rfl, (a0_ HXg2.out 2).trans rfl, (a0_ HXg2.out 3).trans rfl, (a0_ HXg2.out 4).trans rfl, (a0_ HXg2.out 5).trans rfl, (a0_ HXg2.out 6).trans rfl, (a0_ HXg2.out 7).trans rfl, (a0_ HXg2.out 8).trans rfl, (a0_ HXg3.out 0).trans rfl, (a0_ HXg3.out 1).trans rfl, (a0_ HXg3.out 2).trans rfl, y0, y1, y2, y3, y4, y5, y6, y7⟩ (fun hHeld => ?_)
 refine pu 0 (some 20) (bm 25 1) ?_
 refine tk 1 (some 21) (bm 25 3) ?_
 refine pu 2 (some 22) (bm 25 7) ?_
 refine pu 3 (some 23) (bm 25 15) ?_
 refine pu 4 (some 24) (bm 25 31) ?_
 refine tk 5 (some 25) (bm 25 63) ?_
 refine pu 6 (some 26) (bm 25 127) ?_
 refine pu 7 (some 27) (bm 25 255) ?_
 refine pu 8 (some 28) (bm 25 511) ?_
 refine pu 9 (some 29) (bm 25 1023) ?_
 refine tk 10 (some 30) (bm 25 2047) ?_
 refine pu 11 (some 31) (bm 25 4095) ?_
 refine pu 12 (some 32) (bm 25 8191) ?_
 refine pu 13 (some 33) (bm 25 16383) ?_
 refine pu 14 (some 34) (bm 25 32767) ?_
 refine tk 15 (some 35) (bm 25 65535) ?_
 refine pu 16 (some 36) (bm 25 131071) ?_
 refine tk 17 (some 37) (bm 25 262143) ?_
 refine pu 18 (some 38) (bm 25 524287) ?_
 refine pu 19 (some 39) (bm 25 1048575) ?_
 refine tk 20 (some 40) (bm 25 2097151) ?_
 refine one_ (i := 21) (N := some 41) (bm 25 4194303) rfl rfl (one_of HT_.out (by kernel_rfl)) (by decide) (fun K hK => ?_)
 refine goes_ Try.func99 (by kernel_rfl) rfl #[.agg #[.int .i64 0, .int .i64 1, .int .i64 9, .int .i64 1, .slice A51 1 c51, .slice A24 1 c24, .slice A41 1 c41, .slice (some ad) 2 c105, .slice none 0 0], .agg #[.int .i64 1, .int .i64 0, .int .i64 0, .int .i64 2, .int .i64 1, .int .i64 0, .int .i64 4, .int .i64 4]] (by rfl) rfl rfl Z11 ?_
 refine (latest_calls 0 1 9 1 _ _ ([(⟨⟨0, 0⟩, 3, 0⟩ : S51)] : List S51) _ _ ([(⟨9, 0⟩ : S24)] : List S24) _ _ ([(⟨0, 0, 9, false, ([(⟨⟨0, 0⟩, 12, 0⟩ : S52)] : List S52)⟩ : S41)] : List S41) _ _ ([(⟨⟨1, 0, 0, 2, ⟨1, 0, 4, 4⟩⟩, 0, 0⟩ : S105), (⟨⟨2, 0, 0, 2, ⟨1, 0, 1, 1⟩⟩, 0, 0⟩ : S105)] : List S105) none 0 [] 1 0 0 2 1 0 4 4 _).mono ?_
 rintro e wq ⟨rfl, hb⟩
 refine ⟨_, rfl, ?_⟩
 have HB4 := m_ (b0_ (b8_ HB.out) hb)
 rw [show wrap64 (wrap64 (0 + 1) + 2) = 3 from by kernel_rfl]
 replace HXg2 := m_ (a1_ (show wB.drew.heap[g2]? = some (.cells #[.int .i64 0, .int .i64 1, .int .i64 9, .int .i64 1, .slice A51 1 c51, .slice A24 1 c24, .slice A41 1 c41, .slice (some ad) 2 c105, .slice none 0 0] 86 (0, 0)) from HXg2.out) hb)
 replace HXg3 := m_ (a1_ (show wB.drew.heap[g3]? = some (.cells #[.int .i64 2, .int .i64 2, .slice Ac 1 cc] 100 (0, 0)) from HXg3.out) hb)
 refine hK.out _ _ ⟨(a0_ HXg2.out 0).trans rfl, (a0_ HXg2.out 1).trans rfl, (a0_ HXg2.out 2).trans rfl, (a0_ HXg2.out 3).trans rfl, (a0_ HXg2.out 4).trans rfl, (a0_ HXg2.out 5).trans rfl, (a0_ HXg2.out 6).trans rfl, (a0_ HXg2.out 7).trans rfl, (a0_ HXg2.out 8).trans rfl, (a0_ HXg3.out 0).trans rfl, (a0_ HXg3.out 1).trans rfl, (a0_ HXg3.out 2).trans rfl, (e1_ hb y0), (e1_ hb y1), (e1_ hb y2), (e1_ hb y3), (e1_ hb y4), (e1_ hb y5), (e1_ hb y6), (e1_ hb y7)⟩ (fun hHeld => ?_)
 clear hK K
 refine norm_ (a' := ?_) ?_ ?_
 rotate_left
 ·show Act.put _ (some 41) _ = _
  simp only [Act.put, List.setIfInBounds_toArray, List.set_cons_zero, List.set_cons_succ, i64_w, i32_w]
  rfl
 refine pu 22 (some 42) (bm 25 8388607) ?_
 refine pu 23 (some 43) (bm 25 16777215) ?_
 refine pu 24 (some 0) (bm 25 33554431) ?_
 refine done_ (done_of HT_.out (by kernel_rfl)) ?_
 go_wp2
 go_ret
 exact ⟨rfl, HB4.out⟩
end Go.Proofs.Ytckhjehibjdjdaa.P
namespace Go.Proofs.Ytckhjehibjdjdaa.P
open Go.RowKit Go.Proofs.YtckhjehibjdjdaaW.PrintWords Go.Proofs.YtckhjehibjdjdaaW.PrintLast Go.Proofs.YtckhjehibjdjdaaW.PrintMore
theorem set51 {W : World} {base n cap g : Nat} {i : Int} {xs : List S51} (h : Kd.R k51 51 W base (fun _ => True) (.slice (some ⟨g, 0, none⟩) n cap) xs) (h0 : 0 ≤ i) (h1 : i < n) :
  (W.cell? ⟨g, i.toNat * 4, none⟩ = some (.int .i64 (a4_ xs i).f0.f0) ∧ W.cell? ⟨g, i.toNat * 4 + 1, none⟩ = some (.int .i64 (a4_ xs i).f0.f1) ∧ W.cell? ⟨g, i.toNat * 4 + 2, none⟩ = some (.int .u64 (a4_ xs i).f1) ∧ W.cell? ⟨g, i.toNat * 4 + 3, none⟩ = some (.int .i64 (a4_ xs i).f2)) ∧ (W.frozen? ⟨g, i.toNat * 4 + 2, none⟩ = false ∧ W.frozen? ⟨g, i.toNat * 4 + 3, none⟩ = false) ∧
  (∀ v, Kd.R k51 51 (W.setCell ⟨g, i.toNat * 4 + 2, none⟩ (.int .u64 v)) base (fun _ => True) (.slice (some ⟨g, 0, none⟩) n cap) (xs.set i.toNat ⟨⟨(a4_ xs i).f0.f0, (a4_ xs i).f0.f1⟩, v, (a4_ xs i).f2⟩)) ∧
  (∀ v, Kd.R k51 51 (W.setCell ⟨g, i.toNat * 4 + 3, none⟩ (.int .i64 v)) base (fun _ => True) (.slice (some ⟨g, 0, none⟩) n cap) (xs.set i.toNat ⟨⟨(a4_ xs i).f0.f0, (a4_ xs i).f0.f1⟩, (a4_ xs i).f1, v⟩)) := by
 obtain ⟨c, hcl, hM, hcc, hfr⟩ := Kd.R_elem h z51 i h0 h1
 obtain rfl := k51_openM hM
 have hsz : k51.sz = 4 := rfl
 rw [hsz] at hcc hfr
 refine ⟨⟨by have := hcc 0 _ rfl; rwa [Nat.add_zero] at this, hcc 1 _ rfl, hcc 2 _ rfl, hcc 3 _ rfl⟩, ⟨hfr 2, hfr 3⟩, fun v => ?_, fun v => ?_⟩
 ·have := (Kd.R_seg h i h0 h1 (seg := [.int .u64 v]) (j := 2) hcl (by rw [hsz]; exact hcc) (show 3 ≤ 4 from by decide) (x' := ⟨⟨(a4_ xs i).f0.f0, (a4_ xs i).f0.f1⟩, v, (a4_ xs i).f2⟩) (k51_mkM _ _ _ _) (fun _ hk => hk)).1
  rw [hsz] at this
  exact this
 ·have := (Kd.R_seg h i h0 h1 (seg := [.int .i64 v]) (j := 3) hcl (by rw [hsz]; exact hcc) (show 4 ≤ 4 from by decide) (x' := ⟨⟨(a4_ xs i).f0.f0, (a4_ xs i).f0.f1⟩, (a4_ xs i).f1, v⟩) (k51_mkM _ _ _ _) (fun _ hk => hk)).1
  rw [hsz] at this
  exact this
end Go.Proofs.Ytckhjehibjdjdaa.P
namespace Go.Proofs.Ytckhjehibjdjdaa.P
open Go.RowKit Go.Proofs.YtckhjehibjdjdaaW.PrintWords Go.Proofs.YtckhjehibjdjdaaW.PrintLast Go.Proofs.YtckhjehibjdjdaaW.PrintMore
attribute [local go_sem] max2_int min2_int max_two min_two max_three min_three max_four min_four
theorem eqA48 (d : Nat) (w : World) (x0 y0 x1 y1 : Int) :
  (Op.equalIn (d + 2) 48 (.agg #[.int .i64 x0, .int .i64 x1]) (.agg #[.int .i64 y0, .int .i64 y1])).run Try.prog w = .ok (x0 == y0 && (x1 == y1)) w := by
 refine eqA_of Try.underlying48 (by kernel_rfl) ?_
 refine eqf_cons (by rfl) (by go_simp; rfl) (by go_simp; rfl) (by go_simp) ?_
 exact eqf_last (by rfl) (by go_simp; rfl) (by go_simp; rfl) (by go_simp)
end Go.Proofs.Ytckhjehibjdjdaa.P
namespace Go.Proofs.Ytckhjehibjdjdaa.P
open Go.RowKit Go.Proofs.YtckhjehibjdjdaaW.PrintWords Go.Proofs.YtckhjehibjdjdaaW.PrintLast Go.Proofs.YtckhjehibjdjdaaW.PrintMore
attribute [local go_sem] max2_int min2_int max_two min_two max_three min_three max_four min_four
attribute [local go_sem high] eqA48
def ensembleref05_find.l0 : Nat → List (S51) → Int → Int → Int → Option (Int)
 | 0, _, _, _, _ => none
 | k + 1, x0, x5, x119000, x119001 => if x5 < (x0.length : Int) then (if 0 ≤ x5 then (if (((a4_ x0 x5).f0.f0) == x119000 && (((a4_ x0 x5).f0.f1) == x119001)) = true then (some x5) else (ensembleref05_find.l0 k x0 (wrap64 (x5 + 1)) x119000 x119001)) else (none)) else (some (-1))
def ensembleref05_find.f (k : Nat) (l0 : List (S51)) (a1_0 a1_1 : Int) : Option (Int) := ensembleref05_find.l0 k l0 0 a1_0 a1_1
set_option maxHeartbeats 8000000 in
set_option maxRecDepth 100000 in
theorem ensembleref05_find.calls (k : Nat) (A0 : Option Addr) (c0 : Nat) (l0 : List (S51)) (a1_0 a1_1 r : Int) (w : World) (hr0 : Kd.C k51 w A0 l0.length l0) (hc0 : l0.length ≤ c0) (h : ensembleref05_find.f k l0 a1_0 a1_1 = some r) :
  Calls Try.prog 79 #[.slice A0 l0.length c0, .agg #[.int .i64 a1_0, .int .i64 a1_1]] w fun e w' => e = .returned (.int .i64 r) ∧ Below w.heap.size w w' := by
 have hu48 := Try.underlying48
 have HR0 := m_ hr0
 have HC0 := m_ hc0
 clear hr0 hc0
 have HB := m_ (Below.refl w.heap.size w)
 have H := h
 unfold ensembleref05_find.f at H
 clear h
 have H' := m_ H
 clear H
 go_enter Try.func79, Try.ntmps79
 go_wp2_with (first | ((with_reducible refine a3_ (N := 3) rfl ?_); refine bx 3 #[.int .i64 a1_0, .int .i64 a1_1] 48 ?_; intro gb118 hg w3 hbox hb; have BK118 := m_ (hbox); have GW118 := ge_ hg; have GE118 := ge_ hg; replace HB := hs_ hb; clear hb hbox hg))
 repeat (go_quiet (first | ((with_reducible refine a3_ (N := 3) rfl ?_); refine bx 3 #[.int .i64 a1_0, .int .i64 a1_1] 48 ?_; intro gb118 hg w3 hbox hb; have BK118 := m_ (hbox); have GW118 := ge_ hg; have GE118 := ge_ hg; replace HB := hs_ hb; clear hb hbox hg)); try go_wp2_with (first | ((with_reducible refine a3_ (N := 3) rfl ?_); refine bx 3 #[.int .i64 a1_0, .int .i64 a1_1] 48 ?_; intro gb118 hg w3 hbox hb; have BK118 := m_ (hbox); have GW118 := ge_ hg; have GE118 := ge_ hg; replace HB := hs_ hb; clear hb hbox hg)))
 go_loopg [5] k (fun kq v5 w' => ∃ (x5_1 : Int), v5 = .int .i64 x5_1 ∧ A_ (ensembleref05_find.l0 kq l0 x5_1 a1_0 a1_1 = some r) ∧ A_ (kq ≤ k) ∧ A_ (w'.heap[gb118]? = some (.cells #[.int .i64 a1_0, .int .i64 a1_1] 48 (0, 0))) ∧ A_ (Below w.heap.size w w'))
 case atStart => exact ⟨(0), Z1, H', ⟨Nat.le_refl _⟩, ⟨bo_ BK118⟩, ⟨hb_⟩⟩
 case round =>
  clear H'
  try clear p2
  obtain ⟨x5_1, rfl, HA, HK1, BK118, HB⟩ := hrel
  cases gk with
  | zero => exact absurd HA.out (by simp [ensembleref05_find.l0])
  | succ k1 =>
   have H := HA.out
   clear HA
   simp only [ensembleref05_find.l0] at H
   by_cases c4 : x5_1 < (l0.length : Int)
   ·rw [if_pos c4] at H
    have c4b0 : decide (x5_1 < (l0.length : Int)) = true := decide_eq_true c4
    clear c4
    by_cases c5 : 0 ≤ x5_1
    ·rw [if_pos c5] at H
     have c5b0 : decide (0 ≤ x5_1) = true := decide_eq_true c5
     clear c5
     by_cases c6 : (((a4_ l0 x5_1).f0.f0) == a1_0 && (((a4_ l0 x5_1).f0.f1) == a1_1)) = true
     ·rw [if_pos c6] at H
      have c6b0 : (((a4_ l0 x5_1).f0.f0) == a1_0 && (((a4_ l0 x5_1).f0.f1) == a1_1)) = true := c6
      (try (have c6b1 : decide (((a4_ l0 x5_1).f0.f0) = a1_0 && (((a4_ l0 x5_1).f0.f1) == a1_1)) = true := by simpa using c6))
      (try (have c6b2 : (((a4_ l0 x5_1).f0.f0) == a1_0 && (((a4_ l0 x5_1).f0.f1) == a1_1)) = true := by simpa using c6))
      clear c6
      obtain rfl := Option.some.inj H
      have p119 : 0 ≤ (x5_1 : Int) := of_decide_eq_true Z4
      have q119 : x5_1 < (l0.length : Int) := of_decide_eq_true Z4
      obtain ⟨ad119, e119, hx119_0, hx119_1, hx119_2, hx119_3⟩ := at_T51 (Kd.C_below HR0.out HB.out) x5_1 p119 q119
      cases e119
      replace p119 := eq_true p119
      replace q119 := eq_true q119
      obtain ⟨hcz7_0, hcz7_1, hfz7_0, hfz7_1⟩ := bz2_ BK118
      go_wp2
      repeat (go_quiet (fail); try go_wp2)
      go_ret
      exact ⟨by first | rfl | (simp [b2_, b1_] <;> rfl) | (simp [*, b2_, b1_] <;> rfl), hb_⟩
     ·rw [if_neg c6] at H
      have c6b0 : (((a4_ l0 x5_1).f0.f0) == a1_0 && (((a4_ l0 x5_1).f0.f1) == a1_1)) = false := by simpa using c6
      (try (have c6b1 : decide (((a4_ l0 x5_1).f0.f0) = a1_0 && (((a4_ l0 x5_1).f0.f1) == a1_1)) = false := by simpa using c6))
      (try (have c6b2 : (((a4_ l0 x5_1).f0.f0) == a1_0 && (((a4_ l0 x5_1).f0.f1) == a1_1)) = false := by simpa using c6))
      (try (have c6b3 : ¬ (((a4_ l0 x5_1).f0.f0) = a1_0 && (((a4_ l0 x5_1).f0.f1) == a1_1)) := by simpa using c6))
      clear c6
      have H' := m_ H
      clear H
      have p119 : 0 ≤ (x5_1 : Int) := of_decide_eq_true Z4
      have q119 : x5_1 < (l0.length : Int) := of_decide_eq_true Z4
      obtain ⟨ad119, e119, hx119_0, hx119_1, hx119_2, hx119_3⟩ := at_T51 (Kd.C_below HR0.out HB.out) x5_1 p119 q119
      cases e119
      replace p119 := eq_true p119
      replace q119 := eq_true q119
      obtain ⟨hcz8_0, hcz8_1, hfz8_0, hfz8_1⟩ := bz2_ BK118
      go_wp2
      repeat (go_quiet (fail); try go_wp2)
      go_roundg k1
      case measure => have := HK1.out; omega
      case rel => exact ⟨(wrap64 (x5_1 + 1)), Z1, H', ⟨by have := HK1.out; omega⟩, ⟨bo_ BK118⟩, ⟨hb_⟩⟩
    ·rw [if_neg c5] at H
     exact absurd H (by simp)
   ·rw [if_neg c4] at H
    have c4b0 : decide (x5_1 < (l0.length : Int)) = false := decide_eq_false c4
    clear c4
    obtain rfl := Option.some.inj H
    go_wp2
    repeat (go_quiet (fail); try go_wp2)
    go_ret
    exact ⟨by first | rfl | (simp [b2_, b1_] <;> rfl) | (simp [*, b2_, b1_] <;> rfl), hb_⟩
end Go.Proofs.Ytckhjehibjdjdaa.P
