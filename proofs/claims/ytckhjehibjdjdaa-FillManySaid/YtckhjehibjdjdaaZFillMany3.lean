/- FillMany: part 3 of the walk and of the plain law that it comes to. No condition. -/
import Derived.Test.YtckhjehibjdjdaaZFillMany2
import Derived.ArgAppend
import Derived.Below
import Derived.BigQuiet
import Derived.BigRegion
import Derived.Carry
import Derived.ChangeOld
import Derived.Deep.AppendLies
import Derived.Deep.CutBlock
import Derived.Deep.DeepCutAuto
import Derived.Deep.Draws
import Derived.Deep.LoopGhost
import Derived.Deep.OwnRows
import Derived.Deep.QuietTactic
import Derived.Deep.RegionHeld3
import Derived.Deep.Slices
import Derived.DeepKeys3
import Derived.KernelRfl
import Derived.Laws.Bits64
import Derived.Laws.Bits64b
import Derived.Laws.BitsLemmas
import Derived.Laws.BytesArg
import Derived.Laws.IdiomCopy
import Derived.Laws.MakeOwn
import Derived.Laws.OwnMore
import Derived.Laws.Rows
import Derived.Laws.Slices
import Derived.Lib.AppendStr
import Derived.Lib.ConvBytes
import Derived.Lib.SliceRun
import Derived.LoopIn
import Derived.LoopN
import Derived.LoopNIn
import Derived.Maps.AppendAt
import Derived.Maps.Keyed
import Derived.Maps.Own
import Derived.Maps.OwnOps
import Derived.Maps.OwnSet
import Derived.Maps.Views
import Derived.OpenShut
import Derived.OrdersHeld
import Derived.Outline
import Derived.OwnWalk
import Derived.OwnWalkIn
import Derived.ProofKit
import Derived.RangeFuncBound
import Derived.RangeFuncBox
import Derived.RangeFuncCalls
import Derived.RangeFuncFrom
import Derived.RangeFuncLeaves
import Derived.RowKit
import Derived.RowKit3
import Derived.Shelf.Abstract
import Derived.Shelf.RegionOpen
import Derived.ShutString
import Derived.SizedLaws
import Derived.StillTailTactics
import Derived.Tactics
import Derived.TacticsInMore
import Derived.WalkKit
import Derived.WideLaws
set_option linter.unusedVariables false
set_option linter.unusedSimpArgs false
namespace Go.Proofs.Ytckhjehibjdjdaa.Ob
open Go.RowKit Go.Deep Go.Proofs.YtckhjehibjdjdaaW.PrintWords Go.WideShapes
def Opens {α : Type} (P : Program) (t : TypeId) (d : Kd α) (wf : α → Prop) : Prop :=
 ∀ (H : Type) (enc : TypeId × Value → H) (W : World) (base : Nat) (spare : Nat → Bool) (held : Bool) (fuel : Nat) (cs : List Value) (x : DataW H × List MemPlace),
  DataW.trod enc P W base spare held fuel t cs = some x → ∃ a, d.K W a cs ∧ wf a
variable {P : Program} {t e : TypeId}
theorem Opens.int {k : IntKind} (ht : P.underlying t = some (.int k)) : Opens P t (Kd.int k) (fun n => (Lit.int k n).wf = true) := by
 intro H enc W base spare held fuel cs x h
 obtain ⟨n, rfl, _, hw⟩ := DataW.trod_int ht h
 exact ⟨n, rfl, hw⟩
theorem Opens.bool (ht : P.underlying t = some .bool) : Opens P t Kd.bool (fun _ => True) := by
 intro H enc W base spare held fuel cs x h
 obtain ⟨b, rfl, _⟩ := DataW.trod_bool ht h
 exact ⟨b, rfl, trivial⟩
theorem Opens.slice {α : Type} {d : Kd α} {wf : α → Prop} (ht : P.underlying t = some (.slice e)) (hsz : P.cellsOf e = d.sz) (he : Opens P e d wf) :
  Opens P t (Kd.slice e d) (fun xs => xs.length ≤ maxLen ∧ ∀ x ∈ xs, wf x) := by
 intro H enc W base spare held fuel cs x h
 rcases open_slice ht h with ⟨rfl, _⟩ | ⟨a, len, cap, m, n, D, Pl, rfl, _, hl, hm, hmm, hxx, hx⟩
 ·exact ⟨[], ⟨none, 0, rfl, Nat.le_refl _, rfl, by simp, fun h => absurd h (by simp)⟩, by simp [maxLen], fun x hx => by simp at hx⟩
 ·have hlm : len ≤ m := by rw [hmm]; split <;> omega
  have hx' : ∀ i, i < len → ∃ (y : α) (c : List Value), d.K W y c ∧ wf y ∧ c.length = d.sz ∧ ∀ j u, c[j]? = some u → W.cell? (a.add (i * d.sz + j)) = some u := by
   intro i hi
   obtain ⟨c, h1, h2⟩ := hx i (by omega)
   obtain ⟨y, hK, hw⟩ := he H enc W base spare held n c _ h2
   obtain ⟨_, h3, h4⟩ := World.cells?_some h1
   refine ⟨y, c, hK, hw, d.K_len hK, fun j u hu => ?_⟩
   have hj : j < c.length := by
    rcases Nat.lt_or_ge j c.length with h | h
    ·exact h
    ·rw [List.getElem?_eq_none h] at hu; cases hu
   have h5 := h4 j (by omega)
   rw [Deep.add_add, hsz] at h5
   rw [h5]; exact hu
  have hall : ∃ xs : List α, xs.length = len ∧ ∀ (i : Nat) (p : α), xs[i]? = some p → ∃ c, c.length = d.sz ∧ d.K W p c ∧ wf p ∧ ∀ j u, c[j]? = some u → W.cell? (a.add (i * d.sz + j)) = some u := by
   clear hx hm hl hmm hlm h hxx
   induction len with
   | zero => exact ⟨[], rfl, fun i p hp => by simp at hp⟩
   | succ len ih =>
    obtain ⟨xs, hxl, hxs⟩ := ih (fun i hi => hx' i (by omega))
    obtain ⟨y, c, hK, hw, hcl, hc⟩ := hx' len (by omega)
    refine ⟨xs ++ [y], by simp [hxl], fun i p hp => ?_⟩
    rcases Nat.lt_or_ge i xs.length with h | h
    ·rw [List.getElem?_append_left h] at hp
     exact hxs i p hp
    ·have hi : i = xs.length := by
      have := (List.getElem?_eq_some_iff.1 hp).1
      rw [List.length_append, List.length_singleton] at this
      omega
     subst hi
     have hp' : y = p := by simpa using hp
     subst hp'
     exact ⟨c, hcl, hK, hw, by rw [hxl]; exact hc⟩
  obtain ⟨xs, hxl, hxs⟩ := hall
  refine ⟨xs, ⟨some a, cap, by rw [hxl], by omega, rfl, by rw [hxl]; simp only [maxLen] at hm; omega, fun _ => ⟨a, rfl, fun j p hp => ?_⟩⟩, by rw [hxl]; omega, fun x hx => ?_⟩
  ·obtain ⟨c, h1, h2, _, h3⟩ := hxs j p hp
   exact ⟨c, h1, h2, h3⟩
  ·obtain ⟨i, hi, rfl⟩ := List.getElem_of_mem hx
   obtain ⟨_, _, _, h, _⟩ := hxs i _ (List.getElem?_eq_getElem hi)
   exact h
def OpensAt {α : Type} (P : Program) (fs : List (Nat × TypeId)) (off : Nat) (d : Kd α) (wf : α → Prop) : Prop :=
 ∀ (H : Type) (enc : TypeId × Value → H) (W : World) (base : Nat) (spare : Nat → Bool) (held : Bool) (fuel : Nat) (cs : List Value), cs.length = off + d.sz →
  (∀ f, f ∈ fs → ∃ x, DataW.trod enc P W base spare held fuel f.2 ((cs.drop f.1).take (P.cellsOf f.2)) = some x) → ∃ a, d.K W a (cs.drop off) ∧ wf a
theorem OpensAt.last {α : Type} {d : Kd α} {wf : α → Prop} {off : Nat} (h : Opens P t d wf) (hsz : P.cellsOf t = d.sz) : OpensAt P [(off, t)] off d wf := by
 intro H enc W base spare held fuel cs hl hf
 obtain ⟨x, hx⟩ := hf (off, t) (by simp)
 rw [hsz, List.take_of_length_le (by rw [List.length_drop]; omega)] at hx
 exact h H enc W base spare held fuel _ x hx
theorem OpensAt.cons {α β : Type} {d : Kd α} {wf : α → Prop} {d' : Kd β} {wf' : β → Prop} {off off' : Nat} {fs : List (Nat × TypeId)} (h : Opens P t d wf) (hsz : P.cellsOf t = d.sz) (ho : off' = off + d.sz)
  (h' : OpensAt P fs off' d' wf') : OpensAt P ((off, t) :: fs) off (Kd.pair d d') (fun x => wf x.1 ∧ wf' x.2) := by
 intro H enc W base spare held fuel cs hl hf
 obtain ⟨x, hx⟩ := hf (off, t) (by simp)
 have hl' : cs.length = off' + d'.sz := by rw [hl, ho]; show off + (d.sz + d'.sz) = _; omega
 obtain ⟨a, hK, hw⟩ := h H enc W base spare held fuel _ x hx
 obtain ⟨b, hK', hw'⟩ := h' H enc W base spare held fuel cs hl' (fun f hf' => hf f (by simp [hf']))
 refine ⟨(a, b), ⟨_, _, ?_, hK, hK'⟩, hw, hw'⟩
 rw [hsz, ho, ← List.drop_drop, List.take_append_drop]
theorem Opens.struct {α β : Type} {d : Kd β} {wf : β → Prop} {fs : Array Field} {l : List (Nat × TypeId)} (ht : P.underlying t = some (.struct fs)) (hl : fs.toList.map (fun f => (f.offset, f.type)) = l) (hsz : P.cellsOf t = d.sz)
  (h : OpensAt P l 0 d wf) (f : α → β) (g : β → α) (hfg : ∀ b, f (g b) = b) : Opens P t (Kd.iso d f) (fun x => wf (f x)) := by
 intro H enc W base spare held fuel cs x hx
 obtain ⟨xs, n, _, _, hcl, hxl, hfs⟩ := DataW.trod_struct ht hx
 obtain ⟨b, hK, hw⟩ := h H enc W base spare held n cs (by rw [hcl, hsz]; omega) (fun p hp => by
  rw [← hl] at hp
  obtain ⟨fd, hfd, rfl⟩ := List.mem_map.1 hp
  obtain ⟨i, hi, rfl⟩ := List.getElem_of_mem hfd
  have := hfs i fs.toList[i] (by simp)
  rw [List.getElem?_eq_getElem (by rw [hxl]; simpa using hi)] at this
  exact ⟨_, this⟩)
 exact ⟨g b, by show d.K W (f (g b)) cs; rw [hfg]; simpa using hK, by show wf (f (g b)); rw [hfg]; exact hw⟩
theorem Opens.imp {α : Type} {d : Kd α} {wf wf' : α → Prop} (h : Opens P t d wf) (hi : ∀ a, wf a → wf' a) : Opens P t d wf' := fun H enc W base spare held fuel cs x hx =>
 let ⟨a, h1, h2⟩ := h H enc W base spare held fuel cs x hx; ⟨a, h1, hi a h2⟩
theorem Opens.open {α : Type} {d : Kd α} {wf : α → Prop} (h : Opens P t d wf) {H : Type} {enc : TypeId × Value → H} {W : World} {base : Nat} {spare : Nat → Bool} {held : Bool} {v : Value} {y : DataW H} {p : List MemPlace}
  (hv : DataW.Trod enc P W base spare held t v y p) : ∃ a, d.K W a v.cells.toList ∧ wf a := by
 obtain ⟨fuel, hf⟩ := hv
 exact h H enc W base spare held fuel _ _ hf
end Go.Proofs.Ytckhjehibjdjdaa.Ob
namespace Go.Proofs.Ytckhjehibjdjdaa.P
open Go.RowKit Go.Proofs.Ytckhjehibjdjdaa.Ob Go.Proofs.YtckhjehibjdjdaaW.PrintWords
def I64 (x : Int) : Prop := -9223372036854775808 ≤ x ∧ x ≤ 9223372036854775807
def U64 (x : Int) : Prop := 0 ≤ x ∧ x ≤ 18446744073709551615
theorem i64_of {x : Int} (h : (Lit.int .i64 x).wf = true) : I64 x := by unfold I64; simp [Lit.wf, IntKind.min, IntKind.max, IntKind.bits, IntKind.signed] at h; omega
theorem u64_of {x : Int} (h : (Lit.int .u64 x).wf = true) : U64 x := by unfold U64; simp [Lit.wf, IntKind.min, IntKind.max, IntKind.bits, IntKind.signed] at h; omega
theorem o_i64 {t : TypeId} (h : Try.prog.underlying t = some (.int .i64)) : Opens Try.prog t (Kd.int .i64) I64 := (Opens.int h).imp fun _ h => i64_of h
theorem o_u64 {t : TypeId} (h : Try.prog.underlying t = some (.int .u64)) : Opens Try.prog t (Kd.int .u64) U64 := (Opens.int h).imp fun _ h => u64_of h
def wfd48 (x : S48) : Prop := I64 x.f0 ∧ I64 x.f1
theorem o48 : Opens Try.prog 48 k48 wfd48 := (Opens.struct Try.underlying48 rfl (by kernel_rfl) (OpensAt.cons (o_i64 Try.underlying3) (by kernel_rfl) rfl (OpensAt.last (o_i64 Try.underlying3) (by kernel_rfl))) _ (fun p => (⟨p.1, p.2⟩ : S48)) (fun _ => rfl)).imp (fun _ h => h)
def wfd51 (x : S51) : Prop := wfd48 x.f0 ∧ U64 x.f1 ∧ I64 x.f2
theorem o51 : Opens Try.prog 51 k51 wfd51 := (Opens.struct Try.underlying51 rfl (by kernel_rfl) (OpensAt.cons (o48) (by kernel_rfl) rfl (OpensAt.cons (o_u64 Try.underlying49) (by kernel_rfl) rfl (OpensAt.last (o_i64 Try.underlying3) (by kernel_rfl)))) _ (fun p => (⟨p.1, p.2.1, p.2.2⟩ : S51)) (fun _ => rfl)).imp (fun _ h => h)
def wfd24 (x : S24) : Prop := I64 x.f0 ∧ I64 x.f1
theorem o24 : Opens Try.prog 24 k24 wfd24 := (Opens.struct Try.underlying24 rfl (by kernel_rfl) (OpensAt.cons (o_i64 Try.underlying3) (by kernel_rfl) rfl (OpensAt.last (o_i64 Try.underlying3) (by kernel_rfl))) _ (fun p => (⟨p.1, p.2⟩ : S24)) (fun _ => rfl)).imp (fun _ h => h)
def wfd52 (x : S52) : Prop := wfd48 x.f0 ∧ U64 x.f1 ∧ I64 x.f2
theorem o52 : Opens Try.prog 52 k52 wfd52 := (Opens.struct Try.underlying52 rfl (by kernel_rfl) (OpensAt.cons (o48) (by kernel_rfl) rfl (OpensAt.cons (o_u64 Try.underlying49) (by kernel_rfl) rfl (OpensAt.last (o_i64 Try.underlying3) (by kernel_rfl)))) _ (fun p => (⟨p.1, p.2.1, p.2.2⟩ : S52)) (fun _ => rfl)).imp (fun _ h => h)
def wfd41 (x : S41) : Prop := I64 x.f0 ∧ I64 x.f1 ∧ I64 x.f2 ∧ True ∧ (x.f4.length ≤ maxLen ∧ ∀ y ∈ x.f4, wfd52 y)
theorem o41 : Opens Try.prog 41 k41 wfd41 := (Opens.struct Try.underlying41 rfl (by kernel_rfl) (OpensAt.cons (o_i64 Try.underlying3) (by kernel_rfl) rfl (OpensAt.cons (o_i64 Try.underlying3) (by kernel_rfl) rfl (OpensAt.cons (o_i64 Try.underlying3) (by kernel_rfl) rfl (OpensAt.cons (Opens.bool Try.underlying4) (by kernel_rfl) rfl (OpensAt.last ((Opens.slice Try.underlying39 (by kernel_rfl) (o52))) (by kernel_rfl)))))) _ (fun p => (⟨p.1, p.2.1, p.2.2.1, p.2.2.2.1, p.2.2.2.2⟩ : S41)) (fun _ => rfl)).imp (fun _ h => h)
def wfd27 (x : S27) : Prop := I64 x.f0 ∧ I64 x.f1 ∧ I64 x.f2 ∧ I64 x.f3
theorem o27 : Opens Try.prog 27 k27 wfd27 := (Opens.struct Try.underlying27 rfl (by kernel_rfl) (OpensAt.cons (o_i64 Try.underlying3) (by kernel_rfl) rfl (OpensAt.cons (o_i64 Try.underlying3) (by kernel_rfl) rfl (OpensAt.cons (o_i64 Try.underlying3) (by kernel_rfl) rfl (OpensAt.last (o_i64 Try.underlying3) (by kernel_rfl))))) _ (fun p => (⟨p.1, p.2.1, p.2.2.1, p.2.2.2⟩ : S27)) (fun _ => rfl)).imp (fun _ h => h)
def wfd29 (x : S29) : Prop := I64 x.f0 ∧ I64 x.f1 ∧ wfd27 x.f2
theorem o29 : Opens Try.prog 29 k29 wfd29 := (Opens.struct Try.underlying29 rfl (by kernel_rfl) (OpensAt.cons (o_i64 Try.underlying3) (by kernel_rfl) rfl (OpensAt.cons (o_i64 Try.underlying3) (by kernel_rfl) rfl (OpensAt.last (o27) (by kernel_rfl)))) _ (fun p => (⟨p.1, p.2.1, p.2.2⟩ : S29)) (fun _ => rfl)).imp (fun _ h => h)
end Go.Proofs.Ytckhjehibjdjdaa.P
namespace Go.Proofs.Ytckhjehibjdjdaa.P
open Go.RowKit Go.Proofs.YtckhjehibjdjdaaW.PrintWords Go.Proofs.YtckhjehibjdjdaaW.PrintLast Go.Proofs.YtckhjehibjdjdaaW.PrintMore
attribute [local go_sem] max2_int min2_int max_two min_two max_three min_three max_four min_four
end Go.Proofs.Ytckhjehibjdjdaa.P
namespace Go.Proofs.Ytckhjehibjdjdaa.P
open Go.RowKit Go.Proofs.YtckhjehibjdjdaaW.PrintWords Go.Proofs.YtckhjehibjdjdaaW.PrintLast Go.Proofs.YtckhjehibjdjdaaW.PrintMore
open Go.Proofs.Ytckhjehibjdjdaa.Bits Go.Proofs.Ytckhjehibjdjdaa.Mp
theorem u64_id {x : Int} (h0 : 0 ≤ x) (h1 : x < 18446744073709551616) : IntKind.u64.wrap x = x := by
 obtain ⟨n, rfl⟩ := Int.eq_ofNat_of_zero_le h0
 rw [wrapN, Nat.mod_eq_of_lt (by omega)]
theorem half_nat (M j : Nat) (hM : M < 18446744073709551616) : IntKind.u64.wrap (Int.tdiv ((M / 2 ^ j : Nat) : Int) 2) = ((M / 2 ^ (j + 1) : Nat) : Int) := by
 have h1 : M / 2 ^ (j + 1) = M / 2 ^ j / 2 := by rw [Nat.pow_succ, Nat.div_div_eq_div_mul]
 have h2 : M / 2 ^ j ≤ M := Nat.div_le_self _ _
 generalize M / 2 ^ j = a at *
 rw [h1, Int.tdiv_eq_ediv_of_nonneg (by omega), u64_id (by omega) (by omega)]
 omega
theorem has_l (M : Nat) (hM : M < 18446744073709551616) (n : Nat) : ∀ j i : Nat, j ≤ i → i - j = n → i < 64 → Ev (fun k => ensembleref01_Has.l0 k ((M / 2 ^ j : Nat) : Int) (i : Int) (j : Int)) (M.testBit i) := by
 induction n with
 | zero =>
  intro j i hj hn hi
  obtain rfl : j = i := by omega
  refine Ev.step (f := fun _ => some (M.testBit j)) (fun k => ?_) (Ev.now _)
  rw [ensembleref01_Has.l0, if_neg (by omega), if_pos (by omega), if_pos (by omega), Nat.testBit_eq_decide_div_mod_eq]
  generalize M / 2 ^ j = a
  rw [Int.tmod_eq_emod_of_nonneg (by omega)]
  congr 1
  rw [Bool.eq_iff_iff]
  simp
  omega
 | succ n ih =>
  intro j i hj hn hi
  refine Ev.step (f := fun k => ensembleref01_Has.l0 k ((M / 2 ^ (j + 1) : Nat) : Int) (i : Int) ((j + 1 : Nat) : Int)) (fun k => ?_) (ih (j + 1) i (by omega) (by omega) hi)
  rw [ensembleref01_Has.l0, if_pos (by omega), half_nat M j hM, w_id (by omega)]
  congr 1
theorem has_ev (M i : Nat) (hM : M < 18446744073709551616) (hi : i < 64) : Ev (fun k => ensembleref01_Has.f k (M : Int) (i : Int)) (M.testBit i) := by
 have := has_l M hM i 0 i (by omega) (by omega) hi
 rw [Nat.pow_zero, Nat.div_one] at this
 exact this
def posI (M : Nat) : List Int := (pos M).map fun (i : Nat) => (i : Int)
def posTo (M i : Nat) : List Int := ((List.range i).filter fun j => M.testBit j).map fun (i : Nat) => (i : Int)
theorem posTo_len (M i : Nat) : (posTo M i).length ≤ i := by
 unfold posTo; rw [List.length_map]
 exact Nat.le_trans (List.length_filter_le _ _) (by simp)
theorem units_l (M : Nat) (hM : M < 18446744073709551616) (n : Nat) : ∀ i : Nat, i ≤ 64 → 64 - i = n → Ev (fun k => ensembleref01_Units.l0 k (M : Int) (posTo M i) (i : Int)) (posI M) := by
 induction n with
 | zero =>
  intro i hi hn
  obtain rfl : i = 64 := by omega
  refine Ev.step (f := fun _ => some (posI M)) (fun k => ?_) (Ev.now _)
  rw [ensembleref01_Units.l0, if_neg (by omega)]; rfl
 | succ n ih =>
  intro i hi hn
  refine Ev.step (fun k => by rw [ensembleref01_Units.l0, if_pos (by omega)]) (Ev.bind (has_ev M i hM (by omega)) ?_)
  have I := ih (i + 1) (by omega) (by omega)
  have hl := posTo_len M i
  refine Ev.congr (fun k => ?_) I
  have e1 : wrap64 ((i : Int) + 1) = ((i + 1 : Nat) : Int) := by rw [w_id (by omega)]; omega
  have e2 : posTo M (i + 1) = if M.testBit i = true then posTo M i ++ [(i : Int)] else posTo M i := by
   unfold posTo
   rw [List.range_succ, List.filter_append, List.map_append]
   split
   ·rename_i h; simp [h]
   ·rename_i h; simp [h]
  rw [e1, e2]
  split
  ·rw [if_pos (by omega)]
  ·rfl
theorem units_ev (M : Nat) (hM : M < 18446744073709551616) : Ev (fun k => ensembleref01_Units.f k (M : Int)) (posI M) := units_l M hM 64 0 (by omega) (by omega)
theorem posI_len (M : Nat) : ((posI M).length : Int) = popI (M : Int) := by
 unfold posI popI popN; simp
theorem posI_get (M i : Nat) (h : i < (posI M).length) : rd (posI M) (i : Int) = (((pos M)[i]'(by unfold posI at h; simpa using h) : Nat) : Int) := by
 simp [rd, posI, List.getD_eq_getElem?_getD] at h ⊢
 rw [List.getElem?_eq_getElem h]; rfl
def comm (A B : Nat) (l : List Nat) : Nat := (l.filter fun i => B.testBit i).length
theorem masks_l (A B : Nat) (hA : A < 18446744073709551616) (hB : B < 18446744073709551616) (d : Nat) : ∀ j : Nat, j ≤ (pos A).length → (pos A).length - j = d → Ev (fun k => ensembleref05_masks.l0 k (B : Int) ((comm A B ((pos A).take j) : Nat) : Int) (posI A) (j : Int)) ((comm A B (pos A) : Nat) : Int) := by
 have h64 : popN A ≤ 64 := popN_le A
 have hb64 : ∀ i ∈ pos A, i < 64 := fun i hi => (mem_pos.1 hi).1
 have hlen : (posI A).length = (pos A).length := by unfold posI; simp
 unfold popN at h64
 induction d with
 | zero =>
  intro j hj hd
  obtain rfl : j = (pos A).length := by omega
  refine Ev.step (f := fun _ => some ((comm A B (pos A) : Nat) : Int)) (fun k => ?_) (Ev.now _)
  rw [ensembleref05_masks.l0, if_neg (by omega), List.take_length]
 | succ d ih =>
  intro j hj hd
  have hjl : j < (pos A).length := by omega
  have hji : j < (posI A).length := by omega
  refine Ev.step (fun k => by rw [ensembleref05_masks.l0, if_pos (by omega), if_pos (by omega), posI_get A j hji]) (Ev.bind (has_ev B _ hB (hb64 _ (List.getElem_mem hjl))) ?_)
  refine Ev.congr (fun k => ?_) (ih (j + 1) (by omega) (by omega))
  have hc : comm A B ((pos A).take j) ≤ 64 := by
   unfold comm
   refine Nat.le_trans (List.length_filter_le _ _) ?_
   rw [List.length_take]; omega
  have e2 : comm A B ((pos A).take (j + 1)) = comm A B ((pos A).take j) + if B.testBit (pos A)[j] = true then 1 else 0 := by
   unfold comm
   rw [List.take_succ_eq_append_getElem hjl, List.filter_append, List.length_append]
   split
   ·rename_i h; simp [h]
   ·rename_i h; simp [h]
  rw [e2]
  split
  ·rw [w_id (by omega), w_id (by omega)]; congr 1
  ·rw [w_id (by omega)]; congr 1
theorem comm_pos (A B : Nat) : comm A B (pos A) = popN (A &&& B) := by
 unfold comm popN pos
 rw [List.filter_filter]
 congr 2
 funext i
 rw [Nat.testBit_and, Bool.and_comm]
theorem masks_ev (A B : Nat) (hA : A < 18446744073709551616) (hB : B < 18446744073709551616) : Ev (fun k => ensembleref05_masks.f k (A : Int) (B : Int)) ((popN (A &&& B) : Nat) : Int) := by
 unfold ensembleref05_masks.f
 refine Ev.bind (units_ev A hA) ?_
 have := masks_l A B hA hB (pos A).length 0 (by omega) (by omega)
 rw [comm_pos, List.take_zero] at this
 exact this
end Go.Proofs.Ytckhjehibjdjdaa.P
namespace Go.Proofs.Ytckhjehibjdjdaa.P
open Go.RowKit Go.Proofs.YtckhjehibjdjdaaW.PrintWords Go.Proofs.YtckhjehibjdjdaaW.PrintLast Go.Proofs.YtckhjehibjdjdaaW.PrintMore
attribute [local go_sem] max2_int min2_int max_two min_two max_three min_three max_four min_four


def ensembleref05_Room.T5 : Bool × List (List Nat × List Nat) := (true, [([], []), ([], []), ([], []), ([], []), ([2, 3], [2, 3]), ([4], [4]), ([1, 5], [1, 5]), ([0, 6], [0, 6]), ([7, 6, 0, 1, 2, 3, 4, 5, 6, 7], [0, 7])])
def ensembleref05_Room.B5 : List Nat := [0, 0, 0, 0, 12, 28, 62, 127, 255]
theorem ensembleref05_Room.bits5 : waitsOk ensembleref05_Room.T5.2 ensembleref05_Room.B5 = true := by kernel_rfl

end Go.Proofs.Ytckhjehibjdjdaa.P
namespace Go.Proofs.Ytckhjehibjdjdaa.P
open Go.RowKit Go.Proofs.YtckhjehibjdjdaaW.PrintWords Go.Proofs.YtckhjehibjdjdaaW.PrintLast Go.Proofs.YtckhjehibjdjdaaW.PrintMore
attribute [local go_sem] max2_int min2_int max_two min_two max_three min_three max_four min_four
attribute [local go_sem] cellBx frozBx
theorem ensembleref05_More.find {k n : Nat} {A : Option Addr} {c : Nat} {l : List S51} {a b r : Int} {w : World} (hl : A_ (l.length = n)) (hr : Kd.C k51 w A l.length l) (hc : l.length ≤ c) (h : A_ (ensembleref05_find.f k l a b = some r)) :
  Calls Try.prog 79 #[.slice A n c, .agg #[.int .i64 a, .int .i64 b]] w fun e w' => e = .returned (.int .i64 r) ∧ Below w.heap.size w w' := by
 obtain rfl := hl.out
 exact ensembleref05_find.calls k A c l a b r w hr hc h.out
end Go.Proofs.Ytckhjehibjdjdaa.P
namespace Go.Proofs.Ytckhjehibjdjdaa.P
open Go.RowKit Go.Proofs.YtckhjehibjdjdaaW.PrintWords Go.Proofs.YtckhjehibjdjdaaW.PrintLast Go.Proofs.YtckhjehibjdjdaaW.PrintMore
open Go.Proofs.Ytckhjehibjdjdaa.Bits Go.Proofs.Ytckhjehibjdjdaa.Mp
theorem andNot_nat (a b : Nat) (ha : a < 18446744073709551616) (hb : b < 18446744073709551616) : Go.bits .andNot .u64 (a : Int) (b : Int) = ((a - (a &&& b) : Nat) : Int) := by
 have h1 : (BitVec.ofInt 64 (a : Int)).toNat = a := by
  rw [BitVec.ofInt_natCast, BitVec.toNat_ofNat]; exact Nat.mod_eq_of_lt (by omega)
 have h2 : (BitVec.ofInt 64 (b : Int)).toNat = b := by
  rw [BitVec.ofInt_natCast, BitVec.toNat_ofNat]; exact Nat.mod_eq_of_lt (by omega)
 show IntKind.u64.wrap ((BitVec.ofInt 64 (a : Int) &&& ~~~ BitVec.ofInt 64 (b : Int)).toNat : Int) = _
 generalize BitVec.ofInt 64 (a : Int) = A at *
 generalize BitVec.ofInt 64 (b : Int) = B at *
 have hz : (A &&& ~~~B) &&& (A &&& B) = 0#64 := by ext i; simp; intro _ h _; exact h
 have hs : (A &&& ~~~B) + (A &&& B) = A := by
  rw [BitVec.add_eq_or_of_and_eq_zero _ _ hz]
  ext i; simp; cases A[i] <;> cases B[i] <;> rfl
 have hn := BitVec.toNat_add_of_and_eq_zero hz
 rw [hs, BitVec.toNat_and A B, h1, h2] at hn
 have hl := (A &&& ~~~B).isLt
 rw [wrapN, Nat.mod_eq_of_lt (by omega)]
 omega
theorem pop_lt_iff (a b : Nat) (ha : a < 18446744073709551616) : popN (a &&& b) < popN a ↔ a &&& b ≠ a := by
 constructor
 ·intro h e; rw [e] at h; omega
 ·intro h
  rw [← comm_pos]
  unfold comm popN
  apply Nat.lt_of_le_of_ne (List.length_filter_le _ _)
  intro e
  apply h
  apply Nat.eq_of_testBit_eq
  intro i
  rw [Nat.testBit_and]
  cases hi : a.testBit i with
  | false => rfl
  | true =>
   have hm : i ∈ pos a := mem_pos.2 ⟨lt_of_testBit (by simpa using ha) hi, hi⟩
   have := List.length_filter_eq_length_iff.1 e i hm
   rw [this]; rfl
def isAt (a b : Int) (f : S51) : Bool := f.f0.f0 == a && (f.f0.f1 == b)
def findI (view : List S51) (a b : Int) : Int := match view.findIdx? (isAt a b) with
 | some j => (j : Int)
 | none => -1
theorem find_l (view : List S51) (a b : Int) (hl : view.length < 4398046511104) (d : Nat) : ∀ i : Nat, i ≤ view.length → view.length - i = d →
  Ev (fun k => ensembleref05_find.l0 k view (i : Int) a b) (match (view.drop i).findIdx? (isAt a b) with | some j => ((i + j : Nat) : Int) | none => -1) := by
 induction d with
 | zero =>
  intro i hi hd
  rw [List.drop_eq_nil_of_le (by omega)]
  exact Ev.step (f := fun _ => some (-1)) (fun k => by rw [ensembleref05_find.l0, if_neg (by omega)]) (Ev.now _)
 | succ d ih =>
  intro i hi hd
  have hil : i < view.length := by omega
  rw [List.drop_eq_getElem_cons hil, List.findIdx?_cons]
  by_cases h : isAt a b view[i] = true
  ·rw [if_pos h]
   refine Ev.step (f := fun _ => some ((i + 0 : Nat) : Int)) (fun k => ?_) (Ev.now _)
   rw [ensembleref05_find.l0, if_pos (by omega), if_pos (by omega), rd51' view i hil, if_pos (show (view[i].f0.f0 == a && (view[i].f0.f1 == b)) = true from h)]; rfl
  ·rw [if_neg h]
   have I := ih (i + 1) (by omega) (by omega)
   refine Ev.step (f := fun k => ensembleref05_find.l0 k view ((i + 1 : Nat) : Int) a b) (fun k => ?_) ?_
   ·rw [ensembleref05_find.l0, if_pos (by omega), if_pos (by omega), rd51' view i hil, if_neg (show ¬ (view[i].f0.f0 == a && (view[i].f0.f1 == b)) = true from h), w_id (by omega)]; rfl
   ·cases hf : (view.drop (i + 1)).findIdx? (isAt a b) with
    | none => rw [hf] at I; exact I
    | some j =>
     rw [hf] at I
     simp only [Option.map_some]
     rw [show i + (j + 1) = i + 1 + j by omega]; exact I
theorem find_ev (view : List S51) (a b : Int) (hl : view.length < 4398046511104) : Ev (fun k => ensembleref05_find.f k view a b) (findI view a b) := by
 have := find_l view a b hl view.length 0 (by omega) (by omega)
 rw [List.drop_zero] at this
 unfold findI
 cases hf : view.findIdx? (isAt a b) with
 | none => rw [hf] at this; exact this
 | some j => rw [hf] at this; simp only [Nat.zero_add] at this; exact this
def spot (f : S51) : Int × Int := (f.f0.f0, f.f0.f1)
def cpOk (f : S51) : Prop := 0 ≤ f.f2 ∧ f.f2 ≤ 1048576
def viewR (view : List S51) : Prop := (∀ f ∈ view, cpOk f) ∧ (view.map spot).Nodup
theorem isAt_iff {a b : Int} {f : S51} : isAt a b f = true ↔ spot f = (a, b) := by
 unfold isAt spot; simp
theorem findI_neg {view : List S51} {a b : Int} : findI view a b < 0 ↔ (a, b) ∉ view.map spot := by
 unfold findI
 cases h : view.findIdx? (isAt a b) with
 | none =>
  rw [List.findIdx?_eq_none_iff] at h
  simp only [List.mem_map, not_exists, not_and]
  exact ⟨fun _ f hf e => (by rw [← isAt_iff, h f hf] at e; cases e), fun _ => by omega⟩
 | some j =>
  rw [List.findIdx?_eq_some_iff_getElem] at h
  obtain ⟨hj, h1, _⟩ := h
  constructor
  ·intro h; simp only at h; omega
  ·intro hn
   exact absurd (List.mem_map.2 ⟨view[j], List.getElem_mem hj, isAt_iff.1 h1⟩) hn
theorem findI_bd (view : List S51) (a b : Int) : -1 ≤ findI view a b ∧ findI view a b < view.length := by
 unfold findI
 cases h : view.findIdx? (isAt a b) with
 | none => simp only; omega
 | some j =>
  rw [List.findIdx?_eq_some_iff_getElem] at h
  obtain ⟨hj, _⟩ := h
  simp only; omega
theorem right05_l (view : List S51) (hl : view.length < 4398046511104) (d : Nat) : ∀ i : Nat, i ≤ view.length → view.length - i = d → (∀ f ∈ view.take i, cpOk f) → ((view.take i).map spot).Nodup →
  (Ev (fun k => ensembleref05_Right.l0 k view (i : Int)) true ∧ viewR view) ∨ Ev (fun k => ensembleref05_Right.l0 k view (i : Int)) false := by
 induction d with
 | zero =>
  intro i hi hd hc hn
  left
  obtain rfl : i = view.length := by omega
  rw [List.take_length] at hc hn
  exact ⟨Ev.step (f := fun _ => some true) (fun k => by rw [ensembleref05_Right.l0, if_neg (by omega)]) (Ev.now _), hc, hn⟩
 | succ d ih =>
  intro i hi hd hc hn
  have hil : i < view.length := by omega
  by_cases h1 : (view[i]).f2 < 0
  ·right
   exact Ev.step (f := fun _ => some false) (fun k => by rw [ensembleref05_Right.l0, if_pos (by omega), if_pos (by omega), rd51' view i hil, if_pos h1]) (Ev.now _)
  by_cases h2 : (view[i]).f2 > 1048576
  ·right
   exact Ev.step (f := fun _ => some false) (fun k => by rw [ensembleref05_Right.l0, if_pos (by omega), if_pos (by omega), rd51' view i hil, if_neg h1, if_pos h2]) (Ev.now _)
  have hF := find_ev (view.take i) (view[i]).f0.f0 (view[i]).f0.f1 (by rw [List.length_take]; omega)
  have hstep : ∀ k, ensembleref05_Right.l0 (k + 1) view (i : Int) = (ensembleref05_find.f k (view.take i) (view[i]).f0.f0 (view[i]).f0.f1).bind fun t127 => (if t127 ≥ 0 then (some false) else (ensembleref05_Right.l0 k view (wrap64 ((i : Int) + 1)))) := fun k => by
   rw [ensembleref05_Right.l0, if_pos (by omega), if_pos (by omega), rd51' view i hil, if_neg h1, if_neg h2, if_pos (by omega), Int.toNat_natCast]
  by_cases h3 : findI (view.take i) (view[i]).f0.f0 (view[i]).f0.f1 ≥ 0
  ·right
   exact Ev.step hstep (Ev.bind hF (Ev.congr (fun k => by rw [if_pos h3]) (Ev.now _)))
  ·have hcon : ∀ r, Ev (fun k => ensembleref05_Right.l0 k view ((i + 1 : Nat) : Int)) r → Ev (fun k => ensembleref05_Right.l0 k view (i : Int)) r := fun r hr =>
    Ev.step hstep (Ev.bind hF (Ev.congr (fun k => by rw [if_neg h3, w_id (by omega)]; congr 1) hr))
   have hnm := findI_neg.1 (show findI (view.take i) (view[i]).f0.f0 (view[i]).f0.f1 < 0 by omega)
   rcases ih (i + 1) (by omega) (by omega) (by
    intro f hf
    rw [List.take_succ_eq_append_getElem hil] at hf
    rcases List.mem_append.1 hf with hf | hf
    ·exact hc f hf
    ·rw [List.mem_singleton.1 hf]; exact ⟨by omega, by omega⟩) (by
    rw [List.take_succ_eq_append_getElem hil, List.map_append, List.nodup_append]
    refine ⟨hn, by simp, fun x hx y hy => ?_⟩
    rw [List.map_singleton, List.mem_singleton] at hy
    rintro rfl
    apply hnm
    rw [hy] at hx
    exact hx) with ⟨h, hv⟩ | h
   ·exact .inl ⟨hcon _ h, hv⟩
   ·exact .inr (hcon _ h)
theorem right05_ev (view : List S51) (hl : view.length < 4398046511104) : (Ev (fun k => ensembleref05_Right.f k view) true ∧ viewR view) ∨ Ev (fun k => ensembleref05_Right.f k view) false := by
 have := right05_l view hl view.length 0 (by omega) (by omega) (by simp) (by simp)
 exact this
def turnF (E : S51 → S52 → Int) (F : S51 → S52 → S51) : List S51 → List S52 → List S51 × Int
 | out, [] => (out, 0)
 | out, s :: ss => if s.f2 < 0 then ([], 1) else if findI out s.f0.f0 s.f0.f1 < 0 then ([], 3)
  else if E (a4_ out (findI out s.f0.f0 s.f0.f1)) s = 0 then turnF E F (out.set (findI out s.f0.f0 s.f0.f1).toNat (F (a4_ out (findI out s.f0.f0 s.f0.f1)) s)) ss
  else ([], E (a4_ out (findI out s.f0.f0 s.f0.f1)) s)
theorem bits_and_z {a b : Int} (ha : 0 ≤ a ∧ a < 18446744073709551616) (hb : 0 ≤ b ∧ b < 18446744073709551616) : Go.bits .and .u64 a b = ((a.toNat &&& b.toNat : Nat) : Int) := by
 obtain ⟨x, rfl⟩ := Int.eq_ofNat_of_zero_le ha.1
 obtain ⟨y, rfl⟩ := Int.eq_ofNat_of_zero_le hb.1
 rw [Int.toNat_natCast, Int.toNat_natCast]
 exact bits_and_u64_nat x y (by omega) (by omega)
theorem masksI_ev {a b : Int} (ha : 0 ≤ a ∧ a < 18446744073709551616) (hb : 0 ≤ b ∧ b < 18446744073709551616) : Ev (fun k => ensembleref05_masks.f k a b) ((popN (a.toNat &&& b.toNat) : Nat) : Int) := by
 obtain ⟨x, rfl⟩ := Int.eq_ofNat_of_zero_le ha.1
 obtain ⟨y, rfl⟩ := Int.eq_ofNat_of_zero_le hb.1
 rw [Int.toNat_natCast, Int.toNat_natCast]
 exact masks_ev x y (by omega) (by omega)
theorem freeOk_out {f : S51} (h : freeOk f = true) : (0 ≤ f.f1 ∧ f.f1 < 18446744073709551616) ∧ -9223372036854775808 ≤ f.f2 ∧ f.f2 ≤ 9223372036854775807 := by
 simp only [freeOk, w64B, Bool.and_eq_true, decide_eq_true_eq] at h
 exact ⟨⟨h.1.1, h.1.2⟩, h.2.1, h.2.2⟩
theorem maskOk_out {s : S52} (h : maskOk s = true) : 0 ≤ s.f1 ∧ s.f1 < 18446744073709551616 := by
 simp only [maskOk, Bool.and_eq_true, decide_eq_true_eq] at h
 exact h
theorem rd51_mem {out : List S51} {k : Int} (h0 : 0 ≤ k) (h1 : k < out.length) : a4_ out k ∈ out := by
 obtain ⟨n, rfl⟩ := Int.eq_ofNat_of_zero_le h0
 rw [rd51' out n (by omega)]; exact List.getElem_mem _
theorem set_all {P : S51 → Prop} {out : List S51} {k : Nat} {x : S51} (h : ∀ f ∈ out, P f) (hx : P x) : ∀ f ∈ out.set k x, P f := fun f hf => by
 rcases List.mem_or_eq_of_mem_set hf with h' | rfl
 ·exact h f h'
 ·exact hx
theorem lessF_ok {f : S51} {s : S52} (hf : freeOk f = true) (hs : maskOk s = true) : freeOk (lessF f s) = true := by
 have h1 := freeOk_out hf
 have h2 := maskOk_out hs
 have e : Go.bits .andNot .u64 f.f1 s.f1 = ((f.f1.toNat - (f.f1.toNat &&& s.f1.toNat) : Nat) : Int) := by
  have := andNot_nat f.f1.toNat s.f1.toNat (by omega) (by omega)
  rw [Int.toNat_of_nonneg h1.1.1, Int.toNat_of_nonneg h2.1] at this
  exact this
 have e1 : 0 ≤ (lessF f s).f1 ∧ (lessF f s).f1 < 18446744073709551616 := by
  show 0 ≤ Go.bits .andNot .u64 f.f1 s.f1 ∧ Go.bits .andNot .u64 f.f1 s.f1 < 18446744073709551616
  rw [e]; omega
 unfold freeOk
 rw [decide_eq_true e1.1, decide_eq_true e1.2]
 exact w64_wrap _
theorem less05_l (slots : List S52) (hl : slots.length < 4398046511104) (hm : ∀ s ∈ slots, maskOk s = true) (d : Nat) : ∀ (i : Nat) (out : List S51), i ≤ slots.length → slots.length - i = d → out.length < 4398046511104 → (∀ f ∈ out, freeOk f = true) →
  Ev (fun k => ensembleref05_Less.l0 k slots out (i : Int)) (turnF lessE lessF out (slots.drop i)) := by
 induction d with
 | zero =>
  intro i out hi hd ho hf
  rw [List.drop_eq_nil_of_le (by omega), turnF]
  exact Ev.step (f := fun _ => some (out, 0)) (fun k => by rw [ensembleref05_Less.l0, if_neg (by omega)]) (Ev.now _)
 | succ d ih =>
  intro i out hi hd ho hf
  have hil : i < slots.length := by omega
  have hms := maskOk_out (hm _ (List.getElem_mem hil))
  rw [List.drop_eq_getElem_cons hil, turnF]
  by_cases h1 : (slots[i]).f2 < 0
  ·rw [if_pos h1]
   exact Ev.step (f := fun _ => some (([] : List S51), 1)) (fun k => by rw [ensembleref05_Less.l0, if_pos (by omega), if_pos (by omega), rd52' slots i hil, if_pos h1]) (Ev.now _)
  rw [if_neg h1]
  have hF := find_ev out (slots[i]).f0.f0 (slots[i]).f0.f1 ho
  have hFb := findI_bd out (slots[i]).f0.f0 (slots[i]).f0.f1
  refine Ev.step (fun k => by rw [ensembleref05_Less.l0, if_pos (by omega), if_pos (by omega), rd52' slots i hil, if_neg h1]) (Ev.bind hF ?_)
  generalize findI out (slots[i]).f0.f0 (slots[i]).f0.f1 = p at *
  by_cases h2 : p < 0
  ·rw [if_pos h2]
   exact Ev.congr (fun k => by rw [if_pos h2]) (Ev.now _)
  rw [if_neg h2]
  have hmem := rd51_mem (by omega) hFb.2
  have hfo := freeOk_out (hf _ hmem)
  obtain ⟨pn, rfl⟩ := Int.eq_ofNat_of_zero_le (show 0 ≤ p by omega)
  have hpl : pn < out.length := by omega
  refine Ev.congr (fun k => by rw [if_neg h2, if_pos (by omega), if_pos (by omega)]) (Ev.bind (masksI_ev hms hfo.1) ?_)
  have hu : Ev (fun k => ensembleref01_Units.f k (slots[i]).f1) (posI (slots[i]).f1.toNat) := by
   have := units_ev (slots[i]).f1.toNat (by omega)
   rw [Int.toNat_of_nonneg hms.1] at this
   exact this
  refine Ev.bind hu ?_
  have hpl2 : ((posI (slots[i]).f1.toNat).length : Int) = ((popN (slots[i]).f1.toNat : Nat) : Int) := by
   rw [posI_len, Int.toNat_of_nonneg hms.1]; rfl
  have hand : ∀ x : S51, (0 ≤ x.f1 ∧ x.f1 < 18446744073709551616) → Go.bits .andNot .u64 (slots[i]).f1 x.f1 = (((slots[i]).f1.toNat - ((slots[i]).f1.toNat &&& x.f1.toNat) : Nat) : Int) := fun x hx => by
   have := andNot_nat (slots[i]).f1.toNat x.f1.toNat (by omega) (by omega)
   rw [Int.toNat_of_nonneg hms.1, Int.toNat_of_nonneg hx.1] at this
   exact this
  have hand := hand _ hfo.1
  have hpz := pop_lt_iff (slots[i]).f1.toNat (a4_ out (pn : Int)).f1.toNat (by omega)
  have hle : (slots[i]).f1.toNat &&& (a4_ out (pn : Int)).f1.toNat ≤ (slots[i]).f1.toNat := Nat.and_le_left
  generalize hx : a4_ out (pn : Int) = x at *
  rw [hpl2]
  by_cases h3 : ((popN ((slots[i]).f1.toNat &&& x.f1.toNat) : Nat) : Int) < ((popN (slots[i]).f1.toNat : Nat) : Int)
  ·have hne := hpz.1 (by omega)
   have hE : lessE x slots[i] = 5 := by
    unfold lessE; rw [if_pos]
    rw [hand]; omega
   rw [hE, if_neg (by decide)]
   exact Ev.congr (fun k => by rw [if_pos h3]) (Ev.now _)
  have hz : (slots[i]).f1.toNat &&& x.f1.toNat = (slots[i]).f1.toNat := Classical.byContradiction fun h => h3 (by have := hpz.2 h; omega)
  by_cases h4 : (slots[i]).f2 > x.f2
  ·have hE : lessE x slots[i] = 5 := by
    unfold lessE; rw [if_neg, if_pos h4]
    rw [hand, hz]; simp
   rw [hE, if_neg (by decide)]
   exact Ev.congr (fun k => by rw [if_neg h3, if_pos h4]) (Ev.now _)
  have hE : lessE x slots[i] = 0 := by
   unfold lessE; rw [if_neg, if_neg h4]
   rw [hand, hz]; simp
  rw [hE, if_pos rfl]
  have I := ih (i + 1) (out.set pn (lessF x slots[i])) (by omega) (by omega) (by rw [List.length_set]; exact ho) (set_all hf (lessF_ok (hf _ hmem) (hm _ (List.getElem_mem hil))))
  refine Ev.congr (fun k => ?_) I
  rw [if_neg h3, if_neg h4, Option.bind_some, Int.toNat_natCast]
  have hle2 : (slots[i]).f1.toNat ≤ x.f1.toNat := by
   have : (slots[i]).f1.toNat &&& x.f1.toNat ≤ x.f1.toNat := Nat.and_le_right
   omega
  have hor : IntKind.u64.wrap (x.f1 - (slots[i]).f1) = Go.bits .andNot .u64 x.f1 (slots[i]).f1 := by
   have := andNot_nat x.f1.toNat (slots[i]).f1.toNat (by omega) (by omega)
   rw [Int.toNat_of_nonneg hfo.1.1, Int.toNat_of_nonneg hms.1, Nat.and_comm, hz] at this
   rw [this, u64_id (by omega) (by omega)]
   omega
  rw [rd51' (out.set pn _) pn (by rw [List.length_set]; exact hpl), List.getElem_set_self, List.set_set, hor, show wrap64 ((i : Int) + 1) = ((i + 1 : Nat) : Int) from by rw [w_id (by omega)]; omega]
  rfl
theorem less05_ev (view : List S51) (slots : List S52) (hl : slots.length < 4398046511104) (hm : ∀ s ∈ slots, maskOk s = true) (ho : view.length < 4398046511104) (hf : ∀ f ∈ view, freeOk f = true) :
  Ev (fun k => ensembleref05_Less.f k view slots) (turnF lessE lessF view slots) := by
 have := less05_l slots hl hm slots.length 0 view (by omega) (by omega) ho hf
 rw [List.drop_zero] at this
 refine Ev.congr (fun k => ?_) this
 unfold ensembleref05_Less.f
 rw [Option.bind_some, if_pos (by simpa using ho), List.nil_append]; rfl
theorem findI_spots {a b : List S51} (h : a.map spot = b.map spot) (x y : Int) : findI a x y = findI b x y := by
 have e : ∀ l : List S51, l.findIdx? (isAt x y) = (l.map spot).findIdx? (fun p => p.1 == x && p.2 == y) := fun l => by
  rw [List.findIdx?_map]; rfl
 unfold findI
 rw [e a, e b, h]
theorem ixS_find (view : List S51) (hn : (view.map spot).Nodup) : ∀ i : Nat, i ≤ view.length → ∀ a b : Int, ixS view i a b = if 0 ≤ findI view a b ∧ findI view a b < i then some (findI view a b) else none := by
 intro i
 induction i with
 | zero => intro _ a b; rw [if_neg (by omega)]; rfl
 | succ i ih =>
  intro hi a b
  have hil : i < view.length := by omega
  unfold ixS updS
  rw [rd51' view i hil]
  have hfi : findI view (view[i]).f0.f0 (view[i]).f0.f1 = (i : Int) := by
   unfold findI
   have : view.findIdx? (isAt (view[i]).f0.f0 (view[i]).f0.f1) = some i := by
    rw [List.findIdx?_eq_some_iff_getElem]
    refine ⟨hil, by unfold isAt; simp, fun j hj => ?_⟩
    intro hjt
    have h1 := isAt_iff.1 hjt
    have h2 := List.pairwise_iff_getElem.1 hn j i (by rw [List.length_map]; omega) (by rw [List.length_map]; exact hil) hj
    apply h2
    rw [List.getElem_map, List.getElem_map, h1]
    rfl
   rw [this]
  by_cases h : a = (view[i]).f0.f0 ∧ b = (view[i]).f0.f1
  ·rw [if_pos h, h.1, h.2, hfi, if_pos (by omega)]
  ·rw [if_neg h, ih (by omega) a b]
   have hne : findI view a b ≠ (i : Int) := by
    intro e
    unfold findI at e
    cases hf : view.findIdx? (isAt a b) with
    | none => rw [hf] at e; simp only at e; omega
    | some j =>
     rw [hf] at e
     simp only at e
     obtain rfl : j = i := by omega
     rw [List.findIdx?_eq_some_iff_getElem] at hf
     have := isAt_iff.1 hf.2.1
     unfold spot at this
     injection this with h1 h2
     exact h ⟨h1.symm, h2.symm⟩
   by_cases hc : 0 ≤ findI view a b ∧ findI view a b < i
   ·rw [if_pos hc, if_pos (by omega)]
   ·rw [if_neg hc, if_neg (by omega)]
theorem spots_set {out : List S51} {k : Nat} {x : S51} (hx : ∀ h : k < out.length, spot x = spot out[k]) : (out.set k x).map spot = out.map spot := by
 rw [List.map_set]
 by_cases h : k < out.length
 ·rw [hx h]
  apply List.ext_getElem
  ·simp
  ·intro i h1 h2
   rw [List.getElem_set]
   split
   ·rename_i e; subst e; rw [List.getElem_map]
   ·rfl
 ·rw [List.set_eq_of_length_le (by rw [List.length_map]; omega)]
theorem turned_find (E : S51 → S52 → Int) (F : S51 → S52 → S51) (hF : ∀ f s, (F f s).f0 = f.f0) (view : List S51) (hn : (view.map spot).Nodup) : ∀ (slots : List S52) (out : List S51), out.map spot = view.map spot →
  turnedL E F (ixS view view.length) out slots = turnF E F out slots
 | [], out, _ => rfl
 | s :: ss, out, ho => by
  have hb := findI_bd view s.f0.f0 s.f0.f1
  rw [turnedL, turnF, findI_spots ho, ixS_find view hn _ (Nat.le_refl _)]
  generalize findI view s.f0.f0 s.f0.f1 = p at *
  by_cases h1 : s.f2 < 0
  ·rw [if_pos h1, if_pos h1]
  rw [if_neg h1, if_neg h1]
  by_cases h2 : p < 0
  ·rw [if_neg (by omega), if_pos h2]
  rw [if_pos (by omega), if_neg h2]
  simp only
  by_cases h3 : E (a4_ out p) s = 0
  ·rw [if_pos h3, if_pos h3]
   refine turned_find E F hF view hn ss _ ?_
   rw [spots_set (fun hk => ?_), ho]
   have : a4_ out p = out[p.toNat] := by
    have := rd51' out p.toNat hk
    rw [Int.toNat_of_nonneg (by omega)] at this
    exact this
   unfold spot
   rw [hF, this]
  ·rw [if_neg h3, if_neg h3]
theorem turned51_find {E : S51 → S52 → Int} {F : S51 → S52 → S51} (hF : ∀ f s, (F f s).f0 = f.f0) {view : List S51} (hn : (view.map spot).Nodup) (slots : List S52) : turned51 E F view slots = turnF E F view slots :=
 turned_find E F hF view hn slots view rfl
end Go.Proofs.Ytckhjehibjdjdaa.P
namespace Go.Proofs.Ytckhjehibjdjdaa.P
open Go.RowKit Go.Proofs.YtckhjehibjdjdaaW.PrintWords Go.Proofs.YtckhjehibjdjdaaW.PrintLast Go.Proofs.YtckhjehibjdjdaaW.PrintMore
attribute [local go_sem] max2_int min2_int max_two min_two max_three min_three max_four min_four

end Go.Proofs.Ytckhjehibjdjdaa.P
namespace Go.Proofs.Ytckhjehibjdjdaa.P
open Go.RowKit Go.Proofs.YtckhjehibjdjdaaW.PrintWords Go.Proofs.YtckhjehibjdjdaaW.PrintLast Go.Proofs.YtckhjehibjdjdaaW.PrintMore
open Go.Proofs.Ytckhjehibjdjdaa.Bits Go.Proofs.Ytckhjehibjdjdaa.Mp
theorem units08_l (slots : List S52) (hl : slots.length < 4398046511104) (hm : ∀ s ∈ slots, maskOk s = true) (d : Nat) : ∀ (i : Nat) (a b : Int), i ≤ slots.length → slots.length - i = d →
  Ev (fun k => ensembleref08_Units.l0 k slots (i : Int) a b) (addL true (a, b) (slots.drop i)) := by
 induction d with
 | zero =>
  intro i a b hi hd
  rw [List.drop_eq_nil_of_le (by omega)]
  exact Ev.step (f := fun _ => some (a, b)) (fun k => by rw [ensembleref08_Units.l0, if_neg (by omega)]) (Ev.now _)
 | succ d ih =>
  intro i a b hi hd
  have hil : i < slots.length := by omega
  have hms := maskOk_out (hm _ (List.getElem_mem hil))
  have hu : Ev (fun k => ensembleref01_Units.f k (slots[i]).f1) (posI (slots[i]).f1.toNat) := by
   have := units_ev (slots[i]).f1.toNat (by omega)
   rw [Int.toNat_of_nonneg hms.1] at this
   exact this
  rw [List.drop_eq_getElem_cons hil]
  refine Ev.step (fun k => by rw [ensembleref08_Units.l0, if_pos (by omega), if_pos (by omega), rd52' slots i hil]) (Ev.bind hu ?_)
  refine Ev.congr (fun k => ?_) (ih (i + 1) _ _ (by omega) (by omega))
  rw [posI_len, Int.toNat_of_nonneg hms.1, show wrap64 ((i : Int) + 1) = ((i + 1 : Nat) : Int) from by rw [w_id (by omega)]; omega]
theorem units08_ev (slots : List S52) (hl : slots.length < 4398046511104) (hm : ∀ s ∈ slots, maskOk s = true) : Ev (fun k => ensembleref08_Units.f k slots) (addL true (0, 0) slots) := by
 have := units08_l slots hl hm slots.length 0 0 0 (by omega) (by omega)
 rw [List.drop_zero] at this
 exact this
def ended (T : Int) (ends : List S41) : List S41 := ends.filter fun h => decide (h.f2 ≤ T)
def b9_ (l : List S41) : List S52 := l.flatMap fun h => h.f4
theorem slotsOf_cons (h : S41) (l : List S41) : b9_ (h :: l) = h.f4 ++ b9_ l := List.flatMap_cons
theorem slotsOf_append (a b : List S41) : b9_ (a ++ b) = b9_ a ++ b9_ b := List.flatMap_append
theorem sub_slots {a b : List S41} (h : a.Sublist b) : (b9_ a).Sublist (b9_ b) := by
 induction h with
 | slnil => exact List.Sublist.slnil
 | cons x _ ih => rw [slotsOf_cons]; exact ih.trans (List.sublist_append_right _ _)
 | cons_cons x _ ih => rw [slotsOf_cons, slotsOf_cons]; exact List.Sublist.append (List.Sublist.refl _) ih
def leftQ (q : Int) : Int × Int → List S41 → Int × Int
 | a, [] => a
 | a, h :: l => leftQ q (if h.f1 = q then (wrap64 (a.1 + (addL true (0, 0) h.f4).1), wrap64 (a.2 + (addL true (0, 0) h.f4).2)) else a) l
def atB (view : List S51) (lg lc : Int) (ends : List S41) (q m g c mn mx T : Int) : Bool :=
 fitsB (turnF moreE moreF view (b9_ (ended T ends))).1 (leftQ q (lg, lc) (ended T ends)).1 (leftQ q (lg, lc) (ended T ends)).2 m g c mn mx
structure Inp (view : List S51) (ends : List S41) : Prop where
 vl : view.length < 4398046511104
 vf : ∀ f ∈ view, freeOk f = true
 el : ends.length < 1000000
 es : (b9_ ends).length < 4000000000
 sm : ∀ s ∈ b9_ ends, maskOk s = true
theorem Inp.sub {view : List S51} {ends l : List S41} (I : Inp view ends) (h : l.Sublist ends) : Inp view l :=
 have hs : (b9_ l).Sublist (b9_ ends) := sub_slots h
 ⟨I.vl, I.vf, Nat.lt_of_le_of_lt h.length_le I.el, Nat.lt_of_le_of_lt hs.length_le I.es, fun s hs' => I.sm s (hs.subset hs')⟩
theorem Inp.ended {view : List S51} {ends : List S41} (I : Inp view ends) (T : Int) : Inp view (ended T ends) := I.sub List.filter_sublist
def bestF (A : Int → Bool) (now : Int) : Int → List S41 → Int
 | b, [] => b
 | b, h :: l => bestF A now (if h.f2 > now ∧ h.f2 < b ∧ A h.f2 = true then h.f2 else b) l
def refEarly (now : Int) (view : List S51) (lg lc : Int) (ends : List S41) (q m g c mn mx : Int) : Int × Int :=
 if now < 0 ∨ now > 1073741824 ∨ rightB m g c mn mx = false then (0, 1)
 else if (turnF moreE moreF view (b9_ ends)).2 ≠ 0 then (0, (turnF moreE moreF view (b9_ ends)).2)
 else if atB view lg lc ends q m g c mn mx now = true then (now, 0)
 else (bestF (atB view lg lc ends q m g c mn mx) now 1073741825 ends, 0)
def fewP (view : List S51) (lg lc : Int) (ends : List S41) : Prop := view.length ≤ 70 ∧ viewR view ∧ ends.length ≤ 20 ∧ (-1048576 ≤ lg ∧ lg ≤ 1048576) ∧ (-1048576 ≤ lc ∧ lc ≤ 1048576) ∧ ∀ h ∈ ends, h.f4.length ≤ 20
theorem few12_l (ends : List S41) (hl : ends.length ≤ 20) (d : Nat) : ∀ i : Nat, i ≤ ends.length → ends.length - i = d → (∀ h ∈ ends.take i, h.f4.length ≤ 20) →
  (Ev (fun k => ensembleref12_Few.l0 k ends (i : Int)) true ∧ ∀ h ∈ ends, h.f4.length ≤ 20) ∨ Ev (fun k => ensembleref12_Few.l0 k ends (i : Int)) false := by
 induction d with
 | zero =>
  intro i hi hd hc
  obtain rfl : i = ends.length := by omega
  rw [List.take_length] at hc
  exact .inl ⟨Ev.step (f := fun _ => some true) (fun k => by rw [ensembleref12_Few.l0, if_neg (by omega)]) (Ev.now _), hc⟩
 | succ d ih =>
  intro i hi hd hc
  have hil : i < ends.length := by omega
  have e1 : wrap64 ((i : Int) + 1) = ((i + 1 : Nat) : Int) := by rw [w_id (by omega)]; omega
  by_cases h : ((ends[i]).f4.length : Int) > 20
  ·exact .inr (Ev.step (f := fun _ => some false) (fun k => by rw [ensembleref12_Few.l0, if_pos (by omega), if_pos (by omega), rd41' ends i hil, if_pos h]) (Ev.now _))
  ·have hs : ∀ r, Ev (fun k => ensembleref12_Few.l0 k ends ((i + 1 : Nat) : Int)) r → Ev (fun k => ensembleref12_Few.l0 k ends (i : Int)) r := fun r hr =>
    Ev.step (fun k => by rw [ensembleref12_Few.l0, if_pos (by omega), if_pos (by omega), rd41' ends i hil, if_neg h, e1]) hr
   rcases ih (i + 1) (by omega) (by omega) (by
    intro x hx
    rw [List.take_succ_eq_append_getElem hil] at hx
    rcases List.mem_append.1 hx with hx | hx
    ·exact hc x hx
    ·rw [List.mem_singleton.1 hx]; omega) with ⟨h1, h2⟩ | h1
   ·exact .inl ⟨hs _ h1, h2⟩
   ·exact .inr (hs _ h1)
theorem few12_ev (view : List S51) (lg lc : Int) (ends : List S41) : (Ev (fun k => ensembleref12_Few.f k view lg lc ends) true ∧ fewP view lg lc ends) ∨ Ev (fun k => ensembleref12_Few.f k view lg lc ends) false := by
 have JF : Ev (fun k => ensembleref12_Few.j0 k ends true) false := Ev.step (f := fun _ => some false) (fun k => by rw [ensembleref12_Few.j0, if_pos rfl]) (Ev.now _)
 by_cases h1 : (view.length : Int) > 70
 ·exact .inr (Ev.congr (fun k => by unfold ensembleref12_Few.f; rw [if_pos h1]) JF)
 rcases right05_ev view (by omega) with ⟨hR, hv⟩ | hR
 case inr => exact .inr (Ev.congr (fun k => by unfold ensembleref12_Few.f; rw [if_neg h1]) (Ev.bind hR (Ev.congr (fun k => by rw [if_neg (by decide)]) JF)))
 by_cases h2 : (ends.length : Int) > 20
 ·exact .inr (Ev.congr (fun k => by unfold ensembleref12_Few.f; rw [if_neg h1]) (Ev.bind hR (Ev.congr (fun k => by rw [if_pos rfl, if_pos h2]) JF)))
 by_cases h3 : lg < -1048576
 ·exact .inr (Ev.congr (fun k => by unfold ensembleref12_Few.f; rw [if_neg h1]) (Ev.bind hR (Ev.congr (fun k => by rw [if_pos rfl, if_neg h2, if_pos h3]) JF)))
 by_cases h4 : lg > 1048576
 ·exact .inr (Ev.congr (fun k => by unfold ensembleref12_Few.f; rw [if_neg h1]) (Ev.bind hR (Ev.congr (fun k => by rw [if_pos rfl, if_neg h2, if_neg h3, if_pos h4]) JF)))
 by_cases h5 : lc < -1048576
 ·exact .inr (Ev.congr (fun k => by unfold ensembleref12_Few.f; rw [if_neg h1]) (Ev.bind hR (Ev.congr (fun k => by rw [if_pos rfl, if_neg h2, if_neg h3, if_neg h4, if_pos h5]) JF)))
 have hs : ∀ r, Ev (fun k => ensembleref12_Few.j0 k ends (decide (lc > 1048576))) r → Ev (fun k => ensembleref12_Few.f k view lg lc ends) r := fun r hr =>
  Ev.congr (fun k => by unfold ensembleref12_Few.f; rw [if_neg h1]) (Ev.bind hR (Ev.congr (fun k => by rw [if_pos rfl, if_neg h2, if_neg h3, if_neg h4, if_neg h5]) hr))
 by_cases h6 : lc > 1048576
 ·rw [decide_eq_true h6] at hs
  exact .inr (hs _ JF)
 ·rw [decide_eq_false h6] at hs
  rcases few12_l ends (by omega) ends.length 0 (by omega) (by omega) (by simp) with ⟨h7, h8⟩ | h7
  ·exact .inl ⟨hs _ (Ev.step (fun k => by rw [ensembleref12_Few.j0]; exact if_neg (by decide)) h7), by omega, hv, by omega, ⟨by omega, by omega⟩, ⟨by omega, by omega⟩, h8⟩
  ·exact .inr (hs _ (Ev.step (fun k => by rw [ensembleref12_Few.j0]; exact if_neg (by decide)) h7))
def sspot (s : S52) : Int × Int := (s.f0.f0, s.f0.f1)
def atS (f : S51) (l : List S52) : List S52 := l.filter fun s => decide (sspot s = spot f)
def stepV (view : List S51) (s : S52) : List S51 := view.map fun f => if spot f = sspot s then moreF f s else f
def disj (a b : Int) : Prop := a.toNat &&& b.toNat = 0
theorem disj_comm {a b : Int} (h : disj a b) : disj b a := by unfold disj at *; rw [Nat.and_comm]; exact h
structure okF (f : S51) (l : List S52) : Prop where
 own : ∀ s ∈ l, disj s.f1 f.f1
 two : l.Pairwise fun a b => disj a.f1 b.f1
 sum : f.f2 + (l.map fun s => s.f2).sum ≤ 1048576
structure okS (view : List S51) (slots : List S52) : Prop where
 pos : ∀ s ∈ slots, 0 ≤ s.f2 ∧ sspot s ∈ view.map spot
 fit : ∀ f ∈ view, okF f (atS f slots)
def viewS (view : List S51) (slots : List S52) : List S51 := view.map fun f => (atS f slots).foldl moreF f
theorem atS_moreF (f : S51) (s : S52) (l : List S52) : atS (moreF f s) l = atS f l := rfl
theorem stepV_spots (view : List S51) (s : S52) : (stepV view s).map spot = view.map spot := by
 unfold stepV
 rw [List.map_map]
 apply List.map_congr_left
 intro f _
 simp only [Function.comp_apply]
 split <;> rfl
theorem bits_or_bv (a b : Int) : Go.bits .or .u64 a b = ((BitVec.ofInt 64 a ||| BitVec.ofInt 64 b).toNat : Int) := by
 show IntKind.u64.wrap ((BitVec.ofInt 64 a ||| BitVec.ofInt 64 b).toNat : Int) = _
 rw [wrapN, Nat.mod_eq_of_lt (BitVec.isLt _)]
theorem ofInt_toNat (x : BitVec 64) : BitVec.ofInt 64 (x.toNat : Int) = x := by
 rw [BitVec.ofInt_natCast]; simp
theorem or_right_comm (a b c : Int) : Go.bits .or .u64 (Go.bits .or .u64 a b) c = Go.bits .or .u64 (Go.bits .or .u64 a c) b := by
 rw [bits_or_bv, bits_or_bv a b, ofInt_toNat, bits_or_bv, bits_or_bv a c, ofInt_toNat, BitVec.or_assoc, BitVec.or_comm (BitVec.ofInt 64 b), ← BitVec.or_assoc]
theorem wrap_right_comm (a b c : Int) : wrap64 (wrap64 (a + b) + c) = wrap64 (wrap64 (a + c) + b) := by unfold wrap64; omega
theorem moreF_comm (f : S51) (a b : S52) : moreF (moreF f a) b = moreF (moreF f b) a := by
 unfold moreF
 rw [or_right_comm, wrap_right_comm]
theorem and_iff_disj {a b : Int} (ha : 0 ≤ a ∧ a < 18446744073709551616) (hb : 0 ≤ b ∧ b < 18446744073709551616) : Go.bits .and .u64 a b = 0 ↔ disj a b := by
 rw [bits_and_z ha hb]; unfold disj; omega
theorem disj_or {a b c : Int} (ha : 0 ≤ a ∧ a < 18446744073709551616) (hb : 0 ≤ b ∧ b < 18446744073709551616) : disj c (Go.bits .or .u64 a b) ↔ disj c a ∧ disj c b := by
 obtain ⟨x, rfl⟩ := Int.eq_ofNat_of_zero_le ha.1
 obtain ⟨y, rfl⟩ := Int.eq_ofNat_of_zero_le hb.1
 rw [bits_or_u64_nat x y (by omega) (by omega)]
 unfold disj
 rw [Int.toNat_natCast, Int.toNat_natCast, Int.toNat_natCast, Nat.and_or_distrib_left, Nat.or_eq_zero_iff]
theorem moreE_iff {f : S51} {s : S52} (hf : freeOk f = true) (hc : cpOk f) (hs : maskOk s = true) (h0 : 0 ≤ s.f2) : moreE f s = 0 ↔ disj s.f1 f.f1 ∧ f.f2 + s.f2 ≤ 1048576 := by
 have h1 := freeOk_out hf
 have h2 := maskOk_out hs
 unfold cpOk at hc
 unfold moreE
 rw [show wrap64 (1048576 - f.f2) = 1048576 - f.f2 from w_id (by omega)]
 by_cases hd : disj s.f1 f.f1
 ·rw [if_neg (fun x => x ((and_iff_disj h2 h1.1).2 hd))]
  by_cases h : s.f2 > 1048576 - f.f2
  ·rw [if_pos h]; constructor
   ·intro x; cases x
   ·intro x; omega
  ·rw [if_neg h]; exact ⟨fun _ => ⟨hd, by omega⟩, fun _ => rfl⟩
 ·rw [if_pos (fun x => hd ((and_iff_disj h2 h1.1).1 x))]; constructor
  ·intro x; cases x
  ·intro x; exact absurd x.1 hd
theorem okF_cons {f : S51} {s : S52} {l : List S52} (hf : freeOk f = true) (hc : cpOk f) (hs : maskOk s = true) (h0 : 0 ≤ s.f2) (hl : ∀ x ∈ l, 0 ≤ x.f2) :
  okF f (s :: l) ↔ moreE f s = 0 ∧ okF (moreF f s) l := by
 have h1 := freeOk_out hf
 have h2 := maskOk_out hs
 rw [moreE_iff hf hc hs h0]
 have hsum : 0 ≤ (l.map fun s => s.f2).sum := by
  clear h1 h2 hc
  induction l with
  | nil => simp
  | cons x l ih =>
   have := hl x (by simp)
   have := ih (fun y hy => hl y (by simp [hy]))
   rw [List.map_cons, List.sum_cons]; omega
 unfold cpOk at hc
 have hw : f.f2 + s.f2 ≤ 1048576 → (moreF f s).f2 = f.f2 + s.f2 := fun h => by unfold moreF; exact w_id (by omega)
 constructor
 ·rintro ⟨a, b, c⟩
  rw [List.map_cons, List.sum_cons] at c
  have hb := List.pairwise_cons.1 b
  refine ⟨⟨a s (by simp), by omega⟩, fun x hx => ?_, hb.2, ?_⟩
  ·show disj x.f1 (Go.bits .or .u64 f.f1 s.f1)
   exact (disj_or h1.1 h2).2 ⟨a x (by simp [hx]), disj_comm (hb.1 x hx)⟩
  ·rw [hw (by omega)]; omega
 ·rintro ⟨⟨a, b⟩, c, d, e⟩
  rw [hw b] at e
  refine ⟨fun x hx => ?_, List.pairwise_cons.2 ⟨fun x hx => ?_, d⟩, ?_⟩
  ·rcases List.mem_cons.1 hx with rfl | hx
   ·exact a
   ·exact ((disj_or h1.1 h2).1 (c x hx)).1
  ·exact disj_comm ((disj_or h1.1 h2).1 (c x hx)).2
  ·rw [List.map_cons, List.sum_cons]; omega
theorem set_step {view : List S51} (hn : (view.map spot).Nodup) {s : S52} {p : Nat} (hp : findI view s.f0.f0 s.f0.f1 = (p : Int)) :
  ∃ h : p < view.length, spot view[p] = sspot s ∧ view.set p (moreF view[p] s) = stepV view s ∧ ∀ f ∈ view, spot f = sspot s → f = view[p] := by
 unfold findI at hp
 cases hf : view.findIdx? (isAt s.f0.f0 s.f0.f1) with
 | none => rw [hf] at hp; simp only at hp; omega
 | some j =>
  rw [hf] at hp
  simp only at hp
  obtain rfl : j = p := by omega
  rw [List.findIdx?_eq_some_iff_getElem] at hf
  obtain ⟨hj, h1, _⟩ := hf
  have hs := isAt_iff.1 h1
  have huniq : ∀ i (hi : i < view.length), spot view[i] = sspot s → i = j := fun i hi he => by
   have hn' := List.pairwise_iff_getElem.1 hn
   rcases Nat.lt_trichotomy i j with h | h | h
   ·exact absurd (by rw [List.getElem_map, List.getElem_map, he, hs]; rfl) (hn' i j (by simpa using hi) (by simpa using hj) h)
   ·exact h
   ·exact absurd (by rw [List.getElem_map, List.getElem_map, he, hs]; rfl) (hn' j i (by simpa using hj) (by simpa using hi) h)
  refine ⟨hj, hs, ?_, fun f hf he => ?_⟩
  ·unfold stepV
   apply List.ext_getElem
   ·simp
   ·intro i h1 h2
    rw [List.getElem_set, List.getElem_map]
    rw [List.length_set] at h1
    by_cases hij : j = i
    ·subst hij
     rw [if_pos rfl, if_pos (show spot view[j] = sspot s from hs)]
    ·rw [if_neg hij, if_neg (fun h => hij (huniq i h1 h).symm)]
  ·obtain ⟨i, hi, rfl⟩ := List.mem_iff_getElem.1 hf
   have := huniq i hi he
   subst this; rfl
structure View (view : List S51) : Prop where
 right : viewR view
 free : ∀ f ∈ view, freeOk f = true
theorem stepV_mem {view : List S51} {s : S52} {P : S51 → Prop} : (∀ f ∈ stepV view s, P f) ↔ ∀ f ∈ view, P (if spot f = sspot s then moreF f s else f) := by
 unfold stepV
 simp only [List.mem_map]
 constructor
 ·intro h f hf; exact h _ ⟨f, hf, rfl⟩
 ·rintro h f ⟨g, hg, rfl⟩; exact h g hg
theorem View.step {view : List S51} (V : View view) {s : S52} (hs : maskOk s = true) (h0 : 0 ≤ s.f2) (hE : ∀ f ∈ view, spot f = sspot s → moreE f s = 0) : View (stepV view s) := by
 refine ⟨⟨stepV_mem.2 fun f hf => ?_, by rw [stepV_spots]; exact V.right.2⟩, stepV_mem.2 fun f hf => ?_⟩
 ·split
  ·rename_i h
   have h1 := (moreE_iff (V.free f hf) (V.right.1 f hf) hs h0).1 (hE f hf h)
   have h2 := V.right.1 f hf
   unfold cpOk at h2 ⊢
   have : (moreF f s).f2 = f.f2 + s.f2 := by unfold moreF; exact w_id (by omega)
   omega
  ·exact V.right.1 f hf
 ·split
  ·exact moreF_ok (V.free f hf) hs
  ·exact V.free f hf
theorem atS_cons (f : S51) (s : S52) (l : List S52) : atS f (s :: l) = if sspot s = spot f then s :: atS f l else atS f l := by
 unfold atS
 by_cases h : sspot s = spot f
 ·rw [if_pos h, List.filter_cons_of_pos (by simpa using h)]
 ·rw [if_neg h, List.filter_cons_of_neg (by simpa using h)]
theorem viewS_step (view : List S51) (s : S52) (l : List S52) : viewS (stepV view s) l = viewS view (s :: l) := by
 unfold viewS stepV
 rw [List.map_map]
 apply List.map_congr_left
 intro f _
 simp only [Function.comp_apply]
 by_cases h : spot f = sspot s
 ·rw [if_pos h, atS_moreF, atS_cons, if_pos h.symm]; rfl
 ·rw [if_neg h, atS_cons, if_neg (fun x => h x.symm)]
theorem turnF_iff : ∀ (slots : List S52) (view : List S51), View view → (∀ s ∈ slots, maskOk s = true) →
  ((turnF moreE moreF view slots).2 = 0 ↔ okS view slots) ∧ ((turnF moreE moreF view slots).2 = 0 → (turnF moreE moreF view slots).1 = viewS view slots)
 | [], view, V, _ => by
  refine ⟨⟨fun _ => ⟨by simp, fun f hf => ⟨by simp [atS], by simp [atS], ?_⟩⟩, fun _ => rfl⟩, fun _ => ?_⟩
  ·have := V.right.1 f hf
   unfold cpOk at this
   simp [atS]; omega
  ·unfold viewS atS turnF; simp
 | s :: ss, view, V, hm => by
  have hms := hm s (by simp)
  rw [turnF]
  by_cases h1 : s.f2 < 0
  ·rw [if_pos h1]
   exact ⟨⟨fun h => (by cases h), fun h => (by have := (h.pos s (by simp)).1; omega)⟩, fun h => (by cases h)⟩
  rw [if_neg h1]
  by_cases h2 : findI view s.f0.f0 s.f0.f1 < 0
  ·rw [if_pos h2]
   have hn := findI_neg.1 h2
   exact ⟨⟨fun h => (by cases h), fun h => absurd (h.pos s (by simp)).2 hn⟩, fun h => (by cases h)⟩
  rw [if_neg h2]
  obtain ⟨p, hp⟩ := Int.eq_ofNat_of_zero_le (show 0 ≤ findI view s.f0.f0 s.f0.f1 by omega)
  obtain ⟨hpl, hps, hset, huni⟩ := set_step V.right.2 hp
  have hin : sspot s ∈ view.map spot := List.mem_map.2 ⟨view[p], List.getElem_mem hpl, hps⟩
  rw [hp, Int.toNat_natCast, rd51' view p hpl]
  have hfp := V.free _ (List.getElem_mem hpl)
  have hcp := V.right.1 _ (List.getElem_mem hpl)
  have hall : (∀ f ∈ view, spot f = sspot s → moreE f s = 0) ↔ moreE view[p] s = 0 :=
   ⟨fun h => h _ (List.getElem_mem hpl) hps, fun h f hf he => by rw [huni f hf he]; exact h⟩
  by_cases h3 : moreE view[p] s = 0
  ·rw [if_pos h3, hset]
   have V' := V.step hms (by omega) (hall.2 h3)
   have ih := turnF_iff ss (stepV view s) V' (fun x hx => hm x (by simp [hx]))
   have hiff : okS (stepV view s) ss ↔ okS view (s :: ss) := by
    constructor
    ·rintro ⟨a, b⟩
     have hpos : ∀ x ∈ s :: ss, 0 ≤ x.f2 ∧ sspot x ∈ view.map spot := fun x hx => by
      rcases List.mem_cons.1 hx with rfl | hx
      ·exact ⟨by omega, hin⟩
      ·have := a x hx; rw [stepV_spots] at this; exact this
     refine ⟨hpos, fun f hf => ?_⟩
     have hb := stepV_mem.1 b f hf
     rw [atS_cons]
     by_cases he : spot f = sspot s
     ·rw [if_pos he, atS_moreF] at hb
      rw [if_pos he.symm]
      exact (okF_cons (V.free f hf) (V.right.1 f hf) hms (by omega) (fun x hx => (hpos x (by simp [(List.mem_filter.1 hx).1])).1)).2 ⟨hall.2 h3 f hf he, hb⟩
     ·rw [if_neg he] at hb
      rw [if_neg (fun x => he x.symm)]
      exact hb
    ·rintro ⟨a, b⟩
     refine ⟨fun x hx => by rw [stepV_spots]; exact a x (by simp [hx]), stepV_mem.2 fun f hf => ?_⟩
     have hb := b f hf
     rw [atS_cons] at hb
     by_cases he : spot f = sspot s
     ·rw [if_pos he.symm] at hb
      rw [if_pos he, atS_moreF]
      exact ((okF_cons (V.free f hf) (V.right.1 f hf) hms (by omega) (fun x hx => (a x (by simp [(List.mem_filter.1 hx).1])).1)).1 hb).2
     ·rw [if_neg (fun x => he x.symm)] at hb
      rw [if_neg he]; exact hb
   exact ⟨ih.1.trans hiff, fun h => by rw [ih.2 h, viewS_step]⟩
  ·rw [if_neg h3]
   refine ⟨⟨fun h => absurd h h3, fun h => ?_⟩, fun h => absurd h h3⟩
   have hb := h.fit _ (List.getElem_mem hpl)
   rw [atS_cons, if_pos hps.symm] at hb
   exact absurd ((okF_cons hfp hcp hms (by omega) (fun x hx => (h.pos x (by simp [(List.mem_filter.1 hx).1])).1)).1 hb).1 h3
theorem perm_sum {l l' : List Int} (h : l.Perm l') : l.sum = l'.sum := by
 induction h with
 | nil => rfl
 | cons x _ ih => rw [List.sum_cons, List.sum_cons, ih]
 | swap x y l => rw [List.sum_cons, List.sum_cons, List.sum_cons, List.sum_cons]; omega
 | trans _ _ h1 h2 => exact h1.trans h2
theorem sub_sum {l l' : List S52} (h : l'.Sublist l) : (∀ s ∈ l, 0 ≤ s.f2) → (l'.map fun s => s.f2).sum ≤ (l.map fun s => s.f2).sum := by
 induction h with
 | slnil => intro _; simp
 | cons x _ ih =>
  intro h0
  have h1 := ih (fun s hs => h0 s (by simp [hs]))
  have h2 := h0 x (by simp)
  rw [List.map_cons, List.sum_cons]; omega
 | cons_cons x _ ih =>
  intro h0
  have h1 := ih (fun s hs => h0 s (by simp [hs]))
  rw [List.map_cons, List.sum_cons, List.map_cons, List.sum_cons]; omega
theorem okF_perm {f : S51} {l l' : List S52} (h : l.Perm l') : okF f l → okF f l' := fun ⟨a, b, c⟩ =>
 ⟨fun s hs => a s (h.mem_iff.2 hs), (h.pairwise_iff (fun {x y} hxy => disj_comm hxy)).1 b, by rw [← perm_sum (h.map fun s => s.f2)]; exact c⟩
theorem okF_sub {f : S51} {l l' : List S52} (h : l'.Sublist l) (h0 : ∀ s ∈ l, 0 ≤ s.f2) : okF f l → okF f l' := fun ⟨a, b, c⟩ => by
 refine ⟨fun s hs => a s (h.subset hs), b.sublist h, ?_⟩
 have := sub_sum h h0
 omega
theorem okS_perm {view : List S51} {l l' : List S52} (h : l.Perm l') : okS view l → okS view l' := fun ⟨a, b⟩ =>
 ⟨fun s hs => a s (h.mem_iff.2 hs), fun f hf => okF_perm (h.filter _) (b f hf)⟩
theorem okS_sub {view : List S51} {l l' : List S52} (h : l'.Sublist l) : okS view l → okS view l' := fun ⟨a, b⟩ =>
 ⟨fun s hs => a s (h.subset hs), fun f hf => okF_sub (h.filter _) (fun s hs => (a s (List.mem_filter.1 hs).1).1) (b f hf)⟩
theorem viewS_perm {view : List S51} {l l' : List S52} (h : l.Perm l') : viewS view l = viewS view l' := by
 unfold viewS
 apply List.map_congr_left
 intro f _
 exact (h.filter _).foldl_eq' (fun x _ y _ z => moreF_comm z x y) _
theorem turnF_append {E : S51 → S52 → Int} {F : S51 → S52 → S51} : ∀ (a b : List S52) (view : List S51), (turnF E F view a).2 = 0 → turnF E F view (a ++ b) = turnF E F (turnF E F view a).1 b
 | [], b, view, _ => rfl
 | s :: ss, b, view, h => by
  rw [turnF] at h
  rw [List.cons_append, turnF, turnF]
  by_cases h1 : s.f2 < 0
  ·rw [if_pos h1] at h; cases h
  rw [if_neg h1] at h
  rw [if_neg h1, if_neg h1]
  by_cases h2 : findI view s.f0.f0 s.f0.f1 < 0
  ·rw [if_pos h2] at h; cases h
  rw [if_neg h2] at h
  rw [if_neg h2, if_neg h2]
  by_cases h3 : E (a4_ view (findI view s.f0.f0 s.f0.f1)) s = 0
  ·rw [if_pos h3] at h
   rw [if_pos h3, if_pos h3]
   exact turnF_append ss b _ h
  ·rw [if_neg h3] at h; exact absurd h h3
def popS (l : List S52) : Int := (l.map fun s => popI s.f1).sum
def cpS (l : List S52) : Int := (l.map fun s => s.f2).sum
def I64P (a : Int × Int) : Prop := (-9223372036854775808 ≤ a.1 ∧ a.1 ≤ 9223372036854775807) ∧ -9223372036854775808 ≤ a.2 ∧ a.2 ≤ 9223372036854775807
theorem wrap_bd (x : Int) : -9223372036854775808 ≤ wrap64 x ∧ wrap64 x ≤ 9223372036854775807 := by unfold wrap64; omega
theorem wrap_add (a b : Int) : wrap64 (wrap64 a + b) = wrap64 (a + b) := by unfold wrap64; omega
theorem wrap_add' (a b : Int) : wrap64 (a + wrap64 b) = wrap64 (a + b) := by unfold wrap64; omega
theorem addL_true : ∀ (l : List S52) (a : Int × Int), I64P a → addL true a l = (wrap64 (a.1 + popS l), wrap64 (a.2 + cpS l))
 | [], a, h => by
  unfold I64P at h
  have e1 : wrap64 (a.1 + popS []) = a.1 := by rw [show popS [] = 0 from rfl, Int.add_zero]; exact w_id (by omega)
  have e2 : wrap64 (a.2 + cpS []) = a.2 := by rw [show cpS [] = 0 from rfl, Int.add_zero]; exact w_id (by omega)
  rw [e1, e2]; rfl
 | s :: l, a, h => by
  have e : addL true a (s :: l) = addL true (addU true a s) l := rfl
  have e2 : addU true a s = (wrap64 (a.1 + popI s.f1), wrap64 (a.2 + s.f2)) := if_pos rfl
  rw [e, e2, addL_true l _ ⟨wrap_bd _, wrap_bd _⟩]
  simp only
  rw [wrap_add, wrap_add]
  simp only [popS, cpS, List.map_cons, List.sum_cons]
  rw [Int.add_assoc, Int.add_assoc]
theorem addL_false (l : List S52) : ∀ a : Int × Int, addL false a l = a := by
 induction l with
 | nil => intro a; rfl
 | cons s l ih => intro a; exact ih a
theorem addL_left (l : List S52) (a : Int × Int) (h : I64P a) : addL true a l = (wrap64 (a.1 + (addL true (0, 0) l).1), wrap64 (a.2 + (addL true (0, 0) l).2)) := by
 rw [addL_true l a h, addL_true l (0, 0) ⟨by simp, by simp⟩]
 simp only
 rw [wrap_add', wrap_add', Int.zero_add, Int.zero_add]
def qPop (q : Int) (L : List S41) : Int := ((L.filter fun h => decide (h.f1 = q)).map fun h => popS h.f4).sum
def qCp (q : Int) (L : List S41) : Int := ((L.filter fun h => decide (h.f1 = q)).map fun h => cpS h.f4).sum
theorem leftQ_eq (q : Int) : ∀ (L : List S41) (a : Int × Int), I64P a → leftQ q a L = (wrap64 (a.1 + qPop q L), wrap64 (a.2 + qCp q L))
 | [], a, h => by
  unfold I64P at h
  have e1 : wrap64 (a.1 + qPop q []) = a.1 := by rw [show qPop q [] = 0 from rfl, Int.add_zero]; exact w_id (by omega)
  have e2 : wrap64 (a.2 + qCp q []) = a.2 := by rw [show qCp q [] = 0 from rfl, Int.add_zero]; exact w_id (by omega)
  rw [e1, e2]; rfl
 | x :: L, a, h => by
  rw [leftQ]
  by_cases hq : x.f1 = q
  ·rw [if_pos hq, ← addL_left x.f4 a h, addL_true x.f4 a h, leftQ_eq q L _ ⟨wrap_bd _, wrap_bd _⟩]
   simp only
   rw [wrap_add, wrap_add]
   unfold qPop qCp
   rw [List.filter_cons_of_pos (by simpa using hq), List.map_cons, List.map_cons, List.sum_cons, List.sum_cons, Int.add_assoc, Int.add_assoc]
  ·rw [if_neg hq, leftQ_eq q L a h]
   unfold qPop qCp
   rw [List.filter_cons_of_neg (by simpa using hq)]
theorem leftQ_perm {q : Int} {L L' : List S41} (h : L.Perm L') (a : Int × Int) (ha : I64P a) : leftQ q a L = leftQ q a L' := by
 rw [leftQ_eq q L a ha, leftQ_eq q L' a ha]
 unfold qPop qCp
 rw [perm_sum ((h.filter _).map _), perm_sum ((h.filter _).map fun h => cpS h.f4)]
theorem leftQ_snoc (q : Int) : ∀ (L : List S41) (x : S41) (a : Int × Int), I64P a → leftQ q a (L ++ [x]) = addL (decide (x.f1 = q)) (leftQ q a L) x.f4
 | [], x, a, h => by
  rw [List.nil_append, leftQ, leftQ, leftQ]
  by_cases hq : x.f1 = q
  ·rw [if_pos hq, decide_eq_true hq, addL_left x.f4 a h]
  ·rw [if_neg hq, decide_eq_false hq, addL_false]
 | y :: L, x, a, h => by
  rw [List.cons_append, leftQ, leftQ]
  refine leftQ_snoc q L x _ ?_
  split
  ·exact ⟨wrap_bd _, wrap_bd _⟩
  ·exact h
def IsBest (A : Int → Bool) (t : Int) (L : List S41) (b : Int) : Prop :=
 (b = 1073741825 ∨ ∃ h ∈ L, h.f2 = b ∧ t < b ∧ b < 1073741825 ∧ A b = true) ∧ b ≤ 1073741825 ∧ ∀ h ∈ L, t < h.f2 → h.f2 < 1073741825 → A h.f2 = true → b ≤ h.f2
def IsE (A : Int → Bool) (t : Int) (L : List S41) (b : Int) : Prop := (A t = true ∧ b = t) ∨ (A t = false ∧ IsBest A t L b)
theorem bestF_spec (A : Int → Bool) (now : Int) : ∀ (l : List S41) (b : Int), (bestF A now b l = b ∨ ∃ h ∈ l, h.f2 = bestF A now b l ∧ now < bestF A now b l ∧ bestF A now b l < b ∧ A (bestF A now b l) = true) ∧ bestF A now b l ≤ b ∧ ∀ h ∈ l, now < h.f2 → h.f2 < b → A h.f2 = true → bestF A now b l ≤ h.f2
 | [], b => ⟨.inl rfl, Int.le_refl _, by simp⟩
 | x :: l, b => by
  rw [bestF]
  by_cases h : x.f2 > now ∧ x.f2 < b ∧ A x.f2 = true
  ·rw [if_pos h]
   obtain ⟨i1, i2, i3⟩ := bestF_spec A now l x.f2
   refine ⟨.inr ?_, by omega, fun y hy h1 h2 h3 => ?_⟩
   ·rcases i1 with i1 | ⟨y, hy, i4, i5, i6, i7⟩
    ·exact ⟨x, by simp, i1.symm, by omega, by omega, by rw [i1]; exact h.2.2⟩
    ·exact ⟨y, by simp [hy], i4, i5, by omega, i7⟩
   ·rcases List.mem_cons.1 hy with rfl | hy
    ·exact i2
    ·by_cases hlt : y.f2 < x.f2
     ·exact i3 y hy h1 hlt h3
     ·omega
  ·rw [if_neg h]
   obtain ⟨i1, i2, i3⟩ := bestF_spec A now l b
   refine ⟨?_, i2, fun y hy h1 h2 h3 => ?_⟩
   ·rcases i1 with i1 | ⟨y, hy, i4⟩
    ·exact .inl i1
    ·exact .inr ⟨y, by simp [hy], i4⟩
   ·rcases List.mem_cons.1 hy with rfl | hy
    ·exact absurd ⟨h1, h2, h3⟩ h
    ·exact i3 y hy h1 h2 h3
theorem bestF_best (A : Int → Bool) (now : Int) (l : List S41) : IsBest A now l (bestF A now 1073741825 l) := bestF_spec A now l 1073741825
theorem IsBest.uniq {A : Int → Bool} {t : Int} {L L' : List S41} {b b' : Int} (h : IsBest A t L b) (h' : IsBest A t L' b') (hm : ∀ x, x ∈ L ↔ x ∈ L') : b = b' := by
 obtain ⟨h1, h2, h3⟩ := h
 obtain ⟨k1, k2, k3⟩ := h'
 have a : b ≤ b' := by
  rcases k1 with rfl | ⟨x, hx, rfl, k4, k5, k6⟩
  ·exact h2
  ·exact h3 x ((hm x).2 hx) k4 k5 k6
 have a' : b' ≤ b := by
  rcases h1 with rfl | ⟨x, hx, rfl, k4, k5, k6⟩
  ·exact k2
  ·exact k3 x ((hm x).1 hx) k4 k5 k6
 omega
theorem IsE.uniq {A : Int → Bool} {t : Int} {L L' : List S41} {b b' : Int} (h : IsE A t L b) (h' : IsE A t L' b') (hm : ∀ x, x ∈ L ↔ x ∈ L') : b = b' := by
 rcases h with ⟨h1, h2⟩ | ⟨h1, h2⟩ <;> rcases h' with ⟨k1, k2⟩ | ⟨k1, k2⟩
 ·omega
 ·rw [h1] at k1; cases k1
 ·rw [h1] at k1; cases k1
 ·exact h2.uniq k2 hm
theorem slotsOf_perm {a b : List S41} (h : a.Perm b) : (b9_ a).Perm (b9_ b) := by
 induction h with
 | nil => exact List.Perm.refl _
 | cons x _ ih => rw [slotsOf_cons, slotsOf_cons]; exact ih.append_left _
 | swap x y l =>
  rw [slotsOf_cons, slotsOf_cons, slotsOf_cons, slotsOf_cons, ← List.append_assoc, ← List.append_assoc]
  exact List.perm_append_comm.append_right _
 | trans _ _ h1 h2 => exact h1.trans h2
structure Fine (view : List S51) (lg lc : Int) (ends : List S41) : Prop where
 V : View view
 I : Inp view ends
 L : I64P (lg, lc)
 ok : okS view (b9_ ends)
theorem Fine.turn {view : List S51} {lg lc : Int} {ends : List S41} (F : Fine view lg lc ends) {l l' : List S52} (hp : l'.Perm (b9_ ends)) (hs : l.Sublist l') :
  (turnF moreE moreF view l).2 = 0 ∧ (turnF moreE moreF view l).1 = viewS view l := by
 have hm : ∀ s ∈ l, maskOk s = true := fun s h => F.I.sm s (hp.mem_iff.1 (hs.subset h))
 have h := turnF_iff l view F.V hm
 have h0 := h.1.2 (okS_sub hs (okS_perm hp.symm F.ok))
 exact ⟨h0, h.2 h0⟩
theorem ended_append (T : Int) (a b : List S41) : ended T (a ++ b) = ended T a ++ ended T b := List.filter_append ..
theorem ended_all {T : Int} {l : List S41} (h : ∀ x ∈ l, x.f2 ≤ T) : ended T l = l := List.filter_eq_self.2 fun x hx => by simpa using h x hx
theorem ended_none {T : Int} {l : List S41} (h : ∀ x ∈ l, T < x.f2) : ended T l = [] := List.filter_eq_nil_iff.2 fun x hx => by have := h x hx; simp; omega
theorem fits_pre {view : List S51} {lg lc : Int} {ends : List S41} (F : Fine view lg lc ends) (q m g c mn mx T : Int) {S pre l : List S41} (hS : S.Perm ends) (he : S = pre ++ l) (h1 : ∀ x ∈ pre, x.f2 ≤ T) (h2 : ∀ x ∈ l, T < x.f2) :
  fitsB (turnF moreE moreF view (b9_ pre)).1 (leftQ q (lg, lc) pre).1 (leftQ q (lg, lc) pre).2 m g c mn mx = atB view lg lc ends q m g c mn mx T := by
 have hp : pre.Perm (ended T ends) := by
  have h := hS.filter (fun h => decide (h.f2 ≤ T))
  have e : S.filter (fun h => decide (h.f2 ≤ T)) = pre := by
   show ended T S = pre
   rw [he, ended_append, ended_all h1, ended_none h2, List.append_nil]
  rw [e] at h
  exact h
 have t1 := F.turn (l := b9_ pre) (slotsOf_perm hS) (by rw [he, slotsOf_append]; exact List.sublist_append_left _ _)
 have t2 := F.turn (l := b9_ (ended T ends)) (List.Perm.refl _) (sub_slots List.filter_sublist)
 unfold atB
 rw [t1.2, t2.2, viewS_perm (slotsOf_perm hp), leftQ_perm hp (lg, lc) F.L]
theorem goE_is {view : List S51} {lg lc : Int} {ends : List S41} (F : Fine view lg lc ends) (q m g c mn mx : Int) {S : List S41} (hS : S.Perm ends) (hsort : S.Pairwise fun a b => a.f2 ≤ b.f2) :
  ∀ (l pre : List S41) (t : Int), S = pre ++ l → (∀ x ∈ pre, x.f2 ≤ t) → IsE (atB view lg lc ends q m g c mn mx) t S (goE q m g c mn mx l t (turnF moreE moreF view (b9_ pre)).1 (leftQ q (lg, lc) pre))
 | [], pre, t, he, h1 => by
  have hf := fits_pre F q m g c mn mx t hS he h1 (by simp)
  rw [goE, hf]
  cases hA : atB view lg lc ends q m g c mn mx t with
  | true => exact .inl ⟨hA, if_pos rfl⟩
  | false =>
   refine .inr ⟨hA, ?_⟩
   rw [if_neg (by decide)]
   refine ⟨.inl rfl, Int.le_refl _, fun h hh h2 => ?_⟩
   rw [he, List.append_nil] at hh
   have := h1 h hh
   omega
 | x :: l, pre, t, he, h1 => by
  have hx : ∀ y ∈ l, x.f2 ≤ y.f2 := by
   rw [he] at hsort
   exact (List.pairwise_cons.1 (List.pairwise_append.1 hsort).2.1).1
  have he' : S = (pre ++ [x]) ++ l := by rw [he]; simp
  have t1 := F.turn (l := b9_ pre) (slotsOf_perm hS) (by rw [he, slotsOf_append]; exact List.sublist_append_left _ _)
  have hsp : ((turnF moreE moreF view (b9_ pre)).1.map spot).Nodup := by
   rw [t1.2]
   have : (viewS view (b9_ pre)).map spot = view.map spot := by
    unfold viewS
    rw [List.map_map]
    apply List.map_congr_left
    intro f _
    simp only [Function.comp_apply]
    generalize atS f (b9_ pre) = sl
    have : ∀ (sl : List S52) (f : S51), spot (sl.foldl moreF f) = spot f := fun sl => by
     induction sl with
     | nil => intro f; rfl
     | cons s sl ih => intro f; rw [List.foldl_cons, ih]; rfl
    exact this sl f
   rw [this]; exact F.V.right.2
  have hv : (turned51 moreE moreF (turnF moreE moreF view (b9_ pre)).1 x.f4).1 = (turnF moreE moreF view (b9_ (pre ++ [x]))).1 := by
   rw [turned51_find (F := moreF) (fun _ _ => rfl) hsp, slotsOf_append, show b9_ [x] = x.f4 by simp [b9_], turnF_append _ _ _ t1.1]
  have hl := leftQ_snoc q pre x (lg, lc) F.L
  have IH := goE_is F q m g c mn mx hS hsort l (pre ++ [x])
  rw [goE, hv, ← hl]
  by_cases h2 : x.f2 > t
  ·have hgt : ∀ y ∈ x :: l, t < y.f2 := fun y hy => by
    rcases List.mem_cons.1 hy with rfl | hy
    ·exact h2
    ·have := hx y hy; omega
   have hf := fits_pre F q m g c mn mx t hS he h1 hgt
   rw [if_pos h2, hf]
   cases hA : atB view lg lc ends q m g c mn mx t with
   | true => exact .inl ⟨hA, if_pos rfl⟩
   | false =>
    rw [if_neg (by decide)]
    refine .inr ⟨hA, ?_⟩
    by_cases h3 : x.f2 ≥ 1073741825
    ·rw [if_pos h3]
     refine ⟨.inl rfl, Int.le_refl _, fun y hy h4 h5 => ?_⟩
     rw [he] at hy
     rcases List.mem_append.1 hy with hy | hy
     ·have := h1 y hy; omega
     ·rcases List.mem_cons.1 hy with rfl | hy
      ·omega
      ·have := hx y hy; omega
    ·rw [if_neg h3]
     have i := IH x.f2 he' (fun y hy => by
      rcases List.mem_append.1 hy with hy | hy
      ·have := h1 y hy; omega
      ·rw [List.mem_singleton.1 hy]; exact Int.le_refl _)
     generalize goE q m g c mn mx l x.f2 (turnF moreE moreF view (b9_ (pre ++ [x]))).1 (leftQ q (lg, lc) (pre ++ [x])) = r at *
     have hxS : x ∈ S := by rw [he]; simp
     have hmem : ∀ y ∈ S, t < y.f2 → x.f2 ≤ y.f2 := fun y hy h => by
      rw [he] at hy
      rcases List.mem_append.1 hy with hy | hy
      ·have := h1 y hy; omega
      ·rcases List.mem_cons.1 hy with rfl | hy
       ·exact Int.le_refl _
       ·exact hx y hy
     rcases i with ⟨i1, rfl⟩ | ⟨i1, i2, i3, i4⟩
     ·exact ⟨.inr ⟨x, hxS, rfl, h2, by omega, i1⟩, by omega, fun y hy h _ _ => hmem y hy h⟩
     ·refine ⟨?_, i3, fun y hy h4 h5 h6 => ?_⟩
      ·rcases i2 with i2 | ⟨y, hy, j1, j2, j3, j4⟩
       ·exact .inl i2
       ·exact .inr ⟨y, hy, j1, by omega, j3, j4⟩
      ·have h7 := hmem y hy h4
       by_cases h8 : x.f2 = y.f2
       ·rw [← h8, i1] at h6; cases h6
       ·exact i4 y hy (by omega) h5 h6
  ·rw [if_neg h2]
   exact IH t he' (fun y hy => by
    rcases List.mem_append.1 hy with hy | hy
    ·exact h1 y hy
    ·rw [List.mem_singleton.1 hy]; omega)
theorem goE_early {view : List S51} {lg lc : Int} {ends : List S41} (F : Fine view lg lc ends) (q m g c mn mx now : Int) :
  IsE (atB view lg lc ends q m g c mn mx) now ends (goE q m g c mn mx (isort skey41 ends) now view (lg, lc)) := by
 have hp := isort_perm skey41 ends
 have h := goE_is F q m g c mn mx hp (isort_sorted skey41 ends) (isort skey41 ends) [] now rfl (by simp)
 have e : (turnF moreE moreF view (b9_ [])).1 = view := rfl
 have e2 : leftQ q (lg, lc) [] = (lg, lc) := rfl
 rw [e, e2] at h
 rcases h with h | ⟨h1, h2, h3, h4⟩
 ·exact .inl h
 ·refine .inr ⟨h1, ?_, h3, fun y hy => h4 y (hp.mem_iff.2 hy)⟩
  rcases h2 with h2 | ⟨y, hy, h5⟩
  ·exact .inl h2
  ·exact .inr ⟨y, hp.mem_iff.1 hy, h5⟩
theorem refEarly_is {view : List S51} {lg lc : Int} {ends : List S41} (q m g c mn mx now : Int) (h0 : ¬ (now < 0 ∨ now > 1073741824 ∨ rightB m g c mn mx = false)) (hok : (turnF moreE moreF view (b9_ ends)).2 = 0) :
  ∃ b, refEarly now view lg lc ends q m g c mn mx = (b, 0) ∧ IsE (atB view lg lc ends q m g c mn mx) now ends b := by
 unfold refEarly
 rw [if_neg h0, if_neg (fun x => x hok)]
 cases hA : atB view lg lc ends q m g c mn mx now with
 | true => exact ⟨now, by simp, .inl ⟨hA, rfl⟩⟩
 | false => exact ⟨bestF (atB view lg lc ends q m g c mn mx) now 1073741825 ends, by simp, .inr ⟨hA, bestF_best _ _ _⟩⟩
theorem early_ref {view : List S51} {lg lc : Int} {ends : List S41} (V : View view) (I : Inp view ends) (L : I64P (lg, lc)) (now q m g c mn mx : Int) :
  earliestB now view lg lc ends q m g c mn mx = refEarly now view lg lc ends q m g c mn mx := by
 have ht : turned51 moreE moreF view (b9_ ends) = turnF moreE moreF view (b9_ ends) := turned51_find (F := moreF) (fun _ _ => rfl) V.right.2 _
 by_cases h0 : now < 0 ∨ now > 1073741824 ∨ rightB m g c mn mx = false
 ·unfold earliestB refEarly
  rw [if_pos h0, if_pos h0]
 by_cases h1 : (turnF moreE moreF view (b9_ ends)).2 = 0
 ·have F : Fine view lg lc ends := ⟨V, I, L, ((turnF_iff _ view V I.sm).1).1 h1⟩
  obtain ⟨b, hb, hE⟩ := refEarly_is (lg := lg) (lc := lc) q m g c mn mx now h0 h1
  rw [hb]
  unfold earliestB
  rw [if_neg h0, show (ends.flatMap fun h => h.f4) = b9_ ends from rfl, ht, if_neg (fun x => x h1)]
  rw [(goE_early F q m g c mn mx now).uniq hE (fun _ => Iff.rfl)]
 ·unfold earliestB refEarly
  rw [if_neg h0, if_neg h0, show (ends.flatMap fun h => h.f4) = b9_ ends from rfl, ht, if_pos h1, if_pos h1]
end Go.Proofs.Ytckhjehibjdjdaa.P
namespace Go.Proofs.Ytckhjehibjdjdaa.P
open Go.RowKit Go.Proofs.YtckhjehibjdjdaaW.PrintWords Go.Proofs.YtckhjehibjdjdaaW.PrintLast Go.Proofs.YtckhjehibjdjdaaW.PrintMore
attribute [local go_sem] max2_int min2_int max_two min_two max_three min_three max_four min_four
end Go.Proofs.Ytckhjehibjdjdaa.P
namespace Go.Proofs.Ytckhjehibjdjdaa.P
open Go.RowKit Go.Proofs.YtckhjehibjdjdaaW.PrintWords Go.Proofs.YtckhjehibjdjdaaW.PrintLast Go.Proofs.YtckhjehibjdjdaaW.PrintMore
open Go.Proofs.Ytckhjehibjdjdaa.Bits Go.Proofs.Ytckhjehibjdjdaa.Mp
theorem free_of_wf {f : S51} (h : wfd51 f) : freeOk f = true ∧ (w64B f.f0.f0 && w64B f.f0.f1) = true := by
 unfold wfd51 wfd48 I64 U64 at h
 constructor
 ·unfold freeOk w64B
  rw [decide_eq_true (by omega), decide_eq_true (by omega), decide_eq_true (by omega), decide_eq_true (by omega)]; rfl
 ·unfold w64B
  rw [decide_eq_true (by omega), decide_eq_true (by omega), decide_eq_true (by omega), decide_eq_true (by omega)]; rfl
theorem mask_of_wf {s : S52} (h : wfd52 s) : maskOk s = true ∧ (w64B s.f0.f0 && w64B s.f0.f1) = true := by
 unfold wfd52 wfd48 I64 U64 at h
 constructor
 ·unfold maskOk
  rw [decide_eq_true (by omega), decide_eq_true (by omega)]; rfl
 ·unfold w64B
  rw [decide_eq_true (by omega), decide_eq_true (by omega), decide_eq_true (by omega), decide_eq_true (by omega)]; rfl
theorem slots_of_wf {ends : List S41} (h : ∀ y ∈ ends, wfd41 y) : ∀ s ∈ b9_ ends, wfd52 s := fun s hs => by
 obtain ⟨x, hx, hs⟩ := List.mem_flatMap.1 hs
 exact (h x hx).2.2.2.2.2 s hs
theorem slots_len {n : Nat} : ∀ {ends : List S41}, (∀ h ∈ ends, h.f4.length ≤ n) → (b9_ ends).length ≤ n * ends.length
 | [], _ => by simp [b9_]
 | x :: l, h => by
  have h1 := h x (by simp)
  have h2 := slots_len (ends := l) (fun y hy => h y (by simp [hy]))
  rw [slotsOf_cons, List.length_append, List.length_cons, Nat.mul_succ]
  omega
structure Setup (view : List S51) (lg lc : Int) (ends : List S41) : Prop where
 V : View view
 I : Inp view ends
 L : I64P (lg, lc)
 vo : viewOk view
 so : ∀ s ∈ b9_ ends, (w64B s.f0.f0 && w64B s.f0.f1) = true
 el : ends.length ≤ 20
 vl : view.length ≤ 70
 hl : ∀ h ∈ ends, h.f4.length ≤ 20
 lb : (-1048576 ≤ lg ∧ lg ≤ 1048576) ∧ -1048576 ≤ lc ∧ lc ≤ 1048576
theorem setup {view : List S51} {lg lc : Int} {ends : List S41} (h1 : ∀ y ∈ view, wfd51 y) (h3 : ∀ y ∈ ends, wfd41 y) (hf : fewP view lg lc ends) : Setup view lg lc ends := by
 obtain ⟨f1, f2, f3, f4, f5, f6⟩ := hf
 have hs := slots_of_wf h3
 have hl := slots_len f6
 have hl2 : (b9_ ends).length ≤ 400 := by
  have : 20 * ends.length ≤ 20 * 20 := Nat.mul_le_mul_left 20 f3
  omega
 exact ⟨⟨f2, fun f hf => (free_of_wf (h1 f hf)).1⟩, ⟨by omega, fun f hf => (free_of_wf (h1 f hf)).1, by omega, by omega, fun s h => (mask_of_wf (hs s h)).1⟩, by unfold I64P; omega,
  ⟨by omega, fun f hf => (free_of_wf (h1 f hf)).1, fun f hf => (free_of_wf (h1 f hf)).2⟩, fun s h => (mask_of_wf (hs s h)).2, f3, f1, f6, f4, f5⟩
theorem okE_mk {view : List S51} {ends : List S41} (hv : viewOk view) (hn : ends.length ≤ 1000) (hm : ∀ s ∈ b9_ ends, maskOk s = true) (hs : ∀ s ∈ b9_ ends, (w64B s.f0.f0 && w64B s.f0.f1) = true) (hl : (b9_ ends).length < 4000000000) : okE view ends = true := by
 unfold okE spotsOk
 rw [show (ends.flatMap fun h => h.f4) = b9_ ends from rfl, decide_eq_true hn, decide_eq_true hv.1, decide_eq_true hl, List.all_eq_true.2 hv.2.1, List.all_eq_true.2 hv.2.2, List.all_eq_true.2 hm, List.all_eq_true.2 hs]
 rfl
theorem Setup.early {view : List S51} {lg lc : Int} {ends : List S41} (S : Setup view lg lc ends) (now q m g c mn mx : Int) :
  promise_Earliest.f now view lg lc ends q m g c mn mx = some (refEarly now view lg lc ends q m g c mn mx) := by
 unfold promise_Earliest.f
 rw [if_pos (okE_mk S.vo (Nat.le_trans S.el (by decide)) S.I.sm S.so S.I.es), early_ref S.V S.I S.L]
theorem popS_cons (s : S52) (l : List S52) : popS (s :: l) = popI s.f1 + popS l := by simp [popS]
theorem cpS_cons (s : S52) (l : List S52) : cpS (s :: l) = s.f2 + cpS l := by simp [cpS]
def cpMax (l : List S52) : Prop := ∀ s ∈ l, 0 ≤ s.f2 ∧ s.f2 ≤ 1048576
theorem IsE.ge {A : Int → Bool} {t : Int} {L : List S41} {b : Int} (h : IsE A t L b) (h0 : t ≤ 1073741824) : t ≤ b ∧ b ≤ 1073741825 := by
 rcases h with ⟨_, rfl⟩ | ⟨_, h1, h2, _⟩
 ·omega
 ·rcases h1 with rfl | ⟨_, _, _, h3, _⟩ <;> omega
theorem max_until : ∀ (l : List S41), l ≠ [] → ∃ x ∈ l, ∀ y ∈ l, y.f2 ≤ x.f2
 | [], h => absurd rfl h
 | [x], _ => ⟨x, by simp, by simp⟩
 | x :: y :: l, _ => by
  obtain ⟨z, hz, h⟩ := max_until (y :: l) (by simp)
  by_cases hxz : x.f2 ≤ z.f2
  ·exact ⟨z, by simp [List.mem_cons.1 hz], fun u hu => by
    rcases List.mem_cons.1 hu with rfl | hu
    ·exact hxz
    ·exact h u hu⟩
  ·exact ⟨x, by simp, fun u hu => by
    rcases List.mem_cons.1 hu with rfl | hu
    ·exact Int.le_refl _
    ·have := h u hu; omega⟩
theorem IsE.le {view : List S51} {lg lc : Int} {ends : List S41} {q m g c mn mx now T b : Int} (h : IsE (atB view lg lc ends q m g c mn mx) now ends b) (hT : now ≤ T) (hN : T < 1073741825) (hA : atB view lg lc ends q m g c mn mx T = true) : b ≤ T := by
 rcases h with ⟨_, rfl⟩ | ⟨h0, h1, h2, h3⟩
 ·exact hT
 by_cases hne : ended T ends = []
 ·have : ended now ends = [] := List.filter_eq_nil_iff.2 fun x hx => by
   have := List.filter_eq_nil_iff.1 hne x hx
   simp at this ⊢; omega
  unfold atB at hA h0
  rw [hne] at hA
  rw [this, hA] at h0
  cases h0
 ·obtain ⟨x, hx, hmax⟩ := max_until _ hne
  have hxm := List.mem_filter.1 hx
  have hxT : x.f2 ≤ T := by simpa using hxm.2
  have heq : ∀ U, x.f2 ≤ U → U ≤ T → ended U ends = ended T ends := fun U h4 h5 => by
   unfold ended
   apply List.filter_congr
   intro y hy
   rw [Bool.eq_iff_iff]
   simp only [decide_eq_true_eq]
   constructor
   ·omega
   ·intro h6
    have := hmax y (List.mem_filter.2 ⟨hy, by simpa using h6⟩)
    omega
  by_cases hxn : x.f2 ≤ now
  ·have := heq now hxn hT
   unfold atB at hA h0
   rw [this, hA] at h0
   cases h0
  ·have hAx : atB view lg lc ends q m g c mn mx x.f2 = true := by
    unfold atB at hA ⊢
    rw [heq x.f2 (Int.le_refl _) hxT]; exact hA
   have := h3 x hxm.1 (by omega) (by omega) hAx
   omega
theorem IsE.at {A : Int → Bool} {now b : Int} {L : List S41} (h : IsE A now L b) (hb : b < 1073741825) : A b = true := by
 rcases h with ⟨h1, rfl⟩ | ⟨_, h1, _⟩
 ·exact h1
 ·rcases h1 with rfl | ⟨_, _, _, _, _, h2⟩
  ·omega
  ·exact h2
end Go.Proofs.Ytckhjehibjdjdaa.P
namespace Go.Proofs.Ytckhjehibjdjdaa.P
open Go.RowKit Go.Proofs.YtckhjehibjdjdaaW.PrintWords Go.Proofs.YtckhjehibjdjdaaW.PrintLast Go.Proofs.YtckhjehibjdjdaaW.PrintMore
attribute [local go_sem] max2_int min2_int max_two min_two max_three min_three max_four min_four

end Go.Proofs.Ytckhjehibjdjdaa.P
namespace Go.Proofs.Ytckhjehibjdjdaa.P
open Go.RowKit Go.Proofs.YtckhjehibjdjdaaW.PrintWords Go.Proofs.YtckhjehibjdjdaaW.PrintLast Go.Proofs.YtckhjehibjdjdaaW.PrintMore
open Go.Proofs.Ytckhjehibjdjdaa.Bits Go.Proofs.Ytckhjehibjdjdaa.Mp
theorem lessE_iff {f : S51} {s : S52} (hf : freeOk f = true) (hs : maskOk s = true) : lessE f s = 0 ↔ s.f1.toNat &&& f.f1.toNat = s.f1.toNat ∧ s.f2 ≤ f.f2 := by
 have h1 := freeOk_out hf
 have h2 := maskOk_out hs
 have hand : Go.bits .andNot .u64 s.f1 f.f1 = ((s.f1.toNat - (s.f1.toNat &&& f.f1.toNat) : Nat) : Int) := by
  have := andNot_nat s.f1.toNat f.f1.toNat (by omega) (by omega)
  rw [Int.toNat_of_nonneg h2.1, Int.toNat_of_nonneg h1.1.1] at this
  exact this
 have hle : s.f1.toNat &&& f.f1.toNat ≤ s.f1.toNat := Nat.and_le_left
 unfold lessE
 rw [hand]
 by_cases h3 : s.f1.toNat &&& f.f1.toNat = s.f1.toNat
 ·rw [if_neg (by omega)]
  by_cases h4 : s.f2 > f.f2
  ·rw [if_pos h4]; constructor
   ·intro x; cases x
   ·intro x; omega
  ·rw [if_neg h4]; exact ⟨fun _ => ⟨h3, by omega⟩, fun _ => rfl⟩
 ·rw [if_pos (by omega)]; constructor
  ·intro x; cases x
  ·intro x; exact absurd x.1 h3
theorem andNot_bv (a b : Int) : Go.bits .andNot .u64 a b = ((BitVec.ofInt 64 a &&& ~~~ BitVec.ofInt 64 b).toNat : Int) := by
 show IntKind.u64.wrap ((BitVec.ofInt 64 a &&& ~~~ BitVec.ofInt 64 b).toNat : Int) = _
 rw [wrapN, Nat.mod_eq_of_lt (BitVec.isLt _)]
theorem bv_of {a : Int} (h : 0 ≤ a ∧ a < 18446744073709551616) : ((BitVec.ofInt 64 a).toNat : Int) = a := by
 obtain ⟨x, rfl⟩ := Int.eq_ofNat_of_zero_le h.1
 rw [BitVec.ofInt_natCast, BitVec.toNat_ofNat, Nat.mod_eq_of_lt (by omega)]
theorem and_bv {a b : Int} (ha : 0 ≤ a ∧ a < 18446744073709551616) (hb : 0 ≤ b ∧ b < 18446744073709551616) : (BitVec.ofInt 64 a &&& BitVec.ofInt 64 b).toNat = a.toNat &&& b.toNat := by
 rw [BitVec.toNat_and]
 have h1 := bv_of ha
 have h2 := bv_of hb
 rw [show (BitVec.ofInt 64 a).toNat = a.toNat by omega, show (BitVec.ofInt 64 b).toNat = b.toNat by omega]
theorem back_one {f : S51} {s : S52} (hf : freeOk f = true) (hc : cpOk f) (hs : maskOk s = true) (h0 : 0 ≤ s.f2) (h : lessE f s = 0) :
  moreE (lessF f s) s = 0 ∧ moreF (lessF f s) s = f ∧ freeOk (lessF f s) = true ∧ cpOk (lessF f s) := by
 have h1 := freeOk_out hf
 have h2 := maskOk_out hs
 obtain ⟨h3, h4⟩ := (lessE_iff hf hs).1 h
 have hb := hc
 unfold cpOk at hb
 have e2 : (lessF f s).f2 = f.f2 - s.f2 := by unfold lessF; exact w_id (by omega)
 have hok := lessF_ok hf hs
 have hco : cpOk (lessF f s) := by unfold cpOk; omega
 have hsub : BitVec.ofInt 64 s.f1 &&& BitVec.ofInt 64 f.f1 = BitVec.ofInt 64 s.f1 := by
  apply BitVec.eq_of_toNat_eq
  rw [and_bv h2 h1.1, h3]
  have := bv_of h2
  omega
 have e1 : (lessF f s).f1 = Go.bits .andNot .u64 f.f1 s.f1 := rfl
 have hA := andNot_bv f.f1 s.f1
 generalize hF : BitVec.ofInt 64 f.f1 = F at *
 generalize hS : BitVec.ofInt 64 s.f1 = S at *
 have hL : BitVec.ofInt 64 (lessF f s).f1 = F &&& ~~~ S := by rw [e1, hA, ofInt_toNat]
 have hd : disj s.f1 (lessF f s).f1 := by
  unfold disj
  rw [← and_bv h2 (freeOk_out hok).1, hS, hL]
  have : S &&& (F &&& ~~~S) = 0#64 := by ext i; simp; intro h _; exact h
  rw [this]; rfl
 refine ⟨(moreE_iff hok hco hs h0).2 ⟨hd, by omega⟩, ?_, hok, hco⟩
 have hor : Go.bits .or .u64 (lessF f s).f1 s.f1 = f.f1 := by
  rw [bits_or_bv, hL, hS]
  have : F &&& ~~~S ||| S = F := by
   ext i hi
   have := congrArg (fun x => x[i]) hsub
   simp only [BitVec.getElem_and] at this
   simp only [BitVec.getElem_or, BitVec.getElem_and, BitVec.getElem_not]
   cases h5 : S[i] <;> cases h6 : F[i] <;> simp_all
  rw [this, ← hF]
  exact bv_of h1.1
 have h6 : wrap64 ((lessF f s).f2 + s.f2) = f.f2 := by rw [e2, w_id (by omega)]; omega
 show (⟨f.f0, Go.bits .or .u64 (lessF f s).f1 s.f1, wrap64 ((lessF f s).f2 + s.f2)⟩ : S51) = f
 rw [hor, h6]
theorem find_at {view : List S51} (hn : (view.map spot).Nodup) {s : S52} {p : Nat} (hp : p < view.length) (hs : spot view[p] = sspot s) : findI view s.f0.f0 s.f0.f1 = (p : Int) := by
 have hin : ¬ findI view s.f0.f0 s.f0.f1 < 0 := fun h => findI_neg.1 h (List.mem_map.2 ⟨view[p], List.getElem_mem hp, hs⟩)
 obtain ⟨q, hq⟩ := Int.eq_ofNat_of_zero_le (show 0 ≤ findI view s.f0.f0 s.f0.f1 by omega)
 obtain ⟨hql, hqs, _, _⟩ := set_step hn hq
 have hn' := List.pairwise_iff_getElem.1 hn
 rw [hq]
 rcases Nat.lt_trichotomy p q with h | h | h
 ·exact absurd (by rw [List.getElem_map, List.getElem_map, hs, hqs]) (hn' p q (by simpa using hp) (by simpa using hql) h)
 ·rw [h]
 ·exact absurd (by rw [List.getElem_map, List.getElem_map, hs, hqs]) (hn' q p (by simpa using hql) (by simpa using hp) h)
theorem turnF_one {E : S51 → S52 → Int} {F : S51 → S52 → S51} {view : List S51} (hn : (view.map spot).Nodup) {s : S52} {p : Nat} (hp : p < view.length) (hs : spot view[p] = sspot s) (h0 : 0 ≤ s.f2) (hE : E view[p] s = 0) :
  turnF E F view [s] = (view.set p (F view[p] s), 0) := by
 rw [turnF, if_neg (by omega), find_at hn hp hs, if_neg (by omega), rd51' view p hp, if_pos hE, Int.toNat_natCast, turnF]
theorem less_back : ∀ (slots : List S52) (view : List S51), View view → (∀ s ∈ slots, maskOk s = true) → (turnF lessE lessF view slots).2 = 0 →
  View (turnF lessE lessF view slots).1 ∧ (turnF lessE lessF view slots).1.map spot = view.map spot ∧ cpMax slots ∧ turnF moreE moreF (turnF lessE lessF view slots).1 slots.reverse = (view, 0)
 | [], view, V, _, _ => ⟨V, rfl, by simp [cpMax], rfl⟩
 | s :: ss, view, V, hm, h => by
  have hms := hm s (by simp)
  rw [turnF] at h ⊢
  by_cases h1 : s.f2 < 0
  ·rw [if_pos h1] at h; cases h
  rw [if_neg h1] at h ⊢
  by_cases h2 : findI view s.f0.f0 s.f0.f1 < 0
  ·rw [if_pos h2] at h; cases h
  rw [if_neg h2] at h ⊢
  obtain ⟨p, hp⟩ := Int.eq_ofNat_of_zero_le (show 0 ≤ findI view s.f0.f0 s.f0.f1 by omega)
  obtain ⟨hpl, hps, _, _⟩ := set_step V.right.2 hp
  rw [hp, Int.toNat_natCast, rd51' view p hpl] at h ⊢
  have hfp := V.free _ (List.getElem_mem hpl)
  have hcp := V.right.1 _ (List.getElem_mem hpl)
  by_cases h3 : lessE view[p] s = 0
  ·rw [if_pos h3] at h ⊢
   obtain ⟨b1, b2, b3, b4⟩ := back_one hfp hcp hms (by omega) h3
   have sp : (view.set p (lessF view[p] s)).map spot = view.map spot := spots_set (fun hk => rfl)
   have V' : View (view.set p (lessF view[p] s)) := ⟨⟨set_all V.right.1 b4, by rw [sp]; exact V.right.2⟩, set_all V.free b3⟩
   obtain ⟨i1, i2, i3, i4⟩ := less_back ss _ V' (fun x hx => hm x (by simp [hx])) h
   refine ⟨i1, i2.trans sp, fun x hx => ?_, ?_⟩
   ·rcases List.mem_cons.1 hx with rfl | hx
    ·have := ((lessE_iff hfp hms).1 h3).2
     unfold cpOk at hcp
     exact ⟨by omega, by omega⟩
    ·exact i3 x hx
   ·have hl : p < (view.set p (lessF view[p] s)).length := by rw [List.length_set]; exact hpl
    have eg : (view.set p (lessF view[p] s))[p] = lessF view[p] s := List.getElem_set_self _
    rw [List.reverse_cons, turnF_append _ _ _ (by rw [i4]), i4]
    simp only
    rw [turnF_one V'.right.2 hl (by rw [eg]; exact hps) (by omega) (by rw [eg]; exact b1), eg, b2, List.set_set, List.set_getElem_self]
  ·rw [if_neg h3] at h; exact absurd h h3
structure Base (view : List S51) (ends : List S41) : Prop where
 V : View view
 I : Inp view ends
 vo : viewOk view
 so : ∀ s ∈ b9_ ends, (w64B s.f0.f0 && w64B s.f0.f1) = true
 el : ends.length ≤ 1000
 sl : (b9_ ends).length ≤ 1000000
theorem Setup.base {view : List S51} {lg lc : Int} {ends : List S41} (S : Setup view lg lc ends) : Base view ends :=
 ⟨S.V, S.I, S.vo, S.so, Nat.le_trans S.el (by decide), by
  have h1 := slots_len S.hl
  have h2 : 20 * ends.length ≤ 20 * 20 := Nat.mul_le_mul_left 20 S.el
  omega⟩
theorem Base.early {view : List S51} {ends : List S41} (B : Base view ends) {lg lc : Int} (L : I64P (lg, lc)) (now q m g c mn mx : Int) :
  promise_Earliest.f now view lg lc ends q m g c mn mx = some (refEarly now view lg lc ends q m g c mn mx) := by
 unfold promise_Earliest.f
 rw [if_pos (okE_mk B.vo B.el B.I.sm B.so B.I.es), early_ref B.V B.I L]
structure HoldOk (h : S41) : Prop where
 mo : ∀ s ∈ h.f4, maskOk s = true
 sp : ∀ s ∈ h.f4, (w64B s.f0.f0 && w64B s.f0.f1) = true
 ln : h.f4.length ≤ 20
theorem HoldOk.of {h : S41} (w : wfd41 h) (hl : h.f4.length ≤ 20) : HoldOk h := ⟨fun s hs => (mask_of_wf (w.2.2.2.2.2 s hs)).1, fun s hs => (mask_of_wf (w.2.2.2.2.2 s hs)).2, hl⟩
theorem slotsOf_snoc (ends : List S41) (h : S41) : b9_ (ends ++ [h]) = b9_ ends ++ h.f4 := by rw [slotsOf_append]; simp [b9_]
theorem Base.less {view : List S51} {ends : List S41} (B : Base view ends) {h : S41} (H : HoldOk h) (hok : (turnF lessE lessF view h.f4).2 = 0) (el : ends.length < 500) (sl : (b9_ ends).length ≤ 100000) :
  Base (turnF lessE lessF view h.f4).1 (ends ++ [h]) := by
 obtain ⟨VL, hsp, _, _⟩ := less_back h.f4 view B.V H.mo hok
 have hlen : (turnF lessE lessF view h.f4).1.length = view.length := by
  have := congrArg List.length hsp
  simpa using this
 have hs : ∀ s ∈ b9_ (ends ++ [h]), s ∈ b9_ ends ∨ s ∈ h.f4 := fun s hs => by rw [slotsOf_snoc] at hs; exact List.mem_append.1 hs
 have hl : (b9_ (ends ++ [h])).length ≤ 100020 := by rw [slotsOf_snoc, List.length_append]; have := H.ln; omega
 refine ⟨VL, ⟨by rw [hlen]; exact B.I.vl, VL.free, by simp; omega, by omega, fun s h1 => (hs s h1).elim (B.I.sm s) (H.mo s)⟩, ⟨by rw [hlen]; exact B.vo.1, VL.free, fun f hf => ?_⟩,
  fun s h1 => (hs s h1).elim (B.so s) (H.sp s), by simp; omega, by omega⟩
 have : spot f ∈ view.map spot := by rw [← hsp]; exact List.mem_map_of_mem hf
 obtain ⟨f', hf', e⟩ := List.mem_map.1 this
 have h1 := B.vo.2.2 f' hf'
 unfold spot at e
 injection e with e1 e2
 rw [← e1, ← e2]; exact h1
theorem subL_eq : ∀ (l : List S52) (a : Int × Int), I64P a → subL a l = (wrap64 (a.1 - popS l), wrap64 (a.2 - cpS l))
 | [], a, h => by
  unfold I64P at h
  have e1 : wrap64 (a.1 - popS []) = a.1 := by rw [show popS [] = 0 from rfl, Int.sub_zero]; exact w_id (by omega)
  have e2 : wrap64 (a.2 - cpS []) = a.2 := by rw [show cpS [] = 0 from rfl, Int.sub_zero]; exact w_id (by omega)
  rw [e1, e2]; rfl
 | s :: l, a, h => by
  have e : subL a (s :: l) = subL (subU a s) l := rfl
  rw [e, subL_eq l _ ⟨wrap_bd _, wrap_bd _⟩, popS_cons, cpS_cons]
  unfold subU
  simp only
  have e3 : ∀ x y z : Int, wrap64 (wrap64 (x - y) - z) = wrap64 (x - (y + z)) := fun x y z => by unfold wrap64; omega
  rw [e3, e3]
def aftL (q lg hq n : Int) : Int := if hq = q then wrap64 (lg - n) else lg
def afterB (now : Int) (view : List S51) (lg lc : Int) (ends : List S41) (q m g c mn mx : Int) (h : S41) : Int × Int :=
 if (turnF lessE lessF view h.f4).2 = 0 then refEarly now (turnF lessE lessF view h.f4).1 (aftL q lg h.f1 (popS h.f4)) (aftL q lc h.f1 (cpS h.f4)) (ends ++ [h]) q m g c mn mx else (0, (turnF lessE lessF view h.f4).2)
theorem aftL_I64 {q lg lc : Int} (L : I64P (lg, lc)) (a b d : Int) : I64P (aftL q lg a b, aftL q lc a d) := by
 unfold I64P at L
 unfold I64P aftL
 split
 ·exact ⟨wrap_bd _, wrap_bd _⟩
 ·exact L
theorem Base.after {view : List S51} {ends : List S41} (B : Base view ends) {lg lc : Int} (L : I64P (lg, lc)) {h0 h1 h2 : Int} {h3 : Bool} {h4 : List S52} (H : HoldOk ⟨h0, h1, h2, h3, h4⟩) (el : ends.length < 500) (sl : (b9_ ends).length ≤ 100000) (now q m g c mn mx : Int) :
  fill_After.f now view lg lc ends q m g c mn mx h0 h1 h2 h3 h4 = some (afterB now view lg lc ends q m g c mn mx ⟨h0, h1, h2, h3, h4⟩) := by
 have e1 : pack_Less.f view h4 = some (turnF lessE lessF view h4) := by
  unfold pack_Less.f spotsOk
  have a1 : view.all (fun f => w64B f.f0.f0 && w64B f.f0.f1) = true := List.all_eq_true.2 B.vo.2.2
  have a2 : h4.all (fun f => w64B f.f0.f0 && w64B f.f0.f1) = true := List.all_eq_true.2 H.sp
  rw [decide_eq_true B.vo.1, a1, a2, if_pos (by rfl), turned51_find (F := lessF) (fun _ _ => rfl) B.V.right.2]
 have hln : h4.length ≤ 20 := H.ln
 have e2 : fill_take.f lg lc h4 = some (wrap64 (lg - popS h4), wrap64 (lc - cpS h4)) := by
  unfold fill_take.f maskAll
  have a1 : h4.all maskOk = true := List.all_eq_true.2 H.mo
  rw [a1, decide_eq_true (by omega), if_pos (by rfl), subL_eq h4 _ L]
 have e3 : api_Hold.f ends = some ends := by unfold api_Hold.f; rw [if_pos (by omega)]
 unfold fill_After.f afterB
 rw [e1, Option.bind_some]
 by_cases hz : (turnF lessE lessF view h4).2 = 0
 ·have B' := B.less H hz el sl
  have L' := aftL_I64 (q := q) L h1 (popS h4) (cpS h4)
  have E := B'.early L' now q m g c mn mx
  rw [if_pos hz, if_pos hz]
  by_cases hq : h1 = q
  ·rw [if_pos hq, e2, Option.bind_some, e3, Option.bind_some, Option.bind_some, if_pos (by simp; omega)]
   unfold aftL at E ⊢
   simp only at E ⊢
   rw [if_pos hq, if_pos hq] at E ⊢
   rw [E]; rfl
  ·rw [if_neg hq, e3, Option.bind_some, Option.bind_some, if_pos (by simp; omega)]
   unfold aftL at E ⊢
   simp only at E ⊢
   rw [if_neg hq, if_neg hq] at E ⊢
   rw [E]; rfl
 ·rw [if_neg hz, if_neg hz]
def safeB (now p : Int) (r : Int × Int) : Bool × Int := (decide (r.2 = 0) && (decide (r.1 ≤ p) || decide (r.1 ≤ now)), r.2)
theorem Base.safe {view : List S51} {ends : List S41} (B : Base view ends) {lg lc : Int} (L : I64P (lg, lc)) {h0 h1 h2 : Int} {h3 : Bool} {h4 : List S52} (H : HoldOk ⟨h0, h1, h2, h3, h4⟩) (el : ends.length < 500) (sl : (b9_ ends).length ≤ 100000) (now q m g c mn mx p : Int) :
  fill_Safe.f now view lg lc ends q m g c mn mx p h0 h1 h2 h3 h4 = some (safeB now p (afterB now view lg lc ends q m g c mn mx ⟨h0, h1, h2, h3, h4⟩)) := by
 unfold fill_Safe.f safeB
 rw [B.after L H el sl, Option.bind_some]
 generalize afterB now view lg lc ends q m g c mn mx ⟨h0, h1, h2, h3, h4⟩ = r
 by_cases h : r.2 = 0
 ·rw [if_pos h, h]
  congr 2
  rw [Bool.eq_iff_iff]
  unfold Go.Proofs.YtckhjehibjdjdaaW.PrintWords.mx
  simp
  omega
 ·rw [if_neg h, decide_eq_false h]; rfl
end Go.Proofs.Ytckhjehibjdjdaa.P
namespace Go.Proofs.Ytckhjehibjdjdaa.P
open Go.RowKit Go.Proofs.YtckhjehibjdjdaaW.PrintWords Go.Proofs.YtckhjehibjdjdaaW.PrintLast Go.Proofs.YtckhjehibjdjdaaW.PrintMore
attribute [local go_sem] max2_int min2_int max_two min_two max_three min_three max_four min_four
end Go.Proofs.Ytckhjehibjdjdaa.P
namespace Go.Proofs.Ytckhjehibjdjdaa.P
open Go.RowKit Go.Proofs.YtckhjehibjdjdaaW.PrintWords Go.Proofs.YtckhjehibjdjdaaW.PrintLast Go.Proofs.YtckhjehibjdjdaaW.PrintMore
theorem Setup.sl {view : List S51} {lg lc : Int} {ends : List S41} (S : Setup view lg lc ends) : (b9_ ends).length ≤ 400 := by
 have h1 := slots_len S.hl
 have h2 : 20 * ends.length ≤ 20 * 20 := Nat.mul_le_mul_left 20 S.el
 omega
def FillMany.Pure : Prop := ∀ (x0 : Int) (x1 : List S51) (x2 : S24) (x3 : List S41) (x4 : S29) (x5 : List S41), I64 x0 → (x1.length ≤ maxLen ∧ ∀ y ∈ x1, wfd51 y) → wfd24 x2 → (x3.length ≤ maxLen ∧ ∀ y ∈ x3, wfd41 y) → wfd29 x4 → (x5.length ≤ maxLen ∧ ∀ y ∈ x5, wfd41 y) → ∃ k, ensemblelaw13_FillMany.f k x0 x1 x2.f0 x2.f1 x3 x4.f0 x4.f1 x4.f2.f0 x4.f2.f1 x4.f2.f2 x4.f2.f3 x5 = some true
theorem many_ev {now q m g c mn mx p : Int} (hp : now ≤ p) : ∀ (l : List S41) (view : List S51) (lg lc : Int) (ends : List S41), Base view ends → I64P (lg, lc) → ends.length + l.length ≤ 30 → (b9_ ends).length + 20 * l.length ≤ 600 → (∀ h ∈ l, wfd41 h) →
  Ev (fun k => manyL k now q m g c mn mx p view lg lc ends l) true
 | [], view, lg, lc, ends, B, L, _, _, _ => Ev.congr (fun k => by rw [manyL]) (Ev.now _)
 | h :: rest, view, lg, lc, ends, B, L, el, sl, hw => by
  have el' : ends.length + rest.length + 1 ≤ 30 := by simpa [Nat.add_assoc] using el
  have sl' : (b9_ ends).length + 20 * rest.length + 20 ≤ 600 := by rw [List.length_cons] at sl; omega
  by_cases c1 : (h.f4.length : Int) > 20
  ·exact Ev.congr (fun k => by rw [manyL, if_pos c1]) (Ev.now _)
  have H : HoldOk h := HoldOk.of (hw h (by simp)) (by omega)
  have e := B.safe L (h0 := h.f0) (h1 := h.f1) (h2 := h.f2) (h3 := h.f3) (h4 := h.f4) H (by omega) (by omega) now q m g c mn mx p
  have IH := many_ev (q := q) (m := m) (g := g) (c := c) (mn := mn) (mx := mx) hp rest view lg lc ends B L (by omega) (by omega) (fun x hx => hw x (by simp [hx]))
  refine Ev.congr (fun k => by rw [manyL, if_neg c1, e, Option.bind_some]) ?_
  have ha : afterB now view lg lc ends q m g c mn mx ⟨h.f0, h.f1, h.f2, h.f3, h.f4⟩ = afterB now view lg lc ends q m g c mn mx h := rfl
  rw [ha]
  by_cases hz : (turnF lessE lessF view h.f4).2 = 0
  case neg =>
   have ea : afterB now view lg lc ends q m g c mn mx h = (0, (turnF lessE lessF view h.f4).2) := by unfold afterB; rw [if_neg hz]
   exact Ev.congr (fun k => by rw [ea, if_pos (show (safeB now p (0, (turnF lessE lessF view h.f4).2)).2 ≠ 0 from hz)]) IH
  have ea : afterB now view lg lc ends q m g c mn mx h = refEarly now (turnF lessE lessF view h.f4).1 (aftL q lg h.f1 (popS h.f4)) (aftL q lc h.f1 (cpS h.f4)) (ends ++ [h]) q m g c mn mx := by unfold afterB; rw [if_pos hz]
  have B' := B.less H hz (by omega) (by omega)
  have L' := aftL_I64 (q := q) L h.f1 (popS h.f4) (cpS h.f4)
  have E := B'.early L' now q m g c mn mx
  rw [ea]
  generalize hr : refEarly now (turnF lessE lessF view h.f4).1 (aftL q lg h.f1 (popS h.f4)) (aftL q lc h.f1 (cpS h.f4)) (ends ++ [h]) q m g c mn mx = r at *
  by_cases h1 : r.2 = 0
  case neg => exact Ev.congr (fun k => by rw [if_pos (show (safeB now p r).2 ≠ 0 from h1)]) IH
  refine Ev.congr (fun k => by rw [if_neg (show ¬ (safeB now p r).2 ≠ 0 from fun x => x h1)]) ?_
  by_cases h2 : (safeB now p r).1 = false
  ·exact Ev.congr (fun k => by rw [if_pos h2]) IH
  refine Ev.congr (fun k => by rw [if_neg h2]) ?_
  have hle : r.1 ≤ p := by
   unfold safeB at h2
   simp only [h1, decide_true, Bool.true_and, Bool.not_eq_false, Bool.or_eq_true, decide_eq_true_eq] at h2
   omega
  refine Ev.bind (g := fun k => ensembleref05_Less.f k view h.f4) (a := turnF lessE lessF view h.f4) (less05_ev view _ (by have := H.ln; omega) H.mo B.I.vl B.I.vf) ?_
  have hU : Ev (fun k => (if h.f1 = q then (ensembleref08_Units.f k h.f4).bind fun u => some (wrap64 (lg - u.1), wrap64 (lc - u.2)) else some (lg, lc))) (aftL q lg h.f1 (popS h.f4), aftL q lc h.f1 (cpS h.f4)) := by
   by_cases hq : h.f1 = q
   ·have U := units08_ev h.f4 (by have := H.ln; omega) H.mo
    rw [addL_true h.f4 (0, 0) ⟨by simp, by simp⟩] at U
    have e3 : ∀ x y : Int, wrap64 (x - wrap64 (0 + y)) = wrap64 (x - y) := fun x y => by unfold wrap64; omega
    refine Ev.congr (fun k => if_pos hq) (Ev.bind U (Ev.congr (fun k => ?_) (Ev.now _)))
    unfold aftL
    rw [if_pos hq, if_pos hq, e3, e3]
   ·refine Ev.congr (fun k => ?_) (Ev.now _)
    unfold aftL
    rw [if_neg hq, if_neg hq, if_neg hq]
  refine Ev.bind hU ?_
  refine Ev.congr (fun k => by rw [if_pos (show ends.length < 1000000 by omega), E, Option.bind_some, if_pos ⟨h1, hle⟩]) ?_
  exact many_ev hp rest _ _ _ _ B' L' (by simp; omega) (by rw [slotsOf_snoc, List.length_append]; have := H.ln; omega) (fun x hx => hw x (by simp [hx]))
theorem Pure.FillMany : FillMany.Pure := by
 intro now view lf ends wt l h0 h1 h2 h3 h4 h5
 refine Ev.rounds (g := fun k => ensemblelaw13_FillMany.f k now view lf.f0 lf.f1 ends wt.f0 wt.f1 wt.f2.f0 wt.f2.f1 wt.f2.f2 wt.f2.f3 l) ?_
 refine Ev.congr (fun k => by unfold ensemblelaw13_FillMany.f; rfl) ?_
 rcases few12_ev view lf.f0 lf.f1 ends with ⟨hk, hf⟩ | hk
 case inr => exact Ev.bind hk (Ev.congr (fun k => if_pos rfl) (Ev.now _))
 have S := setup h1.2 h3.2 hf
 refine Ev.bind hk ?_
 refine Ev.congr (fun k => if_neg (by decide)) ?_
 by_cases c1 : (l.length : Int) > 6
 ·exact Ev.congr (fun k => if_pos c1) (Ev.now _)
 refine Ev.congr (fun k => if_neg c1) ?_
 refine Ev.congr (fun k => by rw [S.early, Option.bind_some]) ?_
 by_cases hbad : now < 0 ∨ now > 1073741824 ∨ rightB wt.f1 wt.f2.f0 wt.f2.f1 wt.f2.f2 wt.f2.f3 = false
 ·have e : refEarly now view lf.f0 lf.f1 ends wt.f0 wt.f1 wt.f2.f0 wt.f2.f1 wt.f2.f2 wt.f2.f3 = (0, 1) := if_pos hbad
  rw [e]
  exact Ev.congr (fun k => if_pos (by decide)) (Ev.now _)
 by_cases hm : (turnF moreE moreF view (b9_ ends)).2 = 0
 case neg =>
  have e : refEarly now view lf.f0 lf.f1 ends wt.f0 wt.f1 wt.f2.f0 wt.f2.f1 wt.f2.f2 wt.f2.f3 = (0, (turnF moreE moreF view (b9_ ends)).2) := by unfold refEarly; rw [if_neg hbad, if_pos hm]
  rw [e]
  exact Ev.congr (fun k => if_pos hm) (Ev.now _)
 obtain ⟨b, hb, hI⟩ := refEarly_is wt.f0 wt.f1 wt.f2.f0 wt.f2.f1 wt.f2.f2 wt.f2.f3 now hbad hm (lg := lf.f0) (lc := lf.f1)
 rw [hb]
 refine Ev.congr (fun k => if_neg (fun h => h rfl)) ?_
 have B := S.base
 have hsl : (b9_ ends).length ≤ 400 := S.sl
 have hel := S.el
 exact many_ev (hI.ge (by omega)).1 l view lf.f0 lf.f1 ends B S.L (by omega) (by omega) h5.2
end Go.Proofs.Ytckhjehibjdjdaa.P
namespace Go.Proofs.Ytckhjehibjdjdaa.row0
set_option maxRecDepth 100000
theorem and_mk {a b : Bool} (h : a = true) (k : b = true) : (a && b) = true := by rw [h, k]; rfl
def letters : List Char := List.map Char.ofNat [104, 97, 114, 110, 101, 115, 115, 32, 57, 100, 50, 54, 101, 98, 50, 54, 53, 56, 98, 49, 102, 51, 56, 49, 51, 55, 98, 54, 100, 49, 53, 55, 102, 53, 100, 49, 102, 101, 97, 49, 102, 56, 57, 57, 55, 98, 52, 55, 53, 51, 99, 98, 101, 48, 98, 98, 48, 97, 53, 54, 48, 102, 102, 54, 52, 98, 99, 52, 98, 52, 102, 52, 32, 99, 117, 116, 32, 97, 116, 32, 101, 110, 115, 101, 109, 98, 108, 101, 47, 101, 110, 115, 101, 109, 98, 108, 101, 108, 97, 119, 49, 50, 46, 80, 114, 111, 109, 105, 115, 101, 84, 101, 108, 108, 115, 32, 101, 110, 115, 101, 109, 98, 108, 101, 47, 101, 110, 115, 101, 109, 98, 108, 101, 108, 97, 119, 49, 50, 46, 80, 114, 111, 109, 105, 115, 101, 75, 101, 101, 112, 115, 32, 101, 110, 115, 101, 109, 98, 108, 101, 47, 101, 110, 115, 101, 109, 98, 108, 101, 108, 97, 119, 49, 50, 46, 80, 114, 111, 109, 105, 115, 101, 76, 101, 115, 115, 32, 101, 110, 115, 101, 109, 98, 108, 101, 47, 101, 110, 115, 101, 109, 98, 108, 101, 108, 97, 119, 49, 50, 46, 80, 114, 111, 109, 105, 115, 101, 79, 110, 108, 121, 32, 101, 110, 115, 101, 109, 98, 108, 101, 47, 101, 110, 115, 101, 109, 98, 108, 101, 108, 97, 119, 49, 50, 46, 80, 114, 111, 109, 105, 115, 101, 82, 111, 111, 109, 32, 101, 110, 115, 101, 109, 98, 108, 101, 47, 101, 110, 115, 101, 109, 98, 108, 101, 108, 97, 119, 49, 51, 46, 70, 105, 108, 108, 84, 101, 108, 108, 115, 32, 101, 110, 115, 101, 109, 98, 108, 101, 47, 101, 110, 115, 101, 109, 98, 108, 101, 108, 97, 119, 49, 51, 46, 70, 105, 108, 108, 76, 97, 116, 101, 32, 101, 110, 115, 101, 109, 98, 108, 101, 47, 101, 110, 115, 101, 109, 98, 108, 101, 108, 97, 119, 49, 51, 46, 70, 105, 108, 108, 78, 111, 110, 101, 32, 101, 110, 115, 101, 109, 98, 108, 101, 47, 101, 110, 115, 101, 109, 98, 108, 101, 108, 97, 119, 49, 51, 46, 70, 105, 108, 108, 77, 97, 110, 121, 32, 101, 110, 115, 101, 109, 98, 108, 101, 47, 101, 110, 115, 101, 109, 98, 108, 101, 108, 97, 119, 49, 51, 46, 70, 105, 108, 108, 80, 97, 115, 116, 32, 101, 110, 115, 101, 109, 98, 108, 101, 47, 101, 110, 115, 101, 109, 98, 108, 101, 108, 97, 119, 48, 53, 46, 80, 97, 99, 107, 70, 101, 119, 32, 101, 110, 115, 101, 109, 98, 108, 101, 47, 101, 110, 115, 101, 109, 98, 108, 101, 108, 97, 119, 48, 53, 46, 80, 97, 99, 107, 70, 114, 111, 110, 116, 32, 101, 110, 115, 101, 109, 98, 108, 101, 47, 101, 110, 115, 101, 109, 98, 108, 101, 108, 97, 119, 48, 53, 46, 80, 97, 99, 107, 84, 101, 108, 108, 115, 32, 101, 110, 115, 101, 109, 98, 108, 101, 47, 101, 110, 115, 101, 109, 98, 108, 101, 108, 97, 119, 48, 53, 46, 80, 97, 99, 107, 82, 111, 111, 109, 115, 32, 101, 110, 115, 101, 109, 98, 108, 101, 47, 101, 110, 115, 101, 109, 98, 108, 101, 108, 97, 119, 48, 53, 46, 80, 97, 99, 107, 76, 101, 102, 116, 32, 101, 110, 115, 101, 109, 98, 108, 101, 47, 101, 110, 115, 101, 109, 98, 108, 101, 108, 97, 119, 48, 53, 46, 80, 97, 99, 107, 77, 111, 114, 101, 32, 101, 110, 115, 101, 109, 98, 108, 101, 47, 101, 110, 115, 101, 109, 98, 108, 101, 108, 97, 119, 48, 53, 46, 80, 97, 99, 107, 87, 104, 111, 108, 101, 32, 101, 110, 115, 101, 109, 98, 108, 101, 47, 101, 110, 115, 101, 109, 98, 108, 101, 108, 97, 119, 49, 52, 46, 69, 108, 97, 115, 116, 105, 99, 77, 111, 115, 116, 32, 101, 110, 115, 101, 109, 98, 108, 101, 47, 101, 110, 115, 101, 109, 98, 108, 101, 108, 97, 119, 49, 52, 46, 69, 108, 97, 115, 116, 105, 99, 77, 111, 114, 101, 32, 101, 110, 115, 101, 109, 98, 108, 101, 47, 101, 110, 115, 101, 109, 98, 108, 101, 108, 97, 119, 49, 52, 46, 69, 108, 97, 115, 116, 105, 99, 83, 97, 102, 101, 32, 101, 110, 115, 101, 109, 98, 108, 101, 47, 101, 110, 115, 101, 109, 98, 108, 101, 108, 97, 119, 49, 53, 46, 87, 111, 114, 107, 101, 114, 77, 97, 121, 32, 101, 110, 115, 101, 109, 98, 108, 101, 47, 101, 110, 115, 101, 109, 98, 108, 101, 108, 97, 119, 49, 53, 46, 87, 111, 114, 107, 101, 114, 82, 101, 115, 116, 115]
theorem lit : Try.checked.prog.initOrder = String.ofList letters := by kernel_rfl
theorem lits : Try.checked.prog.initOrder.toList = letters := by rw [lit]; exact String.toList_ofList
def words : List (List Char) := List.map (List.map Char.ofNat) [[99, 117, 116], [97, 116], [101, 110, 115, 101, 109, 98, 108, 101, 47, 101, 110, 115, 101, 109, 98, 108, 101, 108, 97, 119, 49, 50, 46, 80, 114, 111, 109, 105, 115, 101, 84, 101, 108, 108, 115], [101, 110, 115, 101, 109, 98, 108, 101, 47, 101, 110, 115, 101, 109, 98, 108, 101, 108, 97, 119, 49, 50, 46, 80, 114, 111, 109, 105, 115, 101, 75, 101, 101, 112, 115], [101, 110, 115, 101, 109, 98, 108, 101, 47, 101, 110, 115, 101, 109, 98, 108, 101, 108, 97, 119, 49, 50, 46, 80, 114, 111, 109, 105, 115, 101, 76, 101, 115, 115], [101, 110, 115, 101, 109, 98, 108, 101, 47, 101, 110, 115, 101, 109, 98, 108, 101, 108, 97, 119, 49, 50, 46, 80, 114, 111, 109, 105, 115, 101, 79, 110, 108, 121], [101, 110, 115, 101, 109, 98, 108, 101, 47, 101, 110, 115, 101, 109, 98, 108, 101, 108, 97, 119, 49, 50, 46, 80, 114, 111, 109, 105, 115, 101, 82, 111, 111, 109], [101, 110, 115, 101, 109, 98, 108, 101, 47, 101, 110, 115, 101, 109, 98, 108, 101, 108, 97, 119, 49, 51, 46, 70, 105, 108, 108, 84, 101, 108, 108, 115], [101, 110, 115, 101, 109, 98, 108, 101, 47, 101, 110, 115, 101, 109, 98, 108, 101, 108, 97, 119, 49, 51, 46, 70, 105, 108, 108, 76, 97, 116, 101], [101, 110, 115, 101, 109, 98, 108, 101, 47, 101, 110, 115, 101, 109, 98, 108, 101, 108, 97, 119, 49, 51, 46, 70, 105, 108, 108, 78, 111, 110, 101], [101, 110, 115, 101, 109, 98, 108, 101, 47, 101, 110, 115, 101, 109, 98, 108, 101, 108, 97, 119, 49, 51, 46, 70, 105, 108, 108, 77, 97, 110, 121], [101, 110, 115, 101, 109, 98, 108, 101, 47, 101, 110, 115, 101, 109, 98, 108, 101, 108, 97, 119, 49, 51, 46, 70, 105, 108, 108, 80, 97, 115, 116], [101, 110, 115, 101, 109, 98, 108, 101, 47, 101, 110, 115, 101, 109, 98, 108, 101, 108, 97, 119, 48, 53, 46, 80, 97, 99, 107, 70, 101, 119], [101, 110, 115, 101, 109, 98, 108, 101, 47, 101, 110, 115, 101, 109, 98, 108, 101, 108, 97, 119, 48, 53, 46, 80, 97, 99, 107, 70, 114, 111, 110, 116], [101, 110, 115, 101, 109, 98, 108, 101, 47, 101, 110, 115, 101, 109, 98, 108, 101, 108, 97, 119, 48, 53, 46, 80, 97, 99, 107, 84, 101, 108, 108, 115], [101, 110, 115, 101, 109, 98, 108, 101, 47, 101, 110, 115, 101, 109, 98, 108, 101, 108, 97, 119, 48, 53, 46, 80, 97, 99, 107, 82, 111, 111, 109, 115], [101, 110, 115, 101, 109, 98, 108, 101, 47, 101, 110, 115, 101, 109, 98, 108, 101, 108, 97, 119, 48, 53, 46, 80, 97, 99, 107, 76, 101, 102, 116], [101, 110, 115, 101, 109, 98, 108, 101, 47, 101, 110, 115, 101, 109, 98, 108, 101, 108, 97, 119, 48, 53, 46, 80, 97, 99, 107, 77, 111, 114, 101], [101, 110, 115, 101, 109, 98, 108, 101, 47, 101, 110, 115, 101, 109, 98, 108, 101, 108, 97, 119, 48, 53, 46, 80, 97, 99, 107, 87, 104, 111, 108, 101], [101, 110, 115, 101, 109, 98, 108, 101, 47, 101, 110, 115, 101, 109, 98, 108, 101, 108, 97, 119, 49, 52, 46, 69, 108, 97, 115, 116, 105, 99, 77, 111, 115, 116], [101, 110, 115, 101, 109, 98, 108, 101, 47, 101, 110, 115, 101, 109, 98, 108, 101, 108, 97, 119, 49, 52, 46, 69, 108, 97, 115, 116, 105, 99, 77, 111, 114, 101], [101, 110, 115, 101, 109, 98, 108, 101, 47, 101, 110, 115, 101, 109, 98, 108, 101, 108, 97, 119, 49, 52, 46, 69, 108, 97, 115, 116, 105, 99, 83, 97, 102, 101], [101, 110, 115, 101, 109, 98, 108, 101, 47, 101, 110, 115, 101, 109, 98, 108, 101, 108, 97, 119, 49, 53, 46, 87, 111, 114, 107, 101, 114, 77, 97, 121], [101, 110, 115, 101, 109, 98, 108, 101, 47, 101, 110, 115, 101, 109, 98, 108, 101, 108, 97, 119, 49, 53, 46, 87, 111, 114, 107, 101, 114, 82, 101, 115, 116, 115]]
theorem wordsEq : behindMainWord (wordsSigns letters) = words := by kernel_rfl
theorem behind : behindMainWord (wordsSigns Try.checked.prog.initOrder.toList) = words := by rw [lits]; exact wordsEq
theorem headLifts_of {P : Program} {ws : List (List Char)} (h : behindMainWord (wordsSigns P.initOrder.toList) = ws) (h2 : ((stripLifts liftWords ws).2.head? == some "cut".toList) = true) (h3 : (stripLifts liftWords ws).1 = []) : P.headLifts = [] := by
 unfold Program.headLifts
 rw [h]
 simp only [h2, h3, if_true]
theorem headLifts : Try.checked.prog.headLifts = [] := headLifts_of behind (by kernel_rfl) (by kernel_rfl)
theorem liftsFinal_of {P : Program} {ws : List (List Char)} (h : behindMainWord (wordsSigns P.initOrder.toList) = ws) (hl : P.headLifts = []) (h1 : (ws.head? == some "carried".toList) = false) : P.liftsFinal = false := by
 unfold Program.liftsFinal
 rw [h, hl]
 simp only [h1, Bool.false_and, List.contains_nil, Bool.or_false]
theorem liftsFinal : Try.checked.prog.liftsFinal = false := liftsFinal_of behind headLifts (by kernel_rfl)
theorem make_of {P : Program} {c : List Char} {rest : List (List Char)} (h : behindMainWord (wordsSigns P.initOrder.toList) = c :: rest) (h1 : (c == "gc".toList || c == "spec".toList) = false) (h2 : (c == "cut".toList) = true) : P.make = some .cut := by
 unfold Program.make
 rw [h]
 simp only [h1, h2, Bool.true_or, if_true, Bool.false_eq_true, if_false]
theorem make : Try.checked.prog.make = some .cut := make_of (behind.trans (show words = _ :: _ from rfl)) (by kernel_rfl) (by kernel_rfl)
theorem mayEnter_of {P : Program} {c : List Char} {rest : List (List Char)} (h : behindMainWord (wordsSigns P.initOrder.toList) = c :: rest) (h2 : ((stripLifts liftWords (c :: rest)).2.head? == some "cut".toList) = true) (h3 : (stripLifts liftWords (c :: rest)).1 = []) (h4 : P.laysLater = false) (h5 : P.bearsReflect = false) (h6 : P.doorFits [] = true) : P.mayEnter = true := by
 unfold Program.mayEnter
 rw [h]
 simp only [h2, h3, h4, h5, h6, List.contains_nil, Bool.not_false, Bool.false_or, Bool.or_true, Bool.true_or, Bool.and_true, Bool.true_and]
theorem h4 : Try.checked.prog.laysLater = false := by kernel_rfl
theorem h5 : Try.checked.prog.bearsReflect = false := by kernel_rfl
theorem h6 : Try.checked.prog.doorFits [] = true := by kernel_rfl
theorem mayEnter : Try.checked.prog.mayEnter = true := mayEnter_of (behind.trans (show words = _ :: _ from rfl)) (by kernel_rfl) (by kernel_rfl) h4 h5 h6
end Go.Proofs.Ytckhjehibjdjdaa.row0
namespace Go.Proofs.Ytckhjehibjdjdaa.fillMany
open Go.ChangeShapes Go.WideShapes Go.ChangeAt Go.RowKit Go.Proofs.Ytckhjehibjdjdaa.P Go.Proofs.Ytckhjehibjdjdaa.Ob Go.Proofs.YtckhjehibjdjdaaW.PrintWords
open Go.ChangeMaps (open_string shut_string)
theorem own : ownKnob Try.prog.godebug = none := by kernel_rfl
theorem laidOut : laidOutB Try.prog = true := by kernel_rfl
set_option maxRecDepth 100000 in
theorem lifted (os : Os) (started : os.Started) (H : Type) (enc : TypeId × Value → H) :
  ReturnsInHanded {} Try.checked os 11 .any (Rows.fillManySpec.pre6 enc Try.prog Try.f11 Rows.fillManyRow.domain false) (Rows.fillManySpec.post enc Try.prog Try.f11 false true false false) := by
 refine returnsInHanded_of_change_sized (C := Try.checked) own started (by kernel_rfl) Try.func11
  (ChangeSpec.witness6 (enc := enc) (C := Try.checked) false ⟨#[], #[.int .i64 0, .slice none 0 0, .agg #[.int .i64 0, .int .i64 0], .slice none 0 0, .agg #[.int .i64 0, .int .i64 0, .int .i64 0, .int .i64 0, .int .i64 0, .int .i64 0], .slice none 0 0], []⟩ 8 (by kernel_rfl) (by kernel_rfl) (by kernel_rfl) (by kernel_rfl)) ?_
 intro W base args ds gs before hval0 hW hcnd hsz0 _
 have hval : ∀ (j : Nat) t v, Try.f11.params[j]? = some t → args[j]? = some v → Value.okWide Try.prog W .any base t v := hval0
 have hW' := hW
 obtain ⟨p, q, hA0, hV, rfl, hfz, hnd⟩ := hW
 have hA : DataW.TrodAll enc Try.prog W 0 (fun _ => true) true Try.f11.params.toList args.toList ds p := hA0
 rw [Try.params11] at hA hval
 obtain ⟨v0, vs0, d0, ds0, p0, q0, hargs, rfl, rfl, h0, r0⟩ := trodAll_cons hA
 obtain ⟨v1, vs1, d1, ds1, p1, q1, rfl, rfl, rfl, h1, r1⟩ := trodAll_cons r0
 obtain ⟨v2, vs2, d2, ds2, p2, q2, rfl, rfl, rfl, h2, r2⟩ := trodAll_cons r1
 obtain ⟨v3, vs3, d3, ds3, p3, q3, rfl, rfl, rfl, h3, r3⟩ := trodAll_cons r2
 obtain ⟨v4, vs4, d4, ds4, p4, q4, rfl, rfl, rfl, h4, r4⟩ := trodAll_cons r3
 obtain ⟨v5, vs5, d5, ds5, p5, q5, rfl, rfl, rfl, h5, r5⟩ := trodAll_cons r4
 obtain ⟨rfl, rfl, rfl⟩ := trodAll_nil r5
 obtain rfl : args = #[v0, v1, v2, v3, v4, v5] := by cases args; simp_all
 obtain ⟨rfl, rfl⟩ := trodVars_none hV
 have k0 := h0
 have lt0 : ∀ x ∈ p0, x.block < W.heap.size := by obtain ⟨m, hm⟩ := k0; exact DataW.trod_lt m _ _ _ hm
 obtain ⟨x0, rfl⟩ := okWide_int Try.underlying3 (hval 0 3 v0 rfl rfl)
 obtain ⟨y0, e0, w0⟩ := Opens.open (o_i64 Try.underlying3) h0
 have e0' : x0 = y0 := by have := e0; simp [Value.cells, Kd.int, Kd.scalar] at this; exact this
 rw [← e0'] at w0
 have k1 := h1
 have lt1 : ∀ x ∈ p1, x.block < W.heap.size := by obtain ⟨m, hm⟩ := k1; exact DataW.trod_lt m _ _ _ hm
 obtain ⟨a1, len1, cap1, rfl⟩ := okWide_slice Try.underlying22 (hval 1 22 v1 rfl rfl)
 obtain ⟨x1, ⟨A1, c1, e1, l1, g1⟩, w1⟩ := Opens.open (Opens.slice Try.underlying22 (by kernel_rfl) (o51)) h1
 simp [Value.cells] at e1
 obtain ⟨rfl, rfl, rfl⟩ := e1
 have k2 := h2
 have lt2 : ∀ x ∈ p2, x.block < W.heap.size := by obtain ⟨m, hm⟩ := k2; exact DataW.trod_lt m _ _ _ hm
 obtain ⟨cs2, rfl, _⟩ := okWide_struct Try.underlying24 (hval 2 24 v2 rfl rfl)
 obtain ⟨x2, K2, w2⟩ := Opens.open o24 h2
 have e2 := k24_open K2
 obtain rfl : cs2 = #[.int .i64 x2.f0, .int .i64 x2.f1] := by apply Array.toList_inj.1; exact e2
 have k3 := h3
 have lt3 : ∀ x ∈ p3, x.block < W.heap.size := by obtain ⟨m, hm⟩ := k3; exact DataW.trod_lt m _ _ _ hm
 obtain ⟨a3, len3, cap3, rfl⟩ := okWide_slice Try.underlying25 (hval 3 25 v3 rfl rfl)
 obtain ⟨x3, ⟨A3, c3, e3, l3, g3⟩, w3⟩ := Opens.open (Opens.slice Try.underlying25 (by kernel_rfl) (o41)) h3
 simp [Value.cells] at e3
 obtain ⟨rfl, rfl, rfl⟩ := e3
 have k4 := h4
 have lt4 : ∀ x ∈ p4, x.block < W.heap.size := by obtain ⟨m, hm⟩ := k4; exact DataW.trod_lt m _ _ _ hm
 obtain ⟨cs4, rfl, _⟩ := okWide_struct Try.underlying29 (hval 4 29 v4 rfl rfl)
 obtain ⟨x4, K4, w4⟩ := Opens.open o29 h4
 have e4 := k29_open K4
 obtain rfl : cs4 = #[.int .i64 x4.f0, .int .i64 x4.f1, .int .i64 x4.f2.f0, .int .i64 x4.f2.f1, .int .i64 x4.f2.f2, .int .i64 x4.f2.f3] := by apply Array.toList_inj.1; exact e4
 have k5 := h5
 have lt5 : ∀ x ∈ p5, x.block < W.heap.size := by obtain ⟨m, hm⟩ := k5; exact DataW.trod_lt m _ _ _ hm
 obtain ⟨a5, len5, cap5, rfl⟩ := okWide_slice Try.underlying25 (hval 5 25 v5 rfl rfl)
 obtain ⟨x5, ⟨A5, c5, e5, l5, g5⟩, w5⟩ := Opens.open (Opens.slice Try.underlying25 (by kernel_rfl) (o41)) h5
 simp [Value.cells] at e5
 obtain ⟨rfl, rfl, rfl⟩ := e5
 clear hA0 hval0 hsz0
 obtain ⟨k, hk⟩ := Pure.FillMany x0 x1 x2 x3 x4 x5 w0 w1 w2 w3 w4 w5
 refine (ensemblelaw13_FillMany.calls k x0 _ _ x1 (x2.f0) (x2.f1) _ _ x3 (x4.f0) (x4.f1) (x4.f2.f0) (x4.f2.f1) (x4.f2.f2) (x4.f2.f3) _ _ x5 true W g1 l1 g3 l3 g5 l5 hk).mono fun e W' ⟨he, bel⟩ => ?_
 subst he
 exact ⟨_, rfl, _, _, _, [], _, [], hW', trodAll_mk1 (shut_bool Try.underlying4 _), (trodAll_cons_mk (Below.trod laidOut (by kernel_rfl) (of_decide_eq_true (by kernel_rfl)) k0 bel lt0) (trodAll_cons_mk (Below.trod laidOut (by kernel_rfl) (of_decide_eq_true (by kernel_rfl)) k1 bel lt1) (trodAll_cons_mk (Below.trod laidOut (by kernel_rfl) (of_decide_eq_true (by kernel_rfl)) k2 bel lt2) (trodAll_cons_mk (Below.trod laidOut (by kernel_rfl) (of_decide_eq_true (by kernel_rfl)) k3 bel lt3) (trodAll_cons_mk (Below.trod laidOut (by kernel_rfl) (of_decide_eq_true (by kernel_rfl)) k4 bel lt4) (trodAll_cons_mk (Below.trod laidOut (by kernel_rfl) (of_decide_eq_true (by kernel_rfl)) k5 bel lt5) trodAll_mk0)))))), rfl, bel.frame _, fun h => by cases h⟩
set_option maxHeartbeats 8000000 in
theorem closedFacts : joinedFacts Try.checked.prog 11 Try.f11 Rows.fillManySpec Rows.fillManyRow = true := by
 unfold joinedFacts
 repeat' (with_reducible (apply row0.and_mk))
 all_goals first | (with_reducible exact row0.mayEnter) | (rw [row0.liftsFinal]; kernel_rfl) | (rw [row0.make]; kernel_rfl) | (as_aux_lemma => kernel_rfl)
theorem over : Rows.fillManyRow.holds Try.pinned (OpenSpec.ofChange Rows.fillManySpec) :=
 OpenClaim.holds_of_wide 11 Try.f11 rfl rfl rfl rfl rfl rfl rfl ⟨rfl, rfl, rfl, rfl, rfl⟩ rfl rfl rfl rfl rfl (by kernel_rfl) Try.func11 closedFacts
  (of_decide_eq_true (by kernel_rfl)) (by unfold Func.isWrapper; first | (rw [if_pos (by decide +kernel)]; kernel_rfl) | (rw [if_neg (by decide +kernel)]; exact ⟨rfl, rfl⟩))
  (fun os started H enc _ => lifted os started H enc)
theorem proved : Rows.FillManySaid := over
#print axioms proved
end Go.Proofs.Ytckhjehibjdjdaa.fillMany
namespace Go.Proofs.Ytckhjehibjdjdaa
theorem fillMany_holds : Rows.FillManySaid := fillMany.proved
end Go.Proofs.Ytckhjehibjdjdaa
