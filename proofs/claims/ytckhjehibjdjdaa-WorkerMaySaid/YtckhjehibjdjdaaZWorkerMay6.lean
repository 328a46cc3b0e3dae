/- WorkerMay: part 6 of the walk and of the plain law that it comes to. No condition. -/
import Derived.Test.YtckhjehibjdjdaaZWorkerMay5
import Derived.ArgAppend
import Derived.Below
import Derived.BigQuiet
import Derived.BigRegion
import Derived.Carry
import Derived.ChangeOld
import Derived.Deep.AppendLies
import Derived.Deep.CutBlock
import Derived.Deep.DeepCutAuto
import Derived.Deep.Draws
import Derived.Deep.LoopGhost
import Derived.Deep.OwnRows
import Derived.Deep.QuietTactic
import Derived.Deep.RegionHeld3
import Derived.Deep.Slices
import Derived.DeepKeys3
import Derived.KernelRfl
import Derived.Laws.Bits64
import Derived.Laws.Bits64b
import Derived.Laws.BitsLemmas
import Derived.Laws.BytesArg
import Derived.Laws.EntriesVeiled
import Derived.Laws.Externs
import Derived.Laws.IdiomCopy
import Derived.Laws.MakeOwn
import Derived.Laws.OwnMore
import Derived.Laws.Rows
import Derived.Laws.Slices
import Derived.Lib.AppendStr
import Derived.Lib.ConvBytes
import Derived.Lib.ReflectliteSlice
import Derived.Lib.ReflectliteSwap
import Derived.Lib.SliceRun
import Derived.LoopIn
import Derived.LoopN
import Derived.LoopNIn
import Derived.LoopTactic
import Derived.Maps.AppendAt
import Derived.Maps.Keyed
import Derived.Maps.Own
import Derived.Maps.OwnOps
import Derived.Maps.OwnSet
import Derived.Maps.Views
import Derived.OpenShut
import Derived.OrdersHeld
import Derived.Outline
import Derived.OwnWalk
import Derived.OwnWalkIn
import Derived.ProofKit
import Derived.RangeFuncBound
import Derived.RangeFuncBox
import Derived.RangeFuncCalls
import Derived.RangeFuncFrom
import Derived.RangeFuncLeaves
import Derived.RangeFuncNested
import Derived.RowKit
import Derived.RowKit3
import Derived.Shelf.Abstract
import Derived.Shelf.RegionOpen
import Derived.ShutString
import Derived.SizedLaws
import Derived.StillTailTactics
import Derived.Tactics
import Derived.TacticsInMore
import Derived.WalkKit
import Derived.WideLaws
set_option linter.unusedVariables false
set_option linter.unusedSimpArgs false
namespace Go.Proofs.Ytckhjehibjdjdaa.P
open Go.RowKit Go.Proofs.YtckhjehibjdjdaaW.PrintWords Go.Proofs.YtckhjehibjdjdaaW.PrintLast Go.Proofs.YtckhjehibjdjdaaW.PrintMore
open Go.Proofs.Ytckhjehibjdjdaa.Bits Go.Proofs.Ytckhjehibjdjdaa.Mp
theorem popS_all {g : Int} : ∀ {l : List S52}, (∀ s ∈ l, popI s.f1 = g) → popS l = g * l.length
 | [], _ => by simp [popS]
 | s :: l, h => by
  rw [popS_cons, h s (by simp), popS_all (fun x hx => h x (by simp [hx])), List.length_cons]
  rw [Int.natCast_succ, Int.mul_add, Int.mul_one]; omega
theorem cpS_all {c : Int} : ∀ {l : List S52}, (∀ s ∈ l, s.f2 = c) → cpS l = c * l.length
 | [], _ => by simp [cpS]
 | s :: l, h => by
  rw [cpS_cons, h s (by simp), cpS_all (fun x hx => h x (by simp [hx])), List.length_cons]
  rw [Int.natCast_succ, Int.mul_add, Int.mul_one]; omega
structure Placed (view : List S51) (g c n : Int) (l : List S52) : Prop where
 len : (l.length : Int) = n
 less : (turnF lessE lessF view l).2 = 0
 pop : ∀ s ∈ l, popI s.f1 = g ∧ s.f2 = c
 mask : ∀ s ∈ l, maskOk s = true
 at_ : ∀ s ∈ l, ∃ f ∈ view, s.f0 = f.f0
theorem Few5.placed {view : List S51} (F : Few5 view) {g c mn mx n : Int} (h : (placeP view g c mn mx n).2 = 0) : Placed view g c n (placeP view g c mn mx n).1 := by
 obtain ⟨a, b, c', d⟩ := placeP_ok h
 have hp := isort_perm (fkey g c mn mx) view
 have eP : (placeP view g c mn mx n).1 = (flat g c mn mx (isort (fkey g c mn mx) view)).take n.toNat := by rw [d]
 obtain ⟨l1, l2, l3, l4, l5⟩ := less_flat a (isort (fkey g c mn mx) view) view n.toNat F.V ((hp.map spot).nodup_iff.2 F.V.right.2) (fun f hf => hp.mem_iff.1 hf)
 have hu := flat_units a (L := isort (fkey g c mn mx) view) (fun f hf => F.ok f (hp.mem_iff.1 hf))
 have hs := flat_spot g c mn mx (isort (fkey g c mn mx) view)
 refine ⟨placeP_len h, by rw [eP]; exact l1, fun s hs' => ?_, fun s hs' => ?_, fun s hs' => ?_⟩
 ·rw [eP] at hs'; exact (hu s (List.mem_of_mem_take hs')).symm
 ·rw [eP] at hs'; obtain ⟨f, _, _, h2⟩ := hs s (List.mem_of_mem_take hs'); exact h2
 ·rw [eP] at hs'; obtain ⟨f, h1, h2, _⟩ := hs s (List.mem_of_mem_take hs'); exact ⟨f, hp.mem_iff.1 h1, h2⟩
theorem Placed.units {view : List S51} {g c n : Int} {l : List S52} (P : Placed view g c n l) (hg : 0 ≤ g ∧ g ≤ 16) (hc : 0 ≤ c ∧ c ≤ 1024) (hn : 0 ≤ n ∧ n ≤ 16) : addL true (0, 0) l = (g * n, c * n) := by
 have h1 := popS_all (fun s hs => (P.pop s hs).1)
 have h2 := cpS_all (fun s hs => (P.pop s hs).2)
 rw [P.len] at h1 h2
 have b1 : g * n ≤ 16 * 16 := Int.mul_le_mul hg.2 hn.2 hn.1 (by decide)
 have b2 : c * n ≤ 1024 * 16 := Int.mul_le_mul hc.2 hn.2 hn.1 (by decide)
 have b3 : 0 ≤ g * n := Int.mul_nonneg hg.1 hn.1
 have b4 : 0 ≤ c * n := Int.mul_nonneg hc.1 hn.1
 rw [addL_true l (0, 0) (by unfold I64P; simp only; omega), h1, h2]
 simp only [Int.zero_add]
 rw [w_id (by omega), w_id (by omega)]
theorem Placed.units_ev {view : List S51} {g c n : Int} {l : List S52} (P : Placed view g c n l) (hg : 0 ≤ g ∧ g ≤ 16) (hc : 0 ≤ c ∧ c ≤ 1024) (hn : 0 ≤ n ∧ n ≤ 16) : Ev (fun k => ensembleref08_Units.f k l) (g * n, c * n) := by
 have := units08_ev l (by have := P.len; omega) P.mask
 rwa [P.units hg hc hn] at this
theorem Placed.less_ev {view : List S51} {g c n : Int} {l : List S52} (P : Placed view g c n l) (F : Few5 view) (hn : 0 ≤ n ∧ n ≤ 16) : ∃ v, Ev (fun k => ensembleref05_Less.f k view l) (v, 0) := by
 have := less05_ev view l (by have := P.len; omega) P.mask (by have := F.len; omega) F.V.free
 refine ⟨(turnF lessE lessF view l).1, ?_⟩
 rw [← P.less]; exact this
theorem rd105' (l : List S105) (i : Nat) (h : i < l.length) : a6_ l (i : Int) = l[i] := by
 simp [a6_, List.getD_eq_getElem?_getD, List.getElem?_eq_getElem h]
theorem rd149' (l : List S149) (i : Nat) (h : i < l.length) : a9_ l (i : Int) = l[i] := by
 simp [a9_, List.getD_eq_getElem?_getD, List.getElem?_eq_getElem h]
theorem nxt {i n : Nat} (hn : n ≤ 1000000) (hi : i < n) : wrap64 ((i : Int) + 1) = ((i + 1 : Nat) : Int) := by rw [w_id (by omega)]; omega
theorem Ev.out {α β : Type} {g : Nat → Option α} {a : α} (h : Ev g a) (F : α → β) : Ev (fun n => (g n).bind fun t => some (F t)) (F a) := Ev.bind h (Ev.now (F a))
theorem few15_l0 (a0 a1 a2 a3 : Int) (view : List S51) (left : List S24) (ends : List S41) (waits : List S105) (runs : List S149) (hl : waits.length ≤ 150) (d : Nat) :
  ∀ i : Nat, i ≤ waits.length → waits.length - i = d → ∃ b, Ev (fun k => ensembleref15_Few.l0 k (i : Int) a0 a1 a2 a3 view left ends waits runs) b := by
 induction d with
 | zero =>
  intro i hi hd
  exact ⟨true, Ev.step (f := fun _ => some true) (fun k => by rw [ensembleref15_Few.l0, if_neg (by omega)]) (Ev.now _)⟩
 | succ d ih =>
  intro i hi hd
  have hil : i < waits.length := by omega
  obtain ⟨b, hb⟩ := ih (i + 1) (by omega) (by omega)
  have e1 := nxt (n := waits.length) (by omega) hil
  by_cases h1 : (a6_ waits (i : Int)).f0.f3 < 0
  ·exact ⟨false, Ev.step (f := fun _ => some false) (fun k => by rw [ensembleref15_Few.l0, if_pos (by omega), if_pos (by omega), if_pos h1]) (Ev.now _)⟩
  by_cases h2 : (a6_ waits (i : Int)).f0.f3 > 1073741824
  ·exact ⟨false, Ev.step (f := fun _ => some false) (fun k => by rw [ensembleref15_Few.l0, if_pos (by omega), if_pos (by omega), if_neg h1, if_pos h2]) (Ev.now _)⟩
  exact ⟨b, Ev.step (fun k => by rw [ensembleref15_Few.l0, if_pos (by omega), if_pos (by omega), if_neg h1, if_neg h2, e1]) hb⟩
theorem few15_ev (a0 a1 a2 a3 : Int) (view : List S51) (left : List S24) (ends : List S41) (waits : List S105) (runs : List S149) (wv : ∀ y ∈ view, wfd51 y) (we : ∀ y ∈ ends, wfd41 y) :
  ∃ b, Ev (fun k => ensembleref15_Few.f k a0 a1 a2 a3 view left ends waits runs) b ∧ (b = true → FewL view left ends waits runs) := by
 have JF : Ev (fun k => ensembleref15_Few.j0 k true a0 a1 a2 a3 view left ends waits runs) false := Ev.step (f := fun _ => some false) (fun k => by rw [ensembleref15_Few.j0, if_pos rfl]) (Ev.now _)
 rcases few14_ev a0 a1 a2 a3 view left ends waits runs wv we with ⟨hk, F⟩ | hk
 case inr => exact ⟨false, Ev.congr (fun k => by unfold ensembleref15_Few.f; rfl) (Ev.bind hk (Ev.congr (fun k => by rw [if_neg (by decide)]) JF)), fun h => by cases h⟩
 obtain ⟨b, hb⟩ := few15_l0 a0 a1 a2 a3 view left ends waits runs F.wl waits.length 0 (by omega) (by omega)
 have JT : ∀ x : Bool, ∃ b, Ev (fun k => ensembleref15_Few.j0 k x a0 a1 a2 a3 view left ends waits runs) b := fun x => by
  cases x with
  | true => exact ⟨_, JF⟩
  | false => exact ⟨b, Ev.step (fun k => by rw [ensembleref15_Few.j0, if_neg (by decide)]; rfl) hb⟩
 have st : ∀ x b, Ev (fun k => ensembleref15_Few.j0 k x a0 a1 a2 a3 view left ends waits runs) b → (∀ k, (if a0 < 0 then ensembleref15_Few.j0 k true a0 a1 a2 a3 view left ends waits runs else if a0 > 1073741824 then ensembleref15_Few.j0 k true a0 a1 a2 a3 view left ends waits runs else if a3 < 0 then ensembleref15_Few.j0 k true a0 a1 a2 a3 view left ends waits runs else ensembleref15_Few.j0 k (decide (a3 > 1073741824)) a0 a1 a2 a3 view left ends waits runs) = ensembleref15_Few.j0 k x a0 a1 a2 a3 view left ends waits runs) →
   Ev (fun k => ensembleref15_Few.f k a0 a1 a2 a3 view left ends waits runs) b := fun x b h he =>
  Ev.congr (fun k => by unfold ensembleref15_Few.f; rfl) (Ev.bind hk (Ev.congr (fun k => by rw [if_pos rfl, he]) h))
 by_cases h1 : a0 < 0
 ·exact ⟨_, st true _ JF (fun k => by rw [if_pos h1]), fun _ => F⟩
 by_cases h2 : a0 > 1073741824
 ·exact ⟨_, st true _ JF (fun k => by rw [if_neg h1, if_pos h2]), fun _ => F⟩
 by_cases h3 : a3 < 0
 ·exact ⟨_, st true _ JF (fun k => by rw [if_neg h1, if_neg h2, if_pos h3]), fun _ => F⟩
 obtain ⟨b', hb'⟩ := JT (decide (a3 > 1073741824))
 exact ⟨_, st _ _ hb' (fun k => by rw [if_neg h1, if_neg h2, if_neg h3]), fun _ => F⟩
theorem head_eq (a0 a1 a2 a3 : Int) (view : List S51) (left : List S24) (ends : List S41) {waits : List S105} (runs : List S149) (hl : waits.length ≤ 150) : elastic_Head.f a0 a1 a2 a3 view left ends waits runs = some (headL a1 waits) := by
 unfold elastic_Head.f; rw [if_pos (by omega)]
theorem hold_ev (id : Int) (L : List S41) (hl : L.length ≤ 1000000) (d : Nat) :
  ∀ i : Nat, i ≤ L.length → L.length - i = d → ∃ r, Ev (fun k => worker_hold.l0 k id L (L.length : Int) (i : Int)) r := by
 induction d with
 | zero =>
  intro i hi hd
  exact ⟨_, Ev.step (f := fun _ => some (0, 0, 0, false, ([] : List (S52)), false)) (fun k => by rw [worker_hold.l0, if_neg (by omega)]) (Ev.now _)⟩
 | succ d ih =>
  intro i hi hd
  have hil : i < L.length := by omega
  obtain ⟨b, hb⟩ := ih (i + 1) (by omega) (by omega)
  have e1 := nxt hl hil
  by_cases h2 : (a8_ L (i : Int)).f0 = id
  ·exact ⟨_, Ev.step (fun k => by rw [worker_hold.l0, if_pos (by omega), if_pos (by omega), if_pos (by omega), if_pos h2]) (Ev.now _)⟩
  exact ⟨b, Ev.step (fun k => by rw [worker_hold.l0, if_pos (by omega), if_pos (by omega), if_pos (by omega), if_neg h2, e1]) hb⟩
theorem Placed.holdOk {view : List S51} {g c n : Int} {l : List S52} (P : Placed view g c n l) (vo : viewOk view) (hn : n ≤ 16) (id q u : Int) : HoldOk ⟨id, q, u, false, l⟩ :=
 ⟨P.mask, fun s hs => by obtain ⟨f, hf, e⟩ := P.at_ s hs; rw [e]; exact vo.2.2 f hf, by show l.length ≤ 20; have := P.len; omega⟩
theorem lb_i64 {left : List S24} (hL : ∀ u ∈ left, lbU u) {q : Int} (h : 0 ≤ q ∧ q < left.length) : I64P ((a7_ left q).f0, (a7_ left q).f1) := by
 obtain ⟨i, rfl⟩ : ∃ i : Nat, q = i := ⟨q.toNat, by omega⟩
 rw [rd24' left i (by omega)]
 have := hL left[i] (List.getElem_mem _)
 unfold lbU at this
 unfold I64P
 simp only
 omega
theorem safe_ev (a0 a1 a2 a3 : Int) {view : List S51} {left : List S24} {ends : List S41} (waits : List S105) (runs : List S149) (B : Base view ends) (el : ends.length < 500) (sl : (c8_ ends).length ≤ 100000) (hL : ∀ u ∈ left, lbU u) (hl : waits.length ≤ 150) {id q u : Int} {l : List S52} (H : HoldOk ⟨id, q, u, false, l⟩) :
  ∃ b, Ev (fun k => elastic_safe.f k a0 a1 a2 a3 view left ends waits runs id q u false l) b := by
 obtain ⟨⟨r0, r1, r2, r3, r4, r5, r6⟩, hr⟩ : ∃ r, headL a1 waits = r := ⟨_, rfl⟩
 have hr' : elastic_Head.f a0 a1 a2 a3 view left ends waits runs = some (r0, r1, r2, r3, r4, r5, r6) := by rw [head_eq _ _ _ _ _ _ _ _ hl, hr]
 have JT : Ev (fun k => elastic_safe.j0 k true a0 a1 a2 a3 view left ends waits runs id q u false l r0 r1 r2 r3 r4 r5) true := Ev.step (f := fun _ => some true) (fun k => by rw [elastic_safe.j0, if_pos rfl]) (Ev.now _)
 have J : ∀ x : Bool, ∃ b, Ev (fun k => elastic_safe.j0 k x a0 a1 a2 a3 view left ends waits runs id q u false l r0 r1 r2 r3 r4 r5) b := fun x => by
  cases x with
  | true => exact ⟨_, JT⟩
  | false =>
   by_cases h1 : r0 < 0
   ·exact ⟨_, Ev.step (f := fun _ => some false) (fun k => by rw [elastic_safe.j0, if_neg (by decide), if_pos h1]) (Ev.now _)⟩
   by_cases h2 : r0 ≥ (left.length : Int)
   ·exact ⟨_, Ev.step (f := fun _ => some false) (fun k => by rw [elastic_safe.j0, if_neg (by decide), if_neg h1, if_pos h2]) (Ev.now _)⟩
   have hs := B.safe (lb_i64 hL (q := r0) (by omega)) H el sl a0 r0 r1 r2 r3 r4 r5 a2
   exact ⟨_, Ev.step (fun k => by rw [elastic_safe.j0, if_neg (by decide), if_neg h1, if_neg h2, if_pos (by omega), if_pos (by omega), hs, Option.bind_some]) (Ev.now _)⟩
 cases r6 with
 | true =>
  obtain ⟨b, hb⟩ := J (id == a1)
  exact ⟨b, Ev.congr (fun k => by unfold elastic_safe.f; rw [hr', Option.bind_some, if_pos rfl]) hb⟩
 | false => exact ⟨true, Ev.congr (fun k => by unfold elastic_safe.f; rw [hr', Option.bind_some, if_neg (by simp)]) JT⟩
structure GotJ (view : List S51) (left : List S24) (y : S88) (n : Int) (sl : List S52) : Prop where
 gs : c9_ y.f4.f0 y.f4.f1 y.f4.f2 y.f4.f3 = true
 q : 0 ≤ y.f1 ∧ y.f1 < (left.length : Int)
 can : canB view y.f4.f0 y.f4.f1 y.f4.f2 y.f4.f3 n (a7_ left y.f1).f0 (a7_ left y.f1).f1 = 0
 pl : Placed view y.f4.f0 y.f4.f1 n sl
theorem most_got {view : List S51} (F : Few5 view) (left : List S24) (y : S88) (h : (mostB view left y.f1 y.f4.f0 y.f4.f1 y.f4.f2 y.f4.f3).2 = 0) :
  ∃ n, (y.f4.f2 ≤ n ∧ n ≤ y.f4.f3) ∧ ((mostB view left y.f1 y.f4.f0 y.f4.f1 y.f4.f2 y.f4.f3).1.length : Int) = n ∧ GotJ view left y n (mostB view left y.f1 y.f4.f0 y.f4.f1 y.f4.f2 y.f4.f3).1 := by
 have hR := most_is F left y.f1 y.f4.f0 y.f4.f1 y.f4.f2 y.f4.f3
 generalize mostB view left y.f1 y.f4.f0 y.f4.f1 y.f4.f2 y.f4.f3 = r at hR h
 cases hR with
 | shape hg => exact absurd h (by simp)
 | queue hg hq => exact absurd h (by simp)
 | not hg hq hc => exact absurd h hc
 | got n hg hq hn hc hm =>
  obtain ⟨hr, h1, h2⟩ := canB_zero.1 hc
  obtain ⟨p0, pl⟩ := got_place (view := view) hg hn hr
  exact ⟨n, hn, pl, hg, hq, hc, F.placed p0⟩
structure Sett (view : List S51) (left : List S24) (ends : List S41) (waits : List S105) (runs : List S149) : Prop where
 F : FewL view left ends waits runs
 F5 : Few5 view
 B : Base view ends
 el : ends.length < 500
 sl : (c8_ ends).length ≤ 100000
 vl : view.length ≤ 1000000
theorem FewL.sett {view : List S51} {left : List S24} {ends : List S41} {waits : List S105} {runs : List S149} (F : FewL view left ends waits runs) (wv : ∀ y ∈ view, wfd51 y) (we : ∀ y ∈ ends, wfd41 y) : Sett view left ends waits runs := by
 have S := setup wv we F.fp
 have h4 := slots_len S.hl
 have h5 : 20 * ends.length ≤ 20 * 20 := Nat.mul_le_mul_left 20 S.el
 exact ⟨F, F.few5 wv, S.base, by have := S.el; omega, by omega, by have := S.vl; omega⟩
section
variable {a0 a1 a2 a3 : Int} {view : List S51} {left : List S24} {ends : List S41} {waits : List S105} {runs : List S149}
theorem Sett.safe (S : Sett view left ends waits runs) {g c n : Int} {l : List S52} (P : Placed view g c n l) (hn : n ≤ 16) (id q u : Int) :
  ∃ b, Ev (fun k => elastic_safe.f k a0 a1 a2 a3 view left ends waits runs id q u false l) b :=
 safe_ev a0 a1 a2 a3 waits runs S.B S.el S.sl S.F.lb S.F.wl (P.holdOk S.B.vo hn id q u)
theorem Sett.place (S : Sett view left ends waits runs) (g c mn mx n : Int) : pack_Place.f view g c mn mx n = some (placeP view g c mn mx n) := by
 unfold pack_Place.f; rw [if_pos S.F5.placeOk, place_P S.F5.ok]
theorem Sett.most (S : Sett view left ends waits runs) (y : S88) : elastic_Most.f a0 a1 a2 a3 view left ends waits runs y.f0 y.f1 y.f2 y.f3 y.f4.f0 y.f4.f1 y.f4.f2 y.f4.f3 = some (mostB view left y.f1 y.f4.f0 y.f4.f1 y.f4.f2 y.f4.f3) := by
 unfold elastic_Most.f; rw [if_pos S.F5.placeOk]
theorem GotJ.at_ (S : Sett view left ends waits runs) {y : S88} {n m : Int} {sl : List S52} (G : GotJ view left y n sl) (h1 : 1 ≤ m) (hm : m ≤ n) (hn : n ≤ 16) :
  GotJ view left y m (placeP view y.f4.f0 y.f4.f1 y.f4.f2 y.f4.f3 m).1 ∧ ((placeP view y.f4.f0 y.f4.f1 y.f4.f2 y.f4.f3 m).1.length : Int) = m := by
 have hb := good_out0 G.gs
 have hc := canB_le hb.1 hb.2.2.1 G.can hm
 obtain ⟨hr, _, _⟩ := canB_zero.1 hc
 have p0 : (placeP view y.f4.f0 y.f4.f1 y.f4.f2 y.f4.f3 m).2 = 0 := by
  unfold placeP
  rw [if_pos ⟨G.gs, by omega, by omega⟩, if_neg (by omega)]
 exact ⟨⟨G.gs, G.q, hc, S.F5.placed p0⟩, placeP_len p0⟩
theorem Sett.tries (S : Sett view left ends waits runs) {y : S88} {n : Int} {sl : List S52} (G : GotJ view left y n sl) (hn : n ≤ 16) (u : Int) :
  ∀ L : List Int, (∀ m ∈ L, 1 ≤ m ∧ m ≤ n) → ∃ t, Ev (fun k => fillTs k a0 a1 a2 a3 view left ends waits runs y.f0 y.f1 y.f4.f0 y.f4.f1 y.f4.f2 y.f4.f3 u L) t ∧ ∀ x ∈ t, ∃ m, m ∈ L ∧ (x.1.length : Int) = m ∧ GotJ view left y m x.1
 | [], _ => ⟨[], Ev.now _, fun _ h => by cases h⟩
 | m :: r, h => by
  have hm := h m (by simp)
  obtain ⟨Gm, lm⟩ := GotJ.at_ S G hm.1 hm.2 hn
  obtain ⟨b, hb⟩ := S.safe (a0 := a0) (a1 := a1) (a2 := a2) (a3 := a3) Gm.pl (by omega) y.f0 y.f1 u
  obtain ⟨t, ht, hx⟩ := S.tries G hn u r (fun x hx => h x (by simp [hx]))
  refine ⟨_, Ev.congr (fun k => by rw [fillTs, S.place, Option.bind_some]) (Ev.bind hb (Ev.out ht (fun t => ((placeP view y.f4.f0 y.f4.f1 y.f4.f2 y.f4.f3 m).1, b) :: t))), ?_⟩
  intro x hxx
  rcases List.mem_cons.1 hxx with rfl | hxx
  ·exact ⟨m, by simp, lm, Gm⟩
  ·obtain ⟨m', h1, h2⟩ := hx x hxx
   exact ⟨m', by simp [h1], h2⟩
theorem fillR_got {t : List (List S52 × Bool)} (h : (fillR t).2 = 0) : ∃ x ∈ t, (fillR t).1 = x.1 := by
 unfold fillR at h ⊢
 cases hf : t.find? (fun x => x.2) with
 | none => rw [hf] at h; exact absurd h (by simp)
 | some x => exact ⟨x, List.mem_of_find?_eq_some hf, rfl⟩
theorem Sett.fill (S : Sett view left ends waits runs) (y : S88) (u : Int) :
  ∃ r, Ev (fun k => elastic_Fill.f k a0 a1 a2 a3 view left ends waits runs y.f0 y.f1 y.f2 y.f3 y.f4.f0 y.f4.f1 y.f4.f2 y.f4.f3 u) r ∧ (r.2 = 0 → ∃ n, (y.f4.f2 ≤ n ∧ n ≤ y.f4.f3) ∧ (r.1.length : Int) = n ∧ GotJ view left y n r.1) := by
 by_cases h0 : (mostB view left y.f1 y.f4.f0 y.f4.f1 y.f4.f2 y.f4.f3).2 = 0
 ·obtain ⟨n, hn, hl, G⟩ := most_got S.F5 left y h0
  have hb := good_out1 G.gs
  obtain ⟨t, ht, hx⟩ := S.tries (a0 := a0) (a1 := a1) (a2 := a2) (a3 := a3) G (by omega) u (downL (mostB view left y.f1 y.f4.f0 y.f4.f1 y.f4.f2 y.f4.f3).1.length y.f4.f2) (fun m hm => by have := downL_mem hm; omega)
  refine ⟨fillR t, Ev.congr (fun k => by unfold elastic_Fill.f; rw [S.most y, Option.bind_some, if_pos h0, if_pos (by omega)]) (Ev.out ht fillR), fun h => ?_⟩
  obtain ⟨x, hxt, e⟩ := fillR_got h
  obtain ⟨m, hm, hl', Gm⟩ := hx x hxt
  have := downL_mem hm
  rw [e]
  exact ⟨m, by omega, hl', Gm⟩
 ·exact ⟨([], (mostB view left y.f1 y.f4.f0 y.f4.f1 y.f4.f2 y.f4.f3).2), Ev.congr (fun k => by unfold elastic_Fill.f; rw [S.most y, Option.bind_some, if_neg h0]) (Ev.now _), fun h => absurd h h0⟩
theorem Sett.fillJs (S : Sett view left ends waits runs) : ∀ L : List S88, ∃ t, Ev (fun k => fillJs k a0 a1 a2 a3 view left ends waits runs L) t ∧ ((fillW L t = (0, 0, [], false)) ∨ ∃ y ∈ L, ∃ n sl, fillW L t = (2, y.f0, sl, true) ∧ (y.f4.f2 ≤ n ∧ n ≤ y.f4.f3) ∧ (sl.length : Int) = n ∧ GotJ view left y n sl)
 | [] => ⟨[], Ev.now _, .inl rfl⟩
 | y :: r => by
  obtain ⟨m, hm, hg⟩ := S.fill (a0 := a0) (a1 := a1) (a2 := a2) (a3 := a3) y (wrap64 (wrap64 (a0 + a3) + y.f3))
  obtain ⟨t, ht, h⟩ := S.fillJs r
  refine ⟨m :: t, Ev.congr (fun k => by rw [P.fillJs]) (Ev.bind hm (Ev.out ht (fun t => m :: t))), ?_⟩
  by_cases h0 : m.2 = 0
  ·obtain ⟨n, h1, h2, h3⟩ := hg h0
   exact .inr ⟨y, by simp, n, m.1, by rw [fillW, if_pos h0], h1, h2, h3⟩
  ·rw [show fillW (y :: r) (m :: t) = fillW r t by rw [fillW, if_neg h0]]
   rcases h with h | ⟨y', hy, rest⟩
   ·exact .inl h
   ·exact .inr ⟨y', by simp [hy], rest⟩
theorem one_of_len {l : List S52} (h : (l.length : Int) = 1) : l = [⟨⟨(a5_ l 0).f0.f0, (a5_ l 0).f0.f1⟩, (a5_ l 0).f1, (a5_ l 0).f2⟩] := by
 cases l with
 | nil => cases h
 | cons x r =>
  cases r with
  | nil => rfl
  | cons y r => simp at h; omega
theorem Sett.grow (S : Sett view left ends waits runs) (h : Int × Int × Int × Bool × List S52 × Bool) (y : S88) :
  ∃ r, Ev (fun k => elastic_Grow.f k a0 a1 a2 a3 view left ends waits runs h.1 h.2.1 h.2.2.1 h.2.2.2.1 h.2.2.2.2.1 y.f0 y.f1 y.f2 y.f3 y.f4.f0 y.f4.f1 y.f4.f2 y.f4.f3) r ∧ (r.2.2.2.2 = 0 → GotJ view left y 1 [(⟨⟨r.1, r.2.1⟩, r.2.2.1, r.2.2.2.1⟩ : S52)]) := by
 by_cases h0 : (leftB left y.f1 y.f4.f0 y.f4.f1 y.f4.f2 y.f4.f3).2.2 = 0
 case neg => exact ⟨_, Ev.congr (fun k => by unfold elastic_Grow.f; rw [left_eq0, Option.bind_some, if_neg h0]) (Ev.now _), fun e => absurd e h0⟩
 obtain ⟨hg, hq, e⟩ := leftB_ok h0
 by_cases h1 : (h.2.2.2.2.1.length : Int) ≥ y.f4.f3
 ·exact ⟨_, Ev.congr (fun k => by unfold elastic_Grow.f; rw [left_eq0, Option.bind_some, if_pos h0, if_pos h1]) (Ev.now _), fun e => absurd e (by simp)⟩
 have hc : Ev (fun k => elastic_can.f k a0 a1 a2 a3 view left ends waits runs y.f4.f0 y.f4.f1 y.f4.f2 y.f4.f3 1 (a7_ left y.f1).f0 (a7_ left y.f1).f1) (canB view y.f4.f0 y.f4.f1 y.f4.f2 y.f4.f3 1 (a7_ left y.f1).f0 (a7_ left y.f1).f1) :=
  ⟨view.length + 1, fun k hk => can_eq k a0 a1 a2 a3 view left ends waits runs _ _ _ _ 1 _ _ hk S.vl S.F5.V.free hg (by decide) (by decide)⟩
 have st : ∀ b, Ev (fun k => (elastic_can.f k a0 a1 a2 a3 view left ends waits runs y.f4.f0 y.f4.f1 y.f4.f2 y.f4.f3 1 (a7_ left y.f1).f0 (a7_ left y.f1).f1).bind fun t756 => (if t756 = 0 then ((pack_Place.f view y.f4.f0 y.f4.f1 y.f4.f2 y.f4.f3 1).bind fun bt757 => ((elastic_safe.f k a0 a1 a2 a3 view left ends waits runs y.f0 y.f1 h.2.2.1 false bt757.1).bind fun t761 => (if t761 = true then (if 0 < (bt757.1.length : Int) then (some ((a5_ bt757.1 0).f0.f0, (a5_ bt757.1 0).f0.f1, (a5_ bt757.1 0).f1, (a5_ bt757.1 0).f2, 0)) else (none)) else (some (0, 0, 0, 0, 5))))) else (some (0, 0, 0, 0, t756)))) b →
   Ev (fun k => elastic_Grow.f k a0 a1 a2 a3 view left ends waits runs h.1 h.2.1 h.2.2.1 h.2.2.2.1 h.2.2.2.2.1 y.f0 y.f1 y.f2 y.f3 y.f4.f0 y.f4.f1 y.f4.f2 y.f4.f3) b := fun b hb =>
  Ev.congr (fun k => by unfold elastic_Grow.f; rw [left_eq0, Option.bind_some, if_pos h0, if_neg h1, e]) hb
 by_cases h2 : canB view y.f4.f0 y.f4.f1 y.f4.f2 y.f4.f3 1 (a7_ left y.f1).f0 (a7_ left y.f1).f1 = 0
 case neg => exact ⟨_, st _ (Ev.bind hc (Ev.congr (fun k => by rw [if_neg h2]) (Ev.now _))), fun e => absurd e h2⟩
 obtain ⟨hr, _, _⟩ := canB_zero.1 h2
 have p0 : (placeP view y.f4.f0 y.f4.f1 y.f4.f2 y.f4.f3 1).2 = 0 := by
  unfold placeP
  rw [if_pos ⟨hg, by omega, by omega⟩, if_neg (by omega)]
 have G : GotJ view left y 1 (placeP view y.f4.f0 y.f4.f1 y.f4.f2 y.f4.f3 1).1 := ⟨hg, hq, h2, S.F5.placed p0⟩
 have hlen := placeP_len p0
 obtain ⟨b, hb⟩ := S.safe (a0 := a0) (a1 := a1) (a2 := a2) (a3 := a3) G.pl (by decide) y.f0 y.f1 h.2.2.1
 cases b with
 | false => exact ⟨_, st _ (Ev.bind hc (Ev.congr (fun k => by rw [if_pos h2, S.place, Option.bind_some]) (Ev.bind hb (Ev.congr (fun k => by rw [if_neg (by decide)]) (Ev.now _))))), fun e => absurd e (by simp)⟩
 | true =>
  refine ⟨_, st _ (Ev.bind hc (Ev.congr (fun k => by rw [if_pos h2, S.place, Option.bind_some]) (Ev.bind hb (Ev.congr (fun k => by rw [if_pos rfl, if_pos (by omega)]) (Ev.now _))))), fun _ => ?_⟩
  rw [one_of_len hlen] at G
  exact G
theorem Sett.growG (S : Sett view left ends waits runs) : ∀ L : List S149, ∃ r, Ev (fun k => growG k a0 a1 a2 a3 view left ends waits runs L) r ∧ (r = (0, 0, [], false) ∨ ∃ x ∈ L, ∃ s, r = (3, x.f0.f0, [s], true) ∧ GotJ view left x.f0 1 [s])
 | [] => ⟨_, Ev.now _, .inl rfl⟩
 | x :: r => by
  obtain ⟨r1, hr1, hr2⟩ := S.growG r
  have up : (r1 = (0, 0, [], false) ∨ ∃ x' ∈ x :: r, ∃ s, r1 = (3, x'.f0.f0, [s], true) ∧ GotJ view left x'.f0 1 [s]) := by
   rcases hr2 with h | ⟨x', hx, rest⟩
   ·exact .inl h
   ·exact .inr ⟨x', by simp [hx], rest⟩
  obtain ⟨h, hh⟩ := hold_ev x.f0.f0 ends (by have := S.el; omega) ends.length 0 (by omega) (by omega)
  have hh' : Ev (fun k => worker_hold.f k a0 a1 a2 a3 view left ends waits runs x.f0.f0) h := hh
  by_cases h0 : h.2.2.2.2.2 = true
  case neg => exact ⟨r1, Ev.congr (fun k => by rw [P.growG]) (Ev.bind hh' (Ev.congr (fun k => by rw [if_neg h0]) hr1)), up⟩
  obtain ⟨g, hg, hG⟩ := S.grow (a0 := a0) (a1 := a1) (a2 := a2) (a3 := a3) h x.f0
  by_cases h1 : g.2.2.2.2 = 0
  ·exact ⟨_, Ev.congr (fun k => by rw [P.growG]) (Ev.bind hh' (Ev.congr (fun k => by rw [if_pos h0]) (Ev.bind hg (Ev.congr (fun k => by rw [if_pos h1]) (Ev.now _))))), .inr ⟨x, by simp, _, rfl, hG h1⟩⟩
  ·exact ⟨r1, Ev.congr (fun k => by rw [P.growG]) (Ev.bind hh' (Ev.congr (fun k => by rw [if_pos h0]) (Ev.bind hg (Ev.congr (fun k => by rw [if_neg h1]) hr1)))), up⟩
inductive Chose (view : List S51) (left : List S24) (waits : List S105) (runs : List S149) (hd : Int) : Int × Int × List S52 → Prop where
 | rest : Chose view left waits runs hd (0, 0, [])
 | start (d : Int) (x : S105) (n : Int) (sl : List S52) (hx : x ∈ waits) (hh : d = 1 ∧ isHd hd x = true ∨ d = 2 ∧ isHd hd x = false) (hn : x.f0.f4.f2 ≤ n ∧ n ≤ x.f0.f4.f3) (hl : (sl.length : Int) = n) (G : GotJ view left x.f0 n sl) : Chose view left waits runs hd (d, x.f0.f0, sl)
 | grow (x : S149) (s : S52) (hx : x ∈ runs) (G : GotJ view left x.f0 1 [s]) : Chose view left waits runs hd (3, x.f0.f0, [s])
theorem jobsL_mem {h : Int} {b : Bool} {l : List S105} {y : S88} (hy : y ∈ jobsL h b l) : ∃ x ∈ l, isHd h x = b ∧ x.f0 = y := by
 unfold jobsL at hy
 obtain ⟨x, hx, e⟩ := List.mem_map.1 hy
 obtain ⟨h1, h2⟩ := List.mem_filter.1 hx
 exact ⟨x, h1, by simpa using h2, e⟩
theorem Sett.choose (S : Sett view left ends waits runs) : ∃ r, Ev (fun k => worker_Choose.f k a0 a1 a2 a3 view left ends waits runs) r ∧ Chose view left waits runs a1 r := by
 obtain ⟨ts, hts, hW⟩ := S.fillJs (a0 := a0) (a1 := a1) (a2 := a2) (a3 := a3) (jobsL a1 false waits)
 obtain ⟨g, hg, hG⟩ := S.growG (a0 := a0) (a1 := a1) (a2 := a2) (a3 := a3) runs
 have rest : ∀ x y, ∃ r, r = pickC (x, y, ([] : List S52), false) (fillW (jobsL a1 false waits) ts) g ∧ Chose view left waits runs a1 r := fun x y => by
  rcases hW with h | ⟨y, hy, n, sl, h, hn, hl, G⟩
  ·rw [h]
   rcases hG with h' | ⟨x, hx, s, h', G⟩
   ·rw [h']; exact ⟨_, rfl, .rest⟩
   ·rw [h']; exact ⟨_, rfl, .grow x s hx G⟩
  ·rw [h]
   obtain ⟨x, hx, hb, rfl⟩ := jobsL_mem hy
   exact ⟨_, rfl, .start 2 x n sl hx (.inr ⟨rfl, hb⟩) hn hl G⟩
 have up : ∀ h, headF a0 a1 a2 a3 view left ends waits runs = some h → Ev (fun k => worker_Choose.f k a0 a1 a2 a3 view left ends waits runs) (pickC h (fillW (jobsL a1 false waits) ts) g) := fun h hh =>
  Ev.congr (fun k => by unfold worker_Choose.f; rw [if_pos ⟨by have := S.F.wl; omega, by have := S.F.rl; omega⟩, hh, Option.bind_some]) (Ev.bind hts (Ev.out hg (fun g => pickC h (fillW (jobsL a1 false waits) ts) g)))
 cases hj : jobsL a1 true waits with
 | nil =>
  obtain ⟨r, hr, hc⟩ := rest 0 0
  exact ⟨r, hr ▸ up _ (by unfold headF; rw [hj]), hc⟩
 | cons y L =>
  have hy : y ∈ jobsL a1 true waits := by rw [hj]; simp
  obtain ⟨x, hx, hb, rfl⟩ := jobsL_mem hy
  have hh : headF a0 a1 a2 a3 view left ends waits runs = some (1, x.f0.f0, (mostB view left x.f0.f1 x.f0.f4.f0 x.f0.f4.f1 x.f0.f4.f2 x.f0.f4.f3).1, (mostB view left x.f0.f1 x.f0.f4.f0 x.f0.f4.f1 x.f0.f4.f2 x.f0.f4.f3).2 == 0) := by
   unfold headF; rw [hj]
   show (elastic_Most.f a0 a1 a2 a3 view left ends waits runs x.f0.f0 x.f0.f1 x.f0.f2 x.f0.f3 x.f0.f4.f0 x.f0.f4.f1 x.f0.f4.f2 x.f0.f4.f3).bind _ = _
   rw [S.most x.f0]; rfl
  by_cases h0 : (mostB view left x.f0.f1 x.f0.f4.f0 x.f0.f4.f1 x.f0.f4.f2 x.f0.f4.f3).2 = 0
  ·obtain ⟨n, hn, hl, G⟩ := most_got S.F5 left x.f0 h0
   rw [h0] at hh
   exact ⟨_, up _ hh, .start 1 x n _ hx (.inl ⟨rfl, hb⟩) hn hl G⟩
  ·have e0 : ((mostB view left x.f0.f1 x.f0.f4.f0 x.f0.f4.f1 x.f0.f4.f2 x.f0.f4.f3).2 == 0) = false := by simpa using h0
   rw [e0] at hh
   have := up _ hh
   rcases hW with h | ⟨y, hy, n, sl, h, hn, hl, G⟩
   ·rw [h] at this
    rcases hG with h' | ⟨x, hx, s, h', G⟩
    ·rw [h'] at this; exact ⟨_, this, .rest⟩
    ·rw [h'] at this; exact ⟨_, this, .grow x s hx G⟩
   ·rw [h] at this
    obtain ⟨x, hx, hb, rfl⟩ := jobsL_mem hy
    exact ⟨_, this, .start 2 x n sl hx (.inr ⟨rfl, hb⟩) hn hl G⟩
end
def OneR (runs : List S149) : Prop := ∀ i (hi : i < runs.length) m (hm : m < i), (runs[i]).f0.f0 ≠ (runs[m]'(by omega)).f0.f0
theorem twice_l3 (a0 a1 a2 a3 : Int) (view : List S51) (left : List S24) (ends : List S41) (waits : List S105) (runs : List S149) (hl : runs.length ≤ 1000000) {i : Nat} (hi : i < runs.length) {Q : Prop} {b : Bool} (K : Ev (fun k => ensemblelaw15_twice.l2 k ((i + 1 : Nat) : Int) a0 a1 a2 a3 view left ends waits runs) b) (hb : b = true ∨ Q) (d : Nat) :
  ∀ j : Nat, j ≤ i → i - j = d → ∃ b, Ev (fun k => ensemblelaw15_twice.l3 k (i : Int) (j : Int) a0 a1 a2 a3 view left ends waits runs) b ∧ (b = true ∨ Q ∧ ∀ m (hm : m < i), j ≤ m → (runs[i]).f0.f0 ≠ (runs[m]'(by omega)).f0.f0) := by
 induction d with
 | zero =>
  intro j hj hd
  obtain rfl : j = i := by omega
  exact ⟨b, Ev.step (fun k => by rw [ensemblelaw15_twice.l3, if_neg (by omega), nxt hl hi]) K, hb.imp id fun q => ⟨q, fun m h1 h2 => by omega⟩⟩
 | succ d ih =>
  intro j hj hd
  by_cases h : (runs[i]).f0.f0 = (runs[j]'(by omega)).f0.f0
  ·exact ⟨true, Ev.step (f := fun _ => some true) (fun k => by rw [ensemblelaw15_twice.l3, if_pos (by omega), if_pos (by omega), if_pos (by omega), if_pos (by omega), if_pos (by omega), rd149' runs i hi, rd149' runs j (by omega), if_pos h]) (Ev.now _), .inl rfl⟩
  obtain ⟨b', h1, h2⟩ := ih (j + 1) (by omega) (by omega)
  refine ⟨b', Ev.step (fun k => by rw [ensemblelaw15_twice.l3, if_pos (by omega), if_pos (by omega), if_pos (by omega), if_pos (by omega), if_pos (by omega), rd149' runs i hi, rd149' runs j (by omega), if_neg h, nxt (n := runs.length) hl (by omega)]) h1, h2.imp id fun ⟨q, hq⟩ => ⟨q, fun m hm hjm => ?_⟩⟩
  by_cases e : m = j
  ·subst e; exact h
  ·exact hq m hm (by omega)
theorem twice_l2 (a0 a1 a2 a3 : Int) (view : List S51) (left : List S24) (ends : List S41) (waits : List S105) (runs : List S149) (hl : runs.length ≤ 1000000) (d : Nat) :
  ∀ i : Nat, i ≤ runs.length → runs.length - i = d → ∃ b, Ev (fun k => ensemblelaw15_twice.l2 k (i : Int) a0 a1 a2 a3 view left ends waits runs) b ∧ (b = true ∨ (∀ j (hj : j < runs.length), i ≤ j → ∀ m (hm : m < j), (runs[j]).f0.f0 ≠ (runs[m]'(by omega)).f0.f0)) := by
 induction d with
 | zero =>
  intro i hi hd
  exact ⟨false, Ev.step (f := fun _ => some false) (fun k => by rw [ensemblelaw15_twice.l2, if_neg (by omega)]) (Ev.now _), .inr fun j hj hij => by omega⟩
 | succ d ih =>
  intro i hi hd
  have hil : i < runs.length := by omega
  obtain ⟨b, h1, h2⟩ := ih (i + 1) (by omega) (by omega)
  obtain ⟨b', h3, h4⟩ := twice_l3 a0 a1 a2 a3 view left ends waits runs hl hil h1 h2 i 0 (by omega) (by omega)
  refine ⟨b', Ev.step (fun k => by rw [ensemblelaw15_twice.l2, if_pos (by omega)]; rfl) h3, h4.imp id fun ⟨q, hq⟩ =>  fun j hj hij m hm => ?_⟩
  by_cases e : j = i
  ·subst e; exact hq m hm (by omega)
  ·exact q j hj (by omega) m hm
def OneW (waits : List S105) : Prop := ∀ i (hi : i < waits.length) m (hm : m < i), (waits[i]).f0.f0 ≠ (waits[m]'(by omega)).f0.f0
theorem twice_l1 (a0 a1 a2 a3 : Int) (view : List S51) (left : List S24) (ends : List S41) (waits : List S105) (runs : List S149) (hl : waits.length ≤ 1000000) {i : Nat} (hi : i < waits.length) {Q : Prop} {b : Bool} (K : Ev (fun k => ensemblelaw15_twice.l0 k ((i + 1 : Nat) : Int) a0 a1 a2 a3 view left ends waits runs) b) (hb : b = true ∨ Q) (d : Nat) :
  ∀ j : Nat, j ≤ i → i - j = d → ∃ b, Ev (fun k => ensemblelaw15_twice.l1 k (i : Int) (j : Int) a0 a1 a2 a3 view left ends waits runs) b ∧ (b = true ∨ Q ∧ ∀ m (hm : m < i), j ≤ m → (waits[i]).f0.f0 ≠ (waits[m]'(by omega)).f0.f0) := by
 induction d with
 | zero =>
  intro j hj hd
  obtain rfl : j = i := by omega
  exact ⟨b, Ev.step (fun k => by rw [ensemblelaw15_twice.l1, if_neg (by omega), nxt hl hi]) K, hb.imp id fun q => ⟨q, fun m h1 h2 => by omega⟩⟩
 | succ d ih =>
  intro j hj hd
  by_cases h : (waits[i]).f0.f0 = (waits[j]'(by omega)).f0.f0
  ·exact ⟨true, Ev.step (f := fun _ => some true) (fun k => by rw [ensemblelaw15_twice.l1, if_pos (by omega), if_pos (by omega), if_pos (by omega), if_pos (by omega), if_pos (by omega), rd105' waits i hi, rd105' waits j (by omega), if_pos h]) (Ev.now _), .inl rfl⟩
  obtain ⟨b', h1, h2⟩ := ih (j + 1) (by omega) (by omega)
  refine ⟨b', Ev.step (fun k => by rw [ensemblelaw15_twice.l1, if_pos (by omega), if_pos (by omega), if_pos (by omega), if_pos (by omega), if_pos (by omega), rd105' waits i hi, rd105' waits j (by omega), if_neg h, nxt (n := waits.length) hl (by omega)]) h1, h2.imp id fun ⟨q, hq⟩ => ⟨q, fun m hm hjm => ?_⟩⟩
  by_cases e : m = j
  ·subst e; exact h
  ·exact hq m hm (by omega)
theorem twice_l0 (a0 a1 a2 a3 : Int) (view : List S51) (left : List S24) (ends : List S41) (waits : List S105) (runs : List S149) (hl : waits.length ≤ 1000000) {Q : Prop} {b : Bool} (K : Ev (fun k => ensemblelaw15_twice.l2 k 0 a0 a1 a2 a3 view left ends waits runs) b) (hb : b = true ∨ Q) (d : Nat) :
  ∀ i : Nat, i ≤ waits.length → waits.length - i = d → ∃ b, Ev (fun k => ensemblelaw15_twice.l0 k (i : Int) a0 a1 a2 a3 view left ends waits runs) b ∧ (b = true ∨ Q ∧ (∀ j (hj : j < waits.length), i ≤ j → ∀ m (hm : m < j), (waits[j]).f0.f0 ≠ (waits[m]'(by omega)).f0.f0)) := by
 induction d with
 | zero =>
  intro i hi hd
  exact ⟨b, Ev.step (fun k => by rw [ensemblelaw15_twice.l0, if_neg (by omega)]) K, hb.imp id fun q => ⟨q, fun j hj hij => by omega⟩⟩
 | succ d ih =>
  intro i hi hd
  have hil : i < waits.length := by omega
  obtain ⟨b, h1, h2⟩ := ih (i + 1) (by omega) (by omega)
  obtain ⟨b', h3, h4⟩ := twice_l1 a0 a1 a2 a3 view left ends waits runs hl hil h1 h2 i 0 (by omega) (by omega)
  refine ⟨b', Ev.step (fun k => by rw [ensemblelaw15_twice.l0, if_pos (by omega)]; rfl) h3, h4.imp id fun ⟨q, hq⟩ => ⟨q.1, fun j hj hij m hm => ?_⟩⟩
  by_cases e : j = i
  ·subst e; exact hq m hm (by omega)
  ·exact q.2 j hj (by omega) m hm
theorem twice_ev (a0 a1 a2 a3 : Int) (view : List S51) (left : List S24) (ends : List S41) (waits : List S105) (runs : List S149) (hw : waits.length ≤ 1000000) (hr : runs.length ≤ 1000000) : ∃ b, Ev (fun k => ensemblelaw15_twice.f k a0 a1 a2 a3 view left ends waits runs) b ∧ (b = true ∨ OneW waits ∧ OneR runs) := by
 obtain ⟨b, h1, h2⟩ := twice_l2 a0 a1 a2 a3 view left ends waits runs hr runs.length 0 (by omega) (by omega)
 obtain ⟨b', h3, h4⟩ := twice_l0 a0 a1 a2 a3 view left ends waits runs hw h1 h2 waits.length 0 (by omega) (by omega)
 exact ⟨b', h3, h4.imp id fun ⟨h, h'⟩ => ⟨fun i hi m hm => h' i hi (by omega) m hm, fun i hi m hm => h i hi (by omega) m hm⟩⟩
theorem findJ_mem {id : Int} : ∀ {L : List S88} {y : S88}, y ∈ L → y.f0 = id → ∃ z ∈ L, z.f0 = id ∧ findJ id L = recJ z
 | x :: r, y, hy, he => by
  rw [findJ]
  by_cases h : x.f0 = id
  ·exact ⟨x, by simp, h, by rw [if_pos h]⟩
  ·rcases List.mem_cons.1 hy with rfl | hy
   ·exact absurd he h
   ·obtain ⟨z, hz, h1, h2⟩ := findJ_mem hy he
    exact ⟨z, by simp [hz], h1, by rw [if_neg h, h2]⟩
theorem OneW.eq {waits : List S105} (h : OneW waits) {p q : Nat} (hp : p < waits.length) (hq : q < waits.length) (e : (waits[p]).f0.f0 = (waits[q]).f0.f0) : p = q := by
 rcases Nat.lt_trichotomy p q with h1 | h1 | h1
 ·exact absurd e.symm (h q hq p h1)
 ·exact h1
 ·exact absurd e (h p hp q h1)
theorem OneR.eq {runs : List S149} (h : OneR runs) {p q : Nat} (hp : p < runs.length) (hq : q < runs.length) (e : (runs[p]).f0.f0 = (runs[q]).f0.f0) : p = q := by
 rcases Nat.lt_trichotomy p q with h1 | h1 | h1
 ·exact absurd e.symm (h q hq p h1)
 ·exact h1
 ·exact absurd e (h p hp q h1)
def WorkerMay.Pure : Prop := ∀ (x0 : S86), wfd86 x0 → ∃ k, ensemblelaw15_WorkerMay.f k x0.f0 x0.f1 x0.f2 x0.f3 x0.f4 x0.f5 x0.f6 x0.f7 x0.f8 = some true
theorem may_j0 {a0 a1 a2 a3 : Int} {view : List S51} {left : List S24} {ends : List S41} {waits : List S105} {runs : List S149} (S : Sett view left ends waits runs) {d n : Int} {sl : List S52} {y z : S88}
  (hn : 1 ≤ n ∧ n ≤ 16) (hl : (sl.length : Int) = n) (G : GotJ view left y n sl) (he : z.f0 = y.f0) (hz : OneW waits ∧ OneR runs → z = y)
  (h3 : d ≠ 3 → (d = 1 ∧ y.f0 = a1 ∧ a1 ≠ 0 ∨ d = 2 ∧ (y.f0 = a1 → a1 = 0)) ∧ y.f4.f2 ≤ n ∧ n ≤ y.f4.f3) (h3' : d = 3 → n = 1) :
  Ev (fun k => (ensemblelaw15_twice.f k a0 a1 a2 a3 view left ends waits runs).bind fun t => if t = true then some true else
   if 0 ≤ z.f1 ∧ z.f1 < (left.length : Int) then
    (ensembleref08_Units.f k sl).bind fun u => (ensembleref05_Less.f k view sl).bind fun l =>
    if l.2 = 0 ∧ u.1 ≤ (a7_ left z.f1).f0 ∧ u.2 ≤ (a7_ left z.f1).f1 then
     if d = 3 then (if (sl.length : Int) = 1 then some true else none)
     else if (z.f4.f2 ≤ (sl.length : Int) ∧ (sl.length : Int) ≤ z.f4.f3) ∧ ((d == 1) == (decide (y.f0 = a1) && decide (a1 ≠ 0))) = true then some true else none
    else none
   else none) true := by
 obtain ⟨b, ht, hone⟩ := twice_ev a0 a1 a2 a3 view left ends waits runs (by have := S.F.wl; omega) (by have := S.F.rl; omega)
 refine Ev.bind ht ?_
 cases b with
 | true => exact Ev.congr (fun k => by rw [if_pos rfl]) (Ev.now _)
 | false =>
  obtain rfl := hz (hone.resolve_left (by decide))
  have hb0 := good_out0 G.gs
  obtain ⟨hr, h1, h2⟩ := canB_zero.1 G.can
  obtain ⟨v, hless⟩ := G.pl.less_ev S.F5 (by omega)
  have hu := G.pl.units_ev (by omega) (by omega) (by omega)
  have hq := G.q
  refine Ev.congr (fun k => by rw [if_neg (by decide), if_pos hq]) (Ev.bind hu (Ev.bind hless (Ev.congr (fun k => ?_) (Ev.now _))))
  rw [if_pos ⟨rfl, h1, h2⟩]
  by_cases hd : d = 3
  ·rw [if_pos hd, if_pos (by have := h3' hd; omega)]
  ·obtain ⟨h4, h5⟩ := h3 hd
   have h7 : ((d == 1) == (decide (z.f0 = a1) && decide (a1 ≠ 0))) = true := by
    rcases h4 with ⟨rfl, e, h0⟩ | ⟨rfl, e⟩
    ·simp [e, h0]
    ·by_cases h6 : z.f0 = a1
     ·have := e h6; simp [this]
     ·simp [h6]
   rw [if_neg hd, if_pos ⟨by omega, h7⟩]
theorem Pure.WorkerMay : WorkerMay.Pure := by
 rintro ⟨a0, a1, a2, a3, view, left, ends, waits, runs⟩ w0
 simp only
 unfold wfd86 at w0
 simp only at w0
 refine Ev.rounds (g := fun k => ensemblelaw15_WorkerMay.f k a0 a1 a2 a3 view left ends waits runs) ?_
 refine Ev.congr (fun k => by unfold ensemblelaw15_WorkerMay.f; rfl) ?_
 obtain ⟨b, hb, hF⟩ := few15_ev a0 a1 a2 a3 view left ends waits runs w0.2.2.2.2.1.2 w0.2.2.2.2.2.2.1.2
 refine Ev.bind hb ?_
 cases b with
 | false => exact Ev.congr (fun k => by rw [if_pos rfl]) (Ev.now _)
 | true =>
  have S := (hF rfl).sett w0.2.2.2.2.1.2 w0.2.2.2.2.2.2.1.2
  have wl : waits.length ≤ 1000000 := by have := S.F.wl; omega
  have rl : runs.length ≤ 1000000 := by have := S.F.rl; omega
  obtain ⟨r, hr, hC⟩ := S.choose (a0 := a0) (a1 := a1) (a2 := a2) (a3 := a3)
  refine Ev.congr (fun k => by rw [if_neg (by decide)]) (Ev.bind hr ?_)
  cases hC with
  | rest => exact Ev.congr (fun k => by rw [if_pos rfl, if_pos ⟨rfl, rfl⟩]) (Ev.now _)
  | start d x n sl hx hh hn hl G =>
   have hd : d = 1 ∨ d = 2 := by rcases hh with ⟨h, _⟩ | ⟨h, _⟩ <;> omega
   obtain ⟨z, hz, e1, hJ⟩ := findJ_mem (L := waits.map fun x => x.f0) (List.mem_map.2 ⟨x, hx, rfl⟩) (id := x.f0.f0) rfl
   obtain ⟨x', hx', rfl⟩ := List.mem_map.1 hz
   obtain ⟨p, hp, e⟩ := List.getElem_of_mem hx
   obtain ⟨q, hq, e'⟩ := List.getElem_of_mem hx'
   have hJ' : ensemblelaw15_job.f a0 a1 a2 a3 view left ends waits runs d x.f0.f0 sl = some (recJ x'.f0) := by unfold ensemblelaw15_job.f; rw [if_pos ⟨wl, rl⟩, if_neg (by omega), hJ]
   have hb1 := good_out1 G.gs
   have main := may_j0 (a0 := a0) (a1 := a1) (a2 := a2) (a3 := a3) S (d := d) (z := x'.f0) (by omega) hl G e1 (fun ⟨ho, _⟩ => by
    have := ho.eq hp hq (by rw [e, e', e1]); subst this; rw [← e, ← e']) (fun _ => ⟨by
     unfold isHd at hh
     rcases hh with ⟨h1, h2⟩ | ⟨h1, h2⟩
     ·simp at h2; exact .inl ⟨h1, h2.2, h2.1⟩
     ·simp at h2; exact .inr ⟨h1, fun h => Classical.byContradiction fun h' => h2 h' h⟩, hn⟩) (fun h => by omega)
   exact Ev.congr (fun k => by rw [if_neg (by simp only; omega), if_neg (by simp only; omega), hJ', Option.bind_some]; exact if_neg (by simp [recJ])) main
  | grow x s hx G =>
   obtain ⟨z, hz, e1, hJ⟩ := findJ_mem (L := runs.map fun x => x.f0) (List.mem_map.2 ⟨x, hx, rfl⟩) (id := x.f0.f0) rfl
   obtain ⟨x', hx', rfl⟩ := List.mem_map.1 hz
   obtain ⟨p, hp, e⟩ := List.getElem_of_mem hx
   obtain ⟨q, hq, e'⟩ := List.getElem_of_mem hx'
   have hJ' : ensemblelaw15_job.f a0 a1 a2 a3 view left ends waits runs 3 x.f0.f0 [s] = some (recJ x'.f0) := by unfold ensemblelaw15_job.f; rw [if_pos ⟨wl, rl⟩, if_pos rfl, hJ]
   have main := may_j0 (a0 := a0) (a1 := a1) (a2 := a2) (a3 := a3) S (d := 3) (n := 1) (z := x'.f0) (by decide) rfl G e1 (fun ⟨_, ho⟩ => by
    have := ho.eq hp hq (by rw [e, e', e1]); subst this; rw [← e, ← e']) (fun h => absurd rfl h) (fun _ => rfl)
   exact Ev.congr (fun k => by rw [if_neg (by simp), if_neg (by simp), hJ', Option.bind_some]; exact if_neg (by simp [recJ])) main
end Go.Proofs.Ytckhjehibjdjdaa.P
namespace Go.Proofs.Ytckhjehibjdjdaa.row0
set_option maxRecDepth 100000
theorem and_mk {a b : Bool} (h : a = true) (k : b = true) : (a && b) = true := by rw [h, k]; rfl
def letters : List Char := List.map Char.ofNat [104, 97, 114, 110, 101, 115, 115, 32, 57, 100, 50, 54, 101, 98, 50, 54, 53, 56, 98, 49, 102, 51, 56, 49, 51, 55, 98, 54, 100, 49, 53, 55, 102, 53, 100, 49, 102, 101, 97, 49, 102, 56, 57, 57, 55, 98, 52, 55, 53, 51, 99, 98, 101, 48, 98, 98, 48, 97, 53, 54, 48, 102, 102, 54, 52, 98, 99, 52, 98, 52, 102, 52, 32, 99, 117, 116, 32, 97, 116, 32, 101, 110, 115, 101, 109, 98, 108, 101, 47, 101, 110, 115, 101, 109, 98, 108, 101, 108, 97, 119, 49, 50, 46, 80, 114, 111, 109, 105, 115, 101, 84, 101, 108, 108, 115, 32, 101, 110, 115, 101, 109, 98, 108, 101, 47, 101, 110, 115, 101, 109, 98, 108, 101, 108, 97, 119, 49, 50, 46, 80, 114, 111, 109, 105, 115, 101, 75, 101, 101, 112, 115, 32, 101, 110, 115, 101, 109, 98, 108, 101, 47, 101, 110, 115, 101, 109, 98, 108, 101, 108, 97, 119, 49, 50, 46, 80, 114, 111, 109, 105, 115, 101, 76, 101, 115, 115, 32, 101, 110, 115, 101, 109, 98, 108, 101, 47, 101, 110, 115, 101, 109, 98, 108, 101, 108, 97, 119, 49, 50, 46, 80, 114, 111, 109, 105, 115, 101, 79, 110, 108, 121, 32, 101, 110, 115, 101, 109, 98, 108, 101, 47, 101, 110, 115, 101, 109, 98, 108, 101, 108, 97, 119, 49, 50, 46, 80, 114, 111, 109, 105, 115, 101, 82, 111, 111, 109, 32, 101, 110, 115, 101, 109, 98, 108, 101, 47, 101, 110, 115, 101, 109, 98, 108, 101, 108, 97, 119, 49, 51, 46, 70, 105, 108, 108, 84, 101, 108, 108, 115, 32, 101, 110, 115, 101, 109, 98, 108, 101, 47, 101, 110, 115, 101, 109, 98, 108, 101, 108, 97, 119, 49, 51, 46, 70, 105, 108, 108, 76, 97, 116, 101, 32, 101, 110, 115, 101, 109, 98, 108, 101, 47, 101, 110, 115, 101, 109, 98, 108, 101, 108, 97, 119, 49, 51, 46, 70, 105, 108, 108, 78, 111, 110, 101, 32, 101, 110, 115, 101, 109, 98, 108, 101, 47, 101, 110, 115, 101, 109, 98, 108, 101, 108, 97, 119, 49, 51, 46, 70, 105, 108, 108, 77, 97, 110, 121, 32, 101, 110, 115, 101, 109, 98, 108, 101, 47, 101, 110, 115, 101, 109, 98, 108, 101, 108, 97, 119, 49, 51, 46, 70, 105, 108, 108, 80, 97, 115, 116, 32, 101, 110, 115, 101, 109, 98, 108, 101, 47, 101, 110, 115, 101, 109, 98, 108, 101, 108, 97, 119, 48, 53, 46, 80, 97, 99, 107, 70, 101, 119, 32, 101, 110, 115, 101, 109, 98, 108, 101, 47, 101, 110, 115, 101, 109, 98, 108, 101, 108, 97, 119, 48, 53, 46, 80, 97, 99, 107, 70, 114, 111, 110, 116, 32, 101, 110, 115, 101, 109, 98, 108, 101, 47, 101, 110, 115, 101, 109, 98, 108, 101, 108, 97, 119, 48, 53, 46, 80, 97, 99, 107, 84, 101, 108, 108, 115, 32, 101, 110, 115, 101, 109, 98, 108, 101, 47, 101, 110, 115, 101, 109, 98, 108, 101, 108, 97, 119, 48, 53, 46, 80, 97, 99, 107, 82, 111, 111, 109, 115, 32, 101, 110, 115, 101, 109, 98, 108, 101, 47, 101, 110, 115, 101, 109, 98, 108, 101, 108, 97, 119, 48, 53, 46, 80, 97, 99, 107, 76, 101, 102, 116, 32, 101, 110, 115, 101, 109, 98, 108, 101, 47, 101, 110, 115, 101, 109, 98, 108, 101, 108, 97, 119, 48, 53, 46, 80, 97, 99, 107, 77, 111, 114, 101, 32, 101, 110, 115, 101, 109, 98, 108, 101, 47, 101, 110, 115, 101, 109, 98, 108, 101, 108, 97, 119, 48, 53, 46, 80, 97, 99, 107, 87, 104, 111, 108, 101, 32, 101, 110, 115, 101, 109, 98, 108, 101, 47, 101, 110, 115, 101, 109, 98, 108, 101, 108, 97, 119, 49, 52, 46, 69, 108, 97, 115, 116, 105, 99, 77, 111, 115, 116, 32, 101, 110, 115, 101, 109, 98, 108, 101, 47, 101, 110, 115, 101, 109, 98, 108, 101, 108, 97, 119, 49, 52, 46, 69, 108, 97, 115, 116, 105, 99, 77, 111, 114, 101, 32, 101, 110, 115, 101, 109, 98, 108, 101, 47, 101, 110, 115, 101, 109, 98, 108, 101, 108, 97, 119, 49, 52, 46, 69, 108, 97, 115, 116, 105, 99, 83, 97, 102, 101, 32, 101, 110, 115, 101, 109, 98, 108, 101, 47, 101, 110, 115, 101, 109, 98, 108, 101, 108, 97, 119, 49, 53, 46, 87, 111, 114, 107, 101, 114, 77, 97, 121, 32, 101, 110, 115, 101, 109, 98, 108, 101, 47, 101, 110, 115, 101, 109, 98, 108, 101, 108, 97, 119, 49, 53, 46, 87, 111, 114, 107, 101, 114, 82, 101, 115, 116, 115]
theorem lit : Try.checked.prog.initOrder = String.ofList letters := by kernel_rfl
theorem lits : Try.checked.prog.initOrder.toList = letters := by rw [lit]; exact String.toList_ofList
def words : List (List Char) := List.map (List.map Char.ofNat) [[99, 117, 116], [97, 116], [101, 110, 115, 101, 109, 98, 108, 101, 47, 101, 110, 115, 101, 109, 98, 108, 101, 108, 97, 119, 49, 50, 46, 80, 114, 111, 109, 105, 115, 101, 84, 101, 108, 108, 115], [101, 110, 115, 101, 109, 98, 108, 101, 47, 101, 110, 115, 101, 109, 98, 108, 101, 108, 97, 119, 49, 50, 46, 80, 114, 111, 109, 105, 115, 101, 75, 101, 101, 112, 115], [101, 110, 115, 101, 109, 98, 108, 101, 47, 101, 110, 115, 101, 109, 98, 108, 101, 108, 97, 119, 49, 50, 46, 80, 114, 111, 109, 105, 115, 101, 76, 101, 115, 115], [101, 110, 115, 101, 109, 98, 108, 101, 47, 101, 110, 115, 101, 109, 98, 108, 101, 108, 97, 119, 49, 50, 46, 80, 114, 111, 109, 105, 115, 101, 79, 110, 108, 121], [101, 110, 115, 101, 109, 98, 108, 101, 47, 101, 110, 115, 101, 109, 98, 108, 101, 108, 97, 119, 49, 50, 46, 80, 114, 111, 109, 105, 115, 101, 82, 111, 111, 109], [101, 110, 115, 101, 109, 98, 108, 101, 47, 101, 110, 115, 101, 109, 98, 108, 101, 108, 97, 119, 49, 51, 46, 70, 105, 108, 108, 84, 101, 108, 108, 115], [101, 110, 115, 101, 109, 98, 108, 101, 47, 101, 110, 115, 101, 109, 98, 108, 101, 108, 97, 119, 49, 51, 46, 70, 105, 108, 108, 76, 97, 116, 101], [101, 110, 115, 101, 109, 98, 108, 101, 47, 101, 110, 115, 101, 109, 98, 108, 101, 108, 97, 119, 49, 51, 46, 70, 105, 108, 108, 78, 111, 110, 101], [101, 110, 115, 101, 109, 98, 108, 101, 47, 101, 110, 115, 101, 109, 98, 108, 101, 108, 97, 119, 49, 51, 46, 70, 105, 108, 108, 77, 97, 110, 121], [101, 110, 115, 101, 109, 98, 108, 101, 47, 101, 110, 115, 101, 109, 98, 108, 101, 108, 97, 119, 49, 51, 46, 70, 105, 108, 108, 80, 97, 115, 116], [101, 110, 115, 101, 109, 98, 108, 101, 47, 101, 110, 115, 101, 109, 98, 108, 101, 108, 97, 119, 48, 53, 46, 80, 97, 99, 107, 70, 101, 119], [101, 110, 115, 101, 109, 98, 108, 101, 47, 101, 110, 115, 101, 109, 98, 108, 101, 108, 97, 119, 48, 53, 46, 80, 97, 99, 107, 70, 114, 111, 110, 116], [101, 110, 115, 101, 109, 98, 108, 101, 47, 101, 110, 115, 101, 109, 98, 108, 101, 108, 97, 119, 48, 53, 46, 80, 97, 99, 107, 84, 101, 108, 108, 115], [101, 110, 115, 101, 109, 98, 108, 101, 47, 101, 110, 115, 101, 109, 98, 108, 101, 108, 97, 119, 48, 53, 46, 80, 97, 99, 107, 82, 111, 111, 109, 115], [101, 110, 115, 101, 109, 98, 108, 101, 47, 101, 110, 115, 101, 109, 98, 108, 101, 108, 97, 119, 48, 53, 46, 80, 97, 99, 107, 76, 101, 102, 116], [101, 110, 115, 101, 109, 98, 108, 101, 47, 101, 110, 115, 101, 109, 98, 108, 101, 108, 97, 119, 48, 53, 46, 80, 97, 99, 107, 77, 111, 114, 101], [101, 110, 115, 101, 109, 98, 108, 101, 47, 101, 110, 115, 101, 109, 98, 108, 101, 108, 97, 119, 48, 53, 46, 80, 97, 99, 107, 87, 104, 111, 108, 101], [101, 110, 115, 101, 109, 98, 108, 101, 47, 101, 110, 115, 101, 109, 98, 108, 101, 108, 97, 119, 49, 52, 46, 69, 108, 97, 115, 116, 105, 99, 77, 111, 115, 116], [101, 110, 115, 101, 109, 98, 108, 101, 47, 101, 110, 115, 101, 109, 98, 108, 101, 108, 97, 119, 49, 52, 46, 69, 108, 97, 115, 116, 105, 99, 77, 111, 114, 101], [101, 110, 115, 101, 109, 98, 108, 101, 47, 101, 110, 115, 101, 109, 98, 108, 101, 108, 97, 119, 49, 52, 46, 69, 108, 97, 115, 116, 105, 99, 83, 97, 102, 101], [101, 110, 115, 101, 109, 98, 108, 101, 47, 101, 110, 115, 101, 109, 98, 108, 101, 108, 97, 119, 49, 53, 46, 87, 111, 114, 107, 101, 114, 77, 97, 121], [101, 110, 115, 101, 109, 98, 108, 101, 47, 101, 110, 115, 101, 109, 98, 108, 101, 108, 97, 119, 49, 53, 46, 87, 111, 114, 107, 101, 114, 82, 101, 115, 116, 115]]
theorem wordsEq : behindMainWord (wordsSigns letters) = words := by kernel_rfl
theorem behind : behindMainWord (wordsSigns Try.checked.prog.initOrder.toList) = words := by rw [lits]; exact wordsEq
theorem headLifts_of {P : Program} {ws : List (List Char)} (h : behindMainWord (wordsSigns P.initOrder.toList) = ws) (h2 : ((stripLifts liftWords ws).2.head? == some "cut".toList) = true) (h3 : (stripLifts liftWords ws).1 = []) : P.headLifts = [] := by
 unfold Program.headLifts
 rw [h]
 simp only [h2, h3, if_true]
theorem headLifts : Try.checked.prog.headLifts = [] := headLifts_of behind (by kernel_rfl) (by kernel_rfl)
theorem liftsFinal_of {P : Program} {ws : List (List Char)} (h : behindMainWord (wordsSigns P.initOrder.toList) = ws) (hl : P.headLifts = []) (h1 : (ws.head? == some "carried".toList) = false) : P.liftsFinal = false := by
 unfold Program.liftsFinal
 rw [h, hl]
 simp only [h1, Bool.false_and, List.contains_nil, Bool.or_false]
theorem liftsFinal : Try.checked.prog.liftsFinal = false := liftsFinal_of behind headLifts (by kernel_rfl)
theorem make_of {P : Program} {c : List Char} {rest : List (List Char)} (h : behindMainWord (wordsSigns P.initOrder.toList) = c :: rest) (h1 : (c == "gc".toList || c == "spec".toList) = false) (h2 : (c == "cut".toList) = true) : P.make = some .cut := by
 unfold Program.make
 rw [h]
 simp only [h1, h2, Bool.true_or, if_true, Bool.false_eq_true, if_false]
theorem make : Try.checked.prog.make = some .cut := make_of (behind.trans (show words = _ :: _ from rfl)) (by kernel_rfl) (by kernel_rfl)
theorem mayEnter_of {P : Program} {c : List Char} {rest : List (List Char)} (h : behindMainWord (wordsSigns P.initOrder.toList) = c :: rest) (h2 : ((stripLifts liftWords (c :: rest)).2.head? == some "cut".toList) = true) (h3 : (stripLifts liftWords (c :: rest)).1 = []) (h4 : P.laysLater = false) (h5 : P.bearsReflect = false) (h6 : P.doorFits [] = true) : P.mayEnter = true := by
 unfold Program.mayEnter
 rw [h]
 simp only [h2, h3, h4, h5, h6, List.contains_nil, Bool.not_false, Bool.false_or, Bool.or_true, Bool.true_or, Bool.and_true, Bool.true_and]
theorem h4 : Try.checked.prog.laysLater = false := by kernel_rfl
theorem h5 : Try.checked.prog.bearsReflect = false := by kernel_rfl
theorem h6 : Try.checked.prog.doorFits [] = true := by kernel_rfl
theorem mayEnter : Try.checked.prog.mayEnter = true := mayEnter_of (behind.trans (show words = _ :: _ from rfl)) (by kernel_rfl) (by kernel_rfl) h4 h5 h6
end Go.Proofs.Ytckhjehibjdjdaa.row0
namespace Go.Proofs.Ytckhjehibjdjdaa.workerMay
open Go.ChangeShapes Go.WideShapes Go.ChangeAt Go.RowKit Go.Proofs.Ytckhjehibjdjdaa.P Go.Proofs.Ytckhjehibjdjdaa.Ob Go.Proofs.YtckhjehibjdjdaaW.PrintWords
open Go.ChangeMaps (open_string shut_string)
theorem own : ownKnob Try.prog.godebug = none := by kernel_rfl
theorem laidOut : laidOutB Try.prog = true := by kernel_rfl
set_option maxRecDepth 100000 in
theorem lifted (os : Os) (started : os.Started) (H : Type) (enc : TypeId × Value → H) :
  ReturnsInHanded {} Try.checked os 23 .any (Rows.workerMaySpec.pre6 enc Try.prog Try.f23 Rows.workerMayRow.domain false) (Rows.workerMaySpec.post enc Try.prog Try.f23 false true false false) := by
 refine returnsInHanded_of_change_sized (C := Try.checked) own started (by kernel_rfl) Try.func23
  (ChangeSpec.witness6 (enc := enc) (C := Try.checked) false ⟨#[], #[.agg #[.int .i64 0, .int .i64 0, .int .i64 0, .int .i64 0, .slice none 0 0, .slice none 0 0, .slice none 0 0, .slice none 0 0, .slice none 0 0]], []⟩ 8 (by kernel_rfl) (by kernel_rfl) (by kernel_rfl) (by kernel_rfl)) ?_
 intro W base args ds gs before hval0 hW hcnd hsz0 _
 have hval : ∀ (j : Nat) t v, Try.f23.params[j]? = some t → args[j]? = some v → Value.okWide Try.prog W .any base t v := hval0
 have hW' := hW
 obtain ⟨p, q, hA0, hV, rfl, hfz, hnd⟩ := hW
 have hA : DataW.TrodAll enc Try.prog W 0 (fun _ => true) true Try.f23.params.toList args.toList ds p := hA0
 rw [Try.params23] at hA hval
 obtain ⟨v0, vs0, d0, ds0, p0, q0, hargs, rfl, rfl, h0, r0⟩ := trodAll_cons hA
 obtain ⟨rfl, rfl, rfl⟩ := trodAll_nil r0
 obtain rfl : args = #[v0] := by cases args; simp_all
 obtain ⟨rfl, rfl⟩ := trodVars_none hV
 have k0 := h0
 have lt0 : ∀ x ∈ p0, x.block < W.heap.size := by obtain ⟨m, hm⟩ := k0; exact DataW.trod_lt m _ _ _ hm
 obtain ⟨cs0, rfl, _⟩ := okWide_struct Try.underlying86 (hval 0 86 v0 rfl rfl)
 obtain ⟨x0, K0, w0⟩ := Opens.open o86 h0
 obtain ⟨A0_4, c0_4, A0_5, c0_5, A0_6, c0_6, A0_7, c0_7, A0_8, c0_8, e0, l0_4, g0_4, l0_5, g0_5, l0_6, g0_6, l0_7, g0_7, l0_8, g0_8⟩ := k86_open K0
 obtain rfl : cs0 = #[.int .i64 x0.f0, .int .i64 x0.f1, .int .i64 x0.f2, .int .i64 x0.f3, .slice A0_4 x0.f4.length c0_4, .slice A0_5 x0.f5.length c0_5, .slice A0_6 x0.f6.length c0_6, .slice A0_7 x0.f7.length c0_7, .slice A0_8 x0.f8.length c0_8] := by apply Array.toList_inj.1; exact e0
 clear hA0 hval0 hsz0
 obtain ⟨k, hk⟩ := Pure.WorkerMay x0 w0
 refine (ensemblelaw15_WorkerMay.calls k (x0.f0) (x0.f1) (x0.f2) (x0.f3) _ _ (x0.f4) _ _ (x0.f5) _ _ (x0.f6) _ _ (x0.f7) _ _ (x0.f8) true W g0_4 l0_4 g0_5 l0_5 g0_6 l0_6 g0_7 l0_7 g0_8 l0_8 hk).mono fun e W' ⟨he, bel⟩ => ?_
 subst he
 exact ⟨_, rfl, _, _, _, [], _, [], hW', trodAll_mk1 (shut_bool Try.underlying4 _), (trodAll_cons_mk (Below.trod laidOut (by kernel_rfl) (of_decide_eq_true (by kernel_rfl)) k0 bel lt0) trodAll_mk0), rfl, bel.frame _, fun h => by cases h⟩
set_option maxHeartbeats 8000000 in
theorem closedFacts : joinedFacts Try.checked.prog 23 Try.f23 Rows.workerMaySpec Rows.workerMayRow = true := by
 unfold joinedFacts
 repeat' (with_reducible (apply row0.and_mk))
 all_goals first | (with_reducible exact row0.mayEnter) | (rw [row0.liftsFinal]; kernel_rfl) | (rw [row0.make]; kernel_rfl) | (as_aux_lemma => kernel_rfl)
theorem over : Rows.workerMayRow.holds Try.pinned (OpenSpec.ofChange Rows.workerMaySpec) :=
 OpenClaim.holds_of_wide 23 Try.f23 rfl rfl rfl rfl rfl rfl rfl ⟨rfl, rfl, rfl, rfl, rfl⟩ rfl rfl rfl rfl rfl (by kernel_rfl) Try.func23 closedFacts
  (of_decide_eq_true (by kernel_rfl)) (by unfold Func.isWrapper; first | (rw [if_pos (by decide +kernel)]; kernel_rfl) | (rw [if_neg (by decide +kernel)]; exact ⟨rfl, rfl⟩))
  (fun os started H enc _ => lifted os started H enc)
theorem proved : Rows.WorkerMaySaid := over
#print axioms proved
end Go.Proofs.Ytckhjehibjdjdaa.workerMay
namespace Go.Proofs.Ytckhjehibjdjdaa
theorem workerMay_holds : Rows.WorkerMaySaid := workerMay.proved
end Go.Proofs.Ytckhjehibjdjdaa
