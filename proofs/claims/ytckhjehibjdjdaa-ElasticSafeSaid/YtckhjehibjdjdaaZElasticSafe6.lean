/- ElasticSafe: part 6 of the walk and of the plain law that it comes to. No condition. -/
import Derived.Test.YtckhjehibjdjdaaZElasticSafe5
import Derived.ArgAppend
import Derived.Below
import Derived.BigQuiet
import Derived.BigRegion
import Derived.Carry
import Derived.ChangeOld
import Derived.Deep.AppendLies
import Derived.Deep.CutBlock
import Derived.Deep.DeepCutAuto
import Derived.Deep.Draws
import Derived.Deep.LoopGhost
import Derived.Deep.OwnRows
import Derived.Deep.QuietTactic
import Derived.Deep.RegionHeld3
import Derived.Deep.Slices
import Derived.DeepKeys3
import Derived.KernelRfl
import Derived.Laws.Bits64
import Derived.Laws.Bits64b
import Derived.Laws.BitsLemmas
import Derived.Laws.BytesArg
import Derived.Laws.EntriesVeiled
import Derived.Laws.Externs
import Derived.Laws.IdiomCopy
import Derived.Laws.MakeOwn
import Derived.Laws.OwnMore
import Derived.Laws.Rows
import Derived.Laws.Slices
import Derived.Lib.AppendStr
import Derived.Lib.ConvBytes
import Derived.Lib.ReflectliteSlice
import Derived.Lib.ReflectliteSwap
import Derived.Lib.SliceRun
import Derived.LoopIn
import Derived.LoopN
import Derived.LoopNIn
import Derived.LoopTactic
import Derived.Maps.AppendAt
import Derived.Maps.Keyed
import Derived.Maps.Own
import Derived.Maps.OwnOps
import Derived.Maps.OwnSet
import Derived.Maps.Views
import Derived.OpenShut
import Derived.OrdersHeld
import Derived.Outline
import Derived.OwnWalk
import Derived.OwnWalkIn
import Derived.ProofKit
import Derived.RangeFuncBound
import Derived.RangeFuncBox
import Derived.RangeFuncCalls
import Derived.RangeFuncFrom
import Derived.RangeFuncLeaves
import Derived.RangeFuncNested
import Derived.RowKit
import Derived.RowKit3
import Derived.Shelf.Abstract
import Derived.Shelf.RegionOpen
import Derived.ShutString
import Derived.SizedLaws
import Derived.StillTailTactics
import Derived.Tactics
import Derived.TacticsInMore
import Derived.WalkKit
import Derived.WideLaws
set_option linter.unusedVariables false
set_option linter.unusedSimpArgs false
namespace Go.Proofs.Ytckhjehibjdjdaa.P
open Go.RowKit Go.Proofs.YtckhjehibjdjdaaW.PrintWords Go.Proofs.YtckhjehibjdjdaaW.PrintLast Go.Proofs.YtckhjehibjdjdaaW.PrintMore
attribute [local go_sem] max2_int min2_int max_two min_two max_three min_three max_four min_four
def ensembleref02_Count.T5 : Bool × List (List Nat × List Nat) := (true, [([], []), ([0], [0]), ([], []), ([], []), ([2, 3], [2, 3]), ([4], [4]), ([5], [5]), ([6], [6]), ([7], [7]), ([1, 8], [1, 8]), ([0, 1, 2, 3, 4, 5, 6, 7, 8, 9], []), ([10, 9, 7, 0, 1, 2, 3, 4, 5, 6, 7, 8, 9], [9, 10])])
def ensembleref02_Count.B5 : List Nat := [0, 1, 0, 0, 12, 28, 60, 124, 252, 511, 1023, 2047]
theorem ensembleref02_Count.bits5 : waitsOk ensembleref02_Count.T5.2 ensembleref02_Count.B5 = true := by kernel_rfl
def ensembleref02_Count.T6 : Bool × List (List Nat × List Nat) := (true, [([], []), ([0], [0]), ([], []), ([], []), ([2, 3], [2, 3]), ([4], [4]), ([5], [5]), ([1, 6], [1, 6]), ([0, 1, 2, 3, 4, 5, 6, 7], []), ([8, 7, 0, 1, 2, 3, 4, 5, 6, 7], [7, 8])])
def ensembleref02_Count.B6 : List Nat := [0, 1, 0, 0, 12, 28, 60, 127, 255, 511]
theorem ensembleref02_Count.bits6 : waitsOk ensembleref02_Count.T6.2 ensembleref02_Count.B6 = true := by kernel_rfl
theorem eqA51 (d : Nat) (w : World) (x0 y0 x1 y1 x2 y2 x3 y3 : Int) :
  (Op.equalIn (d + 3) 51 (.agg #[.int .i64 x0, .int .i64 x1, .int .u64 x2, .int .i64 x3]) (.agg #[.int .i64 y0, .int .i64 y1, .int .u64 y2, .int .i64 y3])).run Try.prog w = .ok ((x0 == y0 && (x1 == y1)) && (x2 == y2 && (x3 == y3))) w := by
 refine eqA_of Try.underlying51 (by kernel_rfl) ?_
 refine eqf_cons (by rfl) (by go_simp) (by go_simp) (eqA48 (d + 0) w _ _ _ _) ?_
 refine eqf_cons (by rfl) (by go_simp; rfl) (by go_simp; rfl) (by go_simp) ?_
 exact eqf_last (by rfl) (by go_simp; rfl) (by go_simp; rfl) (by go_simp)
end Go.Proofs.Ytckhjehibjdjdaa.P
namespace Go.Proofs.Ytckhjehibjdjdaa.P
open Go.RowKit Go.Proofs.YtckhjehibjdjdaaW.PrintWords Go.Proofs.YtckhjehibjdjdaaW.PrintLast Go.Proofs.YtckhjehibjdjdaaW.PrintMore
attribute [local go_sem] max2_int min2_int max_two min_two max_three min_three max_four min_four
attribute [local go_sem high] eqA51
end Go.Proofs.Ytckhjehibjdjdaa.P
namespace Go.Proofs.Ytckhjehibjdjdaa.P
open Go.RowKit Go.Proofs.YtckhjehibjdjdaaW.PrintWords Go.Proofs.YtckhjehibjdjdaaW.PrintLast Go.Proofs.YtckhjehibjdjdaaW.PrintMore
attribute [local go_sem] max2_int min2_int max_two min_two max_three min_three max_four min_four
set_option maxRecDepth 100000 in
theorem field24_0 (a b : Int) (w : World) : Sem.run Try.prog (Instr.field 24 (.agg #[.int .i64 a, .int .i64 b]) 0) w = .ok (.int .i64 a) w := by
 have hu24 := Try.underlying24
 have hu3 := Try.underlying3
 simp [Instr.field, go_sem, hu24, hu3, part, isAgg, asAgg]
attribute [local go_sem] field24_0
end Go.Proofs.Ytckhjehibjdjdaa.P
namespace Go.Proofs.Ytckhjehibjdjdaa.P
open Go.RowKit Go.Proofs.YtckhjehibjdjdaaW.PrintWords Go.Proofs.YtckhjehibjdjdaaW.PrintLast Go.Proofs.YtckhjehibjdjdaaW.PrintMore
open Go.Proofs.Ytckhjehibjdjdaa.Bits Go.Proofs.Ytckhjehibjdjdaa.Mp
theorem low_pop (M n : Nat) (hn : n ≤ popN M) : popN (lowN M n) = n := by
 have hp : ((pos M).take n).Pairwise (· < ·) := (pos_sorted M).sublist (List.take_sublist _ _)
 unfold popN at hn ⊢
 unfold lowN
 rw [pos_orAll _ hp (fun i hi => (mem_pos.1 (List.mem_of_mem_take hi)).1), List.length_take]
 omega
theorem pcs_units {s0 s1 s2 s3 : Int} (hg : c7_ s0 s1 s2 s3 = true) : ∀ (n : Nat) (f : S51), spotOk f → n ≤ fitT s0 s1 s2 s3 f → ∀ s ∈ pcs s0 s1 n f, s.f2 = s1 ∧ popI s.f1 = s0
 | 0, _, _, _, s, h => by cases h
 | n + 1, f, hok, hn, s, h => by
  have hb := good_out0 hg
  have e1 := fitT_eq s0 s1 s2 s3 f
  have e2 := fit_kap hg hok
  have hk : 1 ≤ kap s0 s1 f := by omega
  have hge := kap_ge hg hok hk
  have hle := kap_left_le hg hok hk
  have e3 := fitT_eq s0 s1 s2 s3 (leftF s0 s1 f)
  rw [pcs, List.mem_cons] at h
  rcases h with rfl | h
  ·refine ⟨rfl, ?_⟩
   show popI (lowI f.f1 s0) = s0
   unfold popI at hge ⊢
   unfold lowI
   rw [Int.toNat_natCast, low_pop _ _ (by omega)]
   omega
  ·exact pcs_units hg n _ (left_ok hg hok hk) (by omega) s h
theorem flat_units {s0 s1 s2 s3 : Int} (hg : c7_ s0 s1 s2 s3 = true) {L : List S51} (hL : ∀ f ∈ L, spotOk f) : ∀ s ∈ flat s0 s1 s2 s3 L, s.f2 = s1 ∧ popI s.f1 = s0 := fun s hs => by
 obtain ⟨f, hf, h⟩ := List.mem_flatMap.1 hs
 exact pcs_units hg _ f (hL f hf) (Nat.le_refl _) s h
theorem popS_all {g : Int} : ∀ {l : List S52}, (∀ s ∈ l, popI s.f1 = g) → popS l = g * l.length
 | [], _ => by simp [popS]
 | s :: l, h => by
  rw [popS_cons, h s (by simp), popS_all (fun x hx => h x (by simp [hx])), List.length_cons]
  rw [Int.natCast_succ, Int.mul_add, Int.mul_one]; omega
theorem cpS_all {c : Int} : ∀ {l : List S52}, (∀ s ∈ l, s.f2 = c) → cpS l = c * l.length
 | [], _ => by simp [cpS]
 | s :: l, h => by
  rw [cpS_cons, h s (by simp), cpS_all (fun x hx => h x (by simp [hx])), List.length_cons]
  rw [Int.natCast_succ, Int.mul_add, Int.mul_one]; omega
structure Placed (view : List S51) (g c n : Int) (l : List S52) : Prop where
 len : (l.length : Int) = n
 less : (turnF lessE lessF view l).2 = 0
 pop : ∀ s ∈ l, popI s.f1 = g ∧ s.f2 = c
 mask : ∀ s ∈ l, maskOk s = true
 at_ : ∀ s ∈ l, ∃ f ∈ view, s.f0 = f.f0
theorem Few5.placed {view : List S51} (F : Few5 view) {g c mn mx n : Int} (h : (placeP view g c mn mx n).2 = 0) : Placed view g c n (placeP view g c mn mx n).1 := by
 obtain ⟨a, b, c', d⟩ := placeP_ok h
 have hp := isort_perm (fkey g c mn mx) view
 have eP : (placeP view g c mn mx n).1 = (flat g c mn mx (isort (fkey g c mn mx) view)).take n.toNat := by rw [d]
 obtain ⟨l1, l2, l3, l4, l5⟩ := less_flat a (isort (fkey g c mn mx) view) view n.toNat F.V ((hp.map spot).nodup_iff.2 F.V.right.2) (fun f hf => hp.mem_iff.1 hf)
 have hu := flat_units a (L := isort (fkey g c mn mx) view) (fun f hf => F.ok f (hp.mem_iff.1 hf))
 have hs := flat_spot g c mn mx (isort (fkey g c mn mx) view)
 refine ⟨placeP_len h, by rw [eP]; exact l1, fun s hs' => ?_, fun s hs' => ?_, fun s hs' => ?_⟩
 ·rw [eP] at hs'; exact (hu s (List.mem_of_mem_take hs')).symm
 ·rw [eP] at hs'; obtain ⟨f, _, _, h2⟩ := hs s (List.mem_of_mem_take hs'); exact h2
 ·rw [eP] at hs'; obtain ⟨f, h1, h2, _⟩ := hs s (List.mem_of_mem_take hs'); exact ⟨f, hp.mem_iff.1 h1, h2⟩
theorem Placed.units {view : List S51} {g c n : Int} {l : List S52} (P : Placed view g c n l) (hg : 0 ≤ g ∧ g ≤ 16) (hc : 0 ≤ c ∧ c ≤ 1024) (hn : 0 ≤ n ∧ n ≤ 16) : addL true (0, 0) l = (g * n, c * n) := by
 have h1 := popS_all (fun s hs => (P.pop s hs).1)
 have h2 := cpS_all (fun s hs => (P.pop s hs).2)
 rw [P.len] at h1 h2
 have b1 : g * n ≤ 16 * 16 := Int.mul_le_mul hg.2 hn.2 hn.1 (by decide)
 have b2 : c * n ≤ 1024 * 16 := Int.mul_le_mul hc.2 hn.2 hn.1 (by decide)
 have b3 : 0 ≤ g * n := Int.mul_nonneg hg.1 hn.1
 have b4 : 0 ≤ c * n := Int.mul_nonneg hc.1 hn.1
 rw [addL_true l (0, 0) (by unfold I64P; simp only; omega), h1, h2]
 simp only [Int.zero_add]
 rw [w_id (by omega), w_id (by omega)]
theorem Placed.units_ev {view : List S51} {g c n : Int} {l : List S52} (P : Placed view g c n l) (hg : 0 ≤ g ∧ g ≤ 16) (hc : 0 ≤ c ∧ c ≤ 1024) (hn : 0 ≤ n ∧ n ≤ 16) : Ev (fun k => ensembleref08_Units.f k l) (g * n, c * n) := by
 have := units08_ev l (by have := P.len; omega) P.mask
 rwa [P.units hg hc hn] at this
end Go.Proofs.Ytckhjehibjdjdaa.P
namespace Go.Proofs.Ytckhjehibjdjdaa.P
open Go.RowKit Go.Proofs.YtckhjehibjdjdaaW.PrintWords Go.Proofs.YtckhjehibjdjdaaW.PrintLast Go.Proofs.YtckhjehibjdjdaaW.PrintMore
attribute [local go_sem] max2_int min2_int max_two min_two max_three min_three max_four min_four
end Go.Proofs.Ytckhjehibjdjdaa.P
namespace Go.Proofs.Ytckhjehibjdjdaa.P
open Go.RowKit Go.Proofs.YtckhjehibjdjdaaW.PrintWords Go.Proofs.YtckhjehibjdjdaaW.PrintLast Go.Proofs.YtckhjehibjdjdaaW.PrintMore
open Go.Proofs.Ytckhjehibjdjdaa.Bits Go.Proofs.Ytckhjehibjdjdaa.Mp
theorem Ev.out {α β : Type} {g : Nat → Option α} {a : α} (h : Ev g a) (F : α → β) : Ev (fun n => (g n).bind fun t => some (F t)) (F a) := Ev.bind h (Ev.now (F a))
theorem head_eq (a0 a1 a2 a3 : Int) (view : List S51) (left : List S24) (ends : List S41) {waits : List S105} (runs : List S149) (hl : waits.length ≤ 150) : elastic_Head.f a0 a1 a2 a3 view left ends waits runs = some (headL a1 waits) := by
 unfold elastic_Head.f; rw [if_pos (by omega)]
theorem Placed.holdOk {view : List S51} {g c n : Int} {l : List S52} (P : Placed view g c n l) (vo : viewOk view) (hn : n ≤ 16) (id q u : Int) : HoldOk ⟨id, q, u, false, l⟩ :=
 ⟨P.mask, fun s hs => by obtain ⟨f, hf, e⟩ := P.at_ s hs; rw [e]; exact vo.2.2 f hf, by show l.length ≤ 20; have := P.len; omega⟩
theorem lb_i64 {left : List S24} (hL : ∀ u ∈ left, lbU u) {q : Int} (h : 0 ≤ q ∧ q < left.length) : I64P ((a7_ left q).f0, (a7_ left q).f1) := by
 obtain ⟨i, rfl⟩ : ∃ i : Nat, q = i := ⟨q.toNat, by omega⟩
 rw [rd24' left i (by omega)]
 have := hL left[i] (List.getElem_mem _)
 unfold lbU at this
 unfold I64P
 simp only
 omega
theorem safe_ev (a0 a1 a2 a3 : Int) {view : List S51} {left : List S24} {ends : List S41} (waits : List S105) (runs : List S149) (B : Base view ends) (el : ends.length < 500) (sl : (c6_ ends).length ≤ 100000) (hL : ∀ u ∈ left, lbU u) (hl : waits.length ≤ 150) {id q u : Int} {l : List S52} (H : HoldOk ⟨id, q, u, false, l⟩) :
  ∃ b, Ev (fun k => elastic_safe.f k a0 a1 a2 a3 view left ends waits runs id q u false l) b := by
 obtain ⟨⟨r0, r1, r2, r3, r4, r5, r6⟩, hr⟩ : ∃ r, headL a1 waits = r := ⟨_, rfl⟩
 have hr' : elastic_Head.f a0 a1 a2 a3 view left ends waits runs = some (r0, r1, r2, r3, r4, r5, r6) := by rw [head_eq _ _ _ _ _ _ _ _ hl, hr]
 have JT : Ev (fun k => elastic_safe.j0 k true a0 a1 a2 a3 view left ends waits runs id q u false l r0 r1 r2 r3 r4 r5) true := Ev.step (f := fun _ => some true) (fun k => by rw [elastic_safe.j0, if_pos rfl]) (Ev.now _)
 have J : ∀ x : Bool, ∃ b, Ev (fun k => elastic_safe.j0 k x a0 a1 a2 a3 view left ends waits runs id q u false l r0 r1 r2 r3 r4 r5) b := fun x => by
  cases x with
  | true => exact ⟨_, JT⟩
  | false =>
   by_cases h1 : r0 < 0
   ·exact ⟨_, Ev.step (f := fun _ => some false) (fun k => by rw [elastic_safe.j0, if_neg (by decide), if_pos h1]) (Ev.now _)⟩
   by_cases h2 : r0 ≥ (left.length : Int)
   ·exact ⟨_, Ev.step (f := fun _ => some false) (fun k => by rw [elastic_safe.j0, if_neg (by decide), if_neg h1, if_pos h2]) (Ev.now _)⟩
   have hs := B.safe (lb_i64 hL (q := r0) (by omega)) H el sl a0 r0 r1 r2 r3 r4 r5 a2
   exact ⟨_, Ev.step (fun k => by rw [elastic_safe.j0, if_neg (by decide), if_neg h1, if_neg h2, if_pos (by omega), if_pos (by omega), hs, Option.bind_some]) (Ev.now _)⟩
 cases r6 with
 | true =>
  obtain ⟨b, hb⟩ := J (id == a1)
  exact ⟨b, Ev.congr (fun k => by unfold elastic_safe.f; rw [hr', Option.bind_some, if_pos rfl]) hb⟩
 | false => exact ⟨true, Ev.congr (fun k => by unfold elastic_safe.f; rw [hr', Option.bind_some, if_neg (by simp)]) JT⟩
structure GotJ (view : List S51) (left : List S24) (y : S88) (n : Int) (sl : List S52) : Prop where
 gs : c7_ y.f4.f0 y.f4.f1 y.f4.f2 y.f4.f3 = true
 q : 0 ≤ y.f1 ∧ y.f1 < (left.length : Int)
 can : canB view y.f4.f0 y.f4.f1 y.f4.f2 y.f4.f3 n (a7_ left y.f1).f0 (a7_ left y.f1).f1 = 0
 pl : Placed view y.f4.f0 y.f4.f1 n sl
theorem most_got {view : List S51} (F : Few5 view) (left : List S24) (y : S88) (h : (mostB view left y.f1 y.f4.f0 y.f4.f1 y.f4.f2 y.f4.f3).2 = 0) :
  ∃ n, (y.f4.f2 ≤ n ∧ n ≤ y.f4.f3) ∧ ((mostB view left y.f1 y.f4.f0 y.f4.f1 y.f4.f2 y.f4.f3).1.length : Int) = n ∧ GotJ view left y n (mostB view left y.f1 y.f4.f0 y.f4.f1 y.f4.f2 y.f4.f3).1 := by
 have hR := most_is F left y.f1 y.f4.f0 y.f4.f1 y.f4.f2 y.f4.f3
 generalize mostB view left y.f1 y.f4.f0 y.f4.f1 y.f4.f2 y.f4.f3 = r at hR h
 cases hR with
 | shape hg => exact absurd h (by simp)
 | queue hg hq => exact absurd h (by simp)
 | not hg hq hc => exact absurd h hc
 | got n hg hq hn hc hm =>
  obtain ⟨hr, h1, h2⟩ := canB_zero.1 hc
  obtain ⟨p0, pl⟩ := got_place (view := view) hg hn hr
  exact ⟨n, hn, pl, hg, hq, hc, F.placed p0⟩
structure Sett (view : List S51) (left : List S24) (ends : List S41) (waits : List S105) (runs : List S149) : Prop where
 F : FewL view left ends waits runs
 F5 : Few5 view
 B : Base view ends
 el : ends.length < 500
 sl : (c6_ ends).length ≤ 100000
 vl : view.length ≤ 1000000
theorem FewL.sett {view : List S51} {left : List S24} {ends : List S41} {waits : List S105} {runs : List S149} (F : FewL view left ends waits runs) (wv : ∀ y ∈ view, wfd51 y) (we : ∀ y ∈ ends, wfd41 y) : Sett view left ends waits runs := by
 have S := setup wv we F.fp
 have h4 := slots_len S.hl
 have h5 : 20 * ends.length ≤ 20 * 20 := Nat.mul_le_mul_left 20 S.el
 exact ⟨F, F.few5 wv, S.base, by have := S.el; omega, by omega, by have := S.vl; omega⟩
section
variable {a0 a1 a2 a3 : Int} {view : List S51} {left : List S24} {ends : List S41} {waits : List S105} {runs : List S149}
theorem Sett.safe (S : Sett view left ends waits runs) {g c n : Int} {l : List S52} (P : Placed view g c n l) (hn : n ≤ 16) (id q u : Int) :
  ∃ b, Ev (fun k => elastic_safe.f k a0 a1 a2 a3 view left ends waits runs id q u false l) b :=
 safe_ev a0 a1 a2 a3 waits runs S.B S.el S.sl S.F.lb S.F.wl (P.holdOk S.B.vo hn id q u)
theorem Sett.place (S : Sett view left ends waits runs) (g c mn mx n : Int) : pack_Place.f view g c mn mx n = some (placeP view g c mn mx n) := by
 unfold pack_Place.f; rw [if_pos S.F5.placeOk, place_P S.F5.ok]
theorem Sett.most (S : Sett view left ends waits runs) (y : S88) : elastic_Most.f a0 a1 a2 a3 view left ends waits runs y.f0 y.f1 y.f2 y.f3 y.f4.f0 y.f4.f1 y.f4.f2 y.f4.f3 = some (mostB view left y.f1 y.f4.f0 y.f4.f1 y.f4.f2 y.f4.f3) := by
 unfold elastic_Most.f; rw [if_pos S.F5.placeOk]
theorem GotJ.at_ (S : Sett view left ends waits runs) {y : S88} {n m : Int} {sl : List S52} (G : GotJ view left y n sl) (h1 : 1 ≤ m) (hm : m ≤ n) (hn : n ≤ 16) :
  GotJ view left y m (placeP view y.f4.f0 y.f4.f1 y.f4.f2 y.f4.f3 m).1 ∧ ((placeP view y.f4.f0 y.f4.f1 y.f4.f2 y.f4.f3 m).1.length : Int) = m := by
 have hb := good_out0 G.gs
 have hc := canB_le hb.1 hb.2.2.1 G.can hm
 obtain ⟨hr, _, _⟩ := canB_zero.1 hc
 have p0 : (placeP view y.f4.f0 y.f4.f1 y.f4.f2 y.f4.f3 m).2 = 0 := by
  unfold placeP
  rw [if_pos ⟨G.gs, by omega, by omega⟩, if_neg (by omega)]
 exact ⟨⟨G.gs, G.q, hc, S.F5.placed p0⟩, placeP_len p0⟩
theorem one_of_len {l : List S52} (h : (l.length : Int) = 1) : l = [⟨⟨(a5_ l 0).f0.f0, (a5_ l 0).f0.f1⟩, (a5_ l 0).f1, (a5_ l 0).f2⟩] := by
 cases l with
 | nil => cases h
 | cons x r =>
  cases r with
  | nil => rfl
  | cons y r => simp at h; omega
end
def LB5 (lg lc : Int) : Prop := (-500000000 ≤ lg ∧ lg ≤ 500000000) ∧ -500000000 ≤ lc ∧ lc ≤ 500000000
theorem LB5.I64 {lg lc : Int} (L : LB5 lg lc) : I64P (lg, lc) := by unfold LB5 at L; unfold I64P; simp only; omega
theorem Setup.LB5 {view : List S51} {lg lc : Int} {ends : List S41} (S : Setup view lg lc ends) : LB5 lg lc := by have := S.lb; unfold P.LB5; omega
structure Aft (now : Int) (view : List S51) (lg lc : Int) (ends : List S41) (q m g c mn mx : Int) (h : S41) : Prop where
 less : (turnF lessE lessF view h.f4).2 = 0
 bad : ¬ (now < 0 ∨ now > 1073741824 ∨ rightB m g c mn mx = false)
 more : (turnF moreE moreF view (c6_ ends)).2 = 0
 F : Fine2 view lg lc ends
 F' : Fine2 (turnF lessE lessF view h.f4).1 (aftL q lg h.f1 (popS h.f4)) (aftL q lc h.f1 (cpS h.f4)) (ends ++ [h])
 lg : aftL q lg h.f1 (popS h.f4) = lg - (if h.f1 = q then popS h.f4 else 0)
 lc : aftL q lc h.f1 (cpS h.f4) = lc - (if h.f1 = q then cpS h.f4 else 0)
 more' : (turnF moreE moreF (turnF lessE lessF view h.f4).1 (c6_ (ends ++ [h]))).2 = 0
 H : HoldOk h
theorem Base.aft {view : List S51} {ends : List S41} (B : Base view ends) {lg lc : Int} (L : LB5 lg lc) {h : S41} (H : HoldOk h) (el : ends.length < 500) (sl : (c6_ ends).length ≤ 100000) {now q m g c mn mx : Int}
  (hz : (afterB now view lg lc ends q m g c mn mx h).2 = 0) : Aft now view lg lc ends q m g c mn mx h := by
 unfold afterB at hz
 by_cases h1 : (turnF lessE lessF view h.f4).2 = 0
 case neg => rw [if_neg h1] at hz; exact absurd hz h1
 rw [if_pos h1] at hz
 unfold refEarly at hz
 by_cases h2 : now < 0 ∨ now > 1073741824 ∨ rightB m g c mn mx = false
 ·rw [if_pos h2] at hz; cases hz
 rw [if_neg h2] at hz
 by_cases h3 : (turnF moreE moreF (turnF lessE lessF view h.f4).1 (c6_ (ends ++ [h]))).2 = 0
 case neg => rw [if_pos h3] at hz; exact absurd hz h3
 obtain ⟨VL, _, hmax, _⟩ := less_back h.f4 view B.V H.mo h1
 have B' := B.less H h1 el sl
 have ok' := ((turnF_iff _ _ VL B'.I.sm).1).1 h3
 have ok : okS view (c6_ ends) := by rw [slotsOf_snoc] at ok'; exact (back_ok B.V H.mo B.I.sm h1).1.1 ok'
 have hb1 := popS_le h.f4
 have hb2 := cpS_le hmax
 have hln := H.ln
 have L5 := L
 unfold P.LB5 at L5
 have e1 : aftL q lg h.f1 (popS h.f4) = lg - (if h.f1 = q then popS h.f4 else 0) := by
  unfold aftL; split
  ·exact w_id (by omega)
  ·omega
 have e2 : aftL q lc h.f1 (cpS h.f4) = lc - (if h.f1 = q then cpS h.f4 else 0) := by
  unfold aftL; split
  ·exact w_id (by omega)
  ·omega
 refine ⟨h1, h2, ((turnF_iff _ _ B.V B.I.sm).1).2 ok, ⟨⟨B.V, B.I, L.I64, ok⟩, ?_, B.sl⟩, ⟨⟨VL, B'.I, aftL_I64 L.I64 _ _ _, ok'⟩, ?_, B'.sl⟩, e1, e2, h3, H⟩
 ·omega
 ·rw [e1, e2]; split <;> omega
theorem Aft.is {now : Int} {view : List S51} {lg lc : Int} {ends : List S41} {q m g c mn mx : Int} {h : S41} (A : Aft now view lg lc ends q m g c mn mx h) :
  ∃ b, afterB now view lg lc ends q m g c mn mx h = (b, 0) ∧ IsE (atB (turnF lessE lessF view h.f4).1 (aftL q lg h.f1 (popS h.f4)) (aftL q lc h.f1 (cpS h.f4)) (ends ++ [h]) q m g c mn mx) now (ends ++ [h]) b := by
 unfold afterB
 rw [if_pos A.less]
 exact refEarly_is q m g c mn mx now A.bad A.more'
theorem Aft.is0 {now : Int} {view : List S51} {lg lc : Int} {ends : List S41} {q m g c mn mx : Int} {h : S41} (A : Aft now view lg lc ends q m g c mn mx h) :
  ∃ b, refEarly now view lg lc ends q m g c mn mx = (b, 0) ∧ IsE (atB view lg lc ends q m g c mn mx) now ends b := refEarly_is q m g c mn mx now A.bad A.more
theorem qSlots_snoc (q : Int) (l : List S41) (h : S41) : qSlots q (l ++ [h]) = qSlots q l ++ (if h.f1 = q then h.f4 else []) := by
 unfold qSlots
 rw [List.filter_append, slotsOf_append]
 by_cases hq : h.f1 = q
 ·rw [if_pos hq, List.filter_cons_of_pos (by simpa using hq)]; simp [c6_]
 ·rw [if_neg hq, List.filter_cons_of_neg (by simpa using hq)]; simp [c6_]
theorem Aft.at_iff {now : Int} {view : List S51} {lg lc : Int} {ends : List S41} {q m g c mn mx : Int} {h : S41} (A : Aft now view lg lc ends q m g c mn mx h) {T : Int} (hT : h.f2 ≤ T) :
  atB (turnF lessE lessF view h.f4).1 (aftL q lg h.f1 (popS h.f4)) (aftL q lc h.f1 (cpS h.f4)) (ends ++ [h]) q m g c mn mx T = true ↔ atB view lg lc ends q m g c mn mx T = true := by
 rw [P.at_iff A.F', P.at_iff A.F, A.lg, A.lc]
 have e : ended T (ends ++ [h]) = ended T ends ++ [h] := by rw [ended_append, ended_all (l := [h]) (by simpa using hT)]
 rw [e, slotsOf_snoc, qSlots_snoc]
 have hsub : (c6_ (ended T ends)).Sublist (c6_ ends) := sub_slots List.filter_sublist
 refine and_congr_right fun hr => ?_
 have hg : c7_ g c mn mx = true := by simp only [rightB, Bool.and_eq_true] at hr; exact hr.1.1
 have hroom := back_room A.F.V A.H.mo (fun s hs => A.F.I.sm s (hsub.subset hs)) A.less (okS_sub hsub A.F.ok) hg
 unfold fitP
 rw [hroom, popS_append, cpS_append]
 by_cases hq : h.f1 = q
 ·rw [if_pos hq, if_pos hq, if_pos hq]; omega
 ·rw [if_neg hq, if_neg hq, if_neg hq, show popS [] = 0 from rfl, show cpS [] = 0 from rfl]; omega
theorem Aft.at_of {now : Int} {view : List S51} {lg lc : Int} {ends : List S41} {q m g c mn mx : Int} {h : S41} (A : Aft now view lg lc ends q m g c mn mx h) {T : Int}
  (hA : atB (turnF lessE lessF view h.f4).1 (aftL q lg h.f1 (popS h.f4)) (aftL q lc h.f1 (cpS h.f4)) (ends ++ [h]) q m g c mn mx T = true) : atB view lg lc ends q m g c mn mx T = true := by
 by_cases hT : h.f2 ≤ T
 ·exact (A.at_iff hT).1 hA
 rw [P.at_iff A.F', A.lg, A.lc] at hA
 rw [P.at_iff A.F]
 have e : ended T (ends ++ [h]) = ended T ends := by rw [ended_append, ended_none (l := [h]) (by simp; omega), List.append_nil]
 rw [e] at hA
 obtain ⟨hr, hp⟩ := hA
 refine ⟨hr, ?_⟩
 have hg : c7_ g c mn mx = true := by simp only [rightB, Bool.and_eq_true] at hr; exact hr.1.1
 have hb := good_out hg
 have hsub : (c6_ (ended T ends)).Sublist (c6_ ends) := sub_slots List.filter_sublist
 have hroom := back_room A.F.V A.H.mo (fun s hs => A.F.I.sm s (hsub.subset hs)) A.less (okS_sub hsub A.F.ok) hg
 obtain ⟨_, _, hmax, _⟩ := less_back h.f4 view A.F.V A.H.mo A.less
 have happ := roomN_append (g := g) (c := c) (view := (turnF lessE lessF view h.f4).1) (a := c6_ (ended T ends)) (b := h.f4) hb.1 hb.2.2.1 (fun s hs => (hmax s hs).1)
 have h1 := popS_nn h.f4
 have h2 := cpS_nn h.f4 (fun s hs => (hmax s hs).1)
 unfold fitP at hp ⊢
 refine ⟨?_, ?_, by omega⟩
 ·have := hp.1; split at this <;> omega
 ·have := hp.2.1; split at this <;> omega
theorem Aft.le {now : Int} {view : List S51} {lg lc : Int} {ends : List S41} {q m g c mn mx : Int} {h : S41} (A : Aft now view lg lc ends q m g c mn mx h) {b b' : Int}
  (h1 : refEarly now view lg lc ends q m g c mn mx = (b, 0)) (h2 : afterB now view lg lc ends q m g c mn mx h = (b', 0)) : b ≤ b' := by
 obtain ⟨x, e1, i1⟩ := A.is0
 obtain ⟨y, e2, i2⟩ := A.is
 rw [h1] at e1; rw [h2] at e2
 injection e1 with e1; injection e2 with e2
 subst e1; subst e2
 have hb := A.bad
 exact i2.earlier i1 (by omega) fun T _ _ hA => A.at_of hA
theorem Aft.early {now : Int} {view : List S51} {lg lc : Int} {ends : List S41} {q m g c mn mx : Int} {h h' : S41} (A : Aft now view lg lc ends q m g c mn mx h) (A' : Aft now view lg lc ends q m g c mn mx h') (e1 : h'.f1 = h.f1) (e4 : h'.f4 = h.f4) (hu : h'.f2 ≤ h.f2) {b b' : Int}
  (h1 : afterB now view lg lc ends q m g c mn mx h = (b, 0)) (h2 : afterB now view lg lc ends q m g c mn mx h' = (b', 0)) : b' ≤ b := by
 obtain ⟨x, e5, i1⟩ := A.is
 obtain ⟨y, e6, i2⟩ := A'.is
 rw [h1] at e5; rw [h2] at e6
 injection e5 with e5; injection e6 with e6
 subst e5; subst e6
 have hb := A.bad
 refine i1.earlier i2 (by omega) fun T hT _ hA => ?_
 by_cases h3 : h'.f2 ≤ T
 ·exact (A'.at_iff h3).2 (A.at_of hA)
 ·have ea : ended T (ends ++ [h]) = ended T ends := by rw [ended_append, ended_none (l := [h]) (by simp; omega), List.append_nil]
  have eb : ended T (ends ++ [h']) = ended T ends := by rw [ended_append, ended_none (l := [h']) (by simp; omega), List.append_nil]
  unfold atB at hA ⊢
  rw [eb, e1, e4]
  rw [ea] at hA
  exact hA
theorem ev_uniq {α : Type} {g : Nat → Option α} {a b : α} (h : Ev g a) (h' : Ev g b) : a = b := by
 obtain ⟨p, hp⟩ := h
 obtain ⟨q, hq⟩ := h'
 have := (hp (p + q) (by omega)).symm.trans (hq (p + q) (by omega))
 exact Option.some.inj this
def stripH (h : S41) : S41 := ⟨0, h.f1, h.f2, false, h.f4⟩
theorem strip_slots : ∀ L : List S41, c6_ (L.map stripH) = c6_ L
 | [] => rfl
 | x :: r => by rw [List.map_cons, slotsOf_cons, slotsOf_cons, strip_slots r]; rfl
theorem strip_ended (T : Int) (L : List S41) : ended T (L.map stripH) = (ended T L).map stripH := by
 unfold ended; rw [List.filter_map]; rfl
theorem strip_left (q : Int) : ∀ (L : List S41) (a : Int × Int), leftQ q a (L.map stripH) = leftQ q a L
 | [], a => rfl
 | x :: r, a => by rw [List.map_cons, leftQ, leftQ, strip_left q r]; rfl
theorem strip_best (A : Int → Bool) (now : Int) : ∀ (L : List S41) (b : Int), bestF A now b (L.map stripH) = bestF A now b L
 | [], b => rfl
 | x :: r, b => by rw [List.map_cons, bestF, bestF, strip_best A now r]; rfl
theorem strip_early (now : Int) (view : List S51) (lg lc : Int) (L : List S41) (q m g c mn mx : Int) : refEarly now view lg lc (L.map stripH) q m g c mn mx = refEarly now view lg lc L q m g c mn mx := by
 have hA : atB view lg lc (L.map stripH) q m g c mn mx = atB view lg lc L q m g c mn mx := by
  funext T; unfold atB; rw [strip_ended, strip_slots, strip_left]
 unfold refEarly
 rw [strip_slots, hA, strip_best]
theorem after_id (now : Int) (view : List S51) (lg lc : Int) (ends : List S41) (q m g c mn mx i i' u v : Int) (b b' : Bool) (l : List S52) : afterB now view lg lc ends q m g c mn mx ⟨i, u, v, b, l⟩ = afterB now view lg lc ends q m g c mn mx ⟨i', u, v, b', l⟩ := by
 unfold afterB
 have e : ∀ V x z, refEarly now V x z (ends ++ [⟨i, u, v, b, l⟩]) q m g c mn mx = refEarly now V x z (ends ++ [⟨i', u, v, b', l⟩]) q m g c mn mx := fun V x z => by
  have e1 := strip_early now V x z (ends ++ [(⟨i, u, v, b, l⟩ : S41)]) q m g c mn mx
  have e2 := strip_early now V x z (ends ++ [(⟨i', u, v, b', l⟩ : S41)]) q m g c mn mx
  rw [List.map_append] at e1 e2
  exact e1.symm.trans e2
 simp only [e]
section
variable {a0 a1 a2 a3 : Int} {view : List S51} {left : List S24} {ends : List S41} {waits : List S105} {runs : List S149}
theorem Sett.free (S : Sett view left ends waits runs) {id : Int} (hf : (headL a1 waits).2.2.2.2.2.2 = false ∨ id = a1) (q u : Int) (l : List S52) :
  Ev (fun k => elastic_safe.f k a0 a1 a2 a3 view left ends waits runs id q u false l) true := by
 obtain ⟨⟨r0, r1, r2, r3, r4, r5, r6⟩, hr⟩ : ∃ r, headL a1 waits = r := ⟨_, rfl⟩
 have hr' : elastic_Head.f a0 a1 a2 a3 view left ends waits runs = some (r0, r1, r2, r3, r4, r5, r6) := by rw [head_eq _ _ _ _ _ _ _ _ S.F.wl, hr]
 rw [hr] at hf
 have JT : Ev (fun k => elastic_safe.j0 k true a0 a1 a2 a3 view left ends waits runs id q u false l r0 r1 r2 r3 r4 r5) true := Ev.step (f := fun _ => some true) (fun k => by rw [elastic_safe.j0, if_pos rfl]) (Ev.now _)
 cases r6 with
 | true =>
  obtain rfl : id = a1 := hf.resolve_left (by simp)
  exact Ev.congr (fun k => by unfold elastic_safe.f; rw [hr', Option.bind_some, if_pos rfl, beq_self_eq_true]) JT
 | false => exact Ev.congr (fun k => by unfold elastic_safe.f; rw [hr', Option.bind_some, if_neg (by simp)]) JT
theorem Sett.safe_val (S : Sett view left ends waits runs) {r0 r1 r2 r3 r4 r5 id q u : Int} {l : List S52} (hr : headL a1 waits = (r0, r1, r2, r3, r4, r5, true)) (hid : id ≠ a1) (H : HoldOk ⟨id, q, u, false, l⟩) :
  Ev (fun k => elastic_safe.f k a0 a1 a2 a3 view left ends waits runs id q u false l) (if 0 ≤ r0 ∧ r0 < (left.length : Int) then (safeB a0 a2 (afterB a0 view (a7_ left r0).f0 (a7_ left r0).f1 ends r0 r1 r2 r3 r4 r5 ⟨id, q, u, false, l⟩)).1 else false) := by
 have hr' : elastic_Head.f a0 a1 a2 a3 view left ends waits runs = some (r0, r1, r2, r3, r4, r5, true) := by rw [head_eq _ _ _ _ _ _ _ _ S.F.wl, hr]
 refine Ev.congr (fun k => by unfold elastic_safe.f; rw [hr', Option.bind_some, if_pos rfl, beq_eq_false_iff_ne.2 hid]) ?_
 by_cases h1 : r0 < 0
 ·rw [if_neg (by omega)]
  exact Ev.step (f := fun _ => some false) (fun k => by rw [elastic_safe.j0, if_neg (by decide), if_pos h1]) (Ev.now _)
 by_cases h2 : r0 ≥ (left.length : Int)
 ·rw [if_neg (by omega)]
  exact Ev.step (f := fun _ => some false) (fun k => by rw [elastic_safe.j0, if_neg (by decide), if_neg h1, if_pos h2]) (Ev.now _)
 rw [if_pos (by omega)]
 have hs := S.B.safe (lb_i64 S.F.lb (q := r0) (by omega)) H S.el S.sl a0 r0 r1 r2 r3 r4 r5 a2
 exact Ev.step (fun k => by rw [elastic_safe.j0, if_neg (by decide), if_neg h1, if_neg h2, if_pos (by omega), if_pos (by omega), hs, Option.bind_some]) (Ev.now _)
theorem Sett.tries2 (S : Sett view left ends waits runs) {y : S88} {n : Int} {sl : List S52} (G : GotJ view left y n sl) (hn : n ≤ 16) (u : Int) :
  ∀ L : List Int, (∀ m ∈ L, 1 ≤ m ∧ m ≤ n) → ∃ t, Ev (fun k => fillTs k a0 a1 a2 a3 view left ends waits runs y.f0 y.f1 y.f4.f0 y.f4.f1 y.f4.f2 y.f4.f3 u L) t ∧ t.map (fun x => x.1) = L.map (fun m => (placeP view y.f4.f0 y.f4.f1 y.f4.f2 y.f4.f3 m).1) ∧ ∀ x ∈ t, (∃ m, m ∈ L ∧ (x.1.length : Int) = m ∧ GotJ view left y m x.1) ∧ Ev (fun k => elastic_safe.f k a0 a1 a2 a3 view left ends waits runs y.f0 y.f1 u false x.1) x.2
 | [], _ => ⟨[], Ev.now _, rfl, fun _ h => by cases h⟩
 | m :: r, h => by
  have hm := h m (by simp)
  obtain ⟨Gm, lm⟩ := GotJ.at_ S G hm.1 hm.2 hn
  obtain ⟨b, hb⟩ := S.safe (a0 := a0) (a1 := a1) (a2 := a2) (a3 := a3) Gm.pl (by omega) y.f0 y.f1 u
  obtain ⟨t, ht, he, hx⟩ := S.tries2 G hn u r (fun x hx => h x (by simp [hx]))
  refine ⟨_, Ev.congr (fun k => by rw [fillTs, S.place, Option.bind_some]) (Ev.bind hb (Ev.out ht (fun t => ((placeP view y.f4.f0 y.f4.f1 y.f4.f2 y.f4.f3 m).1, b) :: t))), by rw [List.map_cons, List.map_cons, he], ?_⟩
  intro x hxx
  rcases List.mem_cons.1 hxx with rfl | hxx
  ·exact ⟨⟨m, by simp, lm, Gm⟩, hb⟩
  ·obtain ⟨⟨m', h1, h2⟩, h3⟩ := hx x hxx
   exact ⟨⟨m', by simp [h1], h2⟩, h3⟩
theorem most_no {view : List S51} (F : Few5 view) (left : List S24) (q g c mn mx : Int) (h : (mostB view left q g c mn mx).2 ≠ 0) : (mostB view left q g c mn mx).1 = [] := by
 have hR := most_is F left q g c mn mx
 generalize mostB view left q g c mn mx = r at hR h
 cases hR with
 | shape hg => rfl
 | queue hg hq => rfl
 | not hg hq hc => rfl
 | got n hg hq hn hc hm =>
  obtain ⟨hr, h1, h2⟩ := canB_zero.1 hc
  exact absurd (got_place (view := view) hg hn hr).1 h
theorem most_yes {view : List S51} (F : Few5 view) (left : List S24) (q g c mn mx n : Int) (h : (mostB view left q g c mn mx).2 = 0) (hl : ((mostB view left q g c mn mx).1.length : Int) = n) : mostB view left q g c mn mx = ((placeP view g c mn mx n).1, 0) := by
 have hR := most_is F left q g c mn mx
 generalize mostB view left q g c mn mx = r at hR h hl
 cases hR with
 | shape hg => exact absurd h (by simp)
 | queue hg hq => exact absurd h (by simp)
 | not hg hq hc => exact absurd h hc
 | got n' hg hq hn' hc hm =>
  have := placeP_len h
  obtain rfl : n' = n := by omega
  exact Prod.ext rfl h
theorem downL_head {a b : Int} (h : b ≤ a) : ∃ r, downL a b = a :: r := by
 have hs := downL_sorted a b
 have ha : a ∈ downL a b := downL_mem_iff.2 ⟨h, Int.le_refl _⟩
 cases hd : downL a b with
 | nil => rw [hd] at ha; cases ha
 | cons x r =>
  have hxa := (downL_mem_iff.1 (show x ∈ downL a b by rw [hd]; simp)).2
  rw [hd] at ha hs
  rcases List.mem_cons.1 ha with h1 | h1
  ·exact ⟨r, by rw [h1]⟩
  ·have := (List.pairwise_cons.1 hs).1 a h1; omega
theorem Sett.fill3 (S : Sett view left ends waits runs) (y : S88) (u : Int) :
  ∃ r, Ev (fun k => elastic_Fill.f k a0 a1 a2 a3 view left ends waits runs y.f0 y.f1 y.f2 y.f3 y.f4.f0 y.f4.f1 y.f4.f2 y.f4.f3 u) r ∧ ((headL a1 waits).2.2.2.2.2.2 = false ∨ y.f0 = a1 → r = mostB view left y.f1 y.f4.f0 y.f4.f1 y.f4.f2 y.f4.f3) ∧ ((mostB view left y.f1 y.f4.f0 y.f4.f1 y.f4.f2 y.f4.f3).2 ≠ 0 → r.2 = (mostB view left y.f1 y.f4.f0 y.f4.f1 y.f4.f2 y.f4.f3).2) ∧ r.1.length ≤ (mostB view left y.f1 y.f4.f0 y.f4.f1 y.f4.f2 y.f4.f3).1.length ∧
   (r.2 = 0 → (∃ n, n ≤ 16 ∧ GotJ view left y n r.1) ∧ Ev (fun k => elastic_safe.f k a0 a1 a2 a3 view left ends waits runs y.f0 y.f1 u false r.1) true) := by
 have hM := S.most (a0 := a0) (a1 := a1) (a2 := a2) (a3 := a3) y
 by_cases h0 : (mostB view left y.f1 y.f4.f0 y.f4.f1 y.f4.f2 y.f4.f3).2 = 0
 case neg =>
  have e1 := most_no S.F5 left _ _ _ _ _ h0
  exact ⟨([], (mostB view left y.f1 y.f4.f0 y.f4.f1 y.f4.f2 y.f4.f3).2), Ev.congr (fun k => by unfold elastic_Fill.f; rw [hM, Option.bind_some, if_neg h0]) (Ev.now _), fun _ => Prod.ext e1.symm rfl, fun _ => rfl, by simp, fun h => absurd h h0⟩
 obtain ⟨n, hn, hl, G⟩ := most_got S.F5 left y h0
 have hb := good_out1 G.gs
 have hy := most_yes S.F5 left _ _ _ _ _ n h0 hl
 obtain ⟨rr, hd⟩ := downL_head (a := n) (b := y.f4.f2) hn.1
 obtain ⟨t, ht, he, hx⟩ := S.tries2 (a0 := a0) (a1 := a1) (a2 := a2) (a3 := a3) G (by omega) u (downL n y.f4.f2) (fun m hm => by have := downL_mem hm; omega)
 refine ⟨fillR t, Ev.congr (fun k => by unfold elastic_Fill.f; rw [hM, Option.bind_some, if_pos h0, if_pos (by omega), hl]) (Ev.out ht fillR), ?_, fun h => absurd h0 h, ?_, ?_⟩
 ·intro hf
  rw [hd] at he
  cases t with
  | nil => simp at he
  | cons x r =>
   rw [List.map_cons, List.map_cons] at he
   injection he with he1 _
   have := ev_uniq (hx x (by simp)).2 (S.free hf y.f1 u x.1)
   rw [hy]
   show fillR (x :: r) = _
   unfold fillR
   rw [List.find?_cons_of_pos (by exact this)]
   show (x.1, 0) = _
   rw [he1]
 ·unfold fillR
  cases hf : t.find? (fun x => x.2) with
  | none => simp
  | some x =>
   obtain ⟨⟨m, hm, h1, _⟩, _⟩ := hx x (List.mem_of_find?_eq_some hf)
   have := downL_mem hm
   show x.1.length ≤ _
   omega
 ·unfold fillR
  cases hf : t.find? (fun x => x.2) with
  | none => intro h; exact absurd h (by simp)
  | some x =>
   obtain ⟨⟨m, hm, h1, h2⟩, h3⟩ := hx x (List.mem_of_find?_eq_some hf)
   have := downL_mem hm
   have hb2 := List.find?_some hf
   intro _
   rw [hb2] at h3
   exact ⟨⟨m, by omega, h2⟩, h3⟩
theorem Sett.grow2 (S : Sett view left ends waits runs) (h0' h1' h2' : Int) (h3' : Bool) (h4' : List S52) (y : S88) :
  ∃ r, Ev (fun k => elastic_Grow.f k a0 a1 a2 a3 view left ends waits runs h0' h1' h2' h3' h4' y.f0 y.f1 y.f2 y.f3 y.f4.f0 y.f4.f1 y.f4.f2 y.f4.f3) r ∧ (r.2.2.2.2 = 0 → GotJ view left y 1 [(⟨⟨r.1, r.2.1⟩, r.2.2.1, r.2.2.2.1⟩ : S52)] ∧ Ev (fun k => elastic_safe.f k a0 a1 a2 a3 view left ends waits runs y.f0 y.f1 h2' false [(⟨⟨r.1, r.2.1⟩, r.2.2.1, r.2.2.2.1⟩ : S52)]) true) := by
 by_cases h0 : (leftB left y.f1 y.f4.f0 y.f4.f1 y.f4.f2 y.f4.f3).2.2 = 0
 case neg => exact ⟨_, Ev.congr (fun k => by unfold elastic_Grow.f; rw [left_eq0, Option.bind_some, if_neg h0]) (Ev.now _), fun e => absurd e h0⟩
 obtain ⟨hg, hq, e⟩ := leftB_ok h0
 by_cases h1 : (h4'.length : Int) ≥ y.f4.f3
 ·exact ⟨_, Ev.congr (fun k => by unfold elastic_Grow.f; rw [left_eq0, Option.bind_some, if_pos h0, if_pos h1]) (Ev.now _), fun e => absurd e (by simp)⟩
 have hc : Ev (fun k => elastic_can.f k a0 a1 a2 a3 view left ends waits runs y.f4.f0 y.f4.f1 y.f4.f2 y.f4.f3 1 (a7_ left y.f1).f0 (a7_ left y.f1).f1) (canB view y.f4.f0 y.f4.f1 y.f4.f2 y.f4.f3 1 (a7_ left y.f1).f0 (a7_ left y.f1).f1) :=
  ⟨view.length + 1, fun k hk => can_eq k a0 a1 a2 a3 view left ends waits runs _ _ _ _ 1 _ _ hk S.vl S.F5.V.free hg (by decide) (by decide)⟩
 have st : ∀ b, Ev (fun k => (elastic_can.f k a0 a1 a2 a3 view left ends waits runs y.f4.f0 y.f4.f1 y.f4.f2 y.f4.f3 1 (a7_ left y.f1).f0 (a7_ left y.f1).f1).bind fun t756 => (if t756 = 0 then ((pack_Place.f view y.f4.f0 y.f4.f1 y.f4.f2 y.f4.f3 1).bind fun bt757 => ((elastic_safe.f k a0 a1 a2 a3 view left ends waits runs y.f0 y.f1 h2' false bt757.1).bind fun t761 => (if t761 = true then (if 0 < (bt757.1.length : Int) then (some ((a5_ bt757.1 0).f0.f0, (a5_ bt757.1 0).f0.f1, (a5_ bt757.1 0).f1, (a5_ bt757.1 0).f2, 0)) else (none)) else (some (0, 0, 0, 0, 5))))) else (some (0, 0, 0, 0, t756)))) b →
   Ev (fun k => elastic_Grow.f k a0 a1 a2 a3 view left ends waits runs h0' h1' h2' h3' h4' y.f0 y.f1 y.f2 y.f3 y.f4.f0 y.f4.f1 y.f4.f2 y.f4.f3) b := fun b hb =>
  Ev.congr (fun k => by unfold elastic_Grow.f; rw [left_eq0, Option.bind_some, if_pos h0, if_neg h1, e]) hb
 by_cases h2 : canB view y.f4.f0 y.f4.f1 y.f4.f2 y.f4.f3 1 (a7_ left y.f1).f0 (a7_ left y.f1).f1 = 0
 case neg => exact ⟨_, st _ (Ev.bind hc (Ev.congr (fun k => by rw [if_neg h2]) (Ev.now _))), fun e => absurd e h2⟩
 obtain ⟨hr, _, _⟩ := canB_zero.1 h2
 have p0 : (placeP view y.f4.f0 y.f4.f1 y.f4.f2 y.f4.f3 1).2 = 0 := by
  unfold placeP
  rw [if_pos ⟨hg, by omega, by omega⟩, if_neg (by omega)]
 have G : GotJ view left y 1 (placeP view y.f4.f0 y.f4.f1 y.f4.f2 y.f4.f3 1).1 := ⟨hg, hq, h2, S.F5.placed p0⟩
 have hlen := placeP_len p0
 obtain ⟨b, hb⟩ := S.safe (a0 := a0) (a1 := a1) (a2 := a2) (a3 := a3) G.pl (by decide) y.f0 y.f1 h2'
 cases b with
 | false => exact ⟨_, st _ (Ev.bind hc (Ev.congr (fun k => by rw [if_pos h2, S.place, Option.bind_some]) (Ev.bind hb (Ev.congr (fun k => by rw [if_neg (by decide)]) (Ev.now _))))), fun e => absurd e (by simp)⟩
 | true =>
  refine ⟨_, st _ (Ev.bind hc (Ev.congr (fun k => by rw [if_pos h2, S.place, Option.bind_some]) (Ev.bind hb (Ev.congr (fun k => by rw [if_pos rfl, if_pos (by omega)]) (Ev.now _))))), fun _ => ?_⟩
  rw [one_of_len hlen] at G hb
  exact ⟨G, hb⟩
end
def ElasticSafe.Pure : Prop := ∀ (x0 : S86) (x1 : S88) (x2 : Int) (x3 : S41), wfd86 x0 → wfd88 x1 → I64 x2 → wfd41 x3 → ∃ k, ensemblelaw14_ElasticSafe.f k x0.f0 x0.f1 x0.f2 x0.f3 x0.f4 x0.f5 x0.f6 x0.f7 x0.f8 x1.f0 x1.f1 x1.f2 x1.f3 x1.f4.f0 x1.f4.f1 x1.f4.f2 x1.f4.f3 x2 x3.f0 x3.f1 x3.f2 x3.f3 x3.f4 = some true
theorem safeB_out {now p : Int} {r : Int × Int} (h : (safeB now p r).1 = true) : r.2 = 0 ∧ (r.1 ≤ p ∨ r.1 ≤ now) := by
 unfold safeB at h
 simpa using h
theorem Pure.ElasticSafe : ElasticSafe.Pure := by
 rintro ⟨a0, a1, a2, a3, view, left, ends, waits, runs⟩ y u h w0 w1 wu w3
 simp only
 unfold wfd86 at w0
 simp only at w0
 refine Ev.rounds (g := fun k => ensemblelaw14_ElasticSafe.f k a0 a1 a2 a3 view left ends waits runs y.f0 y.f1 y.f2 y.f3 y.f4.f0 y.f4.f1 y.f4.f2 y.f4.f3 u h.f0 h.f1 h.f2 h.f3 h.f4) ?_
 refine Ev.congr (fun k => by unfold ensemblelaw14_ElasticSafe.f; rfl) ?_
 rcases few14_ev a0 a1 a2 a3 view left ends waits runs w0.2.2.2.2.1.2 w0.2.2.2.2.2.2.1.2 with ⟨hk, F⟩ | hk
 case inr => exact Ev.bind hk (Ev.congr (fun k => by rw [if_pos rfl]) (Ev.now _))
 refine Ev.bind hk (Ev.congr (fun k => by rw [if_neg (by decide)]) ?_)
 by_cases hx : (h.f4.length : Int) > 40
 ·exact Ev.congr (fun k => by rw [if_pos hx]) (Ev.now _)
 have S := F.sett w0.2.2.2.2.1.2 w0.2.2.2.2.2.2.1.2
 obtain ⟨s, hs, hs1, hs2, hs3, hs4⟩ := S.fill3 (a0 := a0) (a1 := a1) (a2 := a2) (a3 := a3) y u
 obtain ⟨o, ho, ho1⟩ := S.grow2 (a0 := a0) (a1 := a1) (a2 := a2) (a3 := a3) h.f0 h.f1 h.f2 h.f3 h.f4 y
 refine Ev.congr (fun k => by rw [if_neg hx]) ?_
 refine Ev.bind hs ?_
 refine Ev.congr (fun k => by rw [S.most y, Option.bind_some]) ?_
 refine Ev.bind ho ?_
 refine Ev.congr (fun k => by rw [head_eq _ _ _ _ _ _ _ _ S.F.wl, Option.bind_some]) ?_
 obtain ⟨⟨r0, r1, r2, r3, r4, r5, r6⟩, hr⟩ : ∃ r, headL a1 waits = r := ⟨_, rfl⟩
 rw [hr] at hs1
 rw [hr]
 simp only at hs1
 simp only
 by_cases hA : r6 = false ∨ y.f0 = a1
 ·refine Ev.congr (fun k => by rw [if_pos hA, if_pos (by rw [hs1 hA])]) ?_
  rw [hs1 hA]
  have hlen : (mostB view left y.f1 y.f4.f0 y.f4.f1 y.f4.f2 y.f4.f3).1.length ≤ 4398046511104 := by
   by_cases h0 : (mostB view left y.f1 y.f4.f0 y.f4.f1 y.f4.f2 y.f4.f3).2 = 0
   ·obtain ⟨n, hn, hl, G⟩ := most_got S.F5 left y h0
    have := good_out1 G.gs
    omega
   ·rw [most_no S.F5 left _ _ _ _ _ h0]; simp
  exact Ev.bind (same05_ev _ hlen) (Ev.congr (fun k => by rw [if_pos rfl]) (Ev.now _))
 have h6 : r6 = true := by cases r6 <;> simp_all
 subst h6
 have hid : y.f0 ≠ a1 := fun e => hA (.inr e)
 refine Ev.congr (fun k => by rw [if_neg hA, if_neg (fun hc => hc.elim (fun hc => hc.2 (hs2 hc.1)) (fun hc => by omega))]) ?_
 by_cases hq : r0 < 0 ∨ r0 ≥ (left.length : Int)
 ·refine Ev.congr (fun k => by rw [if_pos hq, if_pos ⟨fun e0 => ?_, fun g0 => ?_⟩]) (Ev.now true)
  ·obtain ⟨⟨n, hn, G⟩, hv⟩ := hs4 e0
   have := ev_uniq hv (S.safe_val hr hid (G.pl.holdOk S.B.vo hn _ _ _))
   rw [if_neg (by omega)] at this; cases this
  ·obtain ⟨G, hv⟩ := ho1 g0
   have := ev_uniq hv (S.safe_val hr hid (G.pl.holdOk S.B.vo (by decide) _ _ _))
   rw [if_neg (by omega)] at this; cases this
 refine Ev.congr (fun k => by rw [if_neg hq]) ?_
 have hL := lb_i64 S.F.lb (q := r0) (by omega)
 have hsafe : ∀ {n u : Int} {l : List S52} {g c : Int}, n ≤ 16 → Placed view g c n l → Ev (fun k => elastic_safe.f k a0 a1 a2 a3 view left ends waits runs y.f0 y.f1 u false l) true →
   fill_Safe.f a0 view (a7_ left r0).f0 (a7_ left r0).f1 ends r0 r1 r2 r3 r4 r5 a2 0 y.f1 u false l = some (safeB a0 a2 (afterB a0 view (a7_ left r0).f0 (a7_ left r0).f1 ends r0 r1 r2 r3 r4 r5 ⟨0, y.f1, u, false, l⟩)) ∧ (safeB a0 a2 (afterB a0 view (a7_ left r0).f0 (a7_ left r0).f1 ends r0 r1 r2 r3 r4 r5 ⟨0, y.f1, u, false, l⟩)).1 = true := fun hn P hv => by
  refine ⟨S.B.safe hL (P.holdOk S.B.vo hn _ _ _) S.el S.sl _ _ _ _ _ _ _ _, ?_⟩
  have := ev_uniq hv (S.safe_val hr hid (P.holdOk S.B.vo hn _ _ _))
  rw [if_pos (by omega), after_id _ _ _ _ _ _ _ _ _ _ _ y.f0 0 _ _ false false] at this
  exact this.symm
 have tail : Ev (fun k => if o.2.2.2.2 = 0 then
   (ensembleref12_Earliest.f k a0 view (a7_ left r0).f0 (a7_ left r0).f1 ends r0 r1 r2 r3 r4 r5).bind fun t =>
   (fill_Safe.f a0 view (a7_ left r0).f0 (a7_ left r0).f1 ends r0 r1 r2 r3 r4 r5 a2 0 y.f1 h.f2 false [⟨⟨o.1, o.2.1⟩, o.2.2.1, o.2.2.2.1⟩]).bind fun r =>
   if t.2 = 0 ∧ (r.1 = true ∧ r.2 = 0) ∧ (t.1 ≤ a2 ∨ t.1 ≤ a0) then some true else none
  else some true) true := by
  by_cases g0 : o.2.2.2.2 = 0
  case neg => exact Ev.congr (fun k => by rw [if_neg g0]) (Ev.now _)
  obtain ⟨G, hv⟩ := ho1 g0
  obtain ⟨e1, e2⟩ := hsafe (by decide) G.pl hv
  obtain ⟨e3, e4⟩ := safeB_out e2
  refine Ev.congr (fun k => by rw [if_pos g0]) (Ev.bind (earl12_ev S.B.I a0 _ _ r0 r1 r2 r3 r4 r5) ?_)
  refine Ev.congr (fun k => by rw [e1, Option.bind_some]) ?_
  have L5 : LB5 (a7_ left r0).f0 (a7_ left r0).f1 := by
   obtain ⟨i, rfl⟩ : ∃ i : Nat, r0 = i := ⟨r0.toNat, by omega⟩
   rw [rd24' left i (by omega)]
   have := S.F.lb left[i] (List.getElem_mem _)
   unfold lbU at this
   unfold LB5
   omega
  have A := S.B.aft L5 (G.pl.holdOk S.B.vo (by decide) 0 y.f1 h.f2) S.el S.sl e3
  obtain ⟨b, hb, _⟩ := A.is0
  obtain ⟨b', hb', _⟩ := A.is
  have hle := A.le hb hb'
  rw [hb'] at e4
  rw [hb]
  have e5 : (safeB a0 a2 (afterB a0 view (a7_ left r0).f0 (a7_ left r0).f1 ends r0 r1 r2 r3 r4 r5 ⟨0, y.f1, h.f2, false, [⟨⟨o.1, o.2.1⟩, o.2.2.1, o.2.2.2.1⟩]⟩)).2 = 0 := e3
  exact Ev.congr (fun k => by rw [if_pos ⟨rfl, ⟨e2, e5⟩, by simp only at e4 ⊢; omega⟩]) (Ev.now _)
 by_cases e0 : s.2 = 0
 ·obtain ⟨⟨n, hn, G⟩, hv⟩ := hs4 e0
  obtain ⟨e1, e2⟩ := hsafe hn G.pl hv
  refine Ev.congr (fun k => by rw [if_pos e0, e1, Option.bind_some, okR, if_pos ⟨e2, (safeB_out e2).1⟩, Option.bind_some]) tail
 ·exact Ev.congr (fun k => by rw [if_neg e0, Option.bind_some]) tail
end Go.Proofs.Ytckhjehibjdjdaa.P
namespace Go.Proofs.Ytckhjehibjdjdaa.row0
set_option maxRecDepth 100000
theorem and_mk {a b : Bool} (h : a = true) (k : b = true) : (a && b) = true := by rw [h, k]; rfl
def letters : List Char := List.map Char.ofNat [104, 97, 114, 110, 101, 115, 115, 32, 57, 100, 50, 54, 101, 98, 50, 54, 53, 56, 98, 49, 102, 51, 56, 49, 51, 55, 98, 54, 100, 49, 53, 55, 102, 53, 100, 49, 102, 101, 97, 49, 102, 56, 57, 57, 55, 98, 52, 55, 53, 51, 99, 98, 101, 48, 98, 98, 48, 97, 53, 54, 48, 102, 102, 54, 52, 98, 99, 52, 98, 52, 102, 52, 32, 99, 117, 116, 32, 97, 116, 32, 101, 110, 115, 101, 109, 98, 108, 101, 47, 101, 110, 115, 101, 109, 98, 108, 101, 108, 97, 119, 49, 50, 46, 80, 114, 111, 109, 105, 115, 101, 84, 101, 108, 108, 115, 32, 101, 110, 115, 101, 109, 98, 108, 101, 47, 101, 110, 115, 101, 109, 98, 108, 101, 108, 97, 119, 49, 50, 46, 80, 114, 111, 109, 105, 115, 101, 75, 101, 101, 112, 115, 32, 101, 110, 115, 101, 109, 98, 108, 101, 47, 101, 110, 115, 101, 109, 98, 108, 101, 108, 97, 119, 49, 50, 46, 80, 114, 111, 109, 105, 115, 101, 76, 101, 115, 115, 32, 101, 110, 115, 101, 109, 98, 108, 101, 47, 101, 110, 115, 101, 109, 98, 108, 101, 108, 97, 119, 49, 50, 46, 80, 114, 111, 109, 105, 115, 101, 79, 110, 108, 121, 32, 101, 110, 115, 101, 109, 98, 108, 101, 47, 101, 110, 115, 101, 109, 98, 108, 101, 108, 97, 119, 49, 50, 46, 80, 114, 111, 109, 105, 115, 101, 82, 111, 111, 109, 32, 101, 110, 115, 101, 109, 98, 108, 101, 47, 101, 110, 115, 101, 109, 98, 108, 101, 108, 97, 119, 49, 51, 46, 70, 105, 108, 108, 84, 101, 108, 108, 115, 32, 101, 110, 115, 101, 109, 98, 108, 101, 47, 101, 110, 115, 101, 109, 98, 108, 101, 108, 97, 119, 49, 51, 46, 70, 105, 108, 108, 76, 97, 116, 101, 32, 101, 110, 115, 101, 109, 98, 108, 101, 47, 101, 110, 115, 101, 109, 98, 108, 101, 108, 97, 119, 49, 51, 46, 70, 105, 108, 108, 78, 111, 110, 101, 32, 101, 110, 115, 101, 109, 98, 108, 101, 47, 101, 110, 115, 101, 109, 98, 108, 101, 108, 97, 119, 49, 51, 46, 70, 105, 108, 108, 77, 97, 110, 121, 32, 101, 110, 115, 101, 109, 98, 108, 101, 47, 101, 110, 115, 101, 109, 98, 108, 101, 108, 97, 119, 49, 51, 46, 70, 105, 108, 108, 80, 97, 115, 116, 32, 101, 110, 115, 101, 109, 98, 108, 101, 47, 101, 110, 115, 101, 109, 98, 108, 101, 108, 97, 119, 48, 53, 46, 80, 97, 99, 107, 70, 101, 119, 32, 101, 110, 115, 101, 109, 98, 108, 101, 47, 101, 110, 115, 101, 109, 98, 108, 101, 108, 97, 119, 48, 53, 46, 80, 97, 99, 107, 70, 114, 111, 110, 116, 32, 101, 110, 115, 101, 109, 98, 108, 101, 47, 101, 110, 115, 101, 109, 98, 108, 101, 108, 97, 119, 48, 53, 46, 80, 97, 99, 107, 84, 101, 108, 108, 115, 32, 101, 110, 115, 101, 109, 98, 108, 101, 47, 101, 110, 115, 101, 109, 98, 108, 101, 108, 97, 119, 48, 53, 46, 80, 97, 99, 107, 82, 111, 111, 109, 115, 32, 101, 110, 115, 101, 109, 98, 108, 101, 47, 101, 110, 115, 101, 109, 98, 108, 101, 108, 97, 119, 48, 53, 46, 80, 97, 99, 107, 76, 101, 102, 116, 32, 101, 110, 115, 101, 109, 98, 108, 101, 47, 101, 110, 115, 101, 109, 98, 108, 101, 108, 97, 119, 48, 53, 46, 80, 97, 99, 107, 77, 111, 114, 101, 32, 101, 110, 115, 101, 109, 98, 108, 101, 47, 101, 110, 115, 101, 109, 98, 108, 101, 108, 97, 119, 48, 53, 46, 80, 97, 99, 107, 87, 104, 111, 108, 101, 32, 101, 110, 115, 101, 109, 98, 108, 101, 47, 101, 110, 115, 101, 109, 98, 108, 101, 108, 97, 119, 49, 52, 46, 69, 108, 97, 115, 116, 105, 99, 77, 111, 115, 116, 32, 101, 110, 115, 101, 109, 98, 108, 101, 47, 101, 110, 115, 101, 109, 98, 108, 101, 108, 97, 119, 49, 52, 46, 69, 108, 97, 115, 116, 105, 99, 77, 111, 114, 101, 32, 101, 110, 115, 101, 109, 98, 108, 101, 47, 101, 110, 115, 101, 109, 98, 108, 101, 108, 97, 119, 49, 52, 46, 69, 108, 97, 115, 116, 105, 99, 83, 97, 102, 101, 32, 101, 110, 115, 101, 109, 98, 108, 101, 47, 101, 110, 115, 101, 109, 98, 108, 101, 108, 97, 119, 49, 53, 46, 87, 111, 114, 107, 101, 114, 77, 97, 121, 32, 101, 110, 115, 101, 109, 98, 108, 101, 47, 101, 110, 115, 101, 109, 98, 108, 101, 108, 97, 119, 49, 53, 46, 87, 111, 114, 107, 101, 114, 82, 101, 115, 116, 115]
theorem lit : Try.checked.prog.initOrder = String.ofList letters := by kernel_rfl
theorem lits : Try.checked.prog.initOrder.toList = letters := by rw [lit]; exact String.toList_ofList
def words : List (List Char) := List.map (List.map Char.ofNat) [[99, 117, 116], [97, 116], [101, 110, 115, 101, 109, 98, 108, 101, 47, 101, 110, 115, 101, 109, 98, 108, 101, 108, 97, 119, 49, 50, 46, 80, 114, 111, 109, 105, 115, 101, 84, 101, 108, 108, 115], [101, 110, 115, 101, 109, 98, 108, 101, 47, 101, 110, 115, 101, 109, 98, 108, 101, 108, 97, 119, 49, 50, 46, 80, 114, 111, 109, 105, 115, 101, 75, 101, 101, 112, 115], [101, 110, 115, 101, 109, 98, 108, 101, 47, 101, 110, 115, 101, 109, 98, 108, 101, 108, 97, 119, 49, 50, 46, 80, 114, 111, 109, 105, 115, 101, 76, 101, 115, 115], [101, 110, 115, 101, 109, 98, 108, 101, 47, 101, 110, 115, 101, 109, 98, 108, 101, 108, 97, 119, 49, 50, 46, 80, 114, 111, 109, 105, 115, 101, 79, 110, 108, 121], [101, 110, 115, 101, 109, 98, 108, 101, 47, 101, 110, 115, 101, 109, 98, 108, 101, 108, 97, 119, 49, 50, 46, 80, 114, 111, 109, 105, 115, 101, 82, 111, 111, 109], [101, 110, 115, 101, 109, 98, 108, 101, 47, 101, 110, 115, 101, 109, 98, 108, 101, 108, 97, 119, 49, 51, 46, 70, 105, 108, 108, 84, 101, 108, 108, 115], [101, 110, 115, 101, 109, 98, 108, 101, 47, 101, 110, 115, 101, 109, 98, 108, 101, 108, 97, 119, 49, 51, 46, 70, 105, 108, 108, 76, 97, 116, 101], [101, 110, 115, 101, 109, 98, 108, 101, 47, 101, 110, 115, 101, 109, 98, 108, 101, 108, 97, 119, 49, 51, 46, 70, 105, 108, 108, 78, 111, 110, 101], [101, 110, 115, 101, 109, 98, 108, 101, 47, 101, 110, 115, 101, 109, 98, 108, 101, 108, 97, 119, 49, 51, 46, 70, 105, 108, 108, 77, 97, 110, 121], [101, 110, 115, 101, 109, 98, 108, 101, 47, 101, 110, 115, 101, 109, 98, 108, 101, 108, 97, 119, 49, 51, 46, 70, 105, 108, 108, 80, 97, 115, 116], [101, 110, 115, 101, 109, 98, 108, 101, 47, 101, 110, 115, 101, 109, 98, 108, 101, 108, 97, 119, 48, 53, 46, 80, 97, 99, 107, 70, 101, 119], [101, 110, 115, 101, 109, 98, 108, 101, 47, 101, 110, 115, 101, 109, 98, 108, 101, 108, 97, 119, 48, 53, 46, 80, 97, 99, 107, 70, 114, 111, 110, 116], [101, 110, 115, 101, 109, 98, 108, 101, 47, 101, 110, 115, 101, 109, 98, 108, 101, 108, 97, 119, 48, 53, 46, 80, 97, 99, 107, 84, 101, 108, 108, 115], [101, 110, 115, 101, 109, 98, 108, 101, 47, 101, 110, 115, 101, 109, 98, 108, 101, 108, 97, 119, 48, 53, 46, 80, 97, 99, 107, 82, 111, 111, 109, 115], [101, 110, 115, 101, 109, 98, 108, 101, 47, 101, 110, 115, 101, 109, 98, 108, 101, 108, 97, 119, 48, 53, 46, 80, 97, 99, 107, 76, 101, 102, 116], [101, 110, 115, 101, 109, 98, 108, 101, 47, 101, 110, 115, 101, 109, 98, 108, 101, 108, 97, 119, 48, 53, 46, 80, 97, 99, 107, 77, 111, 114, 101], [101, 110, 115, 101, 109, 98, 108, 101, 47, 101, 110, 115, 101, 109, 98, 108, 101, 108, 97, 119, 48, 53, 46, 80, 97, 99, 107, 87, 104, 111, 108, 101], [101, 110, 115, 101, 109, 98, 108, 101, 47, 101, 110, 115, 101, 109, 98, 108, 101, 108, 97, 119, 49, 52, 46, 69, 108, 97, 115, 116, 105, 99, 77, 111, 115, 116], [101, 110, 115, 101, 109, 98, 108, 101, 47, 101, 110, 115, 101, 109, 98, 108, 101, 108, 97, 119, 49, 52, 46, 69, 108, 97, 115, 116, 105, 99, 77, 111, 114, 101], [101, 110, 115, 101, 109, 98, 108, 101, 47, 101, 110, 115, 101, 109, 98, 108, 101, 108, 97, 119, 49, 52, 46, 69, 108, 97, 115, 116, 105, 99, 83, 97, 102, 101], [101, 110, 115, 101, 109, 98, 108, 101, 47, 101, 110, 115, 101, 109, 98, 108, 101, 108, 97, 119, 49, 53, 46, 87, 111, 114, 107, 101, 114, 77, 97, 121], [101, 110, 115, 101, 109, 98, 108, 101, 47, 101, 110, 115, 101, 109, 98, 108, 101, 108, 97, 119, 49, 53, 46, 87, 111, 114, 107, 101, 114, 82, 101, 115, 116, 115]]
theorem wordsEq : behindMainWord (wordsSigns letters) = words := by kernel_rfl
theorem behind : behindMainWord (wordsSigns Try.checked.prog.initOrder.toList) = words := by rw [lits]; exact wordsEq
theorem headLifts_of {P : Program} {ws : List (List Char)} (h : behindMainWord (wordsSigns P.initOrder.toList) = ws) (h2 : ((stripLifts liftWords ws).2.head? == some "cut".toList) = true) (h3 : (stripLifts liftWords ws).1 = []) : P.headLifts = [] := by
 unfold Program.headLifts
 rw [h]
 simp only [h2, h3, if_true]
theorem headLifts : Try.checked.prog.headLifts = [] := headLifts_of behind (by kernel_rfl) (by kernel_rfl)
theorem liftsFinal_of {P : Program} {ws : List (List Char)} (h : behindMainWord (wordsSigns P.initOrder.toList) = ws) (hl : P.headLifts = []) (h1 : (ws.head? == some "carried".toList) = false) : P.liftsFinal = false := by
 unfold Program.liftsFinal
 rw [h, hl]
 simp only [h1, Bool.false_and, List.contains_nil, Bool.or_false]
theorem liftsFinal : Try.checked.prog.liftsFinal = false := liftsFinal_of behind headLifts (by kernel_rfl)
theorem make_of {P : Program} {c : List Char} {rest : List (List Char)} (h : behindMainWord (wordsSigns P.initOrder.toList) = c :: rest) (h1 : (c == "gc".toList || c == "spec".toList) = false) (h2 : (c == "cut".toList) = true) : P.make = some .cut := by
 unfold Program.make
 rw [h]
 simp only [h1, h2, Bool.true_or, if_true, Bool.false_eq_true, if_false]
theorem make : Try.checked.prog.make = some .cut := make_of (behind.trans (show words = _ :: _ from rfl)) (by kernel_rfl) (by kernel_rfl)
theorem mayEnter_of {P : Program} {c : List Char} {rest : List (List Char)} (h : behindMainWord (wordsSigns P.initOrder.toList) = c :: rest) (h2 : ((stripLifts liftWords (c :: rest)).2.head? == some "cut".toList) = true) (h3 : (stripLifts liftWords (c :: rest)).1 = []) (h4 : P.laysLater = false) (h5 : P.bearsReflect = false) (h6 : P.doorFits [] = true) : P.mayEnter = true := by
 unfold Program.mayEnter
 rw [h]
 simp only [h2, h3, h4, h5, h6, List.contains_nil, Bool.not_false, Bool.false_or, Bool.or_true, Bool.true_or, Bool.and_true, Bool.true_and]
theorem h4 : Try.checked.prog.laysLater = false := by kernel_rfl
theorem h5 : Try.checked.prog.bearsReflect = false := by kernel_rfl
theorem h6 : Try.checked.prog.doorFits [] = true := by kernel_rfl
theorem mayEnter : Try.checked.prog.mayEnter = true := mayEnter_of (behind.trans (show words = _ :: _ from rfl)) (by kernel_rfl) (by kernel_rfl) h4 h5 h6
end Go.Proofs.Ytckhjehibjdjdaa.row0
namespace Go.Proofs.Ytckhjehibjdjdaa.elasticSafe
open Go.ChangeShapes Go.WideShapes Go.ChangeAt Go.RowKit Go.Proofs.Ytckhjehibjdjdaa.P Go.Proofs.Ytckhjehibjdjdaa.Ob Go.Proofs.YtckhjehibjdjdaaW.PrintWords
open Go.ChangeMaps (open_string shut_string)
theorem own : ownKnob Try.prog.godebug = none := by kernel_rfl
theorem laidOut : laidOutB Try.prog = true := by kernel_rfl
set_option maxRecDepth 100000 in
theorem lifted (os : Os) (started : os.Started) (H : Type) (enc : TypeId × Value → H) :
  ReturnsInHanded {} Try.checked os 22 .any (Rows.elasticSafeSpec.pre6 enc Try.prog Try.f22 Rows.elasticSafeRow.domain false) (Rows.elasticSafeSpec.post enc Try.prog Try.f22 false true false false) := by
 refine returnsInHanded_of_change_sized (C := Try.checked) own started (by kernel_rfl) Try.func22
  (ChangeSpec.witness6 (enc := enc) (C := Try.checked) false ⟨#[], #[.agg #[.int .i64 0, .int .i64 0, .int .i64 0, .int .i64 0, .slice none 0 0, .slice none 0 0, .slice none 0 0, .slice none 0 0, .slice none 0 0], .agg #[.int .i64 0, .int .i64 0, .int .i64 0, .int .i64 0, .int .i64 0, .int .i64 0, .int .i64 0, .int .i64 0], .int .i64 0, .agg #[.int .i64 0, .int .i64 0, .int .i64 0, .bool false, .slice none 0 0]], []⟩ 8 (by kernel_rfl) (by kernel_rfl) (by kernel_rfl) (by kernel_rfl)) ?_
 intro W base args ds gs before hval0 hW hcnd hsz0 _
 have hval : ∀ (j : Nat) t v, Try.f22.params[j]? = some t → args[j]? = some v → Value.okWide Try.prog W .any base t v := hval0
 have hW' := hW
 obtain ⟨p, q, hA0, hV, rfl, hfz, hnd⟩ := hW
 have hA : DataW.TrodAll enc Try.prog W 0 (fun _ => true) true Try.f22.params.toList args.toList ds p := hA0
 rw [Try.params22] at hA hval
 obtain ⟨v0, vs0, d0, ds0, p0, q0, hargs, rfl, rfl, h0, r0⟩ := trodAll_cons hA
 obtain ⟨v1, vs1, d1, ds1, p1, q1, rfl, rfl, rfl, h1, r1⟩ := trodAll_cons r0
 obtain ⟨v2, vs2, d2, ds2, p2, q2, rfl, rfl, rfl, h2, r2⟩ := trodAll_cons r1
 obtain ⟨v3, vs3, d3, ds3, p3, q3, rfl, rfl, rfl, h3, r3⟩ := trodAll_cons r2
 obtain ⟨rfl, rfl, rfl⟩ := trodAll_nil r3
 obtain rfl : args = #[v0, v1, v2, v3] := by cases args; simp_all
 obtain ⟨rfl, rfl⟩ := trodVars_none hV
 have k0 := h0
 have lt0 : ∀ x ∈ p0, x.block < W.heap.size := by obtain ⟨m, hm⟩ := k0; exact DataW.trod_lt m _ _ _ hm
 obtain ⟨cs0, rfl, _⟩ := okWide_struct Try.underlying86 (hval 0 86 v0 rfl rfl)
 obtain ⟨x0, K0, w0⟩ := Opens.open o86 h0
 obtain ⟨A0_4, c0_4, A0_5, c0_5, A0_6, c0_6, A0_7, c0_7, A0_8, c0_8, e0, l0_4, g0_4, l0_5, g0_5, l0_6, g0_6, l0_7, g0_7, l0_8, g0_8⟩ := k86_open K0
 obtain rfl : cs0 = #[.int .i64 x0.f0, .int .i64 x0.f1, .int .i64 x0.f2, .int .i64 x0.f3, .slice A0_4 x0.f4.length c0_4, .slice A0_5 x0.f5.length c0_5, .slice A0_6 x0.f6.length c0_6, .slice A0_7 x0.f7.length c0_7, .slice A0_8 x0.f8.length c0_8] := by apply Array.toList_inj.1; exact e0
 have k1 := h1
 have lt1 : ∀ x ∈ p1, x.block < W.heap.size := by obtain ⟨m, hm⟩ := k1; exact DataW.trod_lt m _ _ _ hm
 obtain ⟨cs1, rfl, _⟩ := okWide_struct Try.underlying88 (hval 1 88 v1 rfl rfl)
 obtain ⟨x1, K1, w1⟩ := Opens.open o88 h1
 have e1 := k88_open K1
 obtain rfl : cs1 = #[.int .i64 x1.f0, .int .i64 x1.f1, .int .i64 x1.f2, .int .i64 x1.f3, .int .i64 x1.f4.f0, .int .i64 x1.f4.f1, .int .i64 x1.f4.f2, .int .i64 x1.f4.f3] := by apply Array.toList_inj.1; exact e1
 have k2 := h2
 have lt2 : ∀ x ∈ p2, x.block < W.heap.size := by obtain ⟨m, hm⟩ := k2; exact DataW.trod_lt m _ _ _ hm
 obtain ⟨x2, rfl⟩ := okWide_int Try.underlying3 (hval 2 3 v2 rfl rfl)
 obtain ⟨y2, e2, w2⟩ := Opens.open (o_i64 Try.underlying3) h2
 have e2' : x2 = y2 := by have := e2; simp [Value.cells, Kd.int, Kd.scalar] at this; exact this
 rw [← e2'] at w2
 have k3 := h3
 have lt3 : ∀ x ∈ p3, x.block < W.heap.size := by obtain ⟨m, hm⟩ := k3; exact DataW.trod_lt m _ _ _ hm
 obtain ⟨cs3, rfl, _⟩ := okWide_struct Try.underlying41 (hval 3 41 v3 rfl rfl)
 obtain ⟨x3, K3, w3⟩ := Opens.open o41 h3
 obtain ⟨A3_4, c3_4, e3, l3_4, g3_4⟩ := k41_open K3
 obtain rfl : cs3 = #[.int .i64 x3.f0, .int .i64 x3.f1, .int .i64 x3.f2, .bool x3.f3, .slice A3_4 x3.f4.length c3_4] := by apply Array.toList_inj.1; exact e3
 clear hA0 hval0 hsz0
 obtain ⟨k, hk⟩ := Pure.ElasticSafe x0 x1 x2 x3 w0 w1 w2 w3
 refine (ensemblelaw14_ElasticSafe.calls k (x0.f0) (x0.f1) (x0.f2) (x0.f3) _ _ (x0.f4) _ _ (x0.f5) _ _ (x0.f6) _ _ (x0.f7) _ _ (x0.f8) (x1.f0) (x1.f1) (x1.f2) (x1.f3) (x1.f4.f0) (x1.f4.f1) (x1.f4.f2) (x1.f4.f3) x2 (x3.f0) (x3.f1) (x3.f2) (x3.f3) _ _ (x3.f4) true W g0_4 l0_4 g0_5 l0_5 g0_6 l0_6 g0_7 l0_7 g0_8 l0_8 g3_4 l3_4 hk).mono fun e W' ⟨he, bel⟩ => ?_
 subst he
 exact ⟨_, rfl, _, _, _, [], _, [], hW', trodAll_mk1 (shut_bool Try.underlying4 _), (trodAll_cons_mk (Below.trod laidOut (by kernel_rfl) (of_decide_eq_true (by kernel_rfl)) k0 bel lt0) (trodAll_cons_mk (Below.trod laidOut (by kernel_rfl) (of_decide_eq_true (by kernel_rfl)) k1 bel lt1) (trodAll_cons_mk (Below.trod laidOut (by kernel_rfl) (of_decide_eq_true (by kernel_rfl)) k2 bel lt2) (trodAll_cons_mk (Below.trod laidOut (by kernel_rfl) (of_decide_eq_true (by kernel_rfl)) k3 bel lt3) trodAll_mk0)))), rfl, bel.frame _, fun h => by cases h⟩
set_option maxHeartbeats 8000000 in
theorem closedFacts : joinedFacts Try.checked.prog 22 Try.f22 Rows.elasticSafeSpec Rows.elasticSafeRow = true := by
 unfold joinedFacts
 repeat' (with_reducible (apply row0.and_mk))
 all_goals first | (with_reducible exact row0.mayEnter) | (rw [row0.liftsFinal]; kernel_rfl) | (rw [row0.make]; kernel_rfl) | (as_aux_lemma => kernel_rfl)
theorem over : Rows.elasticSafeRow.holds Try.pinned (OpenSpec.ofChange Rows.elasticSafeSpec) :=
 OpenClaim.holds_of_wide 22 Try.f22 rfl rfl rfl rfl rfl rfl rfl ⟨rfl, rfl, rfl, rfl, rfl⟩ rfl rfl rfl rfl rfl (by kernel_rfl) Try.func22 closedFacts
  (of_decide_eq_true (by kernel_rfl)) (by unfold Func.isWrapper; first | (rw [if_pos (by decide +kernel)]; kernel_rfl) | (rw [if_neg (by decide +kernel)]; exact ⟨rfl, rfl⟩))
  (fun os started H enc _ => lifted os started H enc)
theorem proved : Rows.ElasticSafeSaid := over
#print axioms proved
end Go.Proofs.Ytckhjehibjdjdaa.elasticSafe
namespace Go.Proofs.Ytckhjehibjdjdaa
theorem elasticSafe_holds : Rows.ElasticSafeSaid := elasticSafe.proved
end Go.Proofs.Ytckhjehibjdjdaa
