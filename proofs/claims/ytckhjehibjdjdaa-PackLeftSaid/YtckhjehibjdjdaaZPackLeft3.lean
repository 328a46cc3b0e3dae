/- PackLeft: part 3 of the walk and of the plain law that it comes to. No condition. -/
import Derived.Test.YtckhjehibjdjdaaZPackLeft2
import Derived.ArgAppend
import Derived.Below
import Derived.BigQuiet
import Derived.BigRegion
import Derived.Carry
import Derived.ChangeOld
import Derived.Deep.AppendLies
import Derived.Deep.CutBlock
import Derived.Deep.DeepCutAuto
import Derived.Deep.Draws
import Derived.Deep.LoopGhost
import Derived.Deep.OwnRows
import Derived.Deep.QuietTactic
import Derived.Deep.RegionHeld3
import Derived.Deep.Slices
import Derived.DeepKeys3
import Derived.KernelRfl
import Derived.Laws.Bits64
import Derived.Laws.Bits64b
import Derived.Laws.BitsLemmas
import Derived.Laws.BytesArg
import Derived.Laws.Externs
import Derived.Laws.IdiomCopy
import Derived.Laws.MakeOwn
import Derived.Laws.OwnMore
import Derived.Laws.Rows
import Derived.Laws.Slices
import Derived.Lib.AppendStr
import Derived.Lib.ConvBytes
import Derived.Lib.ReflectliteSlice
import Derived.Lib.ReflectliteSwap
import Derived.Lib.SliceRun
import Derived.LoopIn
import Derived.LoopN
import Derived.LoopNIn
import Derived.Maps.AppendAt
import Derived.Maps.Keyed
import Derived.Maps.Own
import Derived.Maps.OwnOps
import Derived.Maps.OwnSet
import Derived.Maps.Views
import Derived.OpenShut
import Derived.OrdersHeld
import Derived.Outline
import Derived.OwnWalk
import Derived.OwnWalkIn
import Derived.ProofKit
import Derived.RangeFuncBound
import Derived.RangeFuncBox
import Derived.RangeFuncCalls
import Derived.RangeFuncFrom
import Derived.RangeFuncLeaves
import Derived.RowKit
import Derived.RowKit3
import Derived.Shelf.Abstract
import Derived.Shelf.RegionOpen
import Derived.ShutString
import Derived.SizedLaws
import Derived.StillTailTactics
import Derived.Tactics
import Derived.TacticsInMore
import Derived.WalkKit
import Derived.WideLaws
namespace Go.Proofs.Ytckhjehibjdjdaa.P
open Go.RowKit Go.Proofs.YtckhjehibjdjdaaW.PrintWords Go.Proofs.YtckhjehibjdjdaaW.PrintLast Go.Proofs.YtckhjehibjdjdaaW.PrintMore
open Go.Proofs.Ytckhjehibjdjdaa.Bits Go.Proofs.Ytckhjehibjdjdaa.Mp
set_option linter.unusedVariables false
set_option linter.unusedSimpArgs false
theorem awake05 : ensemblelaw05_awake.f = some true := by decide +kernel
theorem few05_ev (view : List S51) : (Ev (fun k => ensemblelaw05_few.f k view) true ∧ viewR view ∧ view.length ≤ 70) ∨ Ev (fun k => ensemblelaw05_few.f k view) false := by
 unfold ensemblelaw05_few.f
 by_cases h : (view.length : Int) ≤ 70
 ·rcases right05_ev view (by omega) with ⟨h1, h2⟩ | h1
  ·exact .inl ⟨Ev.congr (fun k => by rw [if_pos h]) (Ev.bind h1 (Ev.now _)), h2, by omega⟩
  ·exact .inr (Ev.congr (fun k => by rw [if_pos h]) (Ev.bind h1 (Ev.now _)))
 ·exact .inr (Ev.congr (fun k => by rw [if_neg h]) (Ev.now _))
theorem room_ev (view : List S51) (g c mn mx : Int) (hl : view.length ≤ 4398046511104) (hv : ∀ f ∈ view, freeOk f = true) : Ev (fun k => pack_Room.f k view g c mn mx) (roomS g c mn mx view) := by
 refine ⟨view.length + 1, fun k hk => ?_⟩
 exact room_eq k view g c mn mx hk hl hv
theorem low_and (M n : Nat) : lowN M n &&& M = lowN M n := by
 apply Nat.eq_of_testBit_eq
 intro j
 rw [Nat.testBit_and]
 by_cases h : j ∈ (pos M).take n
 ·rw [(mem_pos.1 (List.mem_of_mem_take h)).2, Bool.and_true]
 ·have : (lowN M n).testBit j = false := by unfold lowN; rw [testBit_orAll]; simpa using h
  rw [this]; rfl
theorem lowI_bd (m n : Int) : 0 ≤ lowI m n ∧ lowI m n < 18446744073709551616 := by
 have := lowN_lt m.toNat n.toNat
 unfold lowI; omega
theorem low_sub {m g : Int} (hm : 0 ≤ m ∧ m < 18446744073709551616) : Go.bits .andNot .u64 m (lowI m g) = m - lowI m g := by
 obtain ⟨M, rfl⟩ := Int.eq_ofNat_of_zero_le hm.1
 have h1 := low_le M g.toNat (by omega)
 have e : lowI (M : Int) g = ((lowN M g.toNat : Nat) : Int) := rfl
 rw [e, andNot_nat M (lowN M g.toNat) (by omega) (by omega), Nat.and_comm, low_and]
 omega
def kap (s0 s1 : Int) (f : S51) : Int := min (eachI (popI f.f1) s0) (eachI f.f2 s1)
def spotOk (f : S51) : Prop := freeOk f = true ∧ cpOk f
section
variable {s0 s1 s2 s3 : Int} (hg : goodShape s0 s1 s2 s3 = true)
include hg
theorem fit_kap {f : S51} (hf : spotOk f) : fitV s0 s1 s2 s3 f.f1 f.f2 = min 16 (kap s0 s1 f) := by
 unfold fitV fitN kap
 rw [if_pos ⟨hg, hf.2.1⟩]
theorem kap_ge {f : S51} (hf : spotOk f) (h : 1 ≤ kap s0 s1 f) : s0 ≤ popI f.f1 ∧ s1 ≤ f.f2 := by
 have hb := good_out0 hg
 have h1 : 1 ≤ eachI (popI f.f1) s0 := by unfold kap at h; omega
 have h2 : 1 ≤ eachI f.f2 s1 := by unfold kap at h; omega
 have e : ∀ a b : Int, 0 ≤ a → 0 ≤ b → 1 ≤ eachI a b → b ≤ a := fun a b ha hb hx => by
  unfold eachI at hx
  by_cases hz : b = 0
  ·omega
  ·rw [if_neg hz] at hx
   have := (Int.le_ediv_iff_mul_le (c := b) (by omega)).1 hx
   omega
 exact ⟨e _ _ (popI_bd _).1 hb.1 h1, e _ _ hf.2.1 hb.2.2.1 h2⟩
theorem left_eq {f : S51} (hf : spotOk f) (h : 1 ≤ kap s0 s1 f) : leftF s0 s1 f = ⟨f.f0, f.f1 - lowI f.f1 s0, f.f2 - s1⟩ := by
 have hb := good_out0 hg
 have h1 := kap_ge hg hf h
 have h2 := hf.2
 unfold cpOk at h2
 unfold leftF
 rw [low_sub (freeOk_out hf.1).1, w_id (by omega)]
theorem left_ok {f : S51} (hf : spotOk f) (h : 1 ≤ kap s0 s1 f) : spotOk (leftF s0 s1 f) := by
 have hb := good_out0 hg
 have h1 := kap_ge hg hf h
 have h2 := hf.2
 refine ⟨leftF_ok s0 s1 hf.1, ?_⟩
 rw [left_eq hg hf h]
 unfold cpOk at h2 ⊢
 simp only
 omega
theorem kap_left {f : S51} (hf : spotOk f) (h : 1 ≤ kap s0 s1 f) (n : Nat) (h0 : 1 ≤ n) (hn : n ≤ 16) : min (n : Int) (kap s0 s1 f) = 1 + min ((n : Int) - 1) (kap s0 s1 (leftF s0 s1 f)) := by
 have hb := good_out0 hg
 have h1 := kap_ge hg hf h
 have h2 := hf.2
 unfold cpOk at h2
 have hs := pop_sub f.f1 s0 (freeOk_out hf.1).1 hb.1 h1.1
 have A := each_sub (popI f.f1) s0 hb.1 h1.1 (16 - n) (by omega) (eachI f.f2 s1)
 have B := each_sub f.f2 s1 hb.2.2.1 h1.2 (16 - n) (by omega) (eachI (popI f.f1 - s0) s0 + 1)
 rw [left_eq hg hf h]
 unfold kap
 simp only
 rw [hs.1]
 omega
theorem kap_left_le {f : S51} (hf : spotOk f) (h : 1 ≤ kap s0 s1 f) : fitV s0 s1 s2 s3 (leftF s0 s1 f).f1 (leftF s0 s1 f).f2 ≤ fitV s0 s1 s2 s3 f.f1 f.f2 ∧ fitV s0 s1 s2 s3 f.f1 f.f2 ≤ fitV s0 s1 s2 s3 (leftF s0 s1 f).f1 (leftF s0 s1 f).f2 + 1 := by
 have hb := good_out0 hg
 have h1 := kap_ge hg hf h
 have h2 := hf.2
 unfold cpOk at h2
 have hs := pop_sub f.f1 s0 (freeOk_out hf.1).1 hb.1 h1.1
 have h3 := kap_left hg hf h 16 (by omega) (by omega)
 have e1 : kap s0 s1 (leftF s0 s1 f) ≤ kap s0 s1 f := by
  rw [left_eq hg hf h]
  unfold kap
  simp only
  rw [hs.1]
  have a1 := eachI_mono hb.1 (show popI f.f1 - s0 ≤ popI f.f1 by omega)
  have a2 := eachI_mono hb.2.2.1 (show f.f2 - s1 ≤ f.f2 by omega)
  omega
 rw [fit_kap hg hf, fit_kap hg (left_ok hg hf h)]
 omega
end
def pcs (s0 s1 : Int) : Nat → S51 → List S52
 | 0, _ => []
 | n + 1, f => pieceL s0 s1 f :: pcs s0 s1 n (leftF s0 s1 f)
theorem pcs_len (s0 s1 : Int) : ∀ (n : Nat) (f : S51), (pcs s0 s1 n f).length = n
 | 0, _ => rfl
 | n + 1, f => by rw [pcs, List.length_cons, pcs_len]
theorem pcs_take (s0 s1 : Int) : ∀ (n r : Nat) (f : S51), (pcs s0 s1 n f).take r = pcs s0 s1 (min r n) f
 | 0, r, f => by rw [Nat.min_zero]; simp [pcs]
 | n + 1, 0, f => by rw [Nat.zero_min]; rfl
 | n + 1, r + 1, f => by
  rw [show min (r + 1) (n + 1) = min r n + 1 by omega, pcs, pcs, List.take_succ_cons, pcs_take s0 s1 n r]
theorem pcs_spot (s0 s1 : Int) : ∀ (n : Nat) (f : S51), ∀ s ∈ pcs s0 s1 n f, s.f0 = f.f0 ∧ maskOk s = true
 | 0, _, s, h => by cases h
 | n + 1, f, s, h => by
  rw [pcs, List.mem_cons] at h
  rcases h with rfl | h
  ·refine ⟨rfl, ?_⟩
   have := lowI_bd f.f1 s0
   unfold maskOk pieceL
   rw [decide_eq_true this.1, decide_eq_true this.2]; rfl
  ·have := pcs_spot s0 s1 n (leftF s0 s1 f) s h
   exact this
def fitT (s0 s1 s2 s3 : Int) (f : S51) : Nat := (fitV s0 s1 s2 s3 f.f1 f.f2).toNat
theorem fitT_eq (s0 s1 s2 s3 : Int) (f : S51) : ((fitT s0 s1 s2 s3 f : Nat) : Int) = fitV s0 s1 s2 s3 f.f1 f.f2 := by
 have := fitV_bd s0 s1 s2 s3 f.f1 f.f2
 unfold fitT; omega
def flat (s0 s1 s2 s3 : Int) (L : List S51) : List S52 := L.flatMap fun f => pcs s0 s1 (fitT s0 s1 s2 s3 f) f
theorem flat_cons (s0 s1 s2 s3 : Int) (f : S51) (L : List S51) : flat s0 s1 s2 s3 (f :: L) = pcs s0 s1 (fitT s0 s1 s2 s3 f) f ++ flat s0 s1 s2 s3 L := List.flatMap_cons
theorem flat_len (s0 s1 s2 s3 : Int) : ∀ L : List S51, ((flat s0 s1 s2 s3 L).length : Int) = roomS s0 s1 s2 s3 L
 | [] => rfl
 | f :: L => by
  have := flat_len s0 s1 s2 s3 L
  have h2 := fitT_eq s0 s1 s2 s3 f
  rw [flat_cons, List.length_append, pcs_len]
  unfold roomS at *
  rw [List.map_cons, List.sum_cons]
  omega
theorem cut_eq {s0 s1 s2 s3 : Int} (hg : goodShape s0 s1 s2 s3 = true) (m : Nat) (hm : m ≤ 16) : ∀ (k : Nat) (f : S51) (out : List S52), spotOk f → out.length ≤ m → m + 1 ≤ k + out.length →
  cutL s0 s1 s2 s3 m k f out = out ++ pcs s0 s1 (min (m - out.length) (fitT s0 s1 s2 s3 f)) f
 | 0, f, out, _, h1, h2 => by omega
 | k + 1, f, out, hf, h1, h2 => by
  have e1 := fitT_eq s0 s1 s2 s3 f
  have e2 := fit_kap hg hf
  rw [cutL]
  by_cases hc : out.length < m ∧ fitV s0 s1 s2 s3 f.f1 f.f2 ≠ 0
  ·have hb := fitV_bd s0 s1 s2 s3 f.f1 f.f2
   have hk : 1 ≤ kap s0 s1 f := by omega
   rw [if_pos hc, cut_eq hg m hm k _ _ (left_ok hg hf hk) (by simp; omega) (by simp; omega)]
   have e3 := fitT_eq s0 s1 s2 s3 (leftF s0 s1 f)
   have e4 := fit_kap hg (left_ok hg hf hk)
   have e5 := kap_left hg hf hk (m - out.length) (by omega) (by omega)
   have e6 : min (m - out.length) (fitT s0 s1 s2 s3 f) = min (m - (out ++ [pieceL s0 s1 f]).length) (fitT s0 s1 s2 s3 (leftF s0 s1 f)) + 1 := by
    rw [List.length_append]
    simp only [List.length_cons, List.length_nil]
    omega
   rw [e6, pcs, List.append_assoc]; rfl
  ·rw [if_neg hc, show min (m - out.length) (fitT s0 s1 s2 s3 f) = 0 by omega, pcs, List.append_nil]
theorem place_fold {s0 s1 s2 s3 : Int} (hg : goodShape s0 s1 s2 s3 = true) (m : Nat) (hm : m ≤ 16) : ∀ (L : List S51) (out : List S52), (∀ f ∈ L, spotOk f) → out.length ≤ m →
  L.foldl (fun out f => cutL s0 s1 s2 s3 m 17 f out) out = out ++ (flat s0 s1 s2 s3 L).take (m - out.length)
 | [], out, _, _ => by simp [flat]
 | f :: L, out, hL, ho => by
  rw [List.foldl_cons, cut_eq hg m hm 17 f out (hL f (by simp)) ho (by omega), ← pcs_take,
   place_fold hg m hm L _ (fun x hx => hL x (by simp [hx])) (by rw [List.length_append, List.length_take, pcs_len]; omega), flat_cons, List.take_append, List.append_assoc,
   List.length_append, List.length_take, pcs_len]
  congr 3
  omega
theorem placeL_eq {s0 s1 s2 s3 : Int} (hg : goodShape s0 s1 s2 s3 = true) (m : Nat) (hm : m ≤ 16) (L : List S51) (hL : ∀ f ∈ L, spotOk f) : placeL s0 s1 s2 s3 m L = (flat s0 s1 s2 s3 L).take m := by
 have := place_fold hg m hm L [] hL (by simp)
 rw [List.nil_append, List.length_nil, Nat.sub_zero] at this
 exact this
theorem roomS_perm {s0 s1 s2 s3 : Int} {a b : List S51} (h : a.Perm b) : roomS s0 s1 s2 s3 a = roomS s0 s1 s2 s3 b := perm_sum (h.map _)
def placeP (view : List S51) (s0 s1 s2 s3 m : Int) : List S52 × Int :=
 if goodShape s0 s1 s2 s3 = true ∧ 1 ≤ m ∧ m ≤ 16 then
  (if roomS s0 s1 s2 s3 view < m then ([], 7) else ((flat s0 s1 s2 s3 (isort (fkey s0 s1 s2 s3) view)).take m.toNat, 0))
 else ([], 1)
theorem place_P {view : List S51} (hv : ∀ f ∈ view, spotOk f) (s0 s1 s2 s3 m : Int) : placeB view s0 s1 s2 s3 m = placeP view s0 s1 s2 s3 m := by
 unfold placeB placeP
 by_cases h : goodShape s0 s1 s2 s3 = true ∧ 1 ≤ m ∧ m ≤ 16
 ·rw [if_pos h, if_pos h, placeL_eq h.1 m.toNat (by omega) _ (fun f hf => hv f ((isort_perm (fkey s0 s1 s2 s3) view).mem_iff.1 hf))]
  have h1 := flat_len s0 s1 s2 s3 (isort (fkey s0 s1 s2 s3) view)
  rw [roomS_perm (isort_perm (fkey s0 s1 s2 s3) view)] at h1
  by_cases h2 : roomS s0 s1 s2 s3 view < m
  ·rw [if_pos h2, if_pos (by rw [List.length_take]; omega)]
  ·rw [if_neg h2, if_neg (by rw [List.length_take]; omega)]
 ·rw [if_neg h, if_neg h]
theorem place_f {view : List S51} (hv : ∀ f ∈ view, spotOk f) (hl : view.length ≤ 1000000) (s0 s1 s2 s3 m : Int) : pack_Place.f view s0 s1 s2 s3 m = some (placeP view s0 s1 s2 s3 m) := by
 unfold pack_Place.f placeOk
 rw [List.all_eq_true.2 (fun f hf => (hv f hf).1), decide_eq_true hl, if_pos (by rfl), place_P hv]
theorem placeP_ok {view : List S51} {s0 s1 s2 s3 m : Int} (h : (placeP view s0 s1 s2 s3 m).2 = 0) : goodShape s0 s1 s2 s3 = true ∧ (1 ≤ m ∧ m ≤ 16) ∧ m ≤ roomS s0 s1 s2 s3 view ∧ placeP view s0 s1 s2 s3 m = ((flat s0 s1 s2 s3 (isort (fkey s0 s1 s2 s3) view)).take m.toNat, 0) := by
 unfold placeP at h ⊢
 by_cases h1 : goodShape s0 s1 s2 s3 = true ∧ 1 ≤ m ∧ m ≤ 16
 ·rw [if_pos h1] at h ⊢
  by_cases h2 : roomS s0 s1 s2 s3 view < m
  ·rw [if_pos h2] at h; cases h
  ·rw [if_neg h2]; exact ⟨h1.1, h1.2, by omega, rfl⟩
 ·rw [if_neg h1] at h; cases h
theorem placeP_len {view : List S51} {s0 s1 s2 s3 m : Int} (h : (placeP view s0 s1 s2 s3 m).2 = 0) : ((placeP view s0 s1 s2 s3 m).1.length : Int) = m := by
 obtain ⟨a, b, c, d⟩ := placeP_ok h
 have h1 := flat_len s0 s1 s2 s3 (isort (fkey s0 s1 s2 s3) view)
 rw [roomS_perm (isort_perm (fkey s0 s1 s2 s3) view)] at h1
 rw [d, List.length_take]
 omega
structure Few5 (view : List S51) : Prop where
 V : View view
 ok : ∀ f ∈ view, spotOk f
 len : view.length ≤ 70
 sp : ∀ f ∈ view, (w64B f.f0.f0 && w64B f.f0.f1) = true
theorem few5 {view : List S51} (hw : ∀ y ∈ view, wfd51 y) (hr : viewR view) (hl : view.length ≤ 70) : Few5 view :=
 ⟨⟨hr, fun f hf => (free_of_wf (hw f hf)).1⟩, fun f hf => ⟨(free_of_wf (hw f hf)).1, hr.1 f hf⟩, hl, fun f hf => (free_of_wf (hw f hf)).2⟩
theorem Few5.place {view : List S51} (F : Few5 view) (s0 s1 s2 s3 m : Int) : pack_Place.f view s0 s1 s2 s3 m = some (placeP view s0 s1 s2 s3 m) := place_f F.ok (by have := F.len; omega) s0 s1 s2 s3 m
theorem Few5.room {view : List S51} (F : Few5 view) (s0 s1 s2 s3 : Int) : Ev (fun k => pack_Room.f k view s0 s1 s2 s3) (roomS s0 s1 s2 s3 view) := room_ev view s0 s1 s2 s3 (by have := F.len; omega) F.V.free
theorem roomS_append (s0 s1 s2 s3 : Int) (a b : List S51) : roomS s0 s1 s2 s3 (a ++ b) = roomS s0 s1 s2 s3 a + roomS s0 s1 s2 s3 b := by
 unfold roomS; rw [List.map_append, List.sum_append]
end Go.Proofs.Ytckhjehibjdjdaa.P
namespace Go.Proofs.Ytckhjehibjdjdaa.P
open Go.RowKit Go.Proofs.YtckhjehibjdjdaaW.PrintWords Go.Proofs.YtckhjehibjdjdaaW.PrintLast Go.Proofs.YtckhjehibjdjdaaW.PrintMore
open Go.Proofs.Ytckhjehibjdjdaa.Bits Go.Proofs.Ytckhjehibjdjdaa.Mp
set_option linter.unusedVariables false
set_option linter.unusedSimpArgs false
def PackLeft.Pure : Prop := ∀ (x0 : List S51) (x1 : S27) (x2 : Int), (x0.length ≤ maxLen ∧ ∀ y ∈ x0, wfd51 y) → wfd27 x1 → I64 x2 → ∃ k, ensemblelaw05_PackLeft.f k x0 x1.f0 x1.f1 x1.f2 x1.f3 x2 = some true
theorem room_set (s0 s1 s2 s3 : Int) (view : List S51) (p : Nat) (hp : p < view.length) (x : S51) : roomS s0 s1 s2 s3 (view.set p x) = roomS s0 s1 s2 s3 view - fitV s0 s1 s2 s3 view[p].f1 view[p].f2 + fitV s0 s1 s2 s3 x.f1 x.f2 := by
 have e : roomS s0 s1 s2 s3 view = roomS s0 s1 s2 s3 (view.take p ++ view[p] :: view.drop (p + 1)) := by rw [← List.drop_eq_getElem_cons hp, List.take_append_drop]
 have c : ∀ (y : S51) (l : List S51), roomS s0 s1 s2 s3 (y :: l) = fitV s0 s1 s2 s3 y.f1 y.f2 + roomS s0 s1 s2 s3 l := fun y l => by unfold roomS; rw [List.map_cons, List.sum_cons]
 rw [e, List.set_eq_take_append_cons_drop, if_pos hp, roomS_append, roomS_append, c, c]
 omega
theorem less_pcs {s0 s1 s2 s3 : Int} (hg : goodShape s0 s1 s2 s3 = true) : ∀ (n : Nat) (f : S51) (view : List S51), View view → f ∈ view → n ≤ fitT s0 s1 s2 s3 f →
  (turnF lessE lessF view (pcs s0 s1 n f)).2 = 0 ∧ View (turnF lessE lessF view (pcs s0 s1 n f)).1 ∧ (turnF lessE lessF view (pcs s0 s1 n f)).1.length = view.length ∧
  roomS s0 s1 s2 s3 (turnF lessE lessF view (pcs s0 s1 n f)).1 ≤ roomS s0 s1 s2 s3 view ∧ roomS s0 s1 s2 s3 view ≤ roomS s0 s1 s2 s3 (turnF lessE lessF view (pcs s0 s1 n f)).1 + n ∧
  (∀ g ∈ view, spot g ≠ spot f → g ∈ (turnF lessE lessF view (pcs s0 s1 n f)).1)
 | 0, f, view, V, hf, hn => ⟨rfl, V, rfl, Int.le_refl _, by show _ ≤ roomS s0 s1 s2 s3 view + _; omega, fun g hg _ => hg⟩
 | n + 1, f, view, V, hf, hn => by
  have hb := good_out0 hg
  have hok : spotOk f := ⟨V.free f hf, V.right.1 f hf⟩
  have e1 := fitT_eq s0 s1 s2 s3 f
  have e2 := fit_kap hg hok
  have hk : 1 ≤ kap s0 s1 f := by omega
  have hge := kap_ge hg hok hk
  obtain ⟨p, hp, rfl⟩ := List.mem_iff_getElem.1 hf
  have hlow := lowI_bd view[p].f1 s0
  have hms : maskOk (pieceL s0 s1 view[p]) = true := by
   unfold maskOk pieceL
   rw [decide_eq_true hlow.1, decide_eq_true hlow.2]; rfl
  have hE : lessE view[p] (pieceL s0 s1 view[p]) = 0 := by
   refine (lessE_iff hok.1 hms).2 ⟨?_, hge.2⟩
   show (lowI view[p].f1 s0).toNat &&& _ = (lowI view[p].f1 s0).toNat
   unfold lowI
   rw [Int.toNat_natCast, low_and]
  have hfi : findI view (pieceL s0 s1 view[p]).f0.f0 (pieceL s0 s1 view[p]).f0.f1 = (p : Int) := find_at V.right.2 hp rfl
  have hstep : turnF lessE lessF view (pcs s0 s1 (n + 1) view[p]) = turnF lessE lessF (view.set p (leftF s0 s1 view[p])) (pcs s0 s1 n (leftF s0 s1 view[p])) := by
   rw [pcs, turnF, if_neg (show ¬ (pieceL s0 s1 view[p]).f2 < 0 from fun h => by have h : s1 < 0 := h; omega), hfi, if_neg (by omega), rd51' view p hp, if_pos hE, Int.toNat_natCast]; rfl
  have hlo := left_ok hg hok hk
  have hle := kap_left_le hg hok hk
  have sp : (view.set p (leftF s0 s1 view[p])).map spot = view.map spot := spots_set (fun hk => rfl)
  have V' : View (view.set p (leftF s0 s1 view[p])) := ⟨⟨set_all V.right.1 hlo.2, by rw [sp]; exact V.right.2⟩, set_all V.free hlo.1⟩
  have hin : leftF s0 s1 view[p] ∈ view.set p (leftF s0 s1 view[p]) := List.mem_iff_getElem.2 ⟨p, by rw [List.length_set]; exact hp, List.getElem_set_self _⟩
  have e3 := fitT_eq s0 s1 s2 s3 (leftF s0 s1 view[p])
  have hrs := room_set s0 s1 s2 s3 view p hp (leftF s0 s1 view[p])
  obtain ⟨i1, i2, i3, i4, i5, i6⟩ := less_pcs hg n (leftF s0 s1 view[p]) _ V' hin (by omega)
  rw [hstep]
  refine ⟨i1, i2, by rw [i3, List.length_set], by omega, by omega, fun g hgm hne => i6 g ?_ hne⟩
  obtain ⟨q, hq, rfl⟩ := List.mem_iff_getElem.1 hgm
  have hpq : p ≠ q := fun h => hne (by subst h; rfl)
  exact List.mem_iff_getElem.2 ⟨q, by rw [List.length_set]; exact hq, List.getElem_set_ne hpq _⟩
theorem less_flat {s0 s1 s2 s3 : Int} (hg : goodShape s0 s1 s2 s3 = true) : ∀ (L : List S51) (view : List S51) (r : Nat), View view → (L.map spot).Nodup → (∀ f ∈ L, f ∈ view) →
  (turnF lessE lessF view ((flat s0 s1 s2 s3 L).take r)).2 = 0 ∧ View (turnF lessE lessF view ((flat s0 s1 s2 s3 L).take r)).1 ∧ (turnF lessE lessF view ((flat s0 s1 s2 s3 L).take r)).1.length = view.length ∧
  roomS s0 s1 s2 s3 (turnF lessE lessF view ((flat s0 s1 s2 s3 L).take r)).1 ≤ roomS s0 s1 s2 s3 view ∧ roomS s0 s1 s2 s3 view ≤ roomS s0 s1 s2 s3 (turnF lessE lessF view ((flat s0 s1 s2 s3 L).take r)).1 + ((flat s0 s1 s2 s3 L).take r).length
 | [], view, r, V, _, _ => by
  rw [show flat s0 s1 s2 s3 [] = [] from rfl, List.take_nil]
  exact ⟨rfl, V, rfl, Int.le_refl _, by show _ ≤ roomS s0 s1 s2 s3 view + _; simp⟩
 | f :: L, view, r, V, hn, hL => by
  rw [List.map_cons, List.nodup_cons] at hn
  rw [flat_cons, List.take_append, pcs_take, pcs_len]
  obtain ⟨a1, a2, a3, a4, a5, a6⟩ := less_pcs hg (min r (fitT s0 s1 s2 s3 f)) f view V (hL f (by simp)) (by omega)
  rw [turnF_append _ _ _ a1]
  obtain ⟨b1, b2, b3, b4, b5⟩ := less_flat hg L _ (r - fitT s0 s1 s2 s3 f) a2 hn.2 (fun g hgm => a6 g (hL g (by simp [hgm])) (fun h => hn.1 (List.mem_map.2 ⟨g, hgm, h⟩)))
  refine ⟨b1, b2, b3.trans a3, by omega, ?_⟩
  rw [List.length_append, pcs_len]
  omega
theorem flat_spot (s0 s1 s2 s3 : Int) (L : List S51) : ∀ s ∈ flat s0 s1 s2 s3 L, ∃ f ∈ L, s.f0 = f.f0 ∧ maskOk s = true := fun s hs => by
 obtain ⟨f, hf, h⟩ := List.mem_flatMap.1 hs
 exact ⟨f, hf, pcs_spot _ _ _ f s h⟩
theorem Pure.PackLeft : PackLeft.Pure := by
 intro view s m w0 w1 w2
 refine Ev.rounds (g := fun k => ensemblelaw05_PackLeft.f k view s.f0 s.f1 s.f2 s.f3 m) ?_
 refine Ev.congr (fun k => by unfold ensemblelaw05_PackLeft.f; rw [awake05, Option.bind_some, if_pos rfl]) ?_
 rcases few05_ev view with ⟨hk, hr, hl⟩ | hk
 case inr => exact Ev.bind hk (Ev.congr (fun k => by rw [if_neg (by decide)]) (Ev.now _))
 have F := few5 w0.2 hr hl
 refine Ev.bind hk (Ev.congr (fun k => by rw [if_pos rfl]) (Ev.bind (F.room _ _ _ _) ?_))
 refine Ev.congr (fun k => by rw [F.place, Option.bind_some]) ?_
 by_cases h : (placeP view s.f0 s.f1 s.f2 s.f3 m).2 = 0
 ·obtain ⟨a, b, c, d⟩ := placeP_ok h
  have hlen := placeP_len h
  have hp := isort_perm (fkey s.f0 s.f1 s.f2 s.f3) view
  obtain ⟨l1, l2, l3, l4, l5⟩ := less_flat a (isort (fkey s.f0 s.f1 s.f2 s.f3) view) view m.toNat F.V ((hp.map spot).nodup_iff.2 F.V.right.2) (fun f hf => hp.mem_iff.1 hf)
  have eP : (placeP view s.f0 s.f1 s.f2 s.f3 m).1 = (flat s.f0 s.f1 s.f2 s.f3 (isort (fkey s.f0 s.f1 s.f2 s.f3) view)).take m.toNat := by rw [d]
  rw [← eP] at l1 l2 l3 l4 l5
  have hless : pack_Less.f view (placeP view s.f0 s.f1 s.f2 s.f3 m).1 = some (turnF lessE lessF view (placeP view s.f0 s.f1 s.f2 s.f3 m).1) := by
   unfold pack_Less.f spotsOk
   rw [decide_eq_true (show view.length < 4398046511104 by omega), List.all_eq_true.2 F.sp, List.all_eq_true.2 (fun x hx => ?_), if_pos (by rfl), turned51_find (F := lessF) (fun _ _ => rfl) F.V.right.2]
   rw [eP] at hx
   obtain ⟨f, hf, h1, _⟩ := flat_spot _ _ _ _ _ x (List.mem_of_mem_take hx)
   rw [h1]
   exact F.sp f (hp.mem_iff.1 hf)
  have bd := roomS_bd s.f0 s.f1 s.f2 s.f3 view
  refine Ev.congr (fun k => by rw [if_pos h, hless, Option.bind_some]) (Ev.bind (room_ev _ _ _ _ _ (by omega) l2.free) ?_)
  exact Ev.congr (fun k => by rw [if_pos l1, if_pos (by rw [w_id (by omega)]; omega), decide_eq_true l4]) (Ev.now _)
 ·exact Ev.congr (fun k => by rw [if_neg h]) (Ev.now _)
end Go.Proofs.Ytckhjehibjdjdaa.P
namespace Go.Proofs.Ytckhjehibjdjdaa.row0
set_option maxRecDepth 100000
set_option linter.unusedSimpArgs false
theorem and_mk {a b : Bool} (h : a = true) (k : b = true) : (a && b) = true := by rw [h, k]; rfl
def letters : List Char := List.map Char.ofNat [104, 97, 114, 110, 101, 115, 115, 32, 57, 100, 50, 54, 101, 98, 50, 54, 53, 56, 98, 49, 102, 51, 56, 49, 51, 55, 98, 54, 100, 49, 53, 55, 102, 53, 100, 49, 102, 101, 97, 49, 102, 56, 57, 57, 55, 98, 52, 55, 53, 51, 99, 98, 101, 48, 98, 98, 48, 97, 53, 54, 48, 102, 102, 54, 52, 98, 99, 52, 98, 52, 102, 52, 32, 99, 117, 116, 32, 97, 116, 32, 101, 110, 115, 101, 109, 98, 108, 101, 47, 101, 110, 115, 101, 109, 98, 108, 101, 108, 97, 119, 49, 50, 46, 80, 114, 111, 109, 105, 115, 101, 84, 101, 108, 108, 115, 32, 101, 110, 115, 101, 109, 98, 108, 101, 47, 101, 110, 115, 101, 109, 98, 108, 101, 108, 97, 119, 49, 50, 46, 80, 114, 111, 109, 105, 115, 101, 75, 101, 101, 112, 115, 32, 101, 110, 115, 101, 109, 98, 108, 101, 47, 101, 110, 115, 101, 109, 98, 108, 101, 108, 97, 119, 49, 50, 46, 80, 114, 111, 109, 105, 115, 101, 76, 101, 115, 115, 32, 101, 110, 115, 101, 109, 98, 108, 101, 47, 101, 110, 115, 101, 109, 98, 108, 101, 108, 97, 119, 49, 50, 46, 80, 114, 111, 109, 105, 115, 101, 79, 110, 108, 121, 32, 101, 110, 115, 101, 109, 98, 108, 101, 47, 101, 110, 115, 101, 109, 98, 108, 101, 108, 97, 119, 49, 50, 46, 80, 114, 111, 109, 105, 115, 101, 82, 111, 111, 109, 32, 101, 110, 115, 101, 109, 98, 108, 101, 47, 101, 110, 115, 101, 109, 98, 108, 101, 108, 97, 119, 49, 51, 46, 70, 105, 108, 108, 84, 101, 108, 108, 115, 32, 101, 110, 115, 101, 109, 98, 108, 101, 47, 101, 110, 115, 101, 109, 98, 108, 101, 108, 97, 119, 49, 51, 46, 70, 105, 108, 108, 76, 97, 116, 101, 32, 101, 110, 115, 101, 109, 98, 108, 101, 47, 101, 110, 115, 101, 109, 98, 108, 101, 108, 97, 119, 49, 51, 46, 70, 105, 108, 108, 78, 111, 110, 101, 32, 101, 110, 115, 101, 109, 98, 108, 101, 47, 101, 110, 115, 101, 109, 98, 108, 101, 108, 97, 119, 49, 51, 46, 70, 105, 108, 108, 77, 97, 110, 121, 32, 101, 110, 115, 101, 109, 98, 108, 101, 47, 101, 110, 115, 101, 109, 98, 108, 101, 108, 97, 119, 49, 51, 46, 70, 105, 108, 108, 80, 97, 115, 116, 32, 101, 110, 115, 101, 109, 98, 108, 101, 47, 101, 110, 115, 101, 109, 98, 108, 101, 108, 97, 119, 48, 53, 46, 80, 97, 99, 107, 70, 101, 119, 32, 101, 110, 115, 101, 109, 98, 108, 101, 47, 101, 110, 115, 101, 109, 98, 108, 101, 108, 97, 119, 48, 53, 46, 80, 97, 99, 107, 70, 114, 111, 110, 116, 32, 101, 110, 115, 101, 109, 98, 108, 101, 47, 101, 110, 115, 101, 109, 98, 108, 101, 108, 97, 119, 48, 53, 46, 80, 97, 99, 107, 84, 101, 108, 108, 115, 32, 101, 110, 115, 101, 109, 98, 108, 101, 47, 101, 110, 115, 101, 109, 98, 108, 101, 108, 97, 119, 48, 53, 46, 80, 97, 99, 107, 82, 111, 111, 109, 115, 32, 101, 110, 115, 101, 109, 98, 108, 101, 47, 101, 110, 115, 101, 109, 98, 108, 101, 108, 97, 119, 48, 53, 46, 80, 97, 99, 107, 76, 101, 102, 116, 32, 101, 110, 115, 101, 109, 98, 108, 101, 47, 101, 110, 115, 101, 109, 98, 108, 101, 108, 97, 119, 48, 53, 46, 80, 97, 99, 107, 77, 111, 114, 101, 32, 101, 110, 115, 101, 109, 98, 108, 101, 47, 101, 110, 115, 101, 109, 98, 108, 101, 108, 97, 119, 48, 53, 46, 80, 97, 99, 107, 87, 104, 111, 108, 101, 32, 101, 110, 115, 101, 109, 98, 108, 101, 47, 101, 110, 115, 101, 109, 98, 108, 101, 108, 97, 119, 49, 52, 46, 69, 108, 97, 115, 116, 105, 99, 77, 111, 115, 116, 32, 101, 110, 115, 101, 109, 98, 108, 101, 47, 101, 110, 115, 101, 109, 98, 108, 101, 108, 97, 119, 49, 52, 46, 69, 108, 97, 115, 116, 105, 99, 77, 111, 114, 101, 32, 101, 110, 115, 101, 109, 98, 108, 101, 47, 101, 110, 115, 101, 109, 98, 108, 101, 108, 97, 119, 49, 52, 46, 69, 108, 97, 115, 116, 105, 99, 83, 97, 102, 101, 32, 101, 110, 115, 101, 109, 98, 108, 101, 47, 101, 110, 115, 101, 109, 98, 108, 101, 108, 97, 119, 49, 53, 46, 87, 111, 114, 107, 101, 114, 77, 97, 121, 32, 101, 110, 115, 101, 109, 98, 108, 101, 47, 101, 110, 115, 101, 109, 98, 108, 101, 108, 97, 119, 49, 53, 46, 87, 111, 114, 107, 101, 114, 82, 101, 115, 116, 115]
theorem lit : Try.checked.prog.initOrder = String.ofList letters := by kernel_rfl
theorem lits : Try.checked.prog.initOrder.toList = letters := by rw [lit]; exact String.toList_ofList
def words : List (List Char) := List.map (List.map Char.ofNat) [[99, 117, 116], [97, 116], [101, 110, 115, 101, 109, 98, 108, 101, 47, 101, 110, 115, 101, 109, 98, 108, 101, 108, 97, 119, 49, 50, 46, 80, 114, 111, 109, 105, 115, 101, 84, 101, 108, 108, 115], [101, 110, 115, 101, 109, 98, 108, 101, 47, 101, 110, 115, 101, 109, 98, 108, 101, 108, 97, 119, 49, 50, 46, 80, 114, 111, 109, 105, 115, 101, 75, 101, 101, 112, 115], [101, 110, 115, 101, 109, 98, 108, 101, 47, 101, 110, 115, 101, 109, 98, 108, 101, 108, 97, 119, 49, 50, 46, 80, 114, 111, 109, 105, 115, 101, 76, 101, 115, 115], [101, 110, 115, 101, 109, 98, 108, 101, 47, 101, 110, 115, 101, 109, 98, 108, 101, 108, 97, 119, 49, 50, 46, 80, 114, 111, 109, 105, 115, 101, 79, 110, 108, 121], [101, 110, 115, 101, 109, 98, 108, 101, 47, 101, 110, 115, 101, 109, 98, 108, 101, 108, 97, 119, 49, 50, 46, 80, 114, 111, 109, 105, 115, 101, 82, 111, 111, 109], [101, 110, 115, 101, 109, 98, 108, 101, 47, 101, 110, 115, 101, 109, 98, 108, 101, 108, 97, 119, 49, 51, 46, 70, 105, 108, 108, 84, 101, 108, 108, 115], [101, 110, 115, 101, 109, 98, 108, 101, 47, 101, 110, 115, 101, 109, 98, 108, 101, 108, 97, 119, 49, 51, 46, 70, 105, 108, 108, 76, 97, 116, 101], [101, 110, 115, 101, 109, 98, 108, 101, 47, 101, 110, 115, 101, 109, 98, 108, 101, 108, 97, 119, 49, 51, 46, 70, 105, 108, 108, 78, 111, 110, 101], [101, 110, 115, 101, 109, 98, 108, 101, 47, 101, 110, 115, 101, 109, 98, 108, 101, 108, 97, 119, 49, 51, 46, 70, 105, 108, 108, 77, 97, 110, 121], [101, 110, 115, 101, 109, 98, 108, 101, 47, 101, 110, 115, 101, 109, 98, 108, 101, 108, 97, 119, 49, 51, 46, 70, 105, 108, 108, 80, 97, 115, 116], [101, 110, 115, 101, 109, 98, 108, 101, 47, 101, 110, 115, 101, 109, 98, 108, 101, 108, 97, 119, 48, 53, 46, 80, 97, 99, 107, 70, 101, 119], [101, 110, 115, 101, 109, 98, 108, 101, 47, 101, 110, 115, 101, 109, 98, 108, 101, 108, 97, 119, 48, 53, 46, 80, 97, 99, 107, 70, 114, 111, 110, 116], [101, 110, 115, 101, 109, 98, 108, 101, 47, 101, 110, 115, 101, 109, 98, 108, 101, 108, 97, 119, 48, 53, 46, 80, 97, 99, 107, 84, 101, 108, 108, 115], [101, 110, 115, 101, 109, 98, 108, 101, 47, 101, 110, 115, 101, 109, 98, 108, 101, 108, 97, 119, 48, 53, 46, 80, 97, 99, 107, 82, 111, 111, 109, 115], [101, 110, 115, 101, 109, 98, 108, 101, 47, 101, 110, 115, 101, 109, 98, 108, 101, 108, 97, 119, 48, 53, 46, 80, 97, 99, 107, 76, 101, 102, 116], [101, 110, 115, 101, 109, 98, 108, 101, 47, 101, 110, 115, 101, 109, 98, 108, 101, 108, 97, 119, 48, 53, 46, 80, 97, 99, 107, 77, 111, 114, 101], [101, 110, 115, 101, 109, 98, 108, 101, 47, 101, 110, 115, 101, 109, 98, 108, 101, 108, 97, 119, 48, 53, 46, 80, 97, 99, 107, 87, 104, 111, 108, 101], [101, 110, 115, 101, 109, 98, 108, 101, 47, 101, 110, 115, 101, 109, 98, 108, 101, 108, 97, 119, 49, 52, 46, 69, 108, 97, 115, 116, 105, 99, 77, 111, 115, 116], [101, 110, 115, 101, 109, 98, 108, 101, 47, 101, 110, 115, 101, 109, 98, 108, 101, 108, 97, 119, 49, 52, 46, 69, 108, 97, 115, 116, 105, 99, 77, 111, 114, 101], [101, 110, 115, 101, 109, 98, 108, 101, 47, 101, 110, 115, 101, 109, 98, 108, 101, 108, 97, 119, 49, 52, 46, 69, 108, 97, 115, 116, 105, 99, 83, 97, 102, 101], [101, 110, 115, 101, 109, 98, 108, 101, 47, 101, 110, 115, 101, 109, 98, 108, 101, 108, 97, 119, 49, 53, 46, 87, 111, 114, 107, 101, 114, 77, 97, 121], [101, 110, 115, 101, 109, 98, 108, 101, 47, 101, 110, 115, 101, 109, 98, 108, 101, 108, 97, 119, 49, 53, 46, 87, 111, 114, 107, 101, 114, 82, 101, 115, 116, 115]]
theorem wordsEq : behindMainWord (wordsSigns letters) = words := by kernel_rfl
theorem behind : behindMainWord (wordsSigns Try.checked.prog.initOrder.toList) = words := by rw [lits]; exact wordsEq
theorem headLifts_of {P : Program} {ws : List (List Char)} (h : behindMainWord (wordsSigns P.initOrder.toList) = ws) (h2 : ((stripLifts liftWords ws).2.head? == some "cut".toList) = true) (h3 : (stripLifts liftWords ws).1 = []) : P.headLifts = [] := by
 unfold Program.headLifts
 rw [h]
 simp only [h2, h3, if_true]
theorem headLifts : Try.checked.prog.headLifts = [] := headLifts_of behind (by kernel_rfl) (by kernel_rfl)
theorem liftsFinal_of {P : Program} {ws : List (List Char)} (h : behindMainWord (wordsSigns P.initOrder.toList) = ws) (hl : P.headLifts = []) (h1 : (ws.head? == some "carried".toList) = false) : P.liftsFinal = false := by
 unfold Program.liftsFinal
 rw [h, hl]
 simp only [h1, Bool.false_and, List.contains_nil, Bool.or_false]
theorem liftsFinal : Try.checked.prog.liftsFinal = false := liftsFinal_of behind headLifts (by kernel_rfl)
theorem make_of {P : Program} {c : List Char} {rest : List (List Char)} (h : behindMainWord (wordsSigns P.initOrder.toList) = c :: rest) (h1 : (c == "gc".toList || c == "spec".toList) = false) (h2 : (c == "cut".toList) = true) : P.make = some .cut := by
 unfold Program.make
 rw [h]
 simp only [h1, h2, Bool.true_or, if_true, Bool.false_eq_true, if_false]
theorem make : Try.checked.prog.make = some .cut := make_of (behind.trans (show words = _ :: _ from rfl)) (by kernel_rfl) (by kernel_rfl)
theorem mayEnter_of {P : Program} {c : List Char} {rest : List (List Char)} (h : behindMainWord (wordsSigns P.initOrder.toList) = c :: rest) (h2 : ((stripLifts liftWords (c :: rest)).2.head? == some "cut".toList) = true) (h3 : (stripLifts liftWords (c :: rest)).1 = []) (h4 : P.laysLater = false) (h5 : P.bearsReflect = false) (h6 : P.doorFits [] = true) : P.mayEnter = true := by
 unfold Program.mayEnter
 rw [h]
 simp only [h2, h3, h4, h5, h6, List.contains_nil, Bool.not_false, Bool.false_or, Bool.or_true, Bool.true_or, Bool.and_true, Bool.true_and]
theorem h4 : Try.checked.prog.laysLater = false := by kernel_rfl
theorem h5 : Try.checked.prog.bearsReflect = false := by kernel_rfl
theorem h6 : Try.checked.prog.doorFits [] = true := by kernel_rfl
theorem mayEnter : Try.checked.prog.mayEnter = true := mayEnter_of (behind.trans (show words = _ :: _ from rfl)) (by kernel_rfl) (by kernel_rfl) h4 h5 h6
end Go.Proofs.Ytckhjehibjdjdaa.row0
namespace Go.Proofs.Ytckhjehibjdjdaa.packLeft
open Go.ChangeShapes Go.WideShapes Go.ChangeAt Go.RowKit Go.Proofs.Ytckhjehibjdjdaa.P Go.Proofs.Ytckhjehibjdjdaa.Ob Go.Proofs.YtckhjehibjdjdaaW.PrintWords
open Go.ChangeMaps (open_string shut_string)
set_option linter.unusedVariables false
theorem own : ownKnob Try.prog.godebug = none := by kernel_rfl
theorem laidOut : laidOutB Try.prog = true := by kernel_rfl
set_option maxRecDepth 100000 in
theorem lifted (os : Os) (started : os.Started) (H : Type) (enc : TypeId × Value → H) :
  ReturnsInHanded {} Try.checked os 17 .any (Rows.packLeftSpec.pre6 enc Try.prog Try.f17 Rows.packLeftRow.domain false) (Rows.packLeftSpec.post enc Try.prog Try.f17 false true false false) := by
 refine returnsInHanded_of_change_sized (C := Try.checked) own started (by kernel_rfl) Try.func17
  (ChangeSpec.witness6 (enc := enc) (C := Try.checked) false ⟨#[], #[.slice none 0 0, .agg #[.int .i64 0, .int .i64 0, .int .i64 0, .int .i64 0], .int .i64 0], []⟩ 8 (by kernel_rfl) (by kernel_rfl) (by kernel_rfl) (by kernel_rfl)) ?_
 intro W base args ds gs before hval0 hW hcnd hsz0 _
 have hval : ∀ (j : Nat) t v, Try.f17.params[j]? = some t → args[j]? = some v → Value.okWide Try.prog W .any base t v := hval0
 have hW' := hW
 obtain ⟨p, q, hA0, hV, rfl, hfz, hnd⟩ := hW
 have hA : DataW.TrodAll enc Try.prog W 0 (fun _ => true) true Try.f17.params.toList args.toList ds p := hA0
 rw [Try.params17] at hA hval
 obtain ⟨v0, vs0, d0, ds0, p0, q0, hargs, rfl, rfl, h0, r0⟩ := trodAll_cons hA
 obtain ⟨v1, vs1, d1, ds1, p1, q1, rfl, rfl, rfl, h1, r1⟩ := trodAll_cons r0
 obtain ⟨v2, vs2, d2, ds2, p2, q2, rfl, rfl, rfl, h2, r2⟩ := trodAll_cons r1
 obtain ⟨rfl, rfl, rfl⟩ := trodAll_nil r2
 obtain rfl : args = #[v0, v1, v2] := by cases args; simp_all
 obtain ⟨rfl, rfl⟩ := trodVars_none hV
 have k0 := h0
 have lt0 : ∀ x ∈ p0, x.block < W.heap.size := by obtain ⟨m, hm⟩ := k0; exact DataW.trod_lt m _ _ _ hm
 obtain ⟨a0, len0, cap0, rfl⟩ := okWide_slice Try.underlying22 (hval 0 22 v0 rfl rfl)
 obtain ⟨x0, ⟨A0, c0, e0, l0, g0⟩, w0⟩ := Opens.open (Opens.slice Try.underlying22 (by kernel_rfl) (o51)) h0
 simp [Value.cells] at e0
 obtain ⟨rfl, rfl, rfl⟩ := e0
 have k1 := h1
 have lt1 : ∀ x ∈ p1, x.block < W.heap.size := by obtain ⟨m, hm⟩ := k1; exact DataW.trod_lt m _ _ _ hm
 obtain ⟨cs1, rfl, _⟩ := okWide_struct Try.underlying27 (hval 1 27 v1 rfl rfl)
 obtain ⟨x1, K1, w1⟩ := Opens.open o27 h1
 have e1 := k27_open K1
 obtain rfl : cs1 = #[.int .i64 x1.f0, .int .i64 x1.f1, .int .i64 x1.f2, .int .i64 x1.f3] := by apply Array.toList_inj.1; exact e1
 have k2 := h2
 have lt2 : ∀ x ∈ p2, x.block < W.heap.size := by obtain ⟨m, hm⟩ := k2; exact DataW.trod_lt m _ _ _ hm
 obtain ⟨x2, rfl⟩ := okWide_int Try.underlying3 (hval 2 3 v2 rfl rfl)
 obtain ⟨y2, e2, w2⟩ := Opens.open (o_i64 Try.underlying3) h2
 have e2' : x2 = y2 := by have := e2; simp [Value.cells, Kd.int, Kd.scalar] at this; exact this
 rw [← e2'] at w2
 clear hA0 hval0 hsz0
 obtain ⟨k, hk⟩ := Pure.PackLeft x0 x1 x2 w0 w1 w2
 refine (ensemblelaw05_PackLeft.calls k _ _ x0 (x1.f0) (x1.f1) (x1.f2) (x1.f3) x2 true W g0 l0 hk).mono fun e W' ⟨he, bel⟩ => ?_
 subst he
 exact ⟨_, rfl, _, _, _, [], _, [], hW', trodAll_mk1 (shut_bool Try.underlying4 _), (trodAll_cons_mk (Below.trod laidOut (by kernel_rfl) (of_decide_eq_true (by kernel_rfl)) k0 bel lt0) (trodAll_cons_mk (Below.trod laidOut (by kernel_rfl) (of_decide_eq_true (by kernel_rfl)) k1 bel lt1) (trodAll_cons_mk (Below.trod laidOut (by kernel_rfl) (of_decide_eq_true (by kernel_rfl)) k2 bel lt2) trodAll_mk0))), rfl, bel.frame _, fun h => by cases h⟩
set_option maxHeartbeats 8000000 in
theorem closedFacts : joinedFacts Try.checked.prog 17 Try.f17 Rows.packLeftSpec Rows.packLeftRow = true := by
 unfold joinedFacts
 repeat' (with_reducible (apply row0.and_mk))
 all_goals first | (with_reducible exact row0.mayEnter) | (rw [row0.liftsFinal]; kernel_rfl) | (rw [row0.make]; kernel_rfl) | (as_aux_lemma => kernel_rfl)
theorem over : Rows.packLeftRow.holds Try.pinned (OpenSpec.ofChange Rows.packLeftSpec) :=
 OpenClaim.holds_of_wide 17 Try.f17 rfl rfl rfl rfl rfl rfl rfl ⟨rfl, rfl, rfl, rfl, rfl⟩ rfl rfl rfl rfl rfl (by kernel_rfl) Try.func17 closedFacts
  (of_decide_eq_true (by kernel_rfl)) (by unfold Func.isWrapper; first | (rw [if_pos (by decide +kernel)]; kernel_rfl) | (rw [if_neg (by decide +kernel)]; exact ⟨rfl, rfl⟩))
  (fun os started H enc _ => lifted os started H enc)
theorem proved : Rows.PackLeftSaid := over
#print axioms proved
end Go.Proofs.Ytckhjehibjdjdaa.packLeft
namespace Go.Proofs.Ytckhjehibjdjdaa
theorem packLeft_holds : Rows.PackLeftSaid := packLeft.proved
end Go.Proofs.Ytckhjehibjdjdaa
