/- AuditUnits: part 4 of the walk and of the plain law that it comes to. No condition. -/
import Derived.Test.YtpedlompipabdaaZAU3
import Derived.ArgAppend
import Derived.Below
import Derived.BigQuiet
import Derived.BigRegion
import Derived.Carry
import Derived.ChangeOld
import Derived.Deep.AppendLies
import Derived.Deep.CutBlock
import Derived.Deep.DeepCutAuto
import Derived.Deep.Draws
import Derived.Deep.LoopGhost
import Derived.Deep.OwnRows
import Derived.Deep.QuietTactic
import Derived.Deep.RegionHeld3
import Derived.Deep.Slices
import Derived.DeepKeys3
import Derived.KernelRfl
import Derived.Laws.Bits64
import Derived.Laws.Bits64b
import Derived.Laws.BitsLemmas
import Derived.Laws.BytesArg
import Derived.Laws.IdiomCopy
import Derived.Laws.MakeOwn
import Derived.Laws.OwnMore
import Derived.Laws.Rows
import Derived.Laws.Slices
import Derived.Lib.AppendStr
import Derived.Lib.ConvBytes
import Derived.Lib.SliceRun
import Derived.LoopTactic
import Derived.Maps.AppendAt
import Derived.Maps.Keyed
import Derived.Maps.Own
import Derived.Maps.OwnOps
import Derived.Maps.OwnSet
import Derived.Maps.Views
import Derived.OpenShut
import Derived.OrdersHeld
import Derived.OwnWalk
import Derived.ProofKit
import Derived.RowKit
import Derived.RowKit3
import Derived.Shelf.Abstract
import Derived.ShutString
import Derived.SizedLaws
import Derived.StillTailTactics
import Derived.Tactics
import Derived.WalkKit
import Derived.WideLaws
namespace Go.Proofs.Ytpedlompipabdaa.P
open Go.RowKit Go.Proofs.YtpedlompipabdaaW.PrintWords Go.Proofs.YtpedlompipabdaaW.PrintLast Go.Proofs.YtpedlompipabdaaW.PrintMore
attribute [local go_sem] max2_int min2_int max_two min_two max_three min_three max_four min_four
set_option linter.unusedVariables false
set_option linter.unusedSimpArgs false
def ensembleref05_Right.l0 : Nat → List (S58) → Int → Option (Bool)
 | 0, _, _ => none
 | k + 1, x0, x3 => if x3 < (x0.length : Int) then (if 0 ≤ x3 then (if ((rd_T58 x0 x3).f2) < 0 then (some false) else (if ((rd_T58 x0 x3).f2) > 1048576 then (some false) else (if x3 ≤ (x0.length : Int) then ((ensembleref05_find.f k (x0.take (x3 : Int).toNat) ((rd_T58 x0 x3).f0.f0) ((rd_T58 x0 x3).f0.f1)).bind fun t145 => (if t145 ≥ 0 then (some false) else (ensembleref05_Right.l0 k x0 (wrap64 (x3 + 1))))) else (none)))) else (none)) else (some true)
def ensembleref05_Right.f (k : Nat) (l0 : List (S58)) : Option (Bool) := ensembleref05_Right.l0 k l0 0
theorem ensembleref05_Right.mono_l : ∀ k, (∀ y0 y1, LeO (ensembleref05_Right.l0 k y0 y1) (ensembleref05_Right.l0 (k + 1) y0 y1))
 | 0 => fun _ _ r h => by simp [ensembleref05_Right.l0] at h
 | k + 1 => by
  have ih0 := ensembleref05_Right.mono_l k
  ·intro y0 y1
   unfold ensembleref05_Right.l0
   repeat' first
   | (with_reducible exact ih0 _ _)
   | (with_reducible exact ensembleref05_find.mono _ _ _ _)
   | (with_reducible exact LeO.refl _)
   | (with_reducible exact LeO.none _)
   | (with_reducible refine LeO.ite ?_ ?_)
   | (with_reducible refine LeO.bind ?_ (fun _ => ?_))
   | exact ih0 _ _
   | exact ensembleref05_find.mono _ _ _ _
   | exact LeO.none _
   | refine LeO.ite ?_ ?_
   | refine LeO.bind ?_ (fun _ => ?_)
theorem ensembleref05_Right.mono : ∀ a0 k, LeO (ensembleref05_Right.f k a0) (ensembleref05_Right.f (k + 1) a0) := by
 intro a0 k
 have ih0 := ensembleref05_Right.mono_l k
 unfold ensembleref05_Right.f
 repeat' first
   | (with_reducible exact ih0 _ _)
   | (with_reducible exact ensembleref05_find.mono _ _ _ _)
   | (with_reducible exact LeO.refl _)
   | (with_reducible exact LeO.none _)
   | (with_reducible refine LeO.ite ?_ ?_)
   | (with_reducible refine LeO.bind ?_ (fun _ => ?_))
   | exact ih0 _ _
   | exact ensembleref05_find.mono _ _ _ _
   | exact LeO.none _
   | refine LeO.ite ?_ ?_
   | refine LeO.bind ?_ (fun _ => ?_)
def ensembleref05_Right.T4 : Bool × List (List Nat × List Nat) := (true, [([], []), ([], []), ([0, 1], [0, 1]), ([2], [2]), ([3], [3]), ([4], [4]), ([5], [5]), ([6], [6]), ([6], [6]), ([7, 8, 6], [6, 7, 8]), ([9, 6], [6, 9]), ([10, 6], [6, 10]), ([11, 6], [6, 11]), ([6, 12], [6, 12]), ([13, 6], [13]), ([14], [14]), ([14], [14]), ([15, 16, 14], [14, 15, 16]), ([14], [14]), ([14], [14]), ([18, 19, 14], [14, 18, 19]), ([20, 14], [14, 20]), ([21, 14], [14, 21]), ([17, 22, 14, 14], [14, 17, 22]), ([23, 14], [14, 23]), ([14, 24], [14, 24])])
def ensembleref05_Right.B4 : List Nat := [0, 0, 3, 7, 15, 31, 63, 127, 127, 511, 1023, 2047, 4095, 8191, 16383, 32767, 32767, 131071, 32767, 32767, 819199, 1867775, 3964927, 8388607, 16777215, 33554431]
theorem ensembleref05_Right.tab4 : rtab .any (opsOf Try.f20 4) = ensembleref05_Right.T4 := by kernel_rfl
theorem ensembleref05_Right.bits4 : waitsOk ensembleref05_Right.T4.2 ensembleref05_Right.B4 = true := by kernel_rfl
set_option maxHeartbeats 8000000 in
set_option maxRecDepth 100000 in
theorem ensembleref05_Right.calls (k : Nat) (A0 : Option Addr) (c0 : Nat) (l0 : List (S58)) (r : Bool) (w : World) (hr0 : Kd.C k58 w A0 l0.length l0) (hc0 : l0.length ≤ c0) (h : ensembleref05_Right.f k l0 = some r) :
  Calls Try.prog 20 #[.slice A0 l0.length c0] w fun e w' => e = .returned (.bool r) ∧ Below w.heap.size w w' := by
 have hu56 := Try.underlying56
 have HR0 := Aside0.mk hr0
 have HC0 := Aside0.mk hc0
 clear hr0 hc0
 have HB := Aside0.mk (Below.refl w.heap.size w)
 have H : (ensembleref05_Right.l0 k l0 0) = some r := h
 clear h
 have H' := Aside0.mk H
 clear H
 go_enter Try.func20, Try.ntmps20
 go_wp2
 go_loopg [3] k (fun kq v3 w' => ∃ (x3_1 : Int), v3 = .int .i64 x3_1 ∧ Aside0 (ensembleref05_Right.l0 kq l0 x3_1 = some r) ∧ Aside0 (kq ≤ k) ∧ Aside0 (Below w.heap.size w w'))
 case atStart => exact ⟨(0), (by first | rfl | (simp; done) | (simp [*]; done)), H', ⟨Nat.le_refl _⟩, ⟨by repeat (first | (with_reducible first | exact HB.out | apply below_alloc | apply pw_below_drewN | apply below_drew1) | exact HB.out)⟩⟩
 case round =>
  clear H'
  obtain ⟨x3_1, rfl, HA, HK1, HB⟩ := hrel
  cases gk with
  | zero => exact absurd HA.out (by simp [ensembleref05_Right.l0])
  | succ k1 =>
   have H := HA.out
   clear HA
   simp only [ensembleref05_Right.l0] at H
   by_cases c2 : x3_1 < (l0.length : Int)
   ·rw [if_pos c2] at H
    have c2b0 : decide (x3_1 < (l0.length : Int)) = true := decide_eq_true c2
    clear c2
    by_cases c3 : 0 ≤ x3_1
    ·rw [if_pos c3] at H
     have c3b0 : decide (0 ≤ x3_1) = true := decide_eq_true c3
     clear c3
     by_cases c4 : ((rd_T58 l0 x3_1).f2) < 0
     ·rw [if_pos c4] at H
      have c4b0 : decide (((rd_T58 l0 x3_1).f2) < 0) = true := decide_eq_true c4
      clear c4
      obtain rfl := Option.some.inj H
      try go_wp2
      have n0_ := Aside0.mk (below_drew1 HB.out)
      clear HB
      have HB := n0_
      clear n0_
      have p138 : 0 ≤ (x3_1 : Int) := of_decide_eq_true (by first | (with_reducible assumption) | assumption)
      have q138 : x3_1 < (l0.length : Int) := of_decide_eq_true (by first | (with_reducible assumption) | assumption)
      obtain ⟨ad138, e138, hx138_0, hx138_1, hx138_2, hx138_3⟩ := at_T58 HR0.out x3_1 p138 q138
      have hw138_3 := hx138_3
      have hw138_2 := hx138_2
      have hw138_1 := hx138_1
      have hw138_0 := hx138_0
      cases e138
      replace hx138_0 := (HB.out.cell (World.block_lt_of_cell? w _ hx138_0)).trans hx138_0
      replace hx138_1 := (HB.out.cell (World.block_lt_of_cell? w _ hx138_1)).trans hx138_1
      replace hx138_2 := (HB.out.cell (World.block_lt_of_cell? w _ hx138_2)).trans hx138_2
      replace hx138_3 := (HB.out.cell (World.block_lt_of_cell? w _ hx138_3)).trans hx138_3
      replace p138 := eq_true p138
      replace q138 := eq_true q138
      refine start_ (n := 26) (S := fun w' => w'.cell? (ad138.add ((x3_1).toNat * 4)) = some (.int .i64 ((rd_T58 l0 x3_1).f0.f0)) ∧ w'.cell? ⟨(ad138.add ((x3_1).toNat * 4)).block, (ad138.add ((x3_1).toNat * 4)).off + 1, none⟩ = some (.int .i64 ((rd_T58 l0 x3_1).f0.f1)) ∧ w'.cell? ⟨(ad138.add ((x3_1).toNat * 4)).block, (ad138.add ((x3_1).toNat * 4)).off + 2, none⟩ = some (.int .u64 ((rd_T58 l0 x3_1).f1)) ∧ w'.cell? ⟨(ad138.add ((x3_1).toNat * 4)).block, (ad138.add ((x3_1).toNat * 4)).off + 3, none⟩ = some (.int .i64 ((rd_T58 l0 x3_1).f2))) (ds := []) #[false, false, false, false, false, false, false, false, false, false, false, false, false, false, false, false, false, false, false, false, false, false, false, false, false, false] (by kernel_rfl) rfl rfl ⟨((HB.out.cell (World.block_lt_of_cell? w _ hw138_0)).trans hw138_0), ((HB.out.cell (World.block_lt_of_cell? w _ hw138_1)).trans hw138_1), ((HB.out.cell (World.block_lt_of_cell? w _ hw138_2)).trans hw138_2), ((HB.out.cell (World.block_lt_of_cell? w _ hw138_3)).trans hw138_3)⟩ (fun hHeld => ?_); refine with_tabW ensembleref05_Right.tab4 ensembleref05_Right.bits4 (fun HT_ HW_ => ?_)
      generalize wr.drew = w5 at HB hx138_0 hx138_1 hx138_2 hx138_3 hHeld ⊢
      refine pure_ (i := 0) (N := some 10) (v := ?_) (a' := ?_) #[true, false, false, false, false, false, false, false, false, false, false, false, false, false, false, false, false, false, false, false, false, false, false, false, false, false] rfl rfl (any_of HT_.out (by kernel_rfl)) (fun _ _ _ h => h) (Or.inl ⟨by rfl, ?_⟩) ?_ ?_
      rotate_left
      ·intro w'
       go_simp
       with_reducible rfl
      rotate_left
      ·simp only [Act.put, List.setIfInBounds_toArray, List.set_cons_zero, List.set_cons_succ, i64_w, i32_w]
       rfl
      refine pure_ (i := 1) (N := some 11) (v := ?_) (a' := ?_) #[true, true, false, false, false, false, false, false, false, false, false, false, false, false, false, false, false, false, false, false, false, false, false, false, false, false] rfl rfl (any_of HT_.out (by kernel_rfl)) (fun _ _ _ h => h) (Or.inl ⟨by rfl, ?_⟩) ?_ ?_
      rotate_left
      ·intro w'
       go_simp
       with_reducible rfl
      rotate_left
      ·simp only [Act.put, List.setIfInBounds_toArray, List.set_cons_zero, List.set_cons_succ, i64_w, i32_w]
       rfl
      refine pure_ (i := 2) (N := some 12) (v := ?_) (a' := ?_) #[true, true, true, false, false, false, false, false, false, false, false, false, false, false, false, false, false, false, false, false, false, false, false, false, false, false] rfl rfl (any_of HT_.out (by kernel_rfl)) (fun _ _ _ h => h) (Or.inl ⟨by rfl, ?_⟩) ?_ ?_
      rotate_left
      ·intro w'
       go_simp
       with_reducible rfl
      rotate_left
      ·simp only [Act.put, List.setIfInBounds_toArray, List.set_cons_zero, List.set_cons_succ, i64_w, i32_w]
       rfl
      refine pure_ (i := 3) (N := some 13) (v := ?_) (a' := ?_) #[true, true, true, true, false, false, false, false, false, false, false, false, false, false, false, false, false, false, false, false, false, false, false, false, false, false] rfl rfl (any_of HT_.out (by kernel_rfl)) (fun _ _ _ h => h) (Or.inl ⟨by rfl, ?_⟩) ?_ ?_
      rotate_left
      ·intro w'
       go_simp
       with_reducible rfl
      rotate_left
      ·simp only [Act.put, List.setIfInBounds_toArray, List.set_cons_zero, List.set_cons_succ, i64_w, i32_w]
       rfl
      refine take_ (i := 4) (N := some 14) (v := ?_) (a' := ?_) #[true, true, true, true, true, false, false, false, false, false, false, false, false, false, false, false, false, false, false, false, false, false, false, false, false, false] rfl rfl (take_ofW HT_.out HW_.out (by kernel_rfl)) (fun _ _ _ h => h) (Or.inl ⟨by rfl, ?_⟩) hHeld ?_ ?_
      rotate_left
      ·rintro w' ⟨s0, s1, s2, s3⟩
       go_simp
       with_reducible rfl
      rotate_left
      ·simp only [Act.put, List.setIfInBounds_toArray, List.set_cons_zero, List.set_cons_succ, i64_w, i32_w]
       rfl
      refine pure_ (i := 5) (N := some 15) (v := ?_) (a' := ?_) #[true, true, true, true, true, true, false, false, false, false, false, false, false, false, false, false, false, false, false, false, false, false, false, false, false, false] rfl rfl (any_of HT_.out (by kernel_rfl)) (fun _ _ _ h => h) (Or.inl ⟨by rfl, ?_⟩) ?_ ?_
      rotate_left
      ·intro w'
       go_simp
       with_reducible rfl
      rotate_left
      ·simp only [Act.put, List.setIfInBounds_toArray, List.set_cons_zero, List.set_cons_succ, i64_w, i32_w]
       rfl
      refine pure_ (i := 6) (N := some 16) (v := ?_) (a' := ?_) #[true, true, true, true, true, true, true, false, false, false, false, false, false, false, false, false, false, false, false, false, false, false, false, false, false, false] rfl rfl (any_of HT_.out (by kernel_rfl)) (fun _ _ _ h => h) (Or.inl ⟨by rfl, ?_⟩) ?_ ?_
      rotate_left
      ·intro w'
       go_simp
       with_reducible rfl
      rotate_left
      ·simp only [Act.put, List.setIfInBounds_toArray, List.set_cons_zero, List.set_cons_succ, i64_w, i32_w]
       rfl
      refine pure_ (i := 7) (N := some 17) (v := undef) (a' := ?_) #[true, true, true, true, true, true, true, true, false, false, false, false, false, false, false, false, false, false, false, false, false, false, false, false, false, false] rfl rfl (any_of HT_.out (by kernel_rfl)) (fun _ _ _ h => h) (Or.inr ⟨by rfl, rfl⟩) ?_ ?_
      rotate_left
      ·simp only [Act.put, List.setIfInBounds_toArray, List.set_cons_zero, List.set_cons_succ, i64_w, i32_w]
       rfl
      refine pure_ (i := 8) (N := some 18) (v := undef) (a' := ?_) #[true, true, true, true, true, true, true, true, true, false, false, false, false, false, false, false, false, false, false, false, false, false, false, false, false, false] rfl rfl (any_of HT_.out (by kernel_rfl)) (fun _ _ _ h => h) (Or.inr ⟨by rfl, rfl⟩) ?_ ?_
      rotate_left
      ·simp only [Act.put, List.setIfInBounds_toArray, List.set_cons_zero, List.set_cons_succ, i64_w, i32_w]
       rfl
      refine pure_ (i := 9) (N := some 19) (v := undef) (a' := ?_) #[true, true, true, true, true, true, true, true, true, true, false, false, false, false, false, false, false, false, false, false, false, false, false, false, false, false] rfl rfl (any_of HT_.out (by kernel_rfl)) (fun _ _ _ h => h) (Or.inr ⟨by rfl, rfl⟩) ?_ ?_
      rotate_left
      ·simp only [Act.put, List.setIfInBounds_toArray, List.set_cons_zero, List.set_cons_succ, i64_w, i32_w]
       rfl
      refine pure_ (i := 10) (N := some 20) (v := undef) (a' := ?_) #[true, true, true, true, true, true, true, true, true, true, true, false, false, false, false, false, false, false, false, false, false, false, false, false, false, false] rfl rfl (any_of HT_.out (by kernel_rfl)) (fun _ _ _ h => h) (Or.inr ⟨by rfl, rfl⟩) ?_ ?_
      rotate_left
      ·simp only [Act.put, List.setIfInBounds_toArray, List.set_cons_zero, List.set_cons_succ, i64_w, i32_w]
       rfl
      refine pure_ (i := 11) (N := some 21) (v := undef) (a' := ?_) #[true, true, true, true, true, true, true, true, true, true, true, true, false, false, false, false, false, false, false, false, false, false, false, false, false, false] rfl rfl (any_of HT_.out (by kernel_rfl)) (fun _ _ _ h => h) (Or.inr ⟨by rfl, rfl⟩) ?_ ?_
      rotate_left
      ·simp only [Act.put, List.setIfInBounds_toArray, List.set_cons_zero, List.set_cons_succ, i64_w, i32_w]
       rfl
      refine pure_ (i := 12) (N := some 22) (v := undef) (a' := ?_) #[true, true, true, true, true, true, true, true, true, true, true, true, true, false, false, false, false, false, false, false, false, false, false, false, false, false] rfl rfl (any_of HT_.out (by kernel_rfl)) (fun _ _ _ h => h) (Or.inr ⟨by rfl, rfl⟩) ?_ ?_
      rotate_left
      ·simp only [Act.put, List.setIfInBounds_toArray, List.set_cons_zero, List.set_cons_succ, i64_w, i32_w]
       rfl
      refine pure_ (i := 13) (N := some 23) (v := ?_) (a' := ?_) #[true, true, true, true, true, true, true, true, true, true, true, true, true, true, false, false, false, false, false, false, false, false, false, false, false, false] rfl rfl (any_of HT_.out (by kernel_rfl)) (fun _ _ _ h => h) (Or.inl ⟨by rfl, ?_⟩) ?_ ?_
      rotate_left
      ·intro w'
       go_simp
       with_reducible rfl
      rotate_left
      ·simp only [Act.put, List.setIfInBounds_toArray, List.set_cons_zero, List.set_cons_succ, i64_w, i32_w]
       rfl
      refine pure_ (i := 14) (N := some 24) (v := ?_) (a' := ?_) #[true, true, true, true, true, true, true, true, true, true, true, true, true, true, true, false, false, false, false, false, false, false, false, false, false, false] rfl rfl (any_of HT_.out (by kernel_rfl)) (fun _ _ _ h => h) (Or.inl ⟨by rfl, ?_⟩) ?_ ?_
      rotate_left
      ·intro w'
       go_simp
       with_reducible rfl
      rotate_left
      ·simp only [Act.put, List.setIfInBounds_toArray, List.set_cons_zero, List.set_cons_succ, i64_w, i32_w]
       rfl
      refine pure_ (i := 15) (N := some 25) (v := undef) (a' := ?_) #[true, true, true, true, true, true, true, true, true, true, true, true, true, true, true, true, false, false, false, false, false, false, false, false, false, false] rfl rfl (any_of HT_.out (by kernel_rfl)) (fun _ _ _ h => h) (Or.inr ⟨by rfl, rfl⟩) ?_ ?_
      rotate_left
      ·simp only [Act.put, List.setIfInBounds_toArray, List.set_cons_zero, List.set_cons_succ, i64_w, i32_w]
       rfl
      refine pure_ (i := 16) (N := some 26) (v := undef) (a' := ?_) #[true, true, true, true, true, true, true, true, true, true, true, true, true, true, true, true, true, false, false, false, false, false, false, false, false, false] rfl rfl (any_of HT_.out (by kernel_rfl)) (fun _ _ _ h => h) (Or.inr ⟨by rfl, rfl⟩) ?_ ?_
      rotate_left
      ·simp only [Act.put, List.setIfInBounds_toArray, List.set_cons_zero, List.set_cons_succ, i64_w, i32_w]
       rfl
      refine pure_ (i := 17) (N := some 27) (v := undef) (a' := ?_) #[true, true, true, true, true, true, true, true, true, true, true, true, true, true, true, true, true, true, false, false, false, false, false, false, false, false] rfl rfl (any_of HT_.out (by kernel_rfl)) (fun _ _ _ h => h) (Or.inr ⟨by rfl, rfl⟩) ?_ ?_
      rotate_left
      ·simp only [Act.put, List.setIfInBounds_toArray, List.set_cons_zero, List.set_cons_succ, i64_w, i32_w]
       rfl
      refine pure_ (i := 18) (N := some 28) (v := undef) (a' := ?_) #[true, true, true, true, true, true, true, true, true, true, true, true, true, true, true, true, true, true, true, false, false, false, false, false, false, false] rfl rfl (any_of HT_.out (by kernel_rfl)) (fun _ _ _ h => h) (Or.inr ⟨by rfl, rfl⟩) ?_ ?_
      rotate_left
      ·simp only [Act.put, List.setIfInBounds_toArray, List.set_cons_zero, List.set_cons_succ, i64_w, i32_w]
       rfl
      refine pure_ (i := 19) (N := some 29) (v := undef) (a' := ?_) #[true, true, true, true, true, true, true, true, true, true, true, true, true, true, true, true, true, true, true, true, false, false, false, false, false, false] rfl rfl (any_of HT_.out (by kernel_rfl)) (fun _ _ _ h => h) (Or.inr ⟨by rfl, rfl⟩) ?_ ?_
      rotate_left
      ·simp only [Act.put, List.setIfInBounds_toArray, List.set_cons_zero, List.set_cons_succ, i64_w, i32_w]
       rfl
      refine pure_ (i := 20) (N := some 30) (v := undef) (a' := ?_) #[true, true, true, true, true, true, true, true, true, true, true, true, true, true, true, true, true, true, true, true, true, false, false, false, false, false] rfl rfl (any_of HT_.out (by kernel_rfl)) (fun _ _ _ h => h) (Or.inr ⟨by rfl, rfl⟩) ?_ ?_
      rotate_left
      ·simp only [Act.put, List.setIfInBounds_toArray, List.set_cons_zero, List.set_cons_succ, i64_w, i32_w]
       rfl
      refine pure_ (i := 21) (N := some 31) (v := undef) (a' := ?_) #[true, true, true, true, true, true, true, true, true, true, true, true, true, true, true, true, true, true, true, true, true, true, false, false, false, false] rfl rfl (any_of HT_.out (by kernel_rfl)) (fun _ _ _ h => h) (Or.inr ⟨by rfl, rfl⟩) ?_ ?_
      rotate_left
      ·simp only [Act.put, List.setIfInBounds_toArray, List.set_cons_zero, List.set_cons_succ, i64_w, i32_w]
       rfl
      refine pure_ (i := 22) (N := some 32) (v := undef) (a' := ?_) #[true, true, true, true, true, true, true, true, true, true, true, true, true, true, true, true, true, true, true, true, true, true, true, false, false, false] rfl rfl (any_of HT_.out (by kernel_rfl)) (fun _ _ _ h => h) (Or.inr ⟨by rfl, rfl⟩) ?_ ?_
      rotate_left
      ·simp only [Act.put, List.setIfInBounds_toArray, List.set_cons_zero, List.set_cons_succ, i64_w, i32_w]
       rfl
      refine pure_ (i := 23) (N := some 33) (v := undef) (a' := ?_) #[true, true, true, true, true, true, true, true, true, true, true, true, true, true, true, true, true, true, true, true, true, true, true, true, false, false] rfl rfl (any_of HT_.out (by kernel_rfl)) (fun _ _ _ h => h) (Or.inr ⟨by rfl, rfl⟩) ?_ ?_
      rotate_left
      ·simp only [Act.put, List.setIfInBounds_toArray, List.set_cons_zero, List.set_cons_succ, i64_w, i32_w]
       rfl
      refine pure_ (i := 24) (N := some 34) (v := undef) (a' := ?_) #[true, true, true, true, true, true, true, true, true, true, true, true, true, true, true, true, true, true, true, true, true, true, true, true, true, false] rfl rfl (any_of HT_.out (by kernel_rfl)) (fun _ _ _ h => h) (Or.inr ⟨by rfl, rfl⟩) ?_ ?_
      rotate_left
      ·simp only [Act.put, List.setIfInBounds_toArray, List.set_cons_zero, List.set_cons_succ, i64_w, i32_w]
       rfl
      refine pure_ (i := 25) (N := some 35) (v := ?_) (a' := ?_) #[true, true, true, true, true, true, true, true, true, true, true, true, true, true, true, true, true, true, true, true, true, true, true, true, true, true] rfl rfl (any_of HT_.out (by kernel_rfl)) (fun _ _ _ h => h) (Or.inl ⟨by rfl, ?_⟩) ?_ ?_
      rotate_left
      ·intro w'
       go_simp
       with_reducible rfl
      rotate_left
      ·simp only [Act.put, List.setIfInBounds_toArray, List.set_cons_zero, List.set_cons_succ, i64_w, i32_w]
       rfl
      refine done_ (done_of HT_.out (by kernel_rfl)) ?_
      try go_wp2
      go_ret
      exact ⟨by first | rfl | (simp [errW_none, errW_some] <;> rfl) | (simp [*, errW_none, errW_some] <;> rfl), by repeat (first | (with_reducible first | exact HB.out | apply below_alloc | apply pw_below_drewN | apply below_drew1) | exact HB.out)⟩
     ·rw [if_neg c4] at H
      have c4b0 : decide (((rd_T58 l0 x3_1).f2) < 0) = false := decide_eq_false c4
      clear c4
      by_cases c6 : ((rd_T58 l0 x3_1).f2) > 1048576
      ·rw [if_pos c6] at H
       have c6b0 : decide (1048576 < ((rd_T58 l0 x3_1).f2)) = true := decide_eq_true c6
       clear c6
       obtain rfl := Option.some.inj H
       try go_wp2
       have n0_ := Aside0.mk (below_drew1 HB.out)
       clear HB
       have HB := n0_
       clear n0_
       have p138 : 0 ≤ (x3_1 : Int) := of_decide_eq_true (by first | (with_reducible assumption) | assumption)
       have q138 : x3_1 < (l0.length : Int) := of_decide_eq_true (by first | (with_reducible assumption) | assumption)
       obtain ⟨ad138, e138, hx138_0, hx138_1, hx138_2, hx138_3⟩ := at_T58 HR0.out x3_1 p138 q138
       have hw138_3 := hx138_3
       have hw138_2 := hx138_2
       have hw138_1 := hx138_1
       have hw138_0 := hx138_0
       cases e138
       replace hx138_0 := (HB.out.cell (World.block_lt_of_cell? w _ hx138_0)).trans hx138_0
       replace hx138_1 := (HB.out.cell (World.block_lt_of_cell? w _ hx138_1)).trans hx138_1
       replace hx138_2 := (HB.out.cell (World.block_lt_of_cell? w _ hx138_2)).trans hx138_2
       replace hx138_3 := (HB.out.cell (World.block_lt_of_cell? w _ hx138_3)).trans hx138_3
       replace p138 := eq_true p138
       replace q138 := eq_true q138
       have p139 : 0 ≤ (x3_1 : Int) := of_decide_eq_true (by first | (with_reducible assumption) | assumption)
       have q139 : x3_1 < (l0.length : Int) := of_decide_eq_true (by first | (with_reducible assumption) | assumption)
       obtain ⟨ad139, e139, hx139_0, hx139_1, hx139_2, hx139_3⟩ := at_T58 HR0.out x3_1 p139 q139
       have hw139_3 := hx139_3
       have hw139_2 := hx139_2
       have hw139_1 := hx139_1
       have hw139_0 := hx139_0
       obtain rfl : ad138 = ad139 := (by injection e139)
       replace hx139_0 := (HB.out.cell (World.block_lt_of_cell? w _ hx139_0)).trans hx139_0
       replace hx139_1 := (HB.out.cell (World.block_lt_of_cell? w _ hx139_1)).trans hx139_1
       replace hx139_2 := (HB.out.cell (World.block_lt_of_cell? w _ hx139_2)).trans hx139_2
       replace hx139_3 := (HB.out.cell (World.block_lt_of_cell? w _ hx139_3)).trans hx139_3
       replace p139 := eq_true p139
       replace q139 := eq_true q139
       refine start_ (n := 26) (S := fun w' => w'.cell? (ad138.add ((x3_1).toNat * 4)) = some (.int .i64 ((rd_T58 l0 x3_1).f0.f0)) ∧ w'.cell? ⟨(ad138.add ((x3_1).toNat * 4)).block, (ad138.add ((x3_1).toNat * 4)).off + 1, none⟩ = some (.int .i64 ((rd_T58 l0 x3_1).f0.f1)) ∧ w'.cell? ⟨(ad138.add ((x3_1).toNat * 4)).block, (ad138.add ((x3_1).toNat * 4)).off + 2, none⟩ = some (.int .u64 ((rd_T58 l0 x3_1).f1)) ∧ w'.cell? ⟨(ad138.add ((x3_1).toNat * 4)).block, (ad138.add ((x3_1).toNat * 4)).off + 3, none⟩ = some (.int .i64 ((rd_T58 l0 x3_1).f2)) ∧ w'.cell? (ad138.add ((x3_1).toNat * 4)) = some (.int .i64 ((rd_T58 l0 x3_1).f0.f0)) ∧ w'.cell? ⟨(ad138.add ((x3_1).toNat * 4)).block, (ad138.add ((x3_1).toNat * 4)).off + 1, none⟩ = some (.int .i64 ((rd_T58 l0 x3_1).f0.f1)) ∧ w'.cell? ⟨(ad138.add ((x3_1).toNat * 4)).block, (ad138.add ((x3_1).toNat * 4)).off + 2, none⟩ = some (.int .u64 ((rd_T58 l0 x3_1).f1)) ∧ w'.cell? ⟨(ad138.add ((x3_1).toNat * 4)).block, (ad138.add ((x3_1).toNat * 4)).off + 3, none⟩ = some (.int .i64 ((rd_T58 l0 x3_1).f2))) (ds := []) #[false, false, false, false, false, false, false, false, false, false, false, false, false, false, false, false, false, false, false, false, false, false, false, false, false, false] (by kernel_rfl) rfl rfl ⟨((HB.out.cell (World.block_lt_of_cell? w _ hw138_0)).trans hw138_0), ((HB.out.cell (World.block_lt_of_cell? w _ hw138_1)).trans hw138_1), ((HB.out.cell (World.block_lt_of_cell? w _ hw138_2)).trans hw138_2), ((HB.out.cell (World.block_lt_of_cell? w _ hw138_3)).trans hw138_3), ((HB.out.cell (World.block_lt_of_cell? w _ hw139_0)).trans hw139_0), ((HB.out.cell (World.block_lt_of_cell? w _ hw139_1)).trans hw139_1), ((HB.out.cell (World.block_lt_of_cell? w _ hw139_2)).trans hw139_2), ((HB.out.cell (World.block_lt_of_cell? w _ hw139_3)).trans hw139_3)⟩ (fun hHeld => ?_); refine with_tabW ensembleref05_Right.tab4 ensembleref05_Right.bits4 (fun HT_ HW_ => ?_)
       generalize wr.drew = w7 at HB hx138_0 hx138_1 hx138_2 hx138_3 hx139_0 hx139_1 hx139_2 hx139_3 hHeld ⊢
       refine pure_ (i := 0) (N := some 10) (v := ?_) (a' := ?_) #[true, false, false, false, false, false, false, false, false, false, false, false, false, false, false, false, false, false, false, false, false, false, false, false, false, false] rfl rfl (any_of HT_.out (by kernel_rfl)) (fun _ _ _ h => h) (Or.inl ⟨by rfl, ?_⟩) ?_ ?_
       rotate_left
       ·intro w'
        go_simp
        with_reducible rfl
       rotate_left
       ·simp only [Act.put, List.setIfInBounds_toArray, List.set_cons_zero, List.set_cons_succ, i64_w, i32_w]
        rfl
       refine pure_ (i := 1) (N := some 11) (v := ?_) (a' := ?_) #[true, true, false, false, false, false, false, false, false, false, false, false, false, false, false, false, false, false, false, false, false, false, false, false, false, false] rfl rfl (any_of HT_.out (by kernel_rfl)) (fun _ _ _ h => h) (Or.inl ⟨by rfl, ?_⟩) ?_ ?_
       rotate_left
       ·intro w'
        go_simp
        with_reducible rfl
       rotate_left
       ·simp only [Act.put, List.setIfInBounds_toArray, List.set_cons_zero, List.set_cons_succ, i64_w, i32_w]
        rfl
       refine pure_ (i := 2) (N := some 12) (v := ?_) (a' := ?_) #[true, true, true, false, false, false, false, false, false, false, false, false, false, false, false, false, false, false, false, false, false, false, false, false, false, false] rfl rfl (any_of HT_.out (by kernel_rfl)) (fun _ _ _ h => h) (Or.inl ⟨by rfl, ?_⟩) ?_ ?_
       rotate_left
       ·intro w'
        go_simp
        with_reducible rfl
       rotate_left
       ·simp only [Act.put, List.setIfInBounds_toArray, List.set_cons_zero, List.set_cons_succ, i64_w, i32_w]
        rfl
       refine pure_ (i := 3) (N := some 13) (v := ?_) (a' := ?_) #[true, true, true, true, false, false, false, false, false, false, false, false, false, false, false, false, false, false, false, false, false, false, false, false, false, false] rfl rfl (any_of HT_.out (by kernel_rfl)) (fun _ _ _ h => h) (Or.inl ⟨by rfl, ?_⟩) ?_ ?_
       rotate_left
       ·intro w'
        go_simp
        with_reducible rfl
       rotate_left
       ·simp only [Act.put, List.setIfInBounds_toArray, List.set_cons_zero, List.set_cons_succ, i64_w, i32_w]
        rfl
       refine take_ (i := 4) (N := some 14) (v := ?_) (a' := ?_) #[true, true, true, true, true, false, false, false, false, false, false, false, false, false, false, false, false, false, false, false, false, false, false, false, false, false] rfl rfl (take_ofW HT_.out HW_.out (by kernel_rfl)) (fun _ _ _ h => h) (Or.inl ⟨by rfl, ?_⟩) hHeld ?_ ?_
       rotate_left
       ·rintro w' ⟨s0, s1, s2, s3, s4, s5, s6, s7⟩
        go_simp
        with_reducible rfl
       rotate_left
       ·simp only [Act.put, List.setIfInBounds_toArray, List.set_cons_zero, List.set_cons_succ, i64_w, i32_w]
        rfl
       refine pure_ (i := 5) (N := some 15) (v := ?_) (a' := ?_) #[true, true, true, true, true, true, false, false, false, false, false, false, false, false, false, false, false, false, false, false, false, false, false, false, false, false] rfl rfl (any_of HT_.out (by kernel_rfl)) (fun _ _ _ h => h) (Or.inl ⟨by rfl, ?_⟩) ?_ ?_
       rotate_left
       ·intro w'
        go_simp
        with_reducible rfl
       rotate_left
       ·simp only [Act.put, List.setIfInBounds_toArray, List.set_cons_zero, List.set_cons_succ, i64_w, i32_w]
        rfl
       refine pure_ (i := 6) (N := some 16) (v := ?_) (a' := ?_) #[true, true, true, true, true, true, true, false, false, false, false, false, false, false, false, false, false, false, false, false, false, false, false, false, false, false] rfl rfl (any_of HT_.out (by kernel_rfl)) (fun _ _ _ h => h) (Or.inl ⟨by rfl, ?_⟩) ?_ ?_
       rotate_left
       ·intro w'
        go_simp
        with_reducible rfl
       rotate_left
       ·simp only [Act.put, List.setIfInBounds_toArray, List.set_cons_zero, List.set_cons_succ, i64_w, i32_w]
        rfl
       refine pure_ (i := 7) (N := some 17) (v := ?_) (a' := ?_) #[true, true, true, true, true, true, true, true, false, false, false, false, false, false, false, false, false, false, false, false, false, false, false, false, false, false] rfl rfl (any_of HT_.out (by kernel_rfl)) (fun _ _ _ h => h) (Or.inl ⟨by rfl, ?_⟩) ?_ ?_
       rotate_left
       ·intro w'
        go_simp
        with_reducible rfl
       rotate_left
       ·simp only [Act.put, List.setIfInBounds_toArray, List.set_cons_zero, List.set_cons_succ, i64_w, i32_w]
        rfl
       refine pure_ (i := 8) (N := some 18) (v := ?_) (a' := ?_) #[true, true, true, true, true, true, true, true, true, false, false, false, false, false, false, false, false, false, false, false, false, false, false, false, false, false] rfl rfl (any_of HT_.out (by kernel_rfl)) (fun _ _ _ h => h) (Or.inl ⟨by rfl, ?_⟩) ?_ ?_
       rotate_left
       ·intro w'
        go_simp
        with_reducible rfl
       rotate_left
       ·simp only [Act.put, List.setIfInBounds_toArray, List.set_cons_zero, List.set_cons_succ, i64_w, i32_w]
        rfl
       refine pure_ (i := 9) (N := some 19) (v := ?_) (a' := ?_) #[true, true, true, true, true, true, true, true, true, true, false, false, false, false, false, false, false, false, false, false, false, false, false, false, false, false] rfl rfl (any_of HT_.out (by kernel_rfl)) (fun _ _ _ h => h) (Or.inl ⟨by rfl, ?_⟩) ?_ ?_
       rotate_left
       ·intro w'
        go_simp
        with_reducible rfl
       rotate_left
       ·simp only [Act.put, List.setIfInBounds_toArray, List.set_cons_zero, List.set_cons_succ, i64_w, i32_w]
        rfl
       refine pure_ (i := 10) (N := some 20) (v := ?_) (a' := ?_) #[true, true, true, true, true, true, true, true, true, true, true, false, false, false, false, false, false, false, false, false, false, false, false, false, false, false] rfl rfl (any_of HT_.out (by kernel_rfl)) (fun _ _ _ h => h) (Or.inl ⟨by rfl, ?_⟩) ?_ ?_
       rotate_left
       ·intro w'
        go_simp
        with_reducible rfl
       rotate_left
       ·simp only [Act.put, List.setIfInBounds_toArray, List.set_cons_zero, List.set_cons_succ, i64_w, i32_w]
        rfl
       refine take_ (i := 11) (N := some 21) (v := ?_) (a' := ?_) #[true, true, true, true, true, true, true, true, true, true, true, true, false, false, false, false, false, false, false, false, false, false, false, false, false, false] rfl rfl (take_ofW HT_.out HW_.out (by kernel_rfl)) (fun _ _ _ h => h) (Or.inl ⟨by rfl, ?_⟩) hHeld ?_ ?_
       rotate_left
       ·rintro w' ⟨s0, s1, s2, s3, s4, s5, s6, s7⟩
        go_simp
        with_reducible rfl
       rotate_left
       ·simp only [Act.put, List.setIfInBounds_toArray, List.set_cons_zero, List.set_cons_succ, i64_w, i32_w]
        rfl
       refine pure_ (i := 12) (N := some 22) (v := ?_) (a' := ?_) #[true, true, true, true, true, true, true, true, true, true, true, true, true, false, false, false, false, false, false, false, false, false, false, false, false, false] rfl rfl (any_of HT_.out (by kernel_rfl)) (fun _ _ _ h => h) (Or.inl ⟨by rfl, ?_⟩) ?_ ?_
       rotate_left
       ·intro w'
        go_simp
        with_reducible rfl
       rotate_left
       ·simp only [Act.put, List.setIfInBounds_toArray, List.set_cons_zero, List.set_cons_succ, i64_w, i32_w]
        rfl
       refine pure_ (i := 13) (N := some 23) (v := ?_) (a' := ?_) #[true, true, true, true, true, true, true, true, true, true, true, true, true, true, false, false, false, false, false, false, false, false, false, false, false, false] rfl rfl (any_of HT_.out (by kernel_rfl)) (fun _ _ _ h => h) (Or.inl ⟨by rfl, ?_⟩) ?_ ?_
       rotate_left
       ·intro w'
        go_simp
        with_reducible rfl
       rotate_left
       ·simp only [Act.put, List.setIfInBounds_toArray, List.set_cons_zero, List.set_cons_succ, i64_w, i32_w]
        rfl
       refine pure_ (i := 14) (N := some 24) (v := ?_) (a' := ?_) #[true, true, true, true, true, true, true, true, true, true, true, true, true, true, true, false, false, false, false, false, false, false, false, false, false, false] rfl rfl (any_of HT_.out (by kernel_rfl)) (fun _ _ _ h => h) (Or.inl ⟨by rfl, ?_⟩) ?_ ?_
       rotate_left
       ·intro w'
        go_simp
        with_reducible rfl
       rotate_left
       ·simp only [Act.put, List.setIfInBounds_toArray, List.set_cons_zero, List.set_cons_succ, i64_w, i32_w]
        rfl
       refine pure_ (i := 15) (N := some 25) (v := undef) (a' := ?_) #[true, true, true, true, true, true, true, true, true, true, true, true, true, true, true, true, false, false, false, false, false, false, false, false, false, false] rfl rfl (any_of HT_.out (by kernel_rfl)) (fun _ _ _ h => h) (Or.inr ⟨by rfl, rfl⟩) ?_ ?_
       rotate_left
       ·simp only [Act.put, List.setIfInBounds_toArray, List.set_cons_zero, List.set_cons_succ, i64_w, i32_w]
        rfl
       refine pure_ (i := 16) (N := some 26) (v := undef) (a' := ?_) #[true, true, true, true, true, true, true, true, true, true, true, true, true, true, true, true, true, false, false, false, false, false, false, false, false, false] rfl rfl (any_of HT_.out (by kernel_rfl)) (fun _ _ _ h => h) (Or.inr ⟨by rfl, rfl⟩) ?_ ?_
       rotate_left
       ·simp only [Act.put, List.setIfInBounds_toArray, List.set_cons_zero, List.set_cons_succ, i64_w, i32_w]
        rfl
       refine pure_ (i := 17) (N := some 27) (v := undef) (a' := ?_) #[true, true, true, true, true, true, true, true, true, true, true, true, true, true, true, true, true, true, false, false, false, false, false, false, false, false] rfl rfl (any_of HT_.out (by kernel_rfl)) (fun _ _ _ h => h) (Or.inr ⟨by rfl, rfl⟩) ?_ ?_
       rotate_left
       ·simp only [Act.put, List.setIfInBounds_toArray, List.set_cons_zero, List.set_cons_succ, i64_w, i32_w]
        rfl
       refine pure_ (i := 18) (N := some 28) (v := undef) (a' := ?_) #[true, true, true, true, true, true, true, true, true, true, true, true, true, true, true, true, true, true, true, false, false, false, false, false, false, false] rfl rfl (any_of HT_.out (by kernel_rfl)) (fun _ _ _ h => h) (Or.inr ⟨by rfl, rfl⟩) ?_ ?_
       rotate_left
       ·simp only [Act.put, List.setIfInBounds_toArray, List.set_cons_zero, List.set_cons_succ, i64_w, i32_w]
        rfl
       refine pure_ (i := 19) (N := some 29) (v := undef) (a' := ?_) #[true, true, true, true, true, true, true, true, true, true, true, true, true, true, true, true, true, true, true, true, false, false, false, false, false, false] rfl rfl (any_of HT_.out (by kernel_rfl)) (fun _ _ _ h => h) (Or.inr ⟨by rfl, rfl⟩) ?_ ?_
       rotate_left
       ·simp only [Act.put, List.setIfInBounds_toArray, List.set_cons_zero, List.set_cons_succ, i64_w, i32_w]
        rfl
       refine pure_ (i := 20) (N := some 30) (v := undef) (a' := ?_) #[true, true, true, true, true, true, true, true, true, true, true, true, true, true, true, true, true, true, true, true, true, false, false, false, false, false] rfl rfl (any_of HT_.out (by kernel_rfl)) (fun _ _ _ h => h) (Or.inr ⟨by rfl, rfl⟩) ?_ ?_
       rotate_left
       ·simp only [Act.put, List.setIfInBounds_toArray, List.set_cons_zero, List.set_cons_succ, i64_w, i32_w]
        rfl
       refine pure_ (i := 21) (N := some 31) (v := undef) (a' := ?_) #[true, true, true, true, true, true, true, true, true, true, true, true, true, true, true, true, true, true, true, true, true, true, false, false, false, false] rfl rfl (any_of HT_.out (by kernel_rfl)) (fun _ _ _ h => h) (Or.inr ⟨by rfl, rfl⟩) ?_ ?_
       rotate_left
       ·simp only [Act.put, List.setIfInBounds_toArray, List.set_cons_zero, List.set_cons_succ, i64_w, i32_w]
        rfl
       refine pure_ (i := 22) (N := some 32) (v := undef) (a' := ?_) #[true, true, true, true, true, true, true, true, true, true, true, true, true, true, true, true, true, true, true, true, true, true, true, false, false, false] rfl rfl (any_of HT_.out (by kernel_rfl)) (fun _ _ _ h => h) (Or.inr ⟨by rfl, rfl⟩) ?_ ?_
       rotate_left
       ·simp only [Act.put, List.setIfInBounds_toArray, List.set_cons_zero, List.set_cons_succ, i64_w, i32_w]
        rfl
       refine pure_ (i := 23) (N := some 33) (v := undef) (a' := ?_) #[true, true, true, true, true, true, true, true, true, true, true, true, true, true, true, true, true, true, true, true, true, true, true, true, false, false] rfl rfl (any_of HT_.out (by kernel_rfl)) (fun _ _ _ h => h) (Or.inr ⟨by rfl, rfl⟩) ?_ ?_
       rotate_left
       ·simp only [Act.put, List.setIfInBounds_toArray, List.set_cons_zero, List.set_cons_succ, i64_w, i32_w]
        rfl
       refine pure_ (i := 24) (N := some 34) (v := undef) (a' := ?_) #[true, true, true, true, true, true, true, true, true, true, true, true, true, true, true, true, true, true, true, true, true, true, true, true, true, false] rfl rfl (any_of HT_.out (by kernel_rfl)) (fun _ _ _ h => h) (Or.inr ⟨by rfl, rfl⟩) ?_ ?_
       rotate_left
       ·simp only [Act.put, List.setIfInBounds_toArray, List.set_cons_zero, List.set_cons_succ, i64_w, i32_w]
        rfl
       refine pure_ (i := 25) (N := some 35) (v := ?_) (a' := ?_) #[true, true, true, true, true, true, true, true, true, true, true, true, true, true, true, true, true, true, true, true, true, true, true, true, true, true] rfl rfl (any_of HT_.out (by kernel_rfl)) (fun _ _ _ h => h) (Or.inl ⟨by rfl, ?_⟩) ?_ ?_
       rotate_left
       ·intro w'
        go_simp
        with_reducible rfl
       rotate_left
       ·simp only [Act.put, List.setIfInBounds_toArray, List.set_cons_zero, List.set_cons_succ, i64_w, i32_w]
        rfl
       refine done_ (done_of HT_.out (by kernel_rfl)) ?_
       try go_wp2
       go_ret
       exact ⟨by first | rfl | (simp [errW_none, errW_some] <;> rfl) | (simp [*, errW_none, errW_some] <;> rfl), by repeat (first | (with_reducible first | exact HB.out | apply below_alloc | apply pw_below_drewN | apply below_drew1) | exact HB.out)⟩
      ·rw [if_neg c6] at H
       have c6b0 : decide (1048576 < ((rd_T58 l0 x3_1).f2)) = false := decide_eq_false c6
       clear c6
       have c8b0 := eq_true (of_decide_eq_true (by first | (with_reducible assumption) | assumption) : 0 ≤ x3_1)
       by_cases c9 : x3_1 ≤ (l0.length : Int)
       ·rw [if_pos c9] at H
        have c9b0 := eq_true c9
        have c9b1 : decide (x3_1 ≤ (l0.length : Int)) = true := decide_eq_true c9
        clear c9
        obtain ⟨y140, hy140⟩ : ∃ y_ : List (S58), y_ = (l0.take (x3_1 : Int).toNat) := ⟨_, rfl⟩
        replace H : ((ensembleref05_find.f k1 y140 ((rd_T58 l0 x3_1).f0.f0) ((rd_T58 l0 x3_1).f0.f1)).bind fun t145 => (if t145 ≥ 0 then (some false) else (ensembleref05_Right.l0 k1 l0 (wrap64 (x3_1 + 1))))) = some r := by first | (rw [hy140]; with_reducible exact H) | (have H2_ := (Option.bind_some _ _).symm.trans H; rw [hy140]; with_reducible exact H2_) | (have H2_ := (Option.bind_some _ _).symm.trans H; with_reducible exact H2_) | with_reducible exact H | (rw [hy140]; exact H) | exact H
        have Ny140 := Aside0.mk hy140
        clear hy140
        replace H := Option.bind_eq_some_iff.mp H
        obtain ⟨t145, A100, H⟩ := H
        replace H : (if t145 ≥ 0 then (some false) else (ensembleref05_Right.l0 k1 l0 (wrap64 (x3_1 + 1)))) = some r := H
        have A10 := Aside0.mk A100
        clear A100
        by_cases c11 : t145 ≥ 0
        ·rw [if_pos c11] at H
         have c11b0 : decide (0 ≤ t145) = true := decide_eq_true c11
         clear c11
         obtain rfl := Option.some.inj H
         try go_wp2
         have n0_ := Aside0.mk (below_drew1 HB.out)
         clear HB
         have HB := n0_
         clear n0_
         have p138 : 0 ≤ (x3_1 : Int) := of_decide_eq_true (by first | (with_reducible assumption) | assumption)
         have q138 : x3_1 < (l0.length : Int) := of_decide_eq_true (by first | (with_reducible assumption) | assumption)
         obtain ⟨ad138, e138, hx138_0, hx138_1, hx138_2, hx138_3⟩ := at_T58 HR0.out x3_1 p138 q138
         have hw138_3 := hx138_3
         have hw138_2 := hx138_2
         have hw138_1 := hx138_1
         have hw138_0 := hx138_0
         cases e138
         replace hx138_0 := (HB.out.cell (World.block_lt_of_cell? w _ hx138_0)).trans hx138_0
         replace hx138_1 := (HB.out.cell (World.block_lt_of_cell? w _ hx138_1)).trans hx138_1
         replace hx138_2 := (HB.out.cell (World.block_lt_of_cell? w _ hx138_2)).trans hx138_2
         replace hx138_3 := (HB.out.cell (World.block_lt_of_cell? w _ hx138_3)).trans hx138_3
         replace p138 := eq_true p138
         replace q138 := eq_true q138
         have p139 : 0 ≤ (x3_1 : Int) := of_decide_eq_true (by first | (with_reducible assumption) | assumption)
         have q139 : x3_1 < (l0.length : Int) := of_decide_eq_true (by first | (with_reducible assumption) | assumption)
         obtain ⟨ad139, e139, hx139_0, hx139_1, hx139_2, hx139_3⟩ := at_T58 HR0.out x3_1 p139 q139
         have hw139_3 := hx139_3
         have hw139_2 := hx139_2
         have hw139_1 := hx139_1
         have hw139_0 := hx139_0
         obtain rfl : ad138 = ad139 := (by injection e139)
         replace hx139_0 := (HB.out.cell (World.block_lt_of_cell? w _ hx139_0)).trans hx139_0
         replace hx139_1 := (HB.out.cell (World.block_lt_of_cell? w _ hx139_1)).trans hx139_1
         replace hx139_2 := (HB.out.cell (World.block_lt_of_cell? w _ hx139_2)).trans hx139_2
         replace hx139_3 := (HB.out.cell (World.block_lt_of_cell? w _ hx139_3)).trans hx139_3
         replace p139 := eq_true p139
         replace q139 := eq_true q139
         have q13 : (x3_1 : Int) ≤ ((l0.length : Int) : Int) := of_decide_eq_true (by first | (with_reducible assumption) | assumption)
         obtain ⟨i013, hi013, _, hsz13, _⟩ := info_parts info58
         have hroom13 : l0.length ≤ c0 := HC0.out
         have hC13 : Kd.C k58 _ (some ad138) l0.length l0 := HR0.out
         have hcut13 := cut_to (P := Try.prog) 32 58 .i64 Try.underlying32 hi013 (some ad138) l0.length c0 x3_1 (of_decide_eq_true (by first | (with_reducible assumption) | assumption)) q13 hroom13
         have hr13 := Kd.C_take (m := (x3_1 : Int).toNat) hC13 (by omega)
         have hy13 : y140.length = (x3_1 : Int).toNat := (by rw [Ny140.out, List.length_take]; omega)
         rw [← Ny140.out] at hr13
         rw [← hy13] at hcut13
         have HR143 := Aside0.mk hr13
         have HC143 := Aside0.mk (show y140.length ≤ c0 from by omega)
         clear hr13 hC13 hroom13 hi013 hsz13
         have KY13 := Aside0.mk hy13
         clear hy13
         replace q13 := eq_true q13
         have p144 : 0 ≤ (x3_1 : Int) := of_decide_eq_true (by first | (with_reducible assumption) | assumption)
         have q144 : x3_1 < (l0.length : Int) := of_decide_eq_true (by first | (with_reducible assumption) | assumption)
         obtain ⟨ad144, e144, hx144_0, hx144_1, hx144_2, hx144_3⟩ := at_T58 HR0.out x3_1 p144 q144
         have hw144_3 := hx144_3
         have hw144_2 := hx144_2
         have hw144_1 := hx144_1
         have hw144_0 := hx144_0
         obtain rfl : ad138 = ad144 := (by injection e144)
         replace hx144_0 := (HB.out.cell (World.block_lt_of_cell? w _ hx144_0)).trans hx144_0
         replace hx144_1 := (HB.out.cell (World.block_lt_of_cell? w _ hx144_1)).trans hx144_1
         replace hx144_2 := (HB.out.cell (World.block_lt_of_cell? w _ hx144_2)).trans hx144_2
         replace hx144_3 := (HB.out.cell (World.block_lt_of_cell? w _ hx144_3)).trans hx144_3
         replace p144 := eq_true p144
         replace q144 := eq_true q144
         refine start_ (n := 26) (S := fun w' => w'.cell? (ad138.add ((x3_1).toNat * 4)) = some (.int .i64 ((rd_T58 l0 x3_1).f0.f0)) ∧ w'.cell? ⟨(ad138.add ((x3_1).toNat * 4)).block, (ad138.add ((x3_1).toNat * 4)).off + 1, none⟩ = some (.int .i64 ((rd_T58 l0 x3_1).f0.f1)) ∧ w'.cell? ⟨(ad138.add ((x3_1).toNat * 4)).block, (ad138.add ((x3_1).toNat * 4)).off + 2, none⟩ = some (.int .u64 ((rd_T58 l0 x3_1).f1)) ∧ w'.cell? ⟨(ad138.add ((x3_1).toNat * 4)).block, (ad138.add ((x3_1).toNat * 4)).off + 3, none⟩ = some (.int .i64 ((rd_T58 l0 x3_1).f2)) ∧ w'.cell? (ad138.add ((x3_1).toNat * 4)) = some (.int .i64 ((rd_T58 l0 x3_1).f0.f0)) ∧ w'.cell? ⟨(ad138.add ((x3_1).toNat * 4)).block, (ad138.add ((x3_1).toNat * 4)).off + 1, none⟩ = some (.int .i64 ((rd_T58 l0 x3_1).f0.f1)) ∧ w'.cell? ⟨(ad138.add ((x3_1).toNat * 4)).block, (ad138.add ((x3_1).toNat * 4)).off + 2, none⟩ = some (.int .u64 ((rd_T58 l0 x3_1).f1)) ∧ w'.cell? ⟨(ad138.add ((x3_1).toNat * 4)).block, (ad138.add ((x3_1).toNat * 4)).off + 3, none⟩ = some (.int .i64 ((rd_T58 l0 x3_1).f2)) ∧ w'.cell? (ad138.add ((x3_1).toNat * 4)) = some (.int .i64 ((rd_T58 l0 x3_1).f0.f0)) ∧ w'.cell? ⟨(ad138.add ((x3_1).toNat * 4)).block, (ad138.add ((x3_1).toNat * 4)).off + 1, none⟩ = some (.int .i64 ((rd_T58 l0 x3_1).f0.f1)) ∧ w'.cell? ⟨(ad138.add ((x3_1).toNat * 4)).block, (ad138.add ((x3_1).toNat * 4)).off + 2, none⟩ = some (.int .u64 ((rd_T58 l0 x3_1).f1)) ∧ w'.cell? ⟨(ad138.add ((x3_1).toNat * 4)).block, (ad138.add ((x3_1).toNat * 4)).off + 3, none⟩ = some (.int .i64 ((rd_T58 l0 x3_1).f2))) (ds := []) #[false, false, false, false, false, false, false, false, false, false, false, false, false, false, false, false, false, false, false, false, false, false, false, false, false, false] (by kernel_rfl) rfl rfl ⟨((HB.out.cell (World.block_lt_of_cell? w _ hw138_0)).trans hw138_0), ((HB.out.cell (World.block_lt_of_cell? w _ hw138_1)).trans hw138_1), ((HB.out.cell (World.block_lt_of_cell? w _ hw138_2)).trans hw138_2), ((HB.out.cell (World.block_lt_of_cell? w _ hw138_3)).trans hw138_3), ((HB.out.cell (World.block_lt_of_cell? w _ hw139_0)).trans hw139_0), ((HB.out.cell (World.block_lt_of_cell? w _ hw139_1)).trans hw139_1), ((HB.out.cell (World.block_lt_of_cell? w _ hw139_2)).trans hw139_2), ((HB.out.cell (World.block_lt_of_cell? w _ hw139_3)).trans hw139_3), ((HB.out.cell (World.block_lt_of_cell? w _ hw144_0)).trans hw144_0), ((HB.out.cell (World.block_lt_of_cell? w _ hw144_1)).trans hw144_1), ((HB.out.cell (World.block_lt_of_cell? w _ hw144_2)).trans hw144_2), ((HB.out.cell (World.block_lt_of_cell? w _ hw144_3)).trans hw144_3)⟩ (fun hHeld => ?_); refine with_tabW ensembleref05_Right.tab4 ensembleref05_Right.bits4 (fun HT_ HW_ => ?_)
         generalize wr.drew = w12 at HB HR143 hx138_0 hx138_1 hx138_2 hx138_3 hx139_0 hx139_1 hx139_2 hx139_3 hx144_0 hx144_1 hx144_2 hx144_3 hHeld ⊢
         refine pure_ (i := 0) (N := some 10) (v := ?_) (a' := ?_) #[true, false, false, false, false, false, false, false, false, false, false, false, false, false, false, false, false, false, false, false, false, false, false, false, false, false] rfl rfl (any_of HT_.out (by kernel_rfl)) (fun _ _ _ h => h) (Or.inl ⟨by rfl, ?_⟩) ?_ ?_
         rotate_left
         ·intro w'
          go_simp
          with_reducible rfl
         rotate_left
         ·simp only [Act.put, List.setIfInBounds_toArray, List.set_cons_zero, List.set_cons_succ, i64_w, i32_w]
          rfl
         refine pure_ (i := 1) (N := some 11) (v := ?_) (a' := ?_) #[true, true, false, false, false, false, false, false, false, false, false, false, false, false, false, false, false, false, false, false, false, false, false, false, false, false] rfl rfl (any_of HT_.out (by kernel_rfl)) (fun _ _ _ h => h) (Or.inl ⟨by rfl, ?_⟩) ?_ ?_
         rotate_left
         ·intro w'
          go_simp
          with_reducible rfl
         rotate_left
         ·simp only [Act.put, List.setIfInBounds_toArray, List.set_cons_zero, List.set_cons_succ, i64_w, i32_w]
          rfl
         refine pure_ (i := 2) (N := some 12) (v := ?_) (a' := ?_) #[true, true, true, false, false, false, false, false, false, false, false, false, false, false, false, false, false, false, false, false, false, false, false, false, false, false] rfl rfl (any_of HT_.out (by kernel_rfl)) (fun _ _ _ h => h) (Or.inl ⟨by rfl, ?_⟩) ?_ ?_
         rotate_left
         ·intro w'
          go_simp
          with_reducible rfl
         rotate_left
         ·simp only [Act.put, List.setIfInBounds_toArray, List.set_cons_zero, List.set_cons_succ, i64_w, i32_w]
          rfl
         refine pure_ (i := 3) (N := some 13) (v := ?_) (a' := ?_) #[true, true, true, true, false, false, false, false, false, false, false, false, false, false, false, false, false, false, false, false, false, false, false, false, false, false] rfl rfl (any_of HT_.out (by kernel_rfl)) (fun _ _ _ h => h) (Or.inl ⟨by rfl, ?_⟩) ?_ ?_
         rotate_left
         ·intro w'
          go_simp
          with_reducible rfl
         rotate_left
         ·simp only [Act.put, List.setIfInBounds_toArray, List.set_cons_zero, List.set_cons_succ, i64_w, i32_w]
          rfl
         refine take_ (i := 4) (N := some 14) (v := ?_) (a' := ?_) #[true, true, true, true, true, false, false, false, false, false, false, false, false, false, false, false, false, false, false, false, false, false, false, false, false, false] rfl rfl (take_ofW HT_.out HW_.out (by kernel_rfl)) (fun _ _ _ h => h) (Or.inl ⟨by rfl, ?_⟩) hHeld ?_ ?_
         rotate_left
         ·rintro w' ⟨s0, s1, s2, s3, s4, s5, s6, s7, s8, s9, s10, s11⟩
          go_simp
          with_reducible rfl
         rotate_left
         ·simp only [Act.put, List.setIfInBounds_toArray, List.set_cons_zero, List.set_cons_succ, i64_w, i32_w]
          rfl
         refine pure_ (i := 5) (N := some 15) (v := ?_) (a' := ?_) #[true, true, true, true, true, true, false, false, false, false, false, false, false, false, false, false, false, false, false, false, false, false, false, false, false, false] rfl rfl (any_of HT_.out (by kernel_rfl)) (fun _ _ _ h => h) (Or.inl ⟨by rfl, ?_⟩) ?_ ?_
         rotate_left
         ·intro w'
          go_simp
          with_reducible rfl
         rotate_left
         ·simp only [Act.put, List.setIfInBounds_toArray, List.set_cons_zero, List.set_cons_succ, i64_w, i32_w]
          rfl
         refine pure_ (i := 6) (N := some 16) (v := ?_) (a' := ?_) #[true, true, true, true, true, true, true, false, false, false, false, false, false, false, false, false, false, false, false, false, false, false, false, false, false, false] rfl rfl (any_of HT_.out (by kernel_rfl)) (fun _ _ _ h => h) (Or.inl ⟨by rfl, ?_⟩) ?_ ?_
         rotate_left
         ·intro w'
          go_simp
          with_reducible rfl
         rotate_left
         ·simp only [Act.put, List.setIfInBounds_toArray, List.set_cons_zero, List.set_cons_succ, i64_w, i32_w]
          rfl
         refine pure_ (i := 7) (N := some 17) (v := ?_) (a' := ?_) #[true, true, true, true, true, true, true, true, false, false, false, false, false, false, false, false, false, false, false, false, false, false, false, false, false, false] rfl rfl (any_of HT_.out (by kernel_rfl)) (fun _ _ _ h => h) (Or.inl ⟨by rfl, ?_⟩) ?_ ?_
         rotate_left
         ·intro w'
          go_simp
          with_reducible rfl
         rotate_left
         ·simp only [Act.put, List.setIfInBounds_toArray, List.set_cons_zero, List.set_cons_succ, i64_w, i32_w]
          rfl
         refine pure_ (i := 8) (N := some 18) (v := ?_) (a' := ?_) #[true, true, true, true, true, true, true, true, true, false, false, false, false, false, false, false, false, false, false, false, false, false, false, false, false, false] rfl rfl (any_of HT_.out (by kernel_rfl)) (fun _ _ _ h => h) (Or.inl ⟨by rfl, ?_⟩) ?_ ?_
         rotate_left
         ·intro w'
          go_simp
          with_reducible rfl
         rotate_left
         ·simp only [Act.put, List.setIfInBounds_toArray, List.set_cons_zero, List.set_cons_succ, i64_w, i32_w]
          rfl
         refine pure_ (i := 9) (N := some 19) (v := ?_) (a' := ?_) #[true, true, true, true, true, true, true, true, true, true, false, false, false, false, false, false, false, false, false, false, false, false, false, false, false, false] rfl rfl (any_of HT_.out (by kernel_rfl)) (fun _ _ _ h => h) (Or.inl ⟨by rfl, ?_⟩) ?_ ?_
         rotate_left
         ·intro w'
          go_simp
          with_reducible rfl
         rotate_left
         ·simp only [Act.put, List.setIfInBounds_toArray, List.set_cons_zero, List.set_cons_succ, i64_w, i32_w]
          rfl
         refine pure_ (i := 10) (N := some 20) (v := ?_) (a' := ?_) #[true, true, true, true, true, true, true, true, true, true, true, false, false, false, false, false, false, false, false, false, false, false, false, false, false, false] rfl rfl (any_of HT_.out (by kernel_rfl)) (fun _ _ _ h => h) (Or.inl ⟨by rfl, ?_⟩) ?_ ?_
         rotate_left
         ·intro w'
          go_simp
          with_reducible rfl
         rotate_left
         ·simp only [Act.put, List.setIfInBounds_toArray, List.set_cons_zero, List.set_cons_succ, i64_w, i32_w]
          rfl
         refine take_ (i := 11) (N := some 21) (v := ?_) (a' := ?_) #[true, true, true, true, true, true, true, true, true, true, true, true, false, false, false, false, false, false, false, false, false, false, false, false, false, false] rfl rfl (take_ofW HT_.out HW_.out (by kernel_rfl)) (fun _ _ _ h => h) (Or.inl ⟨by rfl, ?_⟩) hHeld ?_ ?_
         rotate_left
         ·rintro w' ⟨s0, s1, s2, s3, s4, s5, s6, s7, s8, s9, s10, s11⟩
          go_simp
          with_reducible rfl
         rotate_left
         ·simp only [Act.put, List.setIfInBounds_toArray, List.set_cons_zero, List.set_cons_succ, i64_w, i32_w]
          rfl
         refine pure_ (i := 12) (N := some 22) (v := ?_) (a' := ?_) #[true, true, true, true, true, true, true, true, true, true, true, true, true, false, false, false, false, false, false, false, false, false, false, false, false, false] rfl rfl (any_of HT_.out (by kernel_rfl)) (fun _ _ _ h => h) (Or.inl ⟨by rfl, ?_⟩) ?_ ?_
         rotate_left
         ·intro w'
          go_simp
          with_reducible rfl
         rotate_left
         ·simp only [Act.put, List.setIfInBounds_toArray, List.set_cons_zero, List.set_cons_succ, i64_w, i32_w]
          rfl
         refine pure_ (i := 13) (N := some 23) (v := ?_) (a' := ?_) #[true, true, true, true, true, true, true, true, true, true, true, true, true, true, false, false, false, false, false, false, false, false, false, false, false, false] rfl rfl (any_of HT_.out (by kernel_rfl)) (fun _ _ _ h => h) (Or.inl ⟨by rfl, ?_⟩) ?_ ?_
         rotate_left
         ·intro w'
          go_simp
          with_reducible rfl
         rotate_left
         ·simp only [Act.put, List.setIfInBounds_toArray, List.set_cons_zero, List.set_cons_succ, i64_w, i32_w]
          rfl
         refine pure_ (i := 14) (N := some 24) (v := ?_) (a' := ?_) #[true, true, true, true, true, true, true, true, true, true, true, true, true, true, true, false, false, false, false, false, false, false, false, false, false, false] rfl rfl (any_of HT_.out (by kernel_rfl)) (fun _ _ _ h => h) (Or.inl ⟨by rfl, ?_⟩) ?_ ?_
         rotate_left
         ·intro w'
          go_simp
          with_reducible rfl
         rotate_left
         ·simp only [Act.put, List.setIfInBounds_toArray, List.set_cons_zero, List.set_cons_succ, i64_w, i32_w]
          rfl
         refine pure_ (i := 15) (N := some 25) (v := ?_) (a' := ?_) #[true, true, true, true, true, true, true, true, true, true, true, true, true, true, true, true, false, false, false, false, false, false, false, false, false, false] rfl rfl (any_of HT_.out (by kernel_rfl)) (fun _ _ _ h => h) (Or.inl ⟨by rfl, ?_⟩) ?_ ?_
         rotate_left
         ·intro w'
          go_simp
          with_reducible rfl
         rotate_left
         ·simp only [Act.put, List.setIfInBounds_toArray, List.set_cons_zero, List.set_cons_succ, i64_w, i32_w]
          rfl
         refine pure_ (i := 16) (N := some 26) (v := ?_) (a' := ?_) #[true, true, true, true, true, true, true, true, true, true, true, true, true, true, true, true, true, false, false, false, false, false, false, false, false, false] rfl rfl (any_of HT_.out (by kernel_rfl)) (fun _ _ _ h => h) (Or.inl ⟨by rfl, ?_⟩) ?_ ?_
         rotate_left
         ·intro w'
          go_simp
          with_reducible rfl
         rotate_left
         ·simp only [Act.put, List.setIfInBounds_toArray, List.set_cons_zero, List.set_cons_succ, i64_w, i32_w]
          rfl
         refine pure_ (i := 17) (N := some 27) (v := ?_) (a' := ?_) #[true, true, true, true, true, true, true, true, true, true, true, true, true, true, true, true, true, true, false, false, false, false, false, false, false, false] rfl rfl (any_of HT_.out (by kernel_rfl)) (fun _ _ _ h => h) (Or.inl ⟨by rfl, ?_⟩) ?_ ?_
         rotate_left
         ·intro w'
          go_simp
          with_reducible rfl
         rotate_left
         ·simp only [Act.put, List.setIfInBounds_toArray, List.set_cons_zero, List.set_cons_succ, i64_w, i32_w]
          rfl
         refine pure_ (i := 18) (N := some 28) (v := ?_) (a' := ?_) #[true, true, true, true, true, true, true, true, true, true, true, true, true, true, true, true, true, true, true, false, false, false, false, false, false, false] rfl rfl (any_of HT_.out (by kernel_rfl)) (fun _ _ _ h => h) (Or.inl ⟨by rfl, ?_⟩) ?_ ?_
         rotate_left
         ·intro w'
          go_simp
          with_reducible rfl
         rotate_left
         ·simp only [Act.put, List.setIfInBounds_toArray, List.set_cons_zero, List.set_cons_succ, i64_w, i32_w]
          rfl
         refine pure_ (i := 19) (N := some 29) (v := ?_) (a' := ?_) #[true, true, true, true, true, true, true, true, true, true, true, true, true, true, true, true, true, true, true, true, false, false, false, false, false, false] rfl rfl (any_of HT_.out (by kernel_rfl)) (fun _ _ _ h => h) (Or.inl ⟨by rfl, ?_⟩) ?_ ?_
         rotate_left
         ·intro w'
          go_simp
          with_reducible rfl
         rotate_left
         ·simp only [Act.put, List.setIfInBounds_toArray, List.set_cons_zero, List.set_cons_succ, i64_w, i32_w]
          rfl
         refine pure_ (i := 20) (N := some 30) (v := ?_) (a' := ?_) #[true, true, true, true, true, true, true, true, true, true, true, true, true, true, true, true, true, true, true, true, true, false, false, false, false, false] rfl rfl (any_of HT_.out (by kernel_rfl)) (fun _ _ _ h => h) (Or.inl ⟨by rfl, ?_⟩) ?_ ?_
         rotate_left
         ·intro w'
          go_simp
          with_reducible rfl
         rotate_left
         ·simp only [Act.put, List.setIfInBounds_toArray, List.set_cons_zero, List.set_cons_succ, i64_w, i32_w]
          rfl
         refine pure_ (i := 21) (N := some 31) (v := ?_) (a' := ?_) #[true, true, true, true, true, true, true, true, true, true, true, true, true, true, true, true, true, true, true, true, true, true, false, false, false, false] rfl rfl (any_of HT_.out (by kernel_rfl)) (fun _ _ _ h => h) (Or.inl ⟨by rfl, ?_⟩) ?_ ?_
         rotate_left
         ·intro w'
          go_simp
          with_reducible rfl
         rotate_left
         ·simp only [Act.put, List.setIfInBounds_toArray, List.set_cons_zero, List.set_cons_succ, i64_w, i32_w]
          rfl
         refine take_ (i := 22) (N := some 32) (v := ?_) (a' := ?_) #[true, true, true, true, true, true, true, true, true, true, true, true, true, true, true, true, true, true, true, true, true, true, true, false, false, false] rfl rfl (take_ofW HT_.out HW_.out (by kernel_rfl)) (fun _ _ _ h => h) (Or.inl ⟨by rfl, ?_⟩) hHeld ?_ ?_
         rotate_left
         ·rintro w' ⟨s0, s1, s2, s3, s4, s5, s6, s7, s8, s9, s10, s11⟩
          go_simp
          with_reducible rfl
         rotate_left
         ·simp only [Act.put, List.setIfInBounds_toArray, List.set_cons_zero, List.set_cons_succ, i64_w, i32_w]
          rfl
         refine one_ (i := 23) (N := some 33) #[true, true, true, true, true, true, true, true, true, true, true, true, true, true, true, true, true, true, true, true, true, true, true, true, false, false] rfl rfl (one_of HT_.out (by kernel_rfl)) (by decide) (fun K hK => ?_)
         refine goes_ Try.func31 (by kernel_rfl) rfl #[.slice (some ad138) y140.length c0, .agg #[.int .i64 ((rd_T58 l0 x3_1).f0.f0), .int .i64 ((rd_T58 l0 x3_1).f0.f1)]] (by rfl) rfl rfl (by (try simp only [List.map_toArray, List.map_cons, List.map_nil]); first | done | rfl | (simp only [List.length_drop, List.length_take]; rfl)) ?_
         with_reducible refine (ensembleref05_find.calls k1 _ _ y140 ((rd_T58 l0 x3_1).f0.f0) ((rd_T58 l0 x3_1).f0.f1) t145 _ ?side1 ?side2 A10.out).mono ?_
         (case side1 => repeat (first | exact (Kd.C_below HR143.out HB.out) | (with_reducible refine Kd.C_alloc ?_ _) | (with_reducible refine Kd.C_drewN ?_ _) | (with_reducible refine Kd.C_drew ?_)))
         (case side2 => exact HC143.out)
         rintro e w14 ⟨rfl, hb⟩
         refine ⟨_, rfl, ?_⟩
         have n0_ := Aside0.mk (below_step (by repeat (first | (with_reducible first | exact HB.out | apply below_alloc | apply pw_below_drewN | apply below_drew1) | exact HB.out)) hb)
         clear HB
         have HB := n0_
         clear n0_
         (try clear hb)
         (try clear hb2)
         (try clear hk)
         (try clear hi)
         refine hK.out _ _ ⟨((HB.out.cell (World.block_lt_of_cell? w _ hw138_0)).trans hw138_0), ((HB.out.cell (World.block_lt_of_cell? w _ hw138_1)).trans hw138_1), ((HB.out.cell (World.block_lt_of_cell? w _ hw138_2)).trans hw138_2), ((HB.out.cell (World.block_lt_of_cell? w _ hw138_3)).trans hw138_3), ((HB.out.cell (World.block_lt_of_cell? w _ hw139_0)).trans hw139_0), ((HB.out.cell (World.block_lt_of_cell? w _ hw139_1)).trans hw139_1), ((HB.out.cell (World.block_lt_of_cell? w _ hw139_2)).trans hw139_2), ((HB.out.cell (World.block_lt_of_cell? w _ hw139_3)).trans hw139_3), ((HB.out.cell (World.block_lt_of_cell? w _ hw144_0)).trans hw144_0), ((HB.out.cell (World.block_lt_of_cell? w _ hw144_1)).trans hw144_1), ((HB.out.cell (World.block_lt_of_cell? w _ hw144_2)).trans hw144_2), ((HB.out.cell (World.block_lt_of_cell? w _ hw144_3)).trans hw144_3)⟩ (fun hHeld => ?_)
         clear hK K
         refine norm_ (a' := ?_) ?_ ?_
         rotate_left
         ·show Act.put _ (some 33) _ = _
          simp only [Act.put, List.setIfInBounds_toArray, List.set_cons_zero, List.set_cons_succ, i64_w, i32_w]
          rfl
         refine pure_ (i := 24) (N := some 34) (v := ?_) (a' := ?_) #[true, true, true, true, true, true, true, true, true, true, true, true, true, true, true, true, true, true, true, true, true, true, true, true, true, false] rfl rfl (any_of HT_.out (by kernel_rfl)) (fun _ _ _ h => h) (Or.inl ⟨by rfl, ?_⟩) ?_ ?_
         rotate_left
         ·intro w'
          go_simp
          with_reducible rfl
         rotate_left
         ·simp only [Act.put, List.setIfInBounds_toArray, List.set_cons_zero, List.set_cons_succ, i64_w, i32_w]
          rfl
         refine pure_ (i := 25) (N := some 35) (v := ?_) (a' := ?_) #[true, true, true, true, true, true, true, true, true, true, true, true, true, true, true, true, true, true, true, true, true, true, true, true, true, true] rfl rfl (any_of HT_.out (by kernel_rfl)) (fun _ _ _ h => h) (Or.inl ⟨by rfl, ?_⟩) ?_ ?_
         rotate_left
         ·intro w'
          go_simp
          with_reducible rfl
         rotate_left
         ·simp only [Act.put, List.setIfInBounds_toArray, List.set_cons_zero, List.set_cons_succ, i64_w, i32_w]
          rfl
         refine done_ (done_of HT_.out (by kernel_rfl)) ?_
         try go_wp2
         go_ret
         exact ⟨by first | rfl | (simp [errW_none, errW_some] <;> rfl) | (simp [*, errW_none, errW_some] <;> rfl), by repeat (first | (with_reducible first | exact HB.out | apply below_alloc | apply pw_below_drewN | apply below_drew1) | exact HB.out)⟩
        ·rw [if_neg c11] at H
         have c11b0 : decide (0 ≤ t145) = false := decide_eq_false c11
         clear c11
         have H' := Aside0.mk H
         clear H
         try go_wp2
         have n0_ := Aside0.mk (below_drew1 HB.out)
         clear HB
         have HB := n0_
         clear n0_
         have p138 : 0 ≤ (x3_1 : Int) := of_decide_eq_true (by first | (with_reducible assumption) | assumption)
         have q138 : x3_1 < (l0.length : Int) := of_decide_eq_true (by first | (with_reducible assumption) | assumption)
         obtain ⟨ad138, e138, hx138_0, hx138_1, hx138_2, hx138_3⟩ := at_T58 HR0.out x3_1 p138 q138
         have hw138_3 := hx138_3
         have hw138_2 := hx138_2
         have hw138_1 := hx138_1
         have hw138_0 := hx138_0
         cases e138
         replace hx138_0 := (HB.out.cell (World.block_lt_of_cell? w _ hx138_0)).trans hx138_0
         replace hx138_1 := (HB.out.cell (World.block_lt_of_cell? w _ hx138_1)).trans hx138_1
         replace hx138_2 := (HB.out.cell (World.block_lt_of_cell? w _ hx138_2)).trans hx138_2
         replace hx138_3 := (HB.out.cell (World.block_lt_of_cell? w _ hx138_3)).trans hx138_3
         replace p138 := eq_true p138
         replace q138 := eq_true q138
         have p139 : 0 ≤ (x3_1 : Int) := of_decide_eq_true (by first | (with_reducible assumption) | assumption)
         have q139 : x3_1 < (l0.length : Int) := of_decide_eq_true (by first | (with_reducible assumption) | assumption)
         obtain ⟨ad139, e139, hx139_0, hx139_1, hx139_2, hx139_3⟩ := at_T58 HR0.out x3_1 p139 q139
         have hw139_3 := hx139_3
         have hw139_2 := hx139_2
         have hw139_1 := hx139_1
         have hw139_0 := hx139_0
         obtain rfl : ad138 = ad139 := (by injection e139)
         replace hx139_0 := (HB.out.cell (World.block_lt_of_cell? w _ hx139_0)).trans hx139_0
         replace hx139_1 := (HB.out.cell (World.block_lt_of_cell? w _ hx139_1)).trans hx139_1
         replace hx139_2 := (HB.out.cell (World.block_lt_of_cell? w _ hx139_2)).trans hx139_2
         replace hx139_3 := (HB.out.cell (World.block_lt_of_cell? w _ hx139_3)).trans hx139_3
         replace p139 := eq_true p139
         replace q139 := eq_true q139
         have q16 : (x3_1 : Int) ≤ ((l0.length : Int) : Int) := of_decide_eq_true (by first | (with_reducible assumption) | assumption)
         obtain ⟨i016, hi016, _, hsz16, _⟩ := info_parts info58
         have hroom16 : l0.length ≤ c0 := HC0.out
         have hC16 : Kd.C k58 _ (some ad138) l0.length l0 := HR0.out
         have hcut16 := cut_to (P := Try.prog) 32 58 .i64 Try.underlying32 hi016 (some ad138) l0.length c0 x3_1 (of_decide_eq_true (by first | (with_reducible assumption) | assumption)) q16 hroom16
         have hr16 := Kd.C_take (m := (x3_1 : Int).toNat) hC16 (by omega)
         have hy16 : y140.length = (x3_1 : Int).toNat := (by rw [Ny140.out, List.length_take]; omega)
         rw [← Ny140.out] at hr16
         rw [← hy16] at hcut16
         have HR143 := Aside0.mk hr16
         have HC143 := Aside0.mk (show y140.length ≤ c0 from by omega)
         clear hr16 hC16 hroom16 hi016 hsz16
         have KY16 := Aside0.mk hy16
         clear hy16
         replace q16 := eq_true q16
         have p144 : 0 ≤ (x3_1 : Int) := of_decide_eq_true (by first | (with_reducible assumption) | assumption)
         have q144 : x3_1 < (l0.length : Int) := of_decide_eq_true (by first | (with_reducible assumption) | assumption)
         obtain ⟨ad144, e144, hx144_0, hx144_1, hx144_2, hx144_3⟩ := at_T58 HR0.out x3_1 p144 q144
         have hw144_3 := hx144_3
         have hw144_2 := hx144_2
         have hw144_1 := hx144_1
         have hw144_0 := hx144_0
         obtain rfl : ad138 = ad144 := (by injection e144)
         replace hx144_0 := (HB.out.cell (World.block_lt_of_cell? w _ hx144_0)).trans hx144_0
         replace hx144_1 := (HB.out.cell (World.block_lt_of_cell? w _ hx144_1)).trans hx144_1
         replace hx144_2 := (HB.out.cell (World.block_lt_of_cell? w _ hx144_2)).trans hx144_2
         replace hx144_3 := (HB.out.cell (World.block_lt_of_cell? w _ hx144_3)).trans hx144_3
         replace p144 := eq_true p144
         replace q144 := eq_true q144
         refine start_ (n := 26) (S := fun w' => w'.cell? (ad138.add ((x3_1).toNat * 4)) = some (.int .i64 ((rd_T58 l0 x3_1).f0.f0)) ∧ w'.cell? ⟨(ad138.add ((x3_1).toNat * 4)).block, (ad138.add ((x3_1).toNat * 4)).off + 1, none⟩ = some (.int .i64 ((rd_T58 l0 x3_1).f0.f1)) ∧ w'.cell? ⟨(ad138.add ((x3_1).toNat * 4)).block, (ad138.add ((x3_1).toNat * 4)).off + 2, none⟩ = some (.int .u64 ((rd_T58 l0 x3_1).f1)) ∧ w'.cell? ⟨(ad138.add ((x3_1).toNat * 4)).block, (ad138.add ((x3_1).toNat * 4)).off + 3, none⟩ = some (.int .i64 ((rd_T58 l0 x3_1).f2)) ∧ w'.cell? (ad138.add ((x3_1).toNat * 4)) = some (.int .i64 ((rd_T58 l0 x3_1).f0.f0)) ∧ w'.cell? ⟨(ad138.add ((x3_1).toNat * 4)).block, (ad138.add ((x3_1).toNat * 4)).off + 1, none⟩ = some (.int .i64 ((rd_T58 l0 x3_1).f0.f1)) ∧ w'.cell? ⟨(ad138.add ((x3_1).toNat * 4)).block, (ad138.add ((x3_1).toNat * 4)).off + 2, none⟩ = some (.int .u64 ((rd_T58 l0 x3_1).f1)) ∧ w'.cell? ⟨(ad138.add ((x3_1).toNat * 4)).block, (ad138.add ((x3_1).toNat * 4)).off + 3, none⟩ = some (.int .i64 ((rd_T58 l0 x3_1).f2)) ∧ w'.cell? (ad138.add ((x3_1).toNat * 4)) = some (.int .i64 ((rd_T58 l0 x3_1).f0.f0)) ∧ w'.cell? ⟨(ad138.add ((x3_1).toNat * 4)).block, (ad138.add ((x3_1).toNat * 4)).off + 1, none⟩ = some (.int .i64 ((rd_T58 l0 x3_1).f0.f1)) ∧ w'.cell? ⟨(ad138.add ((x3_1).toNat * 4)).block, (ad138.add ((x3_1).toNat * 4)).off + 2, none⟩ = some (.int .u64 ((rd_T58 l0 x3_1).f1)) ∧ w'.cell? ⟨(ad138.add ((x3_1).toNat * 4)).block, (ad138.add ((x3_1).toNat * 4)).off + 3, none⟩ = some (.int .i64 ((rd_T58 l0 x3_1).f2))) (ds := []) #[false, false, false, false, false, false, false, false, false, false, false, false, false, false, false, false, false, false, false, false, false, false, false, false, false, false] (by kernel_rfl) rfl rfl ⟨((HB.out.cell (World.block_lt_of_cell? w _ hw138_0)).trans hw138_0), ((HB.out.cell (World.block_lt_of_cell? w _ hw138_1)).trans hw138_1), ((HB.out.cell (World.block_lt_of_cell? w _ hw138_2)).trans hw138_2), ((HB.out.cell (World.block_lt_of_cell? w _ hw138_3)).trans hw138_3), ((HB.out.cell (World.block_lt_of_cell? w _ hw139_0)).trans hw139_0), ((HB.out.cell (World.block_lt_of_cell? w _ hw139_1)).trans hw139_1), ((HB.out.cell (World.block_lt_of_cell? w _ hw139_2)).trans hw139_2), ((HB.out.cell (World.block_lt_of_cell? w _ hw139_3)).trans hw139_3), ((HB.out.cell (World.block_lt_of_cell? w _ hw144_0)).trans hw144_0), ((HB.out.cell (World.block_lt_of_cell? w _ hw144_1)).trans hw144_1), ((HB.out.cell (World.block_lt_of_cell? w _ hw144_2)).trans hw144_2), ((HB.out.cell (World.block_lt_of_cell? w _ hw144_3)).trans hw144_3)⟩ (fun hHeld => ?_); refine with_tabW ensembleref05_Right.tab4 ensembleref05_Right.bits4 (fun HT_ HW_ => ?_)
         generalize wr.drew = w15 at HB HR143 hx138_0 hx138_1 hx138_2 hx138_3 hx139_0 hx139_1 hx139_2 hx139_3 hx144_0 hx144_1 hx144_2 hx144_3 hHeld ⊢
         refine pure_ (i := 0) (N := some 10) (v := ?_) (a' := ?_) #[true, false, false, false, false, false, false, false, false, false, false, false, false, false, false, false, false, false, false, false, false, false, false, false, false, false] rfl rfl (any_of HT_.out (by kernel_rfl)) (fun _ _ _ h => h) (Or.inl ⟨by rfl, ?_⟩) ?_ ?_
         rotate_left
         ·intro w'
          go_simp
          with_reducible rfl
         rotate_left
         ·simp only [Act.put, List.setIfInBounds_toArray, List.set_cons_zero, List.set_cons_succ, i64_w, i32_w]
          rfl
         refine pure_ (i := 1) (N := some 11) (v := ?_) (a' := ?_) #[true, true, false, false, false, false, false, false, false, false, false, false, false, false, false, false, false, false, false, false, false, false, false, false, false, false] rfl rfl (any_of HT_.out (by kernel_rfl)) (fun _ _ _ h => h) (Or.inl ⟨by rfl, ?_⟩) ?_ ?_
         rotate_left
         ·intro w'
          go_simp
          with_reducible rfl
         rotate_left
         ·simp only [Act.put, List.setIfInBounds_toArray, List.set_cons_zero, List.set_cons_succ, i64_w, i32_w]
          rfl
         refine pure_ (i := 2) (N := some 12) (v := ?_) (a' := ?_) #[true, true, true, false, false, false, false, false, false, false, false, false, false, false, false, false, false, false, false, false, false, false, false, false, false, false] rfl rfl (any_of HT_.out (by kernel_rfl)) (fun _ _ _ h => h) (Or.inl ⟨by rfl, ?_⟩) ?_ ?_
         rotate_left
         ·intro w'
          go_simp
          with_reducible rfl
         rotate_left
         ·simp only [Act.put, List.setIfInBounds_toArray, List.set_cons_zero, List.set_cons_succ, i64_w, i32_w]
          rfl
         refine pure_ (i := 3) (N := some 13) (v := ?_) (a' := ?_) #[true, true, true, true, false, false, false, false, false, false, false, false, false, false, false, false, false, false, false, false, false, false, false, false, false, false] rfl rfl (any_of HT_.out (by kernel_rfl)) (fun _ _ _ h => h) (Or.inl ⟨by rfl, ?_⟩) ?_ ?_
         rotate_left
         ·intro w'
          go_simp
          with_reducible rfl
         rotate_left
         ·simp only [Act.put, List.setIfInBounds_toArray, List.set_cons_zero, List.set_cons_succ, i64_w, i32_w]
          rfl
         refine take_ (i := 4) (N := some 14) (v := ?_) (a' := ?_) #[true, true, true, true, true, false, false, false, false, false, false, false, false, false, false, false, false, false, false, false, false, false, false, false, false, false] rfl rfl (take_ofW HT_.out HW_.out (by kernel_rfl)) (fun _ _ _ h => h) (Or.inl ⟨by rfl, ?_⟩) hHeld ?_ ?_
         rotate_left
         ·rintro w' ⟨s0, s1, s2, s3, s4, s5, s6, s7, s8, s9, s10, s11⟩
          go_simp
          with_reducible rfl
         rotate_left
         ·simp only [Act.put, List.setIfInBounds_toArray, List.set_cons_zero, List.set_cons_succ, i64_w, i32_w]
          rfl
         refine pure_ (i := 5) (N := some 15) (v := ?_) (a' := ?_) #[true, true, true, true, true, true, false, false, false, false, false, false, false, false, false, false, false, false, false, false, false, false, false, false, false, false] rfl rfl (any_of HT_.out (by kernel_rfl)) (fun _ _ _ h => h) (Or.inl ⟨by rfl, ?_⟩) ?_ ?_
         rotate_left
         ·intro w'
          go_simp
          with_reducible rfl
         rotate_left
         ·simp only [Act.put, List.setIfInBounds_toArray, List.set_cons_zero, List.set_cons_succ, i64_w, i32_w]
          rfl
         refine pure_ (i := 6) (N := some 16) (v := ?_) (a' := ?_) #[true, true, true, true, true, true, true, false, false, false, false, false, false, false, false, false, false, false, false, false, false, false, false, false, false, false] rfl rfl (any_of HT_.out (by kernel_rfl)) (fun _ _ _ h => h) (Or.inl ⟨by rfl, ?_⟩) ?_ ?_
         rotate_left
         ·intro w'
          go_simp
          with_reducible rfl
         rotate_left
         ·simp only [Act.put, List.setIfInBounds_toArray, List.set_cons_zero, List.set_cons_succ, i64_w, i32_w]
          rfl
         refine pure_ (i := 7) (N := some 17) (v := ?_) (a' := ?_) #[true, true, true, true, true, true, true, true, false, false, false, false, false, false, false, false, false, false, false, false, false, false, false, false, false, false] rfl rfl (any_of HT_.out (by kernel_rfl)) (fun _ _ _ h => h) (Or.inl ⟨by rfl, ?_⟩) ?_ ?_
         rotate_left
         ·intro w'
          go_simp
          with_reducible rfl
         rotate_left
         ·simp only [Act.put, List.setIfInBounds_toArray, List.set_cons_zero, List.set_cons_succ, i64_w, i32_w]
          rfl
         refine pure_ (i := 8) (N := some 18) (v := ?_) (a' := ?_) #[true, true, true, true, true, true, true, true, true, false, false, false, false, false, false, false, false, false, false, false, false, false, false, false, false, false] rfl rfl (any_of HT_.out (by kernel_rfl)) (fun _ _ _ h => h) (Or.inl ⟨by rfl, ?_⟩) ?_ ?_
         rotate_left
         ·intro w'
          go_simp
          with_reducible rfl
         rotate_left
         ·simp only [Act.put, List.setIfInBounds_toArray, List.set_cons_zero, List.set_cons_succ, i64_w, i32_w]
          rfl
         refine pure_ (i := 9) (N := some 19) (v := ?_) (a' := ?_) #[true, true, true, true, true, true, true, true, true, true, false, false, false, false, false, false, false, false, false, false, false, false, false, false, false, false] rfl rfl (any_of HT_.out (by kernel_rfl)) (fun _ _ _ h => h) (Or.inl ⟨by rfl, ?_⟩) ?_ ?_
         rotate_left
         ·intro w'
          go_simp
          with_reducible rfl
         rotate_left
         ·simp only [Act.put, List.setIfInBounds_toArray, List.set_cons_zero, List.set_cons_succ, i64_w, i32_w]
          rfl
         refine pure_ (i := 10) (N := some 20) (v := ?_) (a' := ?_) #[true, true, true, true, true, true, true, true, true, true, true, false, false, false, false, false, false, false, false, false, false, false, false, false, false, false] rfl rfl (any_of HT_.out (by kernel_rfl)) (fun _ _ _ h => h) (Or.inl ⟨by rfl, ?_⟩) ?_ ?_
         rotate_left
         ·intro w'
          go_simp
          with_reducible rfl
         rotate_left
         ·simp only [Act.put, List.setIfInBounds_toArray, List.set_cons_zero, List.set_cons_succ, i64_w, i32_w]
          rfl
         refine take_ (i := 11) (N := some 21) (v := ?_) (a' := ?_) #[true, true, true, true, true, true, true, true, true, true, true, true, false, false, false, false, false, false, false, false, false, false, false, false, false, false] rfl rfl (take_ofW HT_.out HW_.out (by kernel_rfl)) (fun _ _ _ h => h) (Or.inl ⟨by rfl, ?_⟩) hHeld ?_ ?_
         rotate_left
         ·rintro w' ⟨s0, s1, s2, s3, s4, s5, s6, s7, s8, s9, s10, s11⟩
          go_simp
          with_reducible rfl
         rotate_left
         ·simp only [Act.put, List.setIfInBounds_toArray, List.set_cons_zero, List.set_cons_succ, i64_w, i32_w]
          rfl
         refine pure_ (i := 12) (N := some 22) (v := ?_) (a' := ?_) #[true, true, true, true, true, true, true, true, true, true, true, true, true, false, false, false, false, false, false, false, false, false, false, false, false, false] rfl rfl (any_of HT_.out (by kernel_rfl)) (fun _ _ _ h => h) (Or.inl ⟨by rfl, ?_⟩) ?_ ?_
         rotate_left
         ·intro w'
          go_simp
          with_reducible rfl
         rotate_left
         ·simp only [Act.put, List.setIfInBounds_toArray, List.set_cons_zero, List.set_cons_succ, i64_w, i32_w]
          rfl
         refine pure_ (i := 13) (N := some 23) (v := ?_) (a' := ?_) #[true, true, true, true, true, true, true, true, true, true, true, true, true, true, false, false, false, false, false, false, false, false, false, false, false, false] rfl rfl (any_of HT_.out (by kernel_rfl)) (fun _ _ _ h => h) (Or.inl ⟨by rfl, ?_⟩) ?_ ?_
         rotate_left
         ·intro w'
          go_simp
          with_reducible rfl
         rotate_left
         ·simp only [Act.put, List.setIfInBounds_toArray, List.set_cons_zero, List.set_cons_succ, i64_w, i32_w]
          rfl
         refine pure_ (i := 14) (N := some 24) (v := ?_) (a' := ?_) #[true, true, true, true, true, true, true, true, true, true, true, true, true, true, true, false, false, false, false, false, false, false, false, false, false, false] rfl rfl (any_of HT_.out (by kernel_rfl)) (fun _ _ _ h => h) (Or.inl ⟨by rfl, ?_⟩) ?_ ?_
         rotate_left
         ·intro w'
          go_simp
          with_reducible rfl
         rotate_left
         ·simp only [Act.put, List.setIfInBounds_toArray, List.set_cons_zero, List.set_cons_succ, i64_w, i32_w]
          rfl
         refine pure_ (i := 15) (N := some 25) (v := ?_) (a' := ?_) #[true, true, true, true, true, true, true, true, true, true, true, true, true, true, true, true, false, false, false, false, false, false, false, false, false, false] rfl rfl (any_of HT_.out (by kernel_rfl)) (fun _ _ _ h => h) (Or.inl ⟨by rfl, ?_⟩) ?_ ?_
         rotate_left
         ·intro w'
          go_simp
          with_reducible rfl
         rotate_left
         ·simp only [Act.put, List.setIfInBounds_toArray, List.set_cons_zero, List.set_cons_succ, i64_w, i32_w]
          rfl
         refine pure_ (i := 16) (N := some 26) (v := ?_) (a' := ?_) #[true, true, true, true, true, true, true, true, true, true, true, true, true, true, true, true, true, false, false, false, false, false, false, false, false, false] rfl rfl (any_of HT_.out (by kernel_rfl)) (fun _ _ _ h => h) (Or.inl ⟨by rfl, ?_⟩) ?_ ?_
         rotate_left
         ·intro w'
          go_simp
          with_reducible rfl
         rotate_left
         ·simp only [Act.put, List.setIfInBounds_toArray, List.set_cons_zero, List.set_cons_succ, i64_w, i32_w]
          rfl
         refine pure_ (i := 17) (N := some 27) (v := ?_) (a' := ?_) #[true, true, true, true, true, true, true, true, true, true, true, true, true, true, true, true, true, true, false, false, false, false, false, false, false, false] rfl rfl (any_of HT_.out (by kernel_rfl)) (fun _ _ _ h => h) (Or.inl ⟨by rfl, ?_⟩) ?_ ?_
         rotate_left
         ·intro w'
          go_simp
          with_reducible rfl
         rotate_left
         ·simp only [Act.put, List.setIfInBounds_toArray, List.set_cons_zero, List.set_cons_succ, i64_w, i32_w]
          rfl
         refine pure_ (i := 18) (N := some 28) (v := ?_) (a' := ?_) #[true, true, true, true, true, true, true, true, true, true, true, true, true, true, true, true, true, true, true, false, false, false, false, false, false, false] rfl rfl (any_of HT_.out (by kernel_rfl)) (fun _ _ _ h => h) (Or.inl ⟨by rfl, ?_⟩) ?_ ?_
         rotate_left
         ·intro w'
          go_simp
          with_reducible rfl
         rotate_left
         ·simp only [Act.put, List.setIfInBounds_toArray, List.set_cons_zero, List.set_cons_succ, i64_w, i32_w]
          rfl
         refine pure_ (i := 19) (N := some 29) (v := ?_) (a' := ?_) #[true, true, true, true, true, true, true, true, true, true, true, true, true, true, true, true, true, true, true, true, false, false, false, false, false, false] rfl rfl (any_of HT_.out (by kernel_rfl)) (fun _ _ _ h => h) (Or.inl ⟨by rfl, ?_⟩) ?_ ?_
         rotate_left
         ·intro w'
          go_simp
          with_reducible rfl
         rotate_left
         ·simp only [Act.put, List.setIfInBounds_toArray, List.set_cons_zero, List.set_cons_succ, i64_w, i32_w]
          rfl
         refine pure_ (i := 20) (N := some 30) (v := ?_) (a' := ?_) #[true, true, true, true, true, true, true, true, true, true, true, true, true, true, true, true, true, true, true, true, true, false, false, false, false, false] rfl rfl (any_of HT_.out (by kernel_rfl)) (fun _ _ _ h => h) (Or.inl ⟨by rfl, ?_⟩) ?_ ?_
         rotate_left
         ·intro w'
          go_simp
          with_reducible rfl
         rotate_left
         ·simp only [Act.put, List.setIfInBounds_toArray, List.set_cons_zero, List.set_cons_succ, i64_w, i32_w]
          rfl
         refine pure_ (i := 21) (N := some 31) (v := ?_) (a' := ?_) #[true, true, true, true, true, true, true, true, true, true, true, true, true, true, true, true, true, true, true, true, true, true, false, false, false, false] rfl rfl (any_of HT_.out (by kernel_rfl)) (fun _ _ _ h => h) (Or.inl ⟨by rfl, ?_⟩) ?_ ?_
         rotate_left
         ·intro w'
          go_simp
          with_reducible rfl
         rotate_left
         ·simp only [Act.put, List.setIfInBounds_toArray, List.set_cons_zero, List.set_cons_succ, i64_w, i32_w]
          rfl
         refine take_ (i := 22) (N := some 32) (v := ?_) (a' := ?_) #[true, true, true, true, true, true, true, true, true, true, true, true, true, true, true, true, true, true, true, true, true, true, true, false, false, false] rfl rfl (take_ofW HT_.out HW_.out (by kernel_rfl)) (fun _ _ _ h => h) (Or.inl ⟨by rfl, ?_⟩) hHeld ?_ ?_
         rotate_left
         ·rintro w' ⟨s0, s1, s2, s3, s4, s5, s6, s7, s8, s9, s10, s11⟩
          go_simp
          with_reducible rfl
         rotate_left
         ·simp only [Act.put, List.setIfInBounds_toArray, List.set_cons_zero, List.set_cons_succ, i64_w, i32_w]
          rfl
         refine one_ (i := 23) (N := some 33) #[true, true, true, true, true, true, true, true, true, true, true, true, true, true, true, true, true, true, true, true, true, true, true, true, false, false] rfl rfl (one_of HT_.out (by kernel_rfl)) (by decide) (fun K hK => ?_)
         refine goes_ Try.func31 (by kernel_rfl) rfl #[.slice (some ad138) y140.length c0, .agg #[.int .i64 ((rd_T58 l0 x3_1).f0.f0), .int .i64 ((rd_T58 l0 x3_1).f0.f1)]] (by rfl) rfl rfl (by (try simp only [List.map_toArray, List.map_cons, List.map_nil]); first | done | rfl | (simp only [List.length_drop, List.length_take]; rfl)) ?_
         with_reducible refine (ensembleref05_find.calls k1 _ _ y140 ((rd_T58 l0 x3_1).f0.f0) ((rd_T58 l0 x3_1).f0.f1) t145 _ ?side1 ?side2 A10.out).mono ?_
         (case side1 => repeat (first | exact (Kd.C_below HR143.out HB.out) | (with_reducible refine Kd.C_alloc ?_ _) | (with_reducible refine Kd.C_drewN ?_ _) | (with_reducible refine Kd.C_drew ?_)))
         (case side2 => exact HC143.out)
         rintro e w17 ⟨rfl, hb⟩
         refine ⟨_, rfl, ?_⟩
         have n0_ := Aside0.mk (below_step (by repeat (first | (with_reducible first | exact HB.out | apply below_alloc | apply pw_below_drewN | apply below_drew1) | exact HB.out)) hb)
         clear HB
         have HB := n0_
         clear n0_
         (try clear hb)
         (try clear hb2)
         (try clear hk)
         (try clear hi)
         refine hK.out _ _ ⟨((HB.out.cell (World.block_lt_of_cell? w _ hw138_0)).trans hw138_0), ((HB.out.cell (World.block_lt_of_cell? w _ hw138_1)).trans hw138_1), ((HB.out.cell (World.block_lt_of_cell? w _ hw138_2)).trans hw138_2), ((HB.out.cell (World.block_lt_of_cell? w _ hw138_3)).trans hw138_3), ((HB.out.cell (World.block_lt_of_cell? w _ hw139_0)).trans hw139_0), ((HB.out.cell (World.block_lt_of_cell? w _ hw139_1)).trans hw139_1), ((HB.out.cell (World.block_lt_of_cell? w _ hw139_2)).trans hw139_2), ((HB.out.cell (World.block_lt_of_cell? w _ hw139_3)).trans hw139_3), ((HB.out.cell (World.block_lt_of_cell? w _ hw144_0)).trans hw144_0), ((HB.out.cell (World.block_lt_of_cell? w _ hw144_1)).trans hw144_1), ((HB.out.cell (World.block_lt_of_cell? w _ hw144_2)).trans hw144_2), ((HB.out.cell (World.block_lt_of_cell? w _ hw144_3)).trans hw144_3)⟩ (fun hHeld => ?_)
         clear hK K
         refine norm_ (a' := ?_) ?_ ?_
         rotate_left
         ·show Act.put _ (some 33) _ = _
          simp only [Act.put, List.setIfInBounds_toArray, List.set_cons_zero, List.set_cons_succ, i64_w, i32_w]
          rfl
         refine pure_ (i := 24) (N := some 34) (v := ?_) (a' := ?_) #[true, true, true, true, true, true, true, true, true, true, true, true, true, true, true, true, true, true, true, true, true, true, true, true, true, false] rfl rfl (any_of HT_.out (by kernel_rfl)) (fun _ _ _ h => h) (Or.inl ⟨by rfl, ?_⟩) ?_ ?_
         rotate_left
         ·intro w'
          go_simp
          with_reducible rfl
         rotate_left
         ·simp only [Act.put, List.setIfInBounds_toArray, List.set_cons_zero, List.set_cons_succ, i64_w, i32_w]
          rfl
         refine pure_ (i := 25) (N := some 35) (v := ?_) (a' := ?_) #[true, true, true, true, true, true, true, true, true, true, true, true, true, true, true, true, true, true, true, true, true, true, true, true, true, true] rfl rfl (any_of HT_.out (by kernel_rfl)) (fun _ _ _ h => h) (Or.inl ⟨by rfl, ?_⟩) ?_ ?_
         rotate_left
         ·intro w'
          go_simp
          with_reducible rfl
         rotate_left
         ·simp only [Act.put, List.setIfInBounds_toArray, List.set_cons_zero, List.set_cons_succ, i64_w, i32_w]
          rfl
         refine done_ (done_of HT_.out (by kernel_rfl)) ?_
         try go_wp2
         go_roundg k1
         case measure => have := HK1.out; omega
         case rel => exact ⟨(wrap64 (x3_1 + 1)), (by first | rfl | (simp; done) | (simp [*]; done)), H', ⟨by have := HK1.out; omega⟩, ⟨by repeat (first | (with_reducible first | exact HB.out | apply below_alloc | apply pw_below_drewN | apply below_drew1) | exact HB.out)⟩⟩
       ·rw [if_neg c9] at H
        exact absurd H (by simp)
    ·rw [if_neg c3] at H
     exact absurd H (by simp)
   ·rw [if_neg c2] at H
    have c2b0 : decide (x3_1 < (l0.length : Int)) = false := decide_eq_false c2
    clear c2
    obtain rfl := Option.some.inj H
    go_wp2
    go_ret
    exact ⟨by first | rfl | (simp [errW_none, errW_some] <;> rfl) | (simp [*, errW_none, errW_some] <;> rfl), by repeat (first | (with_reducible first | exact HB.out | apply below_alloc | apply pw_below_drewN | apply below_drew1) | exact HB.out)⟩
end Go.Proofs.Ytpedlompipabdaa.P
namespace Go.Proofs.Ytpedlompipabdaa.P
open Go.RowKit Go.Proofs.YtpedlompipabdaaW.PrintWords Go.Proofs.YtpedlompipabdaaW.PrintLast Go.Proofs.YtpedlompipabdaaW.PrintMore
attribute [local go_sem] max2_int min2_int max_two min_two max_three min_three max_four min_four
set_option linter.unusedVariables false
set_option linter.unusedSimpArgs false
mutual
def ensembleref19_Few.j0 : Nat → Bool → Int → Int → Int → Int → List Int → List Bool → List (S47) → List (S62) → List (S58) → List (S49) → Option (Bool)
 | 0, _, _, _, _, _, _, _, _, _, _, _ => none
 | k + 1, x37, x147000, x147001, x147002, x147003, x147004, x147005, x147006, x147007, x147008, x147009 => if x37 = true then (some false) else (ensembleref19_Few.l0 k 0 x147000 x147001 x147002 x147003 x147004 x147005 x147006 x147007 x147008 x147009)
def ensembleref19_Few.l0 : Nat → Int → Int → Int → Int → Int → List Int → List Bool → List (S47) → List (S62) → List (S58) → List (S49) → Option (Bool)
 | 0, _, _, _, _, _, _, _, _, _, _, _ => none
 | k + 1, x3, x147000, x147001, x147002, x147003, x147004, x147005, x147006, x147007, x147008, x147009 => if x3 < (x147007.length : Int) then (if 0 ≤ x3 then (if (((rd_T62 x147007 x3).f4).length : Int) > 40 then (some false) else (ensembleref19_Few.l0 k (wrap64 (x3 + 1)) x147000 x147001 x147002 x147003 x147004 x147005 x147006 x147007 x147008 x147009)) else (none)) else (some true)
end
def ensembleref19_Few.f (k : Nat) (a0_0 : Int) (a0_1 : Int) (a0_2 : Int) (a0_3 : Int) (l0_4 : List Int) (l0_5 : List Bool) (l0_6 : List (S47)) (l0_7 : List (S62)) (l0_8 : List (S58)) (l0_9 : List (S49)) : Option (Bool) := if (l0_6.length : Int) > 450 then (ensembleref19_Few.j0 k true a0_0 a0_1 a0_2 a0_3 l0_4 l0_5 l0_6 l0_7 l0_8 l0_9) else (if (l0_7.length : Int) > 60 then (ensembleref19_Few.j0 k true a0_0 a0_1 a0_2 a0_3 l0_4 l0_5 l0_6 l0_7 l0_8 l0_9) else (if (l0_4.length : Int) > 60 then (ensembleref19_Few.j0 k true a0_0 a0_1 a0_2 a0_3 l0_4 l0_5 l0_6 l0_7 l0_8 l0_9) else (if (l0_9.length : Int) > 60 then (ensembleref19_Few.j0 k true a0_0 a0_1 a0_2 a0_3 l0_4 l0_5 l0_6 l0_7 l0_8 l0_9) else (if (l0_8.length : Int) > 70 then (ensembleref19_Few.j0 k true a0_0 a0_1 a0_2 a0_3 l0_4 l0_5 l0_6 l0_7 l0_8 l0_9) else ((ensembleref05_Right.f k l0_8).bind fun t147 => (ensembleref19_Few.j0 k (!t147) a0_0 a0_1 a0_2 a0_3 l0_4 l0_5 l0_6 l0_7 l0_8 l0_9))))))
theorem ensembleref19_Few.mono_l : ∀ k, (∀ y0 y1 y2 y3 y4 y5 y6 y7 y8 y9 y10, LeO (ensembleref19_Few.j0 k y0 y1 y2 y3 y4 y5 y6 y7 y8 y9 y10) (ensembleref19_Few.j0 (k + 1) y0 y1 y2 y3 y4 y5 y6 y7 y8 y9 y10)) ∧ (∀ y0 y1 y2 y3 y4 y5 y6 y7 y8 y9 y10, LeO (ensembleref19_Few.l0 k y0 y1 y2 y3 y4 y5 y6 y7 y8 y9 y10) (ensembleref19_Few.l0 (k + 1) y0 y1 y2 y3 y4 y5 y6 y7 y8 y9 y10))
 | 0 => ⟨fun _ _ _ _ _ _ _ _ _ _ _ r h => by simp [ensembleref19_Few.j0] at h, fun _ _ _ _ _ _ _ _ _ _ _ r h => by simp [ensembleref19_Few.l0] at h⟩
 | k + 1 => by
  obtain ⟨ih0, ih1⟩ := ensembleref19_Few.mono_l k
  refine ⟨?_, ?_⟩
  ·intro y0 y1 y2 y3 y4 y5 y6 y7 y8 y9 y10
   unfold ensembleref19_Few.j0
   repeat' first
   | (with_reducible exact ih0 _ _ _ _ _ _ _ _ _ _ _)
   | (with_reducible exact ih1 _ _ _ _ _ _ _ _ _ _ _)
   | (with_reducible exact ensembleref05_Right.mono _ _)
   | (with_reducible exact LeO.refl _)
   | (with_reducible exact LeO.none _)
   | (with_reducible refine LeO.ite ?_ ?_)
   | (with_reducible refine LeO.bind ?_ (fun _ => ?_))
   | exact ih0 _ _ _ _ _ _ _ _ _ _ _
   | exact ih1 _ _ _ _ _ _ _ _ _ _ _
   | exact ensembleref05_Right.mono _ _
   | exact LeO.none _
   | refine LeO.ite ?_ ?_
   | refine LeO.bind ?_ (fun _ => ?_)
  ·intro y0 y1 y2 y3 y4 y5 y6 y7 y8 y9 y10
   unfold ensembleref19_Few.l0
   repeat' first
   | (with_reducible exact ih0 _ _ _ _ _ _ _ _ _ _ _)
   | (with_reducible exact ih1 _ _ _ _ _ _ _ _ _ _ _)
   | (with_reducible exact ensembleref05_Right.mono _ _)
   | (with_reducible exact LeO.refl _)
   | (with_reducible exact LeO.none _)
   | (with_reducible refine LeO.ite ?_ ?_)
   | (with_reducible refine LeO.bind ?_ (fun _ => ?_))
   | exact ih0 _ _ _ _ _ _ _ _ _ _ _
   | exact ih1 _ _ _ _ _ _ _ _ _ _ _
   | exact ensembleref05_Right.mono _ _
   | exact LeO.none _
   | refine LeO.ite ?_ ?_
   | refine LeO.bind ?_ (fun _ => ?_)
theorem ensembleref19_Few.mono : ∀ a0 a1 a2 a3 a4 a5 a6 a7 a8 a9 k, LeO (ensembleref19_Few.f k a0 a1 a2 a3 a4 a5 a6 a7 a8 a9) (ensembleref19_Few.f (k + 1) a0 a1 a2 a3 a4 a5 a6 a7 a8 a9) := by
 intro a0 a1 a2 a3 a4 a5 a6 a7 a8 a9 k
 obtain ⟨ih0, ih1⟩ := ensembleref19_Few.mono_l k
 unfold ensembleref19_Few.f
 repeat' first
   | (with_reducible exact ih0 _ _ _ _ _ _ _ _ _ _ _)
   | (with_reducible exact ih1 _ _ _ _ _ _ _ _ _ _ _)
   | (with_reducible exact ensembleref05_Right.mono _ _)
   | (with_reducible exact LeO.refl _)
   | (with_reducible exact LeO.none _)
   | (with_reducible refine LeO.ite ?_ ?_)
   | (with_reducible refine LeO.bind ?_ (fun _ => ?_))
   | exact ih0 _ _ _ _ _ _ _ _ _ _ _
   | exact ih1 _ _ _ _ _ _ _ _ _ _ _
   | exact ensembleref05_Right.mono _ _
   | exact LeO.none _
   | refine LeO.ite ?_ ?_
   | refine LeO.bind ?_ (fun _ => ?_)
set_option maxHeartbeats 8000000 in
set_option maxRecDepth 100000 in
theorem ensembleref19_Few.calls (k : Nat) (a0_0 : Int) (a0_1 : Int) (a0_2 : Int) (a0_3 : Int) (A0_4 : Option Addr) (c0_4 : Nat) (l0_4 : List Int) (A0_5 : Option Addr) (c0_5 : Nat) (l0_5 : List Bool) (A0_6 : Option Addr) (c0_6 : Nat) (l0_6 : List (S47)) (A0_7 : Option Addr) (c0_7 : Nat) (l0_7 : List (S62)) (A0_8 : Option Addr) (c0_8 : Nat) (l0_8 : List (S58)) (A0_9 : Option Addr) (c0_9 : Nat) (l0_9 : List (S49)) (r : Bool) (w : World) (hr0_4 : Kd.C (Kd.int .i64) w A0_4 l0_4.length l0_4) (hc0_4 : l0_4.length ≤ c0_4) (hr0_5 : Kd.C Kd.bool w A0_5 l0_5.length l0_5) (hc0_5 : l0_5.length ≤ c0_5) (hr0_6 : Kd.C k47 w A0_6 l0_6.length l0_6) (hc0_6 : l0_6.length ≤ c0_6) (hr0_7 : Kd.C k62 w A0_7 l0_7.length l0_7) (hc0_7 : l0_7.length ≤ c0_7) (hr0_8 : Kd.C k58 w A0_8 l0_8.length l0_8) (hc0_8 : l0_8.length ≤ c0_8) (hr0_9 : Kd.C k49 w A0_9 l0_9.length l0_9) (hc0_9 : l0_9.length ≤ c0_9) (h : ensembleref19_Few.f k a0_0 a0_1 a0_2 a0_3 l0_4 l0_5 l0_6 l0_7 l0_8 l0_9 = some r) :
  Calls Try.prog 7 #[.agg #[.int .i64 a0_0, .int .i64 a0_1, .int .i64 a0_2, .int .i64 a0_3, .slice A0_4 l0_4.length c0_4, .slice A0_5 l0_5.length c0_5, .slice A0_6 l0_6.length c0_6, .slice A0_7 l0_7.length c0_7, .slice A0_8 l0_8.length c0_8, .slice A0_9 l0_9.length c0_9]] w fun e w' => e = .returned (.bool r) ∧ Below w.heap.size w w' := by
 have hu35 := Try.underlying35
 have HR0_4 := Aside0.mk hr0_4
 have HC0_4 := Aside0.mk hc0_4
 clear hr0_4 hc0_4
 have HR0_5 := Aside0.mk hr0_5
 have HC0_5 := Aside0.mk hc0_5
 clear hr0_5 hc0_5
 have HR0_6 := Aside0.mk hr0_6
 have HC0_6 := Aside0.mk hc0_6
 clear hr0_6 hc0_6
 have HR0_7 := Aside0.mk hr0_7
 have HC0_7 := Aside0.mk hc0_7
 clear hr0_7 hc0_7
 have HR0_8 := Aside0.mk hr0_8
 have HC0_8 := Aside0.mk hc0_8
 clear hr0_8 hc0_8
 have HR0_9 := Aside0.mk hr0_9
 have HC0_9 := Aside0.mk hc0_9
 clear hr0_9 hc0_9
 have HB := Aside0.mk (Below.refl w.heap.size w)
 have H : (if (l0_6.length : Int) > 450 then (ensembleref19_Few.j0 k true a0_0 a0_1 a0_2 a0_3 l0_4 l0_5 l0_6 l0_7 l0_8 l0_9) else (if (l0_7.length : Int) > 60 then (ensembleref19_Few.j0 k true a0_0 a0_1 a0_2 a0_3 l0_4 l0_5 l0_6 l0_7 l0_8 l0_9) else (if (l0_4.length : Int) > 60 then (ensembleref19_Few.j0 k true a0_0 a0_1 a0_2 a0_3 l0_4 l0_5 l0_6 l0_7 l0_8 l0_9) else (if (l0_9.length : Int) > 60 then (ensembleref19_Few.j0 k true a0_0 a0_1 a0_2 a0_3 l0_4 l0_5 l0_6 l0_7 l0_8 l0_9) else (if (l0_8.length : Int) > 70 then (ensembleref19_Few.j0 k true a0_0 a0_1 a0_2 a0_3 l0_4 l0_5 l0_6 l0_7 l0_8 l0_9) else ((ensembleref05_Right.f k l0_8).bind fun t147 => (ensembleref19_Few.j0 k (!t147) a0_0 a0_1 a0_2 a0_3 l0_4 l0_5 l0_6 l0_7 l0_8 l0_9))))))) = some r := h
 clear h
 have HC2 := Aside0.mk H
 clear H
 go_enter Try.func7, Try.ntmps7
 go_upto_region 1 with (first | ((with_reducible refine gate_dst (N := 1) rfl ?_); (try (refine gate_guard (by rfl) ?_; dsimp only)); refine box_event ?hg (N := 1) ?hd (cs := #[.int .i64 a0_0, .int .i64 a0_1, .int .i64 a0_2, .int .i64 a0_3, .slice A0_4 l0_4.length c0_4, .slice A0_5 l0_5.length c0_5, .slice A0_6 l0_6.length c0_6, .slice A0_7 l0_7.length c0_7, .slice A0_8 l0_8.length c0_8, .slice A0_9 l0_9.length c0_9]) (t := 35) ?hr ?_; (case hd => rfl); (case hg => rfl); (case hr => first | (go_simp; done) | (go_simp; rfl)); intro gb146 hg w3 hbox hb; have n0_ := Aside0.mk (below_step (by repeat (first | (with_reducible first | exact HB.out | apply below_alloc | apply pw_below_drewN | apply below_drew1) | exact HB.out)) hb); have n1_ := Aside0.mk (hbox); have n2_ := Aside0.mk ((by rw [hg]; exact (below_size (by repeat (first | (with_reducible first | exact HB.out | apply below_alloc | apply pw_below_drewN | apply below_drew1) | exact HB.out))) : w.heap.size ≤ gb146)); have n3_ := Aside0.mk ((by rw [hg]; exact (below_size (by repeat (first | (with_reducible first | exact HB.out | apply below_alloc | apply pw_below_drewN | apply below_drew1) | exact HB.out))) : w.heap.size ≤ gb146)); clear HB; have HB := n0_; have BK146 := n1_; have GW146 := n2_; have GE146 := n3_; clear n0_ n1_ n2_ n3_; clear hb hbox hg))
 (try simp only [Act.put, List.setIfInBounds_toArray, List.set_cons_zero, List.set_cons_succ])
 go_cut [37] (fun v37 wc => ∃ (kq : Nat) (x37_1 : Bool), v37 = .bool x37_1 ∧ Aside0 (ensembleref19_Few.j0 kq x37_1 a0_0 a0_1 a0_2 a0_3 l0_4 l0_5 l0_6 l0_7 l0_8 l0_9 = some r) ∧ Aside0 (kq ≤ k) ∧ Aside0 (wc.heap[gb146]? = some (.cells #[.int .i64 a0_0, .int .i64 a0_1, .int .i64 a0_2, .int .i64 a0_3, (.slice A0_4 l0_4.length c0_4), (.slice A0_5 l0_5.length c0_5), (.slice A0_6 l0_6.length c0_6), (.slice A0_7 l0_7.length c0_7), (.slice A0_8 l0_8.length c0_8), (.slice A0_9 l0_9.length c0_9)] 35 (0, 0))) ∧ Aside0 (Below w.heap.size w wc))
 case first =>
  have H := HC2.out
  clear HC2
  by_cases c4 : (l0_6.length : Int) > 450
  ·rw [if_pos c4] at H
   have c4b0 : decide (450 < (l0_6.length : Int)) = true := decide_eq_true c4
   have c4b1 : decide (450 < l0_6.length) = true := decide_eq_true (by omega)
   clear c4
   (first | rw [c4b0] | (simp only [i64_w, i32_w]; rw [c4b0]) | skip)
   have H' := Aside0.mk H
   clear H
   have hcz5_0 : w3.cell? ⟨gb146, 0, none⟩ = some (.int .i64 a0_0) := (blk_cell BK146.out 0).trans rfl
   have hcz5_1 : w3.cell? ⟨gb146, 1, none⟩ = some (.int .i64 a0_1) := (blk_cell BK146.out 1).trans rfl
   have hcz5_2 : w3.cell? ⟨gb146, 2, none⟩ = some (.int .i64 a0_2) := (blk_cell BK146.out 2).trans rfl
   have hcz5_3 : w3.cell? ⟨gb146, 3, none⟩ = some (.int .i64 a0_3) := (blk_cell BK146.out 3).trans rfl
   have hcz5_4 : w3.cell? ⟨gb146, 4, none⟩ = some (.slice A0_4 l0_4.length c0_4) := (blk_cell BK146.out 4).trans rfl
   have hcz5_5 : w3.cell? ⟨gb146, 5, none⟩ = some (.slice A0_5 l0_5.length c0_5) := (blk_cell BK146.out 5).trans rfl
   have hcz5_6 : w3.cell? ⟨gb146, 6, none⟩ = some (.slice A0_6 l0_6.length c0_6) := (blk_cell BK146.out 6).trans rfl
   have hcz5_7 : w3.cell? ⟨gb146, 7, none⟩ = some (.slice A0_7 l0_7.length c0_7) := (blk_cell BK146.out 7).trans rfl
   have hcz5_8 : w3.cell? ⟨gb146, 8, none⟩ = some (.slice A0_8 l0_8.length c0_8) := (blk_cell BK146.out 8).trans rfl
   have hcz5_9 : w3.cell? ⟨gb146, 9, none⟩ = some (.slice A0_9 l0_9.length c0_9) := (blk_cell BK146.out 9).trans rfl
   have hfz5_0 := blk_frozen BK146.out 0
   have hfz5_1 := blk_frozen BK146.out 1
   have hfz5_2 := blk_frozen BK146.out 2
   have hfz5_3 := blk_frozen BK146.out 3
   have hfz5_4 := blk_frozen BK146.out 4
   have hfz5_5 := blk_frozen BK146.out 5
   have hfz5_6 := blk_frozen BK146.out 6
   have hfz5_7 := blk_frozen BK146.out 7
   have hfz5_8 := blk_frozen BK146.out 8
   have hfz5_9 := blk_frozen BK146.out 9
   go_wp2
   go_meet
   case rel => exact ⟨_, (true), (by first | rfl | (simp; done) | (simp [*]; done)), H', ⟨by first | omega | exact Nat.le_refl _⟩, ⟨by (with_reducible repeat (first | refine blk_drewN ?_ _ | refine blk_drew ?_ | refine blk_alloc ?_ _)); exact BK146.out⟩, ⟨by repeat (first | (with_reducible first | exact HB.out | apply below_alloc | apply pw_below_drewN | apply below_drew1 | refine below_set ?_ GE146.out) | exact HB.out)⟩⟩
  ·rw [if_neg c4] at H
   have c4b0 : decide (450 < (l0_6.length : Int)) = false := decide_eq_false c4
   have c4b1 : decide (450 < l0_6.length) = false := decide_eq_false (by omega)
   clear c4
   (first | rw [c4b0] | (simp only [i64_w, i32_w]; rw [c4b0]) | skip)
   by_cases c6 : (l0_7.length : Int) > 60
   ·rw [if_pos c6] at H
    have c6b0 : decide (60 < (l0_7.length : Int)) = true := decide_eq_true c6
    have c6b1 : decide (60 < l0_7.length) = true := decide_eq_true (by omega)
    clear c6
    have H' := Aside0.mk H
    clear H
    have hcz7_0 : w3.cell? ⟨gb146, 0, none⟩ = some (.int .i64 a0_0) := (blk_cell BK146.out 0).trans rfl
    have hcz7_1 : w3.cell? ⟨gb146, 1, none⟩ = some (.int .i64 a0_1) := (blk_cell BK146.out 1).trans rfl
    have hcz7_2 : w3.cell? ⟨gb146, 2, none⟩ = some (.int .i64 a0_2) := (blk_cell BK146.out 2).trans rfl
    have hcz7_3 : w3.cell? ⟨gb146, 3, none⟩ = some (.int .i64 a0_3) := (blk_cell BK146.out 3).trans rfl
    have hcz7_4 : w3.cell? ⟨gb146, 4, none⟩ = some (.slice A0_4 l0_4.length c0_4) := (blk_cell BK146.out 4).trans rfl
    have hcz7_5 : w3.cell? ⟨gb146, 5, none⟩ = some (.slice A0_5 l0_5.length c0_5) := (blk_cell BK146.out 5).trans rfl
    have hcz7_6 : w3.cell? ⟨gb146, 6, none⟩ = some (.slice A0_6 l0_6.length c0_6) := (blk_cell BK146.out 6).trans rfl
    have hcz7_7 : w3.cell? ⟨gb146, 7, none⟩ = some (.slice A0_7 l0_7.length c0_7) := (blk_cell BK146.out 7).trans rfl
    have hcz7_8 : w3.cell? ⟨gb146, 8, none⟩ = some (.slice A0_8 l0_8.length c0_8) := (blk_cell BK146.out 8).trans rfl
    have hcz7_9 : w3.cell? ⟨gb146, 9, none⟩ = some (.slice A0_9 l0_9.length c0_9) := (blk_cell BK146.out 9).trans rfl
    have hfz7_0 := blk_frozen BK146.out 0
    have hfz7_1 := blk_frozen BK146.out 1
    have hfz7_2 := blk_frozen BK146.out 2
    have hfz7_3 := blk_frozen BK146.out 3
    have hfz7_4 := blk_frozen BK146.out 4
    have hfz7_5 := blk_frozen BK146.out 5
    have hfz7_6 := blk_frozen BK146.out 6
    have hfz7_7 := blk_frozen BK146.out 7
    have hfz7_8 := blk_frozen BK146.out 8
    have hfz7_9 := blk_frozen BK146.out 9
    go_wp2
    go_meet
    case rel => exact ⟨_, (true), (by first | rfl | (simp; done) | (simp [*]; done)), H', ⟨by first | omega | exact Nat.le_refl _⟩, ⟨by (with_reducible repeat (first | refine blk_drewN ?_ _ | refine blk_drew ?_ | refine blk_alloc ?_ _)); exact BK146.out⟩, ⟨by repeat (first | (with_reducible first | exact HB.out | apply below_alloc | apply pw_below_drewN | apply below_drew1 | refine below_set ?_ GE146.out) | exact HB.out)⟩⟩
   ·rw [if_neg c6] at H
    have c6b0 : decide (60 < (l0_7.length : Int)) = false := decide_eq_false c6
    have c6b1 : decide (60 < l0_7.length) = false := decide_eq_false (by omega)
    clear c6
    by_cases c8 : (l0_4.length : Int) > 60
    ·rw [if_pos c8] at H
     have c8b0 : decide (60 < (l0_4.length : Int)) = true := decide_eq_true c8
     have c8b1 : decide (60 < l0_4.length) = true := decide_eq_true (by omega)
     clear c8
     have H' := Aside0.mk H
     clear H
     have hcz9_0 : w3.cell? ⟨gb146, 0, none⟩ = some (.int .i64 a0_0) := (blk_cell BK146.out 0).trans rfl
     have hcz9_1 : w3.cell? ⟨gb146, 1, none⟩ = some (.int .i64 a0_1) := (blk_cell BK146.out 1).trans rfl
     have hcz9_2 : w3.cell? ⟨gb146, 2, none⟩ = some (.int .i64 a0_2) := (blk_cell BK146.out 2).trans rfl
     have hcz9_3 : w3.cell? ⟨gb146, 3, none⟩ = some (.int .i64 a0_3) := (blk_cell BK146.out 3).trans rfl
     have hcz9_4 : w3.cell? ⟨gb146, 4, none⟩ = some (.slice A0_4 l0_4.length c0_4) := (blk_cell BK146.out 4).trans rfl
     have hcz9_5 : w3.cell? ⟨gb146, 5, none⟩ = some (.slice A0_5 l0_5.length c0_5) := (blk_cell BK146.out 5).trans rfl
     have hcz9_6 : w3.cell? ⟨gb146, 6, none⟩ = some (.slice A0_6 l0_6.length c0_6) := (blk_cell BK146.out 6).trans rfl
     have hcz9_7 : w3.cell? ⟨gb146, 7, none⟩ = some (.slice A0_7 l0_7.length c0_7) := (blk_cell BK146.out 7).trans rfl
     have hcz9_8 : w3.cell? ⟨gb146, 8, none⟩ = some (.slice A0_8 l0_8.length c0_8) := (blk_cell BK146.out 8).trans rfl
     have hcz9_9 : w3.cell? ⟨gb146, 9, none⟩ = some (.slice A0_9 l0_9.length c0_9) := (blk_cell BK146.out 9).trans rfl
     have hfz9_0 := blk_frozen BK146.out 0
     have hfz9_1 := blk_frozen BK146.out 1
     have hfz9_2 := blk_frozen BK146.out 2
     have hfz9_3 := blk_frozen BK146.out 3
     have hfz9_4 := blk_frozen BK146.out 4
     have hfz9_5 := blk_frozen BK146.out 5
     have hfz9_6 := blk_frozen BK146.out 6
     have hfz9_7 := blk_frozen BK146.out 7
     have hfz9_8 := blk_frozen BK146.out 8
     have hfz9_9 := blk_frozen BK146.out 9
     go_wp2
     go_meet
     case rel => exact ⟨_, (true), (by first | rfl | (simp; done) | (simp [*]; done)), H', ⟨by first | omega | exact Nat.le_refl _⟩, ⟨by (with_reducible repeat (first | refine blk_drewN ?_ _ | refine blk_drew ?_ | refine blk_alloc ?_ _)); exact BK146.out⟩, ⟨by repeat (first | (with_reducible first | exact HB.out | apply below_alloc | apply pw_below_drewN | apply below_drew1 | refine below_set ?_ GE146.out) | exact HB.out)⟩⟩
    ·rw [if_neg c8] at H
     have c8b0 : decide (60 < (l0_4.length : Int)) = false := decide_eq_false c8
     have c8b1 : decide (60 < l0_4.length) = false := decide_eq_false (by omega)
     clear c8
     by_cases c10 : (l0_9.length : Int) > 60
     ·rw [if_pos c10] at H
      have c10b0 : decide (60 < (l0_9.length : Int)) = true := decide_eq_true c10
      have c10b1 : decide (60 < l0_9.length) = true := decide_eq_true (by omega)
      clear c10
      have H' := Aside0.mk H
      clear H
      have hcz11_0 : w3.cell? ⟨gb146, 0, none⟩ = some (.int .i64 a0_0) := (blk_cell BK146.out 0).trans rfl
      have hcz11_1 : w3.cell? ⟨gb146, 1, none⟩ = some (.int .i64 a0_1) := (blk_cell BK146.out 1).trans rfl
      have hcz11_2 : w3.cell? ⟨gb146, 2, none⟩ = some (.int .i64 a0_2) := (blk_cell BK146.out 2).trans rfl
      have hcz11_3 : w3.cell? ⟨gb146, 3, none⟩ = some (.int .i64 a0_3) := (blk_cell BK146.out 3).trans rfl
      have hcz11_4 : w3.cell? ⟨gb146, 4, none⟩ = some (.slice A0_4 l0_4.length c0_4) := (blk_cell BK146.out 4).trans rfl
      have hcz11_5 : w3.cell? ⟨gb146, 5, none⟩ = some (.slice A0_5 l0_5.length c0_5) := (blk_cell BK146.out 5).trans rfl
      have hcz11_6 : w3.cell? ⟨gb146, 6, none⟩ = some (.slice A0_6 l0_6.length c0_6) := (blk_cell BK146.out 6).trans rfl
      have hcz11_7 : w3.cell? ⟨gb146, 7, none⟩ = some (.slice A0_7 l0_7.length c0_7) := (blk_cell BK146.out 7).trans rfl
      have hcz11_8 : w3.cell? ⟨gb146, 8, none⟩ = some (.slice A0_8 l0_8.length c0_8) := (blk_cell BK146.out 8).trans rfl
      have hcz11_9 : w3.cell? ⟨gb146, 9, none⟩ = some (.slice A0_9 l0_9.length c0_9) := (blk_cell BK146.out 9).trans rfl
      have hfz11_0 := blk_frozen BK146.out 0
      have hfz11_1 := blk_frozen BK146.out 1
      have hfz11_2 := blk_frozen BK146.out 2
      have hfz11_3 := blk_frozen BK146.out 3
      have hfz11_4 := blk_frozen BK146.out 4
      have hfz11_5 := blk_frozen BK146.out 5
      have hfz11_6 := blk_frozen BK146.out 6
      have hfz11_7 := blk_frozen BK146.out 7
      have hfz11_8 := blk_frozen BK146.out 8
      have hfz11_9 := blk_frozen BK146.out 9
      go_wp2
      go_meet
      case rel => exact ⟨_, (true), (by first | rfl | (simp; done) | (simp [*]; done)), H', ⟨by first | omega | exact Nat.le_refl _⟩, ⟨by (with_reducible repeat (first | refine blk_drewN ?_ _ | refine blk_drew ?_ | refine blk_alloc ?_ _)); exact BK146.out⟩, ⟨by repeat (first | (with_reducible first | exact HB.out | apply below_alloc | apply pw_below_drewN | apply below_drew1 | refine below_set ?_ GE146.out) | exact HB.out)⟩⟩
     ·rw [if_neg c10] at H
      have c10b0 : decide (60 < (l0_9.length : Int)) = false := decide_eq_false c10
      have c10b1 : decide (60 < l0_9.length) = false := decide_eq_false (by omega)
      clear c10
      by_cases c12 : (l0_8.length : Int) > 70
      ·rw [if_pos c12] at H
       have c12b0 : decide (70 < (l0_8.length : Int)) = true := decide_eq_true c12
       have c12b1 : decide (70 < l0_8.length) = true := decide_eq_true (by omega)
       clear c12
       have H' := Aside0.mk H
       clear H
       have hcz13_0 : w3.cell? ⟨gb146, 0, none⟩ = some (.int .i64 a0_0) := (blk_cell BK146.out 0).trans rfl
       have hcz13_1 : w3.cell? ⟨gb146, 1, none⟩ = some (.int .i64 a0_1) := (blk_cell BK146.out 1).trans rfl
       have hcz13_2 : w3.cell? ⟨gb146, 2, none⟩ = some (.int .i64 a0_2) := (blk_cell BK146.out 2).trans rfl
       have hcz13_3 : w3.cell? ⟨gb146, 3, none⟩ = some (.int .i64 a0_3) := (blk_cell BK146.out 3).trans rfl
       have hcz13_4 : w3.cell? ⟨gb146, 4, none⟩ = some (.slice A0_4 l0_4.length c0_4) := (blk_cell BK146.out 4).trans rfl
       have hcz13_5 : w3.cell? ⟨gb146, 5, none⟩ = some (.slice A0_5 l0_5.length c0_5) := (blk_cell BK146.out 5).trans rfl
       have hcz13_6 : w3.cell? ⟨gb146, 6, none⟩ = some (.slice A0_6 l0_6.length c0_6) := (blk_cell BK146.out 6).trans rfl
       have hcz13_7 : w3.cell? ⟨gb146, 7, none⟩ = some (.slice A0_7 l0_7.length c0_7) := (blk_cell BK146.out 7).trans rfl
       have hcz13_8 : w3.cell? ⟨gb146, 8, none⟩ = some (.slice A0_8 l0_8.length c0_8) := (blk_cell BK146.out 8).trans rfl
       have hcz13_9 : w3.cell? ⟨gb146, 9, none⟩ = some (.slice A0_9 l0_9.length c0_9) := (blk_cell BK146.out 9).trans rfl
       have hfz13_0 := blk_frozen BK146.out 0
       have hfz13_1 := blk_frozen BK146.out 1
       have hfz13_2 := blk_frozen BK146.out 2
       have hfz13_3 := blk_frozen BK146.out 3
       have hfz13_4 := blk_frozen BK146.out 4
       have hfz13_5 := blk_frozen BK146.out 5
       have hfz13_6 := blk_frozen BK146.out 6
       have hfz13_7 := blk_frozen BK146.out 7
       have hfz13_8 := blk_frozen BK146.out 8
       have hfz13_9 := blk_frozen BK146.out 9
       go_wp2
       go_meet
       case rel => exact ⟨_, (true), (by first | rfl | (simp; done) | (simp [*]; done)), H', ⟨by first | omega | exact Nat.le_refl _⟩, ⟨by (with_reducible repeat (first | refine blk_drewN ?_ _ | refine blk_drew ?_ | refine blk_alloc ?_ _)); exact BK146.out⟩, ⟨by repeat (first | (with_reducible first | exact HB.out | apply below_alloc | apply pw_below_drewN | apply below_drew1 | refine below_set ?_ GE146.out) | exact HB.out)⟩⟩
      ·rw [if_neg c12] at H
       have c12b0 : decide (70 < (l0_8.length : Int)) = false := decide_eq_false c12
       have c12b1 : decide (70 < l0_8.length) = false := decide_eq_false (by omega)
       clear c12
       replace H := Option.bind_eq_some_iff.mp H
       obtain ⟨t147, A140, H⟩ := H
       replace H : (ensembleref19_Few.j0 k (!t147) a0_0 a0_1 a0_2 a0_3 l0_4 l0_5 l0_6 l0_7 l0_8 l0_9) = some r := H
       have A14 := Aside0.mk A140
       clear A140
       have H' := Aside0.mk H
       clear H
       have hcz15_0 : w3.cell? ⟨gb146, 0, none⟩ = some (.int .i64 a0_0) := (blk_cell BK146.out 0).trans rfl
       have hcz15_1 : w3.cell? ⟨gb146, 1, none⟩ = some (.int .i64 a0_1) := (blk_cell BK146.out 1).trans rfl
       have hcz15_2 : w3.cell? ⟨gb146, 2, none⟩ = some (.int .i64 a0_2) := (blk_cell BK146.out 2).trans rfl
       have hcz15_3 : w3.cell? ⟨gb146, 3, none⟩ = some (.int .i64 a0_3) := (blk_cell BK146.out 3).trans rfl
       have hcz15_4 : w3.cell? ⟨gb146, 4, none⟩ = some (.slice A0_4 l0_4.length c0_4) := (blk_cell BK146.out 4).trans rfl
       have hcz15_5 : w3.cell? ⟨gb146, 5, none⟩ = some (.slice A0_5 l0_5.length c0_5) := (blk_cell BK146.out 5).trans rfl
       have hcz15_6 : w3.cell? ⟨gb146, 6, none⟩ = some (.slice A0_6 l0_6.length c0_6) := (blk_cell BK146.out 6).trans rfl
       have hcz15_7 : w3.cell? ⟨gb146, 7, none⟩ = some (.slice A0_7 l0_7.length c0_7) := (blk_cell BK146.out 7).trans rfl
       have hcz15_8 : w3.cell? ⟨gb146, 8, none⟩ = some (.slice A0_8 l0_8.length c0_8) := (blk_cell BK146.out 8).trans rfl
       have hcz15_9 : w3.cell? ⟨gb146, 9, none⟩ = some (.slice A0_9 l0_9.length c0_9) := (blk_cell BK146.out 9).trans rfl
       have hfz15_0 := blk_frozen BK146.out 0
       have hfz15_1 := blk_frozen BK146.out 1
       have hfz15_2 := blk_frozen BK146.out 2
       have hfz15_3 := blk_frozen BK146.out 3
       have hfz15_4 := blk_frozen BK146.out 4
       have hfz15_5 := blk_frozen BK146.out 5
       have hfz15_6 := blk_frozen BK146.out 6
       have hfz15_7 := blk_frozen BK146.out 7
       have hfz15_8 := blk_frozen BK146.out 8
       have hfz15_9 := blk_frozen BK146.out 9
       go_wp2_with (first | (go_at_call 20; (with_reducible refine (ensembleref05_Right.calls k _ _ l0_8 t147 _ ?side1 ?side2 A14.out).mono ?_); (case side1 => repeat (first | exact (Kd.C_below HR0_8.out HB.out) | (with_reducible refine Kd.C_alloc ?_ _) | (with_reducible refine Kd.C_drewN ?_ _) | (with_reducible refine Kd.C_drew ?_))); (case side2 => exact HC0_8.out); rintro e w16 ⟨rfl, hb⟩; have n0_ := Aside0.mk (blk_below (g := gb146) (o := .cells #[.int .i64 a0_0, .int .i64 a0_1, .int .i64 a0_2, .int .i64 a0_3, .slice A0_4 l0_4.length c0_4, .slice A0_5 l0_5.length c0_5, .slice A0_6 l0_6.length c0_6, .slice A0_7 l0_7.length c0_7, .slice A0_8 l0_8.length c0_8, .slice A0_9 l0_9.length c0_9] 35 (0, 0)) (by (with_reducible repeat (first | refine blk_drewN ?_ _ | refine blk_drew ?_ | refine blk_alloc ?_ _)); exact BK146.out) hb); have n1_ := Aside0.mk (below_step (by repeat (first | (with_reducible first | exact HB.out | apply below_alloc | apply pw_below_drewN | apply below_drew1 | refine below_set ?_ GE146.out) | exact HB.out)) hb); clear BK146; clear HB; have BK146 := n0_; have HB := n1_; clear n0_ n1_; (try clear hb); (try clear hb2); (try clear hk); (try clear hi)))
       go_meet
       case rel => exact ⟨_, (!t147), (by first | rfl | (simp; done) | (simp [*]; done)), H', ⟨by first | omega | exact Nat.le_refl _⟩, ⟨by (with_reducible repeat (first | refine blk_drewN ?_ _ | refine blk_drew ?_ | refine blk_alloc ?_ _)); exact BK146.out⟩, ⟨by repeat (first | (with_reducible first | exact HB.out | apply below_alloc | apply pw_below_drewN | apply below_drew1 | refine below_set ?_ GE146.out) | exact HB.out)⟩⟩
 case rest =>
  clear HC2
  try clear c1
  try clear p2
  try clear c4
  try clear c4b0
  try clear c4b1
  try clear c6
  try clear c6b0
  try clear c6b1
  try clear c7
  try clear c8
  try clear c8b0
  try clear c8b1
  try clear c10
  try clear c10b0
  try clear c10b1
  try clear c12
  try clear c12b0
  try clear c12b1
  try clear hcz11_0
  try clear hcz11_1
  try clear hcz11_2
  try clear hcz11_3
  try clear hcz11_4
  try clear hcz11_5
  try clear hcz11_6
  try clear hcz11_7
  try clear hcz11_8
  try clear hcz11_9
  try clear hcz13_0
  try clear hcz13_1
  try clear hcz13_2
  try clear hcz13_3
  try clear hcz13_4
  try clear hcz13_5
  try clear hcz13_6
  try clear hcz13_7
  try clear hcz13_8
  try clear hcz13_9
  try clear hcz15_0
  try clear hcz15_1
  try clear hcz15_2
  try clear hcz15_3
  try clear hcz15_4
  try clear hcz15_5
  try clear hcz15_6
  try clear hcz15_7
  try clear hcz15_8
  try clear hcz15_9
  try clear hcz5_0
  try clear hcz5_1
  try clear hcz5_2
  try clear hcz5_3
  try clear hcz5_4
  try clear hcz5_5
  try clear hcz5_6
  try clear hcz5_7
  try clear hcz5_8
  try clear hcz5_9
  try clear hcz7_0
  try clear hcz7_1
  try clear hcz7_2
  try clear hcz7_3
  try clear hcz7_4
  try clear hcz7_5
  try clear hcz7_6
  try clear hcz7_7
  try clear hcz7_8
  try clear hcz7_9
  try clear hcz9_0
  try clear hcz9_1
  try clear hcz9_2
  try clear hcz9_3
  try clear hcz9_4
  try clear hcz9_5
  try clear hcz9_6
  try clear hcz9_7
  try clear hcz9_8
  try clear hcz9_9
  try clear hfz11_0
  try clear hfz11_1
  try clear hfz11_2
  try clear hfz11_3
  try clear hfz11_4
  try clear hfz11_5
  try clear hfz11_6
  try clear hfz11_7
  try clear hfz11_8
  try clear hfz11_9
  try clear hfz13_0
  try clear hfz13_1
  try clear hfz13_2
  try clear hfz13_3
  try clear hfz13_4
  try clear hfz13_5
  try clear hfz13_6
  try clear hfz13_7
  try clear hfz13_8
  try clear hfz13_9
  try clear hfz15_0
  try clear hfz15_1
  try clear hfz15_2
  try clear hfz15_3
  try clear hfz15_4
  try clear hfz15_5
  try clear hfz15_6
  try clear hfz15_7
  try clear hfz15_8
  try clear hfz15_9
  try clear hfz5_0
  try clear hfz5_1
  try clear hfz5_2
  try clear hfz5_3
  try clear hfz5_4
  try clear hfz5_5
  try clear hfz5_6
  try clear hfz5_7
  try clear hfz5_8
  try clear hfz5_9
  try clear hfz7_0
  try clear hfz7_1
  try clear hfz7_2
  try clear hfz7_3
  try clear hfz7_4
  try clear hfz7_5
  try clear hfz7_6
  try clear hfz7_7
  try clear hfz7_8
  try clear hfz7_9
  try clear hfz9_0
  try clear hfz9_1
  try clear hfz9_2
  try clear hfz9_3
  try clear hfz9_4
  try clear hfz9_5
  try clear hfz9_6
  try clear hfz9_7
  try clear hfz9_8
  try clear hfz9_9
  obtain ⟨kq, x37_1, rfl, HA, HJ1, BK146, HB⟩ := hcut
  cases kq with
  | zero => exact absurd HA.out (by simp [ensembleref19_Few.j0])
  | succ kj1 =>
   have H := HA.out
   clear HA
   simp only [ensembleref19_Few.j0] at H
   by_cases c17 : x37_1 = true
   ·subst c17
    have H1 : (some false) = some r := by rw [if_pos rfl] at H; exact H
    clear H
    have H := H1
    clear H1
    obtain rfl := Option.some.inj H
    go_wp2
    go_ret
    exact ⟨by first | rfl | (simp [errW_none, errW_some] <;> rfl) | (simp [*, errW_none, errW_some] <;> rfl), by repeat (first | (with_reducible first | exact HB.out | apply below_alloc | apply pw_below_drewN | apply below_drew1 | refine below_set ?_ GE146.out) | exact HB.out)⟩
   ·replace c17 := Bool.eq_false_iff.mpr c17
    subst c17
    have H1 : (ensembleref19_Few.l0 kj1 0 a0_0 a0_1 a0_2 a0_3 l0_4 l0_5 l0_6 l0_7 l0_8 l0_9) = some r := by rw [if_neg (show ¬ (false = true) by decide)] at H; exact H
    clear H
    have H := H1
    clear H1
    have H' := Aside0.mk H
    clear H
    go_wp2
    go_loopg [3] kj1 (fun kq v3 w' => ∃ (x3_2 : Int), v3 = .int .i64 x3_2 ∧ Aside0 (ensembleref19_Few.l0 kq x3_2 a0_0 a0_1 a0_2 a0_3 l0_4 l0_5 l0_6 l0_7 l0_8 l0_9 = some r) ∧ Aside0 (kq ≤ kj1) ∧ Aside0 (w'.heap[gb146]? = some (.cells #[.int .i64 a0_0, .int .i64 a0_1, .int .i64 a0_2, .int .i64 a0_3, (.slice A0_4 l0_4.length c0_4), (.slice A0_5 l0_5.length c0_5), (.slice A0_6 l0_6.length c0_6), (.slice A0_7 l0_7.length c0_7), (.slice A0_8 l0_8.length c0_8), (.slice A0_9 l0_9.length c0_9)] 35 (0, 0))) ∧ Aside0 (Below w.heap.size w w'))
    case atStart => exact ⟨(0), (by first | rfl | (simp; done) | (simp [*]; done)), H', ⟨Nat.le_refl _⟩, ⟨by (with_reducible repeat (first | refine blk_drewN ?_ _ | refine blk_drew ?_ | refine blk_alloc ?_ _)); exact BK146.out⟩, ⟨by repeat (first | (with_reducible first | exact HB.out | apply below_alloc | apply pw_below_drewN | apply below_drew1 | refine below_set ?_ GE146.out) | exact HB.out)⟩⟩
    case round =>
     clear H'
     try clear c1
     try clear p2
     try clear c4
     try clear c4b0
     try clear c4b1
     try clear c6
     try clear c6b0
     try clear c6b1
     try clear c7
     try clear c8
     try clear c8b0
     try clear c8b1
     try clear c10
     try clear c10b0
     try clear c10b1
     try clear c12
     try clear c12b0
     try clear c12b1
     try clear c17
     try clear hcz11_0
     try clear hcz11_1
     try clear hcz11_2
     try clear hcz11_3
     try clear hcz11_4
     try clear hcz11_5
     try clear hcz11_6
     try clear hcz11_7
     try clear hcz11_8
     try clear hcz11_9
     try clear hcz13_0
     try clear hcz13_1
     try clear hcz13_2
     try clear hcz13_3
     try clear hcz13_4
     try clear hcz13_5
     try clear hcz13_6
     try clear hcz13_7
     try clear hcz13_8
     try clear hcz13_9
     try clear hcz15_0
     try clear hcz15_1
     try clear hcz15_2
     try clear hcz15_3
     try clear hcz15_4
     try clear hcz15_5
     try clear hcz15_6
     try clear hcz15_7
     try clear hcz15_8
     try clear hcz15_9
     try clear hcz5_0
     try clear hcz5_1
     try clear hcz5_2
     try clear hcz5_3
     try clear hcz5_4
     try clear hcz5_5
     try clear hcz5_6
     try clear hcz5_7
     try clear hcz5_8
     try clear hcz5_9
     try clear hcz7_0
     try clear hcz7_1
     try clear hcz7_2
     try clear hcz7_3
     try clear hcz7_4
     try clear hcz7_5
     try clear hcz7_6
     try clear hcz7_7
     try clear hcz7_8
     try clear hcz7_9
     try clear hcz9_0
     try clear hcz9_1
     try clear hcz9_2
     try clear hcz9_3
     try clear hcz9_4
     try clear hcz9_5
     try clear hcz9_6
     try clear hcz9_7
     try clear hcz9_8
     try clear hcz9_9
     try clear hfz11_0
     try clear hfz11_1
     try clear hfz11_2
     try clear hfz11_3
     try clear hfz11_4
     try clear hfz11_5
     try clear hfz11_6
     try clear hfz11_7
     try clear hfz11_8
     try clear hfz11_9
     try clear hfz13_0
     try clear hfz13_1
     try clear hfz13_2
     try clear hfz13_3
     try clear hfz13_4
     try clear hfz13_5
     try clear hfz13_6
     try clear hfz13_7
     try clear hfz13_8
     try clear hfz13_9
     try clear hfz15_0
     try clear hfz15_1
     try clear hfz15_2
     try clear hfz15_3
     try clear hfz15_4
     try clear hfz15_5
     try clear hfz15_6
     try clear hfz15_7
     try clear hfz15_8
     try clear hfz15_9
     try clear hfz5_0
     try clear hfz5_1
     try clear hfz5_2
     try clear hfz5_3
     try clear hfz5_4
     try clear hfz5_5
     try clear hfz5_6
     try clear hfz5_7
     try clear hfz5_8
     try clear hfz5_9
     try clear hfz7_0
     try clear hfz7_1
     try clear hfz7_2
     try clear hfz7_3
     try clear hfz7_4
     try clear hfz7_5
     try clear hfz7_6
     try clear hfz7_7
     try clear hfz7_8
     try clear hfz7_9
     try clear hfz9_0
     try clear hfz9_1
     try clear hfz9_2
     try clear hfz9_3
     try clear hfz9_4
     try clear hfz9_5
     try clear hfz9_6
     try clear hfz9_7
     try clear hfz9_8
     try clear hfz9_9
     try clear p2
     obtain ⟨x3_2, rfl, HA, HK2, BK146, HB⟩ := hrel
     cases gk with
     | zero => exact absurd HA.out (by simp [ensembleref19_Few.l0])
     | succ k2 =>
      have H := HA.out
      clear HA
      simp only [ensembleref19_Few.l0] at H
      by_cases c18 : x3_2 < (l0_7.length : Int)
      ·rw [if_pos c18] at H
       have c18b0 : decide (x3_2 < (l0_7.length : Int)) = true := decide_eq_true c18
       clear c18
       by_cases c19 : 0 ≤ x3_2
       ·rw [if_pos c19] at H
        have c19b0 : decide (0 ≤ x3_2) = true := decide_eq_true c19
        clear c19
        by_cases c20 : (((rd_T62 l0_7 x3_2).f4).length : Int) > 40
        ·rw [if_pos c20] at H
         have c20b0 : decide (40 < (((rd_T62 l0_7 x3_2).f4).length : Int)) = true := decide_eq_true c20
         have c20b1 : decide (40 < ((rd_T62 l0_7 x3_2).f4).length) = true := decide_eq_true (by omega)
         clear c20
         obtain rfl := Option.some.inj H
         have hcz21_0 : wr.cell? ⟨gb146, 0, none⟩ = some (.int .i64 a0_0) := (blk_cell BK146.out 0).trans rfl
         have hcz21_1 : wr.cell? ⟨gb146, 1, none⟩ = some (.int .i64 a0_1) := (blk_cell BK146.out 1).trans rfl
         have hcz21_2 : wr.cell? ⟨gb146, 2, none⟩ = some (.int .i64 a0_2) := (blk_cell BK146.out 2).trans rfl
         have hcz21_3 : wr.cell? ⟨gb146, 3, none⟩ = some (.int .i64 a0_3) := (blk_cell BK146.out 3).trans rfl
         have hcz21_4 : wr.cell? ⟨gb146, 4, none⟩ = some (.slice A0_4 l0_4.length c0_4) := (blk_cell BK146.out 4).trans rfl
         have hcz21_5 : wr.cell? ⟨gb146, 5, none⟩ = some (.slice A0_5 l0_5.length c0_5) := (blk_cell BK146.out 5).trans rfl
         have hcz21_6 : wr.cell? ⟨gb146, 6, none⟩ = some (.slice A0_6 l0_6.length c0_6) := (blk_cell BK146.out 6).trans rfl
         have hcz21_7 : wr.cell? ⟨gb146, 7, none⟩ = some (.slice A0_7 l0_7.length c0_7) := (blk_cell BK146.out 7).trans rfl
         have hcz21_8 : wr.cell? ⟨gb146, 8, none⟩ = some (.slice A0_8 l0_8.length c0_8) := (blk_cell BK146.out 8).trans rfl
         have hcz21_9 : wr.cell? ⟨gb146, 9, none⟩ = some (.slice A0_9 l0_9.length c0_9) := (blk_cell BK146.out 9).trans rfl
         have hfz21_0 := blk_frozen BK146.out 0
         have hfz21_1 := blk_frozen BK146.out 1
         have hfz21_2 := blk_frozen BK146.out 2
         have hfz21_3 := blk_frozen BK146.out 3
         have hfz21_4 := blk_frozen BK146.out 4
         have hfz21_5 := blk_frozen BK146.out 5
         have hfz21_6 := blk_frozen BK146.out 6
         have hfz21_7 := blk_frozen BK146.out 7
         have hfz21_8 := blk_frozen BK146.out 8
         have hfz21_9 := blk_frozen BK146.out 9
         have p148 : 0 ≤ (x3_2 : Int) := of_decide_eq_true (by first | (with_reducible assumption) | assumption)
         have q148 : x3_2 < (l0_7.length : Int) := of_decide_eq_true (by first | (with_reducible assumption) | assumption)
         obtain ⟨ad148, A148_4, c148_4, e148, hx148_0, hx148_1, hx148_2, hx148_3, hx148_4, hl148_4, hi148_4⟩ := at_T62 HR0_7.out x3_2 p148 q148
         cases e148
         replace hx148_0 := (HB.out.cell (World.block_lt_of_cell? w _ hx148_0)).trans hx148_0
         replace hx148_1 := (HB.out.cell (World.block_lt_of_cell? w _ hx148_1)).trans hx148_1
         replace hx148_2 := (HB.out.cell (World.block_lt_of_cell? w _ hx148_2)).trans hx148_2
         replace hx148_3 := (HB.out.cell (World.block_lt_of_cell? w _ hx148_3)).trans hx148_3
         replace hx148_4 := (HB.out.cell (World.block_lt_of_cell? w _ hx148_4)).trans hx148_4
         have HR148_4 := Aside0.mk hi148_4
         have HC148_4 := Aside0.mk hl148_4
         clear hi148_4 hl148_4
         replace p148 := eq_true p148
         replace q148 := eq_true q148
         go_wp2
         go_ret
         exact ⟨by first | rfl | (simp [errW_none, errW_some] <;> rfl) | (simp [*, errW_none, errW_some] <;> rfl), by repeat (first | (with_reducible first | exact HB.out | apply below_alloc | apply pw_below_drewN | apply below_drew1 | refine below_set ?_ GE146.out) | exact HB.out)⟩
        ·rw [if_neg c20] at H
         have c20b0 : decide (40 < (((rd_T62 l0_7 x3_2).f4).length : Int)) = false := decide_eq_false c20
         have c20b1 : decide (40 < ((rd_T62 l0_7 x3_2).f4).length) = false := decide_eq_false (by omega)
         clear c20
         have H' := Aside0.mk H
         clear H
         have hcz22_0 : wr.cell? ⟨gb146, 0, none⟩ = some (.int .i64 a0_0) := (blk_cell BK146.out 0).trans rfl
         have hcz22_1 : wr.cell? ⟨gb146, 1, none⟩ = some (.int .i64 a0_1) := (blk_cell BK146.out 1).trans rfl
         have hcz22_2 : wr.cell? ⟨gb146, 2, none⟩ = some (.int .i64 a0_2) := (blk_cell BK146.out 2).trans rfl
         have hcz22_3 : wr.cell? ⟨gb146, 3, none⟩ = some (.int .i64 a0_3) := (blk_cell BK146.out 3).trans rfl
         have hcz22_4 : wr.cell? ⟨gb146, 4, none⟩ = some (.slice A0_4 l0_4.length c0_4) := (blk_cell BK146.out 4).trans rfl
         have hcz22_5 : wr.cell? ⟨gb146, 5, none⟩ = some (.slice A0_5 l0_5.length c0_5) := (blk_cell BK146.out 5).trans rfl
         have hcz22_6 : wr.cell? ⟨gb146, 6, none⟩ = some (.slice A0_6 l0_6.length c0_6) := (blk_cell BK146.out 6).trans rfl
         have hcz22_7 : wr.cell? ⟨gb146, 7, none⟩ = some (.slice A0_7 l0_7.length c0_7) := (blk_cell BK146.out 7).trans rfl
         have hcz22_8 : wr.cell? ⟨gb146, 8, none⟩ = some (.slice A0_8 l0_8.length c0_8) := (blk_cell BK146.out 8).trans rfl
         have hcz22_9 : wr.cell? ⟨gb146, 9, none⟩ = some (.slice A0_9 l0_9.length c0_9) := (blk_cell BK146.out 9).trans rfl
         have hfz22_0 := blk_frozen BK146.out 0
         have hfz22_1 := blk_frozen BK146.out 1
         have hfz22_2 := blk_frozen BK146.out 2
         have hfz22_3 := blk_frozen BK146.out 3
         have hfz22_4 := blk_frozen BK146.out 4
         have hfz22_5 := blk_frozen BK146.out 5
         have hfz22_6 := blk_frozen BK146.out 6
         have hfz22_7 := blk_frozen BK146.out 7
         have hfz22_8 := blk_frozen BK146.out 8
         have hfz22_9 := blk_frozen BK146.out 9
         have p148 : 0 ≤ (x3_2 : Int) := of_decide_eq_true (by first | (with_reducible assumption) | assumption)
         have q148 : x3_2 < (l0_7.length : Int) := of_decide_eq_true (by first | (with_reducible assumption) | assumption)
         obtain ⟨ad148, A148_4, c148_4, e148, hx148_0, hx148_1, hx148_2, hx148_3, hx148_4, hl148_4, hi148_4⟩ := at_T62 HR0_7.out x3_2 p148 q148
         cases e148
         replace hx148_0 := (HB.out.cell (World.block_lt_of_cell? w _ hx148_0)).trans hx148_0
         replace hx148_1 := (HB.out.cell (World.block_lt_of_cell? w _ hx148_1)).trans hx148_1
         replace hx148_2 := (HB.out.cell (World.block_lt_of_cell? w _ hx148_2)).trans hx148_2
         replace hx148_3 := (HB.out.cell (World.block_lt_of_cell? w _ hx148_3)).trans hx148_3
         replace hx148_4 := (HB.out.cell (World.block_lt_of_cell? w _ hx148_4)).trans hx148_4
         have HR148_4 := Aside0.mk hi148_4
         have HC148_4 := Aside0.mk hl148_4
         clear hi148_4 hl148_4
         replace p148 := eq_true p148
         replace q148 := eq_true q148
         go_wp2
         go_roundg k2
         case measure => have := HJ1.out; have := HK2.out; omega
         case rel => exact ⟨(wrap64 (x3_2 + 1)), (by first | rfl | (simp; done) | (simp [*]; done)), H', ⟨by have := HJ1.out; have := HK2.out; omega⟩, ⟨by (with_reducible repeat (first | refine blk_drewN ?_ _ | refine blk_drew ?_ | refine blk_alloc ?_ _)); exact BK146.out⟩, ⟨by repeat (first | (with_reducible first | exact HB.out | apply below_alloc | apply pw_below_drewN | apply below_drew1 | refine below_set ?_ GE146.out) | exact HB.out)⟩⟩
       ·rw [if_neg c19] at H
        exact absurd H (by simp)
      ·rw [if_neg c18] at H
       have c18b0 : decide (x3_2 < (l0_7.length : Int)) = false := decide_eq_false c18
       clear c18
       obtain rfl := Option.some.inj H
       have hcz23_0 : wr.cell? ⟨gb146, 0, none⟩ = some (.int .i64 a0_0) := (blk_cell BK146.out 0).trans rfl
       have hcz23_1 : wr.cell? ⟨gb146, 1, none⟩ = some (.int .i64 a0_1) := (blk_cell BK146.out 1).trans rfl
       have hcz23_2 : wr.cell? ⟨gb146, 2, none⟩ = some (.int .i64 a0_2) := (blk_cell BK146.out 2).trans rfl
       have hcz23_3 : wr.cell? ⟨gb146, 3, none⟩ = some (.int .i64 a0_3) := (blk_cell BK146.out 3).trans rfl
       have hcz23_4 : wr.cell? ⟨gb146, 4, none⟩ = some (.slice A0_4 l0_4.length c0_4) := (blk_cell BK146.out 4).trans rfl
       have hcz23_5 : wr.cell? ⟨gb146, 5, none⟩ = some (.slice A0_5 l0_5.length c0_5) := (blk_cell BK146.out 5).trans rfl
       have hcz23_6 : wr.cell? ⟨gb146, 6, none⟩ = some (.slice A0_6 l0_6.length c0_6) := (blk_cell BK146.out 6).trans rfl
       have hcz23_7 : wr.cell? ⟨gb146, 7, none⟩ = some (.slice A0_7 l0_7.length c0_7) := (blk_cell BK146.out 7).trans rfl
       have hcz23_8 : wr.cell? ⟨gb146, 8, none⟩ = some (.slice A0_8 l0_8.length c0_8) := (blk_cell BK146.out 8).trans rfl
       have hcz23_9 : wr.cell? ⟨gb146, 9, none⟩ = some (.slice A0_9 l0_9.length c0_9) := (blk_cell BK146.out 9).trans rfl
       have hfz23_0 := blk_frozen BK146.out 0
       have hfz23_1 := blk_frozen BK146.out 1
       have hfz23_2 := blk_frozen BK146.out 2
       have hfz23_3 := blk_frozen BK146.out 3
       have hfz23_4 := blk_frozen BK146.out 4
       have hfz23_5 := blk_frozen BK146.out 5
       have hfz23_6 := blk_frozen BK146.out 6
       have hfz23_7 := blk_frozen BK146.out 7
       have hfz23_8 := blk_frozen BK146.out 8
       have hfz23_9 := blk_frozen BK146.out 9
       go_wp2
       go_ret
       exact ⟨by first | rfl | (simp [errW_none, errW_some] <;> rfl) | (simp [*, errW_none, errW_some] <;> rfl), by repeat (first | (with_reducible first | exact HB.out | apply below_alloc | apply pw_below_drewN | apply below_drew1 | refine below_set ?_ GE146.out) | exact HB.out)⟩
end Go.Proofs.Ytpedlompipabdaa.P
namespace Go.Proofs.Ytpedlompipabdaa.P
open Go.RowKit Go.Proofs.YtpedlompipabdaaW.PrintWords Go.Proofs.YtpedlompipabdaaW.PrintLast Go.Proofs.YtpedlompipabdaaW.PrintMore
open Go.Proofs.Ytpedlompipabdaa.Bits Go.Proofs.Ytpedlompipabdaa.Mp
set_option linter.unusedVariables false
set_option linter.unusedSimpArgs false
theorem w_id {n : Int} (h : -9223372036854775808 ≤ n ∧ n ≤ 9223372036854775807) : wrap64 n = n := by unfold wrap64; omega
theorem rd58' (l : List S58) (i : Nat) (h : i < l.length) : rd_T58 l (i : Int) = l[i] := by simp [rd_T58, List.getD_eq_getElem?_getD, List.getElem?_eq_getElem h]
theorem rd83' (l : List S83) (i : Nat) (h : i < l.length) : rd_T83 l (i : Int) = l[i] := by simp [rd_T83, List.getD_eq_getElem?_getD, List.getElem?_eq_getElem h]
theorem rd84' (l : List S84) (i : Nat) (h : i < l.length) : rd_T84 l (i : Int) = l[i] := by simp [rd_T84, List.getD_eq_getElem?_getD, List.getElem?_eq_getElem h]
theorem rd62' (l : List S62) (i : Nat) (h : i < l.length) : rd_T62 l (i : Int) = l[i] := by simp [rd_T62, List.getD_eq_getElem?_getD, List.getElem?_eq_getElem h]
theorem nx (i : Nat) (h : (i : Int) < 9223372036854775807) : wrap64 ((i : Int) + 1) = ((i + 1 : Nat) : Int) := by rw [w_id (by omega)]; omega
def isAt (a b : Int) (f : S58) : Bool := f.f0.f0 == a && (f.f0.f1 == b)
def findV (view : List S58) (a b : Int) : Int := match view.findIdx? (isAt a b) with
 | some j => (j : Int)
 | none => -1
theorem find_l (view : List S58) (a b : Int) (hl : view.length < 4398046511104) (d : Nat) : ∀ i : Nat, i ≤ view.length → view.length - i = d →
  Ev (fun k => ensembleref05_find.l0 k view (i : Int) a b) (match (view.drop i).findIdx? (isAt a b) with | some j => ((i + j : Nat) : Int) | none => -1) := by
 induction d with
 | zero =>
  intro i hi hd
  rw [List.drop_eq_nil_of_le (by omega)]
  exact Ev.step (f := fun _ => some (-1)) (fun k => by rw [ensembleref05_find.l0, if_neg (by omega)]) (Ev.now _)
 | succ d ih =>
  intro i hi hd
  have hil : i < view.length := by omega
  rw [List.drop_eq_getElem_cons hil, List.findIdx?_cons]
  by_cases h : isAt a b view[i] = true
  ·rw [if_pos h]
   refine Ev.step (f := fun _ => some ((i + 0 : Nat) : Int)) (fun k => ?_) (Ev.now _)
   rw [ensembleref05_find.l0, if_pos (by omega), if_pos (by omega), rd58' view i hil, if_pos (show (view[i].f0.f0 == a && (view[i].f0.f1 == b)) = true from h)]; rfl
  ·rw [if_neg h]
   have I := ih (i + 1) (by omega) (by omega)
   refine Ev.step (f := fun k => ensembleref05_find.l0 k view ((i + 1 : Nat) : Int) a b) (fun k => ?_) ?_
   ·rw [ensembleref05_find.l0, if_pos (by omega), if_pos (by omega), rd58' view i hil, if_neg (show ¬ (view[i].f0.f0 == a && (view[i].f0.f1 == b)) = true from h), w_id (by omega)]; rfl
   ·cases hf : (view.drop (i + 1)).findIdx? (isAt a b) with
    | none => rw [hf] at I; exact I
    | some j =>
     rw [hf] at I
     simp only [Option.map_some]
     rw [show i + (j + 1) = i + 1 + j by omega]; exact I
theorem find_ev (view : List S58) (a b : Int) (hl : view.length < 4398046511104) : Ev (fun k => ensembleref05_find.f k view a b) (findV view a b) := by
 have := find_l view a b hl view.length 0 (by omega) (by omega)
 rw [List.drop_zero] at this
 unfold findV
 cases hf : view.findIdx? (isAt a b) with
 | none => rw [hf] at this; exact this
 | some j => rw [hf] at this; simp only [Nat.zero_add] at this; exact this
def spot (f : S58) : Int × Int := (f.f0.f0, f.f0.f1)
def cpOk (f : S58) : Prop := 0 ≤ f.f2 ∧ f.f2 ≤ 1048576
def viewR (view : List S58) : Prop := (∀ f ∈ view, cpOk f) ∧ (view.map spot).Nodup
theorem isAt_iff {a b : Int} {f : S58} : isAt a b f = true ↔ spot f = (a, b) := by
 unfold isAt spot; simp
theorem findV_neg {view : List S58} {a b : Int} : findV view a b < 0 ↔ (a, b) ∉ view.map spot := by
 unfold findV
 cases h : view.findIdx? (isAt a b) with
 | none =>
  rw [List.findIdx?_eq_none_iff] at h
  simp only [List.mem_map, not_exists, not_and]
  exact ⟨fun _ f hf e => (by rw [← isAt_iff, h f hf] at e; cases e), fun _ => by omega⟩
 | some j =>
  rw [List.findIdx?_eq_some_iff_getElem] at h
  obtain ⟨hj, h1, _⟩ := h
  constructor
  ·intro h; simp only at h; omega
  ·intro hn
   exact absurd (List.mem_map.2 ⟨view[j], List.getElem_mem hj, isAt_iff.1 h1⟩) hn
theorem right05_l (view : List S58) (hl : view.length < 4398046511104) (d : Nat) : ∀ i : Nat, i ≤ view.length → view.length - i = d → (∀ f ∈ view.take i, cpOk f) → ((view.take i).map spot).Nodup →
  (Ev (fun k => ensembleref05_Right.l0 k view (i : Int)) true ∧ viewR view) ∨ Ev (fun k => ensembleref05_Right.l0 k view (i : Int)) false := by
 induction d with
 | zero =>
  intro i hi hd hc hn
  left
  obtain rfl : i = view.length := by omega
  rw [List.take_length] at hc hn
  exact ⟨Ev.step (f := fun _ => some true) (fun k => by rw [ensembleref05_Right.l0, if_neg (by omega)]) (Ev.now _), hc, hn⟩
 | succ d ih =>
  intro i hi hd hc hn
  have hil : i < view.length := by omega
  by_cases h1 : (view[i]).f2 < 0
  ·right
   exact Ev.step (f := fun _ => some false) (fun k => by rw [ensembleref05_Right.l0, if_pos (by omega), if_pos (by omega), rd58' view i hil, if_pos h1]) (Ev.now _)
  by_cases h2 : (view[i]).f2 > 1048576
  ·right
   exact Ev.step (f := fun _ => some false) (fun k => by rw [ensembleref05_Right.l0, if_pos (by omega), if_pos (by omega), rd58' view i hil, if_neg h1, if_pos h2]) (Ev.now _)
  have hF := find_ev (view.take i) (view[i]).f0.f0 (view[i]).f0.f1 (by rw [List.length_take]; omega)
  have hstep : ∀ k, ensembleref05_Right.l0 (k + 1) view (i : Int) = (ensembleref05_find.f k (view.take i) (view[i]).f0.f0 (view[i]).f0.f1).bind fun t127 => (if t127 ≥ 0 then (some false) else (ensembleref05_Right.l0 k view (wrap64 ((i : Int) + 1)))) := fun k => by
   rw [ensembleref05_Right.l0, if_pos (by omega), if_pos (by omega), rd58' view i hil, if_neg h1, if_neg h2, if_pos (by omega), Int.toNat_natCast]
  by_cases h3 : findV (view.take i) (view[i]).f0.f0 (view[i]).f0.f1 ≥ 0
  ·right
   exact Ev.step hstep (Ev.bind hF (Ev.congr (fun k => by rw [if_pos h3]) (Ev.now _)))
  ·have hcon : ∀ r, Ev (fun k => ensembleref05_Right.l0 k view ((i + 1 : Nat) : Int)) r → Ev (fun k => ensembleref05_Right.l0 k view (i : Int)) r := fun r hr =>
    Ev.step hstep (Ev.bind hF (Ev.congr (fun k => by rw [if_neg h3, w_id (by omega)]; congr 1) hr))
   have hnm := findV_neg.1 (show findV (view.take i) (view[i]).f0.f0 (view[i]).f0.f1 < 0 by omega)
   rcases ih (i + 1) (by omega) (by omega) (by
    intro f hf
    rw [List.take_succ_eq_append_getElem hil] at hf
    rcases List.mem_append.1 hf with hf | hf
    ·exact hc f hf
    ·rw [List.mem_singleton.1 hf]; exact ⟨by omega, by omega⟩) (by
    rw [List.take_succ_eq_append_getElem hil, List.map_append, List.nodup_append]
    refine ⟨hn, by simp, fun x hx y hy => ?_⟩
    rw [List.map_singleton, List.mem_singleton] at hy
    rintro rfl
    apply hnm
    rw [hy] at hx
    exact hx) with ⟨h, hv⟩ | h
   ·exact .inl ⟨hcon _ h, hv⟩
   ·exact .inr (hcon _ h)
theorem right05_ev (view : List S58) (hl : view.length < 4398046511104) : (Ev (fun k => ensembleref05_Right.f k view) true ∧ viewR view) ∨ Ev (fun k => ensembleref05_Right.f k view) false := by
 have := right05_l view hl view.length 0 (by omega) (by omega) (by simp) (by simp)
 exact this
def domOk (d : S84) : Prop := (0 ≤ d.f0 ∧ d.f0 ≤ 16) ∧ 0 ≤ d.f1 ∧ d.f1 ≤ 1024
def nodeOk (n : S83) : Prop := 1 ≤ n.f0.length ∧ n.f0.length ≤ 4 ∧ ∀ d ∈ n.f0, domOk d
theorem r02_l1 (c : List S83) (x3 : Int) (l : List S84) (hl : l.length ≤ 4) {b' : Bool} (hrest : Ev (fun k => ensembleref02_Right.l0 k (wrap64 (x3 + 1)) c) b') (d : Nat) : ∀ i : Nat, i ≤ l.length → l.length - i = d →
  ∃ b, Ev (fun k => ensembleref02_Right.l1 k x3 l (i : Int) c) b ∧ (b = true → b' = true ∧ ∀ x ∈ l.drop i, domOk x) := by
 induction d with
 | zero =>
  intro i hi hd
  exact ⟨b', Ev.step (fun k => by rw [ensembleref02_Right.l1, if_neg (show ¬ (i : Int) < (l.length : Int) by omega)]) hrest, fun h => ⟨h, by rw [List.drop_eq_nil_of_le (by omega)]; simp⟩⟩
 | succ d ih =>
  intro i hi hd
  have hil : i < l.length := by omega
  have st : ∀ k, ensembleref02_Right.l1 (k + 1) x3 l (i : Int) c = if (l[i]).f0 < 0 then some false else if (l[i]).f0 > 16 then some false else if (l[i]).f1 < 0 then some false else if (l[i]).f1 > 1024 then some false else ensembleref02_Right.l1 k x3 l ((i + 1 : Nat) : Int) c := fun k => by
   rw [ensembleref02_Right.l1, if_pos (show (i : Int) < (l.length : Int) by omega), if_pos (show (0 : Int) ≤ (i : Int) by omega), rd84' l i hil, nx i (by omega)]
  by_cases h1 : (l[i]).f0 < 0
  ·exact ⟨false, Ev.step st (Ev.congr (fun k => by rw [if_pos h1]) (Ev.now _)), fun h => by cases h⟩
  by_cases h2 : (l[i]).f0 > 16
  ·exact ⟨false, Ev.step st (Ev.congr (fun k => by rw [if_neg h1, if_pos h2]) (Ev.now _)), fun h => by cases h⟩
  by_cases h3 : (l[i]).f1 < 0
  ·exact ⟨false, Ev.step st (Ev.congr (fun k => by rw [if_neg h1, if_neg h2, if_pos h3]) (Ev.now _)), fun h => by cases h⟩
  by_cases h4 : (l[i]).f1 > 1024
  ·exact ⟨false, Ev.step st (Ev.congr (fun k => by rw [if_neg h1, if_neg h2, if_neg h3, if_pos h4]) (Ev.now _)), fun h => by cases h⟩
  obtain ⟨b, hb, hf⟩ := ih (i + 1) (by omega) (by omega)
  refine ⟨b, Ev.step st (Ev.congr (fun k => by rw [if_neg h1, if_neg h2, if_neg h3, if_neg h4]) hb), fun h => ⟨(hf h).1, ?_⟩⟩
  rw [List.drop_eq_getElem_cons hil]
  intro x hx
  rcases List.mem_cons.1 hx with rfl | hx
  ·exact ⟨⟨by omega, by omega⟩, by omega, by omega⟩
  ·exact (hf h).2 x hx
theorem r02_l0 (c : List S83) (hl : c.length ≤ 16) (d : Nat) : ∀ i : Nat, i ≤ c.length → c.length - i = d →
  ∃ b, Ev (fun k => ensembleref02_Right.l0 k (i : Int) c) b ∧ (b = true → ∀ x ∈ c.drop i, nodeOk x) := by
 induction d with
 | zero =>
  intro i hi hd
  exact ⟨true, Ev.step (f := fun _ => some true) (fun k => by rw [ensembleref02_Right.l0, if_neg (show ¬ (i : Int) < (c.length : Int) by omega)]) (Ev.now _), fun h => by rw [List.drop_eq_nil_of_le (by omega)]; simp⟩
 | succ d ih =>
  intro i hi hd
  have hil : i < c.length := by omega
  obtain ⟨b, hb, hf⟩ := ih (i + 1) (by omega) (by omega)
  have hb' : Ev (fun k => ensembleref02_Right.l0 k (wrap64 ((i : Int) + 1)) c) b := by rw [nx i (by omega)]; exact hb
  have st : ∀ k, ensembleref02_Right.l0 (k + 1) (i : Int) c = ensembleref02_Right.j2 k (i : Int) c[i].f0 (decide (c[i].f0.length < 1 ∨ 4 < c[i].f0.length)) c := fun k => by
   rw [ensembleref02_Right.l0, if_pos (show (i : Int) < (c.length : Int) by omega), if_pos (show (0 : Int) ≤ (i : Int) by omega), rd83' c i hil]
   by_cases h1 : (c[i].f0.length : Int) < 1
   ·rw [if_pos h1, decide_eq_true (by omega)]
   ·rw [if_neg h1]
    congr 1
    apply decide_eq_decide.2
    omega
  by_cases h1 : c[i].f0.length < 1 ∨ 4 < c[i].f0.length
  ·exact ⟨false, Ev.step st (Ev.step (f := fun _ => some false) (fun k => by rw [ensembleref02_Right.j2, if_pos (decide_eq_true h1)]) (Ev.now _)), fun h => by cases h⟩
  obtain ⟨b2, hb2, hf2⟩ := r02_l1 c (i : Int) c[i].f0 (by omega) hb' c[i].f0.length 0 (by omega) (by omega)
  refine ⟨b2, Ev.step st (Ev.step (fun k => by rw [ensembleref02_Right.j2, if_neg (by rw [decide_eq_false h1]; decide)]; rfl) hb2), fun h => ?_⟩
  obtain ⟨g1, g2⟩ := hf2 h
  rw [List.drop_eq_getElem_cons hil]
  intro x hx
  rcases List.mem_cons.1 hx with rfl | hx
  ·exact ⟨by omega, by omega, by simpa using g2⟩
  ·exact hf g1 x hx
theorem r02_ev (c : List S83) : ∃ b, Ev (fun k => ensembleref02_Right.f k c) b ∧ (b = true → c.length ≤ 16 ∧ ∀ x ∈ c, nodeOk x) := by
 have st : ∀ k, ensembleref02_Right.f k c = ensembleref02_Right.j0 k (decide (c.length < 1 ∨ 16 < c.length)) c := fun k => by
  unfold ensembleref02_Right.f
  by_cases h1 : (c.length : Int) < 1
  ·rw [if_pos h1, decide_eq_true (by omega)]
  ·rw [if_neg h1]
   congr 1
   apply decide_eq_decide.2
   omega
 by_cases h1 : c.length < 1 ∨ 16 < c.length
 ·exact ⟨false, Ev.congr st (Ev.step (f := fun _ => some false) (fun k => by rw [ensembleref02_Right.j0, if_pos (decide_eq_true h1)]) (Ev.now _)), fun h => by cases h⟩
 ·obtain ⟨b, hb, hf⟩ := r02_l0 c (by omega) c.length 0 (by omega) (by omega)
  exact ⟨b, Ev.congr st (Ev.step (fun k => by rw [ensembleref02_Right.j0, if_neg (by rw [decide_eq_false h1]; decide)]; rfl) hb), fun h => ⟨by omega, by simpa using hf h⟩⟩
theorem r06_ev (l : List S49) : ∃ b, Ev (fun k => ensembleref06_Right.f k l) b ∧ (b = true → l.length ≤ 8) := by
 have st : ∀ k, ensembleref06_Right.f k l = ensembleref06_Right.j0 k l (decide (l.length < 1 ∨ 8 < l.length)) := fun k => by
  unfold ensembleref06_Right.f
  by_cases h1 : (l.length : Int) < 1
  ·rw [if_pos h1, decide_eq_true (by omega)]
  ·rw [if_neg h1]
   congr 1
   apply decide_eq_decide.2
   omega
 by_cases h1 : l.length < 1 ∨ 8 < l.length
 ·exact ⟨false, Ev.congr st (Ev.step (f := fun _ => some false) (fun k => by rw [ensembleref06_Right.j0, if_pos (decide_eq_true h1)]) (Ev.now _)), fun h => by cases h⟩
 ·have main : ∀ d i : Nat, i ≤ l.length → l.length - i = d → ∃ b, Ev (fun k => ensembleref06_Right.l0 k l (i : Int)) b := by
   intro d
   induction d with
   | zero =>
    intro i hi hd
    exact ⟨true, Ev.step (f := fun _ => some true) (fun k => by rw [ensembleref06_Right.l0, if_neg (show ¬ (i : Int) < (l.length : Int) by omega)]) (Ev.now _)⟩
   | succ d ih =>
    intro i hi hd
    obtain ⟨b, hb⟩ := ih (i + 1) (by omega) (by omega)
    obtain ⟨m, hm⟩ : ∃ m, ensembleref06_may.f (rd_T49 l (i : Int)).f0 (rd_T49 l (i : Int)).f1 = some m := by
     unfold ensembleref06_may.f
     repeat' split
     all_goals exact ⟨_, rfl⟩
    have st : ∀ k, ensembleref06_Right.l0 (k + 1) l (i : Int) = if m = true then ensembleref06_Right.l0 k l ((i + 1 : Nat) : Int) else some false := fun k => by
     rw [ensembleref06_Right.l0, if_pos (show (i : Int) < (l.length : Int) by omega), if_pos (show (0 : Int) ≤ (i : Int) by omega), hm, Option.bind_some, nx i (by omega)]
    cases m with
    | true => exact ⟨b, Ev.step st (Ev.congr (fun k => by rw [if_pos rfl]) hb)⟩
    | false => exact ⟨false, Ev.step st (Ev.congr (fun k => by rw [if_neg (by decide)]) (Ev.now _))⟩
  obtain ⟨b, hb⟩ := main l.length 0 (by omega) (by omega)
  exact ⟨b, Ev.congr st (Ev.step (fun k => by rw [ensembleref06_Right.j0, if_neg (by rw [decide_eq_false h1]; decide)]; rfl) hb), fun h => by omega⟩
theorem r10_ev (l : List Int) : ∃ b, Ev (fun k => ensembleref10_Right.f k l) b := by
 have st : ∀ k, ensembleref10_Right.f k l = ensembleref10_Right.j0 k l (decide (l.length < 1 ∨ 8 < l.length)) := fun k => by
  unfold ensembleref10_Right.f
  by_cases h1 : (l.length : Int) < 1
  ·rw [if_pos h1, decide_eq_true (by omega)]
  ·rw [if_neg h1]
   congr 1
   apply decide_eq_decide.2
   omega
 by_cases h1 : l.length < 1 ∨ 8 < l.length
 ·exact ⟨false, Ev.congr st (Ev.step (f := fun _ => some false) (fun k => by rw [ensembleref10_Right.j0, if_pos (decide_eq_true h1)]) (Ev.now _))⟩
 ·have main : ∀ d i : Nat, i ≤ l.length → l.length - i = d → ∃ b, Ev (fun k => ensembleref10_Right.l0 k l (i : Int)) b := by
   intro d
   induction d with
   | zero =>
    intro i hi hd
    exact ⟨true, Ev.step (f := fun _ => some true) (fun k => by rw [ensembleref10_Right.l0, if_neg (show ¬ (i : Int) < (l.length : Int) by omega)]) (Ev.now _)⟩
   | succ d ih =>
    intro i hi hd
    obtain ⟨b, hb⟩ := ih (i + 1) (by omega) (by omega)
    have st : ∀ k, ensembleref10_Right.l0 (k + 1) l (i : Int) = if rd l (i : Int) < 0 then some false else if rd l (i : Int) > 16 then some false else ensembleref10_Right.l0 k l ((i + 1 : Nat) : Int) := fun k => by
     rw [ensembleref10_Right.l0, if_pos (show (i : Int) < (l.length : Int) by omega), if_pos (show (0 : Int) ≤ (i : Int) by omega), nx i (by omega)]
    by_cases g1 : rd l (i : Int) < 0
    ·exact ⟨false, Ev.step st (Ev.congr (fun k => by rw [if_pos g1]) (Ev.now _))⟩
    by_cases g2 : rd l (i : Int) > 16
    ·exact ⟨false, Ev.step st (Ev.congr (fun k => by rw [if_neg g1, if_pos g2]) (Ev.now _))⟩
    exact ⟨b, Ev.step st (Ev.congr (fun k => by rw [if_neg g1, if_neg g2]) hb)⟩
  obtain ⟨b, hb⟩ := main l.length 0 (by omega) (by omega)
  exact ⟨b, Ev.congr st (Ev.step (fun k => by rw [ensembleref10_Right.j0, if_neg (by rw [decide_eq_false h1]; decide)]; rfl) hb)⟩
def maxQ : Nat := 5864062014805
theorem quotas_ev (c : List S83) (q : List S51) (a2 a3 a4 a5 : Int) (hq : q.length ≤ maxQ) : ∃ r, Ev (fun k => ensembleref16_quotas.f k c q a2 a3 a4 a5) r ∧ r.length = q.length := by
 have hq' : q.length ≤ 5864062014805 := hq
 have main : ∀ d i : Nat, i ≤ q.length → q.length - i = d → ∀ acc : List S49, acc.length = i → ∃ r, Ev (fun k => ensembleref16_quotas.l0 k acc (i : Int) c q a2 a3 a4 a5) r ∧ r.length = q.length := by
  intro d
  induction d with
  | zero =>
   intro i hi hd acc ha
   exact ⟨acc, Ev.step (f := fun _ => some acc) (fun k => by rw [ensembleref16_quotas.l0, if_neg (show ¬ (i : Int) < (q.length : Int) by omega)]) (Ev.now _), by omega⟩
  | succ d ih =>
   intro i hi hd acc ha
   obtain ⟨r, hr, hl⟩ := ih (i + 1) (by omega) (by omega) (acc ++ [(⟨(rd_T51 q (i : Int)).f0.f0, (rd_T51 q (i : Int)).f0.f1⟩ : S49)]) (by simp [ha])
   exact ⟨r, Ev.step (fun k => by rw [ensembleref16_quotas.l0, if_pos (show (i : Int) < (q.length : Int) by omega), if_pos (show (0 : Int) ≤ (i : Int) by omega), if_pos (show acc.length < 8796093022208 by omega), nx i (by omega)]) hr, hl⟩
 exact main q.length 0 (by omega) (by omega) [] rfl
theorem rooms_ev (c : List S83) (q : List S51) (a2 a3 a4 a5 : Int) (hq : q.length ≤ maxQ) : ∃ r, Ev (fun k => ensembleref16_rooms.f k c q a2 a3 a4 a5) r := by
 have hq' : q.length ≤ 5864062014805 := hq
 have main : ∀ d i : Nat, i ≤ q.length → q.length - i = d → ∀ acc : List Int, acc.length = i → ∃ r, Ev (fun k => ensembleref16_rooms.l0 k acc (i : Int) c q a2 a3 a4 a5) r := by
  intro d
  induction d with
  | zero =>
   intro i hi hd acc ha
   exact ⟨acc, Ev.step (f := fun _ => some acc) (fun k => by rw [ensembleref16_rooms.l0, if_neg (show ¬ (i : Int) < (q.length : Int) by omega)]) (Ev.now _)⟩
  | succ d ih =>
   intro i hi hd acc ha
   obtain ⟨r, hr⟩ := ih (i + 1) (by omega) (by omega) (acc ++ [(rd_T51 q (i : Int)).f1]) (by simp [ha])
   exact ⟨r, Ev.step (fun k => by rw [ensembleref16_rooms.l0, if_pos (show (i : Int) < (q.length : Int) by omega), if_pos (show (0 : Int) ≤ (i : Int) by omega), if_pos (show acc.length < 17592186044416 by omega), nx i (by omega)]) hr⟩
 exact main q.length 0 (by omega) (by omega) [] rfl
theorem in_some (a b c : Int) : ∃ r, ensembleref16_in.f a b c = some r := by
 unfold ensembleref16_in.f
 split
 all_goals exact ⟨_, rfl⟩
def CfgOk (c : List S83) (q : List S51) : Prop := c.length ≤ 16 ∧ (∀ x ∈ c, nodeOk x) ∧ q.length ≤ 8
theorem r16_ev (c : List S83) (q : List S51) (a2 a3 a4 a5 : Int) (hq : q.length ≤ maxQ) : ∃ b, Ev (fun k => ensembleref16_Right.f k c q a2 a3 a4 a5) b ∧ (b = true → CfgOk c q) := by
 obtain ⟨b1, e1, f1⟩ := r02_ev c
 obtain ⟨r2, e2, l2⟩ := quotas_ev c q a2 a3 a4 a5 hq
 obtain ⟨b3, e3, f3⟩ := r06_ev r2
 obtain ⟨r4, e4⟩ := rooms_ev c q a2 a3 a4 a5 hq
 obtain ⟨b5, e5⟩ := r10_ev r4
 obtain ⟨m6, e6⟩ := in_some a2 1 4
 obtain ⟨m7, e7⟩ := in_some a3 0 64
 obtain ⟨m8, e8⟩ := in_some a4 1 1024
 obtain ⟨m9, e9⟩ := in_some a5 1 1024
 cases b1 with
 | false => exact ⟨false, by unfold ensembleref16_Right.f; exact Ev.bind e1 (Ev.congr (fun k => by rw [if_neg (by decide)]) (Ev.now _)), fun h => by cases h⟩
 | true =>
  cases b3 with
  | false =>
   refine ⟨false, ?_, fun h => by cases h⟩
   unfold ensembleref16_Right.f
   refine Ev.bind e1 ?_
   simp only [↓reduceIte]
   refine Ev.bind e2 (Ev.bind e3 ?_)
   simp only [Bool.false_eq_true, ↓reduceIte]
   exact Ev.now _
  | true =>
   have ok : CfgOk c q := ⟨(f1 rfl).1, (f1 rfl).2, by have := f3 rfl; omega⟩
   obtain ⟨z, hz⟩ : ∃ z, (if b5 = true then ((ensembleref16_in.f a2 1 4).bind fun t132 => (if t132 = true then ((ensembleref16_in.f a3 0 64).bind fun t133 => (if t133 = true then ((ensembleref16_in.f a4 1 1024).bind fun t134 => (if t134 = true then ((ensembleref16_in.f a5 1 1024).bind fun t135 => (some t135)) else (some false))) else (some false))) else (some false))) else (some false)) = some z := by
    rw [e6, e7, e8, e9]
    simp only [Option.bind_some]
    repeat' split
    all_goals exact ⟨_, rfl⟩
   refine ⟨z, ?_, fun _ => ok⟩
   unfold ensembleref16_Right.f
   refine Ev.bind e1 ?_
   simp only [↓reduceIte]
   refine Ev.bind e2 (Ev.bind e3 ?_)
   simp only [↓reduceIte]
   refine Ev.bind e4 (Ev.bind e5 ?_)
   exact Ev.congr (fun k => hz) (Ev.now _)
theorem few19_ev (a0 a1 a2 a3 : Int) (lW : List Int) (lD : List Bool) (lG : List S47) (lH : List S62) (lF : List S58) (lU : List S49) : ∃ b, Ev (fun k => ensembleref19_Few.f k a0 a1 a2 a3 lW lD lG lH lF lU) b ∧
  (b = true → lG.length ≤ 450 ∧ lH.length ≤ 60 ∧ lW.length ≤ 60 ∧ lU.length ≤ 60 ∧ lF.length ≤ 70 ∧ viewR lF ∧ ∀ h ∈ lH, h.f4.length ≤ 40) := by
 have jt : Ev (fun k => ensembleref19_Few.j0 k true a0 a1 a2 a3 lW lD lG lH lF lU) false := Ev.step (f := fun _ => some false) (fun k => by rw [ensembleref19_Few.j0, if_pos rfl]) (Ev.now _)
 by_cases h1 : (lG.length : Int) > 450
 ·exact ⟨false, Ev.congr (fun k => by rw [ensembleref19_Few.f, if_pos h1]) jt, fun h => by cases h⟩
 by_cases h2 : (lH.length : Int) > 60
 ·exact ⟨false, Ev.congr (fun k => by rw [ensembleref19_Few.f, if_neg h1, if_pos h2]) jt, fun h => by cases h⟩
 by_cases h3 : (lW.length : Int) > 60
 ·exact ⟨false, Ev.congr (fun k => by rw [ensembleref19_Few.f, if_neg h1, if_neg h2, if_pos h3]) jt, fun h => by cases h⟩
 by_cases h4 : (lU.length : Int) > 60
 ·exact ⟨false, Ev.congr (fun k => by rw [ensembleref19_Few.f, if_neg h1, if_neg h2, if_neg h3, if_pos h4]) jt, fun h => by cases h⟩
 by_cases h5 : (lF.length : Int) > 70
 ·exact ⟨false, Ev.congr (fun k => by rw [ensembleref19_Few.f, if_neg h1, if_neg h2, if_neg h3, if_neg h4, if_pos h5]) jt, fun h => by cases h⟩
 have st : ∀ k, ensembleref19_Few.f k a0 a1 a2 a3 lW lD lG lH lF lU = (ensembleref05_Right.f k lF).bind fun t => ensembleref19_Few.j0 k (!t) a0 a1 a2 a3 lW lD lG lH lF lU := fun k => by
  rw [ensembleref19_Few.f, if_neg h1, if_neg h2, if_neg h3, if_neg h4, if_neg h5]
 rcases right05_ev lF (by omega) with ⟨hr, hv⟩ | hr
 ·have main : ∀ d i : Nat, i ≤ lH.length → lH.length - i = d → ∃ b, Ev (fun k => ensembleref19_Few.l0 k (i : Int) a0 a1 a2 a3 lW lD lG lH lF lU) b ∧ (b = true → ∀ h ∈ lH.drop i, h.f4.length ≤ 40) := by
   intro d
   induction d with
   | zero =>
    intro i hi hd
    exact ⟨true, Ev.step (f := fun _ => some true) (fun k => by rw [ensembleref19_Few.l0, if_neg (show ¬ (i : Int) < (lH.length : Int) by omega)]) (Ev.now _), fun _ => by rw [List.drop_eq_nil_of_le (by omega)]; simp⟩
   | succ d ih =>
    intro i hi hd
    have hil : i < lH.length := by omega
    obtain ⟨b, hb, hf⟩ := ih (i + 1) (by omega) (by omega)
    have s2 : ∀ k, ensembleref19_Few.l0 (k + 1) (i : Int) a0 a1 a2 a3 lW lD lG lH lF lU = if ((lH[i]).f4.length : Int) > 40 then some false else ensembleref19_Few.l0 k ((i + 1 : Nat) : Int) a0 a1 a2 a3 lW lD lG lH lF lU := fun k => by
     rw [ensembleref19_Few.l0, if_pos (show (i : Int) < (lH.length : Int) by omega), if_pos (show (0 : Int) ≤ (i : Int) by omega), rd62' lH i hil, nx i (by omega)]
    by_cases g : ((lH[i]).f4.length : Int) > 40
    ·exact ⟨false, Ev.step s2 (Ev.congr (fun k => by rw [if_pos g]) (Ev.now _)), fun h => by cases h⟩
    refine ⟨b, Ev.step s2 (Ev.congr (fun k => by rw [if_neg g]) hb), fun h => ?_⟩
    rw [List.drop_eq_getElem_cons hil]
    intro x hx
    rcases List.mem_cons.1 hx with rfl | hx
    ·omega
    ·exact hf h x hx
  obtain ⟨b, hb, hf⟩ := main lH.length 0 (by omega) (by omega)
  exact ⟨b, Ev.congr st (Ev.bind hr (Ev.step (fun k => by rw [ensembleref19_Few.j0, if_neg (by decide)]; rfl) hb)), fun h => ⟨by omega, by omega, by omega, by omega, by omega, hv, by simpa using hf h⟩⟩
 ·exact ⟨false, Ev.congr st (Ev.bind hr jt), fun h => by cases h⟩
end Go.Proofs.Ytpedlompipabdaa.P
namespace Go.Proofs.Ytpedlompipabdaa.P
open Go.RowKit Go.Proofs.YtpedlompipabdaaW.PrintWords Go.Proofs.YtpedlompipabdaaW.PrintLast Go.Proofs.YtpedlompipabdaaW.PrintMore
open Go.Proofs.Ytpedlompipabdaa.Bits Go.Proofs.Ytpedlompipabdaa.Mp
set_option linter.unusedVariables false
set_option linter.unusedSimpArgs false
def fM (g : Int) : Int := IntKind.u64.wrap ((IntKind.u64.wrap (2 ^ (mx 0 (mn g 64)).toNat)) - 1)
def domL (i : Int) : Int → List S84 → List S58
 | _, [] => []
 | j, d :: r => ⟨⟨i, j⟩, fM d.f0, d.f1⟩ :: domL i (j + 1) r
def wholeL : Int → List S83 → List S58
 | _, [] => []
 | i, n :: r => domL i 0 n.f0 ++ wholeL (i + 1) r
theorem domL_len (i : Int) : ∀ (l : List S84) (j : Int), (domL i j l).length = l.length
 | [], _ => rfl
 | d :: r, j => by rw [domL, List.length_cons, List.length_cons, domL_len i r]
theorem wholeL_len : ∀ (l : List S83) (i : Int), (∀ x ∈ l, nodeOk x) → (wholeL i l).length ≤ 4 * l.length
 | [], _, _ => by simp [wholeL]
 | n :: r, i, h => by
  rw [wholeL, List.length_append, List.length_cons, domL_len]
  have := wholeL_len r (i + 1) (fun x hx => h x (by simp [hx]))
  have := (h n (by simp)).2.1
  omega
theorem whole_l0 (c : List S83) (hc : c.length ≤ 16) (hn : ∀ x ∈ c, nodeOk x) (d : Nat) : ∀ i : Nat, i ≤ c.length → c.length - i = d → ∀ acc : List S58, acc.length + 4 * d ≤ 100000 →
  Ev (fun k => audit_whole.l0 k acc c (c.length : Int) (i : Int)) (acc ++ wholeL (i : Int) (c.drop i)) := by
 induction d with
 | zero =>
  intro i hi hd acc ha
  rw [List.drop_eq_nil_of_le (by omega), wholeL, List.append_nil]
  exact Ev.step (f := fun _ => some acc) (fun k => by rw [audit_whole.l0, if_neg (show ¬ (i : Int) < (c.length : Int) by omega)]) (Ev.now _)
 | succ d ih =>
  intro i hi hd acc ha
  have hil : i < c.length := by omega
  have hno := hn _ (List.getElem_mem hil)
  rw [List.drop_eq_getElem_cons hil, wholeL]
  -- the rest, from whatever is there up to a bound
  have key : ∀ acc : List S58, acc.length + 4 * d ≤ 100000 → Ev (fun k => audit_whole.l0 k acc c (c.length : Int) (wrap64 ((i : Int) + 1))) (acc ++ wholeL ((i : Int) + 1) (c.drop (i + 1))) := fun acc h => by
   have := ih (i + 1) (by omega) (by omega) acc h
   rw [nx i (by omega)]
   rwa [show ((i + 1 : Nat) : Int) = (i : Int) + 1 by omega] at this ⊢
  have inner : ∀ (e j : Nat), j ≤ c[i].f0.length → c[i].f0.length - j = e → ∀ acc : List S58, acc.length + e + 4 * d ≤ 100000 → Ev (fun k => audit_whole.l1 k acc (i : Int) c (c.length : Int) (i : Int) c[i].f0 (c[i].f0.length : Int) (j : Int)) ((acc ++ domL (i : Int) (j : Int) (c[i].f0.drop j)) ++ wholeL ((i : Int) + 1) (c.drop (i + 1))) := by
   intro e
   induction e with
   | zero =>
    intro j hj he acc h
    rw [List.drop_eq_nil_of_le (by omega), domL, List.append_nil]
    exact Ev.step (fun k => by rw [audit_whole.l1, if_neg (show ¬ (j : Int) < (c[i].f0.length : Int) by omega)]) (key acc (by omega))
   | succ e ih2 =>
    intro j hj he acc h
    have hjl : j < c[i].f0.length := by omega
    have h4 := hno.2.1
    have := ih2 (j + 1) (by omega) (by omega) (acc ++ [(⟨⟨(i : Int), (j : Int)⟩, fM c[i].f0[j].f0, c[i].f0[j].f1⟩ : S58)]) (by simp; omega)
    rw [List.drop_eq_getElem_cons hjl, domL]
    have e9 : ∀ (x : S58) (l W : List S58), (acc ++ [x]) ++ l ++ W = acc ++ (x :: l) ++ W := by intros; simp
    rw [e9, show ((j + 1 : Nat) : Int) = (j : Int) + 1 by omega] at this
    refine Ev.step (fun k => ?_) this
    rw [audit_whole.l1, if_pos (show (j : Int) < (c[i].f0.length : Int) by omega), if_pos (show (0 : Int) ≤ (j : Int) by omega), if_pos (show (j : Int) < (c[i].f0.length : Int) by omega), rd84' c[i].f0 j hjl, mask_First.f, Option.bind_some, if_pos (show acc.length < 4398046511104 by omega), nx j (by omega)]
    rfl
  have := inner c[i].f0.length 0 (by omega) (by omega) acc (by have := hno.2.1; omega)
  rw [List.drop_zero, List.append_assoc] at this
  refine Ev.step (fun k => ?_) this
  rw [audit_whole.l0, if_pos (show (i : Int) < (c.length : Int) by omega), if_pos (show (0 : Int) ≤ (i : Int) by omega), if_pos (show (i : Int) < (c.length : Int) by omega), rd83' c i hil]
  rfl
theorem whole_ev (c : List S83) (q : List S51) (a2 a3 a4 a5 : Int) (hc : c.length ≤ 16) (hn : ∀ x ∈ c, nodeOk x) : Ev (fun k => audit_whole.f k c q a2 a3 a4 a5) (wholeL 0 c) := by
 have := whole_l0 c hc hn c.length 0 (by omega) (by omega) [] (by simp; omega)
 exact this
theorem firstL_zero (E N : Nat → Int) : ∀ (m i : Nat), (firstL E N i m).1 = 0 ↔ ∀ j, i ≤ j → j < i + m → E j = 0
 | 0, i => ⟨fun _ j h1 h2 => by omega, fun _ => rfl⟩
 | m + 1, i => by
  rw [firstL]
  by_cases h : E i = 0
  ·rw [if_pos h, firstL_zero E N m (i + 1)]
   exact ⟨fun g j h1 h2 => (Nat.eq_or_lt_of_le h1).elim (fun e => e ▸ h) (fun e => g j e (by omega)), fun g j h1 h2 => g j (by omega) (by omega)⟩
  ·rw [if_neg h]
   exact ⟨fun g => absurd g h, fun g => g i (by omega) (by omega)⟩
theorem checkR_zero {T : Sit} {wh : List S58} (h : (checkR T wh).1 = 0) : (holdsR T wh).1 = 0 ∧ (queuesR T).1 = 0 ∧ (gangsR T).1 = 0 := by
 unfold checkR at h
 rw [firstP] at h
 by_cases h1 : (holdsR T wh).1 = 0
 ·rw [if_pos h1, firstP] at h
  by_cases h2 : (queuesR T).1 = 0
  ·rw [if_pos h2, firstP] at h
   by_cases h3 : (gangsR T).1 = 0
   ·exact ⟨h1, h2, h3⟩
   ·rw [if_neg h3] at h; exact absurd h h3
  ·rw [if_neg h2] at h; exact absurd h h2
 ·rw [if_neg h1] at h; exact absurd h h1
end Go.Proofs.Ytpedlompipabdaa.P
namespace Go.Proofs.Ytpedlompipabdaa.P
open Go.RowKit Go.Proofs.YtpedlompipabdaaW.PrintWords Go.Proofs.YtpedlompipabdaaW.PrintLast Go.Proofs.YtpedlompipabdaaW.PrintMore
open Go.Proofs.Ytpedlompipabdaa.Bits Go.Proofs.Ytpedlompipabdaa.Mp
set_option linter.unusedVariables false
set_option linter.unusedSimpArgs false
theorem first01_20 (n : Nat) (h : n ≤ 16) : ensembleref01_First.f 60 (n : Int) = some (fM (n : Int)) := by
 rcases (by omega : n = 0 ∨ n = 1 ∨ n = 2 ∨ n = 3 ∨ n = 4 ∨ n = 5 ∨ n = 6 ∨ n = 7 ∨ n = 8 ∨ n = 9 ∨ n = 10 ∨ n = 11 ∨ n = 12 ∨ n = 13 ∨ n = 14 ∨ n = 15 ∨ n = 16) with h | h | h | h | h | h | h | h | h | h | h | h | h | h | h | h | h <;> subst h <;> kernel_rfl
theorem first01_ev (g : Int) (h0 : 0 ≤ g) (h1 : g ≤ 16) : Ev (fun k => ensembleref01_First.f k g) (fM g) := by
 obtain ⟨n, rfl⟩ := Int.eq_ofNat_of_zero_le h0
 have h := first01_20 n (by omega)
 refine ⟨60, fun k hk => ?_⟩
 obtain ⟨d, rfl⟩ : ∃ d, k = 60 + d := ⟨k - 60, by omega⟩
 clear hk
 induction d with
 | zero => exact h
 | succ d ih => exact ensembleref01_First.mono _ _ _ ih
theorem all_l0 (c : List S83) (hc : c.length ≤ 16) (hn : ∀ x ∈ c, nodeOk x) (d : Nat) : ∀ i : Nat, i ≤ c.length → c.length - i = d → ∀ acc : List S58, acc.length + 4 * d ≤ 100000 →
  Ev (fun k => ensembleref02_All.l0 k acc (i : Int) c) (acc ++ wholeL (i : Int) (c.drop i)) := by
 induction d with
 | zero =>
  intro i hi hd acc ha
  rw [List.drop_eq_nil_of_le (by omega), wholeL, List.append_nil]
  exact Ev.step (f := fun _ => some acc) (fun k => by rw [ensembleref02_All.l0, if_neg (show ¬ (i : Int) < (c.length : Int) by omega)]) (Ev.now _)
 | succ d ih =>
  intro i hi hd acc ha
  have hil : i < c.length := by omega
  have hno := hn _ (List.getElem_mem hil)
  rw [List.drop_eq_getElem_cons hil, wholeL]
  have key : ∀ acc : List S58, acc.length + 4 * d ≤ 100000 → Ev (fun k => ensembleref02_All.l0 k acc (wrap64 ((i : Int) + 1)) c) (acc ++ wholeL ((i : Int) + 1) (c.drop (i + 1))) := fun acc h => by
   have := ih (i + 1) (by omega) (by omega) acc h
   rw [nx i (by omega)]
   rwa [show ((i + 1 : Nat) : Int) = (i : Int) + 1 by omega] at this ⊢
  have inner : ∀ (e j : Nat), j ≤ c[i].f0.length → c[i].f0.length - j = e → ∀ acc : List S58, acc.length + e + 4 * d ≤ 100000 → Ev (fun k => ensembleref02_All.l1 k acc (i : Int) (j : Int) c) ((acc ++ domL (i : Int) (j : Int) (c[i].f0.drop j)) ++ wholeL ((i : Int) + 1) (c.drop (i + 1))) := by
   intro e
   induction e with
   | zero =>
    intro j hj he acc h
    rw [List.drop_eq_nil_of_le (by omega), domL, List.append_nil]
    exact Ev.step (fun k => by rw [ensembleref02_All.l1, if_pos (show (0 : Int) ≤ (i : Int) by omega), if_pos (show (i : Int) < (c.length : Int) by omega), rd83' c i hil, if_neg (show ¬ (j : Int) < (c[i].f0.length : Int) by omega)]) (key acc (by omega))
   | succ e ih2 =>
    intro j hj he acc h
    have hjl : j < c[i].f0.length := by omega
    have h4 := hno.2.1
    have hd := hno.2.2 _ (List.getElem_mem hjl)
    have := ih2 (j + 1) (by omega) (by omega) (acc ++ [(⟨⟨(i : Int), (j : Int)⟩, fM c[i].f0[j].f0, c[i].f0[j].f1⟩ : S58)]) (by simp; omega)
    rw [List.drop_eq_getElem_cons hjl, domL]
    have e9 : ∀ (x : S58) (l W : List S58), (acc ++ [x]) ++ l ++ W = acc ++ (x :: l) ++ W := by intros; simp
    rw [e9, show ((j + 1 : Nat) : Int) = (j : Int) + 1 by omega] at this
    have hf := first01_ev c[i].f0[j].f0 hd.1.1 hd.1.2
    refine Ev.step (f := fun k => (ensembleref01_First.f k c[i].f0[j].f0).bind fun t => if acc.length < 4398046511104 then ensembleref02_All.l1 k (acc ++ [(⟨⟨(i : Int), (j : Int)⟩, t, c[i].f0[j].f1⟩ : S58)]) (i : Int) (wrap64 ((j : Int) + 1)) c else none) (fun k => by
     rw [ensembleref02_All.l1, if_pos (show (0 : Int) ≤ (i : Int) by omega), if_pos (show (i : Int) < (c.length : Int) by omega), rd83' c i hil, if_pos (show (j : Int) < (c[i].f0.length : Int) by omega), if_pos (show (0 : Int) ≤ (j : Int) by omega), rd84' c[i].f0 j hjl]) ?_
    refine Ev.bind hf ?_
    refine Ev.congr (f := fun k => ensembleref02_All.l1 k (acc ++ [(⟨⟨(i : Int), (j : Int)⟩, fM c[i].f0[j].f0, c[i].f0[j].f1⟩ : S58)]) (i : Int) ((j : Int) + 1) c) (fun k => by rw [if_pos (show acc.length < 4398046511104 by omega), nx j (by omega)]; rfl) ?_
    exact this
  have := inner c[i].f0.length 0 (by omega) (by omega) acc (by have := hno.2.1; omega)
  rw [List.drop_zero, List.append_assoc] at this
  refine Ev.step (fun k => ?_) this
  rw [ensembleref02_All.l0, if_pos (show (i : Int) < (c.length : Int) by omega)]
  rfl
theorem all_ev (c : List S83) (hc : c.length ≤ 16) (hn : ∀ x ∈ c, nodeOk x) : Ev (fun k => ensembleref02_All.f k c) (wholeL 0 c) := by
 have := all_l0 c hc hn c.length 0 (by omega) (by omega) [] (by simp; omega)
 exact this
end Go.Proofs.Ytpedlompipabdaa.P
namespace Go.Proofs.Ytpedlompipabdaa.Ob
open Go.RowKit Go.Deep Go.Proofs.YtpedlompipabdaaW.PrintWords Go.WideShapes
def Opens {α : Type} (P : Program) (t : TypeId) (d : Kd α) (wf : α → Prop) : Prop :=
 ∀ (H : Type) (enc : TypeId × Value → H) (W : World) (base : Nat) (spare : Nat → Bool) (held : Bool) (fuel : Nat) (cs : List Value) (x : DataW H × List MemPlace),
  DataW.trod enc P W base spare held fuel t cs = some x → ∃ a, d.K W a cs ∧ wf a
variable {P : Program} {t e : TypeId}
theorem Opens.int {k : IntKind} (ht : P.underlying t = some (.int k)) : Opens P t (Kd.int k) (fun n => (Lit.int k n).wf = true) := by
 intro H enc W base spare held fuel cs x h
 obtain ⟨n, rfl, _, hw⟩ := DataW.trod_int ht h
 exact ⟨n, rfl, hw⟩
theorem Opens.bool (ht : P.underlying t = some .bool) : Opens P t Kd.bool (fun _ => True) := by
 intro H enc W base spare held fuel cs x h
 obtain ⟨b, rfl, _⟩ := DataW.trod_bool ht h
 exact ⟨b, rfl, trivial⟩
theorem Opens.slice {α : Type} {d : Kd α} {wf : α → Prop} (ht : P.underlying t = some (.slice e)) (hsz : P.cellsOf e = d.sz) (he : Opens P e d wf) :
  Opens P t (Kd.slice e d) (fun xs => xs.length ≤ maxLen ∧ ∀ x ∈ xs, wf x) := by
 intro H enc W base spare held fuel cs x h
 rcases open_slice ht h with ⟨rfl, _⟩ | ⟨a, len, cap, m, n, D, Pl, rfl, _, hl, hm, hmm, hxx, hx⟩
 ·exact ⟨[], ⟨none, 0, rfl, Nat.le_refl _, rfl, by simp, fun h => absurd h (by simp)⟩, by simp [maxLen], fun x hx => by simp at hx⟩
 ·have hlm : len ≤ m := by rw [hmm]; split <;> omega
  have hx' : ∀ i, i < len → ∃ (y : α) (c : List Value), d.K W y c ∧ wf y ∧ c.length = d.sz ∧ ∀ j u, c[j]? = some u → W.cell? (a.add (i * d.sz + j)) = some u := by
   intro i hi
   obtain ⟨c, h1, h2⟩ := hx i (by omega)
   obtain ⟨y, hK, hw⟩ := he H enc W base spare held n c _ h2
   obtain ⟨_, h3, h4⟩ := World.cells?_some h1
   refine ⟨y, c, hK, hw, d.K_len hK, fun j u hu => ?_⟩
   have hj : j < c.length := by
    rcases Nat.lt_or_ge j c.length with h | h
    ·exact h
    ·rw [List.getElem?_eq_none h] at hu; cases hu
   have h5 := h4 j (by omega)
   rw [Deep.add_add, hsz] at h5
   rw [h5]; exact hu
  have hall : ∃ xs : List α, xs.length = len ∧ ∀ (i : Nat) (p : α), xs[i]? = some p → ∃ c, c.length = d.sz ∧ d.K W p c ∧ wf p ∧ ∀ j u, c[j]? = some u → W.cell? (a.add (i * d.sz + j)) = some u := by
   clear hx hm hl hmm hlm h hxx
   induction len with
   | zero => exact ⟨[], rfl, fun i p hp => by simp at hp⟩
   | succ len ih =>
    obtain ⟨xs, hxl, hxs⟩ := ih (fun i hi => hx' i (by omega))
    obtain ⟨y, c, hK, hw, hcl, hc⟩ := hx' len (by omega)
    refine ⟨xs ++ [y], by simp [hxl], fun i p hp => ?_⟩
    rcases Nat.lt_or_ge i xs.length with h | h
    ·rw [List.getElem?_append_left h] at hp
     exact hxs i p hp
    ·have hi : i = xs.length := by
      have := (List.getElem?_eq_some_iff.1 hp).1
      rw [List.length_append, List.length_singleton] at this
      omega
     subst hi
     have hp' : y = p := by simpa using hp
     subst hp'
     exact ⟨c, hcl, hK, hw, by rw [hxl]; exact hc⟩
  obtain ⟨xs, hxl, hxs⟩ := hall
  refine ⟨xs, ⟨some a, cap, by rw [hxl], by omega, rfl, by rw [hxl]; simp only [maxLen] at hm; omega, fun _ => ⟨a, rfl, fun j p hp => ?_⟩⟩, by rw [hxl]; omega, fun x hx => ?_⟩
  ·obtain ⟨c, h1, h2, _, h3⟩ := hxs j p hp
   exact ⟨c, h1, h2, h3⟩
  ·obtain ⟨i, hi, rfl⟩ := List.getElem_of_mem hx
   obtain ⟨_, _, _, h, _⟩ := hxs i _ (List.getElem?_eq_getElem hi)
   exact h
def OpensAt {α : Type} (P : Program) (fs : List (Nat × TypeId)) (off : Nat) (d : Kd α) (wf : α → Prop) : Prop :=
 ∀ (H : Type) (enc : TypeId × Value → H) (W : World) (base : Nat) (spare : Nat → Bool) (held : Bool) (fuel : Nat) (cs : List Value), cs.length = off + d.sz →
  (∀ f, f ∈ fs → ∃ x, DataW.trod enc P W base spare held fuel f.2 ((cs.drop f.1).take (P.cellsOf f.2)) = some x) → ∃ a, d.K W a (cs.drop off) ∧ wf a
theorem OpensAt.last {α : Type} {d : Kd α} {wf : α → Prop} {off : Nat} (h : Opens P t d wf) (hsz : P.cellsOf t = d.sz) : OpensAt P [(off, t)] off d wf := by
 intro H enc W base spare held fuel cs hl hf
 obtain ⟨x, hx⟩ := hf (off, t) (by simp)
 rw [hsz, List.take_of_length_le (by rw [List.length_drop]; omega)] at hx
 exact h H enc W base spare held fuel _ x hx
theorem OpensAt.cons {α β : Type} {d : Kd α} {wf : α → Prop} {d' : Kd β} {wf' : β → Prop} {off off' : Nat} {fs : List (Nat × TypeId)} (h : Opens P t d wf) (hsz : P.cellsOf t = d.sz) (ho : off' = off + d.sz)
  (h' : OpensAt P fs off' d' wf') : OpensAt P ((off, t) :: fs) off (Kd.pair d d') (fun x => wf x.1 ∧ wf' x.2) := by
 intro H enc W base spare held fuel cs hl hf
 obtain ⟨x, hx⟩ := hf (off, t) (by simp)
 have hl' : cs.length = off' + d'.sz := by rw [hl, ho]; show off + (d.sz + d'.sz) = _; omega
 obtain ⟨a, hK, hw⟩ := h H enc W base spare held fuel _ x hx
 obtain ⟨b, hK', hw'⟩ := h' H enc W base spare held fuel cs hl' (fun f hf' => hf f (by simp [hf']))
 refine ⟨(a, b), ⟨_, _, ?_, hK, hK'⟩, hw, hw'⟩
 rw [hsz, ho, ← List.drop_drop, List.take_append_drop]
theorem Opens.struct {α β : Type} {d : Kd β} {wf : β → Prop} {fs : Array Field} {l : List (Nat × TypeId)} (ht : P.underlying t = some (.struct fs)) (hl : fs.toList.map (fun f => (f.offset, f.type)) = l) (hsz : P.cellsOf t = d.sz)
  (h : OpensAt P l 0 d wf) (f : α → β) (g : β → α) (hfg : ∀ b, f (g b) = b) : Opens P t (Kd.iso d f) (fun x => wf (f x)) := by
 intro H enc W base spare held fuel cs x hx
 obtain ⟨xs, n, _, _, hcl, hxl, hfs⟩ := DataW.trod_struct ht hx
 obtain ⟨b, hK, hw⟩ := h H enc W base spare held n cs (by rw [hcl, hsz]; omega) (fun p hp => by
  rw [← hl] at hp
  obtain ⟨fd, hfd, rfl⟩ := List.mem_map.1 hp
  obtain ⟨i, hi, rfl⟩ := List.getElem_of_mem hfd
  have := hfs i fs.toList[i] (by simp)
  rw [List.getElem?_eq_getElem (by rw [hxl]; simpa using hi)] at this
  exact ⟨_, this⟩)
 exact ⟨g b, by show d.K W (f (g b)) cs; rw [hfg]; simpa using hK, by show wf (f (g b)); rw [hfg]; exact hw⟩
theorem Opens.imp {α : Type} {d : Kd α} {wf wf' : α → Prop} (h : Opens P t d wf) (hi : ∀ a, wf a → wf' a) : Opens P t d wf' := fun H enc W base spare held fuel cs x hx =>
 let ⟨a, h1, h2⟩ := h H enc W base spare held fuel cs x hx; ⟨a, h1, hi a h2⟩
theorem Opens.open {α : Type} {d : Kd α} {wf : α → Prop} (h : Opens P t d wf) {H : Type} {enc : TypeId × Value → H} {W : World} {base : Nat} {spare : Nat → Bool} {held : Bool} {v : Value} {y : DataW H} {p : List MemPlace}
  (hv : DataW.Trod enc P W base spare held t v y p) : ∃ a, d.K W a v.cells.toList ∧ wf a := by
 obtain ⟨fuel, hf⟩ := hv
 exact h H enc W base spare held fuel _ _ hf
end Go.Proofs.Ytpedlompipabdaa.Ob
namespace Go.Proofs.Ytpedlompipabdaa.P
open Go.RowKit Go.Proofs.Ytpedlompipabdaa.Ob Go.Proofs.YtpedlompipabdaaW.PrintWords
set_option linter.unusedVariables false
def I64 (x : Int) : Prop := -9223372036854775808 ≤ x ∧ x ≤ 9223372036854775807
def U64 (x : Int) : Prop := 0 ≤ x ∧ x ≤ 18446744073709551615
theorem i64_of {x : Int} (h : (Lit.int .i64 x).wf = true) : I64 x := by unfold I64; simp [Lit.wf, IntKind.min, IntKind.max, IntKind.bits, IntKind.signed] at h; omega
theorem u64_of {x : Int} (h : (Lit.int .u64 x).wf = true) : U64 x := by unfold U64; simp [Lit.wf, IntKind.min, IntKind.max, IntKind.bits, IntKind.signed] at h; omega
theorem o_i64 {t : TypeId} (h : Try.prog.underlying t = some (.int .i64)) : Opens Try.prog t (Kd.int .i64) I64 := (Opens.int h).imp fun _ h => i64_of h
theorem o_u64 {t : TypeId} (h : Try.prog.underlying t = some (.int .u64)) : Opens Try.prog t (Kd.int .u64) U64 := (Opens.int h).imp fun _ h => u64_of h
def wfd84 (x : S84) : Prop := I64 x.f0 ∧ I64 x.f1
theorem o84 : Opens Try.prog 84 k84 wfd84 := (Opens.struct Try.underlying84 rfl (by kernel_rfl) (OpensAt.cons (o_i64 Try.underlying3) (by kernel_rfl) rfl (OpensAt.last (o_i64 Try.underlying3) (by kernel_rfl))) _ (fun p => (⟨p.1, p.2⟩ : S84)) (fun _ => rfl)).imp (fun _ h => h)
def wfd83 (x : S83) : Prop := (x.f0.length ≤ maxLen ∧ ∀ y ∈ x.f0, wfd84 y)
theorem o83 : Opens Try.prog 83 k83 wfd83 := (Opens.struct Try.underlying83 rfl (by kernel_rfl) (OpensAt.last ((Opens.slice Try.underlying81 (by kernel_rfl) (o84))) (by kernel_rfl)) _ (fun p => (⟨p⟩ : S83)) (fun _ => rfl)).imp (fun _ h => h)
def wfd49 (x : S49) : Prop := I64 x.f0 ∧ I64 x.f1
theorem o49 : Opens Try.prog 49 k49 wfd49 := (Opens.struct Try.underlying49 rfl (by kernel_rfl) (OpensAt.cons (o_i64 Try.underlying3) (by kernel_rfl) rfl (OpensAt.last (o_i64 Try.underlying3) (by kernel_rfl))) _ (fun p => (⟨p.1, p.2⟩ : S49)) (fun _ => rfl)).imp (fun _ h => h)
def wfd51 (x : S51) : Prop := wfd49 x.f0 ∧ I64 x.f1
theorem o51 : Opens Try.prog 51 k51 wfd51 := (Opens.struct Try.underlying51 rfl (by kernel_rfl) (OpensAt.cons (o49) (by kernel_rfl) rfl (OpensAt.last (o_i64 Try.underlying3) (by kernel_rfl))) _ (fun p => (⟨p.1, p.2⟩ : S51)) (fun _ => rfl)).imp (fun _ h => h)
def wfd56 (x : S56) : Prop := I64 x.f0 ∧ I64 x.f1
theorem o56 : Opens Try.prog 56 k56 wfd56 := (Opens.struct Try.underlying56 rfl (by kernel_rfl) (OpensAt.cons (o_i64 Try.underlying3) (by kernel_rfl) rfl (OpensAt.last (o_i64 Try.underlying3) (by kernel_rfl))) _ (fun p => (⟨p.1, p.2⟩ : S56)) (fun _ => rfl)).imp (fun _ h => h)
def wfd58 (x : S58) : Prop := wfd56 x.f0 ∧ U64 x.f1 ∧ I64 x.f2
theorem o58 : Opens Try.prog 58 k58 wfd58 := (Opens.struct Try.underlying58 rfl (by kernel_rfl) (OpensAt.cons (o56) (by kernel_rfl) rfl (OpensAt.cons (o_u64 Try.underlying54) (by kernel_rfl) rfl (OpensAt.last (o_i64 Try.underlying3) (by kernel_rfl)))) _ (fun p => (⟨p.1, p.2.1, p.2.2⟩ : S58)) (fun _ => rfl)).imp (fun _ h => h)
def wfd63 (x : S63) : Prop := wfd56 x.f0 ∧ U64 x.f1 ∧ I64 x.f2
theorem o63 : Opens Try.prog 63 k63 wfd63 := (Opens.struct Try.underlying63 rfl (by kernel_rfl) (OpensAt.cons (o56) (by kernel_rfl) rfl (OpensAt.cons (o_u64 Try.underlying54) (by kernel_rfl) rfl (OpensAt.last (o_i64 Try.underlying3) (by kernel_rfl)))) _ (fun p => (⟨p.1, p.2.1, p.2.2⟩ : S63)) (fun _ => rfl)).imp (fun _ h => h)
def wfd62 (x : S62) : Prop := I64 x.f0 ∧ I64 x.f1 ∧ I64 x.f2 ∧ True ∧ (x.f4.length ≤ maxLen ∧ ∀ y ∈ x.f4, wfd63 y)
theorem o62 : Opens Try.prog 62 k62 wfd62 := (Opens.struct Try.underlying62 rfl (by kernel_rfl) (OpensAt.cons (o_i64 Try.underlying3) (by kernel_rfl) rfl (OpensAt.cons (o_i64 Try.underlying3) (by kernel_rfl) rfl (OpensAt.cons (o_i64 Try.underlying3) (by kernel_rfl) rfl (OpensAt.cons (Opens.bool Try.underlying4) (by kernel_rfl) rfl (OpensAt.last ((Opens.slice Try.underlying60 (by kernel_rfl) (o63))) (by kernel_rfl)))))) _ (fun p => (⟨p.1, p.2.1, p.2.2.1, p.2.2.2.1, p.2.2.2.2⟩ : S62)) (fun _ => rfl)).imp (fun _ h => h)
def wfd43 (x : S43) : Prop := I64 x.f0 ∧ I64 x.f1 ∧ I64 x.f2 ∧ I64 x.f3
theorem o43 : Opens Try.prog 43 k43 wfd43 := (Opens.struct Try.underlying43 rfl (by kernel_rfl) (OpensAt.cons (o_i64 Try.underlying3) (by kernel_rfl) rfl (OpensAt.cons (o_i64 Try.underlying3) (by kernel_rfl) rfl (OpensAt.cons (o_i64 Try.underlying3) (by kernel_rfl) rfl (OpensAt.last (o_i64 Try.underlying3) (by kernel_rfl))))) _ (fun p => (⟨p.1, p.2.1, p.2.2.1, p.2.2.2⟩ : S43)) (fun _ => rfl)).imp (fun _ h => h)
def wfd45 (x : S45) : Prop := I64 x.f0 ∧ I64 x.f1 ∧ I64 x.f2 ∧ I64 x.f3 ∧ wfd43 x.f4
theorem o45 : Opens Try.prog 45 k45 wfd45 := (Opens.struct Try.underlying45 rfl (by kernel_rfl) (OpensAt.cons (o_i64 Try.underlying3) (by kernel_rfl) rfl (OpensAt.cons (o_i64 Try.underlying3) (by kernel_rfl) rfl (OpensAt.cons (o_i64 Try.underlying3) (by kernel_rfl) rfl (OpensAt.cons (o_i64 Try.underlying3) (by kernel_rfl) rfl (OpensAt.last (o43) (by kernel_rfl)))))) _ (fun p => (⟨p.1, p.2.1, p.2.2.1, p.2.2.2.1, p.2.2.2.2⟩ : S45)) (fun _ => rfl)).imp (fun _ h => h)
def wfd47 (x : S47) : Prop := wfd45 x.f0 ∧ I64 x.f1 ∧ I64 x.f2 ∧ I64 x.f3 ∧ I64 x.f4 ∧ I64 x.f5 ∧ I64 x.f6 ∧ I64 x.f7 ∧ I64 x.f8
theorem o47 : Opens Try.prog 47 k47 wfd47 := (Opens.struct Try.underlying47 rfl (by kernel_rfl) (OpensAt.cons (o45) (by kernel_rfl) rfl (OpensAt.cons (o_i64 Try.underlying3) (by kernel_rfl) rfl (OpensAt.cons (o_i64 Try.underlying3) (by kernel_rfl) rfl (OpensAt.cons (o_i64 Try.underlying3) (by kernel_rfl) rfl (OpensAt.cons (o_i64 Try.underlying3) (by kernel_rfl) rfl (OpensAt.cons (o_i64 Try.underlying3) (by kernel_rfl) rfl (OpensAt.cons (o_i64 Try.underlying3) (by kernel_rfl) rfl (OpensAt.cons (o_i64 Try.underlying3) (by kernel_rfl) rfl (OpensAt.last (o_i64 Try.underlying3) (by kernel_rfl)))))))))) _ (fun p => (⟨p.1, p.2.1, p.2.2.1, p.2.2.2.1, p.2.2.2.2.1, p.2.2.2.2.2.1, p.2.2.2.2.2.2.1, p.2.2.2.2.2.2.2.1, p.2.2.2.2.2.2.2.2⟩ : S47)) (fun _ => rfl)).imp (fun _ h => h)
structure S24 where
 f0 : List S83
def k24 : Kd S24 := Kd.iso (Kd.slice 83 k83) (fun x : S24 => x.f0)
def wfd24 (x : S24) : Prop := (x.f0.length ≤ maxLen ∧ ∀ y ∈ x.f0, wfd83 y)
theorem o24 : Opens Try.prog 24 k24 wfd24 := (Opens.struct Try.underlying24 rfl (by kernel_rfl) (OpensAt.last ((Opens.slice Try.underlying22 (by kernel_rfl) (o83))) (by kernel_rfl)) _ (fun p => (⟨p⟩ : S24)) (fun _ => rfl)).imp (fun _ h => h)
structure S27 where
 f0 : S24
 f1 : List S51
 f2 : Int
 f3 : Int
 f4 : Int
 f5 : Int
def k27 : Kd S27 := Kd.iso (Kd.pair k24 (Kd.pair (Kd.slice 51 k51) (Kd.pair (Kd.int .i64) (Kd.pair (Kd.int .i64) (Kd.pair (Kd.int .i64) (Kd.int .i64)))))) (fun x : S27 => (x.f0, x.f1, x.f2, x.f3, x.f4, x.f5))
theorem k27_open {w : World} {x : S27} {cs : List Value} (h : k27.K w x cs) : ∃ A0 c0 A1 c1, cs = [.slice A0 x.f0.f0.length c0, .slice A1 x.f1.length c1, .int .i64 x.f2, .int .i64 x.f3, .int .i64 x.f4, .int .i64 x.f5] ∧ x.f0.f0.length ≤ c0 ∧ k83.C w A0 x.f0.f0.length x.f0.f0 ∧ x.f1.length ≤ c1 ∧ k51.C w A1 x.f1.length x.f1 := by
 obtain ⟨_, _, rfl, ⟨A0, c0, rfl, l0, g0⟩, ⟨_, _, rfl, ⟨A1, c1, rfl, l1, g1⟩, ⟨_, _, rfl, rfl, ⟨_, _, rfl, rfl, ⟨_, _, rfl, rfl, rfl⟩⟩⟩⟩⟩ := h
 exact ⟨A0, c0, A1, c1, rfl, l0, g0, l1, g1⟩
def wfd27 (x : S27) : Prop := wfd24 x.f0 ∧ (x.f1.length ≤ maxLen ∧ ∀ y ∈ x.f1, wfd51 y) ∧ I64 x.f2 ∧ I64 x.f3 ∧ I64 x.f4 ∧ I64 x.f5
theorem o27 : Opens Try.prog 27 k27 wfd27 := (Opens.struct Try.underlying27 rfl (by kernel_rfl) (OpensAt.cons (o24) (by kernel_rfl) rfl (OpensAt.cons ((Opens.slice Try.underlying25 (by kernel_rfl) (o51))) (by kernel_rfl) rfl (OpensAt.cons (o_i64 Try.underlying3) (by kernel_rfl) rfl (OpensAt.cons (o_i64 Try.underlying3) (by kernel_rfl) rfl (OpensAt.cons (o_i64 Try.underlying3) (by kernel_rfl) rfl (OpensAt.last (o_i64 Try.underlying3) (by kernel_rfl))))))) _ (fun p => (⟨p.1, p.2.1, p.2.2.1, p.2.2.2.1, p.2.2.2.2.1, p.2.2.2.2.2⟩ : S27)) (fun _ => rfl)).imp (fun _ h => h)
structure S35 where
 f0 : Int
 f1 : Int
 f2 : Int
 f3 : Int
 f4 : List Int
 f5 : List Bool
 f6 : List S47
 f7 : List S62
 f8 : List S58
 f9 : List S49
def k35 : Kd S35 := Kd.iso (Kd.pair (Kd.int .i64) (Kd.pair (Kd.int .i64) (Kd.pair (Kd.int .i64) (Kd.pair (Kd.int .i64) (Kd.pair (Kd.slice 3 (Kd.int .i64)) (Kd.pair (Kd.slice 4 Kd.bool) (Kd.pair (Kd.slice 47 k47) (Kd.pair (Kd.slice 62 k62) (Kd.pair (Kd.slice 58 k58) (Kd.slice 49 k49)))))))))) (fun x : S35 => (x.f0, x.f1, x.f2, x.f3, x.f4, x.f5, x.f6, x.f7, x.f8, x.f9))
theorem k35_open {w : World} {x : S35} {cs : List Value} (h : k35.K w x cs) : ∃ A4 c4 A5 c5 A6 c6 A7 c7 A8 c8 A9 c9, cs = [.int .i64 x.f0, .int .i64 x.f1, .int .i64 x.f2, .int .i64 x.f3, .slice A4 x.f4.length c4, .slice A5 x.f5.length c5, .slice A6 x.f6.length c6, .slice A7 x.f7.length c7, .slice A8 x.f8.length c8, .slice A9 x.f9.length c9] ∧ x.f4.length ≤ c4 ∧ (Kd.int .i64).C w A4 x.f4.length x.f4 ∧ x.f5.length ≤ c5 ∧ Kd.bool.C w A5 x.f5.length x.f5 ∧ x.f6.length ≤ c6 ∧ k47.C w A6 x.f6.length x.f6 ∧ x.f7.length ≤ c7 ∧ k62.C w A7 x.f7.length x.f7 ∧ x.f8.length ≤ c8 ∧ k58.C w A8 x.f8.length x.f8 ∧ x.f9.length ≤ c9 ∧ k49.C w A9 x.f9.length x.f9 := by
 obtain ⟨_, _, rfl, rfl, ⟨_, _, rfl, rfl, ⟨_, _, rfl, rfl, ⟨_, _, rfl, rfl, ⟨_, _, rfl, ⟨A4, c4, rfl, l4, g4⟩, ⟨_, _, rfl, ⟨A5, c5, rfl, l5, g5⟩, ⟨_, _, rfl, ⟨A6, c6, rfl, l6, g6⟩, ⟨_, _, rfl, ⟨A7, c7, rfl, l7, g7⟩, ⟨_, _, rfl, ⟨A8, c8, rfl, l8, g8⟩, ⟨A9, c9, rfl, l9, g9⟩⟩⟩⟩⟩⟩⟩⟩⟩⟩ := h
 exact ⟨A4, c4, A5, c5, A6, c6, A7, c7, A8, c8, A9, c9, rfl, l4, g4, l5, g5, l6, g6, l7, g7, l8, g8, l9, g9⟩
def wfd35 (x : S35) : Prop := I64 x.f0 ∧ I64 x.f1 ∧ I64 x.f2 ∧ I64 x.f3 ∧ (x.f4.length ≤ maxLen ∧ ∀ y ∈ x.f4, I64 y) ∧ (x.f5.length ≤ maxLen ∧ ∀ y ∈ x.f5, True) ∧ (x.f6.length ≤ maxLen ∧ ∀ y ∈ x.f6, wfd47 y) ∧ (x.f7.length ≤ maxLen ∧ ∀ y ∈ x.f7, wfd62 y) ∧ (x.f8.length ≤ maxLen ∧ ∀ y ∈ x.f8, wfd58 y) ∧ (x.f9.length ≤ maxLen ∧ ∀ y ∈ x.f9, wfd49 y)
theorem o35 : Opens Try.prog 35 k35 wfd35 := (Opens.struct Try.underlying35 rfl (by kernel_rfl) (OpensAt.cons (o_i64 Try.underlying3) (by kernel_rfl) rfl (OpensAt.cons (o_i64 Try.underlying3) (by kernel_rfl) rfl (OpensAt.cons (o_i64 Try.underlying3) (by kernel_rfl) rfl (OpensAt.cons (o_i64 Try.underlying3) (by kernel_rfl) rfl (OpensAt.cons ((Opens.slice Try.underlying28 (by kernel_rfl) (o_i64 Try.underlying3))) (by kernel_rfl) rfl (OpensAt.cons ((Opens.slice Try.underlying29 (by kernel_rfl) (Opens.bool Try.underlying4))) (by kernel_rfl) rfl (OpensAt.cons ((Opens.slice Try.underlying30 (by kernel_rfl) (o47))) (by kernel_rfl) rfl (OpensAt.cons ((Opens.slice Try.underlying31 (by kernel_rfl) (o62))) (by kernel_rfl) rfl (OpensAt.cons ((Opens.slice Try.underlying32 (by kernel_rfl) (o58))) (by kernel_rfl) rfl (OpensAt.last ((Opens.slice Try.underlying33 (by kernel_rfl) (o49))) (by kernel_rfl))))))))))) _ (fun p => (⟨p.1, p.2.1, p.2.2.1, p.2.2.2.1, p.2.2.2.2.1, p.2.2.2.2.2.1, p.2.2.2.2.2.2.1, p.2.2.2.2.2.2.2.1, p.2.2.2.2.2.2.2.2.1, p.2.2.2.2.2.2.2.2.2⟩ : S35)) (fun _ => rfl)).imp (fun _ h => h)
end Go.Proofs.Ytpedlompipabdaa.P
namespace Go.Proofs.Ytpedlompipabdaa.P
open Go.RowKit Go.Proofs.YtpedlompipabdaaW.PrintWords Go.Proofs.YtpedlompipabdaaW.PrintLast Go.Proofs.YtpedlompipabdaaW.PrintMore
open Go.Proofs.Ytpedlompipabdaa.Bits Go.Proofs.Ytpedlompipabdaa.Mp
set_option linter.unusedVariables false
set_option linter.unusedSimpArgs false
def SpotW (f : S58) : Prop := (-9223372036854775808 ≤ f.f0.f0 ∧ f.f0.f0 ≤ 9223372036854775807) ∧ -9223372036854775808 ≤ f.f0.f1 ∧ f.f0.f1 ≤ 9223372036854775807
theorem turnedL_spot (ix : Int → Int → Option Int) : ∀ (l1 : List S63) (out : List S58), (∀ f ∈ out, SpotW f) →
  (turnedL moreE moreF ix out l1).1.length ≤ out.length ∧ ∀ f ∈ (turnedL moreE moreF ix out l1).1, SpotW f
 | [], out, h => ⟨by rw [turnedL]; exact Nat.le_refl _, by rw [turnedL]; exact h⟩
 | s :: ss, out, h => by
  rw [turnedL]
  split
  ·exact ⟨by simp, fun f hf => by simp at hf⟩
  ·cases ix s.f0.f0 s.f0.f1 with
   | none => exact ⟨by simp, fun f hf => by simp at hf⟩
   | some k =>
    simp only
    split
    ·have := turnedL_spot ix ss (out.set k.toNat (moreF (rd_T58 out k) s)) (fun f hf => by
      rcases List.mem_or_eq_of_mem_set hf with hf | rfl
      ·exact h f hf
      ·have : SpotW (rd_T58 out k) := by
        unfold rd_T58
        rw [List.getD_eq_getElem?_getD]
        cases hg : out[k.toNat]? with
        | none => exact ⟨⟨by decide, by decide⟩, by decide, by decide⟩
        | some y => exact h y (List.mem_of_getElem? hg)
       exact this)
     rw [List.length_set] at this
     exact this
    ·exact ⟨by simp, fun f hf => by simp at hf⟩
theorem frees_spot (T : Sit) (h : ∀ f ∈ T.lF, SpotW f) : ∀ k, (frees T k).length ≤ T.lF.length ∧ ∀ f ∈ frees T k, SpotW f
 | 0 => ⟨Nat.le_refl _, h⟩
 | k + 1 => by
  obtain ⟨h1, h2⟩ := frees_spot T h k
  have := turnedL_spot (ixS (frees T k) (frees T k).length) (rd_T62 T.lH (k : Int)).f4 (frees T k) h2
  rw [frees]
  unfold turned51
  exact ⟨Nat.le_trans this.1 h1, this.2⟩
theorem w64B_of {x : Int} (h : -9223372036854775808 ≤ x ∧ x ≤ 9223372036854775807) : w64B x = true := by unfold w64B; simp [h.1, h.2]
theorem pure_members (T : Sit) (hq : T.lQ.length ≤ maxQ) (hF : ∀ f ∈ T.lF, wfd58 f) (hH : ∀ h ∈ T.lH, wfd62 h) (hG : ∀ r ∈ T.lG, wfd47 r) : ∃ k b1 b2 wh, ensembleref16_Right.f k T.lN T.lQ T.x2 T.x3 T.x4 T.x5 = some b1 ∧
  (b1 = true → ensembleref19_Few.f k T.y0 T.y1 T.y2 T.y3 T.lW T.lD T.lG T.lH T.lF T.lU = some b2) ∧ (b1 = true → b2 = true → audit_whole.f k T.lN T.lQ T.x2 T.x3 T.x4 T.x5 = some wh ∧ T.Fit ∧ T.lU.length ≤ 1000000) := by
 obtain ⟨b1, ⟨k1, e1⟩, f1⟩ := r16_ev T.lN T.lQ T.x2 T.x3 T.x4 T.x5 hq
 obtain ⟨b2, ⟨k2, e2⟩, f2⟩ := few19_ev T.y0 T.y1 T.y2 T.y3 T.lW T.lD T.lG T.lH T.lF T.lU
 cases b1 with
 | false => exact ⟨k1, false, false, [], e1 k1 (Nat.le_refl _), fun h => (nomatch h), fun h => (nomatch h)⟩
 | true =>
  obtain ⟨c1, c2, c3⟩ := f1 rfl
  obtain ⟨k3, e3⟩ := whole_ev T.lN T.lQ T.x2 T.x3 T.x4 T.x5 c1 c2
  refine ⟨k1 + k2 + k3, true, b2, wholeL 0 T.lN, e1 _ (by omega), fun _ => e2 _ (by omega), fun _ hb => ?_⟩
  subst hb
  obtain ⟨g1, g2, g3, g4, g5, g6, g7⟩ := f2 rfl
  have hS : ∀ f ∈ T.lF, SpotW f := fun f hf => (hF f hf).1
  have hfr := frees_spot T hS
  refine ⟨e3 _ (by omega), ⟨by omega, by omega, by omega, by omega, by have := (hfr T.lH.length).1; omega, ?_, ?_, ?_, ?_⟩, by omega⟩
  ·intro k hk
   unfold spotsOk
   have hm : rd_T62 T.lH (k : Int) ∈ T.lH := by rw [rd62' T.lH k hk]; exact List.getElem_mem hk
   simp only [Bool.and_eq_true, decide_eq_true_eq, List.all_eq_true]
   refine ⟨⟨by have := (hfr k).1; omega, fun f hf => ?_⟩, fun s hs => ?_⟩
   ·have := (hfr k).2 f hf
    exact ⟨w64B_of this.1, w64B_of this.2⟩
   ·have := ((hH _ hm).2.2.2.2.2 s hs).1
    exact ⟨w64B_of this.1, w64B_of this.2⟩
  ·intro h hh
   refine ⟨by have := g7 h hh; omega, fun s hs => ?_⟩
   have := ((hH h hh).2.2.2.2.2 s hs).2.1
   exact ⟨this.1, by have := this.2; omega⟩
  ·intro h hh
   have := (hH h hh).1
   unfold I64 at this
   simp [Lit.wf, IntKind.min, IntKind.max, IntKind.bits, IntKind.signed]
   omega
  ·intro r hr
   have := (hG r hr).1.1
   unfold I64 at this
   simp [Lit.wf, IntKind.min, IntKind.max, IntKind.bits, IntKind.signed]
   omega
end Go.Proofs.Ytpedlompipabdaa.P
namespace Go.Proofs.Ytpedlompipabdaa.P
open Go.RowKit Go.Proofs.YtpedlompipabdaaW.PrintWords Go.Proofs.YtpedlompipabdaaW.PrintLast Go.Proofs.YtpedlompipabdaaW.PrintMore
open Go.Proofs.Ytpedlompipabdaa.Bits Go.Proofs.Ytpedlompipabdaa.Mp
set_option linter.unusedVariables false
set_option linter.unusedSimpArgs false
theorem eqS_iff {a b : S56} : eqS a b = true ↔ a = b := by
 unfold eqS
 obtain ⟨a0, a1⟩ := a
 obtain ⟨b0, b1⟩ := b
 simp
theorem nodup_inj {α : Type} {l : List α} (h : l.Nodup) {i j : Nat} (hi : i < l.length) (hj : j < l.length) (e : l[i] = l[j]) : i = j := by
 rcases Nat.lt_trichotomy i j with q | q | q
 ·exact absurd e (List.pairwise_iff_getElem.1 h i j hi hj q)
 ·exact q
 ·exact absurd e.symm (List.pairwise_iff_getElem.1 h j i hj hi q)
def addSt (x : S56) (st : Int × Int × Bool) (s : S56) (m n : Int) : Int × Int × Bool := (addM x s m st.1, addC x s n st.2.1, addB x s m st.1 && st.2.2)
def freeSt (x : S56) (st : Int × Int × Bool) (l : List S58) : Int × Int × Bool := l.foldl (fun st f => addSt x st f.f0 f.f1 f.f2) st
def slotSt (x : S56) (st : Int × Int × Bool) (l : List S63) : Int × Int × Bool := l.foldl (fun st f => addSt x st f.f0 f.f1 f.f2) st
def holdSt (x : S56) (st : Int × Int × Bool) (l : List S62) : Int × Int × Bool := l.foldl (fun st h => slotSt x st h.f4) st
theorem addSt_far {x s : S56} (h : s ≠ x) (st : Int × Int × Bool) (m n : Int) : addSt x st s m n = st := by
 have : eqS s x = false := by
  cases e : eqS s x with
  | false => rfl
  | true => exact absurd (eqS_iff.1 e) h
 unfold addSt addM addC addB
 rw [this]
 simp
def U64m (m : Int) : Prop := 0 ≤ m ∧ m < 18446744073709551616
theorem and_comm' {a b : Int} (ha : U64m a) (hb : U64m b) : Go.bits .and .u64 a b = Go.bits .and .u64 b a := by
 obtain ⟨a, rfl⟩ := Int.eq_ofNat_of_zero_le ha.1
 obtain ⟨b, rfl⟩ := Int.eq_ofNat_of_zero_le hb.1
 rw [Go.bits_and_u64_nat a b (by have := ha.2; omega) (by have := hb.2; omega), Go.bits_and_u64_nat b a (by have := hb.2; omega) (by have := ha.2; omega), Nat.and_comm]
theorem or_bd {a b : Int} (ha : U64m a) (hb : U64m b) : U64m (Go.bits .or .u64 a b) := by
 obtain ⟨a, rfl⟩ := Int.eq_ofNat_of_zero_le ha.1
 obtain ⟨b, rfl⟩ := Int.eq_ofNat_of_zero_le hb.1
 have h1 : a < 2 ^ 64 := by have := ha.2; omega
 have h2 : b < 2 ^ 64 := by have := hb.2; omega
 rw [Go.bits_or_u64_nat a b (by omega) (by omega)]
 have := Nat.or_lt_two_pow h1 h2
 constructor <;> omega
theorem or_zero' {a : Int} (ha : U64m a) : Go.bits .or .u64 0 a = a ∧ Go.bits .and .u64 0 a = 0 := by
 obtain ⟨a, rfl⟩ := Int.eq_ofNat_of_zero_le ha.1
 have h0 : ((0 : Nat) : Int) = 0 := rfl
 rw [← h0, Go.bits_or_u64_nat 0 a (by omega) (by have := ha.2; omega), Go.bits_and_u64_nat 0 a (by omega) (by have := ha.2; omega), Nat.zero_or, Nat.zero_and]
 exact ⟨rfl, rfl⟩
theorem freeSt_far (x : S56) : ∀ (l : List S58) (st : Int × Int × Bool), (∀ f ∈ l, f.f0 ≠ x) → freeSt x st l = st
 | [], _, _ => rfl
 | f :: l, st, h => by
  show freeSt x (addSt x st f.f0 f.f1 f.f2) l = st
  rw [addSt_far (h f (by simp)), freeSt_far x l st (fun g hg => h g (by simp [hg]))]
def Tracks (x : S56) (l : List S58) (st : Int × Int × Bool) : Prop := ∃ f, f ∈ l ∧ f.f0 = x ∧ st = (f.f1, f.f2, true) ∧ U64m f.f1
theorem free_tracks (x : S56) : ∀ (l : List S58), (l.map (·.f0)).Nodup → (∀ f ∈ l, U64m f.f1 ∧ cpOk f) → x ∈ l.map (·.f0) → Tracks x l (freeSt x (0, 0, true) l)
 | [], _, _, h => by simp at h
 | f :: l, hn, hw, h => by
  rw [List.map_cons, List.nodup_cons] at hn
  show Tracks x (f :: l) (freeSt x (addSt x (0, 0, true) f.f0 f.f1 f.f2) l)
  by_cases e : f.f0 = x
  ·have hfar : ∀ g ∈ l, g.f0 ≠ x := fun g hg eg => hn.1 (List.mem_map.2 ⟨g, hg, eg.trans e.symm⟩)
   rw [freeSt_far x l _ hfar]
   have hu := (hw f (by simp)).1
   have hc := (hw f (by simp)).2
   refine ⟨f, by simp, e, ?_, hu⟩
   unfold addSt addM addC addB
   rw [eqS_iff.2 e]
   simp only [↓reduceIte, (or_zero' hu).1, (or_zero' hu).2]
   unfold cpOk at hc
   rw [w_id (by omega)]
   simp
  ·rw [addSt_far e]
   rw [List.map_cons, List.mem_cons] at h
   obtain ⟨g, h1, h2, h3, h4⟩ := free_tracks x l hn.2 (fun g hg => hw g (by simp [hg])) (h.resolve_left (fun q => e q.symm))
   exact ⟨g, by simp [h1], h2, h3, h4⟩
theorem ixS_at (l : List S58) : ∀ (i : Nat) (a b k : Int), i ≤ l.length → ixS l i a b = some k → ∃ h : k.toNat < l.length, l[k.toNat].f0 = ⟨a, b⟩ ∧ 0 ≤ k
 | 0, _, _, _, _, h => by cases h
 | i + 1, a, b, k, hi, h => by
  unfold ixS updS at h
  split at h
  ·rename_i hc
   cases h
   refine ⟨by simp; omega, ?_, by omega⟩
   rw [rd58' l i (by omega)] at hc
   simp only [Int.toNat_natCast]
   rw [hc.1, hc.2]
  ·exact ixS_at l i a b k (by omega) h
theorem turned_tracks (l0 : List S58) (hn : (l0.map (·.f0)).Nodup) (x : S56) : ∀ (ss : List S63) (out : List S58) (st : Int × Int × Bool), MaskOk ss → out.map (·.f0) = l0.map (·.f0) →
  (turnedL moreE moreF (ixS l0 l0.length) out ss).2 = 0 → Tracks x out st → Tracks x (turnedL moreE moreF (ixS l0 l0.length) out ss).1 (slotSt x st ss) ∧ (turnedL moreE moreF (ixS l0 l0.length) out ss).1.map (·.f0) = l0.map (·.f0)
 | [], out, st, _, hm, _, ht => ⟨ht, hm⟩
 | s :: ss, out, st, hM, hm, h0, ht => by
  rw [turnedL] at h0 ⊢
  by_cases d1 : s.f2 < 0
  ·rw [if_pos d1] at h0; simp at h0
  ·rw [if_neg d1] at h0 ⊢
   cases hx : ixS l0 l0.length s.f0.f0 s.f0.f1 with
   | none => rw [hx] at h0; simp at h0
   | some k =>
    rw [hx] at h0
    simp only at h0 ⊢
    obtain ⟨hk, e1, hk0⟩ := ixS_at l0 l0.length _ _ k (Nat.le_refl _) hx
    have hlen : out.length = l0.length := by have := congrArg List.length hm; simpa using this
    have hko : k.toNat < out.length := by omega
    have e2 : out[k.toNat].f0 = s.f0 := by
     have : (out.map (·.f0))[k.toNat]'(by simpa using hko) = (l0.map (·.f0))[k.toNat]'(by simpa using hk) := by simp only [hm]
     rw [List.getElem_map, List.getElem_map] at this
     rw [this, e1]
    have e3 : rd_T58 out k = out[k.toNat] := by
     obtain ⟨n, rfl⟩ := Int.eq_ofNat_of_zero_le hk0
     exact rd58' out n (by simpa using hko)
    rw [e3] at h0 ⊢
    by_cases d2 : moreE out[k.toNat] s = 0
    ·rw [if_pos d2] at h0 ⊢
     have hms : U64m s.f1 := hM s (by simp)
     have hmap : (out.set k.toNat (moreF out[k.toNat] s)).map (·.f0) = l0.map (·.f0) := by
      rw [List.map_set, ← hm]
      apply List.ext_getElem
      ·simp
      ·intro n h1 h2
       rw [List.getElem_set]
       split
       ·rename_i h; subst h; rw [List.getElem_map]; rfl
       ·rfl
     refine turned_tracks l0 hn x ss _ (addSt x st s.f0 s.f1 s.f2) (fun t ht => hM t (by simp [ht])) hmap h0 ?_
     obtain ⟨f, f1, f2, f3, f4⟩ := ht
     by_cases d3 : s.f0 = x
     ·-- the entry is the same
      have hf : f = out[k.toNat] := by
       obtain ⟨j, hj, rfl⟩ := List.getElem_of_mem f1
       have hno : (out.map (·.f0)).Nodup := by rw [hm]; exact hn
       have := nodup_inj hno (i := j) (j := k.toNat) (by simpa using hj) (by simpa using hko) (by rw [List.getElem_map, List.getElem_map, f2, e2, d3])
       subst this
       rfl
      rw [← hf] at d2 ⊢
      have d4 : Go.bits .and .u64 s.f1 f.f1 = 0 := by
       unfold moreE at d2
       by_cases q : Go.bits .and .u64 s.f1 f.f1 = 0
       ·exact q
       ·rw [if_pos q] at d2; simp at d2
      refine ⟨moreF f s, ?_, f2, ?_, or_bd f4 hms⟩
      ·exact List.mem_iff_getElem.2 ⟨k.toNat, by simpa using hko, by rw [List.getElem_set_self]⟩
      ·rw [f3]
       unfold addSt addM addC addB moreF
       rw [eqS_iff.2 d3]
       simp only [↓reduceIte, and_comm' f4 hms, d4]
       simp
     ·rw [addSt_far d3]
      refine ⟨f, ?_, f2, f3, f4⟩
      obtain ⟨j, hj, rfl⟩ := List.getElem_of_mem f1
      have hne : k.toNat ≠ j := fun e => d3 (by subst e; exact e2.symm.trans f2)
      exact List.mem_iff_getElem.2 ⟨j, by simpa using hj, by rw [List.getElem_set_ne hne]⟩
    ·rw [if_neg d2] at h0
     exact absurd h0 d2
theorem holdE_zero {T : Sit} {fl : List S58} {k : Nat} {x : S62} (h : holdE T fl k x = 0) : (turned51 moreE moreF fl x.f4).2 = 0 := by
 unfold holdE at h
 repeat' split at h
 all_goals first | omega | assumption
theorem sameF_eq : ∀ {l m : List S58}, sameF l m = true → l = m
 | [], [], _ => rfl
 | a :: l, b :: m, h => by
  rw [sameF, Bool.and_eq_true] at h
  obtain ⟨h1, h2⟩ := h
  rw [sameF_eq h2]
  unfold eqF at h1
  simp only [Bool.and_eq_true, beq_iff_eq] at h1
  obtain ⟨⟨a0, a1⟩, a2, a3⟩ := a
  obtain ⟨⟨b0, b1⟩, b2, b3⟩ := b
  simp only at h1
  obtain ⟨⟨⟨h1, h3⟩, h4⟩, h5⟩ := h1
  subst h1; subst h3; subst h4; subst h5
  rfl
 | [], _ :: _, h => by cases h
 | _ :: _, [], h => by cases h
theorem units_sum {T : Sit} {wh : List S58} (h : (checkR T wh).1 = 0) (hv : viewR T.lF) (hF : ∀ f ∈ T.lF, wfd58 f) (hM : ∀ h ∈ T.lH, MaskOk h.f4) : ∀ f ∈ wh, holdSt f.f0 (freeSt f.f0 (0, 0, true) T.lF) T.lH = (f.f1, f.f2, true) := by
 obtain ⟨z1, _, _⟩ := checkR_zero h
 unfold holdsR at z1
 have z2 : (holdsL T).1 = 0 := by
  by_cases q : (holdsL T).1 = 0
  ·exact q
  ·rw [if_neg q] at z1; exact z1
 rw [if_pos z2] at z1
 have z3 : sameF (frees T T.lH.length) wh = true := by
  by_cases q : sameF (frees T T.lH.length) wh = true
  ·exact q
  ·rw [if_neg q] at z1; simp at z1
 have z4 := sameF_eq z3
 have z5 := (firstL_zero _ _ _ _).1 z2
 have hn : (T.lF.map (·.f0)).Nodup := by
  have := hv.2
  refine (List.Pairwise.of_map (f := fun s : S56 => (s.f0, s.f1)) (S := (· ≠ ·)) (fun a b hne e => hne (by rw [e])) ?_)
  rw [List.map_map]
  exact this
 have key : ∀ k, k ≤ T.lH.length → (frees T k).map (·.f0) = T.lF.map (·.f0) ∧ ∀ x ∈ T.lF.map (·.f0), Tracks x (frees T k) (holdSt x (freeSt x (0, 0, true) T.lF) (T.lH.take k)) := by
  intro k
  induction k with
  | zero =>
   intro _
   exact ⟨rfl, fun x hx => free_tracks x T.lF hn (fun f hf => ⟨⟨(hF f hf).2.1.1, by have := (hF f hf).2.1.2; omega⟩, hv.1 f hf⟩) hx⟩
  | succ k ih =>
   intro hk
   obtain ⟨i1, i2⟩ := ih (by omega)
   have hE := holdE_zero (z5 k (by omega) (by omega))
   have hg : rd_T62 T.lH (k : Int) = T.lH[k] := rd62' T.lH k (by omega)
   rw [hg] at hE
   rw [frees, hg]
   unfold turned51 at hE ⊢
   have hno : ((frees T k).map (·.f0)).Nodup := by rw [i1]; exact hn
   refine ⟨?_, fun x hx => ?_⟩
   ·by_cases hl : T.lF = []
    ·have hf : frees T k = [] := by
      have := congrArg List.length i1
      rw [hl] at this
      simpa using this
     rw [hf, hl]
     have := turnedL_spot (ixS ([] : List S58) ([] : List S58).length) T.lH[k].f4 [] (fun f hf => by simp at hf)
     have := this.1
     simp at this
     rw [show (ixS ([] : List S58) ([] : List S58).length) = ixS [] 0 from rfl, this]
    ·obtain ⟨f, l, e⟩ := List.exists_cons_of_ne_nil hl
     have := turned_tracks (frees T k) hno f.f0 T.lH[k].f4 (frees T k) _ (hM _ (List.getElem_mem _)) rfl hE (i2 f.f0 (by rw [e]; simp))
     rw [this.2, i1]
   ·have := turned_tracks (frees T k) hno x T.lH[k].f4 (frees T k) _ (hM _ (List.getElem_mem _)) rfl hE (i2 x hx)
    rw [List.take_add_one, List.getElem?_eq_getElem (by omega), holdSt, List.foldl_append]
    exact this.1
 intro f hf
 obtain ⟨k1, k2⟩ := key T.lH.length (Nat.le_refl _)
 rw [z4] at k1 k2
 have hx : f.f0 ∈ T.lF.map (·.f0) := by rw [← k1]; exact List.mem_map.2 ⟨f, hf, rfl⟩
 obtain ⟨g, g1, g2, g3, _⟩ := k2 f.f0 hx
 rw [List.take_length] at g3
 have hno : (wh.map (·.f0)).Nodup := by rw [k1]; exact hn
 have : g = f := by
  obtain ⟨i, hi, rfl⟩ := List.getElem_of_mem g1
  obtain ⟨j, hj, rfl⟩ := List.getElem_of_mem hf
  have := nodup_inj hno (i := i) (j := j) (by simpa using hi) (by simpa using hj) (by rw [List.getElem_map, List.getElem_map, g2])
  subst this
  rfl
 subst this
 exact g3
theorem addSt_ok {x s : S56} {st : Int × Int × Bool} {m n : Int} (h : (addSt x st s m n).2.2 = true) : addB x s m st.1 = true ∧ st.2.2 = true := by
 unfold addSt at h
 simpa only [Bool.and_eq_true] using h
theorem freeSt_ok {x : S56} : ∀ (l : List S58) (st : Int × Int × Bool), (freeSt x st l).2.2 = true → st.2.2 = true
 | [], _, h => h
 | f :: l, st, h => (addSt_ok (freeSt_ok l _ h)).2
theorem slotSt_ok {x : S56} : ∀ (l : List S63) (st : Int × Int × Bool), (slotSt x st l).2.2 = true → st.2.2 = true
 | [], _, h => h
 | f :: l, st, h => (addSt_ok (slotSt_ok l _ h)).2
theorem holdSt_ok {x : S56} : ∀ (l : List S62) (st : Int × Int × Bool), (holdSt x st l).2.2 = true → st.2.2 = true
 | [], _, h => h
 | f :: l, st, h => slotSt_ok _ _ (holdSt_ok l _ h)
theorem free_pre {x : S56} {st : Int × Int × Bool} {l : List S58} (n : Nat) (h : (freeSt x st l).2.2 = true) : (freeSt x st (l.take n)).2.2 = true := by
 refine freeSt_ok (x := x) (l.drop n) _ ?_
 rw [freeSt, freeSt, ← List.foldl_append, List.take_append_drop]
 exact h
theorem slot_pre {x : S56} {st : Int × Int × Bool} {l : List S63} (n : Nat) (h : (slotSt x st l).2.2 = true) : (slotSt x st (l.take n)).2.2 = true := by
 refine slotSt_ok (x := x) (l.drop n) _ ?_
 rw [slotSt, slotSt, ← List.foldl_append, List.take_append_drop]
 exact h
theorem hold_pre {x : S56} {st : Int × Int × Bool} {l : List S62} (n : Nat) (h : (holdSt x st l).2.2 = true) : (holdSt x st (l.take n)).2.2 = true := by
 refine holdSt_ok (x := x) (l.drop n) _ ?_
 rw [holdSt, holdSt, ← List.foldl_append, List.take_append_drop]
 exact h
theorem addSt_step {x s : S56} {mk cp m n : Int} (h : (addSt x (mk, cp, true) s m n).2.2 = true) : addB x s m mk = true ∧ addSt x (mk, cp, true) s m n = (addM x s m mk, addC x s n cp, true) := by
 have hq := (addSt_ok h).1
 refine ⟨hq, ?_⟩
 unfold addSt
 rw [hq]
 rfl
theorem free_next {x : S56} {l : List S58} {n : Nat} {mk cp : Int} (hn : n < l.length) (h : (freeSt x (0, 0, true) l).2.2 = true) (hs : freeSt x (0, 0, true) (l.take n) = (mk, cp, true)) :
  addB x l[n].f0 l[n].f1 mk = true ∧ freeSt x (0, 0, true) (l.take (n + 1)) = (addM x l[n].f0 l[n].f1 mk, addC x l[n].f0 l[n].f2 cp, true) := by
 have e : freeSt x (0, 0, true) (l.take (n + 1)) = addSt x (mk, cp, true) l[n].f0 l[n].f1 l[n].f2 := by
  rw [← hs, List.take_add_one, List.getElem?_eq_getElem hn, freeSt, freeSt, List.foldl_append]
  rfl
 have h2 := free_pre (n + 1) h
 rw [e] at h2 ⊢
 exact addSt_step h2
theorem slot_next {x : S56} {st : Int × Int × Bool} {l : List S63} {n : Nat} {mk cp : Int} (hn : n < l.length) (h : (slotSt x st l).2.2 = true) (hs : slotSt x st (l.take n) = (mk, cp, true)) :
  addB x l[n].f0 l[n].f1 mk = true ∧ slotSt x st (l.take (n + 1)) = (addM x l[n].f0 l[n].f1 mk, addC x l[n].f0 l[n].f2 cp, true) := by
 have e : slotSt x st (l.take (n + 1)) = addSt x (mk, cp, true) l[n].f0 l[n].f1 l[n].f2 := by
  rw [← hs, List.take_add_one, List.getElem?_eq_getElem hn, slotSt, slotSt, List.foldl_append]
  rfl
 have h2 := slot_pre (n + 1) h
 rw [e] at h2 ⊢
 exact addSt_step h2
theorem hold_next {x : S56} {st : Int × Int × Bool} {l : List S62} {n : Nat} (hn : n < l.length) : holdSt x st (l.take (n + 1)) = slotSt x (holdSt x st (l.take n)) l[n].f4 := by
 rw [List.take_add_one, List.getElem?_eq_getElem hn, holdSt, holdSt, List.foldl_append]
 rfl
end Go.Proofs.Ytpedlompipabdaa.P
namespace Go.Proofs.Ytpedlompipabdaa.P
open Go.RowKit Go.Proofs.YtpedlompipabdaaW.PrintWords Go.Proofs.YtpedlompipabdaaW.PrintLast Go.Proofs.YtpedlompipabdaaW.PrintMore
set_option linter.unusedVariables false
set_option linter.unusedSimpArgs false
attribute [local go_sem] cellBx frozBx Sit.c0 Sit.c1 Sit.c2 Sit.c3 Sit.c4 Sit.c5 Sit.c6 Sit.c7 Sit.c8 Sit.c9 Sit.c10 Sit.c12 Sit.c13 Sit.c14 Sit.c15
attribute [local go_sem] Oper.semAt_some
open Go.Shelf
set_option maxHeartbeats 8000000 in
set_option maxRecDepth 100000 in
theorem units_T (T : Sit) (k : Nat) (b1 b2 : Bool) (wh : List S58) (w : World) (ok : T.Ok w) (hD : Kd.C Kd.bool w T.AD T.lD.length T.lD) (hDc : T.lD.length ≤ T.cD) (h1 : ensembleref16_Right.f k T.lN T.lQ T.x2 T.x3 T.x4 T.x5 = some b1) (h2 : b1 = true → ensembleref19_Few.f k T.y0 T.y1 T.y2 T.y3 T.lW T.lD T.lG T.lH T.lF T.lU = some b2)
  (h3 : b1 = true → b2 = true → (audit_whole.f k T.lN T.lQ T.x2 T.x3 T.x4 T.x5 = some wh ∧ T.Fit ∧ ensembleref02_All.f k T.lN = some wh ∧ wh.length ≤ 1000 ∧ T.lF.length ≤ 1000) ∧ ((checkR T wh).1 = 0 → ∀ f ∈ wh, holdSt f.f0 (freeSt f.f0 (0, 0, true) T.lF) T.lH = (f.f1, f.f2, true))) :
  Calls Try.prog 4 #[.agg #[.slice T.AN T.lN.length T.cN, .slice T.AQ T.lQ.length T.cQ, .int .i64 T.x2, .int .i64 T.x3, .int .i64 T.x4, .int .i64 T.x5], .agg #[.int .i64 T.y0, .int .i64 T.y1, .int .i64 T.y2, .int .i64 T.y3, .slice T.AW T.lW.length T.cW, .slice T.AD T.lD.length T.cD, .slice T.AG T.lG.length T.cG, .slice T.AH T.lH.length T.cH, .slice T.AF T.lF.length T.cF, .slice T.AU T.lU.length T.cU]] w fun e w' => e = .returned (.bool true) ∧ Below w.heap.size w w' := by
 have hu27 := Try.underlying27
 have hu35 := Try.underlying35
 have hu24 := Try.underlying24
 have hu32 := Try.underlying32
 have hu58 := Try.underlying58
 have hu56 := Try.underlying56
 have hu54 := Try.underlying54
 have hu31 := Try.underlying31
 have hu62 := Try.underlying62
 have hu60 := Try.underlying60
 have hu63 := Try.underlying63
 have hu39 := Try.underlying39
 have hu4 := Try.underlying4
 have hu3 := Try.underlying3
 have : Be w w := ⟨Below.refl _ _⟩
 have HR := Aside0.mk h1
 have HF0 := Aside0.mk h2
 have HG0 := Aside0.mk h3
 clear h1 h2 h3
 go_enter Try.func4, Try.ntmps4
 go_upto_region 3 with (first | ((with_reducible refine gate_dst (N := 2) rfl ?_); refine bxT 2 #[.slice T.AN T.lN.length T.cN, .slice T.AQ T.lQ.length T.cQ, .int .i64 T.x2, .int .i64 T.x3, .int .i64 T.x4, .int .i64 T.x5] 27 ?_; intro g2 w2 _ _ _) | ((with_reducible refine gate_dst (N := 3) rfl ?_); refine bxT 3 #[.int .i64 T.y0, .int .i64 T.y1, .int .i64 T.y2, .int .i64 T.y3, .slice T.AW T.lW.length T.cW, .slice T.AD T.lD.length T.cD, .slice T.AG T.lG.length T.cG, .slice T.AH T.lH.length T.cH, .slice T.AF T.lF.length T.cF, .slice T.AU T.lU.length T.cU] 35 ?_; intro g3 w3 _ _ _) | (go_at_call 5; refine (awake19 _).mono ?_; rintro e wa ⟨rfl, hb⟩; have := Bl.mk hb; clear hb))
 cases b1 with
 | false =>
  go_wp2_with ((go_at_call 6; refine (ensembleref16_Right.calls k _ _ _ _ _ _ _ _ _ _ _ _ (ok.step Be.out).N ok.Nc (ok.step Be.out).Q ok.Qc HR.out).mono ?_; rintro e wr ⟨rfl, hb⟩; have := Bl.mk hb; clear hb))
  go_ret
  exact ⟨rfl, Be.out⟩
 | true =>
  have HF := Aside0.mk (HF0.out rfl)
  cases b2 with
  | false =>
   go_wp2_with (first | (go_at_call 6; refine (ensembleref16_Right.calls k _ _ _ _ _ _ _ _ _ _ _ _ (ok.step Be.out).N ok.Nc (ok.step Be.out).Q ok.Qc HR.out).mono ?_; rintro e wr ⟨rfl, hb⟩; have := Bl.mk hb; clear hb) | (go_at_call 7; refine (ensembleref19_Few.calls k _ _ _ _ _ _ _ _ _ _ _ _ _ _ _ _ _ _ _ _ _ _ _ _ (ok.step Be.out).W ok.Wc (Kd.C_below hD Be.out) hDc (ok.step Be.out).G ok.Gc (ok.step Be.out).H ok.Hc (ok.step Be.out).F ok.Fc (ok.step Be.out).U ok.Uc HF.out).mono ?_; rintro e wf ⟨rfl, hb⟩; have := Bl.mk hb; clear hb))
   go_ret
   exact ⟨rfl, Be.out⟩
  | true =>
   obtain ⟨⟨hw, hft, ha, hwl, hfl⟩, hsum⟩ := HG0.out rfl rfl
   have HW := Aside0.mk hw
   have HT := Aside0.mk hft
   have HA := Aside0.mk ha
   have HWL := Aside0.mk hwl
   have HFL := Aside0.mk hfl
   have HS0 := Aside0.mk hsum
   clear HF0 HG0 hw hft ha hwl hfl hsum
   go_upto_region 5 with (first | (go_at_call 6; refine (ensembleref16_Right.calls k _ _ _ _ _ _ _ _ _ _ _ _ (ok.step Be.out).N ok.Nc (ok.step Be.out).Q ok.Qc HR.out).mono ?_; rintro e wr ⟨rfl, hb⟩; have := Bl.mk hb; clear hb) | (go_at_call 7; refine (ensembleref19_Few.calls k _ _ _ _ _ _ _ _ _ _ _ _ _ _ _ _ _ _ _ _ _ _ _ _ (ok.step Be.out).W ok.Wc (Kd.C_below hD Be.out) hDc (ok.step Be.out).G ok.Gc (ok.step Be.out).H ok.Hc (ok.step Be.out).F ok.Fc (ok.step Be.out).U ok.Uc HF.out).mono ?_; rintro e wf ⟨rfl, hb⟩; have := Bl.mk hb; clear hb))
   clear HR HF
   obtain ⟨⟨e1, n1⟩, hc⟩ : ∃ r, checkR T wh = r := ⟨_, rfl⟩
   have HC := Aside0.mk hc
   go_upto_region 6 with ((go_at_call 8; refine (check_calls T k wh _ (ok.step Be.out) HT.out HW.out).mono ?_; rintro e wc ⟨rfl, hb⟩; have := Bl.mk hb; clear hb))
   clear hc
   by_cases d1 : e1 = 0
   case neg =>
    have q1 : (e1 != 0) = true := bne_iff_ne.2 d1
    clear d1
    go_wp2
    go_ret
    exact ⟨rfl, Be.out⟩
   have hz : (checkR T wh).1 = 0 := by rw [HC.out]; exact d1
   have q1 : (e1 != 0) = false := by rw [d1]; rfl
   have HS := Aside0.mk (HS0.out hz)
   clear d1 hz HC HS0
   go_upto_region 9 with ((go_at_call 9; refine (ensembleref02_All.calls k _ _ _ _ _ (ok.step Be.out).N ok.Nc HA.out).mono ?_; rintro e wl ⟨v, rfl, hR, hb⟩; have := Bl.mk hb; clear hb; obtain ⟨A7, c7, rfl, l7, C7⟩ := Kd.R_reads hR; have HC7 := Aside0.mk C7; clear hR l7 C7))
   clear q1
   obtain ⟨g7, w7, _, _, _, e1, e2⟩ := nameA wl #[.slice A7 wh.length c7] 32
   rw [e1, e2]
   clear e1 e2
   go_upto_region 10 with (fail)
   obtain ⟨g8, w8, _, _, _, e1, e2⟩ := nameA w7 #[.int .i64 0] 3
   rw [e1, e2]
   clear e1 e2
   have C8 := Aside0.mk (Kd.C_below (Kd.C_below HC7.out (Bl.out (W' := w7))) (Bl.out (W' := w8)))
   clear HC7
   go_loopg [8] (wh.length) (fun kq v8 wr => ∃ (i g8 : Nat), i + kq = wh.length ∧ v8 = .pointer (some ⟨g8, 0, none⟩) ∧ Bx wr g8 #[.int .i64 (i : Int)] 3 ∧ Below w8.heap.size w8 wr ∧ Bx wr g2 #[.slice T.AN T.lN.length T.cN, .slice T.AQ T.lQ.length T.cQ, .int .i64 T.x2, .int .i64 T.x3, .int .i64 T.x4, .int .i64 T.x5] 27 ∧ Bx wr g3 #[.int .i64 T.y0, .int .i64 T.y1, .int .i64 T.y2, .int .i64 T.y3, .slice T.AW T.lW.length T.cW, .slice T.AD T.lD.length T.cD, .slice T.AG T.lG.length T.cG, .slice T.AH T.lH.length T.cH, .slice T.AF T.lF.length T.cF, .slice T.AU T.lU.length T.cU] 35 ∧ Bx wr g7 #[.slice A7 wh.length c7] 32 ∧ Be w wr)
   case atStart => exact ⟨0, g8, by omega, rfl, inferInstance, Below.refl _ _, inferInstance, inferInstance, inferInstance, inferInstance⟩
   case round =>
    obtain ⟨i, g8, hi, rfl, b8, h8w, b2, b3, b7, be⟩ := hrel
    have C := Aside0.mk (Kd.C_below C8.out h8w)
    have H8 := Aside0.mk h8w
    have HI := Aside0.mk hi
    clear h8w
    have : Bl w wr := ⟨be.out⟩
    have hi1 : (i : Int) ≤ 1000000 := by have := HWL.out; omega
    by_cases hlt : i < wh.length
    ·have hlt' : (i : Int) < wh.length := by omega
     have h0i : 0 ≤ (i : Int) := by omega
     clear hi
     have HLT := Aside0.mk hlt
     clear hlt
     go_upto_region 12 with (fail)
     go_upto_region 13 with (fail)
     obtain ⟨g9, w9, F9, B9, L9, s9, e9⟩ := nameA wr #[.int .u64 0] 54
     have hs : wr.heap.size + 1 = w9.heap.size := by rw [← e9]; exact (Array.size_push _).symm
     have hs9 : g9 + 1 = w9.heap.size := by rw [← s9]; exact hs
     have lt2 := blk_lt b2.out
     have lt3 := blk_lt b3.out
     have lt7 := blk_lt b7.out
     have lt8 := blk_lt b8.out
     have lw : w.heap.size ≤ wr.heap.size := be.out.size
     have lw8 : w8.heap.size ≤ wr.heap.size := H8.out.size
     rw [s9] at lt2 lt3 lt7 lt8 lw lw8
     rw [hs, s9, e9]
     obtain ⟨g10, w10, F10, B10, L10, s10, e10⟩ := nameA w9 #[.int .i64 0] 3
     rw [s10, e10]
     have h910 : g9 < g10 := by rw [← s10, ← hs9]; omega
     have n1 : Nq g10 g9 := ⟨by omega⟩
     have n2 : Nq g9 g10 := ⟨by omega⟩
     have L := Aside0.mk (And.intro h910 (And.intro lt2 (And.intro lt3 (And.intro lt7 (And.intro lt8 (And.intro lw lw8))))))
     have H8' := Aside0.mk (below_step (below_step H8.out L9.out) L10.out)
     have be10 : Be w w10 := inferInstance
     have b2' : Bx w10 g2 #[.slice T.AN T.lN.length T.cN, .slice T.AQ T.lQ.length T.cQ, .int .i64 T.x2, .int .i64 T.x3, .int .i64 T.x4, .int .i64 T.x5] 27 := inferInstance
     have b3' : Bx w10 g3 #[.int .i64 T.y0, .int .i64 T.y1, .int .i64 T.y2, .int .i64 T.y3, .slice T.AW T.lW.length T.cW, .slice T.AD T.lD.length T.cD, .slice T.AG T.lG.length T.cG, .slice T.AH T.lH.length T.cH, .slice T.AF T.lF.length T.cF, .slice T.AU T.lU.length T.cU] 35 := inferInstance
     have b7' : Bx w10 g7 #[.slice A7 wh.length c7] 32 := inferInstance
     have b8' : Bx w10 g8 #[.int .i64 (i : Int)] 3 := inferInstance
     have b9' : Bx w10 g9 #[.int .u64 0] 54 := inferInstance
     clear e9 hs s9 hs9 s10 e10 h910 lt2 lt3 lt7 lt8 lw lw8 F9 F10 L9 L10 B9 H8 b2 b3 b7 b8 be this C
     go_upto_region 16 with (fail)
     obtain ⟨x, hx⟩ : ∃ x, rd_T58 wh (i : Int) = x := ⟨_, rfl⟩
     have HX := Aside0.mk hx
     have hxm : x ∈ wh := by rw [← hx, rd58' wh i HLT.out]; exact List.getElem_mem _
     have hs1 := HS.out x hxm
     have SUM0 := Aside0.mk hs1
     have SUM2 := Aside0.mk (show (holdSt x.f0 (freeSt x.f0 (0, 0, true) T.lF) T.lH).2.2 = true by rw [hs1])
     have SUM1 := Aside0.mk (holdSt_ok T.lH _ SUM2.out)
     clear hx hxm hs1
     obtain ⟨wo, hwo⟩ : ∃ wo : World, wo = wr := ⟨_, rfl⟩
     subst hwo
     go_loopw [12, 13] (fun v12 v13 wr => ∃ (n : Nat) (mk cp : Int), n ≤ T.lF.length ∧ v13 = .int .i64 (n : Int) ∧ v12 = .bool true ∧ Aside0 (freeSt x.f0 (0, 0, true) (T.lF.take n) = (mk, cp, true)) ∧ Bx wr g9 #[.int .u64 mk] 54 ∧ Bx wr g10 #[.int .i64 cp] 3 ∧ Bx wr g8 #[.int .i64 (i : Int)] 3 ∧ Aside0 (Below w8.heap.size w8 wr) ∧ Bx wr g2 #[.slice T.AN T.lN.length T.cN, .slice T.AQ T.lQ.length T.cQ, .int .i64 T.x2, .int .i64 T.x3, .int .i64 T.x4, .int .i64 T.x5] 27 ∧ Bx wr g3 #[.int .i64 T.y0, .int .i64 T.y1, .int .i64 T.y2, .int .i64 T.y3, .slice T.AW T.lW.length T.cW, .slice T.AD T.lD.length T.cD, .slice T.AG T.lG.length T.cG, .slice T.AH T.lH.length T.cH, .slice T.AF T.lF.length T.cF, .slice T.AU T.lU.length T.cU] 35 ∧ Bx wr g7 #[.slice A7 wh.length c7] 32 ∧ Be w wr) (fun v12 v13 _ => T.lF.length - (intOf v13).toNat)
     case atStart => exact ⟨0, 0, 0, Nat.zero_le _, rfl, rfl, ⟨rfl⟩, inferInstance, inferInstance, inferInstance, H8', inferInstance, inferInstance, inferInstance, inferInstance⟩
     case round =>
      clear b2' b3' b7' b8' b9' B10 be10 H8'
      obtain ⟨n, mk, cp, hn, rfl, rfl, hst, b9, b10, b8, h8, b2, b3, b7, be⟩ := hrel
      have : Bl w wr := ⟨be.out⟩
      have hn1 : (n : Int) ≤ 1000000 := by have := HFL.out; omega
      by_cases hlt : n < T.lF.length
      ·have hltn : (n : Int) < T.lF.length := by omega
       have h0n : 0 ≤ (n : Int) := by omega
       clear hn
       have HN := Aside0.mk hlt
       obtain ⟨ad, ee, y0, y1, y2, y3⟩ := at_T58 (ok.step be.out).F (n : Int) h0n hltn
       simp only [Int.toNat_natCast] at y0 y1 y2 y3
       have hf : rd_T58 T.lF (n : Int) = T.lF[n] := rd58' T.lF n hlt
       rw [hf] at y0 y1 y2 y3
       obtain ⟨f, hf'⟩ : ∃ f, T.lF[n] = f := ⟨_, rfl⟩
       rw [hf'] at y0 y1 y2 y3
       obtain ⟨hq, hst1⟩ := free_next hlt SUM1.out hst.out
       rw [hf'] at hq hst1
       have HST := Aside0.mk hst1
       clear hst1 hf' hf hlt hst
       have hal : (ad.add (n * 4)).block < g9 := by
        obtain ⟨ad', ee', z0, _⟩ := at_T58 ok.F (n : Int) h0n hltn
        have e : ad = ad' := Option.some.inj (ee.symm.trans ee')
        have := World.block_lt_of_cell? _ _ z0
        rw [← e, Int.toNat_natCast] at this
        exact Nat.lt_of_lt_of_le this L.out.2.2.2.2.2.1
       have hbg : Bx wr g3 #[.int .i64 T.y0, .int .i64 T.y1, .int .i64 T.y2, .int .i64 T.y3, .slice T.AW T.lW.length T.cW, .slice T.AD T.lD.length T.cD, .slice T.AG T.lG.length T.cG, .slice T.AH T.lH.length T.cH, .slice (some ad) T.lF.length T.cF, .slice T.AU T.lU.length T.cU] 35 := by have := b3; rw [ee] at this; exact this
       have EB := Aside0.mk b3
       have EE := Aside0.mk ee
       rw [ee]
       clear b3 ee
       go_upto_region 18 with (fail)
       have hc := add_calls g7 g8 g9 g10 i A7 c7 wh f.f0 f.f1 f.f2 mk cp wr.drew inferInstance inferInstance inferInstance inferInstance (Kd.C_drew (Kd.C_below C8.out h8.out)) HLT.out (by omega) n1 n2 (Nat.le_of_lt (blk_lt b9.out)) (Nat.le_of_lt L.out.1)
       rw [HX.out, hq] at hc
       have HCALL := Aside0.mk hc
       clear hc
       clear hq
       go_region_held3 (fun w' => (w'.cell? ⟨g3, 8, none⟩) = some (.slice (some ad) T.lF.length T.cF) ∧ (w'.cell? (ad.add (n * 4))) = some (.int .i64 f.f0.f0) ∧ (w'.cell? ⟨(ad.add (n * 4)).block, (ad.add (n * 4)).off + 1, none⟩) = some (.int .i64 f.f0.f1) ∧ (w'.cell? ⟨(ad.add (n * 4)).block, (ad.add (n * 4)).off + 2, none⟩) = some (.int .u64 f.f1) ∧ (w'.cell? ⟨(ad.add (n * 4)).block, (ad.add (n * 4)).off + 3, none⟩) = some (.int .i64 f.f2)) ((repeat' (refine And.intro ?_ ?_)) <;> first | exact (cellBx _).trans rfl | assumption) ((go_at_call 10; refine HCALL.out.mono ?_; rintro e wa ⟨rfl, a9, a10, hb⟩; have z0 := cellBelowD hb y0 hal; have z1 := cellBelowD hb y1 hal; have z2 := cellBelowD hb y2 hal; have z3 := cellBelowD hb y3 hal; have a3 := bxBelowD hbg hb L.out.2.2.1; have a2 := bxBelowD b2 hb L.out.2.1; have a7 := bxBelowD b7 hb L.out.2.2.2.1; have a8 := bxBelowD b8 hb L.out.2.2.2.2.1; have abe : Be w wa := beBelowD be hb L.out.2.2.2.2.2.1; have HB := Aside0.mk hb; clear hb))
       go_wp2
       go_roundw
       case rel => exact ⟨n + 1, _, _, HN.out, by go_num, rfl, HST, inferInstance, inferInstance, inferInstance, ⟨blBelowD h8.out HB.out L.out.2.2.2.2.2.2⟩, inferInstance, inferInstance, inferInstance, inferInstance⟩
       case measure => have := HN.out; simp [intOf]; omega
      ·obtain rfl : n = T.lF.length := by omega
       have hs := hst.out
       rw [List.take_length] at hs
       have HS1 := Aside0.mk hs
       clear hst hs hn hlt
       go_upto_region 20 with (fail)
       obtain ⟨wx, hwx⟩ : ∃ wx : World, wx = wr := ⟨_, rfl⟩
       subst hwx
       go_loopw [12, 14] (fun v12 v14 wr => ∃ (m : Nat) (mk cp : Int), m ≤ T.lH.length ∧ v14 = .int .i64 (m : Int) ∧ v12 = .bool true ∧ Aside0 (holdSt x.f0 (freeSt x.f0 (0, 0, true) T.lF) (T.lH.take m) = (mk, cp, true)) ∧ Bx wr g9 #[.int .u64 mk] 54 ∧ Bx wr g10 #[.int .i64 cp] 3 ∧ Bx wr g8 #[.int .i64 (i : Int)] 3 ∧ Aside0 (Below w8.heap.size w8 wr) ∧ Bx wr g2 #[.slice T.AN T.lN.length T.cN, .slice T.AQ T.lQ.length T.cQ, .int .i64 T.x2, .int .i64 T.x3, .int .i64 T.x4, .int .i64 T.x5] 27 ∧ Bx wr g3 #[.int .i64 T.y0, .int .i64 T.y1, .int .i64 T.y2, .int .i64 T.y3, .slice T.AW T.lW.length T.cW, .slice T.AD T.lD.length T.cD, .slice T.AG T.lG.length T.cG, .slice T.AH T.lH.length T.cH, .slice T.AF T.lF.length T.cF, .slice T.AU T.lU.length T.cU] 35 ∧ Bx wr g7 #[.slice A7 wh.length c7] 32 ∧ Be w wr) (fun v12 v14 _ => T.lH.length - (intOf v14).toNat)
       case atStart => exact ⟨0, mk, cp, Nat.zero_le _, rfl, rfl, ⟨HS1.out⟩, inferInstance, inferInstance, inferInstance, ⟨h8.out⟩, inferInstance, inferInstance, inferInstance, inferInstance⟩
       case round =>
        clear b2 b3 b7 b8 b9 b10 be h8 HS1 mk cp
        obtain ⟨m, mk, cp, hm, rfl, rfl, hst, b9, b10, b8, h8, b2, b3, b7, be⟩ := hrel
        have : Bl w wr := ⟨be.out⟩
        have hm1 : (m : Int) ≤ 1000000 := by have := HT.out.H; omega
        by_cases hlt : m < T.lH.length
        ·have hltm : (m : Int) < T.lH.length := by omega
         have h0m : 0 ≤ (m : Int) := by omega
         clear hm
         have HM := Aside0.mk hlt
         obtain ⟨ad, A4, c4, ee, y0, y1, y2, y3, y4, l4, g4⟩ := at_T62 ok.H (m : Int) h0m hltm
         clear y0 y1 y2 y3 l4
         simp only [Int.toNat_natCast] at y4
         have hh : rd_T62 T.lH (m : Int) = T.lH[m] := rd62' T.lH m hlt
         have hml := (HT.out.M T.lH[m] (List.getElem_mem _)).1
         have hnx := hold_next (x := x.f0) (st := (freeSt x.f0 (0, 0, true) T.lF)) hlt
         have hp := hold_pre (m + 1) SUM2.out
         rw [hnx, hst.out] at hp
         rw [hst.out] at hnx
         rw [hh] at y4 g4
         generalize T.lH[m] = h at *
         have G4 := Aside0.mk g4
         have SUM3 := Aside0.mk hp
         have HNX := Aside0.mk hnx
         have HML := Aside0.mk hml
         clear hp hnx hml hh g4 hlt hst
         have hbg : Bx wr g3 #[.int .i64 T.y0, .int .i64 T.y1, .int .i64 T.y2, .int .i64 T.y3, .slice T.AW T.lW.length T.cW, .slice T.AD T.lD.length T.cD, .slice T.AG T.lG.length T.cG, .slice (some ad) T.lH.length T.cH, .slice T.AF T.lF.length T.cF, .slice T.AU T.lU.length T.cU] 35 := by have := b3; rw [ee] at this; exact this
         rw [ee]
         have EE := Aside0.mk ee
         clear b3 ee
         go_upto_region 23 with (fail)
         obtain ⟨wy, hwy⟩ : ∃ wy : World, wy = wr := ⟨_, rfl⟩
         subst hwy
         go_loopw [12, 15] (fun v12 v15 wr => ∃ (n : Nat) (mk' cp' : Int), n ≤ h.f4.length ∧ v15 = .int .i64 (n : Int) ∧ v12 = .bool true ∧ Aside0 (slotSt x.f0 (mk, cp, true) (h.f4.take n) = (mk', cp', true)) ∧ Bx wr g9 #[.int .u64 mk'] 54 ∧ Bx wr g10 #[.int .i64 cp'] 3 ∧ Bx wr g8 #[.int .i64 (i : Int)] 3 ∧ Aside0 (Below w8.heap.size w8 wr) ∧ Bx wr g2 #[.slice T.AN T.lN.length T.cN, .slice T.AQ T.lQ.length T.cQ, .int .i64 T.x2, .int .i64 T.x3, .int .i64 T.x4, .int .i64 T.x5] 27 ∧ Bx wr g3 #[.int .i64 T.y0, .int .i64 T.y1, .int .i64 T.y2, .int .i64 T.y3, .slice T.AW T.lW.length T.cW, .slice T.AD T.lD.length T.cD, .slice T.AG T.lG.length T.cG, .slice (some ad) T.lH.length T.cH, .slice T.AF T.lF.length T.cF, .slice T.AU T.lU.length T.cU] 35 ∧ Bx wr g7 #[.slice A7 wh.length c7] 32 ∧ Be w wr) (fun v12 v15 _ => h.f4.length - (intOf v15).toNat)
         case atStart => exact ⟨0, mk, cp, Nat.zero_le _, rfl, rfl, ⟨rfl⟩, inferInstance, inferInstance, inferInstance, ⟨h8.out⟩, inferInstance, inferInstance, inferInstance, inferInstance⟩
         case round =>
          clear b2 hbg b7 b8 b9 b10 be h8
          obtain ⟨n, mk', cp', hn, rfl, rfl, hst, b9, b10, b8, h8, b2, b3, b7, be⟩ := hrel
          have : Bl w wr := ⟨be.out⟩
          have hn1 : (n : Int) ≤ 1000000 := by have := HML.out; omega
          have y4' := pw_cell_below be.out y4
          by_cases hlt : n < h.f4.length
          ·have hltn : (n : Int) < h.f4.length := by omega
           have h0n : 0 ≤ (n : Int) := by omega
           clear hn
           have HN := Aside0.mk hlt
           obtain ⟨hq, hs2⟩ := slot_next hlt SUM3.out hst.out
           obtain ⟨ads, e4, z0, z1, z2, z3⟩ := at_T63 (Kd.C_below G4.out be.out) (n : Int) h0n hltn
           subst e4
           simp only [Int.toNat_natCast] at z0 z1 z2 z3
           have hh : rd_T63 h.f4 (n : Int) = h.f4[n] := by simp [rd_T63, List.getD_eq_getElem?_getD, List.getElem?_eq_getElem hlt]
           rw [hh] at z0 z1 z2 z3
           generalize h.f4[n] = s at *
           have HST := Aside0.mk hs2
           have HQ := Aside0.mk hq
           clear hs2 hq hh hlt hst
           go_upto_region 26 with (fail)
           obtain ⟨g16, w16, _, _, _, e1, e2⟩ := nameA wr #[.int .i64 s.f0.f0, .int .i64 s.f0.f1, .int .u64 s.f1, .int .i64 s.f2] 63
           rw [e1, e2]
           clear e1 e2
           have hc := add_calls g7 g8 g9 g10 i A7 c7 wh s.f0 s.f1 s.f2 mk' cp' w16 inferInstance inferInstance inferInstance inferInstance (Kd.C_below (Kd.C_below C8.out h8.out) (Bl.out (W' := w16))) HLT.out (by omega) n1 n2 (Nat.le_trans (Nat.le_of_lt (blk_lt b9.out)) (Bl.out (W' := w16)).size) (Nat.le_of_lt L.out.1)
           rw [HX.out, HQ.out] at hc
           have HCALL := Aside0.mk hc
           have hw8 := Aside0.mk (below_step h8.out (Bl.out (W' := w16)))
           clear hc z0 z1 z2 z3
           go_wp2_with (go_at_call 10; refine HCALL.out.mono ?_; rintro e wa ⟨rfl, a9, a10, hb⟩; have a3 := bxBelow (W := w16) (g := g3) (t := 35) inferInstance hb L.out.2.2.1; have a2 := bxBelow (W := w16) (g := g2) (t := 27) inferInstance hb L.out.2.1; have a7 := bxBelow (W := w16) (g := g7) (t := 32) inferInstance hb L.out.2.2.2.1; have a8 := bxBelow (W := w16) (g := g8) (t := 3) inferInstance hb L.out.2.2.2.2.1; have abe : Be w wa := ⟨(Be.out (W := w16)).trans (hb.mono L.out.2.2.2.2.2.1)⟩; have HB := Aside0.mk hb; clear hb)
           go_roundw
           case rel => exact ⟨n + 1, _, _, HN.out, by go_num, rfl, HST, inferInstance, inferInstance, inferInstance, ⟨hw8.out.trans (HB.out.mono L.out.2.2.2.2.2.2)⟩, inferInstance, inferInstance, inferInstance, inferInstance⟩
           case measure => have := HN.out; simp [intOf]; omega
          ·obtain rfl : n = h.f4.length := by omega
           have hs3 := hst.out
           rw [List.take_length] at hs3
           have HS3 := Aside0.mk (HNX.out.trans hs3)
           clear hst hs3 hn hlt
           go_wp2
           go_roundw
           case rel => exact ⟨m + 1, mk', cp', HM.out, by go_num, rfl, HS3, inferInstance, inferInstance, inferInstance, ⟨h8.out⟩, inferInstance, inferInstance, inferInstance, inferInstance⟩
           case measure => have := HM.out; simp [intOf]; omega
        ·obtain rfl : m = T.lH.length := by omega
         have hs4 := hst.out
         rw [List.take_length, SUM0.out] at hs4
         obtain ⟨e1', e2', -⟩ : x.f1 = mk ∧ x.f2 = cp ∧ True := by cases hs4; exact ⟨rfl, rfl, trivial⟩
         subst e1' e2'
         clear hst hs4 hm hlt
         obtain ⟨ad, ee, y0, y1, y2, y3⟩ := at_T58 (Kd.C_below C8.out h8.out) (i : Int) h0i hlt'
         clear y0 y1
         subst ee
         simp only [Int.toNat_natCast] at y2 y3
         rw [HX.out] at y2 y3
         go_upto_region 27 with (fail)
         go_region
         go_upto_region 11 with (fail)
         obtain ⟨g11, w11, _, _, _, e1, e2⟩ := nameA wr #[.int .i64 (i : Int)] 3
         rw [e1, e2]
         clear e1 e2
         have w1_ : IntKind.i64.wrap ((i : Int) + 1) = ((i + 1 : Nat) : Int) := by rw [i64_w, w_id (by omega)]; omega
         have w1' : wrap64 ((i : Int) + 1) = ((i + 1 : Nat) : Int) := by rw [w_id (by omega)]; omega
         clear y2 y3
         have hg11 : w8.heap.size ≤ g11 := by rw [‹Fr wr g11›.out]; exact h8.out.size
         have hw11 := Aside0.mk (below_step h8.out (Bl.out (W' := w11)))
         have HGK := Aside0.mk (show i + 1 + (gk - 1) = wh.length ∧ gk - 1 < gk by have := HI.out; have := HLT.out; omega)
         go_wp2
         go_roundg (gk - 1)
         case rel => exact ⟨i + 1, g11, HGK.out.1, rfl, (by rw [show ((i + 1 : Nat) : Int) = (i : Int) + 1 from by omega]; exact bxDrew (h := bxSetS (i := 0) (v := .int .i64 ((i : Int) + 1)) (cs := #[.int .i64 (i : Int)]))), Below.drew (Below.setCell hw11.out (p := ⟨g11, 0, none⟩) hg11 _), inferInstance, inferInstance, inferInstance, inferInstance⟩
         case measure => exact HGK.out.2
    ·have hlt' : ¬ (i : Int) < wh.length := by omega
     clear hi
     go_wp2
     go_ret
     exact ⟨rfl, Be.out⟩
end Go.Proofs.Ytpedlompipabdaa.P
namespace Go.Proofs.Ytpedlompipabdaa.P
open Go.RowKit Go.Proofs.YtpedlompipabdaaW.PrintWords Go.Proofs.YtpedlompipabdaaW.PrintLast Go.Proofs.YtpedlompipabdaaW.PrintMore
open Go.Proofs.Ytpedlompipabdaa.Bits Go.Proofs.Ytpedlompipabdaa.Mp
set_option linter.unusedVariables false
set_option linter.unusedSimpArgs false
theorem pure_units (T : Sit) (hq : T.lQ.length ≤ maxQ) (hF : ∀ f ∈ T.lF, wfd58 f) (hH : ∀ h ∈ T.lH, wfd62 h) (hG : ∀ r ∈ T.lG, wfd47 r) : ∃ k b1 b2 wh, ensembleref16_Right.f k T.lN T.lQ T.x2 T.x3 T.x4 T.x5 = some b1 ∧
  (b1 = true → ensembleref19_Few.f k T.y0 T.y1 T.y2 T.y3 T.lW T.lD T.lG T.lH T.lF T.lU = some b2) ∧ (b1 = true → b2 = true → (audit_whole.f k T.lN T.lQ T.x2 T.x3 T.x4 T.x5 = some wh ∧ T.Fit ∧ ensembleref02_All.f k T.lN = some wh ∧ wh.length ≤ 1000 ∧ T.lF.length ≤ 1000) ∧
  ((checkR T wh).1 = 0 → ∀ f ∈ wh, holdSt f.f0 (freeSt f.f0 (0, 0, true) T.lF) T.lH = (f.f1, f.f2, true))) := by
 obtain ⟨b1, ⟨k1, e1⟩, f1⟩ := r16_ev T.lN T.lQ T.x2 T.x3 T.x4 T.x5 hq
 obtain ⟨b2, ⟨k2, e2⟩, f2⟩ := few19_ev T.y0 T.y1 T.y2 T.y3 T.lW T.lD T.lG T.lH T.lF T.lU
 cases b1 with
 | false => exact ⟨k1, false, false, [], e1 k1 (Nat.le_refl _), fun h => (nomatch h), fun h => (nomatch h)⟩
 | true =>
  obtain ⟨c1, c2, c3⟩ := f1 rfl
  obtain ⟨k3, e3⟩ := whole_ev T.lN T.lQ T.x2 T.x3 T.x4 T.x5 c1 c2
  obtain ⟨k4, e4⟩ := all_ev T.lN c1 c2
  cases b2 with
  | false => exact ⟨k1 + k2, true, false, [], e1 _ (by omega), fun _ => e2 _ (by omega), fun _ h => (nomatch h)⟩
  | true =>
   obtain ⟨g1, g2, g3, g4, g5, g6, g7⟩ := f2 rfl
   obtain ⟨k5, a1, a2, wh, p1, p2, p3⟩ := pure_members T hq hF hH hG
   have m1 : a1 = true := by
    have h1 := e1 (k1 + k5) (by omega)
    have h2 : ∀ d, ensembleref16_Right.f (k5 + d) T.lN T.lQ T.x2 T.x3 T.x4 T.x5 = some a1 := by
     intro d
     induction d with
     | zero => exact p1
     | succ d ih => exact ensembleref16_Right.mono _ _ _ _ _ _ _ _ ih
    have h3 := h2 k1
    rw [Nat.add_comm] at h3
    simp only at h1
    rw [h1] at h3
    exact (Option.some.inj h3).symm
   have m2 : a2 = true := by
    have h1 := e2 (k2 + k5) (by omega)
    have h2 : ∀ d, ensembleref19_Few.f (k5 + d) T.y0 T.y1 T.y2 T.y3 T.lW T.lD T.lG T.lH T.lF T.lU = some a2 := by
     intro d
     induction d with
     | zero => exact p2 m1
     | succ d ih => exact ensembleref19_Few.mono _ _ _ _ _ _ _ _ _ _ _ _ ih
    have h3 := h2 k2
    rw [Nat.add_comm] at h3
    simp only at h1
    rw [h1] at h3
    exact (Option.some.inj h3).symm
   have hft := (p3 m1 m2).2.1
   have hwl := wholeL_len T.lN 0 c2
   refine ⟨k1 + k2 + k3 + k4, true, true, wholeL 0 T.lN, e1 _ (by omega), fun _ => e2 _ (by omega), fun _ _ => ⟨⟨e3 _ (by omega), hft, e4 _ (by omega), by omega, by omega⟩, fun h => ?_⟩⟩
   exact units_sum h g6 hF (fun h hh => (hft.M h hh).2)
end Go.Proofs.Ytpedlompipabdaa.P
namespace Go.Proofs.Ytpedlompipabdaa.Ob
open Go.RowKit Go.Deep Go.Proofs.YtpedlompipabdaaW.PrintWords Go.WideShapes
theorem sized_field {H : Type} {enc : TypeId × Value → H} {P : Program} {ts : List TypeId} {ds : List (DataW H)} (h : (DataW.weightsEach P ts ds).all (· ≤ reachBytes) = true) {j : Nat} {t e : TypeId} {d : DataW H} (ht : ts[j]? = some t) (hd : ds[j]? = some d)
  {fs : Array Field} (hu : P.underlying t = some (.struct fs)) {i : Nat} {f : Field} (hf : fs[i]? = some f) (he : P.underlying f.type = some (.slice e)) {W : World} {base : Nat} {spare : Nat → Bool} {held : Bool} {v : Value} {p : List MemPlace}
  (hv : DataW.Trod enc P W base spare held t v d p) {A : Option Addr} {n c : Nat} (hc : (v.cells.toList.drop f.offset).take (P.cellsOf f.type) = [.slice A n c]) : n * P.bytesOf e ≤ reachBytes := by
 obtain ⟨fuel, hv⟩ := hv
 obtain ⟨xs, m, _, hx, _, hxl, hfs⟩ := DataW.trod_struct hu hv
 obtain rfl : d = .agg (xs.map (·.1)) := congrArg Prod.fst hx
 have hi : i < fs.size := by
  rcases Nat.lt_or_ge i fs.size with h | h
  ·exact h
  ·rw [Array.getElem?_eq_none h] at hf; cases hf
 have h1 := hfs i f hf
 rw [hc, List.getElem?_eq_getElem (by omega)] at h1
 rcases open_slice he h1 with ⟨h2, _⟩ | ⟨a, len, cap, m', n', D, Pl, h2, _, _, _, _, h3, _⟩
 ·injection h2 with h2 _
  injection h2 with _ h2 _
  subst h2
  omega
 ·injection h2 with h2 _
  injection h2 with _ h2 _
  subst h2
  have hd' : (xs.map (·.1))[i]? = some (DataW.slice ((List.range n).map D) ((List.range (m' - n)).map fun j => D (n + j))) := by
   rw [List.getElem?_map, List.getElem?_eq_getElem (by omega), h3]
   rfl
  have ht' : (fs.toList.map (·.type))[i]? = some f.type := by
   rw [List.getElem?_map, Array.getElem?_toList, hf]
   rfl
  have hm := DataW.weights_mem_each (P := P) ht' hd' ((((List.range n).map D).length + ((List.range (m' - n)).map fun j => D (n + j)).length) * P.bytesOf e) (by simp [DataW.weights, he])
  have hm2 : ((((List.range n).map D).length + ((List.range (m' - n)).map fun j => D (n + j)).length) * P.bytesOf e) ∈ DataW.weights P t (.agg (xs.map (·.1))) := by
   unfold DataW.weights
   rw [hu]
   exact hm
  have := List.all_eq_true.1 h _ (DataW.weights_mem_each ht hd _ hm2)
  simp only [List.length_map, List.length_range, decide_eq_true_eq] at this
  exact Nat.le_trans (Nat.mul_le_mul_right _ (by omega)) this
end Go.Proofs.Ytpedlompipabdaa.Ob
namespace Go.Proofs.Ytpedlompipabdaa.row0
set_option maxRecDepth 100000
set_option linter.unusedSimpArgs false
theorem and_mk {a b : Bool} (h : a = true) (k : b = true) : (a && b) = true := by rw [h, k]; rfl
def letters : List Char := List.map Char.ofNat [104, 97, 114, 110, 101, 115, 115, 32, 53, 54, 51, 49, 48, 50, 98, 52, 56, 100, 99, 97, 52, 53, 48, 50, 54, 50, 97, 101, 54, 54, 101, 55, 55, 102, 102, 99, 102, 53, 52, 99, 101, 49, 101, 49, 53, 52, 55, 55, 50, 53, 53, 55, 54, 97, 51, 56, 102, 53, 52, 97, 48, 100, 102, 51, 55, 51, 52, 52, 98, 56, 52, 57, 32, 99, 117, 116, 32, 97, 116, 32, 101, 110, 115, 101, 109, 98, 108, 101, 47, 101, 110, 115, 101, 109, 98, 108, 101, 108, 97, 119, 49, 57, 46, 65, 117, 100, 105, 116, 77, 101, 109, 98, 101, 114, 115, 32, 101, 110, 115, 101, 109, 98, 108, 101, 47, 101, 110, 115, 101, 109, 98, 108, 101, 108, 97, 119, 49, 57, 46, 65, 117, 100, 105, 116, 85, 110, 105, 116, 115]
theorem lit : Try.checked.prog.initOrder = String.ofList letters := by kernel_rfl
theorem lits : Try.checked.prog.initOrder.toList = letters := by rw [lit]; exact String.toList_ofList
def words : List (List Char) := List.map (List.map Char.ofNat) [[99, 117, 116], [97, 116], [101, 110, 115, 101, 109, 98, 108, 101, 47, 101, 110, 115, 101, 109, 98, 108, 101, 108, 97, 119, 49, 57, 46, 65, 117, 100, 105, 116, 77, 101, 109, 98, 101, 114, 115], [101, 110, 115, 101, 109, 98, 108, 101, 47, 101, 110, 115, 101, 109, 98, 108, 101, 108, 97, 119, 49, 57, 46, 65, 117, 100, 105, 116, 85, 110, 105, 116, 115]]
theorem wordsEq : behindMainWord (wordsSigns letters) = words := by kernel_rfl
theorem behind : behindMainWord (wordsSigns Try.checked.prog.initOrder.toList) = words := by rw [lits]; exact wordsEq
theorem headLifts_of {P : Program} {ws : List (List Char)} (h : behindMainWord (wordsSigns P.initOrder.toList) = ws) (h2 : ((stripLifts liftWords ws).2.head? == some "cut".toList) = true) (h3 : (stripLifts liftWords ws).1 = []) : P.headLifts = [] := by
 unfold Program.headLifts
 rw [h]
 simp only [h2, h3, if_true]
theorem headLifts : Try.checked.prog.headLifts = [] := headLifts_of behind (by kernel_rfl) (by kernel_rfl)
theorem liftsFinal_of {P : Program} {ws : List (List Char)} (h : behindMainWord (wordsSigns P.initOrder.toList) = ws) (hl : P.headLifts = []) (h1 : (ws.head? == some "carried".toList) = false) : P.liftsFinal = false := by
 unfold Program.liftsFinal
 rw [h, hl]
 simp only [h1, Bool.false_and, List.contains_nil, Bool.or_false]
theorem liftsFinal : Try.checked.prog.liftsFinal = false := liftsFinal_of behind headLifts (by kernel_rfl)
theorem make_of {P : Program} {c : List Char} {rest : List (List Char)} (h : behindMainWord (wordsSigns P.initOrder.toList) = c :: rest) (h1 : (c == "gc".toList || c == "spec".toList) = false) (h2 : (c == "cut".toList) = true) : P.make = some .cut := by
 unfold Program.make
 rw [h]
 simp only [h1, h2, Bool.true_or, if_true, Bool.false_eq_true, if_false]
theorem make : Try.checked.prog.make = some .cut := make_of (behind.trans (show words = _ :: _ from rfl)) (by kernel_rfl) (by kernel_rfl)
theorem mayEnter_of {P : Program} {c : List Char} {rest : List (List Char)} (h : behindMainWord (wordsSigns P.initOrder.toList) = c :: rest) (h2 : ((stripLifts liftWords (c :: rest)).2.head? == some "cut".toList) = true) (h3 : (stripLifts liftWords (c :: rest)).1 = []) (h4 : P.laysLater = false) (h5 : P.bearsReflect = false) (h6 : P.doorFits [] = true) : P.mayEnter = true := by
 unfold Program.mayEnter
 rw [h]
 simp only [h2, h3, h4, h5, h6, List.contains_nil, Bool.not_false, Bool.false_or, Bool.or_true, Bool.true_or, Bool.and_true, Bool.true_and]
theorem h4 : Try.checked.prog.laysLater = false := by kernel_rfl
theorem h5 : Try.checked.prog.bearsReflect = false := by kernel_rfl
theorem h6 : Try.checked.prog.doorFits [] = true := by kernel_rfl
theorem mayEnter : Try.checked.prog.mayEnter = true := mayEnter_of (behind.trans (show words = _ :: _ from rfl)) (by kernel_rfl) (by kernel_rfl) h4 h5 h6
end Go.Proofs.Ytpedlompipabdaa.row0
namespace Go.Proofs.Ytpedlompipabdaa.auditUnits
open Go.ChangeShapes Go.WideShapes Go.ChangeAt Go.RowKit Go.Proofs.Ytpedlompipabdaa.P Go.Proofs.Ytpedlompipabdaa.Ob Go.Proofs.YtpedlompipabdaaW.PrintWords
open Go.ChangeMaps (open_string shut_string)
set_option linter.unusedVariables false
theorem own : ownKnob Try.prog.godebug = none := by kernel_rfl
theorem laidOut : laidOutB Try.prog = true := by kernel_rfl
set_option maxRecDepth 100000 in
theorem lifted (os : Os) (started : os.Started) (H : Type) (enc : TypeId × Value → H) :
  ReturnsInHanded {} Try.checked os 4 .any (Rows.auditUnitsSpec.pre6 enc Try.prog Try.f4 Rows.auditUnitsRow.domain false) (Rows.auditUnitsSpec.post enc Try.prog Try.f4 false true false false) := by
 refine returnsInHanded_of_change_sized (C := Try.checked) own started (by kernel_rfl) Try.func4
  (ChangeSpec.witness6 (enc := enc) (C := Try.checked) false ⟨#[], #[.agg #[.slice none 0 0, .slice none 0 0, .int .i64 0, .int .i64 0, .int .i64 0, .int .i64 0], .agg #[.int .i64 0, .int .i64 0, .int .i64 0, .int .i64 0, .slice none 0 0, .slice none 0 0, .slice none 0 0, .slice none 0 0, .slice none 0 0, .slice none 0 0]], []⟩ 8 (by kernel_rfl) (by kernel_rfl) (by kernel_rfl) (by kernel_rfl)) ?_
 intro W base args ds gs before hval0 hW hcnd hsz0 _
 have hval : ∀ (j : Nat) t v, Try.f4.params[j]? = some t → args[j]? = some v → Value.okWide Try.prog W .any base t v := hval0
 have hW' := hW
 obtain ⟨p, q, hA0, hV, rfl, hfz, hnd⟩ := hW
 have hA : DataW.TrodAll enc Try.prog W 0 (fun _ => true) true Try.f4.params.toList args.toList ds p := hA0
 rw [Try.params4] at hA hval
 obtain ⟨v0, vs0, d0, ds0, p0, q0, hargs, rfl, rfl, h0, r0⟩ := trodAll_cons hA
 obtain ⟨v1, vs1, d1, ds1, p1, q1, rfl, rfl, rfl, h1, r1⟩ := trodAll_cons r0
 obtain ⟨rfl, rfl, rfl⟩ := trodAll_nil r1
 obtain rfl : args = #[v0, v1] := by cases args; simp_all
 obtain ⟨rfl, rfl⟩ := trodVars_none hV
 have k0 := h0
 have lt0 : ∀ x ∈ p0, x.block < W.heap.size := by obtain ⟨m, hm⟩ := k0; exact DataW.trod_lt m _ _ _ hm
 obtain ⟨cs0, rfl, _⟩ := okWide_struct Try.underlying27 (hval 0 27 v0 rfl rfl)
 obtain ⟨x0, K0, w0⟩ := Opens.open o27 h0
 obtain ⟨A0_0, c0_0, A0_1, c0_1, e0, l0_0, g0_0, l0_1, g0_1⟩ := k27_open K0
 obtain rfl : cs0 = #[.slice A0_0 x0.f0.f0.length c0_0, .slice A0_1 x0.f1.length c0_1, .int .i64 x0.f2, .int .i64 x0.f3, .int .i64 x0.f4, .int .i64 x0.f5] := by apply Array.toList_inj.1; exact e0
 have k1 := h1
 have lt1 : ∀ x ∈ p1, x.block < W.heap.size := by obtain ⟨m, hm⟩ := k1; exact DataW.trod_lt m _ _ _ hm
 obtain ⟨cs1, rfl, _⟩ := okWide_struct Try.underlying35 (hval 1 35 v1 rfl rfl)
 obtain ⟨x1, K1, w1⟩ := Opens.open o35 h1
 obtain ⟨A1_4, c1_4, A1_5, c1_5, A1_6, c1_6, A1_7, c1_7, A1_8, c1_8, A1_9, c1_9, e1, l1_4, g1_4, l1_5, g1_5, l1_6, g1_6, l1_7, g1_7, l1_8, g1_8, l1_9, g1_9⟩ := k35_open K1
 obtain rfl : cs1 = #[.int .i64 x1.f0, .int .i64 x1.f1, .int .i64 x1.f2, .int .i64 x1.f3, .slice A1_4 x1.f4.length c1_4, .slice A1_5 x1.f5.length c1_5, .slice A1_6 x1.f6.length c1_6, .slice A1_7 x1.f7.length c1_7, .slice A1_8 x1.f8.length c1_8, .slice A1_9 x1.f9.length c1_9] := by apply Array.toList_inj.1; exact e1
 have hq : x0.f1.length ≤ maxQ := by
  have hb := sized_field hsz0 (t := 27) (j := 0) rfl rfl Try.underlying27 (i := 1) rfl Try.underlying25 h0 (A := A0_1) (n := x0.f1.length) (c := c0_1) (by show List.take (Try.prog.cellsOf 25) [Value.slice A0_1 x0.f1.length c0_1, .int .i64 x0.f2, .int .i64 x0.f3, .int .i64 x0.f4, .int .i64 x0.f5] = [Value.slice A0_1 x0.f1.length c0_1]; rw [show Try.prog.cellsOf 25 = 1 from by kernel_rfl]; rfl)
  rw [show Try.checked.prog.bytesOf 51 = 24 from by kernel_rfl] at hb
  unfold maxQ
  unfold reachBytes at hb
  omega
 clear hA0 hval0 hsz0
 let T : Sit := ⟨A0_0, c0_0, x0.f0.f0, A0_1, c0_1, x0.f1, x0.f2, x0.f3, x0.f4, x0.f5, x1.f0, x1.f1, x1.f2, x1.f3, A1_4, c1_4, x1.f4, A1_5, c1_5, x1.f5, A1_6, c1_6, x1.f6, A1_7, c1_7, x1.f7, A1_8, c1_8, x1.f8, A1_9, c1_9, x1.f9⟩
 obtain ⟨k, b1, b2, wh, j1, j2, j3⟩ := pure_units T hq w1.2.2.2.2.2.2.2.2.1.2 w1.2.2.2.2.2.2.2.1.2 w1.2.2.2.2.2.2.1.2
 refine (units_T T k b1 b2 wh W ⟨g0_0, l0_0, g0_1, l0_1, g1_4, l1_4, g1_6, l1_6, g1_7, l1_7, g1_8, l1_8, g1_9, l1_9⟩ g1_5 l1_5 j1 j2 j3).mono fun e W' ⟨he, bel⟩ => ?_
 subst he
 exact ⟨_, rfl, _, _, _, [], _, [], hW', trodAll_mk1 (shut_bool Try.underlying4 _), (trodAll_cons_mk (Below.trod laidOut (by kernel_rfl) (of_decide_eq_true (by kernel_rfl)) k0 bel lt0) (trodAll_cons_mk (Below.trod laidOut (by kernel_rfl) (of_decide_eq_true (by kernel_rfl)) k1 bel lt1) trodAll_mk0)), rfl, bel.frame _, fun h => by cases h⟩
set_option maxHeartbeats 8000000 in
theorem closedFacts : joinedFacts Try.checked.prog 4 Try.f4 Rows.auditUnitsSpec Rows.auditUnitsRow = true := by
 unfold joinedFacts
 repeat' (with_reducible (apply row0.and_mk))
 all_goals first | (with_reducible exact row0.mayEnter) | (rw [row0.liftsFinal]; kernel_rfl) | (rw [row0.make]; kernel_rfl) | (as_aux_lemma => kernel_rfl)
theorem over : Rows.auditUnitsRow.holds Try.pinned (OpenSpec.ofChange Rows.auditUnitsSpec) :=
 OpenClaim.holds_of_wide 4 Try.f4 rfl rfl rfl rfl rfl rfl rfl ⟨rfl, rfl, rfl, rfl, rfl⟩ rfl rfl rfl rfl rfl (by kernel_rfl) Try.func4 closedFacts
  (of_decide_eq_true (by kernel_rfl)) (by unfold Func.isWrapper; first | (rw [if_pos (by decide +kernel)]; kernel_rfl) | (rw [if_neg (by decide +kernel)]; exact ⟨rfl, rfl⟩))
  (fun os started H enc _ => lifted os started H enc)
theorem proved : Rows.AuditUnitsSaid := over
#print axioms proved
end Go.Proofs.Ytpedlompipabdaa.auditUnits
namespace Go.Proofs.Ytpedlompipabdaa
theorem auditUnits_holds : Rows.AuditUnitsSaid := auditUnits.proved
end Go.Proofs.Ytpedlompipabdaa
