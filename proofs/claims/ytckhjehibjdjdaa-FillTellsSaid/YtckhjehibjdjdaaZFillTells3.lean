/- FillTells: part 3 of the walk and of the plain law that it comes to. No condition. -/
import Derived.Test.YtckhjehibjdjdaaZFillTells2
import Derived.ArgAppend
import Derived.Below
import Derived.BigQuiet
import Derived.BigRegion
import Derived.Carry
import Derived.Deep.AppendLies
import Derived.Deep.CutBlock
import Derived.Deep.DeepCutAuto
import Derived.Deep.Draws
import Derived.Deep.LoopGhost
import Derived.Deep.OwnRows
import Derived.Deep.QuietTactic
import Derived.Deep.RegionHeld3
import Derived.DeepKeys3
import Derived.KernelRfl
import Derived.Laws.Bits64
import Derived.Laws.Bits64b
import Derived.Laws.BitsLemmas
import Derived.Laws.BytesArg
import Derived.Laws.IdiomCopy
import Derived.Laws.MakeOwn
import Derived.Laws.OwnMore
import Derived.Laws.Rows
import Derived.Laws.Slices
import Derived.Lib.AppendStr
import Derived.Lib.ConvBytes
import Derived.Lib.SliceRun
import Derived.LoopIn
import Derived.LoopN
import Derived.LoopNIn
import Derived.Maps.AppendAt
import Derived.Maps.Keyed
import Derived.Maps.Own
import Derived.Maps.OwnOps
import Derived.Maps.OwnSet
import Derived.Maps.Views
import Derived.OrdersHeld
import Derived.Outline
import Derived.OwnWalk
import Derived.OwnWalkIn
import Derived.RangeFuncBound
import Derived.RangeFuncBox
import Derived.RangeFuncCalls
import Derived.RangeFuncFrom
import Derived.RangeFuncLeaves
import Derived.RowKit
import Derived.RowKit3
import Derived.Shelf.Abstract
import Derived.Shelf.RegionOpen
import Derived.StillTailTactics
import Derived.Tactics
import Derived.TacticsInMore
import Derived.WalkKit
import Derived.WideLaws
namespace Go.Proofs.Ytckhjehibjdjdaa.P
open Go.RowKit Go.Proofs.YtckhjehibjdjdaaW.PrintWords Go.Proofs.YtckhjehibjdjdaaW.PrintLast Go.Proofs.YtckhjehibjdjdaaW.PrintMore
attribute [local go_sem] max2_int min2_int max_two min_two max_three min_three max_four min_four
set_option linter.unusedVariables false
set_option linter.unusedSimpArgs false
def ensembleref05_Right.l0 : Nat → List (S51) → Int → Option (Bool)
 | 0, _, _ => none
 | k + 1, x0, x3 => if x3 < (x0.length : Int) then (if 0 ≤ x3 then (if ((rd_T51 x0 x3).f2) < 0 then (some false) else (if ((rd_T51 x0 x3).f2) > 1048576 then (some false) else (if x3 ≤ (x0.length : Int) then ((ensembleref05_find.f k (x0.take (x3 : Int).toNat) ((rd_T51 x0 x3).f0.f0) ((rd_T51 x0 x3).f0.f1)).bind fun t127 => (if t127 ≥ 0 then (some false) else (ensembleref05_Right.l0 k x0 (wrap64 (x3 + 1))))) else (none)))) else (none)) else (some true)
def ensembleref05_Right.f (k : Nat) (l0 : List (S51)) : Option (Bool) := ensembleref05_Right.l0 k l0 0
def ensembleref05_Right.T4 : Bool × List (List Nat × List Nat) := (true, [([], []), ([], []), ([0, 1], [0, 1]), ([2], [2]), ([3], [3]), ([4], [4]), ([5], [5]), ([6], [6]), ([6], [6]), ([7, 8, 6], [6, 7, 8]), ([9, 6], [6, 9]), ([10, 6], [6, 10]), ([11, 6], [6, 11]), ([6, 12], [6, 12]), ([13, 6], [13]), ([14], [14]), ([14], [14]), ([15, 16, 14], [14, 15, 16]), ([14], [14]), ([14], [14]), ([18, 19, 14], [14, 18, 19]), ([20, 14], [14, 20]), ([21, 14], [14, 21]), ([17, 22, 14, 14], [14, 17, 22]), ([23, 14], [14, 23]), ([14, 24], [14, 24])])
def ensembleref05_Right.B4 : List Nat := [0, 0, 3, 7, 15, 31, 63, 127, 127, 511, 1023, 2047, 4095, 8191, 16383, 32767, 32767, 131071, 32767, 32767, 819199, 1867775, 3964927, 8388607, 16777215, 33554431]
theorem ensembleref05_Right.tab4 : rtab .any (opsOf Try.f67 4) = ensembleref05_Right.T4 := by kernel_rfl
theorem ensembleref05_Right.bits4 : waitsOk ensembleref05_Right.T4.2 ensembleref05_Right.B4 = true := by kernel_rfl
set_option maxHeartbeats 8000000 in
set_option maxRecDepth 100000 in
theorem ensembleref05_Right.calls (k : Nat) (A0 : Option Addr) (c0 : Nat) (l0 : List (S51)) (r : Bool) (w : World) (hr0 : Kd.C k51 w A0 l0.length l0) (hc0 : l0.length ≤ c0) (h : ensembleref05_Right.f k l0 = some r) :
  Calls Try.prog 67 #[.slice A0 l0.length c0] w fun e w' => e = .returned (.bool r) ∧ Below w.heap.size w w' := by
 have hu48 := Try.underlying48
 have HR0 := Aside0.mk hr0
 have HC0 := Aside0.mk hc0
 clear hr0 hc0
 have HB := Aside0.mk (Below.refl w.heap.size w)
 have H : (ensembleref05_Right.l0 k l0 0) = some r := h
 clear h
 have H' := Aside0.mk H
 clear H
 go_enter Try.func67, Try.ntmps67
 go_wp2
 go_loopg [3] k (fun kq v3 w' => ∃ (x3_1 : Int), v3 = .int .i64 x3_1 ∧ Aside0 (ensembleref05_Right.l0 kq l0 x3_1 = some r) ∧ Aside0 (kq ≤ k) ∧ Aside0 (Below w.heap.size w w'))
 case atStart => exact ⟨(0), Z6, H', ⟨Nat.le_refl _⟩, ⟨hb_⟩⟩
 case round =>
  clear H'
  obtain ⟨x3_1, rfl, HA, HK1, HB⟩ := hrel
  cases gk with
  | zero => exact absurd HA.out (by simp [ensembleref05_Right.l0])
  | succ k1 =>
   have H := HA.out
   clear HA
   simp only [ensembleref05_Right.l0] at H
   by_cases c2 : x3_1 < (l0.length : Int)
   ·rw [if_pos c2] at H
    have c2b0 : decide (x3_1 < (l0.length : Int)) = true := decide_eq_true c2
    clear c2
    by_cases c3 : 0 ≤ x3_1
    ·rw [if_pos c3] at H
     have c3b0 : decide (0 ≤ x3_1) = true := decide_eq_true c3
     clear c3
     by_cases c4 : ((rd_T51 l0 x3_1).f2) < 0
     ·rw [if_pos c4] at H
      have c4b0 : decide (((rd_T51 l0 x3_1).f2) < 0) = true := decide_eq_true c4
      clear c4
      obtain rfl := Option.some.inj H
      try go_wp2
      replace HB := Aside0.mk (below_drew1 HB.out)
      have p120 : 0 ≤ (x3_1 : Int) := of_decide_eq_true Z1
      have q120 : x3_1 < (l0.length : Int) := of_decide_eq_true Z1
      obtain ⟨ad120, e120, hx120_0, hx120_1, hx120_2, hx120_3⟩ := at_T51 HR0.out x3_1 p120 q120
      have hw120_3 := hx120_3
      have hw120_2 := hx120_2
      have hw120_1 := hx120_1
      have hw120_0 := hx120_0
      cases e120
      replace hx120_0 := cx_ hx120_0
      replace hx120_1 := cx_ hx120_1
      replace hx120_2 := cx_ hx120_2
      replace hx120_3 := cx_ hx120_3
      replace p120 := eq_true p120
      replace q120 := eq_true q120
      refine start_ (n := 26) (S := fun w' => w'.cell? (ad120.add ((x3_1).toNat * 4)) = some (.int .i64 ((rd_T51 l0 x3_1).f0.f0)) ∧ w'.cell? ⟨(ad120.add ((x3_1).toNat * 4)).block, (ad120.add ((x3_1).toNat * 4)).off + 1, none⟩ = some (.int .i64 ((rd_T51 l0 x3_1).f0.f1)) ∧ w'.cell? ⟨(ad120.add ((x3_1).toNat * 4)).block, (ad120.add ((x3_1).toNat * 4)).off + 2, none⟩ = some (.int .u64 ((rd_T51 l0 x3_1).f1)) ∧ w'.cell? ⟨(ad120.add ((x3_1).toNat * 4)).block, (ad120.add ((x3_1).toNat * 4)).off + 3, none⟩ = some (.int .i64 ((rd_T51 l0 x3_1).f2))) (ds := []) (bm 26 0) (by kernel_rfl) rfl rfl ⟨((HB.out.cell (World.block_lt_of_cell? w _ hw120_0)).trans hw120_0), ((HB.out.cell (World.block_lt_of_cell? w _ hw120_1)).trans hw120_1), ((HB.out.cell (World.block_lt_of_cell? w _ hw120_2)).trans hw120_2), ((HB.out.cell (World.block_lt_of_cell? w _ hw120_3)).trans hw120_3)⟩ (fun hHeld => ?_); refine with_tabW ensembleref05_Right.tab4 ensembleref05_Right.bits4 (fun HT_ HW_ => ?_)
      generalize wr.drew = w5 at HB hx120_0 hx120_1 hx120_2 hx120_3 hHeld ⊢
      refine pu 0 (some 10) (bm 26 1) ?_
      refine pu 1 (some 11) (bm 26 3) ?_
      refine pu 2 (some 12) (bm 26 7) ?_
      refine pu 3 (some 13) (bm 26 15) ?_
      refine tk4 4 (some 14) (bm 26 31) ?_
      refine pu 5 (some 15) (bm 26 63) ?_
      refine pu 6 (some 16) (bm 26 127) ?_
      refine pv 7 (some 17) (bm 26 255) ?_
      refine pv 8 (some 18) (bm 26 511) ?_
      refine pv 9 (some 19) (bm 26 1023) ?_
      refine pv 10 (some 20) (bm 26 2047) ?_
      refine pv 11 (some 21) (bm 26 4095) ?_
      refine pv 12 (some 22) (bm 26 8191) ?_
      refine pu 13 (some 23) (bm 26 16383) ?_
      refine pu 14 (some 24) (bm 26 32767) ?_
      refine pv 15 (some 25) (bm 26 65535) ?_
      refine pv 16 (some 26) (bm 26 131071) ?_
      refine pv 17 (some 27) (bm 26 262143) ?_
      refine pv 18 (some 28) (bm 26 524287) ?_
      refine pv 19 (some 29) (bm 26 1048575) ?_
      refine pv 20 (some 30) (bm 26 2097151) ?_
      refine pv 21 (some 31) (bm 26 4194303) ?_
      refine pv 22 (some 32) (bm 26 8388607) ?_
      refine pv 23 (some 33) (bm 26 16777215) ?_
      refine pv 24 (some 34) (bm 26 33554431) ?_
      refine pu 25 (some 35) (bm 26 67108863) ?_
      refine done_ (done_of HT_.out (by kernel_rfl)) ?_
      try go_wp2
      go_ret
      exact ⟨by first | rfl | (simp [errW_none, errW_some] <;> rfl) | (simp [*, errW_none, errW_some] <;> rfl), hb_⟩
     ·rw [if_neg c4] at H
      have c4b0 : decide (((rd_T51 l0 x3_1).f2) < 0) = false := decide_eq_false c4
      clear c4
      by_cases c6 : ((rd_T51 l0 x3_1).f2) > 1048576
      ·rw [if_pos c6] at H
       have c6b0 : decide (1048576 < ((rd_T51 l0 x3_1).f2)) = true := decide_eq_true c6
       clear c6
       obtain rfl := Option.some.inj H
       try go_wp2
       replace HB := Aside0.mk (below_drew1 HB.out)
       have p120 : 0 ≤ (x3_1 : Int) := of_decide_eq_true Z1
       have q120 : x3_1 < (l0.length : Int) := of_decide_eq_true Z1
       obtain ⟨ad120, e120, hx120_0, hx120_1, hx120_2, hx120_3⟩ := at_T51 HR0.out x3_1 p120 q120
       have hw120_3 := hx120_3
       have hw120_2 := hx120_2
       have hw120_1 := hx120_1
       have hw120_0 := hx120_0
       cases e120
       replace hx120_0 := cx_ hx120_0
       replace hx120_1 := cx_ hx120_1
       replace hx120_2 := cx_ hx120_2
       replace hx120_3 := cx_ hx120_3
       replace p120 := eq_true p120
       replace q120 := eq_true q120
       have p121 : 0 ≤ (x3_1 : Int) := of_decide_eq_true Z1
       have q121 : x3_1 < (l0.length : Int) := of_decide_eq_true Z1
       obtain ⟨ad121, e121, hx121_0, hx121_1, hx121_2, hx121_3⟩ := at_T51 HR0.out x3_1 p121 q121
       have hw121_3 := hx121_3
       have hw121_2 := hx121_2
       have hw121_1 := hx121_1
       have hw121_0 := hx121_0
       obtain rfl : ad120 = ad121 := (by injection e121)
       replace hx121_0 := cx_ hx121_0
       replace hx121_1 := cx_ hx121_1
       replace hx121_2 := cx_ hx121_2
       replace hx121_3 := cx_ hx121_3
       replace p121 := eq_true p121
       replace q121 := eq_true q121
       refine start_ (n := 26) (S := fun w' => w'.cell? (ad120.add ((x3_1).toNat * 4)) = some (.int .i64 ((rd_T51 l0 x3_1).f0.f0)) ∧ w'.cell? ⟨(ad120.add ((x3_1).toNat * 4)).block, (ad120.add ((x3_1).toNat * 4)).off + 1, none⟩ = some (.int .i64 ((rd_T51 l0 x3_1).f0.f1)) ∧ w'.cell? ⟨(ad120.add ((x3_1).toNat * 4)).block, (ad120.add ((x3_1).toNat * 4)).off + 2, none⟩ = some (.int .u64 ((rd_T51 l0 x3_1).f1)) ∧ w'.cell? ⟨(ad120.add ((x3_1).toNat * 4)).block, (ad120.add ((x3_1).toNat * 4)).off + 3, none⟩ = some (.int .i64 ((rd_T51 l0 x3_1).f2)) ∧ w'.cell? (ad120.add ((x3_1).toNat * 4)) = some (.int .i64 ((rd_T51 l0 x3_1).f0.f0)) ∧ w'.cell? ⟨(ad120.add ((x3_1).toNat * 4)).block, (ad120.add ((x3_1).toNat * 4)).off + 1, none⟩ = some (.int .i64 ((rd_T51 l0 x3_1).f0.f1)) ∧ w'.cell? ⟨(ad120.add ((x3_1).toNat * 4)).block, (ad120.add ((x3_1).toNat * 4)).off + 2, none⟩ = some (.int .u64 ((rd_T51 l0 x3_1).f1)) ∧ w'.cell? ⟨(ad120.add ((x3_1).toNat * 4)).block, (ad120.add ((x3_1).toNat * 4)).off + 3, none⟩ = some (.int .i64 ((rd_T51 l0 x3_1).f2))) (ds := []) (bm 26 0) (by kernel_rfl) rfl rfl ⟨((HB.out.cell (World.block_lt_of_cell? w _ hw120_0)).trans hw120_0), ((HB.out.cell (World.block_lt_of_cell? w _ hw120_1)).trans hw120_1), ((HB.out.cell (World.block_lt_of_cell? w _ hw120_2)).trans hw120_2), ((HB.out.cell (World.block_lt_of_cell? w _ hw120_3)).trans hw120_3), ((HB.out.cell (World.block_lt_of_cell? w _ hw121_0)).trans hw121_0), ((HB.out.cell (World.block_lt_of_cell? w _ hw121_1)).trans hw121_1), ((HB.out.cell (World.block_lt_of_cell? w _ hw121_2)).trans hw121_2), ((HB.out.cell (World.block_lt_of_cell? w _ hw121_3)).trans hw121_3)⟩ (fun hHeld => ?_); refine with_tabW ensembleref05_Right.tab4 ensembleref05_Right.bits4 (fun HT_ HW_ => ?_)
       generalize wr.drew = w7 at HB hx120_0 hx120_1 hx120_2 hx120_3 hx121_0 hx121_1 hx121_2 hx121_3 hHeld ⊢
       refine pu 0 (some 10) (bm 26 1) ?_
       refine pu 1 (some 11) (bm 26 3) ?_
       refine pu 2 (some 12) (bm 26 7) ?_
       refine pu 3 (some 13) (bm 26 15) ?_
       refine tk8 4 (some 14) (bm 26 31) ?_
       refine pu 5 (some 15) (bm 26 63) ?_
       refine pu 6 (some 16) (bm 26 127) ?_
       refine pu 7 (some 17) (bm 26 255) ?_
       refine pu 8 (some 18) (bm 26 511) ?_
       refine pu 9 (some 19) (bm 26 1023) ?_
       refine pu 10 (some 20) (bm 26 2047) ?_
       refine tk8 11 (some 21) (bm 26 4095) ?_
       refine pu 12 (some 22) (bm 26 8191) ?_
       refine pu 13 (some 23) (bm 26 16383) ?_
       refine pu 14 (some 24) (bm 26 32767) ?_
       refine pv 15 (some 25) (bm 26 65535) ?_
       refine pv 16 (some 26) (bm 26 131071) ?_
       refine pv 17 (some 27) (bm 26 262143) ?_
       refine pv 18 (some 28) (bm 26 524287) ?_
       refine pv 19 (some 29) (bm 26 1048575) ?_
       refine pv 20 (some 30) (bm 26 2097151) ?_
       refine pv 21 (some 31) (bm 26 4194303) ?_
       refine pv 22 (some 32) (bm 26 8388607) ?_
       refine pv 23 (some 33) (bm 26 16777215) ?_
       refine pv 24 (some 34) (bm 26 33554431) ?_
       refine pu 25 (some 35) (bm 26 67108863) ?_
       refine done_ (done_of HT_.out (by kernel_rfl)) ?_
       try go_wp2
       go_ret
       exact ⟨by first | rfl | (simp [errW_none, errW_some] <;> rfl) | (simp [*, errW_none, errW_some] <;> rfl), hb_⟩
      ·rw [if_neg c6] at H
       have c6b0 : decide (1048576 < ((rd_T51 l0 x3_1).f2)) = false := decide_eq_false c6
       clear c6
       have c8b0 := eq_true (of_decide_eq_true Z1 : 0 ≤ x3_1)
       by_cases c9 : x3_1 ≤ (l0.length : Int)
       ·rw [if_pos c9] at H
        have c9b0 := eq_true c9
        have c9b1 : decide (x3_1 ≤ (l0.length : Int)) = true := decide_eq_true c9
        clear c9
        obtain ⟨y122, hy122⟩ : ∃ y_ : List (S51), y_ = (l0.take (x3_1 : Int).toNat) := ⟨_, rfl⟩
        replace H : ((ensembleref05_find.f k1 y122 ((rd_T51 l0 x3_1).f0.f0) ((rd_T51 l0 x3_1).f0.f1)).bind fun t127 => (if t127 ≥ 0 then (some false) else (ensembleref05_Right.l0 k1 l0 (wrap64 (x3_1 + 1))))) = some r := by first | (rw [hy122]; with_reducible exact H) | (have H2_ := (Option.bind_some _ _).symm.trans H; rw [hy122]; with_reducible exact H2_) | (have H2_ := (Option.bind_some _ _).symm.trans H; with_reducible exact H2_) | with_reducible exact H | (rw [hy122]; exact H) | exact H
        have Ny122 := Aside0.mk hy122
        clear hy122
        replace H := Option.bind_eq_some_iff.mp H
        obtain ⟨t127, A100, H⟩ := H
        replace H : (if t127 ≥ 0 then (some false) else (ensembleref05_Right.l0 k1 l0 (wrap64 (x3_1 + 1)))) = some r := H
        have A10 := Aside0.mk A100
        clear A100
        by_cases c11 : t127 ≥ 0
        ·rw [if_pos c11] at H
         have c11b0 : decide (0 ≤ t127) = true := decide_eq_true c11
         clear c11
         obtain rfl := Option.some.inj H
         try go_wp2
         replace HB := Aside0.mk (below_drew1 HB.out)
         have p120 : 0 ≤ (x3_1 : Int) := of_decide_eq_true Z1
         have q120 : x3_1 < (l0.length : Int) := of_decide_eq_true Z1
         obtain ⟨ad120, e120, hx120_0, hx120_1, hx120_2, hx120_3⟩ := at_T51 HR0.out x3_1 p120 q120
         have hw120_3 := hx120_3
         have hw120_2 := hx120_2
         have hw120_1 := hx120_1
         have hw120_0 := hx120_0
         cases e120
         replace hx120_0 := cx_ hx120_0
         replace hx120_1 := cx_ hx120_1
         replace hx120_2 := cx_ hx120_2
         replace hx120_3 := cx_ hx120_3
         replace p120 := eq_true p120
         replace q120 := eq_true q120
         have p121 : 0 ≤ (x3_1 : Int) := of_decide_eq_true Z1
         have q121 : x3_1 < (l0.length : Int) := of_decide_eq_true Z1
         obtain ⟨ad121, e121, hx121_0, hx121_1, hx121_2, hx121_3⟩ := at_T51 HR0.out x3_1 p121 q121
         have hw121_3 := hx121_3
         have hw121_2 := hx121_2
         have hw121_1 := hx121_1
         have hw121_0 := hx121_0
         obtain rfl : ad120 = ad121 := (by injection e121)
         replace hx121_0 := cx_ hx121_0
         replace hx121_1 := cx_ hx121_1
         replace hx121_2 := cx_ hx121_2
         replace hx121_3 := cx_ hx121_3
         replace p121 := eq_true p121
         replace q121 := eq_true q121
         have q13 : (x3_1 : Int) ≤ ((l0.length : Int) : Int) := of_decide_eq_true Z1
         obtain ⟨i013, hi013, _, hsz13, _⟩ := info_parts info51
         have hroom13 : l0.length ≤ c0 := HC0.out
         have hC13 : Kd.C k51 _ (some ad120) l0.length l0 := HR0.out
         have hcut13 := cut_to (P := Try.prog) 22 51 .i64 Try.underlying22 hi013 (some ad120) l0.length c0 x3_1 (of_decide_eq_true Z1) q13 hroom13
         have hr13 := Kd.C_take (m := (x3_1 : Int).toNat) hC13 (by omega)
         have hy13 : y122.length = (x3_1 : Int).toNat := (by rw [Ny122.out, List.length_take]; omega)
         rw [← Ny122.out] at hr13
         rw [← hy13] at hcut13
         have HR125 := Aside0.mk hr13
         have HC125 := Aside0.mk (show y122.length ≤ c0 from by omega)
         clear hr13 hC13 hroom13 hi013 hsz13
         have KY13 := Aside0.mk hy13
         clear hy13
         replace q13 := eq_true q13
         have p126 : 0 ≤ (x3_1 : Int) := of_decide_eq_true Z1
         have q126 : x3_1 < (l0.length : Int) := of_decide_eq_true Z1
         obtain ⟨ad126, e126, hx126_0, hx126_1, hx126_2, hx126_3⟩ := at_T51 HR0.out x3_1 p126 q126
         have hw126_3 := hx126_3
         have hw126_2 := hx126_2
         have hw126_1 := hx126_1
         have hw126_0 := hx126_0
         obtain rfl : ad120 = ad126 := (by injection e126)
         replace hx126_0 := cx_ hx126_0
         replace hx126_1 := cx_ hx126_1
         replace hx126_2 := cx_ hx126_2
         replace hx126_3 := cx_ hx126_3
         replace p126 := eq_true p126
         replace q126 := eq_true q126
         refine start_ (n := 26) (S := fun w' => w'.cell? (ad120.add ((x3_1).toNat * 4)) = some (.int .i64 ((rd_T51 l0 x3_1).f0.f0)) ∧ w'.cell? ⟨(ad120.add ((x3_1).toNat * 4)).block, (ad120.add ((x3_1).toNat * 4)).off + 1, none⟩ = some (.int .i64 ((rd_T51 l0 x3_1).f0.f1)) ∧ w'.cell? ⟨(ad120.add ((x3_1).toNat * 4)).block, (ad120.add ((x3_1).toNat * 4)).off + 2, none⟩ = some (.int .u64 ((rd_T51 l0 x3_1).f1)) ∧ w'.cell? ⟨(ad120.add ((x3_1).toNat * 4)).block, (ad120.add ((x3_1).toNat * 4)).off + 3, none⟩ = some (.int .i64 ((rd_T51 l0 x3_1).f2)) ∧ w'.cell? (ad120.add ((x3_1).toNat * 4)) = some (.int .i64 ((rd_T51 l0 x3_1).f0.f0)) ∧ w'.cell? ⟨(ad120.add ((x3_1).toNat * 4)).block, (ad120.add ((x3_1).toNat * 4)).off + 1, none⟩ = some (.int .i64 ((rd_T51 l0 x3_1).f0.f1)) ∧ w'.cell? ⟨(ad120.add ((x3_1).toNat * 4)).block, (ad120.add ((x3_1).toNat * 4)).off + 2, none⟩ = some (.int .u64 ((rd_T51 l0 x3_1).f1)) ∧ w'.cell? ⟨(ad120.add ((x3_1).toNat * 4)).block, (ad120.add ((x3_1).toNat * 4)).off + 3, none⟩ = some (.int .i64 ((rd_T51 l0 x3_1).f2)) ∧ w'.cell? (ad120.add ((x3_1).toNat * 4)) = some (.int .i64 ((rd_T51 l0 x3_1).f0.f0)) ∧ w'.cell? ⟨(ad120.add ((x3_1).toNat * 4)).block, (ad120.add ((x3_1).toNat * 4)).off + 1, none⟩ = some (.int .i64 ((rd_T51 l0 x3_1).f0.f1)) ∧ w'.cell? ⟨(ad120.add ((x3_1).toNat * 4)).block, (ad120.add ((x3_1).toNat * 4)).off + 2, none⟩ = some (.int .u64 ((rd_T51 l0 x3_1).f1)) ∧ w'.cell? ⟨(ad120.add ((x3_1).toNat * 4)).block, (ad120.add ((x3_1).toNat * 4)).off + 3, none⟩ = some (.int .i64 ((rd_T51 l0 x3_1).f2))) (ds := []) (bm 26 0) (by kernel_rfl) rfl rfl ⟨((HB.out.cell (World.block_lt_of_cell? w _ hw120_0)).trans hw120_0), ((HB.out.cell (World.block_lt_of_cell? w _ hw120_1)).trans hw120_1), ((HB.out.cell (World.block_lt_of_cell? w _ hw120_2)).trans hw120_2), ((HB.out.cell (World.block_lt_of_cell? w _ hw120_3)).trans hw120_3), ((HB.out.cell (World.block_lt_of_cell? w _ hw121_0)).trans hw121_0), ((HB.out.cell (World.block_lt_of_cell? w _ hw121_1)).trans hw121_1), ((HB.out.cell (World.block_lt_of_cell? w _ hw121_2)).trans hw121_2), ((HB.out.cell (World.block_lt_of_cell? w _ hw121_3)).trans hw121_3), ((HB.out.cell (World.block_lt_of_cell? w _ hw126_0)).trans hw126_0), ((HB.out.cell (World.block_lt_of_cell? w _ hw126_1)).trans hw126_1), ((HB.out.cell (World.block_lt_of_cell? w _ hw126_2)).trans hw126_2), ((HB.out.cell (World.block_lt_of_cell? w _ hw126_3)).trans hw126_3)⟩ (fun hHeld => ?_); refine with_tabW ensembleref05_Right.tab4 ensembleref05_Right.bits4 (fun HT_ HW_ => ?_)
         generalize wr.drew = w12 at HB HR125 hx120_0 hx120_1 hx120_2 hx120_3 hx121_0 hx121_1 hx121_2 hx121_3 hx126_0 hx126_1 hx126_2 hx126_3 hHeld ⊢
         refine pu 0 (some 10) (bm 26 1) ?_
         refine pu 1 (some 11) (bm 26 3) ?_
         refine pu 2 (some 12) (bm 26 7) ?_
         refine pu 3 (some 13) (bm 26 15) ?_
         refine tk12 4 (some 14) (bm 26 31) ?_
         refine pu 5 (some 15) (bm 26 63) ?_
         refine pu 6 (some 16) (bm 26 127) ?_
         refine pu 7 (some 17) (bm 26 255) ?_
         refine pu 8 (some 18) (bm 26 511) ?_
         refine pu 9 (some 19) (bm 26 1023) ?_
         refine pu 10 (some 20) (bm 26 2047) ?_
         refine tk12 11 (some 21) (bm 26 4095) ?_
         refine pu 12 (some 22) (bm 26 8191) ?_
         refine pu 13 (some 23) (bm 26 16383) ?_
         refine pu 14 (some 24) (bm 26 32767) ?_
         refine pu 15 (some 25) (bm 26 65535) ?_
         refine pu 16 (some 26) (bm 26 131071) ?_
         refine pu 17 (some 27) (bm 26 262143) ?_
         refine pu 18 (some 28) (bm 26 524287) ?_
         refine pu 19 (some 29) (bm 26 1048575) ?_
         refine pu 20 (some 30) (bm 26 2097151) ?_
         refine pu 21 (some 31) (bm 26 4194303) ?_
         refine tk12 22 (some 32) (bm 26 8388607) ?_
         refine one_ (i := 23) (N := some 33) (bm 26 16777215) rfl rfl (one_of HT_.out (by kernel_rfl)) (by decide) (fun K hK => ?_)
         refine goes_ Try.func79 (by kernel_rfl) rfl #[.slice (some ad120) y122.length c0, .agg #[.int .i64 ((rd_T51 l0 x3_1).f0.f0), .int .i64 ((rd_T51 l0 x3_1).f0.f1)]] (by rfl) rfl rfl Z0 ?_
         with_reducible refine (ensembleref05_find.calls k1 _ _ y122 ((rd_T51 l0 x3_1).f0.f0) ((rd_T51 l0 x3_1).f0.f1) t127 _ ?side1 ?side2 A10.out).mono ?_
         (case side1 => exact cs_ HR125)
         (case side2 => exact HC125.out)
         rintro e w14 ⟨rfl, hb⟩
         refine ⟨_, rfl, ?_⟩
         replace HB := hs_ hb
         (try clear hb)
         (try clear hb2)
         (try clear hk)
         (try clear hi)
         refine hK.out _ _ ⟨((HB.out.cell (World.block_lt_of_cell? w _ hw120_0)).trans hw120_0), ((HB.out.cell (World.block_lt_of_cell? w _ hw120_1)).trans hw120_1), ((HB.out.cell (World.block_lt_of_cell? w _ hw120_2)).trans hw120_2), ((HB.out.cell (World.block_lt_of_cell? w _ hw120_3)).trans hw120_3), ((HB.out.cell (World.block_lt_of_cell? w _ hw121_0)).trans hw121_0), ((HB.out.cell (World.block_lt_of_cell? w _ hw121_1)).trans hw121_1), ((HB.out.cell (World.block_lt_of_cell? w _ hw121_2)).trans hw121_2), ((HB.out.cell (World.block_lt_of_cell? w _ hw121_3)).trans hw121_3), ((HB.out.cell (World.block_lt_of_cell? w _ hw126_0)).trans hw126_0), ((HB.out.cell (World.block_lt_of_cell? w _ hw126_1)).trans hw126_1), ((HB.out.cell (World.block_lt_of_cell? w _ hw126_2)).trans hw126_2), ((HB.out.cell (World.block_lt_of_cell? w _ hw126_3)).trans hw126_3)⟩ (fun hHeld => ?_)
         clear hK K
         refine norm_ (a' := ?_) ?_ ?_
         rotate_left
         ·show Act.put _ (some 33) _ = _
          simp only [Act.put, List.setIfInBounds_toArray, List.set_cons_zero, List.set_cons_succ, i64_w, i32_w]
          rfl
         refine pu 24 (some 34) (bm 26 33554431) ?_
         refine pu 25 (some 35) (bm 26 67108863) ?_
         refine done_ (done_of HT_.out (by kernel_rfl)) ?_
         try go_wp2
         go_ret
         exact ⟨by first | rfl | (simp [errW_none, errW_some] <;> rfl) | (simp [*, errW_none, errW_some] <;> rfl), hb_⟩
        ·rw [if_neg c11] at H
         have c11b0 : decide (0 ≤ t127) = false := decide_eq_false c11
         clear c11
         have H' := Aside0.mk H
         clear H
         try go_wp2
         replace HB := Aside0.mk (below_drew1 HB.out)
         have p120 : 0 ≤ (x3_1 : Int) := of_decide_eq_true Z1
         have q120 : x3_1 < (l0.length : Int) := of_decide_eq_true Z1
         obtain ⟨ad120, e120, hx120_0, hx120_1, hx120_2, hx120_3⟩ := at_T51 HR0.out x3_1 p120 q120
         have hw120_3 := hx120_3
         have hw120_2 := hx120_2
         have hw120_1 := hx120_1
         have hw120_0 := hx120_0
         cases e120
         replace hx120_0 := cx_ hx120_0
         replace hx120_1 := cx_ hx120_1
         replace hx120_2 := cx_ hx120_2
         replace hx120_3 := cx_ hx120_3
         replace p120 := eq_true p120
         replace q120 := eq_true q120
         have p121 : 0 ≤ (x3_1 : Int) := of_decide_eq_true Z1
         have q121 : x3_1 < (l0.length : Int) := of_decide_eq_true Z1
         obtain ⟨ad121, e121, hx121_0, hx121_1, hx121_2, hx121_3⟩ := at_T51 HR0.out x3_1 p121 q121
         have hw121_3 := hx121_3
         have hw121_2 := hx121_2
         have hw121_1 := hx121_1
         have hw121_0 := hx121_0
         obtain rfl : ad120 = ad121 := (by injection e121)
         replace hx121_0 := cx_ hx121_0
         replace hx121_1 := cx_ hx121_1
         replace hx121_2 := cx_ hx121_2
         replace hx121_3 := cx_ hx121_3
         replace p121 := eq_true p121
         replace q121 := eq_true q121
         have q16 : (x3_1 : Int) ≤ ((l0.length : Int) : Int) := of_decide_eq_true Z1
         obtain ⟨i016, hi016, _, hsz16, _⟩ := info_parts info51
         have hroom16 : l0.length ≤ c0 := HC0.out
         have hC16 : Kd.C k51 _ (some ad120) l0.length l0 := HR0.out
         have hcut16 := cut_to (P := Try.prog) 22 51 .i64 Try.underlying22 hi016 (some ad120) l0.length c0 x3_1 (of_decide_eq_true Z1) q16 hroom16
         have hr16 := Kd.C_take (m := (x3_1 : Int).toNat) hC16 (by omega)
         have hy16 : y122.length = (x3_1 : Int).toNat := (by rw [Ny122.out, List.length_take]; omega)
         rw [← Ny122.out] at hr16
         rw [← hy16] at hcut16
         have HR125 := Aside0.mk hr16
         have HC125 := Aside0.mk (show y122.length ≤ c0 from by omega)
         clear hr16 hC16 hroom16 hi016 hsz16
         have KY16 := Aside0.mk hy16
         clear hy16
         replace q16 := eq_true q16
         have p126 : 0 ≤ (x3_1 : Int) := of_decide_eq_true Z1
         have q126 : x3_1 < (l0.length : Int) := of_decide_eq_true Z1
         obtain ⟨ad126, e126, hx126_0, hx126_1, hx126_2, hx126_3⟩ := at_T51 HR0.out x3_1 p126 q126
         have hw126_3 := hx126_3
         have hw126_2 := hx126_2
         have hw126_1 := hx126_1
         have hw126_0 := hx126_0
         obtain rfl : ad120 = ad126 := (by injection e126)
         replace hx126_0 := cx_ hx126_0
         replace hx126_1 := cx_ hx126_1
         replace hx126_2 := cx_ hx126_2
         replace hx126_3 := cx_ hx126_3
         replace p126 := eq_true p126
         replace q126 := eq_true q126
         refine start_ (n := 26) (S := fun w' => w'.cell? (ad120.add ((x3_1).toNat * 4)) = some (.int .i64 ((rd_T51 l0 x3_1).f0.f0)) ∧ w'.cell? ⟨(ad120.add ((x3_1).toNat * 4)).block, (ad120.add ((x3_1).toNat * 4)).off + 1, none⟩ = some (.int .i64 ((rd_T51 l0 x3_1).f0.f1)) ∧ w'.cell? ⟨(ad120.add ((x3_1).toNat * 4)).block, (ad120.add ((x3_1).toNat * 4)).off + 2, none⟩ = some (.int .u64 ((rd_T51 l0 x3_1).f1)) ∧ w'.cell? ⟨(ad120.add ((x3_1).toNat * 4)).block, (ad120.add ((x3_1).toNat * 4)).off + 3, none⟩ = some (.int .i64 ((rd_T51 l0 x3_1).f2)) ∧ w'.cell? (ad120.add ((x3_1).toNat * 4)) = some (.int .i64 ((rd_T51 l0 x3_1).f0.f0)) ∧ w'.cell? ⟨(ad120.add ((x3_1).toNat * 4)).block, (ad120.add ((x3_1).toNat * 4)).off + 1, none⟩ = some (.int .i64 ((rd_T51 l0 x3_1).f0.f1)) ∧ w'.cell? ⟨(ad120.add ((x3_1).toNat * 4)).block, (ad120.add ((x3_1).toNat * 4)).off + 2, none⟩ = some (.int .u64 ((rd_T51 l0 x3_1).f1)) ∧ w'.cell? ⟨(ad120.add ((x3_1).toNat * 4)).block, (ad120.add ((x3_1).toNat * 4)).off + 3, none⟩ = some (.int .i64 ((rd_T51 l0 x3_1).f2)) ∧ w'.cell? (ad120.add ((x3_1).toNat * 4)) = some (.int .i64 ((rd_T51 l0 x3_1).f0.f0)) ∧ w'.cell? ⟨(ad120.add ((x3_1).toNat * 4)).block, (ad120.add ((x3_1).toNat * 4)).off + 1, none⟩ = some (.int .i64 ((rd_T51 l0 x3_1).f0.f1)) ∧ w'.cell? ⟨(ad120.add ((x3_1).toNat * 4)).block, (ad120.add ((x3_1).toNat * 4)).off + 2, none⟩ = some (.int .u64 ((rd_T51 l0 x3_1).f1)) ∧ w'.cell? ⟨(ad120.add ((x3_1).toNat * 4)).block, (ad120.add ((x3_1).toNat * 4)).off + 3, none⟩ = some (.int .i64 ((rd_T51 l0 x3_1).f2))) (ds := []) (bm 26 0) (by kernel_rfl) rfl rfl ⟨((HB.out.cell (World.block_lt_of_cell? w _ hw120_0)).trans hw120_0), ((HB.out.cell (World.block_lt_of_cell? w _ hw120_1)).trans hw120_1), ((HB.out.cell (World.block_lt_of_cell? w _ hw120_2)).trans hw120_2), ((HB.out.cell (World.block_lt_of_cell? w _ hw120_3)).trans hw120_3), ((HB.out.cell (World.block_lt_of_cell? w _ hw121_0)).trans hw121_0), ((HB.out.cell (World.block_lt_of_cell? w _ hw121_1)).trans hw121_1), ((HB.out.cell (World.block_lt_of_cell? w _ hw121_2)).trans hw121_2), ((HB.out.cell (World.block_lt_of_cell? w _ hw121_3)).trans hw121_3), ((HB.out.cell (World.block_lt_of_cell? w _ hw126_0)).trans hw126_0), ((HB.out.cell (World.block_lt_of_cell? w _ hw126_1)).trans hw126_1), ((HB.out.cell (World.block_lt_of_cell? w _ hw126_2)).trans hw126_2), ((HB.out.cell (World.block_lt_of_cell? w _ hw126_3)).trans hw126_3)⟩ (fun hHeld => ?_); refine with_tabW ensembleref05_Right.tab4 ensembleref05_Right.bits4 (fun HT_ HW_ => ?_)
         generalize wr.drew = w15 at HB HR125 hx120_0 hx120_1 hx120_2 hx120_3 hx121_0 hx121_1 hx121_2 hx121_3 hx126_0 hx126_1 hx126_2 hx126_3 hHeld ⊢
         refine pu 0 (some 10) (bm 26 1) ?_
         refine pu 1 (some 11) (bm 26 3) ?_
         refine pu 2 (some 12) (bm 26 7) ?_
         refine pu 3 (some 13) (bm 26 15) ?_
         refine tk12 4 (some 14) (bm 26 31) ?_
         refine pu 5 (some 15) (bm 26 63) ?_
         refine pu 6 (some 16) (bm 26 127) ?_
         refine pu 7 (some 17) (bm 26 255) ?_
         refine pu 8 (some 18) (bm 26 511) ?_
         refine pu 9 (some 19) (bm 26 1023) ?_
         refine pu 10 (some 20) (bm 26 2047) ?_
         refine tk12 11 (some 21) (bm 26 4095) ?_
         refine pu 12 (some 22) (bm 26 8191) ?_
         refine pu 13 (some 23) (bm 26 16383) ?_
         refine pu 14 (some 24) (bm 26 32767) ?_
         refine pu 15 (some 25) (bm 26 65535) ?_
         refine pu 16 (some 26) (bm 26 131071) ?_
         refine pu 17 (some 27) (bm 26 262143) ?_
         refine pu 18 (some 28) (bm 26 524287) ?_
         refine pu 19 (some 29) (bm 26 1048575) ?_
         refine pu 20 (some 30) (bm 26 2097151) ?_
         refine pu 21 (some 31) (bm 26 4194303) ?_
         refine tk12 22 (some 32) (bm 26 8388607) ?_
         refine one_ (i := 23) (N := some 33) (bm 26 16777215) rfl rfl (one_of HT_.out (by kernel_rfl)) (by decide) (fun K hK => ?_)
         refine goes_ Try.func79 (by kernel_rfl) rfl #[.slice (some ad120) y122.length c0, .agg #[.int .i64 ((rd_T51 l0 x3_1).f0.f0), .int .i64 ((rd_T51 l0 x3_1).f0.f1)]] (by rfl) rfl rfl Z0 ?_
         with_reducible refine (ensembleref05_find.calls k1 _ _ y122 ((rd_T51 l0 x3_1).f0.f0) ((rd_T51 l0 x3_1).f0.f1) t127 _ ?side1 ?side2 A10.out).mono ?_
         (case side1 => exact cs_ HR125)
         (case side2 => exact HC125.out)
         rintro e w17 ⟨rfl, hb⟩
         refine ⟨_, rfl, ?_⟩
         replace HB := hs_ hb
         (try clear hb)
         (try clear hb2)
         (try clear hk)
         (try clear hi)
         refine hK.out _ _ ⟨((HB.out.cell (World.block_lt_of_cell? w _ hw120_0)).trans hw120_0), ((HB.out.cell (World.block_lt_of_cell? w _ hw120_1)).trans hw120_1), ((HB.out.cell (World.block_lt_of_cell? w _ hw120_2)).trans hw120_2), ((HB.out.cell (World.block_lt_of_cell? w _ hw120_3)).trans hw120_3), ((HB.out.cell (World.block_lt_of_cell? w _ hw121_0)).trans hw121_0), ((HB.out.cell (World.block_lt_of_cell? w _ hw121_1)).trans hw121_1), ((HB.out.cell (World.block_lt_of_cell? w _ hw121_2)).trans hw121_2), ((HB.out.cell (World.block_lt_of_cell? w _ hw121_3)).trans hw121_3), ((HB.out.cell (World.block_lt_of_cell? w _ hw126_0)).trans hw126_0), ((HB.out.cell (World.block_lt_of_cell? w _ hw126_1)).trans hw126_1), ((HB.out.cell (World.block_lt_of_cell? w _ hw126_2)).trans hw126_2), ((HB.out.cell (World.block_lt_of_cell? w _ hw126_3)).trans hw126_3)⟩ (fun hHeld => ?_)
         clear hK K
         refine norm_ (a' := ?_) ?_ ?_
         rotate_left
         ·show Act.put _ (some 33) _ = _
          simp only [Act.put, List.setIfInBounds_toArray, List.set_cons_zero, List.set_cons_succ, i64_w, i32_w]
          rfl
         refine pu 24 (some 34) (bm 26 33554431) ?_
         refine pu 25 (some 35) (bm 26 67108863) ?_
         refine done_ (done_of HT_.out (by kernel_rfl)) ?_
         try go_wp2
         go_roundg k1
         case measure => have := HK1.out; omega
         case rel => exact ⟨(wrap64 (x3_1 + 1)), Z6, H', ⟨by have := HK1.out; omega⟩, ⟨hb_⟩⟩
       ·rw [if_neg c9] at H
        exact absurd H (by simp)
    ·rw [if_neg c3] at H
     exact absurd H (by simp)
   ·rw [if_neg c2] at H
    have c2b0 : decide (x3_1 < (l0.length : Int)) = false := decide_eq_false c2
    clear c2
    obtain rfl := Option.some.inj H
    go_wp2
    go_ret
    exact ⟨by first | rfl | (simp [errW_none, errW_some] <;> rfl) | (simp [*, errW_none, errW_some] <;> rfl), hb_⟩
end Go.Proofs.Ytckhjehibjdjdaa.P
namespace Go.Proofs.Ytckhjehibjdjdaa.P
open Go.RowKit Go.Proofs.YtckhjehibjdjdaaW.PrintWords Go.Proofs.YtckhjehibjdjdaaW.PrintLast Go.Proofs.YtckhjehibjdjdaaW.PrintMore
attribute [local go_sem] max2_int min2_int max_two min_two max_three min_three max_four min_four
set_option linter.unusedVariables false
set_option linter.unusedSimpArgs false
mutual
def ensembleref12_Few.j0 : Nat → List (S41) → Bool → Option (Bool)
 | 0, _, _ => none
 | k + 1, x2, x40 => if x40 = true then (some false) else (ensembleref12_Few.l0 k x2 0)
def ensembleref12_Few.l0 : Nat → List (S41) → Int → Option (Bool)
 | 0, _, _ => none
 | k + 1, x2, x7 => if x7 < (x2.length : Int) then (if 0 ≤ x7 then (if (((rd_T41 x2 x7).f4).length : Int) > 20 then (some false) else (ensembleref12_Few.l0 k x2 (wrap64 (x7 + 1)))) else (none)) else (some true)
end
def ensembleref12_Few.f (k : Nat) (l0 : List (S51)) (a1_0 : Int) (a1_1 : Int) (l2 : List (S41)) : Option (Bool) := if (l0.length : Int) > 70 then (ensembleref12_Few.j0 k l2 true) else ((ensembleref05_Right.f k l0).bind fun t129 => (if t129 = true then (if (l2.length : Int) > 20 then (ensembleref12_Few.j0 k l2 true) else (if a1_0 < (-1048576) then (ensembleref12_Few.j0 k l2 true) else (if a1_0 > 1048576 then (ensembleref12_Few.j0 k l2 true) else (if a1_1 < (-1048576) then (ensembleref12_Few.j0 k l2 true) else (ensembleref12_Few.j0 k l2 (decide (a1_1 > 1048576))))))) else (ensembleref12_Few.j0 k l2 true)))
set_option maxHeartbeats 8000000 in
set_option maxRecDepth 100000 in
theorem ensembleref12_Few.calls (k : Nat) (A0 : Option Addr) (c0 : Nat) (l0 : List (S51)) (a1_0 : Int) (a1_1 : Int) (A2 : Option Addr) (c2 : Nat) (l2 : List (S41)) (r : Bool) (w : World) (hr0 : Kd.C k51 w A0 l0.length l0) (hc0 : l0.length ≤ c0) (hr2 : Kd.C k41 w A2 l2.length l2) (hc2 : l2.length ≤ c2) (h : ensembleref12_Few.f k l0 a1_0 a1_1 l2 = some r) :
  Calls Try.prog 26 #[.slice A0 l0.length c0, .agg #[.int .i64 a1_0, .int .i64 a1_1], .slice A2 l2.length c2] w fun e w' => e = .returned (.bool r) ∧ Below w.heap.size w w' := by
 have hu24 := Try.underlying24
 have HR0 := Aside0.mk hr0
 have HC0 := Aside0.mk hc0
 clear hr0 hc0
 have HR2 := Aside0.mk hr2
 have HC2 := Aside0.mk hc2
 clear hr2 hc2
 have HB := Aside0.mk (Below.refl w.heap.size w)
 have H : (if (l0.length : Int) > 70 then (ensembleref12_Few.j0 k l2 true) else ((ensembleref05_Right.f k l0).bind fun t129 => (if t129 = true then (if (l2.length : Int) > 20 then (ensembleref12_Few.j0 k l2 true) else (if a1_0 < (-1048576) then (ensembleref12_Few.j0 k l2 true) else (if a1_0 > 1048576 then (ensembleref12_Few.j0 k l2 true) else (if a1_1 < (-1048576) then (ensembleref12_Few.j0 k l2 true) else (ensembleref12_Few.j0 k l2 (decide (a1_1 > 1048576))))))) else (ensembleref12_Few.j0 k l2 true)))) = some r := h
 clear h
 have HC4 := Aside0.mk H
 clear H
 go_enter Try.func26, Try.ntmps26
 go_upto_region 1 with (first | ((with_reducible refine gate_dst (N := 4) rfl ?_); (try (refine gate_guard (by rfl) ?_; dsimp only)); refine bx 4 #[.int .i64 a1_0, .int .i64 a1_1] 24 ?_; intro gb128 hg w5 hbox hb; have BK128 := Aside0.mk (hbox); have GW128 := ge_ hg; have GE128 := ge_ hg; replace HB := hs_ hb; clear hb hbox hg))
 (try simp only [Act.put, List.setIfInBounds_toArray, List.set_cons_zero, List.set_cons_succ])
 go_cut [40] (fun v40 wc => ∃ (kq : Nat) (x40_3 : Bool), v40 = .bool x40_3 ∧ Aside0 (ensembleref12_Few.j0 kq l2 x40_3 = some r) ∧ Aside0 (kq ≤ k) ∧ Aside0 (wc.heap[gb128]? = some (.cells #[.int .i64 a1_0, .int .i64 a1_1] 24 (0, 0))) ∧ Aside0 (Below w.heap.size w wc))
 case first =>
  have H := HC4.out
  clear HC4
  by_cases c6 : (l0.length : Int) > 70
  ·rw [if_pos c6] at H
   have c6b0 : decide (70 < (l0.length : Int)) = true := decide_eq_true c6
   have c6b1 : decide (70 < l0.length) = true := decide_eq_true (by omega)
   clear c6
   (first | rw [c6b0] | (simp only [i64_w, i32_w]; rw [c6b0]) | skip)
   have H' := Aside0.mk H
   clear H
   go_wp2
   go_meet
   case rel => exact ⟨_, (true), Z6, H', ⟨by first | omega | exact Nat.le_refl _⟩, ⟨bo_ BK128⟩, ⟨hb_⟩⟩
  ·rw [if_neg c6] at H
   have c6b0 : decide (70 < (l0.length : Int)) = false := decide_eq_false c6
   have c6b1 : decide (70 < l0.length) = false := decide_eq_false (by omega)
   clear c6
   (first | rw [c6b0] | (simp only [i64_w, i32_w]; rw [c6b0]) | skip)
   replace H := Option.bind_eq_some_iff.mp H
   obtain ⟨t129, A70, H⟩ := H
   replace H : (if t129 = true then (if (l2.length : Int) > 20 then (ensembleref12_Few.j0 k l2 true) else (if a1_0 < (-1048576) then (ensembleref12_Few.j0 k l2 true) else (if a1_0 > 1048576 then (ensembleref12_Few.j0 k l2 true) else (if a1_1 < (-1048576) then (ensembleref12_Few.j0 k l2 true) else (ensembleref12_Few.j0 k l2 (decide (a1_1 > 1048576))))))) else (ensembleref12_Few.j0 k l2 true)) = some r := H
   have A7 := Aside0.mk A70
   clear A70
   by_cases c8 : t129 = true
   ·subst c8
    have H1 : (if (l2.length : Int) > 20 then (ensembleref12_Few.j0 k l2 true) else (if a1_0 < (-1048576) then (ensembleref12_Few.j0 k l2 true) else (if a1_0 > 1048576 then (ensembleref12_Few.j0 k l2 true) else (if a1_1 < (-1048576) then (ensembleref12_Few.j0 k l2 true) else (ensembleref12_Few.j0 k l2 (decide (a1_1 > 1048576))))))) = some r := by rw [if_pos rfl] at H; exact H
    clear H
    have H := H1
    clear H1
    by_cases c9 : (l2.length : Int) > 20
    ·rw [if_pos c9] at H
     have c9b0 : decide (20 < (l2.length : Int)) = true := decide_eq_true c9
     have c9b1 : decide (20 < l2.length) = true := decide_eq_true (by omega)
     clear c9
     have H' := Aside0.mk H
     clear H
     go_wp2_with (first | (go_at_call 67; (with_reducible refine (ensembleref05_Right.calls k _ _ l0 true _ ?side1 ?side2 A7.out).mono ?_); (case side1 => exact cs_ HR0); (case side2 => exact HC0.out); rintro e w10 ⟨rfl, hb⟩; replace BK128 := bk_ BK128 hb; replace HB := hs_ hb; (try clear hb); (try clear hb2); (try clear hk); (try clear hi)))
     go_meet
     case rel => exact ⟨_, (true), Z6, H', ⟨by first | omega | exact Nat.le_refl _⟩, ⟨bo_ BK128⟩, ⟨hb_⟩⟩
    ·rw [if_neg c9] at H
     have c9b0 : decide (20 < (l2.length : Int)) = false := decide_eq_false c9
     have c9b1 : decide (20 < l2.length) = false := decide_eq_false (by omega)
     clear c9
     by_cases c11 : a1_0 < (-1048576)
     ·rw [if_pos c11] at H
      have c11b0 : decide (a1_0 < (-1048576)) = true := decide_eq_true c11
      clear c11
      have H' := Aside0.mk H
      clear H
      go_wp2_with (first | (go_at_call 67; (with_reducible refine (ensembleref05_Right.calls k _ _ l0 true _ ?side1 ?side2 A7.out).mono ?_); (case side1 => exact cs_ HR0); (case side2 => exact HC0.out); rintro e w12 ⟨rfl, hb⟩; replace BK128 := bk_ BK128 hb; replace HB := hs_ hb; (try clear hb); (try clear hb2); (try clear hk); (try clear hi); obtain ⟨hcz13_0, hcz13_1, hfz13_0, hfz13_1⟩ := bz2_ BK128))
      go_meet
      case rel => exact ⟨_, (true), Z6, H', ⟨by first | omega | exact Nat.le_refl _⟩, ⟨bo_ BK128⟩, ⟨hb_⟩⟩
     ·rw [if_neg c11] at H
      have c11b0 : decide (a1_0 < (-1048576)) = false := decide_eq_false c11
      clear c11
      by_cases c14 : a1_0 > 1048576
      ·rw [if_pos c14] at H
       have c14b0 : decide (1048576 < a1_0) = true := decide_eq_true c14
       clear c14
       have H' := Aside0.mk H
       clear H
       go_wp2_with (first | (go_at_call 67; (with_reducible refine (ensembleref05_Right.calls k _ _ l0 true _ ?side1 ?side2 A7.out).mono ?_); (case side1 => exact cs_ HR0); (case side2 => exact HC0.out); rintro e w15 ⟨rfl, hb⟩; replace BK128 := bk_ BK128 hb; replace HB := hs_ hb; (try clear hb); (try clear hb2); (try clear hk); (try clear hi); obtain ⟨hcz16_0, hcz16_1, hfz16_0, hfz16_1⟩ := bz2_ BK128))
       go_meet
       case rel => exact ⟨_, (true), Z6, H', ⟨by first | omega | exact Nat.le_refl _⟩, ⟨bo_ BK128⟩, ⟨hb_⟩⟩
      ·rw [if_neg c14] at H
       have c14b0 : decide (1048576 < a1_0) = false := decide_eq_false c14
       clear c14
       by_cases c17 : a1_1 < (-1048576)
       ·rw [if_pos c17] at H
        have c17b0 : decide (a1_1 < (-1048576)) = true := decide_eq_true c17
        clear c17
        have H' := Aside0.mk H
        clear H
        go_wp2_with (first | (go_at_call 67; (with_reducible refine (ensembleref05_Right.calls k _ _ l0 true _ ?side1 ?side2 A7.out).mono ?_); (case side1 => exact cs_ HR0); (case side2 => exact HC0.out); rintro e w18 ⟨rfl, hb⟩; replace BK128 := bk_ BK128 hb; replace HB := hs_ hb; (try clear hb); (try clear hb2); (try clear hk); (try clear hi); obtain ⟨hcz19_0, hcz19_1, hfz19_0, hfz19_1⟩ := bz2_ BK128))
        go_meet
        case rel => exact ⟨_, (true), Z6, H', ⟨by first | omega | exact Nat.le_refl _⟩, ⟨bo_ BK128⟩, ⟨hb_⟩⟩
       ·rw [if_neg c17] at H
        have c17b0 : decide (a1_1 < (-1048576)) = false := decide_eq_false c17
        clear c17
        have H' := Aside0.mk H
        clear H
        go_wp2_with (first | (go_at_call 67; (with_reducible refine (ensembleref05_Right.calls k _ _ l0 true _ ?side1 ?side2 A7.out).mono ?_); (case side1 => exact cs_ HR0); (case side2 => exact HC0.out); rintro e w20 ⟨rfl, hb⟩; replace BK128 := bk_ BK128 hb; replace HB := hs_ hb; (try clear hb); (try clear hb2); (try clear hk); (try clear hi); obtain ⟨hcz21_0, hcz21_1, hfz21_0, hfz21_1⟩ := bz2_ BK128))
        go_meet
        case rel => exact ⟨_, (decide (a1_1 > 1048576)), Z6, H', ⟨by first | omega | exact Nat.le_refl _⟩, ⟨bo_ BK128⟩, ⟨hb_⟩⟩
   ·replace c8 := Bool.eq_false_iff.mpr c8
    subst c8
    have H1 : (ensembleref12_Few.j0 k l2 true) = some r := by rw [if_neg (show ¬ (false = true) by decide)] at H; exact H
    clear H
    have H := H1
    clear H1
    have H' := Aside0.mk H
    clear H
    go_wp2_with (first | (go_at_call 67; (with_reducible refine (ensembleref05_Right.calls k _ _ l0 false _ ?side1 ?side2 A7.out).mono ?_); (case side1 => exact cs_ HR0); (case side2 => exact HC0.out); rintro e w22 ⟨rfl, hb⟩; replace BK128 := bk_ BK128 hb; replace HB := hs_ hb; (try clear hb); (try clear hb2); (try clear hk); (try clear hi)))
    go_meet
    case rel => exact ⟨_, (true), Z6, H', ⟨by first | omega | exact Nat.le_refl _⟩, ⟨bo_ BK128⟩, ⟨hb_⟩⟩
 case rest =>
  clear HC4
  try clear c1
  try clear c2
  try clear p2
  try clear c6
  try clear c6b0
  try clear c6b1
  try clear c8
  try clear c9
  try clear c9b0
  try clear c9b1
  try clear c11
  try clear c11b0
  try clear c14
  try clear c14b0
  try clear c17
  try clear c17b0
  try clear hcz13_0
  try clear hcz13_1
  try clear hcz16_0
  try clear hcz16_1
  try clear hcz19_0
  try clear hcz19_1
  try clear hcz21_0
  try clear hcz21_1
  try clear hfz13_0
  try clear hfz13_1
  try clear hfz16_0
  try clear hfz16_1
  try clear hfz19_0
  try clear hfz19_1
  try clear hfz21_0
  try clear hfz21_1
  obtain ⟨kq, x40_3, rfl, HA, HJ3, BK128, HB⟩ := hcut
  cases kq with
  | zero => exact absurd HA.out (by simp [ensembleref12_Few.j0])
  | succ kj3 =>
   have H := HA.out
   clear HA
   simp only [ensembleref12_Few.j0] at H
   by_cases c23 : x40_3 = true
   ·subst c23
    have H1 : (some false) = some r := by rw [if_pos rfl] at H; exact H
    clear H
    have H := H1
    clear H1
    obtain rfl := Option.some.inj H
    go_wp2
    go_ret
    exact ⟨by first | rfl | (simp [errW_none, errW_some] <;> rfl) | (simp [*, errW_none, errW_some] <;> rfl), hb_⟩
   ·replace c23 := Bool.eq_false_iff.mpr c23
    subst c23
    have H1 : (ensembleref12_Few.l0 kj3 l2 0) = some r := by rw [if_neg (show ¬ (false = true) by decide)] at H; exact H
    clear H
    have H := H1
    clear H1
    have H' := Aside0.mk H
    clear H
    go_wp2
    go_loopg [7] kj3 (fun kq v7 w' => ∃ (x7_2 : Int), v7 = .int .i64 x7_2 ∧ Aside0 (ensembleref12_Few.l0 kq l2 x7_2 = some r) ∧ Aside0 (kq ≤ kj3) ∧ Aside0 (w'.heap[gb128]? = some (.cells #[.int .i64 a1_0, .int .i64 a1_1] 24 (0, 0))) ∧ Aside0 (Below w.heap.size w w'))
    case atStart => exact ⟨(0), Z6, H', ⟨Nat.le_refl _⟩, ⟨bo_ BK128⟩, ⟨hb_⟩⟩
    case round =>
     clear H'
     try clear c1
     try clear c2
     try clear p2
     try clear c6
     try clear c6b0
     try clear c6b1
     try clear c8
     try clear c9
     try clear c9b0
     try clear c9b1
     try clear c11
     try clear c11b0
     try clear c14
     try clear c14b0
     try clear c17
     try clear c17b0
     try clear c23
     try clear hcz13_0
     try clear hcz13_1
     try clear hcz16_0
     try clear hcz16_1
     try clear hcz19_0
     try clear hcz19_1
     try clear hcz21_0
     try clear hcz21_1
     try clear hfz13_0
     try clear hfz13_1
     try clear hfz16_0
     try clear hfz16_1
     try clear hfz19_0
     try clear hfz19_1
     try clear hfz21_0
     try clear hfz21_1
     try clear p2
     obtain ⟨x7_2, rfl, HA, HK2, BK128, HB⟩ := hrel
     cases gk with
     | zero => exact absurd HA.out (by simp [ensembleref12_Few.l0])
     | succ k2 =>
      have H := HA.out
      clear HA
      simp only [ensembleref12_Few.l0] at H
      by_cases c24 : x7_2 < (l2.length : Int)
      ·rw [if_pos c24] at H
       have c24b0 : decide (x7_2 < (l2.length : Int)) = true := decide_eq_true c24
       clear c24
       by_cases c25 : 0 ≤ x7_2
       ·rw [if_pos c25] at H
        have c25b0 : decide (0 ≤ x7_2) = true := decide_eq_true c25
        clear c25
        by_cases c26 : (((rd_T41 l2 x7_2).f4).length : Int) > 20
        ·rw [if_pos c26] at H
         have c26b0 : decide (20 < (((rd_T41 l2 x7_2).f4).length : Int)) = true := decide_eq_true c26
         have c26b1 : decide (20 < ((rd_T41 l2 x7_2).f4).length) = true := decide_eq_true (by omega)
         clear c26
         obtain rfl := Option.some.inj H
         have p130 : 0 ≤ (x7_2 : Int) := of_decide_eq_true Z1
         have q130 : x7_2 < (l2.length : Int) := of_decide_eq_true Z1
         obtain ⟨ad130, A130_4, c130_4, e130, hx130_0, hx130_1, hx130_2, hx130_3, hx130_4, hl130_4, hi130_4⟩ := at_T41 HR2.out x7_2 p130 q130
         cases e130
         replace hx130_0 := cx_ hx130_0
         replace hx130_1 := cx_ hx130_1
         replace hx130_2 := cx_ hx130_2
         replace hx130_3 := cx_ hx130_3
         replace hx130_4 := cx_ hx130_4
         have HR130_4 := Aside0.mk hi130_4
         have HC130_4 := Aside0.mk hl130_4
         clear hi130_4 hl130_4
         replace p130 := eq_true p130
         replace q130 := eq_true q130
         go_wp2
         go_ret
         exact ⟨by first | rfl | (simp [errW_none, errW_some] <;> rfl) | (simp [*, errW_none, errW_some] <;> rfl), hb_⟩
        ·rw [if_neg c26] at H
         have c26b0 : decide (20 < (((rd_T41 l2 x7_2).f4).length : Int)) = false := decide_eq_false c26
         have c26b1 : decide (20 < ((rd_T41 l2 x7_2).f4).length) = false := decide_eq_false (by omega)
         clear c26
         have H' := Aside0.mk H
         clear H
         have p130 : 0 ≤ (x7_2 : Int) := of_decide_eq_true Z1
         have q130 : x7_2 < (l2.length : Int) := of_decide_eq_true Z1
         obtain ⟨ad130, A130_4, c130_4, e130, hx130_0, hx130_1, hx130_2, hx130_3, hx130_4, hl130_4, hi130_4⟩ := at_T41 HR2.out x7_2 p130 q130
         cases e130
         replace hx130_0 := cx_ hx130_0
         replace hx130_1 := cx_ hx130_1
         replace hx130_2 := cx_ hx130_2
         replace hx130_3 := cx_ hx130_3
         replace hx130_4 := cx_ hx130_4
         have HR130_4 := Aside0.mk hi130_4
         have HC130_4 := Aside0.mk hl130_4
         clear hi130_4 hl130_4
         replace p130 := eq_true p130
         replace q130 := eq_true q130
         go_wp2
         go_roundg k2
         case measure => have := HJ3.out; have := HK2.out; omega
         case rel => exact ⟨(wrap64 (x7_2 + 1)), Z6, H', ⟨by have := HJ3.out; have := HK2.out; omega⟩, ⟨bo_ BK128⟩, ⟨hb_⟩⟩
       ·rw [if_neg c25] at H
        exact absurd H (by simp)
      ·rw [if_neg c24] at H
       have c24b0 : decide (x7_2 < (l2.length : Int)) = false := decide_eq_false c24
       clear c24
       obtain rfl := Option.some.inj H
       go_wp2
       go_ret
       exact ⟨by first | rfl | (simp [errW_none, errW_some] <;> rfl) | (simp [*, errW_none, errW_some] <;> rfl), hb_⟩
end Go.Proofs.Ytckhjehibjdjdaa.P
namespace Go.Proofs.Ytckhjehibjdjdaa.P
open Go.RowKit Go.Proofs.YtckhjehibjdjdaaW.PrintWords Go.Proofs.YtckhjehibjdjdaaW.PrintLast Go.Proofs.YtckhjehibjdjdaaW.PrintMore
attribute [local go_sem] max2_int min2_int max_two min_two max_three min_three max_four min_four
set_option linter.unusedVariables false
set_option linter.unusedSimpArgs false
def ensemblelaw13_few.f (k : Nat) (l0 : List (S51)) (a1_0 : Int) (a1_1 : Int) (l2 : List (S41)) (a3_0 : Int) (a3_1 : Int) (a3_2 : Int) (a3_3 : Bool) (l3_4 : List (S52)) : Option (Bool) := (ensembleref12_Few.f k l0 a1_0 a1_1 l2).bind fun t359 => (if t359 = true then (some (decide ((l3_4.length : Int) ≤ 20))) else (some false))
set_option maxHeartbeats 8000000 in
set_option maxRecDepth 100000 in
theorem ensemblelaw13_few.calls (k : Nat) (A0 : Option Addr) (c0 : Nat) (l0 : List (S51)) (a1_0 : Int) (a1_1 : Int) (A2 : Option Addr) (c2 : Nat) (l2 : List (S41)) (a3_0 : Int) (a3_1 : Int) (a3_2 : Int) (a3_3 : Bool) (A3_4 : Option Addr) (c3_4 : Nat) (l3_4 : List (S52)) (r : Bool) (w : World) (hr0 : Kd.C k51 w A0 l0.length l0) (hc0 : l0.length ≤ c0) (hr2 : Kd.C k41 w A2 l2.length l2) (hc2 : l2.length ≤ c2) (hr3_4 : Kd.C k52 w A3_4 l3_4.length l3_4) (hc3_4 : l3_4.length ≤ c3_4) (h : ensemblelaw13_few.f k l0 a1_0 a1_1 l2 a3_0 a3_1 a3_2 a3_3 l3_4 = some r) :
  Calls Try.prog 36 #[.slice A0 l0.length c0, .agg #[.int .i64 a1_0, .int .i64 a1_1], .slice A2 l2.length c2, .agg #[.int .i64 a3_0, .int .i64 a3_1, .int .i64 a3_2, .bool a3_3, .slice A3_4 l3_4.length c3_4]] w fun e w' => e = .returned (.bool r) ∧ Below w.heap.size w w' := by
 have hu24 := Try.underlying24
 have hu41 := Try.underlying41
 have HR0 := Aside0.mk hr0
 have HC0 := Aside0.mk hc0
 clear hr0 hc0
 have HR2 := Aside0.mk hr2
 have HC2 := Aside0.mk hc2
 clear hr2 hc2
 have HR3_4 := Aside0.mk hr3_4
 have HC3_4 := Aside0.mk hc3_4
 clear hr3_4 hc3_4
 have HB := Aside0.mk (Below.refl w.heap.size w)
 have H : ((ensembleref12_Few.f k l0 a1_0 a1_1 l2).bind fun t359 => (if t359 = true then (some (decide ((l3_4.length : Int) ≤ 20))) else (some false))) = some r := h
 clear h
 replace H := Option.bind_eq_some_iff.mp H
 obtain ⟨t359, A50, H⟩ := H
 replace H : (if t359 = true then (some (decide ((l3_4.length : Int) ≤ 20))) else (some false)) = some r := H
 have A5 := Aside0.mk A50
 clear A50
 by_cases c6 : t359 = true
 ·subst c6
  have H1 : (some (decide ((l3_4.length : Int) ≤ 20))) = some r := by rw [if_pos rfl] at H; exact H
  clear H
  have H := H1
  clear H1
  obtain rfl := Option.some.inj H
  go_enter Try.func36, Try.ntmps36
  go_wp2_with (first | ((with_reducible refine gate_dst (N := 5) rfl ?_); (try (refine gate_guard (by rfl) ?_; dsimp only)); refine bx 5 #[.int .i64 a1_0, .int .i64 a1_1] 24 ?_; intro gb357 hg w7 hbox hb; have BK357 := Aside0.mk (hbox); have GW357 := ge_ hg; have GE357 := ge_ hg; replace HB := hs_ hb; clear hb hbox hg) | ((with_reducible refine gate_dst (N := 7) rfl ?_); (try (refine gate_guard (by rfl) ?_; dsimp only)); refine bx 7 #[.int .i64 a3_0, .int .i64 a3_1, .int .i64 a3_2, .bool a3_3, .slice A3_4 l3_4.length c3_4] 41 ?_; intro gb358 hg w8 hbox hb; have BK358 := Aside0.mk (hbox); have GW358 := ge_ hg; have GE358 := ge_ hg; have NB357_358 := nl_ BK357 hg; have NB358_357 := nr_ BK357 hg; replace BK357 := bk_ BK357 hb; replace HB := hs_ hb; clear hb hbox hg; have hnb9 := NB357_358.out; have hnc9 := NB358_357.out; obtain ⟨hcz10_0, hcz10_1, hfz10_0, hfz10_1⟩ := bz2_ BK357) | ((with_reducible refine gate_callee (f := 26) rfl ?_); refine goesL_ (some 12) rfl rfl Try.func26 (by kernel_rfl) rfl #[.slice A0 l0.length c0, .agg #[.int .i64 a1_0, .int .i64 a1_1], .slice A2 l2.length c2] rfl Z0 ?_; (with_reducible refine (ensembleref12_Few.calls k _ _ l0 a1_0 a1_1 _ _ l2 true _ ?side1 ?side2 ?side3 ?side4 A5.out).mono ?_); (case side1 => exact cs_ HR0); (case side2 => exact HC0.out); (case side3 => exact cs_ HR2); (case side4 => exact HC2.out); rintro e w11 ⟨rfl, hb⟩; refine ⟨_, rfl, ?_⟩; replace BK357 := bk_ BK357 hb; replace BK358 := bk_ BK358 hb; replace HB := hs_ hb; (try clear hb); (try clear hb2); (try clear hk); (try clear hi); obtain ⟨hcz12_0, hcz12_1, hcz12_2, hcz12_3, hcz12_4, hfz12_0, hfz12_1, hfz12_2, hfz12_3, hfz12_4⟩ := bz5_ BK358))
  go_ret
  exact ⟨by first | rfl | (simp [errW_none, errW_some] <;> rfl) | (simp [*, errW_none, errW_some] <;> rfl), hb_⟩
 ·replace c6 := Bool.eq_false_iff.mpr c6
  subst c6
  have H1 : (some false) = some r := by rw [if_neg (show ¬ (false = true) by decide)] at H; exact H
  clear H
  have H := H1
  clear H1
  obtain rfl := Option.some.inj H
  go_enter Try.func36, Try.ntmps36
  go_wp2_with (first | ((with_reducible refine gate_dst (N := 5) rfl ?_); (try (refine gate_guard (by rfl) ?_; dsimp only)); refine bx 5 #[.int .i64 a1_0, .int .i64 a1_1] 24 ?_; intro gb357 hg w13 hbox hb; have BK357 := Aside0.mk (hbox); have GW357 := ge_ hg; have GE357 := ge_ hg; replace HB := hs_ hb; clear hb hbox hg) | ((with_reducible refine gate_dst (N := 7) rfl ?_); (try (refine gate_guard (by rfl) ?_; dsimp only)); refine bx 7 #[.int .i64 a3_0, .int .i64 a3_1, .int .i64 a3_2, .bool a3_3, .slice A3_4 l3_4.length c3_4] 41 ?_; intro gb358 hg w14 hbox hb; have BK358 := Aside0.mk (hbox); have GW358 := ge_ hg; have GE358 := ge_ hg; have NB357_358 := nl_ BK357 hg; have NB358_357 := nr_ BK357 hg; replace BK357 := bk_ BK357 hb; replace HB := hs_ hb; clear hb hbox hg; have hnb15 := NB357_358.out; have hnc15 := NB358_357.out; obtain ⟨hcz16_0, hcz16_1, hfz16_0, hfz16_1⟩ := bz2_ BK357) | ((with_reducible refine gate_callee (f := 26) rfl ?_); refine goesL_ (some 12) rfl rfl Try.func26 (by kernel_rfl) rfl #[.slice A0 l0.length c0, .agg #[.int .i64 a1_0, .int .i64 a1_1], .slice A2 l2.length c2] rfl Z0 ?_; (with_reducible refine (ensembleref12_Few.calls k _ _ l0 a1_0 a1_1 _ _ l2 false _ ?side1 ?side2 ?side3 ?side4 A5.out).mono ?_); (case side1 => exact cs_ HR0); (case side2 => exact HC0.out); (case side3 => exact cs_ HR2); (case side4 => exact HC2.out); rintro e w17 ⟨rfl, hb⟩; refine ⟨_, rfl, ?_⟩; replace BK357 := bk_ BK357 hb; replace BK358 := bk_ BK358 hb; replace HB := hs_ hb; (try clear hb); (try clear hb2); (try clear hk); (try clear hi)))
  go_ret
  exact ⟨by first | rfl | (simp [errW_none, errW_some] <;> rfl) | (simp [*, errW_none, errW_some] <;> rfl), hb_⟩
end Go.Proofs.Ytckhjehibjdjdaa.P
namespace Go.Proofs.Ytckhjehibjdjdaa.P
open Go.RowKit Go.Proofs.YtckhjehibjdjdaaW.PrintWords Go.Proofs.YtckhjehibjdjdaaW.PrintLast Go.Proofs.YtckhjehibjdjdaaW.PrintMore
attribute [local go_sem] max2_int min2_int max_two min_two max_three min_three max_four min_four
set_option linter.unusedVariables false
set_option linter.unusedSimpArgs false
def ensembleref01_Has.l0 : Nat → Int → Int → Int → Option (Bool)
 | 0, _, _, _ => none
 | k + 1, x0, x1, x5 => if x5 < x1 then (ensembleref01_Has.l0 k (IntKind.u64.wrap (Int.tdiv x0 2)) x1 (wrap64 (x5 + 1))) else (if x1 ≥ 0 then (if x1 < 64 then (some ((Int.tmod x0 2) == 1)) else (some false)) else (some false))
def ensembleref01_Has.f (k : Nat) (a0 : Int) (a1 : Int) : Option (Bool) := ensembleref01_Has.l0 k a0 a1 0
set_option maxHeartbeats 8000000 in
set_option maxRecDepth 100000 in
theorem ensembleref01_Has.calls (k : Nat) (a0 : Int) (a1 : Int) (r : Bool) (w : World) (h : ensembleref01_Has.f k a0 a1 = some r) :
  Calls Try.prog 106 #[.int .u64 a0, .int .i64 a1] w fun e w' => e = .returned (.bool r) ∧ Drawn0 w w' := by
 have H : (ensembleref01_Has.l0 k a0 a1 0) = some r := h
 clear h
 have H' := Aside0.mk H
 clear H
 go_enter Try.func106, Try.ntmps106
 go_wp2
 go_loopg [0, 5] k (fun kq v0 v5 w' => ∃ (x0_1 : Int) (x5_1 : Int), v0 = .int .u64 x0_1 ∧ v5 = .int .i64 x5_1 ∧ Aside0 (ensembleref01_Has.l0 kq x0_1 a1 x5_1 = some r) ∧ Aside0 (kq ≤ k) ∧ Drawn0 w w')
 case atStart => exact ⟨(a0), (0), Z6, Z6, H', ⟨Nat.le_refl _⟩, by repeat (first | exact Drawn0.refl _ | apply Drawn0.step)⟩
 case round =>
  clear H'
  try clear c1
  try clear p2
  obtain ⟨x0_1, x5_1, rfl, rfl, HA, HK1, ⟨m1, rfl⟩⟩ := hrel
  cases gk with
  | zero => exact absurd HA.out (by simp [ensembleref01_Has.l0])
  | succ k1 =>
   have H := HA.out
   clear HA
   simp only [ensembleref01_Has.l0] at H
   by_cases c3 : x5_1 < a1
   ·rw [if_pos c3] at H
    have c3b0 : decide (x5_1 < a1) = true := decide_eq_true c3
    clear c3
    have H' := Aside0.mk H
    clear H
    go_wp2
    go_roundg k1
    case measure => have := HK1.out; omega
    case rel => exact ⟨(IntKind.u64.wrap (Int.tdiv x0_1 2)), (wrap64 (x5_1 + 1)), Z6, Z6, H', ⟨by have := HK1.out; omega⟩, by repeat (first | exact Drawn0.refl _ | apply Drawn0.step)⟩
   ·rw [if_neg c3] at H
    have c3b0 : decide (x5_1 < a1) = false := decide_eq_false c3
    clear c3
    by_cases c4 : a1 ≥ 0
    ·rw [if_pos c4] at H
     have c4b0 : decide (0 ≤ a1) = true := decide_eq_true c4
     clear c4
     by_cases c5 : a1 < 64
     ·rw [if_pos c5] at H
      have c5b0 : decide (a1 < 64) = true := decide_eq_true c5
      clear c5
      obtain rfl := Option.some.inj H
      go_wp2
      go_ret
      exact ⟨by first | rfl | (simp; done) | (simp [*]; done), by repeat (first | exact Drawn0.refl _ | apply Drawn0.step)⟩
     ·rw [if_neg c5] at H
      have c5b0 : decide (a1 < 64) = false := decide_eq_false c5
      clear c5
      obtain rfl := Option.some.inj H
      go_wp2
      go_ret
      exact ⟨by first | rfl | (simp; done) | (simp [*]; done), by repeat (first | exact Drawn0.refl _ | apply Drawn0.step)⟩
    ·rw [if_neg c4] at H
     have c4b0 : decide (0 ≤ a1) = false := decide_eq_false c4
     clear c4
     obtain rfl := Option.some.inj H
     go_wp2
     go_ret
     exact ⟨by first | rfl | (simp; done) | (simp [*]; done), by repeat (first | exact Drawn0.refl _ | apply Drawn0.step)⟩
end Go.Proofs.Ytckhjehibjdjdaa.P
namespace Go.Proofs.Ytckhjehibjdjdaa.P
open Go.RowKit Go.Proofs.YtckhjehibjdjdaaW.PrintWords Go.Proofs.YtckhjehibjdjdaaW.PrintLast Go.Proofs.YtckhjehibjdjdaaW.PrintMore
attribute [local go_sem] max2_int min2_int max_two min_two max_three min_three max_four min_four
set_option linter.unusedVariables false
set_option linter.unusedSimpArgs false
def ensembleref01_Units.l0 : Nat → Int → List Int → Int → Option (List Int)
 | 0, _, _, _ => none
 | k + 1, x0, x3, x4 => if x4 < 64 then ((ensembleref01_Has.f k x0 x4).bind fun t134 => (if t134 = true then (if x3.length < 17592186044416 then (ensembleref01_Units.l0 k x0 (x3 ++ [x4]) (wrap64 (x4 + 1))) else (none)) else (ensembleref01_Units.l0 k x0 x3 (wrap64 (x4 + 1))))) else (some x3)
def ensembleref01_Units.f (k : Nat) (a0 : Int) : Option (List Int) := ensembleref01_Units.l0 k a0 ([] : List Int) 0
set_option maxHeartbeats 8000000 in
set_option maxRecDepth 100000 in
theorem ensembleref01_Units.calls (k : Nat) (a0 : Int) (r : List Int) (w : World) (h : ensembleref01_Units.f k a0 = some r) :
  Calls Try.prog 82 #[.int .u64 a0] w fun e w' => ∃ v0_ : Value, e = .returned (v0_) ∧ Kd.R (Kd.int .i64) 3 w' w.heap.size (fun _ => True) v0_ r ∧ Below w.heap.size w w' := by
 have HB := Aside0.mk (Below.refl w.heap.size w)
 have H : (ensembleref01_Units.l0 k a0 ([] : List Int) 0) = some r := h
 clear h
 have H' := Aside0.mk H
 clear H
 go_enter Try.func82, Try.ntmps82
 go_wp2
 go_loopg [3, 4] k (fun kq v3 v4 w' => ∃ (x3_1 : List Int) (x4_1 : Int), v4 = .int .i64 x4_1 ∧ Aside0 (ensembleref01_Units.l0 kq a0 x3_1 x4_1 = some r) ∧ Aside0 (kq ≤ k) ∧ Aside0 (Kd.R (Kd.int .i64) 3 w' w.heap.size (fun _ => True) v3 x3_1) ∧ Aside0 (Below w.heap.size w w'))
 case atStart => exact ⟨(([] : List Int)), (0), Z6, H', ⟨Nat.le_refl _⟩, ⟨by first | exact Kd.R_nil _ _ _ _ _ | exact Kd.N_nil _ _ _ _ _ | exact Kd.V_nil _ _ _ _ _ | exact Kd.Q_nil _ _ _ _ _ | exact Kd.S_nil _ _ _ _ _⟩, ⟨hb_⟩⟩
 case round =>
  clear H'
  obtain ⟨x3_1, x4_1, rfl, HA, HK1, HO_3, HB⟩ := hrel
  cases gk with
  | zero => exact absurd HA.out (by simp [ensembleref01_Units.l0])
  | succ k1 =>
   have H := HA.out
   clear HA
   simp only [ensembleref01_Units.l0] at H
   by_cases c2 : x4_1 < 64
   ·rw [if_pos c2] at H
    have c2b0 : decide (x4_1 < 64) = true := decide_eq_true c2
    clear c2
    replace H := Option.bind_eq_some_iff.mp H
    obtain ⟨t134, A30, H⟩ := H
    replace H : (if t134 = true then (if x3_1.length < 17592186044416 then (ensembleref01_Units.l0 k1 a0 (x3_1 ++ [x4_1]) (wrap64 (x4_1 + 1))) else (none)) else (ensembleref01_Units.l0 k1 a0 x3_1 (wrap64 (x4_1 + 1)))) = some r := H
    have A3 := Aside0.mk A30
    clear A30
    by_cases c4 : t134 = true
    ·subst c4
     have H1 : (if x3_1.length < 17592186044416 then (ensembleref01_Units.l0 k1 a0 (x3_1 ++ [x4_1]) (wrap64 (x4_1 + 1))) else (none)) = some r := by rw [if_pos rfl] at H; exact H
     clear H
     have H := H1
     clear H1
     by_cases c5 : x3_1.length < 17592186044416
     ·rw [if_pos c5] at H
      have LMc5 := Aside0.mk c5
      clear c5
      obtain ⟨y135, hy135⟩ : ∃ y_ : List Int, y_ = (x3_1 ++ [x4_1]) := ⟨_, rfl⟩
      replace H : (ensembleref01_Units.l0 k1 a0 y135 (wrap64 (x4_1 + 1))) = some r := by first | (rw [hy135]; with_reducible exact H) | (have H2_ := (Option.bind_some _ _).symm.trans H; rw [hy135]; with_reducible exact H2_) | (have H2_ := (Option.bind_some _ _).symm.trans H; with_reducible exact H2_) | with_reducible exact H | (rw [hy135]; exact H) | exact H
      have Ny135 := Aside0.mk hy135
      clear hy135
      have H' := Aside0.mk H
      clear H
      go_wp2_with (first | ((with_reducible refine gate_callee (f := 106) rfl ?_); refine goesL_ (some 11) rfl rfl Try.func106 (by kernel_rfl) rfl #[.int .u64 a0, .int .i64 x4_1] rfl Z0 ?_; (with_reducible refine (ensembleref01_Has.calls k1 a0 x4_1 true _ A3.out).mono ?_); rintro e w' ⟨rfl, ⟨nd, rfl⟩⟩; refine ⟨_, rfl, ?_⟩) | ((with_reducible refine gate_builtin (b := .append) (xs := #[.tmp 12, .tmp 14]) rfl ?_); at_builtin; refine Kd.R_append (Kd.int .i64) (w0 := w) w.heap.size rfl (.tmp 12) (.tmp 14) 71 3 (.int .i64 0) 8 rfl Try.underlying71 info3 rfl (by decide) (by omega) u3 x3_1 x4_1 [.int .i64 x4_1] (fun _ => True) (fun _ => False) rfl rfl ?aP (fun _ hk => hk.elim) ?aF ?aO ?aB ?aS ?aL ?_; (case aP => exact rfl); (case aB => exact hb_); (case aF => exact (fun _ _ => trivial)); (case aO => exact (by (with_reducible repeat (first | apply Kd.R_alloc | apply Kd.R_drewN | apply Kd.R_drew)); exact HO_3.out)); (case aS => exact (below_size hb_)); (case aL => have := LMc5.out; omega); intro v136 w6 ho hb hg hat; rw [← Ny135.out] at ho; have HO137 := Aside0.mk (ho); replace HB := Aside0.mk (hb); clear HO_3; clear ho hb hg hat))
      go_roundg k1
      case measure => have := HK1.out; omega
      case rel => exact ⟨(y135), (wrap64 (x4_1 + 1)), Z6, H', ⟨by have := HK1.out; omega⟩, ⟨by (with_reducible repeat (first | apply Kd.R_alloc | apply Kd.R_drewN | apply Kd.R_drew)); exact HO137.out⟩, ⟨hb_⟩⟩
     ·rw [if_neg c5] at H
      exact absurd H (by simp)
    ·replace c4 := Bool.eq_false_iff.mpr c4
     subst c4
     have H1 : (ensembleref01_Units.l0 k1 a0 x3_1 (wrap64 (x4_1 + 1))) = some r := by rw [if_neg (show ¬ (false = true) by decide)] at H; exact H
     clear H
     have H := H1
     clear H1
     have H' := Aside0.mk H
     clear H
     go_wp2_with (first | ((with_reducible refine gate_callee (f := 106) rfl ?_); refine goesL_ (some 11) rfl rfl Try.func106 (by kernel_rfl) rfl #[.int .u64 a0, .int .i64 x4_1] rfl Z0 ?_; (with_reducible refine (ensembleref01_Has.calls k1 a0 x4_1 false _ A3.out).mono ?_); rintro e w' ⟨rfl, ⟨nd, rfl⟩⟩; refine ⟨_, rfl, ?_⟩))
     go_roundg k1
     case measure => have := HK1.out; omega
     case rel => exact ⟨(x3_1), (wrap64 (x4_1 + 1)), Z6, H', ⟨by have := HK1.out; omega⟩, ⟨by (with_reducible repeat (first | apply Kd.R_alloc | apply Kd.R_drewN | apply Kd.R_drew)); exact HO_3.out⟩, ⟨hb_⟩⟩
   ·rw [if_neg c2] at H
    have c2b0 : decide (x4_1 < 64) = false := decide_eq_false c2
    clear c2
    obtain rfl := Option.some.inj H
    go_wp2
    go_ret
    exact ⟨_, by first | rfl | (simp [errW_none, errW_some] <;> rfl) | (simp [*, errW_none, errW_some] <;> rfl), by (with_reducible repeat (first | apply Kd.R_alloc | apply Kd.R_drewN | apply Kd.R_drew)); exact HO_3.out, hb_⟩
end Go.Proofs.Ytckhjehibjdjdaa.P
namespace Go.Proofs.Ytckhjehibjdjdaa.P
open Go.RowKit Go.Proofs.YtckhjehibjdjdaaW.PrintWords Go.Proofs.YtckhjehibjdjdaaW.PrintLast Go.Proofs.YtckhjehibjdjdaaW.PrintMore
attribute [local go_sem] max2_int min2_int max_two min_two max_three min_three max_four min_four
set_option linter.unusedVariables false
set_option linter.unusedSimpArgs false
def ensembleref08_Units.l0 : Nat → List (S52) → Int → Int → Int → Option (Int × Int)
 | 0, _, _, _, _ => none
 | k + 1, x0, x4, x199000, x199001 => if x4 < (x0.length : Int) then (if 0 ≤ x4 then ((ensembleref01_Units.f k ((rd_T52 x0 x4).f1)).bind fun t200 => (ensembleref08_Units.l0 k x0 (wrap64 (x4 + 1)) (wrap64 (x199000 + (t200.length : Int))) (wrap64 (x199001 + ((rd_T52 x0 x4).f2))))) else (none)) else (some (x199000, x199001))
def ensembleref08_Units.f (k : Nat) (l0 : List (S52)) : Option (Int × Int) := ensembleref08_Units.l0 k l0 0 0 0
def ensembleref08_Units.T5 : Bool × List (List Nat × List Nat) := (true, [([], []), ([0], [0]), ([], []), ([], []), ([2, 3], [2, 3]), ([4], [4]), ([5], [5]), ([6], [6]), ([7], [7]), ([1, 8], [1, 8]), ([0, 1, 2, 3, 4, 5, 6, 7, 8, 9], []), ([10, 9, 7, 0, 1, 2, 3, 4, 5, 6, 7, 8, 9], [9, 10])])
def ensembleref08_Units.B5 : List Nat := [0, 1, 0, 0, 12, 28, 60, 124, 252, 511, 1023, 2047]
theorem ensembleref08_Units.tab5 : rtab .any (opsOf Try.f42 5) = ensembleref08_Units.T5 := by kernel_rfl
theorem ensembleref08_Units.bits5 : waitsOk ensembleref08_Units.T5.2 ensembleref08_Units.B5 = true := by kernel_rfl
def ensembleref08_Units.T6 : Bool × List (List Nat × List Nat) := (true, [([], []), ([0], [0]), ([], []), ([], []), ([2, 3], [2, 3]), ([4], [4]), ([5], [5]), ([1, 6], [1, 6]), ([0, 1, 2, 3, 4, 5, 6, 7], []), ([8, 7, 0, 1, 2, 3, 4, 5, 6, 7], [7, 8])])
def ensembleref08_Units.B6 : List Nat := [0, 1, 0, 0, 12, 28, 60, 127, 255, 511]
theorem ensembleref08_Units.tab6 : rtab .any (opsOf Try.f42 6) = ensembleref08_Units.T6 := by kernel_rfl
theorem ensembleref08_Units.bits6 : waitsOk ensembleref08_Units.T6.2 ensembleref08_Units.B6 = true := by kernel_rfl
set_option maxHeartbeats 8000000 in
set_option maxRecDepth 100000 in
theorem ensembleref08_Units.calls (k : Nat) (A0 : Option Addr) (c0 : Nat) (l0 : List (S52)) (r1 : Int) (r2 : Int) (w : World) (hr0 : Kd.C k52 w A0 l0.length l0) (hc0 : l0.length ≤ c0) (h : ensembleref08_Units.f k l0 = some (r1, r2)) :
  Calls Try.prog 42 #[.slice A0 l0.length c0] w fun e w' => e = .returned (.agg #[.int .i64 r1, .int .i64 r2]) ∧ Below w.heap.size w w' := by
 have hu24 := Try.underlying24
 have HR0 := Aside0.mk hr0
 have HC0 := Aside0.mk hc0
 clear hr0 hc0
 have HB := Aside0.mk (Below.refl w.heap.size w)
 have H : (ensembleref08_Units.l0 k l0 0 0 0) = some (r1, r2) := h
 clear h
 have H' := Aside0.mk H
 clear H
 go_enter Try.func42, Try.ntmps42
 go_wp2_with (first | ((with_reducible refine gate_dst (N := 2) rfl ?_); refine bx 2 #[.int .i64 0, .int .i64 0] 24 ?_; intro gb197 hg w2 hbox hb; have BK197 := Aside0.mk (hbox); have GW197 := ge_ hg; have GE197 := ge_ hg; replace HB := hs_ hb; clear hb hbox hg) | ((with_reducible refine gate_dst (N := 3) rfl ?_); refine bx 3 #[.int .i64 0, .int .i64 0] 24 ?_; intro gb198 hg w3 hbox hb; have BK198 := Aside0.mk (hbox); have GW198 := ge_ hg; have GE198 := ge_ hg; have NB197_198 := nl_ BK197 hg; have NB198_197 := nr_ BK197 hg; replace BK197 := bk_ BK197 hb; replace HB := hs_ hb; clear hb hbox hg; have hnb4 := NB198_197.out; have hnc4 := NB197_198.out; obtain ⟨hcz5_0, hcz5_1, hfz5_0, hfz5_1⟩ := bz2_ BK198))
 go_loopg [4] k (fun kq v4 w' => ∃ (x4_1 : Int) (x199000_1 : Int) (x199001_1 : Int), v4 = .int .i64 x4_1 ∧ Aside0 (ensembleref08_Units.l0 kq l0 x4_1 x199000_1 x199001_1 = some (r1, r2)) ∧ Aside0 (kq ≤ k) ∧ Aside0 (w'.heap[gb197]? = some (.cells #[.int .i64 0, .int .i64 0] 24 (0, 0))) ∧ Aside0 (w'.heap[gb198]? = some (.cells #[.int .i64 x199000_1, .int .i64 x199001_1] 24 (0, 0))) ∧ Aside0 (Below w.heap.size w w'))
 case atStart => exact ⟨(0), (0), (0), Z6, H', ⟨Nat.le_refl _⟩, ⟨bs_⟩, ⟨bs_⟩, ⟨hb_⟩⟩
 case round =>
  clear H'
  try clear p2
  try clear c4
  try clear hcz5_0
  try clear hcz5_1
  try clear hfz5_0
  try clear hfz5_1
  obtain ⟨x4_1, x199000_1, x199001_1, rfl, HA, HK1, BK197, BK198, HB⟩ := hrel
  cases gk with
  | zero => exact absurd HA.out (by simp [ensembleref08_Units.l0])
  | succ k1 =>
   have H := HA.out
   clear HA
   simp only [ensembleref08_Units.l0] at H
   by_cases c6 : x4_1 < (l0.length : Int)
   ·rw [if_pos c6] at H
    have c6b0 : decide (x4_1 < (l0.length : Int)) = true := decide_eq_true c6
    clear c6
    by_cases c7 : 0 ≤ x4_1
    ·rw [if_pos c7] at H
     have c7b0 : decide (0 ≤ x4_1) = true := decide_eq_true c7
     clear c7
     replace H := Option.bind_eq_some_iff.mp H
     obtain ⟨t200, A80, H⟩ := H
     replace H : (ensembleref08_Units.l0 k1 l0 (wrap64 (x4_1 + 1)) (wrap64 (x199000_1 + (t200.length : Int))) (wrap64 (x199001_1 + ((rd_T52 l0 x4_1).f2)))) = some (r1, r2) := H
     have A8 := Aside0.mk A80
     clear A80
     have H' := Aside0.mk H
     clear H
     try go_wp2
     replace BK197 := Aside0.mk (blk_drew BK197.out)
     replace BK198 := Aside0.mk (blk_drew BK198.out)
     replace HB := Aside0.mk (below_drew1 HB.out)
     have p199 : 0 ≤ (x4_1 : Int) := of_decide_eq_true Z1
     have q199 : x4_1 < (l0.length : Int) := of_decide_eq_true Z1
     obtain ⟨ad199, e199, hx199_0, hx199_1, hx199_2, hx199_3⟩ := at_T52 HR0.out x4_1 p199 q199
     have hw199_3 := hx199_3
     have hw199_2 := hx199_2
     have hw199_1 := hx199_1
     have hw199_0 := hx199_0
     cases e199
     replace hx199_0 := cx_ hx199_0
     replace hx199_1 := cx_ hx199_1
     replace hx199_2 := cx_ hx199_2
     replace hx199_3 := cx_ hx199_3
     replace p199 := eq_true p199
     replace q199 := eq_true q199
     refine start_ (n := 12) (S := fun w' => w'.cell? ⟨gb198, 0, none⟩ = some (.int .i64 x199000_1) ∧ w'.cell? ⟨gb198, 1, none⟩ = some (.int .i64 x199001_1) ∧ w'.cell? (ad199.add ((x4_1).toNat * 4)) = some (.int .i64 ((rd_T52 l0 x4_1).f0.f0)) ∧ w'.cell? ⟨(ad199.add ((x4_1).toNat * 4)).block, (ad199.add ((x4_1).toNat * 4)).off + 1, none⟩ = some (.int .i64 ((rd_T52 l0 x4_1).f0.f1)) ∧ w'.cell? ⟨(ad199.add ((x4_1).toNat * 4)).block, (ad199.add ((x4_1).toNat * 4)).off + 2, none⟩ = some (.int .u64 ((rd_T52 l0 x4_1).f1)) ∧ w'.cell? ⟨(ad199.add ((x4_1).toNat * 4)).block, (ad199.add ((x4_1).toNat * 4)).off + 3, none⟩ = some (.int .i64 ((rd_T52 l0 x4_1).f2))) (ds := [11]) (bm 12 0) (by kernel_rfl) rfl rfl ⟨(blk_cell BK198.out 0).trans rfl, (blk_cell BK198.out 1).trans rfl, ((HB.out.cell (World.block_lt_of_cell? w _ hw199_0)).trans hw199_0), ((HB.out.cell (World.block_lt_of_cell? w _ hw199_1)).trans hw199_1), ((HB.out.cell (World.block_lt_of_cell? w _ hw199_2)).trans hw199_2), ((HB.out.cell (World.block_lt_of_cell? w _ hw199_3)).trans hw199_3)⟩ (fun hHeld => ?_); refine with_tabW ensembleref08_Units.tab5 ensembleref08_Units.bits5 (fun HT_ HW_ => ?_)
     generalize wr.drew = w9 at BK197 BK198 HB hx199_0 hx199_1 hx199_2 hx199_3 hHeld ⊢
     refine pu 0 (some 12) (bm 12 1) ?_
     refine pu 2 (some 14) (bm 12 5) ?_
     refine pu 3 (some 15) (bm 12 13) ?_
     refine pu 4 (some 16) (bm 12 29) ?_
     refine pu 5 (some 17) (bm 12 61) ?_
     refine tk6 1 (some 13) (bm 12 63) ?_
     refine tk6 6 (some 18) (bm 12 127) ?_
     refine one_ (i := 7) (N := some 19) (bm 12 255) rfl rfl (one_of HT_.out (by kernel_rfl)) (by decide) (fun K hK => ?_)
     refine goes_ Try.func82 (by kernel_rfl) rfl #[.int .u64 ((rd_T52 l0 x4_1).f1)] (by rfl) rfl rfl Z0 ?_
     with_reducible refine (ensembleref01_Units.calls k1 ((rd_T52 l0 x4_1).f1) t200 _ A8.out).mono ?_
     rintro e w10 ⟨v201, rfl, ho0, hb⟩
     refine ⟨_, rfl, ?_⟩
     have HO202 := Aside0.mk (Kd.R_lower ho0 (below_size hb_))
     replace BK197 := bk_ BK197 hb
     replace BK198 := bk_ BK198 hb
     replace HB := hs_ hb
     (try clear hb)
     (try clear hb2)
     (try clear hk)
     (try clear hi)
     (try clear ho0)
     obtain ⟨Ao11, co11, eo11⟩ := Kd.R_slice HO202.out
     (first | subst eo11 | (injection eo11 with f1_ f2_ f3_; have f4_ := f1_.symm; have f5_ := f3_.symm; clear f1_ f2_ f3_; subst f4_; subst f5_))
     refine hK.out _ _ ⟨(blk_cell BK198.out 0).trans rfl, (blk_cell BK198.out 1).trans rfl, ((HB.out.cell (World.block_lt_of_cell? w _ hw199_0)).trans hw199_0), ((HB.out.cell (World.block_lt_of_cell? w _ hw199_1)).trans hw199_1), ((HB.out.cell (World.block_lt_of_cell? w _ hw199_2)).trans hw199_2), ((HB.out.cell (World.block_lt_of_cell? w _ hw199_3)).trans hw199_3)⟩ (fun hHeld => ?_)
     clear hK K
     refine norm_ (a' := ?_) ?_ ?_
     rotate_left
     ·show Act.put _ (some 19) _ = _
      simp only [Act.put, List.setIfInBounds_toArray, List.set_cons_zero, List.set_cons_succ, i64_w, i32_w]
      rfl
     refine pu 8 (some 20) (bm 12 511) ?_
     refine pu 9 (some 21) (bm 12 1023) ?_
     refine pu 10 (some 22) (bm 12 2047) ?_
     refine last_ (i := 11) (N := none) (bm 12 4095) rfl rfl (one_of HT_.out (by kernel_rfl)) (by decide) (fun K hK => ?_)
     have hs12 : w10.cell? ⟨gb198, 0, none⟩ = some (.int .i64 x199000_1) := (blk_cell BK198.out 0).trans rfl
     have hfs12 := blk_frozen BK198.out 0
     have hns12_0 := NB197_198.out
     have hms12_0 := NB198_197.out
     refine skip_ (w1 := ?_) (by rfl) rfl ?_ ?_
     rotate_left
     ·go_simp
      rfl
     refine hK.out _ _ ?_
     clear hK K
     refine done_ (done_of HT_.out (by kernel_rfl)) ?_
     try go_wp2
     have n0_ : Aside0 (Kd.R (Kd.int .i64) 3 (w10.setCell ⟨gb198, 0, none⟩ (.int .i64 (wrap64 (x199000_1 + (t200.length : Int))))) w.heap.size (fun _ => True) (.slice Ao11 t200.length co11) t200) := ⟨by (with_reducible repeat (first | apply Kd.R_alloc | apply Kd.R_drewN | apply Kd.R_drew)); exact Kd.R_mono (Kd.R_far (p := ⟨gb198, 0, none⟩) (Kd.R_types HO202.out BK198.out (by decide)) (fun _ hk => hk.2) (.int .i64 (wrap64 (x199000_1 + (t200.length : Int))))) (fun _ hk => trivial)⟩
     have n1_ : Aside0 ((w10.setCell ⟨gb198, 0, none⟩ (.int .i64 (wrap64 (x199000_1 + (t200.length : Int))))).heap[gb197]? = some (.cells #[.int .i64 0, .int .i64 0] 24 (0, 0))) := ⟨bs_⟩
     have n2_ : Aside0 ((w10.setCell ⟨gb198, 0, none⟩ (.int .i64 (wrap64 (x199000_1 + (t200.length : Int))))).heap[gb198]? = some (.cells #[.int .i64 (wrap64 (x199000_1 + (t200.length : Int))), .int .i64 x199001_1] 24 (0, 0))) := ⟨bs_⟩
     have n3_ : Aside0 (Below w.heap.size w (w10.setCell ⟨gb198, 0, none⟩ (.int .i64 (wrap64 (x199000_1 + (t200.length : Int)))))) := ⟨hb_⟩
     (try clear HO202)
     (try clear BK197)
     (try clear BK198)
     (try clear HB)
     generalize (w10.setCell ⟨gb198, 0, none⟩ (.int .i64 (wrap64 (x199000_1 + (t200.length : Int))))) = w13 at n0_ n1_ n2_ n3_ ⊢
     have HO202 := n0_
     have BK197 := n1_
     have BK198 := n2_
     have HB := n3_
     clear n0_ n1_ n2_ n3_
     replace HO202 := Aside0.mk (Kd.R_drew HO202.out)
     replace BK197 := Aside0.mk (blk_drew BK197.out)
     replace BK198 := Aside0.mk (blk_drew BK198.out)
     replace HB := Aside0.mk (below_drew1 HB.out)
     have p203 : 0 ≤ (x4_1 : Int) := of_decide_eq_true Z1
     have q203 : x4_1 < (l0.length : Int) := of_decide_eq_true Z1
     obtain ⟨ad203, e203, hx203_0, hx203_1, hx203_2, hx203_3⟩ := at_T52 HR0.out x4_1 p203 q203
     have hw203_3 := hx203_3
     have hw203_2 := hx203_2
     have hw203_1 := hx203_1
     have hw203_0 := hx203_0
     obtain rfl : ad199 = ad203 := (by injection e203)
     replace hx203_0 := cx_ hx203_0
     replace hx203_1 := cx_ hx203_1
     replace hx203_2 := cx_ hx203_2
     replace hx203_3 := cx_ hx203_3
     replace p203 := eq_true p203
     replace q203 := eq_true q203
     refine start_ (n := 10) (S := fun w' => w'.cell? ⟨gb198, 0, none⟩ = some (.int .i64 (wrap64 (x199000_1 + (t200.length : Int)))) ∧ w'.cell? ⟨gb198, 1, none⟩ = some (.int .i64 x199001_1) ∧ w'.cell? (ad199.add ((x4_1).toNat * 4)) = some (.int .i64 ((rd_T52 l0 x4_1).f0.f0)) ∧ w'.cell? ⟨(ad199.add ((x4_1).toNat * 4)).block, (ad199.add ((x4_1).toNat * 4)).off + 1, none⟩ = some (.int .i64 ((rd_T52 l0 x4_1).f0.f1)) ∧ w'.cell? ⟨(ad199.add ((x4_1).toNat * 4)).block, (ad199.add ((x4_1).toNat * 4)).off + 2, none⟩ = some (.int .u64 ((rd_T52 l0 x4_1).f1)) ∧ w'.cell? ⟨(ad199.add ((x4_1).toNat * 4)).block, (ad199.add ((x4_1).toNat * 4)).off + 3, none⟩ = some (.int .i64 ((rd_T52 l0 x4_1).f2))) (ds := [9]) (bm 10 0) (by kernel_rfl) rfl rfl ⟨(blk_cell BK198.out 0).trans rfl, (blk_cell BK198.out 1).trans rfl, ((HB.out.cell (World.block_lt_of_cell? w _ hw203_0)).trans hw203_0), ((HB.out.cell (World.block_lt_of_cell? w _ hw203_1)).trans hw203_1), ((HB.out.cell (World.block_lt_of_cell? w _ hw203_2)).trans hw203_2), ((HB.out.cell (World.block_lt_of_cell? w _ hw203_3)).trans hw203_3)⟩ (fun hHeld => ?_); refine with_tabW ensembleref08_Units.tab6 ensembleref08_Units.bits6 (fun HT_ HW_ => ?_)
     generalize w13.drew = w14 at HO202 BK197 BK198 HB hx203_0 hx203_1 hx203_2 hx203_3 hHeld ⊢
     refine pu 0 (some 23) (bm 10 1) ?_
     refine pu 2 (some 25) (bm 10 5) ?_
     refine pu 3 (some 26) (bm 10 13) ?_
     refine pu 4 (some 27) (bm 10 29) ?_
     refine pu 5 (some 28) (bm 10 61) ?_
     refine tk6 1 (some 24) (bm 10 63) ?_
     refine tk6 6 (some 29) (bm 10 127) ?_
     refine pu 7 (some 30) (bm 10 255) ?_
     refine pu 8 (some 31) (bm 10 511) ?_
     refine last_ (i := 9) (N := none) (bm 10 1023) rfl rfl (one_of HT_.out (by kernel_rfl)) (by decide) (fun K hK => ?_)
     have hs15 : w14.cell? ⟨gb198, 1, none⟩ = some (.int .i64 x199001_1) := (blk_cell BK198.out 1).trans rfl
     have hfs15 := blk_frozen BK198.out 1
     have hns15_0 := NB197_198.out
     have hms15_0 := NB198_197.out
     refine skip_ (w1 := ?_) (by rfl) rfl ?_ ?_
     rotate_left
     ·go_simp
      rfl
     refine hK.out _ _ ?_
     clear hK K
     refine done_ (done_of HT_.out (by kernel_rfl)) ?_
     try go_wp2
     go_roundg k1
     case measure => have := HK1.out; omega
     case rel => exact ⟨(wrap64 (x4_1 + 1)), (wrap64 (x199000_1 + (t200.length : Int))), (wrap64 (x199001_1 + ((rd_T52 l0 x4_1).f2))), Z6, H', ⟨by have := HK1.out; omega⟩, ⟨bs_⟩, ⟨bs_⟩, ⟨hb_⟩⟩
    ·rw [if_neg c7] at H
     exact absurd H (by simp)
   ·rw [if_neg c6] at H
    have c6b0 : decide (x4_1 < (l0.length : Int)) = false := decide_eq_false c6
    clear c6
    simp only [Option.some.injEq, Prod.mk.injEq] at H
    obtain ⟨rfl, rfl⟩ := H
    have hnb16 := NB198_197.out
    have hnc16 := NB197_198.out
    obtain ⟨hcz17_0, hcz17_1, hfz17_0, hfz17_1⟩ := bz2_ BK198
    obtain ⟨hcz18_0, hcz18_1, hfz18_0, hfz18_1⟩ := bz2_ BK197
    go_wp2
    refine bodyPost_ret (results_cell_row rfl _ _ gb197 24 #[.int .i64 x199000_1, .int .i64 x199001_1] (0, 0) _ rfl (by (with_reducible repeat (first | refine blk_drewN ?_ _ | refine blk_drew ?_ | refine blk_alloc ?_ _)); refine blk_put (cs := #[.int .i64 x199000_1, .int .i64 0]) ?_ 1 _ rfl; (with_reducible repeat (first | refine blk_drewN ?_ _ | refine blk_drew ?_ | refine blk_alloc ?_ _)); refine blk_put (cs := #[.int .i64 0, .int .i64 0]) ?_ 0 _ rfl; (with_reducible repeat (first | refine blk_drewN ?_ _ | refine blk_drew ?_ | refine blk_alloc ?_ _)); exact BK197.out) Try.underlying24 rfl (by kernel_rfl)) rfl ?_
    exact ⟨by first | rfl | (simp [errW_none, errW_some] <;> rfl) | (simp [*, errW_none, errW_some] <;> rfl), hb_⟩
end Go.Proofs.Ytckhjehibjdjdaa.P
namespace Go.Proofs.Ytckhjehibjdjdaa.P
open Go.RowKit Go.Proofs.YtckhjehibjdjdaaW.PrintWords Go.Proofs.YtckhjehibjdjdaaW.PrintLast Go.Proofs.YtckhjehibjdjdaaW.PrintMore
attribute [local go_sem] max2_int min2_int max_two min_two max_three min_three max_four min_four
set_option linter.unusedVariables false
set_option linter.unusedSimpArgs false
def ensembleref05_masks.l0 : Nat → Int → Int → List Int → Int → Option (Int)
 | 0, _, _, _, _ => none
 | k + 1, x1, x5, x6, x7 => if x7 < (x6.length : Int) then (if 0 ≤ x7 then ((ensembleref01_Has.f k x1 (rd x6 x7)).bind fun t180 => (if t180 = true then (ensembleref05_masks.l0 k x1 (wrap64 (x5 + 1)) x6 (wrap64 (x7 + 1))) else (ensembleref05_masks.l0 k x1 x5 x6 (wrap64 (x7 + 1))))) else (none)) else (some x5)
def ensembleref05_masks.f (k : Nat) (a0 : Int) (a1 : Int) : Option (Int) := (ensembleref01_Units.f k a0).bind fun t176 => (ensembleref05_masks.l0 k a1 0 t176 0)
set_option maxHeartbeats 8000000 in
set_option maxRecDepth 100000 in
theorem ensembleref05_masks.calls (k : Nat) (a0 : Int) (a1 : Int) (r : Int) (w : World) (h : ensembleref05_masks.f k a0 a1 = some r) :
  Calls Try.prog 80 #[.int .u64 a0, .int .u64 a1] w fun e w' => e = .returned (.int .i64 r) ∧ Below w.heap.size w w' := by
 have HB := Aside0.mk (Below.refl w.heap.size w)
 have H : ((ensembleref01_Units.f k a0).bind fun t176 => (ensembleref05_masks.l0 k a1 0 t176 0)) = some r := h
 clear h
 replace H := Option.bind_eq_some_iff.mp H
 obtain ⟨t176, A30, H⟩ := H
 replace H : (ensembleref05_masks.l0 k a1 0 t176 0) = some r := H
 have A3 := Aside0.mk A30
 clear A30
 have H' := Aside0.mk H
 clear H
 go_enter Try.func80, Try.ntmps80
 go_wp2_with (first | ((with_reducible refine gate_callee (f := 82) rfl ?_); refine goesL_ (some 9) rfl rfl Try.func82 (by kernel_rfl) rfl #[.int .u64 a0] rfl Z0 ?_; (with_reducible refine (ensembleref01_Units.calls k a0 t176 _ A3.out).mono ?_); rintro e w4 ⟨v177, rfl, ho0, hb⟩; refine ⟨_, rfl, ?_⟩; have HO178 := Aside0.mk (Kd.R_lower ho0 (below_size hb_)); replace HB := hs_ hb; (try clear hb); (try clear hb2); (try clear hk); (try clear hi); (try clear ho0)))
 go_loopg [5, 7] k (fun kq v5 v7 w' => ∃ (x5_1 : Int) (x7_1 : Int), v5 = .int .i64 x5_1 ∧ v7 = .int .i64 x7_1 ∧ Aside0 (ensembleref05_masks.l0 kq a1 x5_1 t176 x7_1 = some r) ∧ Aside0 (kq ≤ k) ∧ Aside0 (Kd.R (Kd.int .i64) 3 w' w.heap.size (fun _ => True) v177 t176) ∧ Aside0 (Below w.heap.size w w'))
 case atStart => exact ⟨(0), (0), Z6, Z6, H', ⟨Nat.le_refl _⟩, ⟨by (with_reducible repeat (first | apply Kd.R_alloc | apply Kd.R_drewN | apply Kd.R_drew)); exact HO178.out⟩, ⟨hb_⟩⟩
 case round =>
  clear H'
  try clear p2
  obtain ⟨x5_1, x7_1, rfl, rfl, HA, HK1, HO_6, HB⟩ := hrel
  cases gk with
  | zero => exact absurd HA.out (by simp [ensembleref05_masks.l0])
  | succ k1 =>
   have H := HA.out
   clear HA
   simp only [ensembleref05_masks.l0] at H
   by_cases c5 : x7_1 < (t176.length : Int)
   ·rw [if_pos c5] at H
    have c5b0 : decide (x7_1 < (t176.length : Int)) = true := decide_eq_true c5
    clear c5
    by_cases c6 : 0 ≤ x7_1
    ·rw [if_pos c6] at H
     have c6b0 : decide (0 ≤ x7_1) = true := decide_eq_true c6
     clear c6
     replace H := Option.bind_eq_some_iff.mp H
     obtain ⟨t180, A70, H⟩ := H
     replace H : (if t180 = true then (ensembleref05_masks.l0 k1 a1 (wrap64 (x5_1 + 1)) t176 (wrap64 (x7_1 + 1))) else (ensembleref05_masks.l0 k1 a1 x5_1 t176 (wrap64 (x7_1 + 1)))) = some r := H
     have A7 := Aside0.mk A70
     clear A70
     by_cases c8 : t180 = true
     ·subst c8
      have H1 : (ensembleref05_masks.l0 k1 a1 (wrap64 (x5_1 + 1)) t176 (wrap64 (x7_1 + 1))) = some r := by rw [if_pos rfl] at H; exact H
      clear H
      have H := H1
      clear H1
      have H' := Aside0.mk H
      clear H
      obtain ⟨Ao9, co9, eo9⟩ := Kd.R_slice HO_6.out
      subst eo9
      have p179 : 0 ≤ (x7_1 : Int) := of_decide_eq_true Z1
      have q179 : x7_1 < (t176.length : Int) := of_decide_eq_true Z1
      obtain ⟨ad179, e179, hx179_0⟩ := Kd.at_int (Kd.R_reads' HO_6.out).2.2 x7_1 p179 q179
      cases e179
      replace p179 := eq_true p179
      replace q179 := eq_true q179
      go_wp2_with (first | ((with_reducible refine gate_callee (f := 106) rfl ?_); refine goesL_ (some 21) rfl rfl Try.func106 (by kernel_rfl) rfl #[.int .u64 a1, .int .i64 (rd t176 x7_1)] rfl Z0 ?_; (with_reducible refine (ensembleref01_Has.calls k1 a1 (rd t176 x7_1) true _ A7.out).mono ?_); rintro e w' ⟨rfl, ⟨nd, rfl⟩⟩; refine ⟨_, rfl, ?_⟩))
      go_roundg k1
      case measure => have := HK1.out; omega
      case rel => exact ⟨(wrap64 (x5_1 + 1)), (wrap64 (x7_1 + 1)), Z6, Z6, H', ⟨by have := HK1.out; omega⟩, ⟨by (with_reducible repeat (first | apply Kd.R_alloc | apply Kd.R_drewN | apply Kd.R_drew)); exact HO_6.out⟩, ⟨hb_⟩⟩
     ·replace c8 := Bool.eq_false_iff.mpr c8
      subst c8
      have H1 : (ensembleref05_masks.l0 k1 a1 x5_1 t176 (wrap64 (x7_1 + 1))) = some r := by rw [if_neg (show ¬ (false = true) by decide)] at H; exact H
      clear H
      have H := H1
      clear H1
      have H' := Aside0.mk H
      clear H
      obtain ⟨Ao10, co10, eo10⟩ := Kd.R_slice HO_6.out
      subst eo10
      have p179 : 0 ≤ (x7_1 : Int) := of_decide_eq_true Z1
      have q179 : x7_1 < (t176.length : Int) := of_decide_eq_true Z1
      obtain ⟨ad179, e179, hx179_0⟩ := Kd.at_int (Kd.R_reads' HO_6.out).2.2 x7_1 p179 q179
      cases e179
      replace p179 := eq_true p179
      replace q179 := eq_true q179
      go_wp2_with (first | ((with_reducible refine gate_callee (f := 106) rfl ?_); refine goesL_ (some 21) rfl rfl Try.func106 (by kernel_rfl) rfl #[.int .u64 a1, .int .i64 (rd t176 x7_1)] rfl Z0 ?_; (with_reducible refine (ensembleref01_Has.calls k1 a1 (rd t176 x7_1) false _ A7.out).mono ?_); rintro e w' ⟨rfl, ⟨nd, rfl⟩⟩; refine ⟨_, rfl, ?_⟩))
      go_roundg k1
      case measure => have := HK1.out; omega
      case rel => exact ⟨(x5_1), (wrap64 (x7_1 + 1)), Z6, Z6, H', ⟨by have := HK1.out; omega⟩, ⟨by (with_reducible repeat (first | apply Kd.R_alloc | apply Kd.R_drewN | apply Kd.R_drew)); exact HO_6.out⟩, ⟨hb_⟩⟩
    ·rw [if_neg c6] at H
     exact absurd H (by simp)
   ·rw [if_neg c5] at H
    have c5b0 : decide (x7_1 < (t176.length : Int)) = false := decide_eq_false c5
    clear c5
    obtain rfl := Option.some.inj H
    obtain ⟨Ao11, co11, eo11⟩ := Kd.R_slice HO_6.out
    subst eo11
    go_wp2
    go_ret
    exact ⟨by first | rfl | (simp [errW_none, errW_some] <;> rfl) | (simp [*, errW_none, errW_some] <;> rfl), hb_⟩
end Go.Proofs.Ytckhjehibjdjdaa.P
namespace Go.Proofs.Ytckhjehibjdjdaa.P
open Go.RowKit Go.Proofs.YtckhjehibjdjdaaW.PrintWords Go.Proofs.YtckhjehibjdjdaaW.PrintLast Go.Proofs.YtckhjehibjdjdaaW.PrintMore
attribute [local go_sem] max2_int min2_int max_two min_two max_three min_three max_four min_four
set_option linter.unusedVariables false
set_option linter.unusedSimpArgs false
def ensembleref05_More.l0 : Nat → List (S52) → List (S51) → Int → Option ((List (S51)) × Int)
 | 0, _, _, _ => none
 | k + 1, x1, x6, x7 => if x7 < (x1.length : Int) then (if 0 ≤ x7 then (if ((rd_T52 x1 x7).f2) < 0 then (some (([] : List (S51)), 1)) else ((ensembleref05_find.f k x6 ((rd_T52 x1 x7).f0.f0) ((rd_T52 x1 x7).f0.f1)).bind fun t189 => (if t189 < 0 then (some (([] : List (S51)), 3)) else (if 0 ≤ t189 then (if t189 < (x6.length : Int) then ((ensembleref05_masks.f k ((rd_T52 x1 x7).f1) ((rd_T51 x6 t189).f1)).bind fun t191 => (if t191 > 0 then (some (([] : List (S51)), 4)) else (if ((rd_T52 x1 x7).f2) > (wrap64 (1048576 - ((rd_T51 x6 t189).f2))) then (some (([] : List (S51)), 14)) else ((some (x6.set (t189 : Int).toNat (⟨(⟨(rd_T51 x6 t189).f0.f0, (rd_T51 x6 t189).f0.f1⟩ : S48), IntKind.u64.wrap (((rd_T51 x6 t189).f1) + ((rd_T52 x1 x7).f1)), (rd_T51 x6 t189).f2⟩ : S51) : List (S51))).bind fun y194 => (ensembleref05_More.l0 k x1 (y194.set (t189 : Int).toNat (⟨(⟨(rd_T51 y194 t189).f0.f0, (rd_T51 y194 t189).f0.f1⟩ : S48), (rd_T51 y194 t189).f1, wrap64 (((rd_T51 y194 t189).f2) + ((rd_T52 x1 x7).f2))⟩ : S51)) (wrap64 (x7 + 1))))))) else (none)) else (none))))) else (none)) else (some (x6, 0))
def ensembleref05_More.f (k : Nat) (l0 : List (S51)) (l1 : List (S52)) : Option ((List (S51)) × Int) := (some (([] : List (S51)) : List (S51))).bind fun y181 => (if y181.length + l0.length < 4398046511104 then (ensembleref05_More.l0 k l1 (y181 ++ l0) 0) else (none))
def ensembleref05_More.T11 : Bool × List (List Nat × List Nat) := (true, [([], []), ([0], [0]), ([], []), ([], []), ([2, 3], [2, 3]), ([4], [4]), ([5], [5]), ([1, 6], [1, 6]), ([7], [7])])
def ensembleref05_More.B11 : List Nat := [0, 1, 0, 0, 12, 28, 60, 127, 255]
theorem ensembleref05_More.tab11 : rtab .any (opsOf Try.f32 11) = ensembleref05_More.T11 := by kernel_rfl
theorem ensembleref05_More.bits11 : waitsOk ensembleref05_More.T11.2 ensembleref05_More.B11 = true := by kernel_rfl
def ensembleref05_More.T13 : Bool × List (List Nat × List Nat) := (true, [([], []), ([0], [0]), ([], []), ([], []), ([2, 3], [2, 3]), ([4], [4]), ([5], [5]), ([6], [6]), ([1, 7], [1, 7])])
def ensembleref05_More.B13 : List Nat := [0, 1, 0, 0, 12, 28, 60, 124, 255]
theorem ensembleref05_More.tab13 : rtab .any (opsOf Try.f32 13) = ensembleref05_More.T13 := by kernel_rfl
theorem ensembleref05_More.bits13 : waitsOk ensembleref05_More.T13.2 ensembleref05_More.B13 = true := by kernel_rfl
def ensembleref05_More.T15 : Bool × List (List Nat × List Nat) := (true, [([], []), ([], []), ([], []), ([], []), ([2, 3], [2, 3]), ([4], [4]), ([5], [5]), ([], []), ([7], [7]), ([6, 8], [6, 8]), ([0, 1, 0, 1, 2, 3, 4, 5, 6, 7, 8, 9], [0, 1]), ([10, 0, 1, 2, 3, 4, 5, 6, 7, 8, 9], [10]), ([11, 9, 0, 1, 2, 3, 4, 5, 6, 7, 8, 9], [9, 11])])
def ensembleref05_More.B15 : List Nat := [0, 0, 0, 0, 12, 28, 60, 0, 128, 508, 1023, 2047, 4095]
theorem ensembleref05_More.tab15 : rtab .any (opsOf Try.f32 15) = ensembleref05_More.T15 := by kernel_rfl
theorem ensembleref05_More.bits15 : waitsOk ensembleref05_More.T15.2 ensembleref05_More.B15 = true := by kernel_rfl
def ensembleref05_More.T16 : Bool × List (List Nat × List Nat) := (true, [([], []), ([], []), ([], []), ([], []), ([2, 3], [2, 3]), ([4], [4]), ([5], [5]), ([], []), ([7], [7]), ([6, 8], [6, 8]), ([0, 1, 0, 1, 2, 3, 4, 5, 6, 7, 8, 9], [0, 1]), ([10, 0, 1, 2, 3, 4, 5, 6, 7, 8, 9], [10]), ([11, 9, 0, 1, 2, 3, 4, 5, 6, 7, 8, 9], [9, 11])])
def ensembleref05_More.B16 : List Nat := [0, 0, 0, 0, 12, 28, 60, 0, 128, 508, 1023, 2047, 4095]
theorem ensembleref05_More.tab16 : rtab .any (opsOf Try.f32 16) = ensembleref05_More.T16 := by kernel_rfl
theorem ensembleref05_More.bits16 : waitsOk ensembleref05_More.T16.2 ensembleref05_More.B16 = true := by kernel_rfl
set_option maxHeartbeats 8000000 in
set_option maxRecDepth 100000 in
theorem ensembleref05_More.calls (k : Nat) (A0 : Option Addr) (c0 : Nat) (l0 : List (S51)) (A1 : Option Addr) (c1 : Nat) (l1 : List (S52)) (r1 : List (S51)) (r2 : Int) (w : World) (hr0 : Kd.C k51 w A0 l0.length l0) (hc0 : l0.length ≤ c0) (hr1 : Kd.C k52 w A1 l1.length l1) (hc1 : l1.length ≤ c1) (h : ensembleref05_More.f k l0 l1 = some (r1, r2)) :
  Calls Try.prog 32 #[.slice A0 l0.length c0, .slice A1 l1.length c1] w fun e w' => ∃ v0_ : Value, e = .returned (.tuple #[v0_, .int .i64 r2]) ∧ Kd.R k51 51 w' w.heap.size (fun _ => True) v0_ r1 ∧ Below w.heap.size w w' := by
 have hu52 := Try.underlying52
 have hu48 := Try.underlying48
 have HR0 := Aside0.mk hr0
 have HC0 := Aside0.mk hc0
 clear hr0 hc0
 have HR1 := Aside0.mk hr1
 have HC1 := Aside0.mk hc1
 clear hr1 hc1
 have HB := Aside0.mk (Below.refl w.heap.size w)
 have H : ((some (([] : List (S51)) : List (S51))).bind fun y181 => (if y181.length + l0.length < 4398046511104 then (ensembleref05_More.l0 k l1 (y181 ++ l0) 0) else (none))) = some (r1, r2) := h
 clear h
 obtain ⟨y181, hy181⟩ : ∃ y_ : List (S51), y_ = (([] : List (S51))) := ⟨_, rfl⟩
 replace H : (if y181.length + l0.length < 4398046511104 then (ensembleref05_More.l0 k l1 (y181 ++ l0) 0) else (none)) = some (r1, r2) := by first | (rw [hy181]; with_reducible exact H) | (have H2_ := (Option.bind_some _ _).symm.trans H; rw [hy181]; with_reducible exact H2_) | (have H2_ := (Option.bind_some _ _).symm.trans H; with_reducible exact H2_) | with_reducible exact H | (rw [hy181]; exact H) | exact H
 have Ny181 := Aside0.mk hy181
 clear hy181
 by_cases c3 : y181.length + l0.length < 4398046511104
 ·rw [if_pos c3] at H
  have LMc3 := Aside0.mk c3
  clear c3
  obtain ⟨y184, hy184⟩ : ∃ y_ : List (S51), y_ = (y181 ++ l0) := ⟨_, rfl⟩
  replace H : (ensembleref05_More.l0 k l1 y184 0) = some (r1, r2) := by first | (rw [hy184]; with_reducible exact H) | (have H2_ := (Option.bind_some _ _).symm.trans H; rw [hy184]; with_reducible exact H2_) | (have H2_ := (Option.bind_some _ _).symm.trans H; with_reducible exact H2_) | with_reducible exact H | (rw [hy184]; exact H) | exact H
  have Ny184 := Aside0.mk hy184
  clear hy184
  have H' := Aside0.mk H
  clear H
  go_enter Try.func32, Try.ntmps32
  go_wp2_with (first | ((with_reducible refine gate_dst (N := 10) rfl ?_); refine Kd.R_lit k51 _ 51 ?hg (N := 10) ?hd (xs := ([] : List (S51))) (inner := []) (ok := fun _ => True) (okp := fun _ => True) ?hr ?hp (fun _ hk => hk) trivial (Below.refl _ _) (Nat.le_refl _) (by simp) ?_; (case hd => rfl); (case hg => rfl); (case hr => first | (go_simp; done) | (go_simp; rfl)); (case hp => exact (Reps.none _ _)); intro v182 w4 ho5 hb hg_ hnew_; clear hg_ hnew_; (first | rw [← Ny181.out] at ho5 | (simp only [Int.reduceToNat] at ho5; rw [← Ny181.out] at ho5)); have HO183 := Aside0.mk (Kd.R_lower ho5 (below_size hb_)); replace HB := hs_ hb; clear hb ho5) | ((with_reducible refine gate_builtin (b := .append) (xs := #[.tmp 10, .tmp 11]) rfl ?_); at_builtin; refine Kd.R_append_rows k51 (w0 := w) w.heap.size rfl (.tmp 10) (.tmp 11) 22 51 (.agg #[(.int .i64 0), (.int .i64 0), (.int .u64 0), (.int .i64 0)]) 32 rfl Try.underlying22 info51 rfl (by decide) (by omega) v182 y181 l0 _ _ _ (fun _ => True) (fun _ => False) rfl rfl ?aO ?aR (fun _ _ h => h) (fun _ h => h.elim) ?aF ?aB ?aS ?aL ?_; (case aR => repeat (first | exact (Kd.C_below HR0.out HB.out) | (with_reducible refine Kd.C_alloc ?_ _) | (with_reducible refine Kd.C_drewN ?_ _) | (with_reducible refine Kd.C_drew ?_))); (case aB => exact hb_); (case aF => exact (fun _ _ => trivial)); (case aO => exact (by (with_reducible repeat (first | apply Kd.R_alloc | apply Kd.R_drewN | apply Kd.R_drew)); exact HO183.out)); (case aS => exact (below_size hb_)); (case aL => have := LMc3.out; omega); intro v185 w6 ho hb hg hat; rw [← Ny184.out] at ho; have HO186 := Aside0.mk (ho); replace HB := Aside0.mk (hb); clear HO183; clear ho hb hg hat))
  go_loopg [7] k (fun kq v7 w' => ∃ (x6_1 : List (S51)) (x7_1 : Int), v7 = .int .i64 x7_1 ∧ Aside0 (ensembleref05_More.l0 kq l1 x6_1 x7_1 = some (r1, r2)) ∧ Aside0 (kq ≤ k) ∧ Aside0 (Kd.R k51 51 w' w.heap.size (fun _ => True) v185 x6_1) ∧ Aside0 (Below w.heap.size w w'))
  case atStart => exact ⟨(y184), (0), Z6, H', ⟨Nat.le_refl _⟩, ⟨by (with_reducible repeat (first | apply Kd.R_alloc | apply Kd.R_drewN | apply Kd.R_drew)); exact HO186.out⟩, ⟨hb_⟩⟩
  case round =>
   clear H'
   try clear c1
   try clear p2
   try clear c3
   obtain ⟨x6_1, x7_1, rfl, HA, HK1, HO_6, HB⟩ := hrel
   cases gk with
   | zero => exact absurd HA.out (by simp [ensembleref05_More.l0])
   | succ k1 =>
    have H := HA.out
    clear HA
    simp only [ensembleref05_More.l0] at H
    by_cases c7 : x7_1 < (l1.length : Int)
    ·rw [if_pos c7] at H
     have c7b0 : decide (x7_1 < (l1.length : Int)) = true := decide_eq_true c7
     clear c7
     by_cases c8 : 0 ≤ x7_1
     ·rw [if_pos c8] at H
      have c8b0 : decide (0 ≤ x7_1) = true := decide_eq_true c8
      clear c8
      by_cases c9 : ((rd_T52 l1 x7_1).f2) < 0
      ·rw [if_pos c9] at H
       have c9b0 : decide (((rd_T52 l1 x7_1).f2) < 0) = true := decide_eq_true c9
       clear c9
       simp only [Option.some.injEq, Prod.mk.injEq] at H
       obtain ⟨rfl, rfl⟩ := H
       have p187 : 0 ≤ (x7_1 : Int) := of_decide_eq_true Z1
       have q187 : x7_1 < (l1.length : Int) := of_decide_eq_true Z1
       obtain ⟨ad187, e187, hx187_0, hx187_1, hx187_2, hx187_3⟩ := at_T52 HR1.out x7_1 p187 q187
       cases e187
       replace hx187_0 := cx_ hx187_0
       replace hx187_1 := cx_ hx187_1
       replace hx187_2 := cx_ hx187_2
       replace hx187_3 := cx_ hx187_3
       replace p187 := eq_true p187
       replace q187 := eq_true q187
       go_wp2_with (first | ((with_reducible refine gate_dst (N := 8) rfl ?_); refine bx 8 #[.int .i64 0, .int .i64 0, .int .u64 0, .int .i64 0] 52 ?_; intro gb188 hg w10 hbox hb; have BK188 := Aside0.mk (hbox); have GW188 := ge_ hg; have GE188 := ge_ hg; replace HO_6 := Aside0.mk (Kd.R_below Z9 hb); replace HB := hs_ hb; clear hb hbox hg; obtain ⟨hcz11_0, hcz11_1, hcz11_2, hcz11_3, hfz11_0, hfz11_1, hfz11_2, hfz11_3⟩ := bz4_ BK188))
       go_ret2
       exact ⟨_, by first | rfl | (simp [errW_none, errW_some] <;> rfl) | (simp [*, errW_none, errW_some] <;> rfl), by first | exact Kd.R_nil _ _ _ _ _ | exact Kd.N_nil _ _ _ _ _ | exact Kd.V_nil _ _ _ _ _ | exact Kd.Q_nil _ _ _ _ _ | exact Kd.S_nil _ _ _ _ _, hb_⟩
      ·rw [if_neg c9] at H
       have c9b0 : decide (((rd_T52 l1 x7_1).f2) < 0) = false := decide_eq_false c9
       clear c9
       replace H := Option.bind_eq_some_iff.mp H
       obtain ⟨t189, A120, H⟩ := H
       replace H : (if t189 < 0 then (some (([] : List (S51)), 3)) else (if 0 ≤ t189 then (if t189 < (x6_1.length : Int) then ((ensembleref05_masks.f k1 ((rd_T52 l1 x7_1).f1) ((rd_T51 x6_1 t189).f1)).bind fun t191 => (if t191 > 0 then (some (([] : List (S51)), 4)) else (if ((rd_T52 l1 x7_1).f2) > (wrap64 (1048576 - ((rd_T51 x6_1 t189).f2))) then (some (([] : List (S51)), 14)) else ((some (x6_1.set (t189 : Int).toNat (⟨(⟨(rd_T51 x6_1 t189).f0.f0, (rd_T51 x6_1 t189).f0.f1⟩ : S48), IntKind.u64.wrap (((rd_T51 x6_1 t189).f1) + ((rd_T52 l1 x7_1).f1)), (rd_T51 x6_1 t189).f2⟩ : S51) : List (S51))).bind fun y194 => (ensembleref05_More.l0 k1 l1 (y194.set (t189 : Int).toNat (⟨(⟨(rd_T51 y194 t189).f0.f0, (rd_T51 y194 t189).f0.f1⟩ : S48), (rd_T51 y194 t189).f1, wrap64 (((rd_T51 y194 t189).f2) + ((rd_T52 l1 x7_1).f2))⟩ : S51)) (wrap64 (x7_1 + 1))))))) else (none)) else (none))) = some (r1, r2) := H
       have A12 := Aside0.mk A120
       clear A120
       by_cases c13 : t189 < 0
       ·rw [if_pos c13] at H
        have c13b0 : decide (t189 < 0) = true := decide_eq_true c13
        clear c13
        simp only [Option.some.injEq, Prod.mk.injEq] at H
        obtain ⟨rfl, rfl⟩ := H
        have p187 : 0 ≤ (x7_1 : Int) := of_decide_eq_true Z1
        have q187 : x7_1 < (l1.length : Int) := of_decide_eq_true Z1
        obtain ⟨ad187, e187, hx187_0, hx187_1, hx187_2, hx187_3⟩ := at_T52 HR1.out x7_1 p187 q187
        cases e187
        replace hx187_0 := cx_ hx187_0
        replace hx187_1 := cx_ hx187_1
        replace hx187_2 := cx_ hx187_2
        replace hx187_3 := cx_ hx187_3
        replace p187 := eq_true p187
        replace q187 := eq_true q187
        go_wp2_with (first | ((with_reducible refine gate_dst (N := 8) rfl ?_); refine bx 8 #[.int .i64 0, .int .i64 0, .int .u64 0, .int .i64 0] 52 ?_; intro gb188 hg w14 hbox hb; have BK188 := Aside0.mk (hbox); have GW188 := ge_ hg; have GE188 := ge_ hg; replace HO_6 := Aside0.mk (Kd.R_below Z9 hb); replace HB := hs_ hb; clear hb hbox hg; obtain ⟨hcz15_0, hcz15_1, hcz15_2, hcz15_3, hfz15_0, hfz15_1, hfz15_2, hfz15_3⟩ := bz4_ BK188; obtain ⟨Ao16, co16, eo16⟩ := Kd.R_slice HO_6.out; subst eo16) | ((with_reducible refine gate_callee (f := 79) rfl ?_); refine goesL_ (some 29) rfl rfl Try.func79 (by kernel_rfl) rfl #[.slice Ao16 x6_1.length co16, .agg #[.int .i64 ((rd_T52 l1 x7_1).f0.f0), .int .i64 ((rd_T52 l1 x7_1).f0.f1)]] rfl Z0 ?_; (with_reducible refine (ensembleref05_find.calls k1 _ _ x6_1 ((rd_T52 l1 x7_1).f0.f0) ((rd_T52 l1 x7_1).f0.f1) t189 _ ?side1 ?side2 A12.out).mono ?_); (case side1 => refine (Kd.R_reads' (e := 51) (base := w.heap.size) (ok := fun k_ => True) (n := x6_1.length) (c := co16) ?_).2.2; exact Z5); (case side2 => exact (Kd.R_reads' HO_6.out).2.1); rintro e w17 ⟨rfl, hb⟩; refine ⟨_, rfl, ?_⟩; replace HO_6 := Aside0.mk (Kd.R_below Z5 hb); replace BK188 := Aside0.mk (blk_below (g := gb188) (o := .cells #[.int .i64 ((rd_T52 l1 x7_1).f0.f0), .int .i64 ((rd_T52 l1 x7_1).f0.f1), .int .u64 ((rd_T52 l1 x7_1).f1), .int .i64 ((rd_T52 l1 x7_1).f2)] 52 (0, 0)) (by (with_reducible repeat (first | refine blk_drewN ?_ _ | refine blk_drew ?_ | refine blk_alloc ?_ _)); refine blk_put (cs := #[.int .i64 ((rd_T52 l1 x7_1).f0.f0), .int .i64 ((rd_T52 l1 x7_1).f0.f1), .int .u64 ((rd_T52 l1 x7_1).f1), .int .i64 0]) ?_ 3 _ rfl; (with_reducible repeat (first | refine blk_drewN ?_ _ | refine blk_drew ?_ | refine blk_alloc ?_ _)); refine blk_put (cs := #[.int .i64 ((rd_T52 l1 x7_1).f0.f0), .int .i64 ((rd_T52 l1 x7_1).f0.f1), .int .u64 0, .int .i64 0]) ?_ 2 _ rfl; (with_reducible repeat (first | refine blk_drewN ?_ _ | refine blk_drew ?_ | refine blk_alloc ?_ _)); refine blk_put (cs := #[.int .i64 ((rd_T52 l1 x7_1).f0.f0), .int .i64 0, .int .u64 0, .int .i64 0]) ?_ 1 _ rfl; (with_reducible repeat (first | refine blk_drewN ?_ _ | refine blk_drew ?_ | refine blk_alloc ?_ _)); refine blk_put (cs := #[.int .i64 0, .int .i64 0, .int .u64 0, .int .i64 0]) ?_ 0 _ rfl; (with_reducible repeat (first | refine blk_drewN ?_ _ | refine blk_drew ?_ | refine blk_alloc ?_ _)); exact BK188.out) hb); replace HB := hs_ hb; (try clear hb); (try clear hb2); (try clear hk); (try clear hi)))
        go_ret2
        exact ⟨_, by first | rfl | (simp [errW_none, errW_some] <;> rfl) | (simp [*, errW_none, errW_some] <;> rfl), by first | exact Kd.R_nil _ _ _ _ _ | exact Kd.N_nil _ _ _ _ _ | exact Kd.V_nil _ _ _ _ _ | exact Kd.Q_nil _ _ _ _ _ | exact Kd.S_nil _ _ _ _ _, hb_⟩
       ·rw [if_neg c13] at H
        have c13b0 : decide (t189 < 0) = false := decide_eq_false c13
        clear c13
        by_cases c18 : 0 ≤ t189
        ·rw [if_pos c18] at H
         have c18b0 : decide (0 ≤ t189) = true := decide_eq_true c18
         clear c18
         by_cases c19 : t189 < (x6_1.length : Int)
         ·rw [if_pos c19] at H
          have c19b0 : decide (t189 < (x6_1.length : Int)) = true := decide_eq_true c19
          clear c19
          replace H := Option.bind_eq_some_iff.mp H
          obtain ⟨t191, A200, H⟩ := H
          replace H : (if t191 > 0 then (some (([] : List (S51)), 4)) else (if ((rd_T52 l1 x7_1).f2) > (wrap64 (1048576 - ((rd_T51 x6_1 t189).f2))) then (some (([] : List (S51)), 14)) else ((some (x6_1.set (t189 : Int).toNat (⟨(⟨(rd_T51 x6_1 t189).f0.f0, (rd_T51 x6_1 t189).f0.f1⟩ : S48), IntKind.u64.wrap (((rd_T51 x6_1 t189).f1) + ((rd_T52 l1 x7_1).f1)), (rd_T51 x6_1 t189).f2⟩ : S51) : List (S51))).bind fun y194 => (ensembleref05_More.l0 k1 l1 (y194.set (t189 : Int).toNat (⟨(⟨(rd_T51 y194 t189).f0.f0, (rd_T51 y194 t189).f0.f1⟩ : S48), (rd_T51 y194 t189).f1, wrap64 (((rd_T51 y194 t189).f2) + ((rd_T52 l1 x7_1).f2))⟩ : S51)) (wrap64 (x7_1 + 1)))))) = some (r1, r2) := H
          have A20 := Aside0.mk A200
          clear A200
          by_cases c21 : t191 > 0
          ·rw [if_pos c21] at H
           have c21b0 : decide (0 < t191) = true := decide_eq_true c21
           clear c21
           simp only [Option.some.injEq, Prod.mk.injEq] at H
           obtain ⟨rfl, rfl⟩ := H
           have p187 : 0 ≤ (x7_1 : Int) := of_decide_eq_true Z1
           have q187 : x7_1 < (l1.length : Int) := of_decide_eq_true Z1
           obtain ⟨ad187, e187, hx187_0, hx187_1, hx187_2, hx187_3⟩ := at_T52 HR1.out x7_1 p187 q187
           cases e187
           replace hx187_0 := cx_ hx187_0
           replace hx187_1 := cx_ hx187_1
           replace hx187_2 := cx_ hx187_2
           replace hx187_3 := cx_ hx187_3
           replace p187 := eq_true p187
           replace q187 := eq_true q187
           try go_wp2_with (first | ((with_reducible refine gate_dst (N := 8) rfl ?_); refine bx 8 #[.int .i64 0, .int .i64 0, .int .u64 0, .int .i64 0] 52 ?_; intro gb188 hg w22 hbox hb; have BK188 := Aside0.mk (hbox); have GW188 := ge_ hg; have GE188 := ge_ hg; replace HO_6 := Aside0.mk (Kd.R_below Z9 hb); replace HB := hs_ hb; clear hb hbox hg; obtain ⟨hcz23_0, hcz23_1, hcz23_2, hcz23_3, hfz23_0, hfz23_1, hfz23_2, hfz23_3⟩ := bz4_ BK188; obtain ⟨Ao24, co24, eo24⟩ := Kd.R_slice HO_6.out; subst eo24) | ((with_reducible refine gate_callee (f := 79) rfl ?_); refine goesL_ (some 29) rfl rfl Try.func79 (by kernel_rfl) rfl #[.slice Ao24 x6_1.length co24, .agg #[.int .i64 ((rd_T52 l1 x7_1).f0.f0), .int .i64 ((rd_T52 l1 x7_1).f0.f1)]] rfl Z0 ?_; (with_reducible refine (ensembleref05_find.calls k1 _ _ x6_1 ((rd_T52 l1 x7_1).f0.f0) ((rd_T52 l1 x7_1).f0.f1) t189 _ ?side1 ?side2 A12.out).mono ?_); (case side1 => refine (Kd.R_reads' (e := 51) (base := w.heap.size) (ok := fun k_ => True) (n := x6_1.length) (c := co24) ?_).2.2; exact Z5); (case side2 => exact (Kd.R_reads' HO_6.out).2.1); rintro e w25 ⟨rfl, hb⟩; refine ⟨_, rfl, ?_⟩; replace HO_6 := Aside0.mk (Kd.R_below Z5 hb); replace BK188 := Aside0.mk (blk_below (g := gb188) (o := .cells #[.int .i64 ((rd_T52 l1 x7_1).f0.f0), .int .i64 ((rd_T52 l1 x7_1).f0.f1), .int .u64 ((rd_T52 l1 x7_1).f1), .int .i64 ((rd_T52 l1 x7_1).f2)] 52 (0, 0)) (by (with_reducible repeat (first | refine blk_drewN ?_ _ | refine blk_drew ?_ | refine blk_alloc ?_ _)); refine blk_put (cs := #[.int .i64 ((rd_T52 l1 x7_1).f0.f0), .int .i64 ((rd_T52 l1 x7_1).f0.f1), .int .u64 ((rd_T52 l1 x7_1).f1), .int .i64 0]) ?_ 3 _ rfl; (with_reducible repeat (first | refine blk_drewN ?_ _ | refine blk_drew ?_ | refine blk_alloc ?_ _)); refine blk_put (cs := #[.int .i64 ((rd_T52 l1 x7_1).f0.f0), .int .i64 ((rd_T52 l1 x7_1).f0.f1), .int .u64 0, .int .i64 0]) ?_ 2 _ rfl; (with_reducible repeat (first | refine blk_drewN ?_ _ | refine blk_drew ?_ | refine blk_alloc ?_ _)); refine blk_put (cs := #[.int .i64 ((rd_T52 l1 x7_1).f0.f0), .int .i64 0, .int .u64 0, .int .i64 0]) ?_ 1 _ rfl; (with_reducible repeat (first | refine blk_drewN ?_ _ | refine blk_drew ?_ | refine blk_alloc ?_ _)); refine blk_put (cs := #[.int .i64 0, .int .i64 0, .int .u64 0, .int .i64 0]) ?_ 0 _ rfl; (with_reducible repeat (first | refine blk_drewN ?_ _ | refine blk_drew ?_ | refine blk_alloc ?_ _)); exact BK188.out) hb); replace HB := hs_ hb; (try clear hb); (try clear hb2); (try clear hk); (try clear hi)))
           replace HO_6 := Aside0.mk (Kd.R_drew HO_6.out)
           replace BK188 := Aside0.mk (blk_drew BK188.out)
           replace HB := Aside0.mk (below_drew1 HB.out)
           have p190 : 0 ≤ (t189 : Int) := of_decide_eq_true Z1
           have q190 : t189 < (x6_1.length : Int) := of_decide_eq_true Z1
           obtain ⟨ad190, e190, hx190_0, hx190_1, hx190_2, hx190_3⟩ := at_T51 (Kd.R_reads' HO_6.out).2.2 t189 p190 q190
           cases e190
           replace p190 := eq_true p190
           replace q190 := eq_true q190
           refine start_ (n := 9) (S := fun w' => w'.cell? ⟨gb188, 0, none⟩ = some (.int .i64 ((rd_T52 l1 x7_1).f0.f0)) ∧ w'.cell? ⟨gb188, 1, none⟩ = some (.int .i64 ((rd_T52 l1 x7_1).f0.f1)) ∧ w'.cell? ⟨gb188, 2, none⟩ = some (.int .u64 ((rd_T52 l1 x7_1).f1)) ∧ w'.cell? ⟨gb188, 3, none⟩ = some (.int .i64 ((rd_T52 l1 x7_1).f2)) ∧ w'.cell? (ad190.add ((t189).toNat * 4)) = some (.int .i64 ((rd_T51 x6_1 t189).f0.f0)) ∧ w'.cell? ⟨(ad190.add ((t189).toNat * 4)).block, (ad190.add ((t189).toNat * 4)).off + 1, none⟩ = some (.int .i64 ((rd_T51 x6_1 t189).f0.f1)) ∧ w'.cell? ⟨(ad190.add ((t189).toNat * 4)).block, (ad190.add ((t189).toNat * 4)).off + 2, none⟩ = some (.int .u64 ((rd_T51 x6_1 t189).f1)) ∧ w'.cell? ⟨(ad190.add ((t189).toNat * 4)).block, (ad190.add ((t189).toNat * 4)).off + 3, none⟩ = some (.int .i64 ((rd_T51 x6_1 t189).f2))) (ds := []) (bm 9 0) (by kernel_rfl) rfl rfl ⟨(blk_cell BK188.out 0).trans rfl, (blk_cell BK188.out 1).trans rfl, (blk_cell BK188.out 2).trans rfl, (blk_cell BK188.out 3).trans rfl, hx190_0, hx190_1, hx190_2, hx190_3⟩ (fun hHeld => ?_); refine with_tabW ensembleref05_More.tab11 ensembleref05_More.bits11 (fun HT_ HW_ => ?_)
           generalize w25.drew = w26 at HO_6 BK188 HB hx190_0 hx190_1 hx190_2 hx190_3 hHeld ⊢
           refine pu 0 (some 32) (bm 9 1) ?_
           refine pu 2 (some 34) (bm 9 5) ?_
           refine pu 3 (some 35) (bm 9 13) ?_
           refine pu 4 (some 36) (bm 9 29) ?_
           refine pu 5 (some 37) (bm 9 61) ?_
           refine tk8 1 (some 33) (bm 9 63) ?_
           refine tk8 6 (some 38) (bm 9 127) ?_
           refine one_ (i := 7) (N := some 39) (bm 9 255) rfl rfl (one_of HT_.out (by kernel_rfl)) (by decide) (fun K hK => ?_)
           refine goes_ Try.func80 (by kernel_rfl) rfl #[.int .u64 ((rd_T52 l1 x7_1).f1), .int .u64 ((rd_T51 x6_1 t189).f1)] (by rfl) rfl rfl Z0 ?_
           with_reducible refine (ensembleref05_masks.calls k1 ((rd_T52 l1 x7_1).f1) ((rd_T51 x6_1 t189).f1) t191 _ A20.out).mono ?_
           rintro e w27 ⟨rfl, hb⟩
           have HS4_ := (hb.cell (World.block_lt_of_cell? _ _ (hHeld.2.2.2.2.1))).trans (hHeld.2.2.2.2.1)
           have HS5_ := (hb.cell (World.block_lt_of_cell? _ _ (hHeld.2.2.2.2.2.1))).trans (hHeld.2.2.2.2.2.1)
           have HS6_ := (hb.cell (World.block_lt_of_cell? _ _ (hHeld.2.2.2.2.2.2.1))).trans (hHeld.2.2.2.2.2.2.1)
           have HS7_ := (hb.cell (World.block_lt_of_cell? _ _ (hHeld.2.2.2.2.2.2.2))).trans (hHeld.2.2.2.2.2.2.2)
           refine ⟨_, rfl, ?_⟩
           replace HO_6 := Aside0.mk (Kd.R_below Z9 hb)
           replace BK188 := Aside0.mk (blk_below (g := gb188) (o := .cells #[.int .i64 ((rd_T52 l1 x7_1).f0.f0), .int .i64 ((rd_T52 l1 x7_1).f0.f1), .int .u64 ((rd_T52 l1 x7_1).f1), .int .i64 ((rd_T52 l1 x7_1).f2)] 52 (0, 0)) (bo_ BK188) hb)
           replace HB := hs_ hb
           (try clear hb)
           (try clear hb2)
           (try clear hk)
           (try clear hi)
           refine hK.out _ _ ⟨(blk_cell BK188.out 0).trans rfl, (blk_cell BK188.out 1).trans rfl, (blk_cell BK188.out 2).trans rfl, (blk_cell BK188.out 3).trans rfl, HS4_, HS5_, HS6_, HS7_⟩ (fun hHeld => ?_)
           clear hK K
           refine norm_ (a' := ?_) ?_ ?_
           rotate_left
           ·show Act.put _ (some 39) _ = _
            simp only [Act.put, List.setIfInBounds_toArray, List.set_cons_zero, List.set_cons_succ, i64_w, i32_w]
            rfl
           refine pu 8 (some 40) (bm 9 511) ?_
           refine done_ (done_of HT_.out (by kernel_rfl)) ?_
           try go_wp2
           go_ret2
           exact ⟨_, by first | rfl | (simp [errW_none, errW_some] <;> rfl) | (simp [*, errW_none, errW_some] <;> rfl), by first | exact Kd.R_nil _ _ _ _ _ | exact Kd.N_nil _ _ _ _ _ | exact Kd.V_nil _ _ _ _ _ | exact Kd.Q_nil _ _ _ _ _ | exact Kd.S_nil _ _ _ _ _, hb_⟩
          ·rw [if_neg c21] at H
           have c21b0 : decide (0 < t191) = false := decide_eq_false c21
           clear c21
           by_cases c28 : ((rd_T52 l1 x7_1).f2) > (wrap64 (1048576 - ((rd_T51 x6_1 t189).f2)))
           ·rw [if_pos c28] at H
            have c28b0 : decide ((wrap64 (1048576 - ((rd_T51 x6_1 t189).f2))) < ((rd_T52 l1 x7_1).f2)) = true := decide_eq_true c28
            clear c28
            simp only [Option.some.injEq, Prod.mk.injEq] at H
            obtain ⟨rfl, rfl⟩ := H
            have p187 : 0 ≤ (x7_1 : Int) := of_decide_eq_true Z1
            have q187 : x7_1 < (l1.length : Int) := of_decide_eq_true Z1
            obtain ⟨ad187, e187, hx187_0, hx187_1, hx187_2, hx187_3⟩ := at_T52 HR1.out x7_1 p187 q187
            cases e187
            replace hx187_0 := cx_ hx187_0
            replace hx187_1 := cx_ hx187_1
            replace hx187_2 := cx_ hx187_2
            replace hx187_3 := cx_ hx187_3
            replace p187 := eq_true p187
            replace q187 := eq_true q187
            try go_wp2_with (first | ((with_reducible refine gate_dst (N := 8) rfl ?_); refine bx 8 #[.int .i64 0, .int .i64 0, .int .u64 0, .int .i64 0] 52 ?_; intro gb188 hg w29 hbox hb; have BK188 := Aside0.mk (hbox); have GW188 := ge_ hg; have GE188 := ge_ hg; replace HO_6 := Aside0.mk (Kd.R_below Z9 hb); replace HB := hs_ hb; clear hb hbox hg; obtain ⟨hcz30_0, hcz30_1, hcz30_2, hcz30_3, hfz30_0, hfz30_1, hfz30_2, hfz30_3⟩ := bz4_ BK188; obtain ⟨Ao31, co31, eo31⟩ := Kd.R_slice HO_6.out; subst eo31) | ((with_reducible refine gate_callee (f := 79) rfl ?_); refine goesL_ (some 29) rfl rfl Try.func79 (by kernel_rfl) rfl #[.slice Ao31 x6_1.length co31, .agg #[.int .i64 ((rd_T52 l1 x7_1).f0.f0), .int .i64 ((rd_T52 l1 x7_1).f0.f1)]] rfl Z0 ?_; (with_reducible refine (ensembleref05_find.calls k1 _ _ x6_1 ((rd_T52 l1 x7_1).f0.f0) ((rd_T52 l1 x7_1).f0.f1) t189 _ ?side1 ?side2 A12.out).mono ?_); (case side1 => refine (Kd.R_reads' (e := 51) (base := w.heap.size) (ok := fun k_ => True) (n := x6_1.length) (c := co31) ?_).2.2; exact Z5); (case side2 => exact (Kd.R_reads' HO_6.out).2.1); rintro e w32 ⟨rfl, hb⟩; refine ⟨_, rfl, ?_⟩; replace HO_6 := Aside0.mk (Kd.R_below Z5 hb); replace BK188 := Aside0.mk (blk_below (g := gb188) (o := .cells #[.int .i64 ((rd_T52 l1 x7_1).f0.f0), .int .i64 ((rd_T52 l1 x7_1).f0.f1), .int .u64 ((rd_T52 l1 x7_1).f1), .int .i64 ((rd_T52 l1 x7_1).f2)] 52 (0, 0)) (by (with_reducible repeat (first | refine blk_drewN ?_ _ | refine blk_drew ?_ | refine blk_alloc ?_ _)); refine blk_put (cs := #[.int .i64 ((rd_T52 l1 x7_1).f0.f0), .int .i64 ((rd_T52 l1 x7_1).f0.f1), .int .u64 ((rd_T52 l1 x7_1).f1), .int .i64 0]) ?_ 3 _ rfl; (with_reducible repeat (first | refine blk_drewN ?_ _ | refine blk_drew ?_ | refine blk_alloc ?_ _)); refine blk_put (cs := #[.int .i64 ((rd_T52 l1 x7_1).f0.f0), .int .i64 ((rd_T52 l1 x7_1).f0.f1), .int .u64 0, .int .i64 0]) ?_ 2 _ rfl; (with_reducible repeat (first | refine blk_drewN ?_ _ | refine blk_drew ?_ | refine blk_alloc ?_ _)); refine blk_put (cs := #[.int .i64 ((rd_T52 l1 x7_1).f0.f0), .int .i64 0, .int .u64 0, .int .i64 0]) ?_ 1 _ rfl; (with_reducible repeat (first | refine blk_drewN ?_ _ | refine blk_drew ?_ | refine blk_alloc ?_ _)); refine blk_put (cs := #[.int .i64 0, .int .i64 0, .int .u64 0, .int .i64 0]) ?_ 0 _ rfl; (with_reducible repeat (first | refine blk_drewN ?_ _ | refine blk_drew ?_ | refine blk_alloc ?_ _)); exact BK188.out) hb); replace HB := hs_ hb; (try clear hb); (try clear hb2); (try clear hk); (try clear hi)))
            replace HO_6 := Aside0.mk (Kd.R_drew HO_6.out)
            replace BK188 := Aside0.mk (blk_drew BK188.out)
            replace HB := Aside0.mk (below_drew1 HB.out)
            have p190 : 0 ≤ (t189 : Int) := of_decide_eq_true Z1
            have q190 : t189 < (x6_1.length : Int) := of_decide_eq_true Z1
            obtain ⟨ad190, e190, hx190_0, hx190_1, hx190_2, hx190_3⟩ := at_T51 (Kd.R_reads' HO_6.out).2.2 t189 p190 q190
            cases e190
            replace p190 := eq_true p190
            replace q190 := eq_true q190
            refine start_ (n := 9) (S := fun w' => w'.cell? ⟨gb188, 0, none⟩ = some (.int .i64 ((rd_T52 l1 x7_1).f0.f0)) ∧ w'.cell? ⟨gb188, 1, none⟩ = some (.int .i64 ((rd_T52 l1 x7_1).f0.f1)) ∧ w'.cell? ⟨gb188, 2, none⟩ = some (.int .u64 ((rd_T52 l1 x7_1).f1)) ∧ w'.cell? ⟨gb188, 3, none⟩ = some (.int .i64 ((rd_T52 l1 x7_1).f2)) ∧ w'.cell? (ad190.add ((t189).toNat * 4)) = some (.int .i64 ((rd_T51 x6_1 t189).f0.f0)) ∧ w'.cell? ⟨(ad190.add ((t189).toNat * 4)).block, (ad190.add ((t189).toNat * 4)).off + 1, none⟩ = some (.int .i64 ((rd_T51 x6_1 t189).f0.f1)) ∧ w'.cell? ⟨(ad190.add ((t189).toNat * 4)).block, (ad190.add ((t189).toNat * 4)).off + 2, none⟩ = some (.int .u64 ((rd_T51 x6_1 t189).f1)) ∧ w'.cell? ⟨(ad190.add ((t189).toNat * 4)).block, (ad190.add ((t189).toNat * 4)).off + 3, none⟩ = some (.int .i64 ((rd_T51 x6_1 t189).f2))) (ds := []) (bm 9 0) (by kernel_rfl) rfl rfl ⟨(blk_cell BK188.out 0).trans rfl, (blk_cell BK188.out 1).trans rfl, (blk_cell BK188.out 2).trans rfl, (blk_cell BK188.out 3).trans rfl, hx190_0, hx190_1, hx190_2, hx190_3⟩ (fun hHeld => ?_); refine with_tabW ensembleref05_More.tab11 ensembleref05_More.bits11 (fun HT_ HW_ => ?_)
            generalize w32.drew = w33 at HO_6 BK188 HB hx190_0 hx190_1 hx190_2 hx190_3 hHeld ⊢
            refine pu 0 (some 32) (bm 9 1) ?_
            refine pu 2 (some 34) (bm 9 5) ?_
            refine pu 3 (some 35) (bm 9 13) ?_
            refine pu 4 (some 36) (bm 9 29) ?_
            refine pu 5 (some 37) (bm 9 61) ?_
            refine tk8 1 (some 33) (bm 9 63) ?_
            refine tk8 6 (some 38) (bm 9 127) ?_
            refine one_ (i := 7) (N := some 39) (bm 9 255) rfl rfl (one_of HT_.out (by kernel_rfl)) (by decide) (fun K hK => ?_)
            refine goes_ Try.func80 (by kernel_rfl) rfl #[.int .u64 ((rd_T52 l1 x7_1).f1), .int .u64 ((rd_T51 x6_1 t189).f1)] (by rfl) rfl rfl Z0 ?_
            with_reducible refine (ensembleref05_masks.calls k1 ((rd_T52 l1 x7_1).f1) ((rd_T51 x6_1 t189).f1) t191 _ A20.out).mono ?_
            rintro e w34 ⟨rfl, hb⟩
            have HS4_ := (hb.cell (World.block_lt_of_cell? _ _ (hHeld.2.2.2.2.1))).trans (hHeld.2.2.2.2.1)
            have HS5_ := (hb.cell (World.block_lt_of_cell? _ _ (hHeld.2.2.2.2.2.1))).trans (hHeld.2.2.2.2.2.1)
            have HS6_ := (hb.cell (World.block_lt_of_cell? _ _ (hHeld.2.2.2.2.2.2.1))).trans (hHeld.2.2.2.2.2.2.1)
            have HS7_ := (hb.cell (World.block_lt_of_cell? _ _ (hHeld.2.2.2.2.2.2.2))).trans (hHeld.2.2.2.2.2.2.2)
            refine ⟨_, rfl, ?_⟩
            replace HO_6 := Aside0.mk (Kd.R_below Z9 hb)
            replace BK188 := Aside0.mk (blk_below (g := gb188) (o := .cells #[.int .i64 ((rd_T52 l1 x7_1).f0.f0), .int .i64 ((rd_T52 l1 x7_1).f0.f1), .int .u64 ((rd_T52 l1 x7_1).f1), .int .i64 ((rd_T52 l1 x7_1).f2)] 52 (0, 0)) (bo_ BK188) hb)
            replace HB := hs_ hb
            (try clear hb)
            (try clear hb2)
            (try clear hk)
            (try clear hi)
            refine hK.out _ _ ⟨(blk_cell BK188.out 0).trans rfl, (blk_cell BK188.out 1).trans rfl, (blk_cell BK188.out 2).trans rfl, (blk_cell BK188.out 3).trans rfl, HS4_, HS5_, HS6_, HS7_⟩ (fun hHeld => ?_)
            clear hK K
            refine norm_ (a' := ?_) ?_ ?_
            rotate_left
            ·show Act.put _ (some 39) _ = _
             simp only [Act.put, List.setIfInBounds_toArray, List.set_cons_zero, List.set_cons_succ, i64_w, i32_w]
             rfl
            refine pu 8 (some 40) (bm 9 511) ?_
            refine done_ (done_of HT_.out (by kernel_rfl)) ?_
            try go_wp2
            replace HO_6 := Aside0.mk (Kd.R_drew HO_6.out)
            replace BK188 := Aside0.mk (blk_drew BK188.out)
            replace HB := Aside0.mk (below_drew1 HB.out)
            have p192 : 0 ≤ (t189 : Int) := of_decide_eq_true Z1
            have q192 : t189 < (x6_1.length : Int) := of_decide_eq_true Z1
            obtain ⟨ad192, e192, hx192_0, hx192_1, hx192_2, hx192_3⟩ := at_T51 (Kd.R_reads' HO_6.out).2.2 t189 p192 q192
            obtain rfl : ad190 = ad192 := (by injection e192)
            replace p192 := eq_true p192
            replace q192 := eq_true q192
            refine start_ (n := 9) (S := fun w' => w'.cell? ⟨gb188, 0, none⟩ = some (.int .i64 ((rd_T52 l1 x7_1).f0.f0)) ∧ w'.cell? ⟨gb188, 1, none⟩ = some (.int .i64 ((rd_T52 l1 x7_1).f0.f1)) ∧ w'.cell? ⟨gb188, 2, none⟩ = some (.int .u64 ((rd_T52 l1 x7_1).f1)) ∧ w'.cell? ⟨gb188, 3, none⟩ = some (.int .i64 ((rd_T52 l1 x7_1).f2)) ∧ w'.cell? (ad190.add ((t189).toNat * 4)) = some (.int .i64 ((rd_T51 x6_1 t189).f0.f0)) ∧ w'.cell? ⟨(ad190.add ((t189).toNat * 4)).block, (ad190.add ((t189).toNat * 4)).off + 1, none⟩ = some (.int .i64 ((rd_T51 x6_1 t189).f0.f1)) ∧ w'.cell? ⟨(ad190.add ((t189).toNat * 4)).block, (ad190.add ((t189).toNat * 4)).off + 2, none⟩ = some (.int .u64 ((rd_T51 x6_1 t189).f1)) ∧ w'.cell? ⟨(ad190.add ((t189).toNat * 4)).block, (ad190.add ((t189).toNat * 4)).off + 3, none⟩ = some (.int .i64 ((rd_T51 x6_1 t189).f2))) (ds := []) (bm 9 0) (by kernel_rfl) rfl rfl ⟨(blk_cell BK188.out 0).trans rfl, (blk_cell BK188.out 1).trans rfl, (blk_cell BK188.out 2).trans rfl, (blk_cell BK188.out 3).trans rfl, hx192_0, hx192_1, hx192_2, hx192_3⟩ (fun hHeld => ?_); refine with_tabW ensembleref05_More.tab13 ensembleref05_More.bits13 (fun HT_ HW_ => ?_)
            generalize w34.drew = w35 at HO_6 BK188 HB hx192_0 hx192_1 hx192_2 hx192_3 hHeld ⊢
            refine pu 0 (some 41) (bm 9 1) ?_
            refine pu 2 (some 43) (bm 9 5) ?_
            refine pu 3 (some 44) (bm 9 13) ?_
            refine pu 4 (some 45) (bm 9 29) ?_
            refine pu 5 (some 46) (bm 9 61) ?_
            refine tk8 1 (some 42) (bm 9 63) ?_
            refine tk8 6 (some 47) (bm 9 127) ?_
            refine pu 7 (some 48) (bm 9 255) ?_
            refine pu 8 (some 49) (bm 9 511) ?_
            refine done_ (done_of HT_.out (by kernel_rfl)) ?_
            try go_wp2
            go_ret2
            exact ⟨_, by first | rfl | (simp [errW_none, errW_some] <;> rfl) | (simp [*, errW_none, errW_some] <;> rfl), by first | exact Kd.R_nil _ _ _ _ _ | exact Kd.N_nil _ _ _ _ _ | exact Kd.V_nil _ _ _ _ _ | exact Kd.Q_nil _ _ _ _ _ | exact Kd.S_nil _ _ _ _ _, hb_⟩
           ·rw [if_neg c28] at H
            have c28b0 : decide ((wrap64 (1048576 - ((rd_T51 x6_1 t189).f2))) < ((rd_T52 l1 x7_1).f2)) = false := decide_eq_false c28
            clear c28
            obtain ⟨y194, hy194⟩ : ∃ y_ : List (S51), y_ = (x6_1.set (t189 : Int).toNat (⟨(⟨(rd_T51 x6_1 t189).f0.f0, (rd_T51 x6_1 t189).f0.f1⟩ : S48), IntKind.u64.wrap (((rd_T51 x6_1 t189).f1) + ((rd_T52 l1 x7_1).f1)), (rd_T51 x6_1 t189).f2⟩ : S51)) := ⟨_, rfl⟩
            replace H : (ensembleref05_More.l0 k1 l1 (y194.set (t189 : Int).toNat (⟨(⟨(rd_T51 y194 t189).f0.f0, (rd_T51 y194 t189).f0.f1⟩ : S48), (rd_T51 y194 t189).f1, wrap64 (((rd_T51 y194 t189).f2) + ((rd_T52 l1 x7_1).f2))⟩ : S51)) (wrap64 (x7_1 + 1))) = some (r1, r2) := by first | (rw [hy194]; with_reducible exact H) | (have H2_ := (Option.bind_some _ _).symm.trans H; rw [hy194]; with_reducible exact H2_) | (have H2_ := (Option.bind_some _ _).symm.trans H; with_reducible exact H2_) | with_reducible exact H | (rw [hy194]; exact H) | exact H
            have Ny194 := Aside0.mk hy194
            clear hy194
            obtain ⟨y196, hy196⟩ : ∃ y_ : List (S51), y_ = (y194.set (t189 : Int).toNat (⟨(⟨(rd_T51 y194 t189).f0.f0, (rd_T51 y194 t189).f0.f1⟩ : S48), (rd_T51 y194 t189).f1, wrap64 (((rd_T51 y194 t189).f2) + ((rd_T52 l1 x7_1).f2))⟩ : S51)) := ⟨_, rfl⟩
            replace H : (ensembleref05_More.l0 k1 l1 y196 (wrap64 (x7_1 + 1))) = some (r1, r2) := by first | (rw [hy196]; with_reducible exact H) | (have H2_ := (Option.bind_some _ _).symm.trans H; rw [hy196]; with_reducible exact H2_) | (have H2_ := (Option.bind_some _ _).symm.trans H; with_reducible exact H2_) | with_reducible exact H | (rw [hy196]; exact H) | exact H
            have Ny196 := Aside0.mk hy196
            clear hy196
            have H' := Aside0.mk H
            clear H
            have p187 : 0 ≤ (x7_1 : Int) := of_decide_eq_true Z1
            have q187 : x7_1 < (l1.length : Int) := of_decide_eq_true Z1
            obtain ⟨ad187, e187, hx187_0, hx187_1, hx187_2, hx187_3⟩ := at_T52 HR1.out x7_1 p187 q187
            cases e187
            replace hx187_0 := cx_ hx187_0
            replace hx187_1 := cx_ hx187_1
            replace hx187_2 := cx_ hx187_2
            replace hx187_3 := cx_ hx187_3
            replace p187 := eq_true p187
            replace q187 := eq_true q187
            try go_wp2_with (first | ((with_reducible refine gate_dst (N := 8) rfl ?_); refine bx 8 #[.int .i64 0, .int .i64 0, .int .u64 0, .int .i64 0] 52 ?_; intro gb188 hg w38 hbox hb; have BK188 := Aside0.mk (hbox); have GW188 := ge_ hg; have GE188 := ge_ hg; replace HO_6 := Aside0.mk (Kd.R_below Z9 hb); replace HB := hs_ hb; clear hb hbox hg; obtain ⟨hcz39_0, hcz39_1, hcz39_2, hcz39_3, hfz39_0, hfz39_1, hfz39_2, hfz39_3⟩ := bz4_ BK188; obtain ⟨Ao40, co40, eo40⟩ := Kd.R_slice HO_6.out; subst eo40) | ((with_reducible refine gate_callee (f := 79) rfl ?_); refine goesL_ (some 29) rfl rfl Try.func79 (by kernel_rfl) rfl #[.slice Ao40 x6_1.length co40, .agg #[.int .i64 ((rd_T52 l1 x7_1).f0.f0), .int .i64 ((rd_T52 l1 x7_1).f0.f1)]] rfl Z0 ?_; (with_reducible refine (ensembleref05_find.calls k1 _ _ x6_1 ((rd_T52 l1 x7_1).f0.f0) ((rd_T52 l1 x7_1).f0.f1) t189 _ ?side1 ?side2 A12.out).mono ?_); (case side1 => refine (Kd.R_reads' (e := 51) (base := w.heap.size) (ok := fun k_ => True) (n := x6_1.length) (c := co40) ?_).2.2; exact Z5); (case side2 => exact (Kd.R_reads' HO_6.out).2.1); rintro e w41 ⟨rfl, hb⟩; refine ⟨_, rfl, ?_⟩; replace HO_6 := Aside0.mk (Kd.R_below Z5 hb); replace BK188 := Aside0.mk (blk_below (g := gb188) (o := .cells #[.int .i64 ((rd_T52 l1 x7_1).f0.f0), .int .i64 ((rd_T52 l1 x7_1).f0.f1), .int .u64 ((rd_T52 l1 x7_1).f1), .int .i64 ((rd_T52 l1 x7_1).f2)] 52 (0, 0)) (by (with_reducible repeat (first | refine blk_drewN ?_ _ | refine blk_drew ?_ | refine blk_alloc ?_ _)); refine blk_put (cs := #[.int .i64 ((rd_T52 l1 x7_1).f0.f0), .int .i64 ((rd_T52 l1 x7_1).f0.f1), .int .u64 ((rd_T52 l1 x7_1).f1), .int .i64 0]) ?_ 3 _ rfl; (with_reducible repeat (first | refine blk_drewN ?_ _ | refine blk_drew ?_ | refine blk_alloc ?_ _)); refine blk_put (cs := #[.int .i64 ((rd_T52 l1 x7_1).f0.f0), .int .i64 ((rd_T52 l1 x7_1).f0.f1), .int .u64 0, .int .i64 0]) ?_ 2 _ rfl; (with_reducible repeat (first | refine blk_drewN ?_ _ | refine blk_drew ?_ | refine blk_alloc ?_ _)); refine blk_put (cs := #[.int .i64 ((rd_T52 l1 x7_1).f0.f0), .int .i64 0, .int .u64 0, .int .i64 0]) ?_ 1 _ rfl; (with_reducible repeat (first | refine blk_drewN ?_ _ | refine blk_drew ?_ | refine blk_alloc ?_ _)); refine blk_put (cs := #[.int .i64 0, .int .i64 0, .int .u64 0, .int .i64 0]) ?_ 0 _ rfl; (with_reducible repeat (first | refine blk_drewN ?_ _ | refine blk_drew ?_ | refine blk_alloc ?_ _)); exact BK188.out) hb); replace HB := hs_ hb; (try clear hb); (try clear hb2); (try clear hk); (try clear hi)))
            replace HO_6 := Aside0.mk (Kd.R_drew HO_6.out)
            replace BK188 := Aside0.mk (blk_drew BK188.out)
            replace HB := Aside0.mk (below_drew1 HB.out)
            have p190 : 0 ≤ (t189 : Int) := of_decide_eq_true Z1
            have q190 : t189 < (x6_1.length : Int) := of_decide_eq_true Z1
            obtain ⟨ad190, e190, hx190_0, hx190_1, hx190_2, hx190_3⟩ := at_T51 (Kd.R_reads' HO_6.out).2.2 t189 p190 q190
            cases e190
            replace p190 := eq_true p190
            replace q190 := eq_true q190
            refine start_ (n := 9) (S := fun w' => w'.cell? ⟨gb188, 0, none⟩ = some (.int .i64 ((rd_T52 l1 x7_1).f0.f0)) ∧ w'.cell? ⟨gb188, 1, none⟩ = some (.int .i64 ((rd_T52 l1 x7_1).f0.f1)) ∧ w'.cell? ⟨gb188, 2, none⟩ = some (.int .u64 ((rd_T52 l1 x7_1).f1)) ∧ w'.cell? ⟨gb188, 3, none⟩ = some (.int .i64 ((rd_T52 l1 x7_1).f2)) ∧ w'.cell? (ad190.add ((t189).toNat * 4)) = some (.int .i64 ((rd_T51 x6_1 t189).f0.f0)) ∧ w'.cell? ⟨(ad190.add ((t189).toNat * 4)).block, (ad190.add ((t189).toNat * 4)).off + 1, none⟩ = some (.int .i64 ((rd_T51 x6_1 t189).f0.f1)) ∧ w'.cell? ⟨(ad190.add ((t189).toNat * 4)).block, (ad190.add ((t189).toNat * 4)).off + 2, none⟩ = some (.int .u64 ((rd_T51 x6_1 t189).f1)) ∧ w'.cell? ⟨(ad190.add ((t189).toNat * 4)).block, (ad190.add ((t189).toNat * 4)).off + 3, none⟩ = some (.int .i64 ((rd_T51 x6_1 t189).f2))) (ds := []) (bm 9 0) (by kernel_rfl) rfl rfl ⟨(blk_cell BK188.out 0).trans rfl, (blk_cell BK188.out 1).trans rfl, (blk_cell BK188.out 2).trans rfl, (blk_cell BK188.out 3).trans rfl, hx190_0, hx190_1, hx190_2, hx190_3⟩ (fun hHeld => ?_); refine with_tabW ensembleref05_More.tab11 ensembleref05_More.bits11 (fun HT_ HW_ => ?_)
            generalize w41.drew = w42 at HO_6 BK188 HB hx190_0 hx190_1 hx190_2 hx190_3 hHeld ⊢
            refine pu 0 (some 32) (bm 9 1) ?_
            refine pu 2 (some 34) (bm 9 5) ?_
            refine pu 3 (some 35) (bm 9 13) ?_
            refine pu 4 (some 36) (bm 9 29) ?_
            refine pu 5 (some 37) (bm 9 61) ?_
            refine tk8 1 (some 33) (bm 9 63) ?_
            refine tk8 6 (some 38) (bm 9 127) ?_
            refine one_ (i := 7) (N := some 39) (bm 9 255) rfl rfl (one_of HT_.out (by kernel_rfl)) (by decide) (fun K hK => ?_)
            refine goes_ Try.func80 (by kernel_rfl) rfl #[.int .u64 ((rd_T52 l1 x7_1).f1), .int .u64 ((rd_T51 x6_1 t189).f1)] (by rfl) rfl rfl Z0 ?_
            with_reducible refine (ensembleref05_masks.calls k1 ((rd_T52 l1 x7_1).f1) ((rd_T51 x6_1 t189).f1) t191 _ A20.out).mono ?_
            rintro e w43 ⟨rfl, hb⟩
            have HS4_ := (hb.cell (World.block_lt_of_cell? _ _ (hHeld.2.2.2.2.1))).trans (hHeld.2.2.2.2.1)
            have HS5_ := (hb.cell (World.block_lt_of_cell? _ _ (hHeld.2.2.2.2.2.1))).trans (hHeld.2.2.2.2.2.1)
            have HS6_ := (hb.cell (World.block_lt_of_cell? _ _ (hHeld.2.2.2.2.2.2.1))).trans (hHeld.2.2.2.2.2.2.1)
            have HS7_ := (hb.cell (World.block_lt_of_cell? _ _ (hHeld.2.2.2.2.2.2.2))).trans (hHeld.2.2.2.2.2.2.2)
            refine ⟨_, rfl, ?_⟩
            replace HO_6 := Aside0.mk (Kd.R_below Z9 hb)
            replace BK188 := Aside0.mk (blk_below (g := gb188) (o := .cells #[.int .i64 ((rd_T52 l1 x7_1).f0.f0), .int .i64 ((rd_T52 l1 x7_1).f0.f1), .int .u64 ((rd_T52 l1 x7_1).f1), .int .i64 ((rd_T52 l1 x7_1).f2)] 52 (0, 0)) (bo_ BK188) hb)
            replace HB := hs_ hb
            (try clear hb)
            (try clear hb2)
            (try clear hk)
            (try clear hi)
            refine hK.out _ _ ⟨(blk_cell BK188.out 0).trans rfl, (blk_cell BK188.out 1).trans rfl, (blk_cell BK188.out 2).trans rfl, (blk_cell BK188.out 3).trans rfl, HS4_, HS5_, HS6_, HS7_⟩ (fun hHeld => ?_)
            clear hK K
            refine norm_ (a' := ?_) ?_ ?_
            rotate_left
            ·show Act.put _ (some 39) _ = _
             simp only [Act.put, List.setIfInBounds_toArray, List.set_cons_zero, List.set_cons_succ, i64_w, i32_w]
             rfl
            refine pu 8 (some 40) (bm 9 511) ?_
            refine done_ (done_of HT_.out (by kernel_rfl)) ?_
            try go_wp2
            replace HO_6 := Aside0.mk (Kd.R_drew HO_6.out)
            replace BK188 := Aside0.mk (blk_drew BK188.out)
            replace HB := Aside0.mk (below_drew1 HB.out)
            have p192 : 0 ≤ (t189 : Int) := of_decide_eq_true Z1
            have q192 : t189 < (x6_1.length : Int) := of_decide_eq_true Z1
            obtain ⟨ad192, e192, hx192_0, hx192_1, hx192_2, hx192_3⟩ := at_T51 (Kd.R_reads' HO_6.out).2.2 t189 p192 q192
            obtain rfl : ad190 = ad192 := (by injection e192)
            replace p192 := eq_true p192
            replace q192 := eq_true q192
            refine start_ (n := 9) (S := fun w' => w'.cell? ⟨gb188, 0, none⟩ = some (.int .i64 ((rd_T52 l1 x7_1).f0.f0)) ∧ w'.cell? ⟨gb188, 1, none⟩ = some (.int .i64 ((rd_T52 l1 x7_1).f0.f1)) ∧ w'.cell? ⟨gb188, 2, none⟩ = some (.int .u64 ((rd_T52 l1 x7_1).f1)) ∧ w'.cell? ⟨gb188, 3, none⟩ = some (.int .i64 ((rd_T52 l1 x7_1).f2)) ∧ w'.cell? (ad190.add ((t189).toNat * 4)) = some (.int .i64 ((rd_T51 x6_1 t189).f0.f0)) ∧ w'.cell? ⟨(ad190.add ((t189).toNat * 4)).block, (ad190.add ((t189).toNat * 4)).off + 1, none⟩ = some (.int .i64 ((rd_T51 x6_1 t189).f0.f1)) ∧ w'.cell? ⟨(ad190.add ((t189).toNat * 4)).block, (ad190.add ((t189).toNat * 4)).off + 2, none⟩ = some (.int .u64 ((rd_T51 x6_1 t189).f1)) ∧ w'.cell? ⟨(ad190.add ((t189).toNat * 4)).block, (ad190.add ((t189).toNat * 4)).off + 3, none⟩ = some (.int .i64 ((rd_T51 x6_1 t189).f2))) (ds := []) (bm 9 0) (by kernel_rfl) rfl rfl ⟨(blk_cell BK188.out 0).trans rfl, (blk_cell BK188.out 1).trans rfl, (blk_cell BK188.out 2).trans rfl, (blk_cell BK188.out 3).trans rfl, hx192_0, hx192_1, hx192_2, hx192_3⟩ (fun hHeld => ?_); refine with_tabW ensembleref05_More.tab13 ensembleref05_More.bits13 (fun HT_ HW_ => ?_)
            generalize w43.drew = w44 at HO_6 BK188 HB hx192_0 hx192_1 hx192_2 hx192_3 hHeld ⊢
            refine pu 0 (some 41) (bm 9 1) ?_
            refine pu 2 (some 43) (bm 9 5) ?_
            refine pu 3 (some 44) (bm 9 13) ?_
            refine pu 4 (some 45) (bm 9 29) ?_
            refine pu 5 (some 46) (bm 9 61) ?_
            refine tk8 1 (some 42) (bm 9 63) ?_
            refine tk8 6 (some 47) (bm 9 127) ?_
            refine pu 7 (some 48) (bm 9 255) ?_
            refine pu 8 (some 49) (bm 9 511) ?_
            refine done_ (done_of HT_.out (by kernel_rfl)) ?_
            try go_wp2
            replace HO_6 := Aside0.mk (Kd.R_drew HO_6.out)
            replace BK188 := Aside0.mk (blk_drew BK188.out)
            replace HB := Aside0.mk (below_drew1 HB.out)
            have p193 : 0 ≤ (t189 : Int) := of_decide_eq_true Z1
            have q193 : t189 < (x6_1.length : Int) := of_decide_eq_true Z1
            obtain ⟨ad193, e193, hx193_0, hx193_1, hx193_2, hx193_3⟩ := at_T51 (Kd.R_reads' HO_6.out).2.2 t189 p193 q193
            obtain rfl : ad190 = ad193 := (by injection e193)
            replace p193 := eq_true p193
            replace q193 := eq_true q193
            have p36 : 0 ≤ (t189 : Int) := of_decide_eq_true Z1
            have q36 : (t189 : Int) < ((x6_1.length : Int) : Int) := of_decide_eq_true Z1
            obtain ⟨go36, co36, eo36, gb36, gl36, cl36, HG36⟩ := Kd.R_form HO_6.out (by omega)
            (first | cases eo36 | (injection eo36 with ea_ en_ ec_; (first | subst ea_ | (injection ea_ with ea_; subst ea_)); subst ec_; clear en_))
            have GB36 := Aside0.mk gb36
            have GG36 := Aside0.mk HG36
            clear gb36 gl36 HG36
            (first | simp only [add_plain] at hx190_0 | skip)
            (first | simp only [add_plain] at hx190_1 | skip)
            (first | simp only [add_plain] at hx190_2 | skip)
            (first | simp only [add_plain] at hx190_3 | skip)
            (first | simp only [add_plain] at hx192_0 | skip)
            (first | simp only [add_plain] at hx192_1 | skip)
            (first | simp only [add_plain] at hx192_2 | skip)
            (first | simp only [add_plain] at hx192_3 | skip)
            (first | simp only [add_plain] at hx193_0 | skip)
            (first | simp only [add_plain] at hx193_1 | skip)
            (first | simp only [add_plain] at hx193_2 | skip)
            (first | simp only [add_plain] at hx193_3 | skip)
            obtain ⟨ce36, hcl36, hM36, hcc36, hfr36⟩ := Kd.R_elem HO_6.out z51 (t189 : Int) p36 q36
            obtain rfl := k51_openM hM36
            have hx36_0 : World.cell? _ ⟨go36, (t189 : Int).toNat * 4, none⟩ = some (.int .i64 ((rd_T51 x6_1 t189).f0.f0)) := hcc36 0 _ rfl
            have hx36_1 : World.cell? _ ⟨go36, (t189 : Int).toNat * 4 + 1, none⟩ = some (.int .i64 ((rd_T51 x6_1 t189).f0.f1)) := hcc36 1 _ rfl
            have hx36_2 : World.cell? _ ⟨go36, (t189 : Int).toNat * 4 + 2, none⟩ = some (.int .u64 ((rd_T51 x6_1 t189).f1)) := hcc36 2 _ rfl
            have hx36_3 : World.cell? _ ⟨go36, (t189 : Int).toNat * 4 + 3, none⟩ = some (.int .i64 ((rd_T51 x6_1 t189).f2)) := hcc36 3 _ rfl
            have hf36_0 : World.frozen? _ ⟨go36, (t189 : Int).toNat * 4, none⟩ = false := hfr36 0
            have hf36_1 : World.frozen? _ ⟨go36, (t189 : Int).toNat * 4 + 1, none⟩ = false := hfr36 1
            have hf36_2 : World.frozen? _ ⟨go36, (t189 : Int).toNat * 4 + 2, none⟩ = false := hfr36 2
            have hf36_3 : World.frozen? _ ⟨go36, (t189 : Int).toNat * 4 + 3, none⟩ = false := hfr36 3
            clear hcl36 hcc36 hfr36 hM36
            replace p36 := eq_true p36
            replace q36 := eq_true q36
            obtain ⟨ce46, hcl46, hM46, hcc46, hfr46⟩ := Kd.R_elem HO_6.out z51 (t189 : Int) (of_decide_eq_true Z1) (by have h_ : (t189 : Int) < ((x6_1.length : Int) : Int) := of_decide_eq_true Z1; first | exact h_ | (have e_ := (Kd.R_reads' HO_6.out).1; omega) | simpa using h_)
            obtain rfl := k51_openM hM46
            have HP46 := (Kd.R_seg HO_6.out (t189 : Int) (of_decide_eq_true Z1) (by have h_ : (t189 : Int) < ((x6_1.length : Int) : Int) := of_decide_eq_true Z1; first | exact h_ | (have e_ := (Kd.R_reads' HO_6.out).1; omega) | simpa using h_) (seg := [.int .u64 (IntKind.u64.wrap (((rd_T51 x6_1 t189).f1) + ((rd_T52 l1 x7_1).f1)))]) (j := 2) hcl46 hcc46 (show 3 ≤ 4 from by decide) (x' := (⟨(⟨(rd_T51 x6_1 t189).f0.f0, (rd_T51 x6_1 t189).f0.f1⟩ : S48), IntKind.u64.wrap (((rd_T51 x6_1 t189).f1) + ((rd_T52 l1 x7_1).f1)), (rd_T51 x6_1 t189).f2⟩ : S51)) (k51_mkM _ _ _ (⟨(⟨(rd_T51 x6_1 t189).f0.f0, (rd_T51 x6_1 t189).f0.f1⟩ : S48), IntKind.u64.wrap (((rd_T51 x6_1 t189).f1) + ((rd_T52 l1 x7_1).f1)), (rd_T51 x6_1 t189).f2⟩ : S51) ) (fun _ hk => hk)).1
            rw [← Ny194.out] at HP46
            have HQ46 := Aside0.mk HP46
            clear hcl46 hcc46 hfr46 hM46 HP46
            refine start_ (n := 13) (S := fun w' => w'.cell? ⟨gb188, 0, none⟩ = some (.int .i64 ((rd_T52 l1 x7_1).f0.f0)) ∧ w'.cell? ⟨gb188, 1, none⟩ = some (.int .i64 ((rd_T52 l1 x7_1).f0.f1)) ∧ w'.cell? ⟨gb188, 2, none⟩ = some (.int .u64 ((rd_T52 l1 x7_1).f1)) ∧ w'.cell? ⟨gb188, 3, none⟩ = some (.int .i64 ((rd_T52 l1 x7_1).f2)) ∧ w'.cell? ⟨go36, ((t189).toNat * 4), none⟩ = some (.int .i64 ((rd_T51 x6_1 t189).f0.f0)) ∧ w'.cell? ⟨go36, ((t189).toNat * 4) + 1, none⟩ = some (.int .i64 ((rd_T51 x6_1 t189).f0.f1)) ∧ w'.cell? ⟨go36, ((t189).toNat * 4) + 2, none⟩ = some (.int .u64 ((rd_T51 x6_1 t189).f1)) ∧ w'.cell? ⟨go36, ((t189).toNat * 4) + 3, none⟩ = some (.int .i64 ((rd_T51 x6_1 t189).f2))) (ds := [12]) (bm 13 0) (by kernel_rfl) rfl rfl ⟨(blk_cell BK188.out 0).trans rfl, (blk_cell BK188.out 1).trans rfl, (blk_cell BK188.out 2).trans rfl, (blk_cell BK188.out 3).trans rfl, hx193_0, hx193_1, hx193_2, hx193_3⟩ (fun hHeld => ?_); refine with_tabW ensembleref05_More.tab15 ensembleref05_More.bits15 (fun HT_ HW_ => ?_)
            generalize w44.drew = w45 at HO_6 BK188 HB GG36 HQ46 hf36_0 hf36_1 hf36_2 hf36_3 hx190_0 hx190_1 hx190_2 hx190_3 hx192_0 hx192_1 hx192_2 hx192_3 hx193_0 hx193_1 hx193_2 hx193_3 hx36_0 hx36_1 hx36_2 hx36_3 hHeld ⊢
            refine pu 0 (some 50) (bm 13 1) ?_
            refine pu 1 (some 51) (bm 13 3) ?_
            refine pu 2 (some 52) (bm 13 7) ?_
            refine pu 3 (some 53) (bm 13 15) ?_
            refine pu 4 (some 54) (bm 13 31) ?_
            refine pu 5 (some 55) (bm 13 63) ?_
            refine pu 7 (some 57) (bm 13 191) ?_
            refine tk8 6 (some 56) (bm 13 255) ?_
            refine tk8 8 (some 58) (bm 13 511) ?_
            refine pu 9 (some 59) (bm 13 1023) ?_
            refine pu 10 (some 60) (bm 13 2047) ?_
            refine pu 11 (some 61) (bm 13 4095) ?_
            refine last_ (i := 12) (N := none) (bm 13 8191) rfl rfl (one_of HT_.out (by kernel_rfl)) (by decide) (fun K hK => ?_)
            refine skip_ (w1 := ?_) (by rfl) rfl ?_ ?_
            rotate_left
            ·go_simp
             rfl
            refine hK.out _ _ ?_
            clear hK K
            refine done_ (done_of HT_.out (by kernel_rfl)) ?_
            try go_wp2
            have n0_ : Aside0 (Kd.R k51 51 (w45.setCell ⟨go36, (t189 : Int).toNat * 4 + 2, none⟩ (.int .u64 (IntKind.u64.wrap (((rd_T51 x6_1 t189).f1) + ((rd_T52 l1 x7_1).f1))))) w.heap.size (fun _ => True) (.slice (some ⟨go36, 0, none⟩) x6_1.length co40) y194) := ⟨by (with_reducible repeat (first | apply Kd.R_alloc | apply Kd.R_drewN | apply Kd.R_drew)); exact HQ46.out⟩
            have n1_ : Aside0 ((w45.setCell ⟨go36, (t189 : Int).toNat * 4 + 2, none⟩ (.int .u64 (IntKind.u64.wrap (((rd_T51 x6_1 t189).f1) + ((rd_T52 l1 x7_1).f1))))).heap[gb188]? = some (.cells #[.int .i64 ((rd_T52 l1 x7_1).f0.f0), .int .i64 ((rd_T52 l1 x7_1).f0.f1), .int .u64 ((rd_T52 l1 x7_1).f1), .int .i64 ((rd_T52 l1 x7_1).f2)] 52 (0, 0))) := ⟨by (with_reducible repeat (first | refine blk_drewN ?_ _ | refine blk_drew ?_ | refine blk_alloc ?_ _)); refine blk_far ?_ (by have h_ := Kd.R_ne HO_6.out BK188.out (by decide); intro e_; exact h_ (by rw [e_]; rfl)) _; (with_reducible repeat (first | refine blk_drewN ?_ _ | refine blk_drew ?_ | refine blk_alloc ?_ _)); exact BK188.out⟩
            have n2_ : Aside0 (Below w.heap.size w (w45.setCell ⟨go36, (t189 : Int).toNat * 4 + 2, none⟩ (.int .u64 (IntKind.u64.wrap (((rd_T51 x6_1 t189).f1) + ((rd_T52 l1 x7_1).f1)))))) := ⟨by repeat (first | (with_reducible first | exact HB.out | apply below_alloc | apply pw_below_drewN | apply below_drew1 | refine below_set ?_ GB36.out | refine below_set ?_ GE188.out) | exact HB.out)⟩
            (try clear HO_6)
            (try clear BK188)
            (try clear HB)
            generalize (w45.setCell ⟨go36, (t189 : Int).toNat * 4 + 2, none⟩ (.int .u64 (IntKind.u64.wrap (((rd_T51 x6_1 t189).f1) + ((rd_T52 l1 x7_1).f1))))) = w47 at n0_ n1_ n2_ ⊢
            have HO_6 := n0_
            have BK188 := n1_
            have HB := n2_
            clear n0_ n1_ n2_
            replace HO_6 := Aside0.mk (Kd.R_drew HO_6.out)
            replace BK188 := Aside0.mk (blk_drew BK188.out)
            replace HB := Aside0.mk (below_drew1 HB.out)
            have p195 : 0 ≤ (t189 : Int) := of_decide_eq_true Z1
            have q195 : t189 < (y194.length : Int) := (by have h_ : (t189 : Int) < ((x6_1.length : Int) : Int) := of_decide_eq_true Z1; first | (have e_ := (Kd.R_reads' HO_6.out).1; omega) | simpa only [Ny194.out, List.length_set] using h_)
            have ql195 : ((t189 : Int) < ((x6_1.length : Int) : Int)) = True := eq_true (of_decide_eq_true Z1)
            obtain ⟨ad195, e195, hx195_0, hx195_1, hx195_2, hx195_3⟩ := at_T51 (Kd.R_reads' HO_6.out).2.2 t189 p195 q195
            obtain rfl : (⟨go36, 0, none⟩ : Addr) = ad195 := (by injection e195)
            (first | simp only [add_plain] at hx195_0 | simp only [add_at] at hx195_0 | simp only [Addr.add, Nat.zero_add] at hx195_0 | skip)
            (first | simp only [add_plain] at hx195_1 | simp only [add_at] at hx195_1 | simp only [Addr.add, Nat.zero_add] at hx195_1 | skip)
            (first | simp only [add_plain] at hx195_2 | simp only [add_at] at hx195_2 | simp only [Addr.add, Nat.zero_add] at hx195_2 | skip)
            (first | simp only [add_plain] at hx195_3 | simp only [add_at] at hx195_3 | simp only [Addr.add, Nat.zero_add] at hx195_3 | skip)
            replace p195 := eq_true p195
            replace q195 := eq_true q195
            have p37 : 0 ≤ (t189 : Int) := of_decide_eq_true Z1
            have q37 : (t189 : Int) < ((x6_1.length : Int) : Int) := of_decide_eq_true Z1
            obtain ⟨ce37, hcl37, hM37, hcc37, hfr37⟩ := Kd.R_elem HO_6.out z51 (t189 : Int) p37 q37
            obtain rfl := k51_openM hM37
            have hx37_0 : World.cell? _ ⟨go36, (t189 : Int).toNat * 4, none⟩ = some (.int .i64 ((rd_T51 y194 t189).f0.f0)) := hcc37 0 _ rfl
            have hx37_1 : World.cell? _ ⟨go36, (t189 : Int).toNat * 4 + 1, none⟩ = some (.int .i64 ((rd_T51 y194 t189).f0.f1)) := hcc37 1 _ rfl
            have hx37_2 : World.cell? _ ⟨go36, (t189 : Int).toNat * 4 + 2, none⟩ = some (.int .u64 ((rd_T51 y194 t189).f1)) := hcc37 2 _ rfl
            have hx37_3 : World.cell? _ ⟨go36, (t189 : Int).toNat * 4 + 3, none⟩ = some (.int .i64 ((rd_T51 y194 t189).f2)) := hcc37 3 _ rfl
            have hf37_0 : World.frozen? _ ⟨go36, (t189 : Int).toNat * 4, none⟩ = false := hfr37 0
            have hf37_1 : World.frozen? _ ⟨go36, (t189 : Int).toNat * 4 + 1, none⟩ = false := hfr37 1
            have hf37_2 : World.frozen? _ ⟨go36, (t189 : Int).toNat * 4 + 2, none⟩ = false := hfr37 2
            have hf37_3 : World.frozen? _ ⟨go36, (t189 : Int).toNat * 4 + 3, none⟩ = false := hfr37 3
            clear hcl37 hcc37 hfr37 hM37
            replace p37 := eq_true p37
            replace q37 := eq_true q37
            obtain ⟨ce49, hcl49, hM49, hcc49, hfr49⟩ := Kd.R_elem HO_6.out z51 (t189 : Int) (of_decide_eq_true Z1) (by have h_ : (t189 : Int) < ((x6_1.length : Int) : Int) := of_decide_eq_true Z1; first | exact h_ | (have e_ := (Kd.R_reads' HO_6.out).1; omega) | simpa using h_)
            obtain rfl := k51_openM hM49
            have HP49 := (Kd.R_seg HO_6.out (t189 : Int) (of_decide_eq_true Z1) (by have h_ : (t189 : Int) < ((x6_1.length : Int) : Int) := of_decide_eq_true Z1; first | exact h_ | (have e_ := (Kd.R_reads' HO_6.out).1; omega) | simpa using h_) (seg := [.int .i64 (wrap64 (((rd_T51 y194 t189).f2) + ((rd_T52 l1 x7_1).f2)))]) (j := 3) hcl49 hcc49 (show 4 ≤ 4 from by decide) (x' := (⟨(⟨(rd_T51 y194 t189).f0.f0, (rd_T51 y194 t189).f0.f1⟩ : S48), (rd_T51 y194 t189).f1, wrap64 (((rd_T51 y194 t189).f2) + ((rd_T52 l1 x7_1).f2))⟩ : S51)) (k51_mkM _ _ _ (⟨(⟨(rd_T51 y194 t189).f0.f0, (rd_T51 y194 t189).f0.f1⟩ : S48), (rd_T51 y194 t189).f1, wrap64 (((rd_T51 y194 t189).f2) + ((rd_T52 l1 x7_1).f2))⟩ : S51) ) (fun _ hk => hk)).1
            rw [← Ny196.out] at HP49
            have HQ49 := Aside0.mk HP49
            clear hcl49 hcc49 hfr49 hM49 HP49
            refine start_ (n := 13) (S := fun w' => w'.cell? ⟨gb188, 0, none⟩ = some (.int .i64 ((rd_T52 l1 x7_1).f0.f0)) ∧ w'.cell? ⟨gb188, 1, none⟩ = some (.int .i64 ((rd_T52 l1 x7_1).f0.f1)) ∧ w'.cell? ⟨gb188, 2, none⟩ = some (.int .u64 ((rd_T52 l1 x7_1).f1)) ∧ w'.cell? ⟨gb188, 3, none⟩ = some (.int .i64 ((rd_T52 l1 x7_1).f2)) ∧ w'.cell? ⟨go36, (t189).toNat * 4, none⟩ = some (.int .i64 ((rd_T51 y194 t189).f0.f0)) ∧ w'.cell? ⟨go36, (t189).toNat * 4 + 1, none⟩ = some (.int .i64 ((rd_T51 y194 t189).f0.f1)) ∧ w'.cell? ⟨go36, (t189).toNat * 4 + 2, none⟩ = some (.int .u64 ((rd_T51 y194 t189).f1)) ∧ w'.cell? ⟨go36, (t189).toNat * 4 + 3, none⟩ = some (.int .i64 ((rd_T51 y194 t189).f2))) (ds := [12]) (bm 13 0) (by kernel_rfl) rfl rfl ⟨(blk_cell BK188.out 0).trans rfl, (blk_cell BK188.out 1).trans rfl, (blk_cell BK188.out 2).trans rfl, (blk_cell BK188.out 3).trans rfl, hx195_0, hx195_1, hx195_2, hx195_3⟩ (fun hHeld => ?_); refine with_tabW ensembleref05_More.tab16 ensembleref05_More.bits16 (fun HT_ HW_ => ?_)
            generalize w47.drew = w48 at HO_6 BK188 HB HQ46 HQ49 hf37_0 hf37_1 hf37_2 hf37_3 hx195_0 hx195_1 hx195_2 hx195_3 hx37_0 hx37_1 hx37_2 hx37_3 hHeld ⊢
            refine pu 0 (some 62) (bm 13 1) ?_
            refine pu 1 (some 63) (bm 13 3) ?_
            refine pu 2 (some 64) (bm 13 7) ?_
            refine pu 3 (some 65) (bm 13 15) ?_
            refine pu 4 (some 66) (bm 13 31) ?_
            refine pu 5 (some 67) (bm 13 63) ?_
            refine pu 7 (some 69) (bm 13 191) ?_
            refine tk8 6 (some 68) (bm 13 255) ?_
            refine tk8 8 (some 70) (bm 13 511) ?_
            refine pu 9 (some 71) (bm 13 1023) ?_
            refine pu 10 (some 72) (bm 13 2047) ?_
            refine pu 11 (some 73) (bm 13 4095) ?_
            refine last_ (i := 12) (N := none) (bm 13 8191) rfl rfl (one_of HT_.out (by kernel_rfl)) (by decide) (fun K hK => ?_)
            refine skip_ (w1 := ?_) (by rfl) rfl ?_ ?_
            rotate_left
            ·go_simp
             rfl
            refine hK.out _ _ ?_
            clear hK K
            refine done_ (done_of HT_.out (by kernel_rfl)) ?_
            try go_wp2
            go_roundg k1
            case measure => have := HK1.out; omega
            case rel => exact ⟨(y196), (wrap64 (x7_1 + 1)), Z6, H', ⟨by have := HK1.out; omega⟩, ⟨by (with_reducible repeat (first | apply Kd.R_alloc | apply Kd.R_drewN | apply Kd.R_drew)); exact HQ49.out⟩, ⟨by repeat (first | (with_reducible first | exact HB.out | apply below_alloc | apply pw_below_drewN | apply below_drew1 | refine below_set ?_ GB36.out | refine below_set ?_ GE188.out) | exact HB.out)⟩⟩
         ·rw [if_neg c19] at H
          exact absurd H (by simp)
        ·rw [if_neg c18] at H
         exact absurd H (by simp)
     ·rw [if_neg c8] at H
      exact absurd H (by simp)
    ·rw [if_neg c7] at H
     have c7b0 : decide (x7_1 < (l1.length : Int)) = false := decide_eq_false c7
     clear c7
     simp only [Option.some.injEq, Prod.mk.injEq] at H
     obtain ⟨rfl, rfl⟩ := H
     go_wp2
     go_ret2
     exact ⟨_, by first | rfl | (simp [errW_none, errW_some] <;> rfl) | (simp [*, errW_none, errW_some] <;> rfl), by (with_reducible repeat (first | apply Kd.R_alloc | apply Kd.R_drewN | apply Kd.R_drew)); exact HO_6.out, hb_⟩
 ·rw [if_neg c3] at H
  exact absurd H (by simp)
end Go.Proofs.Ytckhjehibjdjdaa.P
namespace Go.Proofs.Ytckhjehibjdjdaa.P
open Go.RowKit Go.Proofs.YtckhjehibjdjdaaW.PrintWords Go.Proofs.YtckhjehibjdjdaaW.PrintLast Go.Proofs.YtckhjehibjdjdaaW.PrintMore
attribute [local go_sem] max2_int min2_int max_two min_two max_three min_three max_four min_four
set_option linter.unusedVariables false
set_option linter.unusedSimpArgs false
def ensembleref01_bit.l0 : Nat → Int → Int → Int → Option (Int)
 | 0, _, _, _ => none
 | k + 1, x0, x3, x4 => if x4 < x0 then (ensembleref01_bit.l0 k x0 (IntKind.u64.wrap (x3 * 2)) (wrap64 (x4 + 1))) else (some x3)
def ensembleref01_bit.f (k : Nat) (a0 : Int) : Option (Int) := ensembleref01_bit.l0 k a0 1 0
set_option maxHeartbeats 8000000 in
set_option maxRecDepth 100000 in
theorem ensembleref01_bit.calls (k : Nat) (a0 : Int) (r : Int) (w : World) (h : ensembleref01_bit.f k a0 = some r) :
  Calls Try.prog 134 #[.int .i64 a0] w fun e w' => e = .returned (.int .u64 r) ∧ Drawn0 w w' := by
 have H : (ensembleref01_bit.l0 k a0 1 0) = some r := h
 clear h
 have H' := Aside0.mk H
 clear H
 go_enter Try.func134, Try.ntmps134
 go_wp2
 go_loopg [3, 4] k (fun kq v3 v4 w' => ∃ (x3_1 : Int) (x4_1 : Int), v3 = .int .u64 x3_1 ∧ v4 = .int .i64 x4_1 ∧ Aside0 (ensembleref01_bit.l0 kq a0 x3_1 x4_1 = some r) ∧ Aside0 (kq ≤ k) ∧ Drawn0 w w')
 case atStart => exact ⟨(1), (0), Z6, Z6, H', ⟨Nat.le_refl _⟩, by repeat (first | exact Drawn0.refl _ | apply Drawn0.step)⟩
 case round =>
  clear H'
  try clear c1
  obtain ⟨x3_1, x4_1, rfl, rfl, HA, HK1, ⟨m1, rfl⟩⟩ := hrel
  cases gk with
  | zero => exact absurd HA.out (by simp [ensembleref01_bit.l0])
  | succ k1 =>
   have H := HA.out
   clear HA
   simp only [ensembleref01_bit.l0] at H
   by_cases c2 : x4_1 < a0
   ·rw [if_pos c2] at H
    have c2b0 : decide (x4_1 < a0) = true := decide_eq_true c2
    clear c2
    have H' := Aside0.mk H
    clear H
    go_wp2
    go_roundg k1
    case measure => have := HK1.out; omega
    case rel => exact ⟨(IntKind.u64.wrap (x3_1 * 2)), (wrap64 (x4_1 + 1)), Z6, Z6, H', ⟨by have := HK1.out; omega⟩, by repeat (first | exact Drawn0.refl _ | apply Drawn0.step)⟩
   ·rw [if_neg c2] at H
    have c2b0 : decide (x4_1 < a0) = false := decide_eq_false c2
    clear c2
    obtain rfl := Option.some.inj H
    go_wp2
    go_ret
    exact ⟨by first | rfl | (simp; done) | (simp [*]; done), by repeat (first | exact Drawn0.refl _ | apply Drawn0.step)⟩
end Go.Proofs.Ytckhjehibjdjdaa.P
namespace Go.Proofs.Ytckhjehibjdjdaa.P
open Go.RowKit Go.Proofs.YtckhjehibjdjdaaW.PrintWords Go.Proofs.YtckhjehibjdjdaaW.PrintLast Go.Proofs.YtckhjehibjdjdaaW.PrintMore
attribute [local go_sem] max2_int min2_int max_two min_two max_three min_three max_four min_four
set_option linter.unusedVariables false
set_option linter.unusedSimpArgs false
def ensembleref01_Lowest.l0 : Nat → Int → List Int → Int → Int → Option (Int × Int)
 | 0, _, _, _, _ => none
 | k + 1, x1, x6, x7, x8 => if x8 < x1 then (if 0 ≤ x8 then (if x8 < (x6.length : Int) then ((ensembleref01_bit.f k (rd x6 x8)).bind fun t142 => (ensembleref01_Lowest.l0 k x1 x6 (IntKind.u64.wrap (x7 + t142)) (wrap64 (x8 + 1)))) else (none)) else (none)) else (some (x7, 0))
def ensembleref01_Lowest.f (k : Nat) (a0 : Int) (a1 : Int) : Option (Int × Int) := if a1 < 0 then (some (0, 1)) else ((ensembleref01_Units.f k a0).bind fun t138 => (if a1 > (t138.length : Int) then (some (0, 2)) else (ensembleref01_Lowest.l0 k a1 t138 0 0)))
set_option maxHeartbeats 8000000 in
set_option maxRecDepth 100000 in
theorem ensembleref01_Lowest.calls (k : Nat) (a0 : Int) (a1 : Int) (r1 : Int) (r2 : Int) (w : World) (h : ensembleref01_Lowest.f k a0 a1 = some (r1, r2)) :
  Calls Try.prog 115 #[.int .u64 a0, .int .i64 a1] w fun e w' => e = .returned (.tuple #[.int .u64 r1, .int .i64 r2]) ∧ Below w.heap.size w w' := by
 have HB := Aside0.mk (Below.refl w.heap.size w)
 have H : (if a1 < 0 then (some (0, 1)) else ((ensembleref01_Units.f k a0).bind fun t138 => (if a1 > (t138.length : Int) then (some (0, 2)) else (ensembleref01_Lowest.l0 k a1 t138 0 0)))) = some (r1, r2) := h
 clear h
 by_cases c3 : a1 < 0
 ·rw [if_pos c3] at H
  have c3b0 : decide (a1 < 0) = true := decide_eq_true c3
  clear c3
  simp only [Option.some.injEq, Prod.mk.injEq] at H
  obtain ⟨rfl, rfl⟩ := H
  go_enter Try.func115, Try.ntmps115
  go_wp2
  go_ret2
  exact ⟨by first | rfl | (simp [errW_none, errW_some] <;> rfl) | (simp [*, errW_none, errW_some] <;> rfl), hb_⟩
 ·rw [if_neg c3] at H
  have c3b0 : decide (a1 < 0) = false := decide_eq_false c3
  clear c3
  replace H := Option.bind_eq_some_iff.mp H
  obtain ⟨t138, A40, H⟩ := H
  replace H : (if a1 > (t138.length : Int) then (some (0, 2)) else (ensembleref01_Lowest.l0 k a1 t138 0 0)) = some (r1, r2) := H
  have A4 := Aside0.mk A40
  clear A40
  by_cases c5 : a1 > (t138.length : Int)
  ·rw [if_pos c5] at H
   have c5b0 : decide ((t138.length : Int) < a1) = true := decide_eq_true c5
   clear c5
   simp only [Option.some.injEq, Prod.mk.injEq] at H
   obtain ⟨rfl, rfl⟩ := H
   go_enter Try.func115, Try.ntmps115
   go_wp2_with (first | ((with_reducible refine gate_callee (f := 82) rfl ?_); refine goesL_ (some 12) rfl rfl Try.func82 (by kernel_rfl) rfl #[.int .u64 a0] rfl Z0 ?_; (with_reducible refine (ensembleref01_Units.calls k a0 t138 _ A4.out).mono ?_); rintro e w6 ⟨v139, rfl, ho0, hb⟩; refine ⟨_, rfl, ?_⟩; have HO140 := Aside0.mk (Kd.R_lower ho0 (below_size hb_)); replace HB := hs_ hb; (try clear hb); (try clear hb2); (try clear hk); (try clear hi); (try clear ho0); obtain ⟨Ao7, co7, eo7⟩ := Kd.R_slice HO140.out; subst eo7))
   go_ret2
   exact ⟨by first | rfl | (simp [errW_none, errW_some] <;> rfl) | (simp [*, errW_none, errW_some] <;> rfl), hb_⟩
  ·rw [if_neg c5] at H
   have c5b0 : decide ((t138.length : Int) < a1) = false := decide_eq_false c5
   clear c5
   have H' := Aside0.mk H
   clear H
   go_enter Try.func115, Try.ntmps115
   go_wp2_with (first | ((with_reducible refine gate_callee (f := 82) rfl ?_); refine goesL_ (some 12) rfl rfl Try.func82 (by kernel_rfl) rfl #[.int .u64 a0] rfl Z0 ?_; (with_reducible refine (ensembleref01_Units.calls k a0 t138 _ A4.out).mono ?_); rintro e w8 ⟨v139, rfl, ho0, hb⟩; refine ⟨_, rfl, ?_⟩; have HO140 := Aside0.mk (Kd.R_lower ho0 (below_size hb_)); replace HB := hs_ hb; (try clear hb); (try clear hb2); (try clear hk); (try clear hi); (try clear ho0); obtain ⟨Ao9, co9, eo9⟩ := Kd.R_slice HO140.out; subst eo9))
   go_loopg [7, 8] k (fun kq v7 v8 w' => ∃ (x7_1 : Int) (x8_1 : Int), v7 = .int .u64 x7_1 ∧ v8 = .int .i64 x8_1 ∧ Aside0 (ensembleref01_Lowest.l0 kq a1 t138 x7_1 x8_1 = some (r1, r2)) ∧ Aside0 (kq ≤ k) ∧ Aside0 (Kd.R (Kd.int .i64) 3 w' w.heap.size (fun _ => True) (.slice Ao9 t138.length co9) t138) ∧ Aside0 (Below w.heap.size w w'))
   case atStart => exact ⟨(0), (0), Z6, Z6, H', ⟨Nat.le_refl _⟩, ⟨by (with_reducible repeat (first | apply Kd.R_alloc | apply Kd.R_drewN | apply Kd.R_drew)); exact HO140.out⟩, ⟨hb_⟩⟩
   case round =>
    clear H'
    try clear c1
    try clear p2
    try clear c3
    try clear c3b0
    try clear c5
    try clear c5b0
    try clear c8
    obtain ⟨x7_1, x8_1, rfl, rfl, HA, HK1, HO_6, HB⟩ := hrel
    cases gk with
    | zero => exact absurd HA.out (by simp [ensembleref01_Lowest.l0])
    | succ k1 =>
     have H := HA.out
     clear HA
     simp only [ensembleref01_Lowest.l0] at H
     by_cases c10 : x8_1 < a1
     ·rw [if_pos c10] at H
      have c10b0 : decide (x8_1 < a1) = true := decide_eq_true c10
      clear c10
      by_cases c11 : 0 ≤ x8_1
      ·rw [if_pos c11] at H
       have c11b0 : decide (0 ≤ x8_1) = true := decide_eq_true c11
       clear c11
       by_cases c12 : x8_1 < (t138.length : Int)
       ·rw [if_pos c12] at H
        have c12b0 : decide (x8_1 < (t138.length : Int)) = true := decide_eq_true c12
        clear c12
        replace H := Option.bind_eq_some_iff.mp H
        obtain ⟨t142, A130, H⟩ := H
        replace H : (ensembleref01_Lowest.l0 k1 a1 t138 (IntKind.u64.wrap (x7_1 + t142)) (wrap64 (x8_1 + 1))) = some (r1, r2) := H
        have A13 := Aside0.mk A130
        clear A130
        have H' := Aside0.mk H
        clear H
        have p141 : 0 ≤ (x8_1 : Int) := of_decide_eq_true Z1
        have q141 : x8_1 < (t138.length : Int) := of_decide_eq_true Z1
        obtain ⟨ad141, e141, hx141_0⟩ := Kd.at_int (Kd.R_reads' HO_6.out).2.2 x8_1 p141 q141
        cases e141
        replace p141 := eq_true p141
        replace q141 := eq_true q141
        go_wp2_with (first | ((with_reducible refine gate_callee (f := 134) rfl ?_); refine goesL_ (some 27) rfl rfl Try.func134 (by kernel_rfl) rfl #[.int .i64 (rd t138 x8_1)] rfl Z0 ?_; (with_reducible refine (ensembleref01_bit.calls k1 (rd t138 x8_1) t142 _ A13.out).mono ?_); rintro e w' ⟨rfl, ⟨nd, rfl⟩⟩; refine ⟨_, rfl, ?_⟩))
        go_roundg k1
        case measure => have := HK1.out; omega
        case rel => exact ⟨(IntKind.u64.wrap (x7_1 + t142)), (wrap64 (x8_1 + 1)), Z6, Z6, H', ⟨by have := HK1.out; omega⟩, ⟨by (with_reducible repeat (first | apply Kd.R_alloc | apply Kd.R_drewN | apply Kd.R_drew)); exact HO_6.out⟩, ⟨hb_⟩⟩
       ·rw [if_neg c12] at H
        exact absurd H (by simp)
      ·rw [if_neg c11] at H
       exact absurd H (by simp)
     ·rw [if_neg c10] at H
      have c10b0 : decide (x8_1 < a1) = false := decide_eq_false c10
      clear c10
      simp only [Option.some.injEq, Prod.mk.injEq] at H
      obtain ⟨rfl, rfl⟩ := H
      go_wp2
      go_ret2
      exact ⟨by first | rfl | (simp [errW_none, errW_some] <;> rfl) | (simp [*, errW_none, errW_some] <;> rfl), hb_⟩
end Go.Proofs.Ytckhjehibjdjdaa.P
namespace Go.Proofs.Ytckhjehibjdjdaa.P
open Go.RowKit Go.Proofs.YtckhjehibjdjdaaW.PrintWords Go.Proofs.YtckhjehibjdjdaaW.PrintLast Go.Proofs.YtckhjehibjdjdaaW.PrintMore
attribute [local go_sem] max2_int min2_int max_two min_two max_three min_three max_four min_four
set_option linter.unusedVariables false
set_option linter.unusedSimpArgs false
def ensembleref04_Piece.f (k : Nat) (a0_0 : Int) (a0_1 : Int) (a0_2 : Int) (a0_3 : Int) (a1_0 : Int) (a1_1 : Int) (a1_2 : Int) (a1_3 : Int) : Option (Int × Int × Int × Int × Int × Int × Int × Int × Int) := (ensembleref01_Lowest.f k a1_2 a0_0).bind fun bt147 => (if bt147.2 = 0 then (if a1_3 < 0 then (some (0, 0, 0, 0, 0, 0, 0, 0, 7)) else (if a1_3 < a0_1 then (some (0, 0, 0, 0, 0, 0, 0, 0, 7)) else (some (a1_0, a1_1, bt147.1, a0_1, a1_0, a1_1, IntKind.u64.wrap (a1_2 - bt147.1), wrap64 (a1_3 - a0_1), 0)))) else (some (0, 0, 0, 0, 0, 0, 0, 0, 7)))
def ensembleref04_Piece.T4 : Bool × List (List Nat × List Nat) := (true, [([], []), ([0], [0]), ([], []), ([], []), ([3], [3]), ([1, 2, 4], [1, 2, 4]), ([], []), ([6], [6]), ([], []), ([8], [8]), ([], []), ([9, 10], [9, 10]), ([], []), ([12], [12]), ([], []), ([14], [14]), ([13, 15], [13, 15]), ([7, 11, 16], [7, 11, 16]), ([5, 0, 1, 2, 3, 4, 5], [5]), ([17, 18, 0, 1, 2, 3, 4, 5, 6, 7, 8, 9, 10, 11, 12, 13, 14, 15, 16, 17, 18], [17]), ([19, 0, 1, 2, 3, 4, 5, 6, 7, 8, 9, 10, 11, 12, 13, 14, 15, 16, 17, 18, 19], [])])
def ensembleref04_Piece.B4 : List Nat := [0, 1, 0, 0, 8, 31, 0, 64, 0, 256, 0, 1792, 0, 4096, 0, 16384, 61440, 131008, 63, 524287, 1048575]
theorem ensembleref04_Piece.tab4 : rtab .any (opsOf Try.f89 4) = ensembleref04_Piece.T4 := by kernel_rfl
theorem ensembleref04_Piece.bits4 : waitsOk ensembleref04_Piece.T4.2 ensembleref04_Piece.B4 = true := by kernel_rfl
set_option maxHeartbeats 8000000 in
set_option maxRecDepth 100000 in
theorem ensembleref04_Piece.calls (k : Nat) (a0_0 : Int) (a0_1 : Int) (a0_2 : Int) (a0_3 : Int) (a1_0 : Int) (a1_1 : Int) (a1_2 : Int) (a1_3 : Int) (r1 : Int) (r2 : Int) (r3 : Int) (r4 : Int) (r5 : Int) (r6 : Int) (r7 : Int) (r8 : Int) (r9 : Int) (w : World) (h : ensembleref04_Piece.f k a0_0 a0_1 a0_2 a0_3 a1_0 a1_1 a1_2 a1_3 = some (r1, r2, r3, r4, r5, r6, r7, r8, r9)) :
  Calls Try.prog 89 #[.agg #[.int .i64 a0_0, .int .i64 a0_1, .int .i64 a0_2, .int .i64 a0_3], .agg #[.int .i64 a1_0, .int .i64 a1_1, .int .u64 a1_2, .int .i64 a1_3]] w fun e w' => e = .returned (.tuple #[.agg #[.int .i64 r1, .int .i64 r2, .int .u64 r3, .int .i64 r4], .agg #[.int .i64 r5, .int .i64 r6, .int .u64 r7, .int .i64 r8], .int .i64 r9]) ∧ Below w.heap.size w w' := by
 have hu27 := Try.underlying27
 have hu51 := Try.underlying51
 have hu52 := Try.underlying52
 have hu48 := Try.underlying48
 have HB := Aside0.mk (Below.refl w.heap.size w)
 have H : ((ensembleref01_Lowest.f k a1_2 a0_0).bind fun bt147 => (if bt147.2 = 0 then (if a1_3 < 0 then (some (0, 0, 0, 0, 0, 0, 0, 0, 7)) else (if a1_3 < a0_1 then (some (0, 0, 0, 0, 0, 0, 0, 0, 7)) else (some (a1_0, a1_1, bt147.1, a0_1, a1_0, a1_1, IntKind.u64.wrap (a1_2 - bt147.1), wrap64 (a1_3 - a0_1), 0)))) else (some (0, 0, 0, 0, 0, 0, 0, 0, 7)))) = some (r1, r2, r3, r4, r5, r6, r7, r8, r9) := h
 clear h
 replace H := Option.bind_eq_some_iff.mp H
 obtain ⟨⟨t147, t148⟩, A30, H⟩ := H
 replace H : (if t148 = 0 then (if a1_3 < 0 then (some (0, 0, 0, 0, 0, 0, 0, 0, 7)) else (if a1_3 < a0_1 then (some (0, 0, 0, 0, 0, 0, 0, 0, 7)) else (some (a1_0, a1_1, t147, a0_1, a1_0, a1_1, IntKind.u64.wrap (a1_2 - t147), wrap64 (a1_3 - a0_1), 0)))) else (some (0, 0, 0, 0, 0, 0, 0, 0, 7))) = some (r1, r2, r3, r4, r5, r6, r7, r8, r9) := H
 have A3 := Aside0.mk A30
 clear A30
 by_cases c4 : t148 = 0
 ·rw [if_pos c4] at H
  have c4b0 : (t148 == 0) = true := beq_iff_eq.mpr c4
  have c4b1 : (t148 != 0) = false := bne_eq_false_iff_eq.mpr c4
  clear c4
  by_cases c5 : a1_3 < 0
  ·rw [if_pos c5] at H
   have c5b0 : decide (a1_3 < 0) = true := decide_eq_true c5
   clear c5
   simp only [Option.some.injEq, Prod.mk.injEq] at H
   obtain ⟨rfl, rfl, rfl, rfl, rfl, rfl, rfl, rfl, rfl⟩ := H
   go_enter Try.func89, Try.ntmps89
   go_wp2_with (first | ((with_reducible refine gate_dst (N := 2) rfl ?_); refine bx 2 #[.int .i64 a0_0, .int .i64 a0_1, .int .i64 a0_2, .int .i64 a0_3] 27 ?_; intro gb143 hg w6 hbox hb; have BK143 := Aside0.mk (hbox); have GW143 := ge_ hg; have GE143 := ge_ hg; replace HB := hs_ hb; clear hb hbox hg) | ((with_reducible refine gate_dst (N := 3) rfl ?_); refine bx 3 #[.int .i64 a1_0, .int .i64 a1_1, .int .u64 a1_2, .int .i64 a1_3] 51 ?_; intro gb144 hg w7 hbox hb; have BK144 := Aside0.mk (hbox); have GW144 := ge_ hg; have GE144 := ge_ hg; have NB143_144 := nl_ BK143 hg; have NB144_143 := nr_ BK143 hg; replace BK143 := bk_ BK143 hb; replace HB := hs_ hb; clear hb hbox hg) | ((with_reducible refine gate_dst (N := 4) rfl ?_); refine bx 4 #[.int .i64 0, .int .i64 0, .int .u64 0, .int .i64 0] 52 ?_; intro gb145 hg w8 hbox hb; have BK145 := Aside0.mk (hbox); have GW145 := ge_ hg; have GE145 := ge_ hg; have NB143_145 := nl_ BK143 hg; have NB145_143 := nr_ BK143 hg; have NB144_145 := nl_ BK144 hg; have NB145_144 := nr_ BK144 hg; replace BK143 := bk_ BK143 hb; replace BK144 := bk_ BK144 hb; replace HB := hs_ hb; clear hb hbox hg) | ((with_reducible refine gate_dst (N := 5) rfl ?_); refine bx 5 #[.int .i64 0, .int .i64 0, .int .u64 0, .int .i64 0] 51 ?_; intro gb146 hg w9 hbox hb; have BK146 := Aside0.mk (hbox); have GW146 := ge_ hg; have GE146 := ge_ hg; have NB143_146 := nl_ BK143 hg; have NB146_143 := nr_ BK143 hg; have NB144_146 := nl_ BK144 hg; have NB146_144 := nr_ BK144 hg; have NB145_146 := nl_ BK145 hg; have NB146_145 := nr_ BK145 hg; replace BK143 := bk_ BK143 hb; replace BK144 := bk_ BK144 hb; replace BK145 := bk_ BK145 hb; replace HB := hs_ hb; clear hb hbox hg; have hnb10 := NB144_143.out; have hnc10 := NB143_144.out; have hnb11 := NB144_145.out; have hnc11 := NB145_144.out; have hnb12 := NB144_146.out; have hnc12 := NB146_144.out; obtain ⟨hcz13_0, hcz13_1, hcz13_2, hcz13_3, hfz13_0, hfz13_1, hfz13_2, hfz13_3⟩ := bz4_ BK144; have hnb14 := NB143_145.out; have hnc14 := NB145_143.out; have hnb15 := NB143_146.out; have hnc15 := NB146_143.out; obtain ⟨hcz16_0, hcz16_1, hcz16_2, hcz16_3, hfz16_0, hfz16_1, hfz16_2, hfz16_3⟩ := bz4_ BK143) | ((with_reducible refine gate_callee (f := 115) rfl ?_); refine goesL_ (some 14) rfl rfl Try.func115 (by kernel_rfl) rfl #[.int .u64 a1_2, .int .i64 a0_0] rfl Z0 ?_; (with_reducible refine (ensembleref01_Lowest.calls k a1_2 a0_0 t147 t148 _ A3.out).mono ?_); rintro e w17 ⟨rfl, hb⟩; refine ⟨_, rfl, ?_⟩; replace BK143 := bk_ BK143 hb; replace BK144 := bk_ BK144 hb; replace BK145 := bk_ BK145 hb; replace BK146 := bk_ BK146 hb; replace HB := hs_ hb; (try clear hb); (try clear hb2); (try clear hk); (try clear hi); obtain ⟨hcz18_0, hcz18_1, hcz18_2, hcz18_3, hfz18_0, hfz18_1, hfz18_2, hfz18_3⟩ := bz4_ BK144; have hnb19 := NB145_146.out; have hnc19 := NB146_145.out; obtain ⟨hcz20_0, hcz20_1, hcz20_2, hcz20_3, hfz20_0, hfz20_1, hfz20_2, hfz20_3⟩ := bz4_ BK145; obtain ⟨hcz21_0, hcz21_1, hcz21_2, hcz21_3, hfz21_0, hfz21_1, hfz21_2, hfz21_3⟩ := bz4_ BK146))
   refine bodyPost_ret (results_list (rs := [.cell 4 52, .cell 5 51, .tmp 6]) rfl (by simp) (.cell gb145 52 #[.int .i64 0, .int .i64 0, .int .u64 0, .int .i64 0] (0, 0) _ rfl (by (with_reducible repeat (first | refine blk_drewN ?_ _ | refine blk_drew ?_ | refine blk_alloc ?_ _)); refine blk_far ?_ NB145_146.out _; (with_reducible repeat (first | refine blk_drewN ?_ _ | refine blk_drew ?_ | refine blk_alloc ?_ _)); refine blk_far ?_ NB145_146.out _; (with_reducible repeat (first | refine blk_drewN ?_ _ | refine blk_drew ?_ | refine blk_alloc ?_ _)); refine blk_far ?_ NB145_146.out _; (with_reducible repeat (first | refine blk_drewN ?_ _ | refine blk_drew ?_ | refine blk_alloc ?_ _)); refine blk_far ?_ NB145_146.out _; (with_reducible repeat (first | refine blk_drewN ?_ _ | refine blk_drew ?_ | refine blk_alloc ?_ _)); refine blk_put (cs := #[.int .i64 0, .int .i64 0, .int .u64 0, .int .i64 0]) ?_ 3 _ rfl; (with_reducible repeat (first | refine blk_drewN ?_ _ | refine blk_drew ?_ | refine blk_alloc ?_ _)); refine blk_put (cs := #[.int .i64 0, .int .i64 0, .int .u64 0, .int .i64 0]) ?_ 2 _ rfl; (with_reducible repeat (first | refine blk_drewN ?_ _ | refine blk_drew ?_ | refine blk_alloc ?_ _)); refine blk_put (cs := #[.int .i64 0, .int .i64 0, .int .u64 0, .int .i64 0]) ?_ 1 _ rfl; (with_reducible repeat (first | refine blk_drewN ?_ _ | refine blk_drew ?_ | refine blk_alloc ?_ _)); refine blk_put (cs := #[.int .i64 0, .int .i64 0, .int .u64 0, .int .i64 0]) ?_ 0 _ rfl; (with_reducible repeat (first | refine blk_drewN ?_ _ | refine blk_drew ?_ | refine blk_alloc ?_ _)); exact BK145.out) Try.underlying52 rfl (by kernel_rfl) (.cell gb146 51 #[.int .i64 0, .int .i64 0, .int .u64 0, .int .i64 0] (0, 0) _ rfl (by (with_reducible repeat (first | refine blk_drewN ?_ _ | refine blk_drew ?_ | refine blk_alloc ?_ _)); refine blk_put (cs := #[.int .i64 0, .int .i64 0, .int .u64 0, .int .i64 0]) ?_ 3 _ rfl; (with_reducible repeat (first | refine blk_drewN ?_ _ | refine blk_drew ?_ | refine blk_alloc ?_ _)); refine blk_put (cs := #[.int .i64 0, .int .i64 0, .int .u64 0, .int .i64 0]) ?_ 2 _ rfl; (with_reducible repeat (first | refine blk_drewN ?_ _ | refine blk_drew ?_ | refine blk_alloc ?_ _)); refine blk_put (cs := #[.int .i64 0, .int .i64 0, .int .u64 0, .int .i64 0]) ?_ 1 _ rfl; (with_reducible repeat (first | refine blk_drewN ?_ _ | refine blk_drew ?_ | refine blk_alloc ?_ _)); refine blk_put (cs := #[.int .i64 0, .int .i64 0, .int .u64 0, .int .i64 0]) ?_ 0 _ rfl; (with_reducible repeat (first | refine blk_drewN ?_ _ | refine blk_drew ?_ | refine blk_alloc ?_ _)); refine blk_far ?_ NB146_145.out _; (with_reducible repeat (first | refine blk_drewN ?_ _ | refine blk_drew ?_ | refine blk_alloc ?_ _)); refine blk_far ?_ NB146_145.out _; (with_reducible repeat (first | refine blk_drewN ?_ _ | refine blk_drew ?_ | refine blk_alloc ?_ _)); refine blk_far ?_ NB146_145.out _; (with_reducible repeat (first | refine blk_drewN ?_ _ | refine blk_drew ?_ | refine blk_alloc ?_ _)); refine blk_far ?_ NB146_145.out _; (with_reducible repeat (first | refine blk_drewN ?_ _ | refine blk_drew ?_ | refine blk_alloc ?_ _)); exact BK146.out) Try.underlying51 rfl (by kernel_rfl) (.tmp .nil)))) rfl ?_
   exact ⟨by first | rfl | (simp [errW_none, errW_some] <;> rfl) | (simp [*, errW_none, errW_some] <;> rfl), hb_⟩
  ·rw [if_neg c5] at H
   have c5b0 : decide (a1_3 < 0) = false := decide_eq_false c5
   clear c5
   by_cases c22 : a1_3 < a0_1
   ·rw [if_pos c22] at H
    have c22b0 : decide (a1_3 < a0_1) = true := decide_eq_true c22
    clear c22
    simp only [Option.some.injEq, Prod.mk.injEq] at H
    obtain ⟨rfl, rfl, rfl, rfl, rfl, rfl, rfl, rfl, rfl⟩ := H
    go_enter Try.func89, Try.ntmps89
    go_wp2_with (first | ((with_reducible refine gate_dst (N := 2) rfl ?_); refine bx 2 #[.int .i64 a0_0, .int .i64 a0_1, .int .i64 a0_2, .int .i64 a0_3] 27 ?_; intro gb143 hg w23 hbox hb; have BK143 := Aside0.mk (hbox); have GW143 := ge_ hg; have GE143 := ge_ hg; replace HB := hs_ hb; clear hb hbox hg) | ((with_reducible refine gate_dst (N := 3) rfl ?_); refine bx 3 #[.int .i64 a1_0, .int .i64 a1_1, .int .u64 a1_2, .int .i64 a1_3] 51 ?_; intro gb144 hg w24 hbox hb; have BK144 := Aside0.mk (hbox); have GW144 := ge_ hg; have GE144 := ge_ hg; have NB143_144 := nl_ BK143 hg; have NB144_143 := nr_ BK143 hg; replace BK143 := bk_ BK143 hb; replace HB := hs_ hb; clear hb hbox hg) | ((with_reducible refine gate_dst (N := 4) rfl ?_); refine bx 4 #[.int .i64 0, .int .i64 0, .int .u64 0, .int .i64 0] 52 ?_; intro gb145 hg w25 hbox hb; have BK145 := Aside0.mk (hbox); have GW145 := ge_ hg; have GE145 := ge_ hg; have NB143_145 := nl_ BK143 hg; have NB145_143 := nr_ BK143 hg; have NB144_145 := nl_ BK144 hg; have NB145_144 := nr_ BK144 hg; replace BK143 := bk_ BK143 hb; replace BK144 := bk_ BK144 hb; replace HB := hs_ hb; clear hb hbox hg) | ((with_reducible refine gate_dst (N := 5) rfl ?_); refine bx 5 #[.int .i64 0, .int .i64 0, .int .u64 0, .int .i64 0] 51 ?_; intro gb146 hg w26 hbox hb; have BK146 := Aside0.mk (hbox); have GW146 := ge_ hg; have GE146 := ge_ hg; have NB143_146 := nl_ BK143 hg; have NB146_143 := nr_ BK143 hg; have NB144_146 := nl_ BK144 hg; have NB146_144 := nr_ BK144 hg; have NB145_146 := nl_ BK145 hg; have NB146_145 := nr_ BK145 hg; replace BK143 := bk_ BK143 hb; replace BK144 := bk_ BK144 hb; replace BK145 := bk_ BK145 hb; replace HB := hs_ hb; clear hb hbox hg; have hnb27 := NB144_143.out; have hnc27 := NB143_144.out; have hnb28 := NB144_145.out; have hnc28 := NB145_144.out; have hnb29 := NB144_146.out; have hnc29 := NB146_144.out; obtain ⟨hcz30_0, hcz30_1, hcz30_2, hcz30_3, hfz30_0, hfz30_1, hfz30_2, hfz30_3⟩ := bz4_ BK144; have hnb31 := NB143_145.out; have hnc31 := NB145_143.out; have hnb32 := NB143_146.out; have hnc32 := NB146_143.out; obtain ⟨hcz33_0, hcz33_1, hcz33_2, hcz33_3, hfz33_0, hfz33_1, hfz33_2, hfz33_3⟩ := bz4_ BK143) | ((with_reducible refine gate_callee (f := 115) rfl ?_); refine goesL_ (some 14) rfl rfl Try.func115 (by kernel_rfl) rfl #[.int .u64 a1_2, .int .i64 a0_0] rfl Z0 ?_; (with_reducible refine (ensembleref01_Lowest.calls k a1_2 a0_0 t147 t148 _ A3.out).mono ?_); rintro e w34 ⟨rfl, hb⟩; refine ⟨_, rfl, ?_⟩; replace BK143 := bk_ BK143 hb; replace BK144 := bk_ BK144 hb; replace BK145 := bk_ BK145 hb; replace BK146 := bk_ BK146 hb; replace HB := hs_ hb; (try clear hb); (try clear hb2); (try clear hk); (try clear hi); obtain ⟨hcz35_0, hcz35_1, hcz35_2, hcz35_3, hfz35_0, hfz35_1, hfz35_2, hfz35_3⟩ := bz4_ BK144; obtain ⟨hcz36_0, hcz36_1, hcz36_2, hcz36_3, hfz36_0, hfz36_1, hfz36_2, hfz36_3⟩ := bz4_ BK143; have hnb37 := NB145_146.out; have hnc37 := NB146_145.out; obtain ⟨hcz38_0, hcz38_1, hcz38_2, hcz38_3, hfz38_0, hfz38_1, hfz38_2, hfz38_3⟩ := bz4_ BK145; obtain ⟨hcz39_0, hcz39_1, hcz39_2, hcz39_3, hfz39_0, hfz39_1, hfz39_2, hfz39_3⟩ := bz4_ BK146))
    refine bodyPost_ret (results_list (rs := [.cell 4 52, .cell 5 51, .tmp 6]) rfl (by simp) (.cell gb145 52 #[.int .i64 0, .int .i64 0, .int .u64 0, .int .i64 0] (0, 0) _ rfl (by (with_reducible repeat (first | refine blk_drewN ?_ _ | refine blk_drew ?_ | refine blk_alloc ?_ _)); refine blk_far ?_ NB145_146.out _; (with_reducible repeat (first | refine blk_drewN ?_ _ | refine blk_drew ?_ | refine blk_alloc ?_ _)); refine blk_far ?_ NB145_146.out _; (with_reducible repeat (first | refine blk_drewN ?_ _ | refine blk_drew ?_ | refine blk_alloc ?_ _)); refine blk_far ?_ NB145_146.out _; (with_reducible repeat (first | refine blk_drewN ?_ _ | refine blk_drew ?_ | refine blk_alloc ?_ _)); refine blk_far ?_ NB145_146.out _; (with_reducible repeat (first | refine blk_drewN ?_ _ | refine blk_drew ?_ | refine blk_alloc ?_ _)); refine blk_put (cs := #[.int .i64 0, .int .i64 0, .int .u64 0, .int .i64 0]) ?_ 3 _ rfl; (with_reducible repeat (first | refine blk_drewN ?_ _ | refine blk_drew ?_ | refine blk_alloc ?_ _)); refine blk_put (cs := #[.int .i64 0, .int .i64 0, .int .u64 0, .int .i64 0]) ?_ 2 _ rfl; (with_reducible repeat (first | refine blk_drewN ?_ _ | refine blk_drew ?_ | refine blk_alloc ?_ _)); refine blk_put (cs := #[.int .i64 0, .int .i64 0, .int .u64 0, .int .i64 0]) ?_ 1 _ rfl; (with_reducible repeat (first | refine blk_drewN ?_ _ | refine blk_drew ?_ | refine blk_alloc ?_ _)); refine blk_put (cs := #[.int .i64 0, .int .i64 0, .int .u64 0, .int .i64 0]) ?_ 0 _ rfl; (with_reducible repeat (first | refine blk_drewN ?_ _ | refine blk_drew ?_ | refine blk_alloc ?_ _)); exact BK145.out) Try.underlying52 rfl (by kernel_rfl) (.cell gb146 51 #[.int .i64 0, .int .i64 0, .int .u64 0, .int .i64 0] (0, 0) _ rfl (by (with_reducible repeat (first | refine blk_drewN ?_ _ | refine blk_drew ?_ | refine blk_alloc ?_ _)); refine blk_put (cs := #[.int .i64 0, .int .i64 0, .int .u64 0, .int .i64 0]) ?_ 3 _ rfl; (with_reducible repeat (first | refine blk_drewN ?_ _ | refine blk_drew ?_ | refine blk_alloc ?_ _)); refine blk_put (cs := #[.int .i64 0, .int .i64 0, .int .u64 0, .int .i64 0]) ?_ 2 _ rfl; (with_reducible repeat (first | refine blk_drewN ?_ _ | refine blk_drew ?_ | refine blk_alloc ?_ _)); refine blk_put (cs := #[.int .i64 0, .int .i64 0, .int .u64 0, .int .i64 0]) ?_ 1 _ rfl; (with_reducible repeat (first | refine blk_drewN ?_ _ | refine blk_drew ?_ | refine blk_alloc ?_ _)); refine blk_put (cs := #[.int .i64 0, .int .i64 0, .int .u64 0, .int .i64 0]) ?_ 0 _ rfl; (with_reducible repeat (first | refine blk_drewN ?_ _ | refine blk_drew ?_ | refine blk_alloc ?_ _)); refine blk_far ?_ NB146_145.out _; (with_reducible repeat (first | refine blk_drewN ?_ _ | refine blk_drew ?_ | refine blk_alloc ?_ _)); refine blk_far ?_ NB146_145.out _; (with_reducible repeat (first | refine blk_drewN ?_ _ | refine blk_drew ?_ | refine blk_alloc ?_ _)); refine blk_far ?_ NB146_145.out _; (with_reducible repeat (first | refine blk_drewN ?_ _ | refine blk_drew ?_ | refine blk_alloc ?_ _)); refine blk_far ?_ NB146_145.out _; (with_reducible repeat (first | refine blk_drewN ?_ _ | refine blk_drew ?_ | refine blk_alloc ?_ _)); exact BK146.out) Try.underlying51 rfl (by kernel_rfl) (.tmp .nil)))) rfl ?_
    exact ⟨by first | rfl | (simp [errW_none, errW_some] <;> rfl) | (simp [*, errW_none, errW_some] <;> rfl), hb_⟩
   ·rw [if_neg c22] at H
    have c22b0 : decide (a1_3 < a0_1) = false := decide_eq_false c22
    clear c22
    simp only [Option.some.injEq, Prod.mk.injEq] at H
    obtain ⟨rfl, rfl, rfl, rfl, rfl, rfl, rfl, rfl, rfl⟩ := H
    go_enter Try.func89, Try.ntmps89
    try go_wp2_with (first | ((with_reducible refine gate_dst (N := 2) rfl ?_); refine bx 2 #[.int .i64 a0_0, .int .i64 a0_1, .int .i64 a0_2, .int .i64 a0_3] 27 ?_; intro gb143 hg w40 hbox hb; have BK143 := Aside0.mk (hbox); have GW143 := ge_ hg; have GE143 := ge_ hg; replace HB := hs_ hb; clear hb hbox hg) | ((with_reducible refine gate_dst (N := 3) rfl ?_); refine bx 3 #[.int .i64 a1_0, .int .i64 a1_1, .int .u64 a1_2, .int .i64 a1_3] 51 ?_; intro gb144 hg w41 hbox hb; have BK144 := Aside0.mk (hbox); have GW144 := ge_ hg; have GE144 := ge_ hg; have NB143_144 := nl_ BK143 hg; have NB144_143 := nr_ BK143 hg; replace BK143 := bk_ BK143 hb; replace HB := hs_ hb; clear hb hbox hg) | ((with_reducible refine gate_dst (N := 4) rfl ?_); refine bx 4 #[.int .i64 0, .int .i64 0, .int .u64 0, .int .i64 0] 52 ?_; intro gb145 hg w42 hbox hb; have BK145 := Aside0.mk (hbox); have GW145 := ge_ hg; have GE145 := ge_ hg; have NB143_145 := nl_ BK143 hg; have NB145_143 := nr_ BK143 hg; have NB144_145 := nl_ BK144 hg; have NB145_144 := nr_ BK144 hg; replace BK143 := bk_ BK143 hb; replace BK144 := bk_ BK144 hb; replace HB := hs_ hb; clear hb hbox hg) | ((with_reducible refine gate_dst (N := 5) rfl ?_); refine bx 5 #[.int .i64 0, .int .i64 0, .int .u64 0, .int .i64 0] 51 ?_; intro gb146 hg w43 hbox hb; have BK146 := Aside0.mk (hbox); have GW146 := ge_ hg; have GE146 := ge_ hg; have NB143_146 := nl_ BK143 hg; have NB146_143 := nr_ BK143 hg; have NB144_146 := nl_ BK144 hg; have NB146_144 := nr_ BK144 hg; have NB145_146 := nl_ BK145 hg; have NB146_145 := nr_ BK145 hg; replace BK143 := bk_ BK143 hb; replace BK144 := bk_ BK144 hb; replace BK145 := bk_ BK145 hb; replace HB := hs_ hb; clear hb hbox hg; have hnb44 := NB144_143.out; have hnc44 := NB143_144.out; have hnb45 := NB144_145.out; have hnc45 := NB145_144.out; have hnb46 := NB144_146.out; have hnc46 := NB146_144.out; obtain ⟨hcz47_0, hcz47_1, hcz47_2, hcz47_3, hfz47_0, hfz47_1, hfz47_2, hfz47_3⟩ := bz4_ BK144; have hnb48 := NB143_145.out; have hnc48 := NB145_143.out; have hnb49 := NB143_146.out; have hnc49 := NB146_143.out; obtain ⟨hcz50_0, hcz50_1, hcz50_2, hcz50_3, hfz50_0, hfz50_1, hfz50_2, hfz50_3⟩ := bz4_ BK143) | ((with_reducible refine gate_callee (f := 115) rfl ?_); refine goesL_ (some 14) rfl rfl Try.func115 (by kernel_rfl) rfl #[.int .u64 a1_2, .int .i64 a0_0] rfl Z0 ?_; (with_reducible refine (ensembleref01_Lowest.calls k a1_2 a0_0 t147 t148 _ A3.out).mono ?_); rintro e w51 ⟨rfl, hb⟩; refine ⟨_, rfl, ?_⟩; replace BK143 := bk_ BK143 hb; replace BK144 := bk_ BK144 hb; replace BK145 := bk_ BK145 hb; replace BK146 := bk_ BK146 hb; replace HB := hs_ hb; (try clear hb); (try clear hb2); (try clear hk); (try clear hi); obtain ⟨hcz52_0, hcz52_1, hcz52_2, hcz52_3, hfz52_0, hfz52_1, hfz52_2, hfz52_3⟩ := bz4_ BK144; obtain ⟨hcz53_0, hcz53_1, hcz53_2, hcz53_3, hfz53_0, hfz53_1, hfz53_2, hfz53_3⟩ := bz4_ BK143))
    replace BK143 := Aside0.mk (blk_drew BK143.out)
    replace BK144 := Aside0.mk (blk_drew BK144.out)
    replace BK145 := Aside0.mk (blk_drew BK145.out)
    replace BK146 := Aside0.mk (blk_drew BK146.out)
    replace HB := Aside0.mk (below_drew1 HB.out)
    refine start_ (n := 21) (S := fun w' => w'.cell? ⟨gb144, 0, none⟩ = some (.int .i64 a1_0) ∧ w'.cell? ⟨gb144, 1, none⟩ = some (.int .i64 a1_1) ∧ w'.cell? ⟨gb144, 2, none⟩ = some (.int .u64 a1_2) ∧ w'.cell? ⟨gb144, 3, none⟩ = some (.int .i64 a1_3) ∧ w'.cell? ⟨gb143, 0, none⟩ = some (.int .i64 a0_0) ∧ w'.cell? ⟨gb143, 1, none⟩ = some (.int .i64 a0_1) ∧ w'.cell? ⟨gb143, 2, none⟩ = some (.int .i64 a0_2) ∧ w'.cell? ⟨gb143, 3, none⟩ = some (.int .i64 a0_3)) (ds := []) (bm 21 0) (by kernel_rfl) rfl rfl ⟨(blk_cell BK144.out 0).trans rfl, (blk_cell BK144.out 1).trans rfl, (blk_cell BK144.out 2).trans rfl, (blk_cell BK144.out 3).trans rfl, (blk_cell BK143.out 0).trans rfl, (blk_cell BK143.out 1).trans rfl, (blk_cell BK143.out 2).trans rfl, (blk_cell BK143.out 3).trans rfl⟩ (fun hHeld => ?_); refine with_tabW ensembleref04_Piece.tab4 ensembleref04_Piece.bits4 (fun HT_ HW_ => ?_)
    generalize w51.drew = w54 at BK143 BK144 BK145 BK146 HB hHeld ⊢
    refine pu 0 (some 33) (bm 21 1) ?_
    refine pu 2 (some 35) (bm 21 5) ?_
    refine pu 3 (some 36) (bm 21 13) ?_
    refine pu 6 (some 39) (bm 21 77) ?_
    refine pu 8 (some 41) (bm 21 333) ?_
    refine pu 10 (some 43) (bm 21 1357) ?_
    refine pu 12 (some 45) (bm 21 5453) ?_
    refine pu 14 (some 47) (bm 21 21837) ?_
    refine tk8 1 (some 34) (bm 21 21839) ?_
    refine tk8 4 (some 37) (bm 21 21855) ?_
    refine pu 5 (some 38) (bm 21 21887) ?_
    refine tk8 7 (some 40) (bm 21 22015) ?_
    refine tk8 9 (some 42) (bm 21 22527) ?_
    refine pu 11 (some 44) (bm 21 24575) ?_
    refine tk8 13 (some 46) (bm 21 32767) ?_
    refine tk8 15 (some 48) (bm 21 65535) ?_
    refine pu 16 (some 49) (bm 21 131071) ?_
    refine pu 17 (some 50) (bm 21 262143) ?_
    refine one_ (i := 18) (N := none) (bm 21 524287) rfl rfl (one_of HT_.out (by kernel_rfl)) (by decide) (fun K hK => ?_)
    have hs55 : w54.cell? ⟨gb145, 0, none⟩ = some (.int .i64 0) := (blk_cell BK145.out 0).trans rfl
    have hfs55 := blk_frozen BK145.out 0
    have hns55_0 := NB143_145.out
    have hns55_1 := NB144_145.out
    have hns55_3 := NB146_145.out
    have hms55_0 := NB145_143.out
    have hms55_1 := NB145_144.out
    have hms55_3 := NB145_146.out
    have hs56 : w54.cell? ⟨gb145, 1, none⟩ = some (.int .i64 0) := (blk_cell BK145.out 1).trans rfl
    have hfs56 := blk_frozen BK145.out 1
    have hns56_0 := NB143_145.out
    have hns56_1 := NB144_145.out
    have hns56_3 := NB146_145.out
    have hms56_0 := NB145_143.out
    have hms56_1 := NB145_144.out
    have hms56_3 := NB145_146.out
    have hs57 : w54.cell? ⟨gb145, 2, none⟩ = some (.int .u64 0) := (blk_cell BK145.out 2).trans rfl
    have hfs57 := blk_frozen BK145.out 2
    have hns57_0 := NB143_145.out
    have hns57_1 := NB144_145.out
    have hns57_3 := NB146_145.out
    have hms57_0 := NB145_143.out
    have hms57_1 := NB145_144.out
    have hms57_3 := NB145_146.out
    have hs58 : w54.cell? ⟨gb145, 3, none⟩ = some (.int .i64 0) := (blk_cell BK145.out 3).trans rfl
    have hfs58 := blk_frozen BK145.out 3
    have hns58_0 := NB143_145.out
    have hns58_1 := NB144_145.out
    have hns58_3 := NB146_145.out
    have hms58_0 := NB145_143.out
    have hms58_1 := NB145_144.out
    have hms58_3 := NB145_146.out
    refine skip_ (w1 := ?_) (by rfl) rfl ?_ ?_
    rotate_left
    ·go_simp
     rfl
    refine hK.out _ _ ⟨((cell_far (p := ⟨gb145, _, none⟩) NB144_145.out _).trans (((cell_far (p := ⟨gb145, _, none⟩) NB144_145.out _).trans (((cell_far (p := ⟨gb145, _, none⟩) NB144_145.out _).trans (((cell_far (p := ⟨gb145, _, none⟩) NB144_145.out _).trans (hHeld.1)))))))), ((cell_far (p := ⟨gb145, _, none⟩) NB144_145.out _).trans (((cell_far (p := ⟨gb145, _, none⟩) NB144_145.out _).trans (((cell_far (p := ⟨gb145, _, none⟩) NB144_145.out _).trans (((cell_far (p := ⟨gb145, _, none⟩) NB144_145.out _).trans (hHeld.2.1)))))))), ((cell_far (p := ⟨gb145, _, none⟩) NB144_145.out _).trans (((cell_far (p := ⟨gb145, _, none⟩) NB144_145.out _).trans (((cell_far (p := ⟨gb145, _, none⟩) NB144_145.out _).trans (((cell_far (p := ⟨gb145, _, none⟩) NB144_145.out _).trans (hHeld.2.2.1)))))))), ((cell_far (p := ⟨gb145, _, none⟩) NB144_145.out _).trans (((cell_far (p := ⟨gb145, _, none⟩) NB144_145.out _).trans (((cell_far (p := ⟨gb145, _, none⟩) NB144_145.out _).trans (((cell_far (p := ⟨gb145, _, none⟩) NB144_145.out _).trans (hHeld.2.2.2.1)))))))), ((cell_far (p := ⟨gb145, _, none⟩) NB143_145.out _).trans (((cell_far (p := ⟨gb145, _, none⟩) NB143_145.out _).trans (((cell_far (p := ⟨gb145, _, none⟩) NB143_145.out _).trans (((cell_far (p := ⟨gb145, _, none⟩) NB143_145.out _).trans (hHeld.2.2.2.2.1)))))))), ((cell_far (p := ⟨gb145, _, none⟩) NB143_145.out _).trans (((cell_far (p := ⟨gb145, _, none⟩) NB143_145.out _).trans (((cell_far (p := ⟨gb145, _, none⟩) NB143_145.out _).trans (((cell_far (p := ⟨gb145, _, none⟩) NB143_145.out _).trans (hHeld.2.2.2.2.2.1)))))))), ((cell_far (p := ⟨gb145, _, none⟩) NB143_145.out _).trans (((cell_far (p := ⟨gb145, _, none⟩) NB143_145.out _).trans (((cell_far (p := ⟨gb145, _, none⟩) NB143_145.out _).trans (((cell_far (p := ⟨gb145, _, none⟩) NB143_145.out _).trans (hHeld.2.2.2.2.2.2.1)))))))), ((cell_far (p := ⟨gb145, _, none⟩) NB143_145.out _).trans (((cell_far (p := ⟨gb145, _, none⟩) NB143_145.out _).trans (((cell_far (p := ⟨gb145, _, none⟩) NB143_145.out _).trans (((cell_far (p := ⟨gb145, _, none⟩) NB143_145.out _).trans (hHeld.2.2.2.2.2.2.2))))))))⟩ (fun hHeld => ?_)
    clear hK K
    refine one_ (i := 19) (N := none) (bm 21 1048575) rfl rfl (one_of HT_.out (by kernel_rfl)) (by decide) (fun K hK => ?_)
    have hs59 : w54.cell? ⟨gb146, 0, none⟩ = some (.int .i64 0) := (blk_cell BK146.out 0).trans rfl
    have hfs59 := blk_frozen BK146.out 0
    have hns59_0 := NB143_146.out
    have hns59_1 := NB144_146.out
    have hns59_2 := NB145_146.out
    have hms59_0 := NB146_143.out
    have hms59_1 := NB146_144.out
    have hms59_2 := NB146_145.out
    have hs60 : w54.cell? ⟨gb146, 1, none⟩ = some (.int .i64 0) := (blk_cell BK146.out 1).trans rfl
    have hfs60 := blk_frozen BK146.out 1
    have hns60_0 := NB143_146.out
    have hns60_1 := NB144_146.out
    have hns60_2 := NB145_146.out
    have hms60_0 := NB146_143.out
    have hms60_1 := NB146_144.out
    have hms60_2 := NB146_145.out
    have hs61 : w54.cell? ⟨gb146, 2, none⟩ = some (.int .u64 0) := (blk_cell BK146.out 2).trans rfl
    have hfs61 := blk_frozen BK146.out 2
    have hns61_0 := NB143_146.out
    have hns61_1 := NB144_146.out
    have hns61_2 := NB145_146.out
    have hms61_0 := NB146_143.out
    have hms61_1 := NB146_144.out
    have hms61_2 := NB146_145.out
    have hs62 : w54.cell? ⟨gb146, 3, none⟩ = some (.int .i64 0) := (blk_cell BK146.out 3).trans rfl
    have hfs62 := blk_frozen BK146.out 3
    have hns62_0 := NB143_146.out
    have hns62_1 := NB144_146.out
    have hns62_2 := NB145_146.out
    have hms62_0 := NB146_143.out
    have hms62_1 := NB146_144.out
    have hms62_2 := NB146_145.out
    refine skip_ (w1 := ?_) (by rfl) rfl ?_ ?_
    rotate_left
    ·go_simp
     rfl
    refine hK.out _ _ ⟨((cell_far (p := ⟨gb146, _, none⟩) NB144_146.out _).trans (((cell_far (p := ⟨gb146, _, none⟩) NB144_146.out _).trans (((cell_far (p := ⟨gb146, _, none⟩) NB144_146.out _).trans (((cell_far (p := ⟨gb146, _, none⟩) NB144_146.out _).trans (hHeld.1)))))))), ((cell_far (p := ⟨gb146, _, none⟩) NB144_146.out _).trans (((cell_far (p := ⟨gb146, _, none⟩) NB144_146.out _).trans (((cell_far (p := ⟨gb146, _, none⟩) NB144_146.out _).trans (((cell_far (p := ⟨gb146, _, none⟩) NB144_146.out _).trans (hHeld.2.1)))))))), ((cell_far (p := ⟨gb146, _, none⟩) NB144_146.out _).trans (((cell_far (p := ⟨gb146, _, none⟩) NB144_146.out _).trans (((cell_far (p := ⟨gb146, _, none⟩) NB144_146.out _).trans (((cell_far (p := ⟨gb146, _, none⟩) NB144_146.out _).trans (hHeld.2.2.1)))))))), ((cell_far (p := ⟨gb146, _, none⟩) NB144_146.out _).trans (((cell_far (p := ⟨gb146, _, none⟩) NB144_146.out _).trans (((cell_far (p := ⟨gb146, _, none⟩) NB144_146.out _).trans (((cell_far (p := ⟨gb146, _, none⟩) NB144_146.out _).trans (hHeld.2.2.2.1)))))))), ((cell_far (p := ⟨gb146, _, none⟩) NB143_146.out _).trans (((cell_far (p := ⟨gb146, _, none⟩) NB143_146.out _).trans (((cell_far (p := ⟨gb146, _, none⟩) NB143_146.out _).trans (((cell_far (p := ⟨gb146, _, none⟩) NB143_146.out _).trans (hHeld.2.2.2.2.1)))))))), ((cell_far (p := ⟨gb146, _, none⟩) NB143_146.out _).trans (((cell_far (p := ⟨gb146, _, none⟩) NB143_146.out _).trans (((cell_far (p := ⟨gb146, _, none⟩) NB143_146.out _).trans (((cell_far (p := ⟨gb146, _, none⟩) NB143_146.out _).trans (hHeld.2.2.2.2.2.1)))))))), ((cell_far (p := ⟨gb146, _, none⟩) NB143_146.out _).trans (((cell_far (p := ⟨gb146, _, none⟩) NB143_146.out _).trans (((cell_far (p := ⟨gb146, _, none⟩) NB143_146.out _).trans (((cell_far (p := ⟨gb146, _, none⟩) NB143_146.out _).trans (hHeld.2.2.2.2.2.2.1)))))))), ((cell_far (p := ⟨gb146, _, none⟩) NB143_146.out _).trans (((cell_far (p := ⟨gb146, _, none⟩) NB143_146.out _).trans (((cell_far (p := ⟨gb146, _, none⟩) NB143_146.out _).trans (((cell_far (p := ⟨gb146, _, none⟩) NB143_146.out _).trans (hHeld.2.2.2.2.2.2.2))))))))⟩ (fun hHeld => ?_)
    clear hK K
    refine pu 20 (some 6) (bm 21 2097151) ?_
    refine done_ (done_of HT_.out (by kernel_rfl)) ?_
    try go_wp2
    refine bodyPost_ret (results_list (rs := [.cell 4 52, .cell 5 51, .tmp 6]) rfl (by simp) (.cell gb145 52 #[.int .i64 a1_0, .int .i64 a1_1, .int .u64 t147, .int .i64 a0_1] (0, 0) _ rfl (by (with_reducible repeat (first | refine blk_drewN ?_ _ | refine blk_drew ?_ | refine blk_alloc ?_ _)); refine blk_far ?_ NB145_146.out _; (with_reducible repeat (first | refine blk_drewN ?_ _ | refine blk_drew ?_ | refine blk_alloc ?_ _)); refine blk_far ?_ NB145_146.out _; (with_reducible repeat (first | refine blk_drewN ?_ _ | refine blk_drew ?_ | refine blk_alloc ?_ _)); refine blk_far ?_ NB145_146.out _; (with_reducible repeat (first | refine blk_drewN ?_ _ | refine blk_drew ?_ | refine blk_alloc ?_ _)); refine blk_far ?_ NB145_146.out _; (with_reducible repeat (first | refine blk_drewN ?_ _ | refine blk_drew ?_ | refine blk_alloc ?_ _)); refine blk_put (cs := #[.int .i64 a1_0, .int .i64 a1_1, .int .u64 t147, .int .i64 0]) ?_ 3 _ rfl; (with_reducible repeat (first | refine blk_drewN ?_ _ | refine blk_drew ?_ | refine blk_alloc ?_ _)); refine blk_put (cs := #[.int .i64 a1_0, .int .i64 a1_1, .int .u64 0, .int .i64 0]) ?_ 2 _ rfl; (with_reducible repeat (first | refine blk_drewN ?_ _ | refine blk_drew ?_ | refine blk_alloc ?_ _)); refine blk_put (cs := #[.int .i64 a1_0, .int .i64 0, .int .u64 0, .int .i64 0]) ?_ 1 _ rfl; (with_reducible repeat (first | refine blk_drewN ?_ _ | refine blk_drew ?_ | refine blk_alloc ?_ _)); refine blk_put (cs := #[.int .i64 0, .int .i64 0, .int .u64 0, .int .i64 0]) ?_ 0 _ rfl; (with_reducible repeat (first | refine blk_drewN ?_ _ | refine blk_drew ?_ | refine blk_alloc ?_ _)); exact BK145.out) Try.underlying52 rfl (by kernel_rfl) (.cell gb146 51 #[.int .i64 a1_0, .int .i64 a1_1, .int .u64 (IntKind.u64.wrap (a1_2 - t147)), .int .i64 (wrap64 (a1_3 - a0_1))] (0, 0) _ rfl (by (with_reducible repeat (first | refine blk_drewN ?_ _ | refine blk_drew ?_ | refine blk_alloc ?_ _)); refine blk_put (cs := #[.int .i64 a1_0, .int .i64 a1_1, .int .u64 (IntKind.u64.wrap (a1_2 - t147)), .int .i64 0]) ?_ 3 _ rfl; (with_reducible repeat (first | refine blk_drewN ?_ _ | refine blk_drew ?_ | refine blk_alloc ?_ _)); refine blk_put (cs := #[.int .i64 a1_0, .int .i64 a1_1, .int .u64 0, .int .i64 0]) ?_ 2 _ rfl; (with_reducible repeat (first | refine blk_drewN ?_ _ | refine blk_drew ?_ | refine blk_alloc ?_ _)); refine blk_put (cs := #[.int .i64 a1_0, .int .i64 0, .int .u64 0, .int .i64 0]) ?_ 1 _ rfl; (with_reducible repeat (first | refine blk_drewN ?_ _ | refine blk_drew ?_ | refine blk_alloc ?_ _)); refine blk_put (cs := #[.int .i64 0, .int .i64 0, .int .u64 0, .int .i64 0]) ?_ 0 _ rfl; (with_reducible repeat (first | refine blk_drewN ?_ _ | refine blk_drew ?_ | refine blk_alloc ?_ _)); refine blk_far ?_ NB146_145.out _; (with_reducible repeat (first | refine blk_drewN ?_ _ | refine blk_drew ?_ | refine blk_alloc ?_ _)); refine blk_far ?_ NB146_145.out _; (with_reducible repeat (first | refine blk_drewN ?_ _ | refine blk_drew ?_ | refine blk_alloc ?_ _)); refine blk_far ?_ NB146_145.out _; (with_reducible repeat (first | refine blk_drewN ?_ _ | refine blk_drew ?_ | refine blk_alloc ?_ _)); refine blk_far ?_ NB146_145.out _; (with_reducible repeat (first | refine blk_drewN ?_ _ | refine blk_drew ?_ | refine blk_alloc ?_ _)); exact BK146.out) Try.underlying51 rfl (by kernel_rfl) (.tmp .nil)))) rfl ?_
    exact ⟨by first | rfl | (simp [errW_none, errW_some] <;> rfl) | (simp [*, errW_none, errW_some] <;> rfl), hb_⟩
 ·rw [if_neg c4] at H
  have c4b0 : (t148 == 0) = false := beq_eq_false_iff_ne.mpr c4
  have c4b1 : (t148 != 0) = true := bne_iff_ne.mpr c4
  simp only [Option.some.injEq, Prod.mk.injEq] at H
  obtain ⟨rfl, rfl, rfl, rfl, rfl, rfl, rfl, rfl, rfl⟩ := H
  go_enter Try.func89, Try.ntmps89
  go_wp2_with (first | ((with_reducible refine gate_dst (N := 2) rfl ?_); refine bx 2 #[.int .i64 a0_0, .int .i64 a0_1, .int .i64 a0_2, .int .i64 a0_3] 27 ?_; intro gb143 hg w63 hbox hb; have BK143 := Aside0.mk (hbox); have GW143 := ge_ hg; have GE143 := ge_ hg; replace HB := hs_ hb; clear hb hbox hg) | ((with_reducible refine gate_dst (N := 3) rfl ?_); refine bx 3 #[.int .i64 a1_0, .int .i64 a1_1, .int .u64 a1_2, .int .i64 a1_3] 51 ?_; intro gb144 hg w64 hbox hb; have BK144 := Aside0.mk (hbox); have GW144 := ge_ hg; have GE144 := ge_ hg; have NB143_144 := nl_ BK143 hg; have NB144_143 := nr_ BK143 hg; replace BK143 := bk_ BK143 hb; replace HB := hs_ hb; clear hb hbox hg) | ((with_reducible refine gate_dst (N := 4) rfl ?_); refine bx 4 #[.int .i64 0, .int .i64 0, .int .u64 0, .int .i64 0] 52 ?_; intro gb145 hg w65 hbox hb; have BK145 := Aside0.mk (hbox); have GW145 := ge_ hg; have GE145 := ge_ hg; have NB143_145 := nl_ BK143 hg; have NB145_143 := nr_ BK143 hg; have NB144_145 := nl_ BK144 hg; have NB145_144 := nr_ BK144 hg; replace BK143 := bk_ BK143 hb; replace BK144 := bk_ BK144 hb; replace HB := hs_ hb; clear hb hbox hg) | ((with_reducible refine gate_dst (N := 5) rfl ?_); refine bx 5 #[.int .i64 0, .int .i64 0, .int .u64 0, .int .i64 0] 51 ?_; intro gb146 hg w66 hbox hb; have BK146 := Aside0.mk (hbox); have GW146 := ge_ hg; have GE146 := ge_ hg; have NB143_146 := nl_ BK143 hg; have NB146_143 := nr_ BK143 hg; have NB144_146 := nl_ BK144 hg; have NB146_144 := nr_ BK144 hg; have NB145_146 := nl_ BK145 hg; have NB146_145 := nr_ BK145 hg; replace BK143 := bk_ BK143 hb; replace BK144 := bk_ BK144 hb; replace BK145 := bk_ BK145 hb; replace HB := hs_ hb; clear hb hbox hg; have hnb67 := NB144_143.out; have hnc67 := NB143_144.out; have hnb68 := NB144_145.out; have hnc68 := NB145_144.out; have hnb69 := NB144_146.out; have hnc69 := NB146_144.out; obtain ⟨hcz70_0, hcz70_1, hcz70_2, hcz70_3, hfz70_0, hfz70_1, hfz70_2, hfz70_3⟩ := bz4_ BK144; have hnb71 := NB143_145.out; have hnc71 := NB145_143.out; have hnb72 := NB143_146.out; have hnc72 := NB146_143.out; obtain ⟨hcz73_0, hcz73_1, hcz73_2, hcz73_3, hfz73_0, hfz73_1, hfz73_2, hfz73_3⟩ := bz4_ BK143) | ((with_reducible refine gate_callee (f := 115) rfl ?_); refine goesL_ (some 14) rfl rfl Try.func115 (by kernel_rfl) rfl #[.int .u64 a1_2, .int .i64 a0_0] rfl Z0 ?_; (with_reducible refine (ensembleref01_Lowest.calls k a1_2 a0_0 t147 t148 _ A3.out).mono ?_); rintro e w74 ⟨rfl, hb⟩; refine ⟨_, rfl, ?_⟩; replace BK143 := bk_ BK143 hb; replace BK144 := bk_ BK144 hb; replace BK145 := bk_ BK145 hb; replace BK146 := bk_ BK146 hb; replace HB := hs_ hb; (try clear hb); (try clear hb2); (try clear hk); (try clear hi); have hnb75 := NB145_146.out; have hnc75 := NB146_145.out; obtain ⟨hcz76_0, hcz76_1, hcz76_2, hcz76_3, hfz76_0, hfz76_1, hfz76_2, hfz76_3⟩ := bz4_ BK145; obtain ⟨hcz77_0, hcz77_1, hcz77_2, hcz77_3, hfz77_0, hfz77_1, hfz77_2, hfz77_3⟩ := bz4_ BK146))
  refine bodyPost_ret (results_list (rs := [.cell 4 52, .cell 5 51, .tmp 6]) rfl (by simp) (.cell gb145 52 #[.int .i64 0, .int .i64 0, .int .u64 0, .int .i64 0] (0, 0) _ rfl (by (with_reducible repeat (first | refine blk_drewN ?_ _ | refine blk_drew ?_ | refine blk_alloc ?_ _)); refine blk_far ?_ NB145_146.out _; (with_reducible repeat (first | refine blk_drewN ?_ _ | refine blk_drew ?_ | refine blk_alloc ?_ _)); refine blk_far ?_ NB145_146.out _; (with_reducible repeat (first | refine blk_drewN ?_ _ | refine blk_drew ?_ | refine blk_alloc ?_ _)); refine blk_far ?_ NB145_146.out _; (with_reducible repeat (first | refine blk_drewN ?_ _ | refine blk_drew ?_ | refine blk_alloc ?_ _)); refine blk_far ?_ NB145_146.out _; (with_reducible repeat (first | refine blk_drewN ?_ _ | refine blk_drew ?_ | refine blk_alloc ?_ _)); refine blk_put (cs := #[.int .i64 0, .int .i64 0, .int .u64 0, .int .i64 0]) ?_ 3 _ rfl; (with_reducible repeat (first | refine blk_drewN ?_ _ | refine blk_drew ?_ | refine blk_alloc ?_ _)); refine blk_put (cs := #[.int .i64 0, .int .i64 0, .int .u64 0, .int .i64 0]) ?_ 2 _ rfl; (with_reducible repeat (first | refine blk_drewN ?_ _ | refine blk_drew ?_ | refine blk_alloc ?_ _)); refine blk_put (cs := #[.int .i64 0, .int .i64 0, .int .u64 0, .int .i64 0]) ?_ 1 _ rfl; (with_reducible repeat (first | refine blk_drewN ?_ _ | refine blk_drew ?_ | refine blk_alloc ?_ _)); refine blk_put (cs := #[.int .i64 0, .int .i64 0, .int .u64 0, .int .i64 0]) ?_ 0 _ rfl; (with_reducible repeat (first | refine blk_drewN ?_ _ | refine blk_drew ?_ | refine blk_alloc ?_ _)); exact BK145.out) Try.underlying52 rfl (by kernel_rfl) (.cell gb146 51 #[.int .i64 0, .int .i64 0, .int .u64 0, .int .i64 0] (0, 0) _ rfl (by (with_reducible repeat (first | refine blk_drewN ?_ _ | refine blk_drew ?_ | refine blk_alloc ?_ _)); refine blk_put (cs := #[.int .i64 0, .int .i64 0, .int .u64 0, .int .i64 0]) ?_ 3 _ rfl; (with_reducible repeat (first | refine blk_drewN ?_ _ | refine blk_drew ?_ | refine blk_alloc ?_ _)); refine blk_put (cs := #[.int .i64 0, .int .i64 0, .int .u64 0, .int .i64 0]) ?_ 2 _ rfl; (with_reducible repeat (first | refine blk_drewN ?_ _ | refine blk_drew ?_ | refine blk_alloc ?_ _)); refine blk_put (cs := #[.int .i64 0, .int .i64 0, .int .u64 0, .int .i64 0]) ?_ 1 _ rfl; (with_reducible repeat (first | refine blk_drewN ?_ _ | refine blk_drew ?_ | refine blk_alloc ?_ _)); refine blk_put (cs := #[.int .i64 0, .int .i64 0, .int .u64 0, .int .i64 0]) ?_ 0 _ rfl; (with_reducible repeat (first | refine blk_drewN ?_ _ | refine blk_drew ?_ | refine blk_alloc ?_ _)); refine blk_far ?_ NB146_145.out _; (with_reducible repeat (first | refine blk_drewN ?_ _ | refine blk_drew ?_ | refine blk_alloc ?_ _)); refine blk_far ?_ NB146_145.out _; (with_reducible repeat (first | refine blk_drewN ?_ _ | refine blk_drew ?_ | refine blk_alloc ?_ _)); refine blk_far ?_ NB146_145.out _; (with_reducible repeat (first | refine blk_drewN ?_ _ | refine blk_drew ?_ | refine blk_alloc ?_ _)); refine blk_far ?_ NB146_145.out _; (with_reducible repeat (first | refine blk_drewN ?_ _ | refine blk_drew ?_ | refine blk_alloc ?_ _)); exact BK146.out) Try.underlying51 rfl (by kernel_rfl) (.tmp .nil)))) rfl ?_
  exact ⟨by first | rfl | (simp [errW_none, errW_some] <;> rfl) | (simp [*, errW_none, errW_some] <;> rfl), hb_⟩
end Go.Proofs.Ytckhjehibjdjdaa.P
namespace Go.Proofs.Ytckhjehibjdjdaa.P
open Go.RowKit Go.Proofs.YtckhjehibjdjdaaW.PrintWords Go.Proofs.YtckhjehibjdjdaaW.PrintLast Go.Proofs.YtckhjehibjdjdaaW.PrintMore
attribute [local go_sem] max2_int min2_int max_two min_two max_three min_three max_four min_four
set_option linter.unusedVariables false
set_option linter.unusedSimpArgs false
def ensembleref04_Right.f (a0_0 : Int) (a0_1 : Int) (a0_2 : Int) (a0_3 : Int) : Option (Bool) := if a0_0 ≥ 0 then (if a0_0 ≤ 16 then (if a0_1 ≥ 0 then (if a0_1 ≤ 1024 then (if (wrap64 (a0_0 + a0_1)) > 0 then (if a0_2 ≥ 1 then (if a0_2 ≤ a0_3 then (some (decide (a0_3 ≤ 16))) else (some false)) else (some false)) else (some false)) else (some false)) else (some false)) else (some false)) else (some false)
set_option maxHeartbeats 8000000 in
set_option maxRecDepth 100000 in
theorem ensembleref04_Right.calls (a0_0 : Int) (a0_1 : Int) (a0_2 : Int) (a0_3 : Int) (r : Bool) (w : World) (h : ensembleref04_Right.f a0_0 a0_1 a0_2 a0_3 = some r) :
  Calls Try.prog 45 #[.agg #[.int .i64 a0_0, .int .i64 a0_1, .int .i64 a0_2, .int .i64 a0_3]] w fun e w' => e = .returned (.bool r) ∧ Below w.heap.size w w' := by
 have hu27 := Try.underlying27
 have HB := Aside0.mk (Below.refl w.heap.size w)
 have H : (if a0_0 ≥ 0 then (if a0_0 ≤ 16 then (if a0_1 ≥ 0 then (if a0_1 ≤ 1024 then (if (wrap64 (a0_0 + a0_1)) > 0 then (if a0_2 ≥ 1 then (if a0_2 ≤ a0_3 then (some (decide (a0_3 ≤ 16))) else (some false)) else (some false)) else (some false)) else (some false)) else (some false)) else (some false)) else (some false)) = some r := h
 clear h
 by_cases c2 : a0_0 ≥ 0
 ·rw [if_pos c2] at H
  have c2b0 : decide (0 ≤ a0_0) = true := decide_eq_true c2
  clear c2
  by_cases c3 : a0_0 ≤ 16
  ·rw [if_pos c3] at H
   have c3b0 : decide (a0_0 ≤ 16) = true := decide_eq_true c3
   clear c3
   by_cases c4 : a0_1 ≥ 0
   ·rw [if_pos c4] at H
    have c4b0 : decide (0 ≤ a0_1) = true := decide_eq_true c4
    clear c4
    by_cases c5 : a0_1 ≤ 1024
    ·rw [if_pos c5] at H
     have c5b0 : decide (a0_1 ≤ 1024) = true := decide_eq_true c5
     clear c5
     by_cases c6 : (wrap64 (a0_0 + a0_1)) > 0
     ·rw [if_pos c6] at H
      have c6b0 : decide (0 < (wrap64 (a0_0 + a0_1))) = true := decide_eq_true c6
      clear c6
      by_cases c7 : a0_2 ≥ 1
      ·rw [if_pos c7] at H
       have c7b0 : decide (1 ≤ a0_2) = true := decide_eq_true c7
       clear c7
       by_cases c8 : a0_2 ≤ a0_3
       ·rw [if_pos c8] at H
        have c8b0 : decide (a0_2 ≤ a0_3) = true := decide_eq_true c8
        clear c8
        obtain rfl := Option.some.inj H
        go_enter Try.func45, Try.ntmps45
        go_wp2_with (first | ((with_reducible refine gate_dst (N := 1) rfl ?_); refine bx 1 #[.int .i64 a0_0, .int .i64 a0_1, .int .i64 a0_2, .int .i64 a0_3] 27 ?_; intro gb131 hg w9 hbox hb; have BK131 := Aside0.mk (hbox); have GW131 := ge_ hg; have GE131 := ge_ hg; replace HB := hs_ hb; clear hb hbox hg; obtain ⟨hcz10_0, hcz10_1, hcz10_2, hcz10_3, hfz10_0, hfz10_1, hfz10_2, hfz10_3⟩ := bz4_ BK131))
        go_ret
        exact ⟨by first | rfl | (simp [errW_none, errW_some] <;> rfl) | (simp [*, errW_none, errW_some] <;> rfl), hb_⟩
       ·rw [if_neg c8] at H
        have c8b0 : decide (a0_2 ≤ a0_3) = false := decide_eq_false c8
        clear c8
        obtain rfl := Option.some.inj H
        go_enter Try.func45, Try.ntmps45
        go_wp2_with (first | ((with_reducible refine gate_dst (N := 1) rfl ?_); refine bx 1 #[.int .i64 a0_0, .int .i64 a0_1, .int .i64 a0_2, .int .i64 a0_3] 27 ?_; intro gb131 hg w11 hbox hb; have BK131 := Aside0.mk (hbox); have GW131 := ge_ hg; have GE131 := ge_ hg; replace HB := hs_ hb; clear hb hbox hg; obtain ⟨hcz12_0, hcz12_1, hcz12_2, hcz12_3, hfz12_0, hfz12_1, hfz12_2, hfz12_3⟩ := bz4_ BK131))
        go_ret
        exact ⟨by first | rfl | (simp [errW_none, errW_some] <;> rfl) | (simp [*, errW_none, errW_some] <;> rfl), hb_⟩
      ·rw [if_neg c7] at H
       have c7b0 : decide (1 ≤ a0_2) = false := decide_eq_false c7
       clear c7
       obtain rfl := Option.some.inj H
       go_enter Try.func45, Try.ntmps45
       go_wp2_with (first | ((with_reducible refine gate_dst (N := 1) rfl ?_); refine bx 1 #[.int .i64 a0_0, .int .i64 a0_1, .int .i64 a0_2, .int .i64 a0_3] 27 ?_; intro gb131 hg w13 hbox hb; have BK131 := Aside0.mk (hbox); have GW131 := ge_ hg; have GE131 := ge_ hg; replace HB := hs_ hb; clear hb hbox hg; obtain ⟨hcz14_0, hcz14_1, hcz14_2, hcz14_3, hfz14_0, hfz14_1, hfz14_2, hfz14_3⟩ := bz4_ BK131))
       go_ret
       exact ⟨by first | rfl | (simp [errW_none, errW_some] <;> rfl) | (simp [*, errW_none, errW_some] <;> rfl), hb_⟩
     ·rw [if_neg c6] at H
      have c6b0 : decide (0 < (wrap64 (a0_0 + a0_1))) = false := decide_eq_false c6
      clear c6
      obtain rfl := Option.some.inj H
      go_enter Try.func45, Try.ntmps45
      go_wp2_with (first | ((with_reducible refine gate_dst (N := 1) rfl ?_); refine bx 1 #[.int .i64 a0_0, .int .i64 a0_1, .int .i64 a0_2, .int .i64 a0_3] 27 ?_; intro gb131 hg w15 hbox hb; have BK131 := Aside0.mk (hbox); have GW131 := ge_ hg; have GE131 := ge_ hg; replace HB := hs_ hb; clear hb hbox hg; obtain ⟨hcz16_0, hcz16_1, hcz16_2, hcz16_3, hfz16_0, hfz16_1, hfz16_2, hfz16_3⟩ := bz4_ BK131))
      go_ret
      exact ⟨by first | rfl | (simp [errW_none, errW_some] <;> rfl) | (simp [*, errW_none, errW_some] <;> rfl), hb_⟩
    ·rw [if_neg c5] at H
     have c5b0 : decide (a0_1 ≤ 1024) = false := decide_eq_false c5
     clear c5
     obtain rfl := Option.some.inj H
     go_enter Try.func45, Try.ntmps45
     go_wp2_with (first | ((with_reducible refine gate_dst (N := 1) rfl ?_); refine bx 1 #[.int .i64 a0_0, .int .i64 a0_1, .int .i64 a0_2, .int .i64 a0_3] 27 ?_; intro gb131 hg w17 hbox hb; have BK131 := Aside0.mk (hbox); have GW131 := ge_ hg; have GE131 := ge_ hg; replace HB := hs_ hb; clear hb hbox hg; obtain ⟨hcz18_0, hcz18_1, hcz18_2, hcz18_3, hfz18_0, hfz18_1, hfz18_2, hfz18_3⟩ := bz4_ BK131))
     go_ret
     exact ⟨by first | rfl | (simp [errW_none, errW_some] <;> rfl) | (simp [*, errW_none, errW_some] <;> rfl), hb_⟩
   ·rw [if_neg c4] at H
    have c4b0 : decide (0 ≤ a0_1) = false := decide_eq_false c4
    clear c4
    obtain rfl := Option.some.inj H
    go_enter Try.func45, Try.ntmps45
    go_wp2_with (first | ((with_reducible refine gate_dst (N := 1) rfl ?_); refine bx 1 #[.int .i64 a0_0, .int .i64 a0_1, .int .i64 a0_2, .int .i64 a0_3] 27 ?_; intro gb131 hg w19 hbox hb; have BK131 := Aside0.mk (hbox); have GW131 := ge_ hg; have GE131 := ge_ hg; replace HB := hs_ hb; clear hb hbox hg; obtain ⟨hcz20_0, hcz20_1, hcz20_2, hcz20_3, hfz20_0, hfz20_1, hfz20_2, hfz20_3⟩ := bz4_ BK131))
    go_ret
    exact ⟨by first | rfl | (simp [errW_none, errW_some] <;> rfl) | (simp [*, errW_none, errW_some] <;> rfl), hb_⟩
  ·rw [if_neg c3] at H
   have c3b0 : decide (a0_0 ≤ 16) = false := decide_eq_false c3
   clear c3
   obtain rfl := Option.some.inj H
   go_enter Try.func45, Try.ntmps45
   go_wp2_with (first | ((with_reducible refine gate_dst (N := 1) rfl ?_); refine bx 1 #[.int .i64 a0_0, .int .i64 a0_1, .int .i64 a0_2, .int .i64 a0_3] 27 ?_; intro gb131 hg w21 hbox hb; have BK131 := Aside0.mk (hbox); have GW131 := ge_ hg; have GE131 := ge_ hg; replace HB := hs_ hb; clear hb hbox hg; obtain ⟨hcz22_0, hcz22_1, hcz22_2, hcz22_3, hfz22_0, hfz22_1, hfz22_2, hfz22_3⟩ := bz4_ BK131))
   go_ret
   exact ⟨by first | rfl | (simp [errW_none, errW_some] <;> rfl) | (simp [*, errW_none, errW_some] <;> rfl), hb_⟩
 ·rw [if_neg c2] at H
  have c2b0 : decide (0 ≤ a0_0) = false := decide_eq_false c2
  clear c2
  obtain rfl := Option.some.inj H
  go_enter Try.func45, Try.ntmps45
  go_wp2_with (first | ((with_reducible refine gate_dst (N := 1) rfl ?_); refine bx 1 #[.int .i64 a0_0, .int .i64 a0_1, .int .i64 a0_2, .int .i64 a0_3] 27 ?_; intro gb131 hg w23 hbox hb; have BK131 := Aside0.mk (hbox); have GW131 := ge_ hg; have GE131 := ge_ hg; replace HB := hs_ hb; clear hb hbox hg; obtain ⟨hcz24_0, hcz24_1, hcz24_2, hcz24_3, hfz24_0, hfz24_1, hfz24_2, hfz24_3⟩ := bz4_ BK131))
  go_ret
  exact ⟨by first | rfl | (simp [errW_none, errW_some] <;> rfl) | (simp [*, errW_none, errW_some] <;> rfl), hb_⟩
end Go.Proofs.Ytckhjehibjdjdaa.P
namespace Go.Proofs.Ytckhjehibjdjdaa.P
open Go.RowKit Go.Proofs.YtckhjehibjdjdaaW.PrintWords Go.Proofs.YtckhjehibjdjdaaW.PrintLast Go.Proofs.YtckhjehibjdjdaaW.PrintMore
attribute [local go_sem] max2_int min2_int max_two min_two max_three min_three max_four min_four
set_option linter.unusedVariables false
set_option linter.unusedSimpArgs false
def ensembleref04_Fits.l0 : Nat → Int → Int → Int → Int → Int → Int → Int → Int → Int → Option (Int)
 | 0, _, _, _, _, _, _, _, _, _ => none
 | k + 1, x5, x150000, x150001, x150002, x150003, x151000, x151001, x151002, x151003 => if x5 < 16 then ((ensembleref04_Piece.f k x150000 x150001 x150002 x150003 x151000 x151001 x151002 x151003).bind fun bt152 => (if bt152.2.2.2.2.2.2.2.2 = 0 then (ensembleref04_Fits.l0 k (wrap64 (x5 + 1)) x150000 x150001 x150002 x150003 bt152.2.2.2.2.1 bt152.2.2.2.2.2.1 bt152.2.2.2.2.2.2.1 bt152.2.2.2.2.2.2.2.1) else (some x5))) else (some x5)
def ensembleref04_Fits.f (k : Nat) (a0_0 : Int) (a0_1 : Int) (a0_2 : Int) (a0_3 : Int) (a1_0 : Int) (a1_1 : Int) (a1_2 : Int) (a1_3 : Int) : Option (Int) := (ensembleref04_Right.f a0_0 a0_1 a0_2 a0_3).bind fun t151 => (if t151 = true then (ensembleref04_Fits.l0 k 0 a0_0 a0_1 a0_2 a0_3 a1_0 a1_1 a1_2 a1_3) else (some 0))
set_option maxHeartbeats 8000000 in
set_option maxRecDepth 100000 in
theorem ensembleref04_Fits.calls (k : Nat) (a0_0 : Int) (a0_1 : Int) (a0_2 : Int) (a0_3 : Int) (a1_0 : Int) (a1_1 : Int) (a1_2 : Int) (a1_3 : Int) (r : Int) (w : World) (h : ensembleref04_Fits.f k a0_0 a0_1 a0_2 a0_3 a1_0 a1_1 a1_2 a1_3 = some r) :
  Calls Try.prog 47 #[.agg #[.int .i64 a0_0, .int .i64 a0_1, .int .i64 a0_2, .int .i64 a0_3], .agg #[.int .i64 a1_0, .int .i64 a1_1, .int .u64 a1_2, .int .i64 a1_3]] w fun e w' => e = .returned (.int .i64 r) ∧ Below w.heap.size w w' := by
 have hu27 := Try.underlying27
 have hu51 := Try.underlying51
 have hu52 := Try.underlying52
 have HB := Aside0.mk (Below.refl w.heap.size w)
 have H : ((ensembleref04_Right.f a0_0 a0_1 a0_2 a0_3).bind fun t151 => (if t151 = true then (ensembleref04_Fits.l0 k 0 a0_0 a0_1 a0_2 a0_3 a1_0 a1_1 a1_2 a1_3) else (some 0))) = some r := h
 clear h
 replace H := Option.bind_eq_some_iff.mp H
 obtain ⟨t151, A30, H⟩ := H
 replace H : (if t151 = true then (ensembleref04_Fits.l0 k 0 a0_0 a0_1 a0_2 a0_3 a1_0 a1_1 a1_2 a1_3) else (some 0)) = some r := H
 have A3 := Aside0.mk A30
 clear A30
 by_cases c4 : t151 = true
 ·subst c4
  have H1 : (ensembleref04_Fits.l0 k 0 a0_0 a0_1 a0_2 a0_3 a1_0 a1_1 a1_2 a1_3) = some r := by rw [if_pos rfl] at H; exact H
  clear H
  have H := H1
  clear H1
  have H' := Aside0.mk H
  clear H
  go_enter Try.func47, Try.ntmps47
  go_wp2_with (first | ((with_reducible refine gate_dst (N := 2) rfl ?_); refine bx 2 #[.int .i64 a0_0, .int .i64 a0_1, .int .i64 a0_2, .int .i64 a0_3] 27 ?_; intro gb149 hg w5 hbox hb; have BK149 := Aside0.mk (hbox); have GW149 := ge_ hg; have GE149 := ge_ hg; replace HB := hs_ hb; clear hb hbox hg) | ((with_reducible refine gate_dst (N := 3) rfl ?_); refine bx 3 #[.int .i64 a1_0, .int .i64 a1_1, .int .u64 a1_2, .int .i64 a1_3] 51 ?_; intro gb150 hg w6 hbox hb; have BK150 := Aside0.mk (hbox); have GW150 := ge_ hg; have GE150 := ge_ hg; have NB149_150 := nl_ BK149 hg; have NB150_149 := nr_ BK149 hg; replace BK149 := bk_ BK149 hb; replace HB := hs_ hb; clear hb hbox hg; have hnb7 := NB149_150.out; have hnc7 := NB150_149.out; obtain ⟨hcz8_0, hcz8_1, hcz8_2, hcz8_3, hfz8_0, hfz8_1, hfz8_2, hfz8_3⟩ := bz4_ BK149) | ((with_reducible refine gate_callee (f := 45) rfl ?_); refine goesL_ (some 10) rfl rfl Try.func45 (by kernel_rfl) rfl #[.agg #[.int .i64 a0_0, .int .i64 a0_1, .int .i64 a0_2, .int .i64 a0_3]] rfl Z0 ?_; (with_reducible refine (ensembleref04_Right.calls a0_0 a0_1 a0_2 a0_3 true _ A3.out).mono ?_); rintro e w9 ⟨rfl, hb⟩; refine ⟨_, rfl, ?_⟩; replace BK149 := bk_ BK149 hb; replace BK150 := bk_ BK150 hb; replace HB := hs_ hb; (try clear hb); (try clear hb2); (try clear hk); (try clear hi)))
  go_loopg [5] k (fun kq v5 w' => ∃ (x5_1 : Int) (x151000_1 : Int) (x151001_1 : Int) (x151002_1 : Int) (x151003_1 : Int), v5 = .int .i64 x5_1 ∧ Aside0 (ensembleref04_Fits.l0 kq x5_1 a0_0 a0_1 a0_2 a0_3 x151000_1 x151001_1 x151002_1 x151003_1 = some r) ∧ Aside0 (kq ≤ k) ∧ Aside0 (w'.heap[gb149]? = some (.cells #[.int .i64 a0_0, .int .i64 a0_1, .int .i64 a0_2, .int .i64 a0_3] 27 (0, 0))) ∧ Aside0 (w'.heap[gb150]? = some (.cells #[.int .i64 x151000_1, .int .i64 x151001_1, .int .u64 x151002_1, .int .i64 x151003_1] 51 (0, 0))) ∧ Aside0 (Below w.heap.size w w'))
  case atStart => exact ⟨(0), (a1_0), (a1_1), (a1_2), (a1_3), Z6, H', ⟨Nat.le_refl _⟩, ⟨bo_ BK149⟩, ⟨bo_ BK150⟩, ⟨hb_⟩⟩
  case round =>
   clear H'
   try clear p2
   try clear c4
   try clear c7
   try clear hcz8_0
   try clear hcz8_1
   try clear hcz8_2
   try clear hcz8_3
   try clear hfz8_0
   try clear hfz8_1
   try clear hfz8_2
   try clear hfz8_3
   obtain ⟨x5_1, x151000_1, x151001_1, x151002_1, x151003_1, rfl, HA, HK1, BK149, BK150, HB⟩ := hrel
   cases gk with
   | zero => exact absurd HA.out (by simp [ensembleref04_Fits.l0])
   | succ k1 =>
    have H := HA.out
    clear HA
    simp only [ensembleref04_Fits.l0] at H
    by_cases c10 : x5_1 < 16
    ·rw [if_pos c10] at H
     have c10b0 : decide (x5_1 < 16) = true := decide_eq_true c10
     clear c10
     replace H := Option.bind_eq_some_iff.mp H
     obtain ⟨⟨t152, t153, t154, t155, t156, t157, t158, t159, t160⟩, A110, H⟩ := H
     replace H : (if t160 = 0 then (ensembleref04_Fits.l0 k1 (wrap64 (x5_1 + 1)) a0_0 a0_1 a0_2 a0_3 t156 t157 t158 t159) else (some x5_1)) = some r := H
     have A11 := Aside0.mk A110
     clear A110
     by_cases c12 : t160 = 0
     ·rw [if_pos c12] at H
      have c12b0 : (t160 == 0) = true := beq_iff_eq.mpr c12
      have c12b1 : (t160 != 0) = false := bne_eq_false_iff_eq.mpr c12
      clear c12
      have H' := Aside0.mk H
      clear H
      have hnb13 := NB149_150.out
      have hnc13 := NB150_149.out
      obtain ⟨hcz14_0, hcz14_1, hcz14_2, hcz14_3, hfz14_0, hfz14_1, hfz14_2, hfz14_3⟩ := bz4_ BK149
      obtain ⟨hcz15_0, hcz15_1, hcz15_2, hcz15_3, hfz15_0, hfz15_1, hfz15_2, hfz15_3⟩ := bz4_ BK150
      go_wp2_with (first | ((with_reducible refine gate_callee (f := 89) rfl ?_); refine goesL_ (some 17) rfl rfl Try.func89 (by kernel_rfl) rfl #[.agg #[.int .i64 a0_0, .int .i64 a0_1, .int .i64 a0_2, .int .i64 a0_3], .agg #[.int .i64 x151000_1, .int .i64 x151001_1, .int .u64 x151002_1, .int .i64 x151003_1]] rfl Z0 ?_; (with_reducible refine (ensembleref04_Piece.calls k1 a0_0 a0_1 a0_2 a0_3 x151000_1 x151001_1 x151002_1 x151003_1 t152 t153 t154 t155 t156 t157 t158 t159 t160 _ A11.out).mono ?_); rintro e w16 ⟨rfl, hb⟩; refine ⟨_, rfl, ?_⟩; replace BK149 := bk_ BK149 hb; replace BK150 := bk_ BK150 hb; replace HB := hs_ hb; (try clear hb); (try clear hb2); (try clear hk); (try clear hi)) | ((with_reducible refine gate_dst (N := 6) rfl ?_); refine bx 6 #[.int .i64 0, .int .i64 0, .int .u64 0, .int .i64 0] 52 ?_; intro gb161 hg w17 hbox hb; have BK161 := Aside0.mk (hbox); have GW161 := ge_ hg; have GE161 := ge_ hg; have NB149_161 := nl_ BK149 hg; have NB161_149 := nr_ BK149 hg; have NB150_161 := nl_ BK150 hg; have NB161_150 := nr_ BK150 hg; replace BK149 := bk_ BK149 hb; replace BK150 := bk_ BK150 hb; replace HB := hs_ hb; clear hb hbox hg) | ((with_reducible refine gate_dst (N := 7) rfl ?_); refine bx 7 #[.int .i64 0, .int .i64 0, .int .u64 0, .int .i64 0] 51 ?_; intro gb162 hg w18 hbox hb; have BK162 := Aside0.mk (hbox); have GW162 := ge_ hg; have GE162 := ge_ hg; have NB149_162 := nl_ BK149 hg; have NB162_149 := nr_ BK149 hg; have NB150_162 := nl_ BK150 hg; have NB162_150 := nr_ BK150 hg; have NB161_162 := nl_ BK161 hg; have NB162_161 := nr_ BK161 hg; replace BK149 := bk_ BK149 hb; replace BK150 := bk_ BK150 hb; replace BK161 := bk_ BK161 hb; replace HB := hs_ hb; clear hb hbox hg; have hnb19 := NB161_149.out; have hnc19 := NB149_161.out; have hnb20 := NB161_150.out; have hnc20 := NB150_161.out; have hnb21 := NB161_162.out; have hnc21 := NB162_161.out; obtain ⟨hcz22_0, hcz22_1, hcz22_2, hcz22_3, hfz22_0, hfz22_1, hfz22_2, hfz22_3⟩ := bz4_ BK161; have hnb23 := NB162_149.out; have hnc23 := NB149_162.out; have hnb24 := NB162_150.out; have hnc24 := NB150_162.out; obtain ⟨hcz25_0, hcz25_1, hcz25_2, hcz25_3, hfz25_0, hfz25_1, hfz25_2, hfz25_3⟩ := bz4_ BK162; obtain ⟨hcz26_0, hcz26_1, hcz26_2, hcz26_3, hfz26_0, hfz26_1, hfz26_2, hfz26_3⟩ := bz4_ BK150))
      go_roundg k1
      case measure => have := HK1.out; omega
      case rel => exact ⟨(wrap64 (x5_1 + 1)), (t156), (t157), (t158), (t159), Z6, H', ⟨by have := HK1.out; omega⟩, ⟨bs_⟩, ⟨bs_⟩, ⟨hb_⟩⟩
     ·rw [if_neg c12] at H
      have c12b0 : (t160 == 0) = false := beq_eq_false_iff_ne.mpr c12
      have c12b1 : (t160 != 0) = true := bne_iff_ne.mpr c12
      obtain rfl := Option.some.inj H
      have hnb27 := NB149_150.out
      have hnc27 := NB150_149.out
      obtain ⟨hcz28_0, hcz28_1, hcz28_2, hcz28_3, hfz28_0, hfz28_1, hfz28_2, hfz28_3⟩ := bz4_ BK149
      obtain ⟨hcz29_0, hcz29_1, hcz29_2, hcz29_3, hfz29_0, hfz29_1, hfz29_2, hfz29_3⟩ := bz4_ BK150
      go_wp2_with (first | ((with_reducible refine gate_callee (f := 89) rfl ?_); refine goesL_ (some 17) rfl rfl Try.func89 (by kernel_rfl) rfl #[.agg #[.int .i64 a0_0, .int .i64 a0_1, .int .i64 a0_2, .int .i64 a0_3], .agg #[.int .i64 x151000_1, .int .i64 x151001_1, .int .u64 x151002_1, .int .i64 x151003_1]] rfl Z0 ?_; (with_reducible refine (ensembleref04_Piece.calls k1 a0_0 a0_1 a0_2 a0_3 x151000_1 x151001_1 x151002_1 x151003_1 t152 t153 t154 t155 t156 t157 t158 t159 t160 _ A11.out).mono ?_); rintro e w30 ⟨rfl, hb⟩; refine ⟨_, rfl, ?_⟩; replace BK149 := bk_ BK149 hb; replace BK150 := bk_ BK150 hb; replace HB := hs_ hb; (try clear hb); (try clear hb2); (try clear hk); (try clear hi)) | ((with_reducible refine gate_dst (N := 6) rfl ?_); refine bx 6 #[.int .i64 0, .int .i64 0, .int .u64 0, .int .i64 0] 52 ?_; intro gb161 hg w31 hbox hb; have BK161 := Aside0.mk (hbox); have GW161 := ge_ hg; have GE161 := ge_ hg; have NB149_161 := nl_ BK149 hg; have NB161_149 := nr_ BK149 hg; have NB150_161 := nl_ BK150 hg; have NB161_150 := nr_ BK150 hg; replace BK149 := bk_ BK149 hb; replace BK150 := bk_ BK150 hb; replace HB := hs_ hb; clear hb hbox hg) | ((with_reducible refine gate_dst (N := 7) rfl ?_); refine bx 7 #[.int .i64 0, .int .i64 0, .int .u64 0, .int .i64 0] 51 ?_; intro gb162 hg w32 hbox hb; have BK162 := Aside0.mk (hbox); have GW162 := ge_ hg; have GE162 := ge_ hg; have NB149_162 := nl_ BK149 hg; have NB162_149 := nr_ BK149 hg; have NB150_162 := nl_ BK150 hg; have NB162_150 := nr_ BK150 hg; have NB161_162 := nl_ BK161 hg; have NB162_161 := nr_ BK161 hg; replace BK149 := bk_ BK149 hb; replace BK150 := bk_ BK150 hb; replace BK161 := bk_ BK161 hb; replace HB := hs_ hb; clear hb hbox hg; have hnb33 := NB161_149.out; have hnc33 := NB149_161.out; have hnb34 := NB161_150.out; have hnc34 := NB150_161.out; have hnb35 := NB161_162.out; have hnc35 := NB162_161.out; obtain ⟨hcz36_0, hcz36_1, hcz36_2, hcz36_3, hfz36_0, hfz36_1, hfz36_2, hfz36_3⟩ := bz4_ BK161; have hnb37 := NB162_149.out; have hnc37 := NB149_162.out; have hnb38 := NB162_150.out; have hnc38 := NB150_162.out; obtain ⟨hcz39_0, hcz39_1, hcz39_2, hcz39_3, hfz39_0, hfz39_1, hfz39_2, hfz39_3⟩ := bz4_ BK162))
      go_ret
      exact ⟨by first | rfl | (simp [errW_none, errW_some] <;> rfl) | (simp [*, errW_none, errW_some] <;> rfl), hb_⟩
    ·rw [if_neg c10] at H
     have c10b0 : decide (x5_1 < 16) = false := decide_eq_false c10
     clear c10
     obtain rfl := Option.some.inj H
     go_wp2
     go_ret
     exact ⟨by first | rfl | (simp [errW_none, errW_some] <;> rfl) | (simp [*, errW_none, errW_some] <;> rfl), hb_⟩
 ·replace c4 := Bool.eq_false_iff.mpr c4
  subst c4
  have H1 : (some 0) = some r := by rw [if_neg (show ¬ (false = true) by decide)] at H; exact H
  clear H
  have H := H1
  clear H1
  obtain rfl := Option.some.inj H
  go_enter Try.func47, Try.ntmps47
  go_wp2_with (first | ((with_reducible refine gate_dst (N := 2) rfl ?_); refine bx 2 #[.int .i64 a0_0, .int .i64 a0_1, .int .i64 a0_2, .int .i64 a0_3] 27 ?_; intro gb149 hg w40 hbox hb; have BK149 := Aside0.mk (hbox); have GW149 := ge_ hg; have GE149 := ge_ hg; replace HB := hs_ hb; clear hb hbox hg) | ((with_reducible refine gate_dst (N := 3) rfl ?_); refine bx 3 #[.int .i64 a1_0, .int .i64 a1_1, .int .u64 a1_2, .int .i64 a1_3] 51 ?_; intro gb150 hg w41 hbox hb; have BK150 := Aside0.mk (hbox); have GW150 := ge_ hg; have GE150 := ge_ hg; have NB149_150 := nl_ BK149 hg; have NB150_149 := nr_ BK149 hg; replace BK149 := bk_ BK149 hb; replace HB := hs_ hb; clear hb hbox hg; have hnb42 := NB149_150.out; have hnc42 := NB150_149.out; obtain ⟨hcz43_0, hcz43_1, hcz43_2, hcz43_3, hfz43_0, hfz43_1, hfz43_2, hfz43_3⟩ := bz4_ BK149) | ((with_reducible refine gate_callee (f := 45) rfl ?_); refine goesL_ (some 10) rfl rfl Try.func45 (by kernel_rfl) rfl #[.agg #[.int .i64 a0_0, .int .i64 a0_1, .int .i64 a0_2, .int .i64 a0_3]] rfl Z0 ?_; (with_reducible refine (ensembleref04_Right.calls a0_0 a0_1 a0_2 a0_3 false _ A3.out).mono ?_); rintro e w44 ⟨rfl, hb⟩; refine ⟨_, rfl, ?_⟩; replace BK149 := bk_ BK149 hb; replace BK150 := bk_ BK150 hb; replace HB := hs_ hb; (try clear hb); (try clear hb2); (try clear hk); (try clear hi)))
  go_ret
  exact ⟨by first | rfl | (simp [errW_none, errW_some] <;> rfl) | (simp [*, errW_none, errW_some] <;> rfl), hb_⟩
end Go.Proofs.Ytckhjehibjdjdaa.P
namespace Go.Proofs.Ytckhjehibjdjdaa.P
open Go.RowKit Go.Proofs.YtckhjehibjdjdaaW.PrintWords Go.Proofs.YtckhjehibjdjdaaW.PrintLast Go.Proofs.YtckhjehibjdjdaaW.PrintMore
attribute [local go_sem] max2_int min2_int max_two min_two max_three min_three max_four min_four
set_option linter.unusedVariables false
set_option linter.unusedSimpArgs false
def ensembleref05_Room.l0 : Nat → List (S51) → Int → Int → Int → Int → Int → Int → Option (Int)
 | 0, _, _, _, _, _, _, _ => none
 | k + 1, x0, x5, x6, x164000, x164001, x164002, x164003 => if x6 < (x0.length : Int) then (if 0 ≤ x6 then ((ensembleref04_Fits.f k x164000 x164001 x164002 x164003 ((rd_T51 x0 x6).f0.f0) ((rd_T51 x0 x6).f0.f1) ((rd_T51 x0 x6).f1) ((rd_T51 x0 x6).f2)).bind fun t165 => (ensembleref05_Room.l0 k x0 (wrap64 (x5 + t165)) (wrap64 (x6 + 1)) x164000 x164001 x164002 x164003)) else (none)) else (some x5)
def ensembleref05_Room.f (k : Nat) (l0 : List (S51)) (a1_0 : Int) (a1_1 : Int) (a1_2 : Int) (a1_3 : Int) : Option (Int) := ensembleref05_Room.l0 k l0 0 0 a1_0 a1_1 a1_2 a1_3
def ensembleref05_Room.T5 : Bool × List (List Nat × List Nat) := (true, [([], []), ([], []), ([], []), ([], []), ([2, 3], [2, 3]), ([4], [4]), ([1, 5], [1, 5]), ([0, 6], [0, 6]), ([7, 6, 0, 1, 2, 3, 4, 5, 6, 7], [0, 7])])
def ensembleref05_Room.B5 : List Nat := [0, 0, 0, 0, 12, 28, 62, 127, 255]
theorem ensembleref05_Room.tab5 : rtab .any (opsOf Try.f34 5) = ensembleref05_Room.T5 := by kernel_rfl
theorem ensembleref05_Room.bits5 : waitsOk ensembleref05_Room.T5.2 ensembleref05_Room.B5 = true := by kernel_rfl
set_option maxHeartbeats 8000000 in
set_option maxRecDepth 100000 in
theorem ensembleref05_Room.calls (k : Nat) (A0 : Option Addr) (c0 : Nat) (l0 : List (S51)) (a1_0 : Int) (a1_1 : Int) (a1_2 : Int) (a1_3 : Int) (r : Int) (w : World) (hr0 : Kd.C k51 w A0 l0.length l0) (hc0 : l0.length ≤ c0) (h : ensembleref05_Room.f k l0 a1_0 a1_1 a1_2 a1_3 = some r) :
  Calls Try.prog 34 #[.slice A0 l0.length c0, .agg #[.int .i64 a1_0, .int .i64 a1_1, .int .i64 a1_2, .int .i64 a1_3]] w fun e w' => e = .returned (.int .i64 r) ∧ Below w.heap.size w w' := by
 have hu27 := Try.underlying27
 have hu51 := Try.underlying51
 have HR0 := Aside0.mk hr0
 have HC0 := Aside0.mk hc0
 clear hr0 hc0
 have HB := Aside0.mk (Below.refl w.heap.size w)
 have H : (ensembleref05_Room.l0 k l0 0 0 a1_0 a1_1 a1_2 a1_3) = some r := h
 clear h
 have H' := Aside0.mk H
 clear H
 go_enter Try.func34, Try.ntmps34
 go_wp2_with (first | ((with_reducible refine gate_dst (N := 3) rfl ?_); refine bx 3 #[.int .i64 a1_0, .int .i64 a1_1, .int .i64 a1_2, .int .i64 a1_3] 27 ?_; intro gb163 hg w3 hbox hb; have BK163 := Aside0.mk (hbox); have GW163 := ge_ hg; have GE163 := ge_ hg; replace HB := hs_ hb; clear hb hbox hg))
 go_loopg [5, 6] k (fun kq v5 v6 w' => ∃ (x5_1 : Int) (x6_1 : Int), v5 = .int .i64 x5_1 ∧ v6 = .int .i64 x6_1 ∧ Aside0 (ensembleref05_Room.l0 kq l0 x5_1 x6_1 a1_0 a1_1 a1_2 a1_3 = some r) ∧ Aside0 (kq ≤ k) ∧ Aside0 (w'.heap[gb163]? = some (.cells #[.int .i64 a1_0, .int .i64 a1_1, .int .i64 a1_2, .int .i64 a1_3] 27 (0, 0))) ∧ Aside0 (Below w.heap.size w w'))
 case atStart => exact ⟨(0), (0), Z6, Z6, H', ⟨Nat.le_refl _⟩, ⟨bo_ BK163⟩, ⟨hb_⟩⟩
 case round =>
  clear H'
  try clear p2
  try clear c3
  obtain ⟨x5_1, x6_1, rfl, rfl, HA, HK1, BK163, HB⟩ := hrel
  cases gk with
  | zero => exact absurd HA.out (by simp [ensembleref05_Room.l0])
  | succ k1 =>
   have H := HA.out
   clear HA
   simp only [ensembleref05_Room.l0] at H
   by_cases c4 : x6_1 < (l0.length : Int)
   ·rw [if_pos c4] at H
    have c4b0 : decide (x6_1 < (l0.length : Int)) = true := decide_eq_true c4
    clear c4
    by_cases c5 : 0 ≤ x6_1
    ·rw [if_pos c5] at H
     have c5b0 : decide (0 ≤ x6_1) = true := decide_eq_true c5
     clear c5
     replace H := Option.bind_eq_some_iff.mp H
     obtain ⟨t165, A60, H⟩ := H
     replace H : (ensembleref05_Room.l0 k1 l0 (wrap64 (x5_1 + t165)) (wrap64 (x6_1 + 1)) a1_0 a1_1 a1_2 a1_3) = some r := H
     have A6 := Aside0.mk A60
     clear A60
     have H' := Aside0.mk H
     clear H
     try go_wp2
     replace BK163 := Aside0.mk (blk_drew BK163.out)
     replace HB := Aside0.mk (below_drew1 HB.out)
     have p164 : 0 ≤ (x6_1 : Int) := of_decide_eq_true Z1
     have q164 : x6_1 < (l0.length : Int) := of_decide_eq_true Z1
     obtain ⟨ad164, e164, hx164_0, hx164_1, hx164_2, hx164_3⟩ := at_T51 HR0.out x6_1 p164 q164
     have hw164_3 := hx164_3
     have hw164_2 := hx164_2
     have hw164_1 := hx164_1
     have hw164_0 := hx164_0
     cases e164
     replace hx164_0 := cx_ hx164_0
     replace hx164_1 := cx_ hx164_1
     replace hx164_2 := cx_ hx164_2
     replace hx164_3 := cx_ hx164_3
     replace p164 := eq_true p164
     replace q164 := eq_true q164
     refine start_ (n := 9) (S := fun w' => w'.cell? ⟨gb163, 0, none⟩ = some (.int .i64 a1_0) ∧ w'.cell? ⟨gb163, 1, none⟩ = some (.int .i64 a1_1) ∧ w'.cell? ⟨gb163, 2, none⟩ = some (.int .i64 a1_2) ∧ w'.cell? ⟨gb163, 3, none⟩ = some (.int .i64 a1_3) ∧ w'.cell? (ad164.add ((x6_1).toNat * 4)) = some (.int .i64 ((rd_T51 l0 x6_1).f0.f0)) ∧ w'.cell? ⟨(ad164.add ((x6_1).toNat * 4)).block, (ad164.add ((x6_1).toNat * 4)).off + 1, none⟩ = some (.int .i64 ((rd_T51 l0 x6_1).f0.f1)) ∧ w'.cell? ⟨(ad164.add ((x6_1).toNat * 4)).block, (ad164.add ((x6_1).toNat * 4)).off + 2, none⟩ = some (.int .u64 ((rd_T51 l0 x6_1).f1)) ∧ w'.cell? ⟨(ad164.add ((x6_1).toNat * 4)).block, (ad164.add ((x6_1).toNat * 4)).off + 3, none⟩ = some (.int .i64 ((rd_T51 l0 x6_1).f2))) (ds := []) (bm 9 0) (by kernel_rfl) rfl rfl ⟨(blk_cell BK163.out 0).trans rfl, (blk_cell BK163.out 1).trans rfl, (blk_cell BK163.out 2).trans rfl, (blk_cell BK163.out 3).trans rfl, ((HB.out.cell (World.block_lt_of_cell? w _ hw164_0)).trans hw164_0), ((HB.out.cell (World.block_lt_of_cell? w _ hw164_1)).trans hw164_1), ((HB.out.cell (World.block_lt_of_cell? w _ hw164_2)).trans hw164_2), ((HB.out.cell (World.block_lt_of_cell? w _ hw164_3)).trans hw164_3)⟩ (fun hHeld => ?_); refine with_tabW ensembleref05_Room.tab5 ensembleref05_Room.bits5 (fun HT_ HW_ => ?_)
     generalize wr.drew = w7 at BK163 HB hx164_0 hx164_1 hx164_2 hx164_3 hHeld ⊢
     refine pu 0 (some 13) (bm 9 1) ?_
     refine pu 2 (some 15) (bm 9 5) ?_
     refine pu 3 (some 16) (bm 9 13) ?_
     refine pu 4 (some 17) (bm 9 29) ?_
     refine tk8 1 (some 14) (bm 9 31) ?_
     refine tk8 5 (some 18) (bm 9 63) ?_
     refine one_ (i := 6) (N := some 19) (bm 9 127) rfl rfl (one_of HT_.out (by kernel_rfl)) (by decide) (fun K hK => ?_)
     refine goes_ Try.func47 (by kernel_rfl) rfl #[.agg #[.int .i64 a1_0, .int .i64 a1_1, .int .i64 a1_2, .int .i64 a1_3], .agg #[.int .i64 ((rd_T51 l0 x6_1).f0.f0), .int .i64 ((rd_T51 l0 x6_1).f0.f1), .int .u64 ((rd_T51 l0 x6_1).f1), .int .i64 ((rd_T51 l0 x6_1).f2)]] (by rfl) rfl rfl Z0 ?_
     with_reducible refine (ensembleref04_Fits.calls k1 a1_0 a1_1 a1_2 a1_3 ((rd_T51 l0 x6_1).f0.f0) ((rd_T51 l0 x6_1).f0.f1) ((rd_T51 l0 x6_1).f1) ((rd_T51 l0 x6_1).f2) t165 _ A6.out).mono ?_
     rintro e w8 ⟨rfl, hb⟩
     refine ⟨_, rfl, ?_⟩
     replace BK163 := bk_ BK163 hb
     replace HB := hs_ hb
     (try clear hb)
     (try clear hb2)
     (try clear hk)
     (try clear hi)
     refine hK.out _ _ ⟨(blk_cell BK163.out 0).trans rfl, (blk_cell BK163.out 1).trans rfl, (blk_cell BK163.out 2).trans rfl, (blk_cell BK163.out 3).trans rfl, ((HB.out.cell (World.block_lt_of_cell? w _ hw164_0)).trans hw164_0), ((HB.out.cell (World.block_lt_of_cell? w _ hw164_1)).trans hw164_1), ((HB.out.cell (World.block_lt_of_cell? w _ hw164_2)).trans hw164_2), ((HB.out.cell (World.block_lt_of_cell? w _ hw164_3)).trans hw164_3)⟩ (fun hHeld => ?_)
     clear hK K
     refine norm_ (a' := ?_) ?_ ?_
     rotate_left
     ·show Act.put _ (some 19) _ = _
      simp only [Act.put, List.setIfInBounds_toArray, List.set_cons_zero, List.set_cons_succ, i64_w, i32_w]
      rfl
     refine pu 7 (some 20) (bm 9 255) ?_
     refine pu 8 (some 5) (bm 9 511) ?_
     refine done_ (done_of HT_.out (by kernel_rfl)) ?_
     try go_wp2
     go_roundg k1
     case measure => have := HK1.out; omega
     case rel => exact ⟨(wrap64 (x5_1 + t165)), (wrap64 (x6_1 + 1)), Z6, Z6, H', ⟨by have := HK1.out; omega⟩, ⟨bo_ BK163⟩, ⟨hb_⟩⟩
    ·rw [if_neg c5] at H
     exact absurd H (by simp)
   ·rw [if_neg c4] at H
    have c4b0 : decide (x6_1 < (l0.length : Int)) = false := decide_eq_false c4
    clear c4
    obtain rfl := Option.some.inj H
    go_wp2
    go_ret
    exact ⟨by first | rfl | (simp [errW_none, errW_some] <;> rfl) | (simp [*, errW_none, errW_some] <;> rfl), hb_⟩
end Go.Proofs.Ytckhjehibjdjdaa.P
namespace Go.Proofs.Ytckhjehibjdjdaa.P
open Go.RowKit Go.Proofs.YtckhjehibjdjdaaW.PrintWords Go.Proofs.YtckhjehibjdjdaaW.PrintLast Go.Proofs.YtckhjehibjdjdaaW.PrintMore
attribute [local go_sem] max2_int min2_int max_two min_two max_three min_three max_four min_four
set_option linter.unusedVariables false
set_option linter.unusedSimpArgs false
def ensembleref04_Units.l0 : Nat → Int → Int → Int → Int → Int → Int → Int → Int → Option (Int × Int)
 | 0, _, _, _, _, _, _, _, _ => none
 | k + 1, x1, x6, x167000, x167001, x167002, x167003, x169000, x169001 => if x6 < x1 then (ensembleref04_Units.l0 k x1 (wrap64 (x6 + 1)) x167000 x167001 x167002 x167003 (wrap64 (x169000 + x167000)) (wrap64 (x169001 + x167001))) else (some (x169000, x169001))
def ensembleref04_Units.f (k : Nat) (a0_0 : Int) (a0_1 : Int) (a0_2 : Int) (a0_3 : Int) (a1 : Int) : Option (Int × Int) := ensembleref04_Units.l0 k a1 0 a0_0 a0_1 a0_2 a0_3 0 0
set_option maxHeartbeats 8000000 in
set_option maxRecDepth 100000 in
theorem ensembleref04_Units.calls (k : Nat) (a0_0 : Int) (a0_1 : Int) (a0_2 : Int) (a0_3 : Int) (a1 : Int) (r1 : Int) (r2 : Int) (w : World) (h : ensembleref04_Units.f k a0_0 a0_1 a0_2 a0_3 a1 = some (r1, r2)) :
  Calls Try.prog 77 #[.agg #[.int .i64 a0_0, .int .i64 a0_1, .int .i64 a0_2, .int .i64 a0_3], .int .i64 a1] w fun e w' => e = .returned (.agg #[.int .i64 r1, .int .i64 r2]) ∧ Below w.heap.size w w' := by
 have hu27 := Try.underlying27
 have hu24 := Try.underlying24
 have HB := Aside0.mk (Below.refl w.heap.size w)
 have H : (ensembleref04_Units.l0 k a1 0 a0_0 a0_1 a0_2 a0_3 0 0) = some (r1, r2) := h
 clear h
 have H' := Aside0.mk H
 clear H
 go_enter Try.func77, Try.ntmps77
 go_wp2_with (first | ((with_reducible refine gate_dst (N := 2) rfl ?_); refine bx 2 #[.int .i64 a0_0, .int .i64 a0_1, .int .i64 a0_2, .int .i64 a0_3] 27 ?_; intro gb166 hg w3 hbox hb; have BK166 := Aside0.mk (hbox); have GW166 := ge_ hg; have GE166 := ge_ hg; replace HB := hs_ hb; clear hb hbox hg) | ((with_reducible refine gate_dst (N := 4) rfl ?_); refine bx 4 #[.int .i64 0, .int .i64 0] 24 ?_; intro gb167 hg w4 hbox hb; have BK167 := Aside0.mk (hbox); have GW167 := ge_ hg; have GE167 := ge_ hg; have NB166_167 := nl_ BK166 hg; have NB167_166 := nr_ BK166 hg; replace BK166 := bk_ BK166 hb; replace HB := hs_ hb; clear hb hbox hg) | ((with_reducible refine gate_dst (N := 5) rfl ?_); refine bx 5 #[.int .i64 0, .int .i64 0] 24 ?_; intro gb168 hg w5 hbox hb; have BK168 := Aside0.mk (hbox); have GW168 := ge_ hg; have GE168 := ge_ hg; have NB166_168 := nl_ BK166 hg; have NB168_166 := nr_ BK166 hg; have NB167_168 := nl_ BK167 hg; have NB168_167 := nr_ BK167 hg; replace BK166 := bk_ BK166 hb; replace BK167 := bk_ BK167 hb; replace HB := hs_ hb; clear hb hbox hg; have hnb6 := NB168_166.out; have hnc6 := NB166_168.out; have hnb7 := NB168_167.out; have hnc7 := NB167_168.out; obtain ⟨hcz8_0, hcz8_1, hfz8_0, hfz8_1⟩ := bz2_ BK168))
 go_loopg [6] k (fun kq v6 w' => ∃ (x6_1 : Int) (x169000_1 : Int) (x169001_1 : Int), v6 = .int .i64 x6_1 ∧ Aside0 (ensembleref04_Units.l0 kq a1 x6_1 a0_0 a0_1 a0_2 a0_3 x169000_1 x169001_1 = some (r1, r2)) ∧ Aside0 (kq ≤ k) ∧ Aside0 (w'.heap[gb166]? = some (.cells #[.int .i64 a0_0, .int .i64 a0_1, .int .i64 a0_2, .int .i64 a0_3] 27 (0, 0))) ∧ Aside0 (w'.heap[gb167]? = some (.cells #[.int .i64 0, .int .i64 0] 24 (0, 0))) ∧ Aside0 (w'.heap[gb168]? = some (.cells #[.int .i64 x169000_1, .int .i64 x169001_1] 24 (0, 0))) ∧ Aside0 (Below w.heap.size w w'))
 case atStart => exact ⟨(0), (0), (0), Z6, H', ⟨Nat.le_refl _⟩, ⟨bs_⟩, ⟨bs_⟩, ⟨bs_⟩, ⟨hb_⟩⟩
 case round =>
  clear H'
  try clear p2
  try clear c6
  try clear c7
  try clear hcz8_0
  try clear hcz8_1
  try clear hfz8_0
  try clear hfz8_1
  obtain ⟨x6_1, x169000_1, x169001_1, rfl, HA, HK1, BK166, BK167, BK168, HB⟩ := hrel
  cases gk with
  | zero => exact absurd HA.out (by simp [ensembleref04_Units.l0])
  | succ k1 =>
   have H := HA.out
   clear HA
   simp only [ensembleref04_Units.l0] at H
   by_cases c9 : x6_1 < a1
   ·rw [if_pos c9] at H
    have c9b0 : decide (x6_1 < a1) = true := decide_eq_true c9
    clear c9
    have H' := Aside0.mk H
    clear H
    have hnb10 := NB168_166.out
    have hnc10 := NB166_168.out
    have hnb11 := NB168_167.out
    have hnc11 := NB167_168.out
    obtain ⟨hcz12_0, hcz12_1, hfz12_0, hfz12_1⟩ := bz2_ BK168
    have hnb13 := NB166_167.out
    have hnc13 := NB167_166.out
    obtain ⟨hcz14_0, hcz14_1, hcz14_2, hcz14_3, hfz14_0, hfz14_1, hfz14_2, hfz14_3⟩ := bz4_ BK166
    go_wp2
    go_roundg k1
    case measure => have := HK1.out; omega
    case rel => exact ⟨(wrap64 (x6_1 + 1)), (wrap64 (x169000_1 + a0_0)), (wrap64 (x169001_1 + a0_1)), Z6, H', ⟨by have := HK1.out; omega⟩, ⟨bs_⟩, ⟨bs_⟩, ⟨bs_⟩, ⟨hb_⟩⟩
   ·rw [if_neg c9] at H
    have c9b0 : decide (x6_1 < a1) = false := decide_eq_false c9
    clear c9
    simp only [Option.some.injEq, Prod.mk.injEq] at H
    obtain ⟨rfl, rfl⟩ := H
    have hnb15 := NB168_166.out
    have hnc15 := NB166_168.out
    have hnb16 := NB168_167.out
    have hnc16 := NB167_168.out
    obtain ⟨hcz17_0, hcz17_1, hfz17_0, hfz17_1⟩ := bz2_ BK168
    have hnb18 := NB167_166.out
    have hnc18 := NB166_167.out
    obtain ⟨hcz19_0, hcz19_1, hfz19_0, hfz19_1⟩ := bz2_ BK167
    go_wp2
    refine bodyPost_ret (results_cell_row rfl _ _ gb167 24 #[.int .i64 x169000_1, .int .i64 x169001_1] (0, 0) _ rfl (by (with_reducible repeat (first | refine blk_drewN ?_ _ | refine blk_drew ?_ | refine blk_alloc ?_ _)); refine blk_put (cs := #[.int .i64 x169000_1, .int .i64 0]) ?_ 1 _ rfl; (with_reducible repeat (first | refine blk_drewN ?_ _ | refine blk_drew ?_ | refine blk_alloc ?_ _)); refine blk_put (cs := #[.int .i64 0, .int .i64 0]) ?_ 0 _ rfl; (with_reducible repeat (first | refine blk_drewN ?_ _ | refine blk_drew ?_ | refine blk_alloc ?_ _)); exact BK167.out) Try.underlying24 rfl (by kernel_rfl)) rfl ?_
    exact ⟨by first | rfl | (simp [errW_none, errW_some] <;> rfl) | (simp [*, errW_none, errW_some] <;> rfl), hb_⟩
end Go.Proofs.Ytckhjehibjdjdaa.P
namespace Go.Proofs.Ytckhjehibjdjdaa.P
open Go.RowKit Go.Proofs.YtckhjehibjdjdaaW.PrintWords Go.Proofs.YtckhjehibjdjdaaW.PrintLast Go.Proofs.YtckhjehibjdjdaaW.PrintMore
attribute [local go_sem] max2_int min2_int max_two min_two max_three min_three max_four min_four
set_option linter.unusedVariables false
set_option linter.unusedSimpArgs false
def ensembleref12_Right.f (a0_0 : Int) (a0_1 : Int) (a0_2 : Int) (a0_3 : Int) (a0_4 : Int) (a0_5 : Int) : Option (Bool) := (ensembleref04_Right.f a0_2 a0_3 a0_4 a0_5).bind fun t133 => (if t133 = true then (if a0_1 ≥ 1 then (some (decide (a0_1 ≤ 16))) else (some false)) else (some false))
set_option maxHeartbeats 8000000 in
set_option maxRecDepth 100000 in
theorem ensembleref12_Right.calls (a0_0 : Int) (a0_1 : Int) (a0_2 : Int) (a0_3 : Int) (a0_4 : Int) (a0_5 : Int) (r : Bool) (w : World) (h : ensembleref12_Right.f a0_0 a0_1 a0_2 a0_3 a0_4 a0_5 = some r) :
  Calls Try.prog 33 #[.agg #[.int .i64 a0_0, .int .i64 a0_1, .int .i64 a0_2, .int .i64 a0_3, .int .i64 a0_4, .int .i64 a0_5]] w fun e w' => e = .returned (.bool r) ∧ Below w.heap.size w w' := by
 have hu29 := Try.underlying29
 have hu27 := Try.underlying27
 have HB := Aside0.mk (Below.refl w.heap.size w)
 have H : ((ensembleref04_Right.f a0_2 a0_3 a0_4 a0_5).bind fun t133 => (if t133 = true then (if a0_1 ≥ 1 then (some (decide (a0_1 ≤ 16))) else (some false)) else (some false))) = some r := h
 clear h
 replace H := Option.bind_eq_some_iff.mp H
 obtain ⟨t133, A20, H⟩ := H
 replace H : (if t133 = true then (if a0_1 ≥ 1 then (some (decide (a0_1 ≤ 16))) else (some false)) else (some false)) = some r := H
 have A2 := Aside0.mk A20
 clear A20
 by_cases c3 : t133 = true
 ·subst c3
  have H1 : (if a0_1 ≥ 1 then (some (decide (a0_1 ≤ 16))) else (some false)) = some r := by rw [if_pos rfl] at H; exact H
  clear H
  have H := H1
  clear H1
  by_cases c4 : a0_1 ≥ 1
  ·rw [if_pos c4] at H
   have c4b0 : decide (1 ≤ a0_1) = true := decide_eq_true c4
   clear c4
   obtain rfl := Option.some.inj H
   go_enter Try.func33, Try.ntmps33
   go_wp2_with (first | ((with_reducible refine gate_dst (N := 1) rfl ?_); refine bx 1 #[.int .i64 a0_0, .int .i64 a0_1, .int .i64 a0_2, .int .i64 a0_3, .int .i64 a0_4, .int .i64 a0_5] 29 ?_; intro gb132 hg w5 hbox hb; have BK132 := Aside0.mk (hbox); have GW132 := ge_ hg; have GE132 := ge_ hg; replace HB := hs_ hb; clear hb hbox hg; obtain ⟨hcz6_0, hcz6_1, hcz6_2, hcz6_3, hcz6_4, hcz6_5, hfz6_0, hfz6_1, hfz6_2, hfz6_3, hfz6_4, hfz6_5⟩ := bz6_ BK132) | ((with_reducible refine gate_callee (f := 45) rfl ?_); refine goesL_ (some 5) rfl rfl Try.func45 (by kernel_rfl) rfl #[.agg #[.int .i64 a0_2, .int .i64 a0_3, .int .i64 a0_4, .int .i64 a0_5]] rfl Z0 ?_; (with_reducible refine (ensembleref04_Right.calls a0_2 a0_3 a0_4 a0_5 true _ A2.out).mono ?_); rintro e w7 ⟨rfl, hb⟩; refine ⟨_, rfl, ?_⟩; replace BK132 := bk_ BK132 hb; replace HB := hs_ hb; (try clear hb); (try clear hb2); (try clear hk); (try clear hi); obtain ⟨hcz8_0, hcz8_1, hcz8_2, hcz8_3, hcz8_4, hcz8_5, hfz8_0, hfz8_1, hfz8_2, hfz8_3, hfz8_4, hfz8_5⟩ := bz6_ BK132))
   go_ret
   exact ⟨by first | rfl | (simp [errW_none, errW_some] <;> rfl) | (simp [*, errW_none, errW_some] <;> rfl), hb_⟩
  ·rw [if_neg c4] at H
   have c4b0 : decide (1 ≤ a0_1) = false := decide_eq_false c4
   clear c4
   obtain rfl := Option.some.inj H
   go_enter Try.func33, Try.ntmps33
   go_wp2_with (first | ((with_reducible refine gate_dst (N := 1) rfl ?_); refine bx 1 #[.int .i64 a0_0, .int .i64 a0_1, .int .i64 a0_2, .int .i64 a0_3, .int .i64 a0_4, .int .i64 a0_5] 29 ?_; intro gb132 hg w9 hbox hb; have BK132 := Aside0.mk (hbox); have GW132 := ge_ hg; have GE132 := ge_ hg; replace HB := hs_ hb; clear hb hbox hg; obtain ⟨hcz10_0, hcz10_1, hcz10_2, hcz10_3, hcz10_4, hcz10_5, hfz10_0, hfz10_1, hfz10_2, hfz10_3, hfz10_4, hfz10_5⟩ := bz6_ BK132) | ((with_reducible refine gate_callee (f := 45) rfl ?_); refine goesL_ (some 5) rfl rfl Try.func45 (by kernel_rfl) rfl #[.agg #[.int .i64 a0_2, .int .i64 a0_3, .int .i64 a0_4, .int .i64 a0_5]] rfl Z0 ?_; (with_reducible refine (ensembleref04_Right.calls a0_2 a0_3 a0_4 a0_5 true _ A2.out).mono ?_); rintro e w11 ⟨rfl, hb⟩; refine ⟨_, rfl, ?_⟩; replace BK132 := bk_ BK132 hb; replace HB := hs_ hb; (try clear hb); (try clear hb2); (try clear hk); (try clear hi); obtain ⟨hcz12_0, hcz12_1, hcz12_2, hcz12_3, hcz12_4, hcz12_5, hfz12_0, hfz12_1, hfz12_2, hfz12_3, hfz12_4, hfz12_5⟩ := bz6_ BK132))
   go_ret
   exact ⟨by first | rfl | (simp [errW_none, errW_some] <;> rfl) | (simp [*, errW_none, errW_some] <;> rfl), hb_⟩
 ·replace c3 := Bool.eq_false_iff.mpr c3
  subst c3
  have H1 : (some false) = some r := by rw [if_neg (show ¬ (false = true) by decide)] at H; exact H
  clear H
  have H := H1
  clear H1
  obtain rfl := Option.some.inj H
  go_enter Try.func33, Try.ntmps33
  go_wp2_with (first | ((with_reducible refine gate_dst (N := 1) rfl ?_); refine bx 1 #[.int .i64 a0_0, .int .i64 a0_1, .int .i64 a0_2, .int .i64 a0_3, .int .i64 a0_4, .int .i64 a0_5] 29 ?_; intro gb132 hg w13 hbox hb; have BK132 := Aside0.mk (hbox); have GW132 := ge_ hg; have GE132 := ge_ hg; replace HB := hs_ hb; clear hb hbox hg; obtain ⟨hcz14_0, hcz14_1, hcz14_2, hcz14_3, hcz14_4, hcz14_5, hfz14_0, hfz14_1, hfz14_2, hfz14_3, hfz14_4, hfz14_5⟩ := bz6_ BK132) | ((with_reducible refine gate_callee (f := 45) rfl ?_); refine goesL_ (some 5) rfl rfl Try.func45 (by kernel_rfl) rfl #[.agg #[.int .i64 a0_2, .int .i64 a0_3, .int .i64 a0_4, .int .i64 a0_5]] rfl Z0 ?_; (with_reducible refine (ensembleref04_Right.calls a0_2 a0_3 a0_4 a0_5 false _ A2.out).mono ?_); rintro e w15 ⟨rfl, hb⟩; refine ⟨_, rfl, ?_⟩; replace BK132 := bk_ BK132 hb; replace HB := hs_ hb; (try clear hb); (try clear hb2); (try clear hk); (try clear hi)))
  go_ret
  exact ⟨by first | rfl | (simp [errW_none, errW_some] <;> rfl) | (simp [*, errW_none, errW_some] <;> rfl), hb_⟩
end Go.Proofs.Ytckhjehibjdjdaa.P
namespace Go.Proofs.Ytckhjehibjdjdaa.P
open Go.RowKit Go.Proofs.YtckhjehibjdjdaaW.PrintWords Go.Proofs.YtckhjehibjdjdaaW.PrintLast Go.Proofs.YtckhjehibjdjdaaW.PrintMore
attribute [local go_sem] max2_int min2_int max_two min_two max_three min_three max_four min_four
set_option linter.unusedVariables false
set_option linter.unusedSimpArgs false
def ensembleref12_Fits.f (k : Nat) (l0 : List (S51)) (a1_0 : Int) (a1_1 : Int) (a2_0 : Int) (a2_1 : Int) (a2_2 : Int) (a2_3 : Int) (a2_4 : Int) (a2_5 : Int) : Option (Bool) := (ensembleref12_Right.f a2_0 a2_1 a2_2 a2_3 a2_4 a2_5).bind fun t171 => (if t171 = true then ((ensembleref04_Units.f k a2_2 a2_3 a2_4 a2_5 a2_1).bind fun bt172 => (if bt172.1 ≤ a1_0 then (if bt172.2 ≤ a1_1 then ((ensembleref05_Room.f k l0 a2_2 a2_3 a2_4 a2_5).bind fun t175 => (some (decide (t175 ≥ a2_1)))) else (some false)) else (some false))) else (some false))
def ensembleref12_Fits.T4 : Bool × List (List Nat × List Nat) := (true, [([], []), ([0], [0]), ([], []), ([2], [2]), ([1, 3], [1, 3]), ([4], [4]), ([5], [5]), ([6, 5], [5, 6]), ([5], [5]), ([8, 5], [5, 8]), ([7, 9, 5], [5, 7, 9]), ([5, 10], [5, 10]), ([11, 5], [11]), ([12], [12]), ([12], [12]), ([14, 12], [12, 14]), ([13, 15, 12, 12], [12, 13, 15]), ([12], [12]), ([17, 12], [12, 17]), ([16, 18, 12], [12, 16, 18]), ([12, 19], [12, 19]), ([20, 16, 0, 1, 2, 3, 4, 5, 6, 7, 8, 9, 10, 11, 12, 13, 14, 15, 16, 17, 18, 19, 20], [20])])
def ensembleref12_Fits.B4 : List Nat := [0, 1, 0, 4, 15, 31, 63, 127, 63, 319, 1023, 2047, 4095, 8191, 8191, 24575, 65535, 8191, 139263, 524287, 1048575, 2097151]
theorem ensembleref12_Fits.tab4 : rtab .any (opsOf Try.f30 4) = ensembleref12_Fits.T4 := by kernel_rfl
theorem ensembleref12_Fits.bits4 : waitsOk ensembleref12_Fits.T4.2 ensembleref12_Fits.B4 = true := by kernel_rfl
set_option maxHeartbeats 8000000 in
set_option maxRecDepth 100000 in
theorem ensembleref12_Fits.calls (k : Nat) (A0 : Option Addr) (c0 : Nat) (l0 : List (S51)) (a1_0 : Int) (a1_1 : Int) (a2_0 : Int) (a2_1 : Int) (a2_2 : Int) (a2_3 : Int) (a2_4 : Int) (a2_5 : Int) (r : Bool) (w : World) (hr0 : Kd.C k51 w A0 l0.length l0) (hc0 : l0.length ≤ c0) (h : ensembleref12_Fits.f k l0 a1_0 a1_1 a2_0 a2_1 a2_2 a2_3 a2_4 a2_5 = some r) :
  Calls Try.prog 30 #[.slice A0 l0.length c0, .agg #[.int .i64 a1_0, .int .i64 a1_1], .agg #[.int .i64 a2_0, .int .i64 a2_1, .int .i64 a2_2, .int .i64 a2_3, .int .i64 a2_4, .int .i64 a2_5]] w fun e w' => e = .returned (.bool r) ∧ Below w.heap.size w w' := by
 have hu24 := Try.underlying24
 have hu29 := Try.underlying29
 have hu27 := Try.underlying27
 have HR0 := Aside0.mk hr0
 have HC0 := Aside0.mk hc0
 clear hr0 hc0
 have HB := Aside0.mk (Below.refl w.heap.size w)
 have H : ((ensembleref12_Right.f a2_0 a2_1 a2_2 a2_3 a2_4 a2_5).bind fun t171 => (if t171 = true then ((ensembleref04_Units.f k a2_2 a2_3 a2_4 a2_5 a2_1).bind fun bt172 => (if bt172.1 ≤ a1_0 then (if bt172.2 ≤ a1_1 then ((ensembleref05_Room.f k l0 a2_2 a2_3 a2_4 a2_5).bind fun t175 => (some (decide (t175 ≥ a2_1)))) else (some false)) else (some false))) else (some false))) = some r := h
 clear h
 replace H := Option.bind_eq_some_iff.mp H
 obtain ⟨t171, A40, H⟩ := H
 replace H : (if t171 = true then ((ensembleref04_Units.f k a2_2 a2_3 a2_4 a2_5 a2_1).bind fun bt172 => (if bt172.1 ≤ a1_0 then (if bt172.2 ≤ a1_1 then ((ensembleref05_Room.f k l0 a2_2 a2_3 a2_4 a2_5).bind fun t175 => (some (decide (t175 ≥ a2_1)))) else (some false)) else (some false))) else (some false)) = some r := H
 have A4 := Aside0.mk A40
 clear A40
 by_cases c5 : t171 = true
 ·subst c5
  have H1 : ((ensembleref04_Units.f k a2_2 a2_3 a2_4 a2_5 a2_1).bind fun bt172 => (if bt172.1 ≤ a1_0 then (if bt172.2 ≤ a1_1 then ((ensembleref05_Room.f k l0 a2_2 a2_3 a2_4 a2_5).bind fun t175 => (some (decide (t175 ≥ a2_1)))) else (some false)) else (some false))) = some r := by rw [if_pos rfl] at H; exact H
  clear H
  have H := H1
  clear H1
  replace H := Option.bind_eq_some_iff.mp H
  obtain ⟨⟨t172, t173⟩, A60, H⟩ := H
  replace H : (if t172 ≤ a1_0 then (if t173 ≤ a1_1 then ((ensembleref05_Room.f k l0 a2_2 a2_3 a2_4 a2_5).bind fun t175 => (some (decide (t175 ≥ a2_1)))) else (some false)) else (some false)) = some r := H
  have A6 := Aside0.mk A60
  clear A60
  by_cases c7 : t172 ≤ a1_0
  ·rw [if_pos c7] at H
   have c7b0 : decide (t172 ≤ a1_0) = true := decide_eq_true c7
   clear c7
   by_cases c8 : t173 ≤ a1_1
   ·rw [if_pos c8] at H
    have c8b0 : decide (t173 ≤ a1_1) = true := decide_eq_true c8
    clear c8
    replace H := Option.bind_eq_some_iff.mp H
    obtain ⟨t175, A90, H⟩ := H
    replace H : (some (decide (t175 ≥ a2_1))) = some r := H
    have A9 := Aside0.mk A90
    clear A90
    obtain rfl := Option.some.inj H
    go_enter Try.func30, Try.ntmps30
    try go_wp2_with (first | ((with_reducible refine gate_dst (N := 4) rfl ?_); refine bx 4 #[.int .i64 a1_0, .int .i64 a1_1] 24 ?_; intro gb169 hg w10 hbox hb; have BK169 := Aside0.mk (hbox); have GW169 := ge_ hg; have GE169 := ge_ hg; replace HB := hs_ hb; clear hb hbox hg) | ((with_reducible refine gate_dst (N := 5) rfl ?_); refine bx 5 #[.int .i64 a2_0, .int .i64 a2_1, .int .i64 a2_2, .int .i64 a2_3, .int .i64 a2_4, .int .i64 a2_5] 29 ?_; intro gb170 hg w11 hbox hb; have BK170 := Aside0.mk (hbox); have GW170 := ge_ hg; have GE170 := ge_ hg; have NB169_170 := nl_ BK169 hg; have NB170_169 := nr_ BK169 hg; replace BK169 := bk_ BK169 hb; replace HB := hs_ hb; clear hb hbox hg; have hnb12 := NB170_169.out; have hnc12 := NB169_170.out; obtain ⟨hcz13_0, hcz13_1, hcz13_2, hcz13_3, hcz13_4, hcz13_5, hfz13_0, hfz13_1, hfz13_2, hfz13_3, hfz13_4, hfz13_5⟩ := bz6_ BK170) | ((with_reducible refine gate_callee (f := 33) rfl ?_); refine goesL_ (some 9) rfl rfl Try.func33 (by kernel_rfl) rfl #[.agg #[.int .i64 a2_0, .int .i64 a2_1, .int .i64 a2_2, .int .i64 a2_3, .int .i64 a2_4, .int .i64 a2_5]] rfl Z0 ?_; (with_reducible refine (ensembleref12_Right.calls a2_0 a2_1 a2_2 a2_3 a2_4 a2_5 true _ A4.out).mono ?_); rintro e w14 ⟨rfl, hb⟩; refine ⟨_, rfl, ?_⟩; replace BK169 := bk_ BK169 hb; replace BK170 := bk_ BK170 hb; replace HB := hs_ hb; (try clear hb); (try clear hb2); (try clear hk); (try clear hi); obtain ⟨hcz15_0, hcz15_1, hcz15_2, hcz15_3, hcz15_4, hcz15_5, hfz15_0, hfz15_1, hfz15_2, hfz15_3, hfz15_4, hfz15_5⟩ := bz6_ BK170) | ((with_reducible refine gate_callee (f := 77) rfl ?_); refine goesL_ (some 15) rfl rfl Try.func77 (by kernel_rfl) rfl #[.agg #[.int .i64 a2_2, .int .i64 a2_3, .int .i64 a2_4, .int .i64 a2_5], .int .i64 a2_1] rfl Z0 ?_; (with_reducible refine (ensembleref04_Units.calls k a2_2 a2_3 a2_4 a2_5 a2_1 t172 t173 _ A6.out).mono ?_); rintro e w16 ⟨rfl, hb⟩; refine ⟨_, rfl, ?_⟩; replace BK169 := bk_ BK169 hb; replace BK170 := bk_ BK170 hb; replace HB := hs_ hb; (try clear hb); (try clear hb2); (try clear hk); (try clear hi)) | ((with_reducible refine gate_dst (N := 7) rfl ?_); refine bx 7 #[.int .i64 0, .int .i64 0] 24 ?_; intro gb174 hg w17 hbox hb; have BK174 := Aside0.mk (hbox); have GW174 := ge_ hg; have GE174 := ge_ hg; have NB169_174 := nl_ BK169 hg; have NB174_169 := nr_ BK169 hg; have NB170_174 := nl_ BK170 hg; have NB174_170 := nr_ BK170 hg; replace BK169 := bk_ BK169 hb; replace BK170 := bk_ BK170 hb; replace HB := hs_ hb; clear hb hbox hg; have hnb18 := NB174_169.out; have hnc18 := NB169_174.out; have hnb19 := NB174_170.out; have hnc19 := NB170_174.out; obtain ⟨hcz20_0, hcz20_1, hfz20_0, hfz20_1⟩ := bz2_ BK174))
    have n0_ : Aside0 (((w17.setCell ⟨gb174, 0, none⟩ (.int .i64 t172)).setCell ⟨gb174, 1, none⟩ (.int .i64 t173)).heap[gb169]? = some (.cells #[.int .i64 a1_0, .int .i64 a1_1] 24 (0, 0))) := ⟨bs_⟩
    have n1_ : Aside0 (((w17.setCell ⟨gb174, 0, none⟩ (.int .i64 t172)).setCell ⟨gb174, 1, none⟩ (.int .i64 t173)).heap[gb170]? = some (.cells #[.int .i64 a2_0, .int .i64 a2_1, .int .i64 a2_2, .int .i64 a2_3, .int .i64 a2_4, .int .i64 a2_5] 29 (0, 0))) := ⟨bs_⟩
    have n2_ : Aside0 (((w17.setCell ⟨gb174, 0, none⟩ (.int .i64 t172)).setCell ⟨gb174, 1, none⟩ (.int .i64 t173)).heap[gb174]? = some (.cells #[.int .i64 t172, .int .i64 t173] 24 (0, 0))) := ⟨bs_⟩
    have n3_ : Aside0 (Below w.heap.size w ((w17.setCell ⟨gb174, 0, none⟩ (.int .i64 t172)).setCell ⟨gb174, 1, none⟩ (.int .i64 t173))) := ⟨hb_⟩
    (try clear BK169)
    (try clear BK170)
    (try clear BK174)
    (try clear HB)
    generalize ((w17.setCell ⟨gb174, 0, none⟩ (.int .i64 t172)).setCell ⟨gb174, 1, none⟩ (.int .i64 t173)) = w21 at n0_ n1_ n2_ n3_ ⊢
    have BK169 := n0_
    have BK170 := n1_
    have BK174 := n2_
    have HB := n3_
    clear n0_ n1_ n2_ n3_
    replace BK169 := Aside0.mk (blk_drew BK169.out)
    replace BK170 := Aside0.mk (blk_drew BK170.out)
    replace BK174 := Aside0.mk (blk_drew BK174.out)
    replace HB := Aside0.mk (below_drew1 HB.out)
    refine start_ (n := 22) (S := fun w' => w'.cell? ⟨gb174, 0, none⟩ = some (.int .i64 t172) ∧ w'.cell? ⟨gb174, 1, none⟩ = some (.int .i64 t173) ∧ w'.cell? ⟨gb169, 0, none⟩ = some (.int .i64 a1_0) ∧ w'.cell? ⟨gb169, 1, none⟩ = some (.int .i64 a1_1) ∧ w'.cell? ⟨gb170, 0, none⟩ = some (.int .i64 a2_0) ∧ w'.cell? ⟨gb170, 1, none⟩ = some (.int .i64 a2_1) ∧ w'.cell? ⟨gb170, 2, none⟩ = some (.int .i64 a2_2) ∧ w'.cell? ⟨gb170, 3, none⟩ = some (.int .i64 a2_3) ∧ w'.cell? ⟨gb170, 4, none⟩ = some (.int .i64 a2_4) ∧ w'.cell? ⟨gb170, 5, none⟩ = some (.int .i64 a2_5)) (ds := []) (bm 22 0) (by kernel_rfl) rfl rfl ⟨(blk_cell BK174.out 0).trans rfl, (blk_cell BK174.out 1).trans rfl, (blk_cell BK169.out 0).trans rfl, (blk_cell BK169.out 1).trans rfl, (blk_cell BK170.out 0).trans rfl, (blk_cell BK170.out 1).trans rfl, (blk_cell BK170.out 2).trans rfl, (blk_cell BK170.out 3).trans rfl, (blk_cell BK170.out 4).trans rfl, (blk_cell BK170.out 5).trans rfl⟩ (fun hHeld => ?_); refine with_tabW ensembleref12_Fits.tab4 ensembleref12_Fits.bits4 (fun HT_ HW_ => ?_)
    generalize w21.drew = w22 at BK169 BK170 BK174 HB hHeld ⊢
    refine pu 0 (some 16) (bm 22 1) ?_
    refine pu 2 (some 18) (bm 22 5) ?_
    refine tk10 1 (some 17) (bm 22 7) ?_
    refine tk10 3 (some 19) (bm 22 15) ?_
    refine pu 4 (some 20) (bm 22 31) ?_
    refine pu 5 (some 21) (bm 22 63) ?_
    refine pu 6 (some 22) (bm 22 127) ?_
    refine pu 8 (some 24) (bm 22 383) ?_
    refine tk10 7 (some 23) (bm 22 511) ?_
    refine tk10 9 (some 25) (bm 22 1023) ?_
    refine pu 10 (some 26) (bm 22 2047) ?_
    refine pu 11 (some 27) (bm 22 4095) ?_
    refine pu 12 (some 28) (bm 22 8191) ?_
    refine pu 13 (some 29) (bm 22 16383) ?_
    refine pu 14 (some 30) (bm 22 32767) ?_
    refine pu 17 (some 33) (bm 22 163839) ?_
    refine tk10 15 (some 31) (bm 22 196607) ?_
    refine tk10 18 (some 34) (bm 22 458751) ?_
    refine one_ (i := 16) (N := some 32) (bm 22 524287) rfl rfl (one_of HT_.out (by kernel_rfl)) (by decide) (fun K hK => ?_)
    refine goes_ Try.func34 (by kernel_rfl) rfl #[.slice A0 l0.length c0, .agg #[.int .i64 a2_2, .int .i64 a2_3, .int .i64 a2_4, .int .i64 a2_5]] (by rfl) rfl rfl Z0 ?_
    with_reducible refine (ensembleref05_Room.calls k _ _ l0 a2_2 a2_3 a2_4 a2_5 t175 _ ?side1 ?side2 A9.out).mono ?_
    (case side1 => exact cs_ HR0)
    (case side2 => exact HC0.out)
    rintro e w23 ⟨rfl, hb⟩
    refine ⟨_, rfl, ?_⟩
    replace BK169 := bk_ BK169 hb
    replace BK170 := bk_ BK170 hb
    replace BK174 := bk_ BK174 hb
    replace HB := hs_ hb
    (try clear hb)
    (try clear hb2)
    (try clear hk)
    (try clear hi)
    refine hK.out _ _ kc_ (fun hHeld => ?_)
    clear hK K
    refine norm_ (a' := ?_) ?_ ?_
    rotate_left
    ·show Act.put _ (some 32) _ = _
     simp only [Act.put, List.setIfInBounds_toArray, List.set_cons_zero, List.set_cons_succ, i64_w, i32_w]
     rfl
    refine pu 19 (some 35) (bm 22 1048575) ?_
    refine pu 20 (some 36) (bm 22 2097151) ?_
    refine pu 21 (some 6) (bm 22 4194303) ?_
    refine done_ (done_of HT_.out (by kernel_rfl)) ?_
    try go_wp2
    go_ret
    exact ⟨by first | rfl | (simp [errW_none, errW_some] <;> rfl) | (simp [*, errW_none, errW_some] <;> rfl), hb_⟩
   ·rw [if_neg c8] at H
    have c8b0 : decide (t173 ≤ a1_1) = false := decide_eq_false c8
    clear c8
    obtain rfl := Option.some.inj H
    go_enter Try.func30, Try.ntmps30
    try go_wp2_with (first | ((with_reducible refine gate_dst (N := 4) rfl ?_); refine bx 4 #[.int .i64 a1_0, .int .i64 a1_1] 24 ?_; intro gb169 hg w24 hbox hb; have BK169 := Aside0.mk (hbox); have GW169 := ge_ hg; have GE169 := ge_ hg; replace HB := hs_ hb; clear hb hbox hg) | ((with_reducible refine gate_dst (N := 5) rfl ?_); refine bx 5 #[.int .i64 a2_0, .int .i64 a2_1, .int .i64 a2_2, .int .i64 a2_3, .int .i64 a2_4, .int .i64 a2_5] 29 ?_; intro gb170 hg w25 hbox hb; have BK170 := Aside0.mk (hbox); have GW170 := ge_ hg; have GE170 := ge_ hg; have NB169_170 := nl_ BK169 hg; have NB170_169 := nr_ BK169 hg; replace BK169 := bk_ BK169 hb; replace HB := hs_ hb; clear hb hbox hg; have hnb26 := NB170_169.out; have hnc26 := NB169_170.out; obtain ⟨hcz27_0, hcz27_1, hcz27_2, hcz27_3, hcz27_4, hcz27_5, hfz27_0, hfz27_1, hfz27_2, hfz27_3, hfz27_4, hfz27_5⟩ := bz6_ BK170) | ((with_reducible refine gate_callee (f := 33) rfl ?_); refine goesL_ (some 9) rfl rfl Try.func33 (by kernel_rfl) rfl #[.agg #[.int .i64 a2_0, .int .i64 a2_1, .int .i64 a2_2, .int .i64 a2_3, .int .i64 a2_4, .int .i64 a2_5]] rfl Z0 ?_; (with_reducible refine (ensembleref12_Right.calls a2_0 a2_1 a2_2 a2_3 a2_4 a2_5 true _ A4.out).mono ?_); rintro e w28 ⟨rfl, hb⟩; refine ⟨_, rfl, ?_⟩; replace BK169 := bk_ BK169 hb; replace BK170 := bk_ BK170 hb; replace HB := hs_ hb; (try clear hb); (try clear hb2); (try clear hk); (try clear hi); obtain ⟨hcz29_0, hcz29_1, hcz29_2, hcz29_3, hcz29_4, hcz29_5, hfz29_0, hfz29_1, hfz29_2, hfz29_3, hfz29_4, hfz29_5⟩ := bz6_ BK170) | ((with_reducible refine gate_callee (f := 77) rfl ?_); refine goesL_ (some 15) rfl rfl Try.func77 (by kernel_rfl) rfl #[.agg #[.int .i64 a2_2, .int .i64 a2_3, .int .i64 a2_4, .int .i64 a2_5], .int .i64 a2_1] rfl Z0 ?_; (with_reducible refine (ensembleref04_Units.calls k a2_2 a2_3 a2_4 a2_5 a2_1 t172 t173 _ A6.out).mono ?_); rintro e w30 ⟨rfl, hb⟩; refine ⟨_, rfl, ?_⟩; replace BK169 := bk_ BK169 hb; replace BK170 := bk_ BK170 hb; replace HB := hs_ hb; (try clear hb); (try clear hb2); (try clear hk); (try clear hi)) | ((with_reducible refine gate_dst (N := 7) rfl ?_); refine bx 7 #[.int .i64 0, .int .i64 0] 24 ?_; intro gb174 hg w31 hbox hb; have BK174 := Aside0.mk (hbox); have GW174 := ge_ hg; have GE174 := ge_ hg; have NB169_174 := nl_ BK169 hg; have NB174_169 := nr_ BK169 hg; have NB170_174 := nl_ BK170 hg; have NB174_170 := nr_ BK170 hg; replace BK169 := bk_ BK169 hb; replace BK170 := bk_ BK170 hb; replace HB := hs_ hb; clear hb hbox hg; have hnb32 := NB174_169.out; have hnc32 := NB169_174.out; have hnb33 := NB174_170.out; have hnc33 := NB170_174.out; obtain ⟨hcz34_0, hcz34_1, hfz34_0, hfz34_1⟩ := bz2_ BK174))
    have n0_ : Aside0 (((w31.setCell ⟨gb174, 0, none⟩ (.int .i64 t172)).setCell ⟨gb174, 1, none⟩ (.int .i64 t173)).heap[gb169]? = some (.cells #[.int .i64 a1_0, .int .i64 a1_1] 24 (0, 0))) := ⟨bs_⟩
    have n1_ : Aside0 (((w31.setCell ⟨gb174, 0, none⟩ (.int .i64 t172)).setCell ⟨gb174, 1, none⟩ (.int .i64 t173)).heap[gb170]? = some (.cells #[.int .i64 a2_0, .int .i64 a2_1, .int .i64 a2_2, .int .i64 a2_3, .int .i64 a2_4, .int .i64 a2_5] 29 (0, 0))) := ⟨bs_⟩
    have n2_ : Aside0 (((w31.setCell ⟨gb174, 0, none⟩ (.int .i64 t172)).setCell ⟨gb174, 1, none⟩ (.int .i64 t173)).heap[gb174]? = some (.cells #[.int .i64 t172, .int .i64 t173] 24 (0, 0))) := ⟨bs_⟩
    have n3_ : Aside0 (Below w.heap.size w ((w31.setCell ⟨gb174, 0, none⟩ (.int .i64 t172)).setCell ⟨gb174, 1, none⟩ (.int .i64 t173))) := ⟨hb_⟩
    (try clear BK169)
    (try clear BK170)
    (try clear BK174)
    (try clear HB)
    generalize ((w31.setCell ⟨gb174, 0, none⟩ (.int .i64 t172)).setCell ⟨gb174, 1, none⟩ (.int .i64 t173)) = w35 at n0_ n1_ n2_ n3_ ⊢
    have BK169 := n0_
    have BK170 := n1_
    have BK174 := n2_
    have HB := n3_
    clear n0_ n1_ n2_ n3_
    replace BK169 := Aside0.mk (blk_drew BK169.out)
    replace BK170 := Aside0.mk (blk_drew BK170.out)
    replace BK174 := Aside0.mk (blk_drew BK174.out)
    replace HB := Aside0.mk (below_drew1 HB.out)
    refine start_ (n := 22) (S := fun w' => w'.cell? ⟨gb174, 0, none⟩ = some (.int .i64 t172) ∧ w'.cell? ⟨gb174, 1, none⟩ = some (.int .i64 t173) ∧ w'.cell? ⟨gb169, 0, none⟩ = some (.int .i64 a1_0) ∧ w'.cell? ⟨gb169, 1, none⟩ = some (.int .i64 a1_1)) (ds := []) (bm 22 0) (by kernel_rfl) rfl rfl ⟨(blk_cell BK174.out 0).trans rfl, (blk_cell BK174.out 1).trans rfl, (blk_cell BK169.out 0).trans rfl, (blk_cell BK169.out 1).trans rfl⟩ (fun hHeld => ?_); refine with_tabW ensembleref12_Fits.tab4 ensembleref12_Fits.bits4 (fun HT_ HW_ => ?_)
    generalize w35.drew = w36 at BK169 BK170 BK174 HB hHeld ⊢
    refine pu 0 (some 16) (bm 22 1) ?_
    refine pu 2 (some 18) (bm 22 5) ?_
    refine tk4 1 (some 17) (bm 22 7) ?_
    refine tk4 3 (some 19) (bm 22 15) ?_
    refine pu 4 (some 20) (bm 22 31) ?_
    refine pu 5 (some 21) (bm 22 63) ?_
    refine pu 6 (some 22) (bm 22 127) ?_
    refine pu 8 (some 24) (bm 22 383) ?_
    refine tk4 7 (some 23) (bm 22 511) ?_
    refine tk4 9 (some 25) (bm 22 1023) ?_
    refine pu 10 (some 26) (bm 22 2047) ?_
    refine pu 11 (some 27) (bm 22 4095) ?_
    refine pu 12 (some 28) (bm 22 8191) ?_
    refine pv 13 (some 29) (bm 22 16383) ?_
    refine pv 14 (some 30) (bm 22 32767) ?_
    refine pv 15 (some 31) (bm 22 65535) ?_
    refine pv 16 (some 32) (bm 22 131071) ?_
    refine pv 17 (some 33) (bm 22 262143) ?_
    refine pv 18 (some 34) (bm 22 524287) ?_
    refine pv 19 (some 35) (bm 22 1048575) ?_
    refine pu 20 (some 36) (bm 22 2097151) ?_
    refine pu 21 (some 6) (bm 22 4194303) ?_
    refine done_ (done_of HT_.out (by kernel_rfl)) ?_
    try go_wp2
    go_ret
    exact ⟨by first | rfl | (simp [errW_none, errW_some] <;> rfl) | (simp [*, errW_none, errW_some] <;> rfl), hb_⟩
  ·rw [if_neg c7] at H
   have c7b0 : decide (t172 ≤ a1_0) = false := decide_eq_false c7
   clear c7
   obtain rfl := Option.some.inj H
   go_enter Try.func30, Try.ntmps30
   try go_wp2_with (first | ((with_reducible refine gate_dst (N := 4) rfl ?_); refine bx 4 #[.int .i64 a1_0, .int .i64 a1_1] 24 ?_; intro gb169 hg w37 hbox hb; have BK169 := Aside0.mk (hbox); have GW169 := ge_ hg; have GE169 := ge_ hg; replace HB := hs_ hb; clear hb hbox hg) | ((with_reducible refine gate_dst (N := 5) rfl ?_); refine bx 5 #[.int .i64 a2_0, .int .i64 a2_1, .int .i64 a2_2, .int .i64 a2_3, .int .i64 a2_4, .int .i64 a2_5] 29 ?_; intro gb170 hg w38 hbox hb; have BK170 := Aside0.mk (hbox); have GW170 := ge_ hg; have GE170 := ge_ hg; have NB169_170 := nl_ BK169 hg; have NB170_169 := nr_ BK169 hg; replace BK169 := bk_ BK169 hb; replace HB := hs_ hb; clear hb hbox hg; have hnb39 := NB170_169.out; have hnc39 := NB169_170.out; obtain ⟨hcz40_0, hcz40_1, hcz40_2, hcz40_3, hcz40_4, hcz40_5, hfz40_0, hfz40_1, hfz40_2, hfz40_3, hfz40_4, hfz40_5⟩ := bz6_ BK170) | ((with_reducible refine gate_callee (f := 33) rfl ?_); refine goesL_ (some 9) rfl rfl Try.func33 (by kernel_rfl) rfl #[.agg #[.int .i64 a2_0, .int .i64 a2_1, .int .i64 a2_2, .int .i64 a2_3, .int .i64 a2_4, .int .i64 a2_5]] rfl Z0 ?_; (with_reducible refine (ensembleref12_Right.calls a2_0 a2_1 a2_2 a2_3 a2_4 a2_5 true _ A4.out).mono ?_); rintro e w41 ⟨rfl, hb⟩; refine ⟨_, rfl, ?_⟩; replace BK169 := bk_ BK169 hb; replace BK170 := bk_ BK170 hb; replace HB := hs_ hb; (try clear hb); (try clear hb2); (try clear hk); (try clear hi); obtain ⟨hcz42_0, hcz42_1, hcz42_2, hcz42_3, hcz42_4, hcz42_5, hfz42_0, hfz42_1, hfz42_2, hfz42_3, hfz42_4, hfz42_5⟩ := bz6_ BK170) | ((with_reducible refine gate_callee (f := 77) rfl ?_); refine goesL_ (some 15) rfl rfl Try.func77 (by kernel_rfl) rfl #[.agg #[.int .i64 a2_2, .int .i64 a2_3, .int .i64 a2_4, .int .i64 a2_5], .int .i64 a2_1] rfl Z0 ?_; (with_reducible refine (ensembleref04_Units.calls k a2_2 a2_3 a2_4 a2_5 a2_1 t172 t173 _ A6.out).mono ?_); rintro e w43 ⟨rfl, hb⟩; refine ⟨_, rfl, ?_⟩; replace BK169 := bk_ BK169 hb; replace BK170 := bk_ BK170 hb; replace HB := hs_ hb; (try clear hb); (try clear hb2); (try clear hk); (try clear hi)) | ((with_reducible refine gate_dst (N := 7) rfl ?_); refine bx 7 #[.int .i64 0, .int .i64 0] 24 ?_; intro gb174 hg w44 hbox hb; have BK174 := Aside0.mk (hbox); have GW174 := ge_ hg; have GE174 := ge_ hg; have NB169_174 := nl_ BK169 hg; have NB174_169 := nr_ BK169 hg; have NB170_174 := nl_ BK170 hg; have NB174_170 := nr_ BK170 hg; replace BK169 := bk_ BK169 hb; replace BK170 := bk_ BK170 hb; replace HB := hs_ hb; clear hb hbox hg; have hnb45 := NB174_169.out; have hnc45 := NB169_174.out; have hnb46 := NB174_170.out; have hnc46 := NB170_174.out; obtain ⟨hcz47_0, hcz47_1, hfz47_0, hfz47_1⟩ := bz2_ BK174))
   have n0_ : Aside0 (((w44.setCell ⟨gb174, 0, none⟩ (.int .i64 t172)).setCell ⟨gb174, 1, none⟩ (.int .i64 t173)).heap[gb169]? = some (.cells #[.int .i64 a1_0, .int .i64 a1_1] 24 (0, 0))) := ⟨bs_⟩
   have n1_ : Aside0 (((w44.setCell ⟨gb174, 0, none⟩ (.int .i64 t172)).setCell ⟨gb174, 1, none⟩ (.int .i64 t173)).heap[gb170]? = some (.cells #[.int .i64 a2_0, .int .i64 a2_1, .int .i64 a2_2, .int .i64 a2_3, .int .i64 a2_4, .int .i64 a2_5] 29 (0, 0))) := ⟨bs_⟩
   have n2_ : Aside0 (((w44.setCell ⟨gb174, 0, none⟩ (.int .i64 t172)).setCell ⟨gb174, 1, none⟩ (.int .i64 t173)).heap[gb174]? = some (.cells #[.int .i64 t172, .int .i64 t173] 24 (0, 0))) := ⟨bs_⟩
   have n3_ : Aside0 (Below w.heap.size w ((w44.setCell ⟨gb174, 0, none⟩ (.int .i64 t172)).setCell ⟨gb174, 1, none⟩ (.int .i64 t173))) := ⟨hb_⟩
   (try clear BK169)
   (try clear BK170)
   (try clear BK174)
   (try clear HB)
   generalize ((w44.setCell ⟨gb174, 0, none⟩ (.int .i64 t172)).setCell ⟨gb174, 1, none⟩ (.int .i64 t173)) = w48 at n0_ n1_ n2_ n3_ ⊢
   have BK169 := n0_
   have BK170 := n1_
   have BK174 := n2_
   have HB := n3_
   clear n0_ n1_ n2_ n3_
   replace BK169 := Aside0.mk (blk_drew BK169.out)
   replace BK170 := Aside0.mk (blk_drew BK170.out)
   replace BK174 := Aside0.mk (blk_drew BK174.out)
   replace HB := Aside0.mk (below_drew1 HB.out)
   refine start_ (n := 22) (S := fun w' => w'.cell? ⟨gb174, 0, none⟩ = some (.int .i64 t172) ∧ w'.cell? ⟨gb174, 1, none⟩ = some (.int .i64 t173) ∧ w'.cell? ⟨gb169, 0, none⟩ = some (.int .i64 a1_0) ∧ w'.cell? ⟨gb169, 1, none⟩ = some (.int .i64 a1_1)) (ds := []) (bm 22 0) (by kernel_rfl) rfl rfl ⟨(blk_cell BK174.out 0).trans rfl, (blk_cell BK174.out 1).trans rfl, (blk_cell BK169.out 0).trans rfl, (blk_cell BK169.out 1).trans rfl⟩ (fun hHeld => ?_); refine with_tabW ensembleref12_Fits.tab4 ensembleref12_Fits.bits4 (fun HT_ HW_ => ?_)
   generalize w48.drew = w49 at BK169 BK170 BK174 HB hHeld ⊢
   refine pu 0 (some 16) (bm 22 1) ?_
   refine pu 2 (some 18) (bm 22 5) ?_
   refine tk4 1 (some 17) (bm 22 7) ?_
   refine tk4 3 (some 19) (bm 22 15) ?_
   refine pu 4 (some 20) (bm 22 31) ?_
   refine pu 5 (some 21) (bm 22 63) ?_
   refine pv 6 (some 22) (bm 22 127) ?_
   refine pv 7 (some 23) (bm 22 255) ?_
   refine pv 8 (some 24) (bm 22 511) ?_
   refine pv 9 (some 25) (bm 22 1023) ?_
   refine pv 10 (some 26) (bm 22 2047) ?_
   refine pu 11 (some 27) (bm 22 4095) ?_
   refine pu 12 (some 28) (bm 22 8191) ?_
   refine pv 13 (some 29) (bm 22 16383) ?_
   refine pv 14 (some 30) (bm 22 32767) ?_
   refine pv 15 (some 31) (bm 22 65535) ?_
   refine pv 16 (some 32) (bm 22 131071) ?_
   refine pv 17 (some 33) (bm 22 262143) ?_
   refine pv 18 (some 34) (bm 22 524287) ?_
   refine pv 19 (some 35) (bm 22 1048575) ?_
   refine pu 20 (some 36) (bm 22 2097151) ?_
   refine pu 21 (some 6) (bm 22 4194303) ?_
   refine done_ (done_of HT_.out (by kernel_rfl)) ?_
   try go_wp2
   go_ret
   exact ⟨by first | rfl | (simp [errW_none, errW_some] <;> rfl) | (simp [*, errW_none, errW_some] <;> rfl), hb_⟩
 ·replace c5 := Bool.eq_false_iff.mpr c5
  subst c5
  have H1 : (some false) = some r := by rw [if_neg (show ¬ (false = true) by decide)] at H; exact H
  clear H
  have H := H1
  clear H1
  obtain rfl := Option.some.inj H
  go_enter Try.func30, Try.ntmps30
  go_wp2_with (first | ((with_reducible refine gate_dst (N := 4) rfl ?_); refine bx 4 #[.int .i64 a1_0, .int .i64 a1_1] 24 ?_; intro gb169 hg w50 hbox hb; have BK169 := Aside0.mk (hbox); have GW169 := ge_ hg; have GE169 := ge_ hg; replace HB := hs_ hb; clear hb hbox hg) | ((with_reducible refine gate_dst (N := 5) rfl ?_); refine bx 5 #[.int .i64 a2_0, .int .i64 a2_1, .int .i64 a2_2, .int .i64 a2_3, .int .i64 a2_4, .int .i64 a2_5] 29 ?_; intro gb170 hg w51 hbox hb; have BK170 := Aside0.mk (hbox); have GW170 := ge_ hg; have GE170 := ge_ hg; have NB169_170 := nl_ BK169 hg; have NB170_169 := nr_ BK169 hg; replace BK169 := bk_ BK169 hb; replace HB := hs_ hb; clear hb hbox hg; have hnb52 := NB170_169.out; have hnc52 := NB169_170.out; obtain ⟨hcz53_0, hcz53_1, hcz53_2, hcz53_3, hcz53_4, hcz53_5, hfz53_0, hfz53_1, hfz53_2, hfz53_3, hfz53_4, hfz53_5⟩ := bz6_ BK170) | ((with_reducible refine gate_callee (f := 33) rfl ?_); refine goesL_ (some 9) rfl rfl Try.func33 (by kernel_rfl) rfl #[.agg #[.int .i64 a2_0, .int .i64 a2_1, .int .i64 a2_2, .int .i64 a2_3, .int .i64 a2_4, .int .i64 a2_5]] rfl Z0 ?_; (with_reducible refine (ensembleref12_Right.calls a2_0 a2_1 a2_2 a2_3 a2_4 a2_5 false _ A4.out).mono ?_); rintro e w54 ⟨rfl, hb⟩; refine ⟨_, rfl, ?_⟩; replace BK169 := bk_ BK169 hb; replace BK170 := bk_ BK170 hb; replace HB := hs_ hb; (try clear hb); (try clear hb2); (try clear hk); (try clear hi)))
  go_ret
  exact ⟨by first | rfl | (simp [errW_none, errW_some] <;> rfl) | (simp [*, errW_none, errW_some] <;> rfl), hb_⟩
end Go.Proofs.Ytckhjehibjdjdaa.P
