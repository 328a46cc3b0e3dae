/- FillTells: part 4 of the walk and of the plain law that it comes to. No condition. -/
import Derived.Test.YtckhjehibjdjdaaZFillTells3
import Derived.ArgAppend
import Derived.Below
import Derived.BigQuiet
import Derived.BigRegion
import Derived.Carry
import Derived.Deep.AppendLies
import Derived.Deep.CutBlock
import Derived.Deep.DeepCutAuto
import Derived.Deep.Draws
import Derived.Deep.LoopGhost
import Derived.Deep.OwnRows
import Derived.Deep.QuietTactic
import Derived.Deep.RegionHeld3
import Derived.DeepKeys3
import Derived.KernelRfl
import Derived.Laws.Bits64
import Derived.Laws.Bits64b
import Derived.Laws.BitsLemmas
import Derived.Laws.BytesArg
import Derived.Laws.IdiomCopy
import Derived.Laws.MakeOwn
import Derived.Laws.OwnMore
import Derived.Laws.Rows
import Derived.Laws.Slices
import Derived.Lib.AppendStr
import Derived.Lib.ConvBytes
import Derived.Lib.SliceRun
import Derived.LoopIn
import Derived.LoopN
import Derived.LoopNIn
import Derived.Maps.AppendAt
import Derived.Maps.Keyed
import Derived.Maps.Own
import Derived.Maps.OwnOps
import Derived.Maps.OwnSet
import Derived.Maps.Views
import Derived.OrdersHeld
import Derived.Outline
import Derived.OwnWalk
import Derived.OwnWalkIn
import Derived.RangeFuncBound
import Derived.RangeFuncBox
import Derived.RangeFuncCalls
import Derived.RangeFuncFrom
import Derived.RangeFuncLeaves
import Derived.RowKit
import Derived.RowKit3
import Derived.Shelf.Abstract
import Derived.Shelf.RegionOpen
import Derived.StillTailTactics
import Derived.Tactics
import Derived.TacticsInMore
import Derived.WalkKit
import Derived.WideLaws
namespace Go.Proofs.Ytckhjehibjdjdaa.P
open Go.RowKit Go.Proofs.YtckhjehibjdjdaaW.PrintWords Go.Proofs.YtckhjehibjdjdaaW.PrintLast Go.Proofs.YtckhjehibjdjdaaW.PrintMore
attribute [local go_sem] max2_int min2_int max_two min_two max_three min_three max_four min_four
set_option linter.unusedVariables false
set_option linter.unusedSimpArgs false
def ensembleref12_All.l0 : Nat → List (S41) → Int → List (S52) → Int → Option ((List (S52)))
 | 0, _, _, _, _ => none
 | k + 1, x0, x1, x5, x6 => if x6 < (x0.length : Int) then (if 0 ≤ x6 then (if ((rd_T41 x0 x6).f2) ≤ x1 then (if x5.length + ((rd_T41 x0 x6).f4).length < 4398046511104 then (ensembleref12_All.l0 k x0 x1 (x5 ++ ((rd_T41 x0 x6).f4)) (wrap64 (x6 + 1))) else (none)) else (ensembleref12_All.l0 k x0 x1 x5 (wrap64 (x6 + 1)))) else (none)) else (some x5)
def ensembleref12_All.f (k : Nat) (l0 : List (S41)) (a1 : Int) : Option ((List (S52))) := ensembleref12_All.l0 k l0 a1 ([] : List (S52)) 0
set_option maxHeartbeats 8000000 in
set_option maxRecDepth 100000 in
theorem ensembleref12_All.calls (k : Nat) (A0 : Option Addr) (c0 : Nat) (l0 : List (S41)) (a1 : Int) (r : List (S52)) (w : World) (hr0 : Kd.C k41 w A0 l0.length l0) (hc0 : l0.length ≤ c0) (h : ensembleref12_All.f k l0 a1 = some r) :
  Calls Try.prog 78 #[.slice A0 l0.length c0, .int .i64 a1] w fun e w' => ∃ v0_ : Value, e = .returned (v0_) ∧ Kd.R k52 52 w' w.heap.size (fun _ => True) v0_ r ∧ Below w.heap.size w w' := by
 have HR0 := Aside0.mk hr0
 have HC0 := Aside0.mk hc0
 clear hr0 hc0
 have HB := Aside0.mk (Below.refl w.heap.size w)
 have H : (ensembleref12_All.l0 k l0 a1 ([] : List (S52)) 0) = some r := h
 clear h
 have H' := Aside0.mk H
 clear H
 go_enter Try.func78, Try.ntmps78
 go_wp2
 go_loopg [5, 6] k (fun kq v5 v6 w' => ∃ (x5_1 : List (S52)) (x6_1 : Int), v6 = .int .i64 x6_1 ∧ Aside0 (ensembleref12_All.l0 kq l0 a1 x5_1 x6_1 = some r) ∧ Aside0 (kq ≤ k) ∧ Aside0 (Kd.R k52 52 w' w.heap.size (fun _ => True) v5 x5_1) ∧ Aside0 (Below w.heap.size w w'))
 case atStart => exact ⟨(([] : List (S52))), (0), Z6, H', ⟨Nat.le_refl _⟩, ⟨by first | exact Kd.R_nil _ _ _ _ _ | exact Kd.N_nil _ _ _ _ _ | exact Kd.V_nil _ _ _ _ _ | exact Kd.Q_nil _ _ _ _ _ | exact Kd.S_nil _ _ _ _ _⟩, ⟨hb_⟩⟩
 case round =>
  clear H'
  try clear p2
  obtain ⟨x5_1, x6_1, rfl, HA, HK1, HO_5, HB⟩ := hrel
  cases gk with
  | zero => exact absurd HA.out (by simp [ensembleref12_All.l0])
  | succ k1 =>
   have H := HA.out
   clear HA
   simp only [ensembleref12_All.l0] at H
   by_cases c3 : x6_1 < (l0.length : Int)
   ·rw [if_pos c3] at H
    have c3b0 : decide (x6_1 < (l0.length : Int)) = true := decide_eq_true c3
    clear c3
    by_cases c4 : 0 ≤ x6_1
    ·rw [if_pos c4] at H
     have c4b0 : decide (0 ≤ x6_1) = true := decide_eq_true c4
     clear c4
     by_cases c5 : ((rd_T41 l0 x6_1).f2) ≤ a1
     ·rw [if_pos c5] at H
      have c5b0 : decide (((rd_T41 l0 x6_1).f2) ≤ a1) = true := decide_eq_true c5
      clear c5
      by_cases c6 : x5_1.length + ((rd_T41 l0 x6_1).f4).length < 4398046511104
      ·rw [if_pos c6] at H
       have LMc6 := Aside0.mk c6
       clear c6
       obtain ⟨y206, hy206⟩ : ∃ y_ : List (S52), y_ = (x5_1 ++ ((rd_T41 l0 x6_1).f4)) := ⟨_, rfl⟩
       replace H : (ensembleref12_All.l0 k1 l0 a1 y206 (wrap64 (x6_1 + 1))) = some r := by first | (rw [hy206]; with_reducible exact H) | (have H2_ := (Option.bind_some _ _).symm.trans H; rw [hy206]; with_reducible exact H2_) | (have H2_ := (Option.bind_some _ _).symm.trans H; with_reducible exact H2_) | with_reducible exact H | (rw [hy206]; exact H) | exact H
       have Ny206 := Aside0.mk hy206
       clear hy206
       have H' := Aside0.mk H
       clear H
       have p204 : 0 ≤ (x6_1 : Int) := of_decide_eq_true Z1
       have q204 : x6_1 < (l0.length : Int) := of_decide_eq_true Z1
       obtain ⟨ad204, A204_4, c204_4, e204, hx204_0, hx204_1, hx204_2, hx204_3, hx204_4, hl204_4, hi204_4⟩ := at_T41 HR0.out x6_1 p204 q204
       cases e204
       replace hx204_0 := cx_ hx204_0
       replace hx204_1 := cx_ hx204_1
       replace hx204_2 := cx_ hx204_2
       replace hx204_3 := cx_ hx204_3
       replace hx204_4 := cx_ hx204_4
       have HR204_4 := Aside0.mk hi204_4
       have HC204_4 := Aside0.mk hl204_4
       clear hi204_4 hl204_4
       replace p204 := eq_true p204
       replace q204 := eq_true q204
       have p205 : 0 ≤ (x6_1 : Int) := of_decide_eq_true Z1
       have q205 : x6_1 < (l0.length : Int) := of_decide_eq_true Z1
       obtain ⟨ad205, A205_4, c205_4, e205, hx205_0, hx205_1, hx205_2, hx205_3, hx205_4, hl205_4, hi205_4⟩ := at_T41 HR0.out x6_1 p205 q205
       obtain rfl : ad204 = ad205 := (by injection e205)
       replace hx205_0 := cx_ hx205_0
       replace hx205_1 := cx_ hx205_1
       replace hx205_2 := cx_ hx205_2
       replace hx205_3 := cx_ hx205_3
       replace hx205_4 := cx_ hx205_4
       have HR205_4 := Aside0.mk hi205_4
       have HC205_4 := Aside0.mk hl205_4
       clear hi205_4 hl205_4
       replace p205 := eq_true p205
       replace q205 := eq_true q205
       have ea_ := Option.some.inj (hx204_4.symm.trans hx205_4)
       injection ea_ with ea_ en_ ec_
       subst ea_
       subst ec_
       clear en_
       go_wp2_with (first | ((with_reducible refine gate_builtin (b := .append) (xs := #[.tmp 20, .tmp 25]) rfl ?_); at_builtin; refine Kd.R_append_rows k52 (w0 := w) w.heap.size rfl (.tmp 20) (.tmp 25) 39 52 (.agg #[(.int .i64 0), (.int .i64 0), (.int .u64 0), (.int .i64 0)]) 32 rfl Try.underlying39 info52 rfl (by decide) (by omega) u5 x5_1 ((rd_T41 l0 x6_1).f4) _ _ _ (fun _ => True) (fun _ => False) rfl rfl ?aO ?aR (fun _ _ h => h) (fun _ h => h.elim) ?aF ?aB ?aS ?aL ?_; (case aR => repeat (first | exact (Kd.C_below HR205_4.out HB.out) | (with_reducible refine Kd.C_alloc ?_ _) | (with_reducible refine Kd.C_drewN ?_ _) | (with_reducible refine Kd.C_drew ?_))); (case aB => exact hb_); (case aF => exact (fun _ _ => trivial)); (case aO => exact (by (with_reducible repeat (first | apply Kd.R_alloc | apply Kd.R_drewN | apply Kd.R_drew)); exact HO_5.out)); (case aS => exact (below_size hb_)); (case aL => have := LMc6.out; omega); intro v207 w7 ho hb hg hat; rw [← Ny206.out] at ho; have HO208 := Aside0.mk (ho); replace HB := Aside0.mk (hb); clear HO_5; clear ho hb hg hat))
       go_roundg k1
       case measure => have := HK1.out; omega
       case rel => exact ⟨(y206), (wrap64 (x6_1 + 1)), Z6, H', ⟨by have := HK1.out; omega⟩, ⟨by (with_reducible repeat (first | apply Kd.R_alloc | apply Kd.R_drewN | apply Kd.R_drew)); exact HO208.out⟩, ⟨hb_⟩⟩
      ·rw [if_neg c6] at H
       exact absurd H (by simp)
     ·rw [if_neg c5] at H
      have c5b0 : decide (((rd_T41 l0 x6_1).f2) ≤ a1) = false := decide_eq_false c5
      clear c5
      have H' := Aside0.mk H
      clear H
      have p204 : 0 ≤ (x6_1 : Int) := of_decide_eq_true Z1
      have q204 : x6_1 < (l0.length : Int) := of_decide_eq_true Z1
      obtain ⟨ad204, A204_4, c204_4, e204, hx204_0, hx204_1, hx204_2, hx204_3, hx204_4, hl204_4, hi204_4⟩ := at_T41 HR0.out x6_1 p204 q204
      cases e204
      replace hx204_0 := cx_ hx204_0
      replace hx204_1 := cx_ hx204_1
      replace hx204_2 := cx_ hx204_2
      replace hx204_3 := cx_ hx204_3
      replace hx204_4 := cx_ hx204_4
      have HR204_4 := Aside0.mk hi204_4
      have HC204_4 := Aside0.mk hl204_4
      clear hi204_4 hl204_4
      replace p204 := eq_true p204
      replace q204 := eq_true q204
      go_wp2
      go_roundg k1
      case measure => have := HK1.out; omega
      case rel => exact ⟨(x5_1), (wrap64 (x6_1 + 1)), Z6, H', ⟨by have := HK1.out; omega⟩, ⟨by (with_reducible repeat (first | apply Kd.R_alloc | apply Kd.R_drewN | apply Kd.R_drew)); exact HO_5.out⟩, ⟨hb_⟩⟩
    ·rw [if_neg c4] at H
     exact absurd H (by simp)
   ·rw [if_neg c3] at H
    have c3b0 : decide (x6_1 < (l0.length : Int)) = false := decide_eq_false c3
    clear c3
    obtain rfl := Option.some.inj H
    go_wp2
    go_ret
    exact ⟨_, by first | rfl | (simp [errW_none, errW_some] <;> rfl) | (simp [*, errW_none, errW_some] <;> rfl), by (with_reducible repeat (first | apply Kd.R_alloc | apply Kd.R_drewN | apply Kd.R_drew)); exact HO_5.out, hb_⟩
end Go.Proofs.Ytckhjehibjdjdaa.P
namespace Go.Proofs.Ytckhjehibjdjdaa.P
open Go.RowKit Go.Proofs.YtckhjehibjdjdaaW.PrintWords Go.Proofs.YtckhjehibjdjdaaW.PrintLast Go.Proofs.YtckhjehibjdjdaaW.PrintMore
attribute [local go_sem] max2_int min2_int max_two min_two max_three min_three max_four min_four
set_option linter.unusedVariables false
set_option linter.unusedSimpArgs false
def ensembleref12_At.l0 : Nat → Int → List (S41) → List (S51) → Int → Int → Int → Int → Int → Int → Int → Int → Int → Option (Bool)
 | 0, _, _, _, _, _, _, _, _, _, _, _, _ => none
 | k + 1, x0, x3, x11, x13, x210000, x210001, x211000, x211001, x211002, x211003, x211004, x211005 => if x13 < (x3.length : Int) then (if 0 ≤ x13 then (if ((rd_T41 x3 x13).f2) ≤ x0 then (if ((rd_T41 x3 x13).f1) = x211000 then ((ensembleref08_Units.f k ((rd_T41 x3 x13).f4)).bind fun bt221 => (ensembleref12_At.l0 k x0 x3 x11 (wrap64 (x13 + 1)) (wrap64 (x210000 + bt221.1)) (wrap64 (x210001 + bt221.2)) x211000 x211001 x211002 x211003 x211004 x211005)) else (ensembleref12_At.l0 k x0 x3 x11 (wrap64 (x13 + 1)) x210000 x210001 x211000 x211001 x211002 x211003 x211004 x211005)) else (ensembleref12_At.l0 k x0 x3 x11 (wrap64 (x13 + 1)) x210000 x210001 x211000 x211001 x211002 x211003 x211004 x211005)) else (none)) else ((ensembleref12_Fits.f k x11 x210000 x210001 x211000 x211001 x211002 x211003 x211004 x211005).bind fun t224 => (some t224))
def ensembleref12_At.f (k : Nat) (a0 : Int) (l1 : List (S51)) (a2_0 : Int) (a2_1 : Int) (l3 : List (S41)) (a4_0 : Int) (a4_1 : Int) (a4_2 : Int) (a4_3 : Int) (a4_4 : Int) (a4_5 : Int) : Option (Bool) := (ensembleref12_All.f k l3 a0).bind fun t211 => ((ensembleref05_More.f k l1 t211).bind fun bt214 => (ensembleref12_At.l0 k a0 l3 bt214.1 0 a2_0 a2_1 a4_0 a4_1 a4_2 a4_3 a4_4 a4_5))
set_option maxHeartbeats 8000000 in
set_option maxRecDepth 100000 in
theorem ensembleref12_At.calls (k : Nat) (a0 : Int) (A1 : Option Addr) (c1 : Nat) (l1 : List (S51)) (a2_0 : Int) (a2_1 : Int) (A3 : Option Addr) (c3 : Nat) (l3 : List (S41)) (a4_0 : Int) (a4_1 : Int) (a4_2 : Int) (a4_3 : Int) (a4_4 : Int) (a4_5 : Int) (r : Bool) (w : World) (hr1 : Kd.C k51 w A1 l1.length l1) (hc1 : l1.length ≤ c1) (hr3 : Kd.C k41 w A3 l3.length l3) (hc3 : l3.length ≤ c3) (h : ensembleref12_At.f k a0 l1 a2_0 a2_1 l3 a4_0 a4_1 a4_2 a4_3 a4_4 a4_5 = some r) :
  Calls Try.prog 31 #[.int .i64 a0, .slice A1 l1.length c1, .agg #[.int .i64 a2_0, .int .i64 a2_1], .slice A3 l3.length c3, .agg #[.int .i64 a4_0, .int .i64 a4_1, .int .i64 a4_2, .int .i64 a4_3, .int .i64 a4_4, .int .i64 a4_5]] w fun e w' => e = .returned (.bool r) ∧ Below w.heap.size w w' := by
 have hu24 := Try.underlying24
 have hu29 := Try.underlying29
 have HR1 := Aside0.mk hr1
 have HC1 := Aside0.mk hc1
 clear hr1 hc1
 have HR3 := Aside0.mk hr3
 have HC3 := Aside0.mk hc3
 clear hr3 hc3
 have HB := Aside0.mk (Below.refl w.heap.size w)
 have H : ((ensembleref12_All.f k l3 a0).bind fun t211 => ((ensembleref05_More.f k l1 t211).bind fun bt214 => (ensembleref12_At.l0 k a0 l3 bt214.1 0 a2_0 a2_1 a4_0 a4_1 a4_2 a4_3 a4_4 a4_5))) = some r := h
 clear h
 replace H := Option.bind_eq_some_iff.mp H
 obtain ⟨t211, A60, H⟩ := H
 replace H : ((ensembleref05_More.f k l1 t211).bind fun bt214 => (ensembleref12_At.l0 k a0 l3 bt214.1 0 a2_0 a2_1 a4_0 a4_1 a4_2 a4_3 a4_4 a4_5)) = some r := H
 have A6 := Aside0.mk A60
 clear A60
 replace H := Option.bind_eq_some_iff.mp H
 obtain ⟨⟨t214, t215⟩, A70, H⟩ := H
 replace H : (ensembleref12_At.l0 k a0 l3 t214 0 a2_0 a2_1 a4_0 a4_1 a4_2 a4_3 a4_4 a4_5) = some r := H
 have A7 := Aside0.mk A70
 clear A70
 have H' := Aside0.mk H
 clear H
 go_enter Try.func31, Try.ntmps31
 go_wp2_with (first | ((with_reducible refine gate_dst (N := 7) rfl ?_); refine bx 7 #[.int .i64 a2_0, .int .i64 a2_1] 24 ?_; intro gb209 hg w8 hbox hb; have BK209 := Aside0.mk (hbox); have GW209 := ge_ hg; have GE209 := ge_ hg; replace HB := hs_ hb; clear hb hbox hg) | ((with_reducible refine gate_dst (N := 9) rfl ?_); refine bx 9 #[.int .i64 a4_0, .int .i64 a4_1, .int .i64 a4_2, .int .i64 a4_3, .int .i64 a4_4, .int .i64 a4_5] 29 ?_; intro gb210 hg w9 hbox hb; have BK210 := Aside0.mk (hbox); have GW210 := ge_ hg; have GE210 := ge_ hg; have NB209_210 := nl_ BK209 hg; have NB210_209 := nr_ BK209 hg; replace BK209 := bk_ BK209 hb; replace HB := hs_ hb; clear hb hbox hg) | (go_at_call 78; (with_reducible refine (ensembleref12_All.calls k _ _ l3 a0 t211 _ ?side1 ?side2 A6.out).mono ?_); (case side1 => exact cs_ HR3); (case side2 => exact HC3.out); rintro e w10 ⟨v212, rfl, ho0, hb⟩; have HO213 := Aside0.mk (Kd.R_lower ho0 (below_size hb_)); replace BK209 := bk_ BK209 hb; replace BK210 := bk_ BK210 hb; replace HB := hs_ hb; (try clear hb); (try clear hb2); (try clear hk); (try clear hi); (try clear ho0); obtain ⟨Ao11, co11, eo11⟩ := Kd.R_slice HO213.out; subst eo11) | (go_at_call 32; (with_reducible refine (ensembleref05_More.calls k _ _ l1 _ _ t211 t214 t215 _ ?side1 ?side2 ?side3 ?side4 A7.out).mono ?_); (case side1 => exact cs_ HR1); (case side2 => exact HC1.out); (case side3 => repeat (first | exact (Kd.R_reads' HO213.out).2.2 | (with_reducible refine Kd.C_alloc ?_ _) | (with_reducible refine Kd.C_drewN ?_ _) | (with_reducible refine Kd.C_drew ?_))); (case side4 => exact (Kd.R_reads' HO213.out).2.1); rintro e w12 ⟨v216, rfl, ho0, hb⟩; have HO217 := Aside0.mk (Kd.R_lower ho0 (below_size hb_)); replace HO213 := Aside0.mk (Kd.R_below (by (with_reducible repeat (first | apply Kd.R_alloc | apply Kd.R_drewN | apply Kd.R_drew)); exact HO213.out) hb); replace BK209 := bk_ BK209 hb; replace BK210 := bk_ BK210 hb; replace HB := hs_ hb; (try clear hb); (try clear hb2); (try clear hk); (try clear hi); (try clear ho0)))
 repeat (go_quiet (first | ((with_reducible refine gate_dst (N := 7) rfl ?_); refine bx 7 #[.int .i64 a2_0, .int .i64 a2_1] 24 ?_; intro gb209 hg w8 hbox hb; have BK209 := Aside0.mk (hbox); have GW209 := ge_ hg; have GE209 := ge_ hg; replace HB := hs_ hb; clear hb hbox hg) | ((with_reducible refine gate_dst (N := 9) rfl ?_); refine bx 9 #[.int .i64 a4_0, .int .i64 a4_1, .int .i64 a4_2, .int .i64 a4_3, .int .i64 a4_4, .int .i64 a4_5] 29 ?_; intro gb210 hg w9 hbox hb; have BK210 := Aside0.mk (hbox); have GW210 := ge_ hg; have GE210 := ge_ hg; have NB209_210 := nl_ BK209 hg; have NB210_209 := nr_ BK209 hg; replace BK209 := bk_ BK209 hb; replace HB := hs_ hb; clear hb hbox hg) | (go_at_call 78; (with_reducible refine (ensembleref12_All.calls k _ _ l3 a0 t211 _ ?side1 ?side2 A6.out).mono ?_); (case side1 => exact cs_ HR3); (case side2 => exact HC3.out); rintro e w10 ⟨v212, rfl, ho0, hb⟩; have HO213 := Aside0.mk (Kd.R_lower ho0 (below_size hb_)); replace BK209 := bk_ BK209 hb; replace BK210 := bk_ BK210 hb; replace HB := hs_ hb; (try clear hb); (try clear hb2); (try clear hk); (try clear hi); (try clear ho0); obtain ⟨Ao11, co11, eo11⟩ := Kd.R_slice HO213.out; subst eo11) | (go_at_call 32; (with_reducible refine (ensembleref05_More.calls k _ _ l1 _ _ t211 t214 t215 _ ?side1 ?side2 ?side3 ?side4 A7.out).mono ?_); (case side1 => exact cs_ HR1); (case side2 => exact HC1.out); (case side3 => repeat (first | exact (Kd.R_reads' HO213.out).2.2 | (with_reducible refine Kd.C_alloc ?_ _) | (with_reducible refine Kd.C_drewN ?_ _) | (with_reducible refine Kd.C_drew ?_))); (case side4 => exact (Kd.R_reads' HO213.out).2.1); rintro e w12 ⟨v216, rfl, ho0, hb⟩; have HO217 := Aside0.mk (Kd.R_lower ho0 (below_size hb_)); replace HO213 := Aside0.mk (Kd.R_below (by (with_reducible repeat (first | apply Kd.R_alloc | apply Kd.R_drewN | apply Kd.R_drew)); exact HO213.out) hb); replace BK209 := bk_ BK209 hb; replace BK210 := bk_ BK210 hb; replace HB := hs_ hb; (try clear hb); (try clear hb2); (try clear hk); (try clear hi); (try clear ho0))); try go_wp2_with (first | ((with_reducible refine gate_dst (N := 7) rfl ?_); refine bx 7 #[.int .i64 a2_0, .int .i64 a2_1] 24 ?_; intro gb209 hg w8 hbox hb; have BK209 := Aside0.mk (hbox); have GW209 := ge_ hg; have GE209 := ge_ hg; replace HB := hs_ hb; clear hb hbox hg) | ((with_reducible refine gate_dst (N := 9) rfl ?_); refine bx 9 #[.int .i64 a4_0, .int .i64 a4_1, .int .i64 a4_2, .int .i64 a4_3, .int .i64 a4_4, .int .i64 a4_5] 29 ?_; intro gb210 hg w9 hbox hb; have BK210 := Aside0.mk (hbox); have GW210 := ge_ hg; have GE210 := ge_ hg; have NB209_210 := nl_ BK209 hg; have NB210_209 := nr_ BK209 hg; replace BK209 := bk_ BK209 hb; replace HB := hs_ hb; clear hb hbox hg) | (go_at_call 78; (with_reducible refine (ensembleref12_All.calls k _ _ l3 a0 t211 _ ?side1 ?side2 A6.out).mono ?_); (case side1 => exact cs_ HR3); (case side2 => exact HC3.out); rintro e w10 ⟨v212, rfl, ho0, hb⟩; have HO213 := Aside0.mk (Kd.R_lower ho0 (below_size hb_)); replace BK209 := bk_ BK209 hb; replace BK210 := bk_ BK210 hb; replace HB := hs_ hb; (try clear hb); (try clear hb2); (try clear hk); (try clear hi); (try clear ho0); obtain ⟨Ao11, co11, eo11⟩ := Kd.R_slice HO213.out; subst eo11) | (go_at_call 32; (with_reducible refine (ensembleref05_More.calls k _ _ l1 _ _ t211 t214 t215 _ ?side1 ?side2 ?side3 ?side4 A7.out).mono ?_); (case side1 => exact cs_ HR1); (case side2 => exact HC1.out); (case side3 => repeat (first | exact (Kd.R_reads' HO213.out).2.2 | (with_reducible refine Kd.C_alloc ?_ _) | (with_reducible refine Kd.C_drewN ?_ _) | (with_reducible refine Kd.C_drew ?_))); (case side4 => exact (Kd.R_reads' HO213.out).2.1); rintro e w12 ⟨v216, rfl, ho0, hb⟩; have HO217 := Aside0.mk (Kd.R_lower ho0 (below_size hb_)); replace HO213 := Aside0.mk (Kd.R_below (by (with_reducible repeat (first | apply Kd.R_alloc | apply Kd.R_drewN | apply Kd.R_drew)); exact HO213.out) hb); replace BK209 := bk_ BK209 hb; replace BK210 := bk_ BK210 hb; replace HB := hs_ hb; (try clear hb); (try clear hb2); (try clear hk); (try clear hi); (try clear ho0))))
 go_loopg [13] k (fun kq v13 w' => ∃ (x13_1 : Int) (x210000_1 : Int) (x210001_1 : Int), v13 = .int .i64 x13_1 ∧ Aside0 (ensembleref12_At.l0 kq a0 l3 t214 x13_1 x210000_1 x210001_1 a4_0 a4_1 a4_2 a4_3 a4_4 a4_5 = some r) ∧ Aside0 (kq ≤ k) ∧ Aside0 (Kd.R k51 51 w' w.heap.size (fun _ => True) v216 t214) ∧ Aside0 (w'.heap[gb209]? = some (.cells #[.int .i64 x210000_1, .int .i64 x210001_1] 24 (0, 0))) ∧ Aside0 (w'.heap[gb210]? = some (.cells #[.int .i64 a4_0, .int .i64 a4_1, .int .i64 a4_2, .int .i64 a4_3, .int .i64 a4_4, .int .i64 a4_5] 29 (0, 0))) ∧ Aside0 (Below w.heap.size w w'))
 case atStart => exact ⟨(0), (a2_0), (a2_1), Z6, H', ⟨Nat.le_refl _⟩, ⟨by (with_reducible repeat (first | apply Kd.R_alloc | apply Kd.R_drewN | apply Kd.R_drew)); exact HO217.out⟩, ⟨bo_ BK209⟩, ⟨bo_ BK210⟩, ⟨hb_⟩⟩
 case round =>
  clear H'
  try clear c1
  try clear p2
  try clear c3
  obtain ⟨x13_1, x210000_1, x210001_1, rfl, HA, HK1, HO_11, BK209, BK210, HB⟩ := hrel
  cases gk with
  | zero => exact absurd HA.out (by simp [ensembleref12_At.l0])
  | succ k1 =>
   have H := HA.out
   clear HA
   simp only [ensembleref12_At.l0] at H
   by_cases c13 : x13_1 < (l3.length : Int)
   ·rw [if_pos c13] at H
    have c13b0 : decide (x13_1 < (l3.length : Int)) = true := decide_eq_true c13
    clear c13
    by_cases c14 : 0 ≤ x13_1
    ·rw [if_pos c14] at H
     have c14b0 : decide (0 ≤ x13_1) = true := decide_eq_true c14
     clear c14
     by_cases c15 : ((rd_T41 l3 x13_1).f2) ≤ a0
     ·rw [if_pos c15] at H
      have c15b0 : decide (((rd_T41 l3 x13_1).f2) ≤ a0) = true := decide_eq_true c15
      clear c15
      by_cases c16 : ((rd_T41 l3 x13_1).f1) = a4_0
      ·rw [if_pos c16] at H
       have c16b0 : (((rd_T41 l3 x13_1).f1) == a4_0) = true := beq_iff_eq.mpr c16
       have c16b1 : (((rd_T41 l3 x13_1).f1) != a4_0) = false := bne_eq_false_iff_eq.mpr c16
       clear c16
       replace H := Option.bind_eq_some_iff.mp H
       obtain ⟨⟨t221, t222⟩, A170, H⟩ := H
       replace H : (ensembleref12_At.l0 k1 a0 l3 t214 (wrap64 (x13_1 + 1)) (wrap64 (x210000_1 + t221)) (wrap64 (x210001_1 + t222)) a4_0 a4_1 a4_2 a4_3 a4_4 a4_5) = some r := H
       have A17 := Aside0.mk A170
       clear A170
       have H' := Aside0.mk H
       clear H
       have p218 : 0 ≤ (x13_1 : Int) := of_decide_eq_true Z1
       have q218 : x13_1 < (l3.length : Int) := of_decide_eq_true Z1
       obtain ⟨ad218, A218_4, c218_4, e218, hx218_0, hx218_1, hx218_2, hx218_3, hx218_4, hl218_4, hi218_4⟩ := at_T41 HR3.out x13_1 p218 q218
       cases e218
       replace hx218_0 := cx_ hx218_0
       replace hx218_1 := cx_ hx218_1
       replace hx218_2 := cx_ hx218_2
       replace hx218_3 := cx_ hx218_3
       replace hx218_4 := cx_ hx218_4
       have HR218_4 := Aside0.mk hi218_4
       have HC218_4 := Aside0.mk hl218_4
       clear hi218_4 hl218_4
       replace p218 := eq_true p218
       replace q218 := eq_true q218
       have p219 : 0 ≤ (x13_1 : Int) := of_decide_eq_true Z1
       have q219 : x13_1 < (l3.length : Int) := of_decide_eq_true Z1
       obtain ⟨ad219, A219_4, c219_4, e219, hx219_0, hx219_1, hx219_2, hx219_3, hx219_4, hl219_4, hi219_4⟩ := at_T41 HR3.out x13_1 p219 q219
       obtain rfl : ad218 = ad219 := (by injection e219)
       replace hx219_0 := cx_ hx219_0
       replace hx219_1 := cx_ hx219_1
       replace hx219_2 := cx_ hx219_2
       replace hx219_3 := cx_ hx219_3
       replace hx219_4 := cx_ hx219_4
       have HR219_4 := Aside0.mk hi219_4
       have HC219_4 := Aside0.mk hl219_4
       clear hi219_4 hl219_4
       replace p219 := eq_true p219
       replace q219 := eq_true q219
       have ea_ := Option.some.inj (hx218_4.symm.trans hx219_4)
       injection ea_ with ea_ en_ ec_
       subst ea_
       subst ec_
       clear en_
       have hnb18 := NB210_209.out
       have hnc18 := NB209_210.out
       obtain ⟨hcz19_0, hcz19_1, hcz19_2, hcz19_3, hcz19_4, hcz19_5, hfz19_0, hfz19_1, hfz19_2, hfz19_3, hfz19_4, hfz19_5⟩ := bz6_ BK210
       have p220 : 0 ≤ (x13_1 : Int) := of_decide_eq_true Z1
       have q220 : x13_1 < (l3.length : Int) := of_decide_eq_true Z1
       obtain ⟨ad220, A220_4, c220_4, e220, hx220_0, hx220_1, hx220_2, hx220_3, hx220_4, hl220_4, hi220_4⟩ := at_T41 HR3.out x13_1 p220 q220
       obtain rfl : ad218 = ad220 := (by injection e220)
       replace hx220_0 := cx_ hx220_0
       replace hx220_1 := cx_ hx220_1
       replace hx220_2 := cx_ hx220_2
       replace hx220_3 := cx_ hx220_3
       replace hx220_4 := cx_ hx220_4
       have HR220_4 := Aside0.mk hi220_4
       have HC220_4 := Aside0.mk hl220_4
       clear hi220_4 hl220_4
       replace p220 := eq_true p220
       replace q220 := eq_true q220
       have ea_ := Option.some.inj (hx218_4.symm.trans hx220_4)
       injection ea_ with ea_ en_ ec_
       subst ea_
       subst ec_
       clear en_
       go_wp2_with (first | (go_at_call 42; (with_reducible refine (ensembleref08_Units.calls k1 _ _ ((rd_T41 l3 x13_1).f4) t221 t222 _ ?side1 ?side2 A17.out).mono ?_); (case side1 => exact cs_ HR220_4); (case side2 => exact HC220_4.out); rintro e w20 ⟨rfl, hb⟩; replace HO_11 := Aside0.mk (Kd.R_below Z14 hb); replace BK209 := bk_ BK209 hb; replace BK210 := bk_ BK210 hb; replace HB := hs_ hb; (try clear hb); (try clear hb2); (try clear hk); (try clear hi)) | ((with_reducible refine gate_dst (N := 14) rfl ?_); refine bx 14 #[.int .i64 0, .int .i64 0] 24 ?_; intro gb223 hg w21 hbox hb; have BK223 := Aside0.mk (hbox); have GW223 := ge_ hg; have GE223 := ge_ hg; have NB209_223 := nl_ BK209 hg; have NB223_209 := nr_ BK209 hg; have NB210_223 := nl_ BK210 hg; have NB223_210 := nr_ BK210 hg; replace HO_11 := Aside0.mk (Kd.R_below Z14 hb); replace BK209 := bk_ BK209 hb; replace BK210 := bk_ BK210 hb; replace HB := hs_ hb; clear hb hbox hg; have hnb22 := NB223_209.out; have hnc22 := NB209_223.out; have hnb23 := NB223_210.out; have hnc23 := NB210_223.out; obtain ⟨hcz24_0, hcz24_1, hfz24_0, hfz24_1⟩ := bz2_ BK223; obtain ⟨hcz25_0, hcz25_1, hfz25_0, hfz25_1⟩ := bz2_ BK209))
       repeat (go_quiet (first | (go_at_call 42; (with_reducible refine (ensembleref08_Units.calls k1 _ _ ((rd_T41 l3 x13_1).f4) t221 t222 _ ?side1 ?side2 A17.out).mono ?_); (case side1 => exact cs_ HR220_4); (case side2 => exact HC220_4.out); rintro e w20 ⟨rfl, hb⟩; replace HO_11 := Aside0.mk (Kd.R_below Z14 hb); replace BK209 := bk_ BK209 hb; replace BK210 := bk_ BK210 hb; replace HB := hs_ hb; (try clear hb); (try clear hb2); (try clear hk); (try clear hi)) | ((with_reducible refine gate_dst (N := 14) rfl ?_); refine bx 14 #[.int .i64 0, .int .i64 0] 24 ?_; intro gb223 hg w21 hbox hb; have BK223 := Aside0.mk (hbox); have GW223 := ge_ hg; have GE223 := ge_ hg; have NB209_223 := nl_ BK209 hg; have NB223_209 := nr_ BK209 hg; have NB210_223 := nl_ BK210 hg; have NB223_210 := nr_ BK210 hg; replace HO_11 := Aside0.mk (Kd.R_below Z14 hb); replace BK209 := bk_ BK209 hb; replace BK210 := bk_ BK210 hb; replace HB := hs_ hb; clear hb hbox hg; have hnb22 := NB223_209.out; have hnc22 := NB209_223.out; have hnb23 := NB223_210.out; have hnc23 := NB210_223.out; obtain ⟨hcz24_0, hcz24_1, hfz24_0, hfz24_1⟩ := bz2_ BK223; obtain ⟨hcz25_0, hcz25_1, hfz25_0, hfz25_1⟩ := bz2_ BK209)); try go_wp2_with (first | (go_at_call 42; (with_reducible refine (ensembleref08_Units.calls k1 _ _ ((rd_T41 l3 x13_1).f4) t221 t222 _ ?side1 ?side2 A17.out).mono ?_); (case side1 => exact cs_ HR220_4); (case side2 => exact HC220_4.out); rintro e w20 ⟨rfl, hb⟩; replace HO_11 := Aside0.mk (Kd.R_below Z14 hb); replace BK209 := bk_ BK209 hb; replace BK210 := bk_ BK210 hb; replace HB := hs_ hb; (try clear hb); (try clear hb2); (try clear hk); (try clear hi)) | ((with_reducible refine gate_dst (N := 14) rfl ?_); refine bx 14 #[.int .i64 0, .int .i64 0] 24 ?_; intro gb223 hg w21 hbox hb; have BK223 := Aside0.mk (hbox); have GW223 := ge_ hg; have GE223 := ge_ hg; have NB209_223 := nl_ BK209 hg; have NB223_209 := nr_ BK209 hg; have NB210_223 := nl_ BK210 hg; have NB223_210 := nr_ BK210 hg; replace HO_11 := Aside0.mk (Kd.R_below Z14 hb); replace BK209 := bk_ BK209 hb; replace BK210 := bk_ BK210 hb; replace HB := hs_ hb; clear hb hbox hg; have hnb22 := NB223_209.out; have hnc22 := NB209_223.out; have hnb23 := NB223_210.out; have hnc23 := NB210_223.out; obtain ⟨hcz24_0, hcz24_1, hfz24_0, hfz24_1⟩ := bz2_ BK223; obtain ⟨hcz25_0, hcz25_1, hfz25_0, hfz25_1⟩ := bz2_ BK209)))
       go_roundg k1
       case measure => have := HK1.out; omega
       case rel => exact ⟨(wrap64 (x13_1 + 1)), (wrap64 (x210000_1 + t221)), (wrap64 (x210001_1 + t222)), Z6, H', ⟨by have := HK1.out; omega⟩, ⟨by (with_reducible repeat (first | apply Kd.R_alloc | apply Kd.R_drewN | apply Kd.R_drew)); exact Kd.R_mono (Kd.R_far (p := ⟨gb209, 1, none⟩) (Kd.R_far (p := ⟨gb209, 0, none⟩) (Kd.R_far (p := ⟨gb223, 1, none⟩) (Kd.R_far (p := ⟨gb223, 0, none⟩) (Kd.R_types (Kd.R_types HO_11.out BK223.out (by decide)) BK209.out (by decide)) (fun _ hk => hk.1.2) (.int .i64 t221)) (fun _ hk => hk.1.2) (.int .i64 t222)) (fun _ hk => hk.2) (.int .i64 (wrap64 (x210000_1 + t221)))) (fun _ hk => hk.2) (.int .i64 (wrap64 (x210001_1 + t222)))) (fun _ hk => trivial)⟩, ⟨bs_⟩, ⟨bs_⟩, ⟨hb_⟩⟩
      ·rw [if_neg c16] at H
       have c16b0 : (((rd_T41 l3 x13_1).f1) == a4_0) = false := beq_eq_false_iff_ne.mpr c16
       have c16b1 : (((rd_T41 l3 x13_1).f1) != a4_0) = true := bne_iff_ne.mpr c16
       have H' := Aside0.mk H
       clear H
       have p218 : 0 ≤ (x13_1 : Int) := of_decide_eq_true Z1
       have q218 : x13_1 < (l3.length : Int) := of_decide_eq_true Z1
       obtain ⟨ad218, A218_4, c218_4, e218, hx218_0, hx218_1, hx218_2, hx218_3, hx218_4, hl218_4, hi218_4⟩ := at_T41 HR3.out x13_1 p218 q218
       cases e218
       replace hx218_0 := cx_ hx218_0
       replace hx218_1 := cx_ hx218_1
       replace hx218_2 := cx_ hx218_2
       replace hx218_3 := cx_ hx218_3
       replace hx218_4 := cx_ hx218_4
       have HR218_4 := Aside0.mk hi218_4
       have HC218_4 := Aside0.mk hl218_4
       clear hi218_4 hl218_4
       replace p218 := eq_true p218
       replace q218 := eq_true q218
       have p219 : 0 ≤ (x13_1 : Int) := of_decide_eq_true Z1
       have q219 : x13_1 < (l3.length : Int) := of_decide_eq_true Z1
       obtain ⟨ad219, A219_4, c219_4, e219, hx219_0, hx219_1, hx219_2, hx219_3, hx219_4, hl219_4, hi219_4⟩ := at_T41 HR3.out x13_1 p219 q219
       obtain rfl : ad218 = ad219 := (by injection e219)
       replace hx219_0 := cx_ hx219_0
       replace hx219_1 := cx_ hx219_1
       replace hx219_2 := cx_ hx219_2
       replace hx219_3 := cx_ hx219_3
       replace hx219_4 := cx_ hx219_4
       have HR219_4 := Aside0.mk hi219_4
       have HC219_4 := Aside0.mk hl219_4
       clear hi219_4 hl219_4
       replace p219 := eq_true p219
       replace q219 := eq_true q219
       have ea_ := Option.some.inj (hx218_4.symm.trans hx219_4)
       injection ea_ with ea_ en_ ec_
       subst ea_
       subst ec_
       clear en_
       have hnb26 := NB210_209.out
       have hnc26 := NB209_210.out
       obtain ⟨hcz27_0, hcz27_1, hcz27_2, hcz27_3, hcz27_4, hcz27_5, hfz27_0, hfz27_1, hfz27_2, hfz27_3, hfz27_4, hfz27_5⟩ := bz6_ BK210
       go_wp2
       repeat (go_quiet (fail); try go_wp2)
       go_roundg k1
       case measure => have := HK1.out; omega
       case rel => exact ⟨(wrap64 (x13_1 + 1)), (x210000_1), (x210001_1), Z6, H', ⟨by have := HK1.out; omega⟩, ⟨by (with_reducible repeat (first | apply Kd.R_alloc | apply Kd.R_drewN | apply Kd.R_drew)); exact HO_11.out⟩, ⟨bo_ BK209⟩, ⟨bo_ BK210⟩, ⟨hb_⟩⟩
     ·rw [if_neg c15] at H
      have c15b0 : decide (((rd_T41 l3 x13_1).f2) ≤ a0) = false := decide_eq_false c15
      clear c15
      have H' := Aside0.mk H
      clear H
      have p218 : 0 ≤ (x13_1 : Int) := of_decide_eq_true Z1
      have q218 : x13_1 < (l3.length : Int) := of_decide_eq_true Z1
      obtain ⟨ad218, A218_4, c218_4, e218, hx218_0, hx218_1, hx218_2, hx218_3, hx218_4, hl218_4, hi218_4⟩ := at_T41 HR3.out x13_1 p218 q218
      cases e218
      replace hx218_0 := cx_ hx218_0
      replace hx218_1 := cx_ hx218_1
      replace hx218_2 := cx_ hx218_2
      replace hx218_3 := cx_ hx218_3
      replace hx218_4 := cx_ hx218_4
      have HR218_4 := Aside0.mk hi218_4
      have HC218_4 := Aside0.mk hl218_4
      clear hi218_4 hl218_4
      replace p218 := eq_true p218
      replace q218 := eq_true q218
      go_wp2
      repeat (go_quiet (fail); try go_wp2)
      go_roundg k1
      case measure => have := HK1.out; omega
      case rel => exact ⟨(wrap64 (x13_1 + 1)), (x210000_1), (x210001_1), Z6, H', ⟨by have := HK1.out; omega⟩, ⟨by (with_reducible repeat (first | apply Kd.R_alloc | apply Kd.R_drewN | apply Kd.R_drew)); exact HO_11.out⟩, ⟨bo_ BK209⟩, ⟨bo_ BK210⟩, ⟨hb_⟩⟩
    ·rw [if_neg c14] at H
     exact absurd H (by simp)
   ·rw [if_neg c13] at H
    have c13b0 : decide (x13_1 < (l3.length : Int)) = false := decide_eq_false c13
    clear c13
    replace H := Option.bind_eq_some_iff.mp H
    obtain ⟨t224, A280, H⟩ := H
    replace H : (some t224) = some r := H
    have A28 := Aside0.mk A280
    clear A280
    obtain rfl := Option.some.inj H
    have hnb29 := NB209_210.out
    have hnc29 := NB210_209.out
    obtain ⟨hcz30_0, hcz30_1, hfz30_0, hfz30_1⟩ := bz2_ BK209
    obtain ⟨hcz31_0, hcz31_1, hcz31_2, hcz31_3, hcz31_4, hcz31_5, hfz31_0, hfz31_1, hfz31_2, hfz31_3, hfz31_4, hfz31_5⟩ := bz6_ BK210
    obtain ⟨Ao32, co32, eo32⟩ := Kd.R_slice HO_11.out
    subst eo32
    go_wp2_with (first | (go_at_call 30; (with_reducible refine (ensembleref12_Fits.calls k1 _ _ t214 x210000_1 x210001_1 a4_0 a4_1 a4_2 a4_3 a4_4 a4_5 t224 _ ?side1 ?side2 A28.out).mono ?_); (case side1 => repeat (first | exact (Kd.R_reads' HO_11.out).2.2 | (with_reducible refine Kd.C_alloc ?_ _) | (with_reducible refine Kd.C_drewN ?_ _) | (with_reducible refine Kd.C_drew ?_))); (case side2 => exact (Kd.R_reads' HO_11.out).2.1); rintro e w33 ⟨rfl, hb⟩; replace HO_11 := Aside0.mk (Kd.R_below Z14 hb); replace BK209 := bk_ BK209 hb; replace BK210 := bk_ BK210 hb; replace HB := hs_ hb; (try clear hb); (try clear hb2); (try clear hk); (try clear hi)))
    repeat (go_quiet (first | (go_at_call 30; (with_reducible refine (ensembleref12_Fits.calls k1 _ _ t214 x210000_1 x210001_1 a4_0 a4_1 a4_2 a4_3 a4_4 a4_5 t224 _ ?side1 ?side2 A28.out).mono ?_); (case side1 => repeat (first | exact (Kd.R_reads' HO_11.out).2.2 | (with_reducible refine Kd.C_alloc ?_ _) | (with_reducible refine Kd.C_drewN ?_ _) | (with_reducible refine Kd.C_drew ?_))); (case side2 => exact (Kd.R_reads' HO_11.out).2.1); rintro e w33 ⟨rfl, hb⟩; replace HO_11 := Aside0.mk (Kd.R_below Z14 hb); replace BK209 := bk_ BK209 hb; replace BK210 := bk_ BK210 hb; replace HB := hs_ hb; (try clear hb); (try clear hb2); (try clear hk); (try clear hi))); try go_wp2_with (first | (go_at_call 30; (with_reducible refine (ensembleref12_Fits.calls k1 _ _ t214 x210000_1 x210001_1 a4_0 a4_1 a4_2 a4_3 a4_4 a4_5 t224 _ ?side1 ?side2 A28.out).mono ?_); (case side1 => repeat (first | exact (Kd.R_reads' HO_11.out).2.2 | (with_reducible refine Kd.C_alloc ?_ _) | (with_reducible refine Kd.C_drewN ?_ _) | (with_reducible refine Kd.C_drew ?_))); (case side2 => exact (Kd.R_reads' HO_11.out).2.1); rintro e w33 ⟨rfl, hb⟩; replace HO_11 := Aside0.mk (Kd.R_below Z14 hb); replace BK209 := bk_ BK209 hb; replace BK210 := bk_ BK210 hb; replace HB := hs_ hb; (try clear hb); (try clear hb2); (try clear hk); (try clear hi))))
    go_ret
    exact ⟨by first | rfl | (simp [errW_none, errW_some] <;> rfl) | (simp [*, errW_none, errW_some] <;> rfl), hb_⟩
end Go.Proofs.Ytckhjehibjdjdaa.P
namespace Go.Proofs.Ytckhjehibjdjdaa.P
open Go.RowKit Go.Proofs.YtckhjehibjdjdaaW.PrintWords Go.Proofs.YtckhjehibjdjdaaW.PrintLast Go.Proofs.YtckhjehibjdjdaaW.PrintMore
attribute [local go_sem] max2_int min2_int max_two min_two max_three min_three max_four min_four
set_option linter.unusedVariables false
set_option linter.unusedSimpArgs false
mutual
def ensembleref12_Earliest.j0 : Nat → Int → List (S51) → List (S41) → Bool → Int → Int → Int → Int → Int → Int → Int → Int → Option (Int × Int)
 | 0, _, _, _, _, _, _, _, _, _, _, _, _ => none
 | k + 1, x0, x1, x3, x29, x226000, x226001, x227000, x227001, x227002, x227003, x227004, x227005 => if x29 = true then (some (0, 1)) else (ensembleref12_Earliest.l0 k x0 x1 x3 ([] : List (S52)) 0 x226000 x226001 x227000 x227001 x227002 x227003 x227004 x227005)
def ensembleref12_Earliest.l0 : Nat → Int → List (S51) → List (S41) → List (S52) → Int → Int → Int → Int → Int → Int → Int → Int → Int → Option (Int × Int)
 | 0, _, _, _, _, _, _, _, _, _, _, _, _, _ => none
 | k + 1, x0, x1, x3, x12, x13, x226000, x226001, x227000, x227001, x227002, x227003, x227004, x227005 => if x13 < (x3.length : Int) then (if 0 ≤ x13 then (if x12.length + ((rd_T41 x3 x13).f4).length < 4398046511104 then (ensembleref12_Earliest.l0 k x0 x1 x3 (x12 ++ ((rd_T41 x3 x13).f4)) (wrap64 (x13 + 1)) x226000 x226001 x227000 x227001 x227002 x227003 x227004 x227005) else (none)) else (none)) else ((ensembleref05_More.f k x1 x12).bind fun bt232 => (if bt232.2 = 0 then ((ensembleref12_At.f k x0 x1 x226000 x226001 x3 x227000 x227001 x227002 x227003 x227004 x227005).bind fun t236 => (if t236 = true then (some (x0, 0)) else (ensembleref12_Earliest.l1 k x0 x1 x3 1073741825 0 x226000 x226001 x227000 x227001 x227002 x227003 x227004 x227005))) else (some (0, bt232.2))))
def ensembleref12_Earliest.l1 : Nat → Int → List (S51) → List (S41) → Int → Int → Int → Int → Int → Int → Int → Int → Int → Int → Option (Int × Int)
 | 0, _, _, _, _, _, _, _, _, _, _, _, _, _ => none
 | k + 1, x0, x1, x3, x16, x17, x226000, x226001, x227000, x227001, x227002, x227003, x227004, x227005 => if x17 < (x3.length : Int) then (if 0 ≤ x17 then (if ((rd_T41 x3 x17).f2) > x0 then (if ((rd_T41 x3 x17).f2) < x16 then ((ensembleref12_At.f k ((rd_T41 x3 x17).f2) x1 x226000 x226001 x3 x227000 x227001 x227002 x227003 x227004 x227005).bind fun t238 => (if t238 = true then (ensembleref12_Earliest.l1 k x0 x1 x3 ((rd_T41 x3 x17).f2) (wrap64 (x17 + 1)) x226000 x226001 x227000 x227001 x227002 x227003 x227004 x227005) else (ensembleref12_Earliest.l1 k x0 x1 x3 x16 (wrap64 (x17 + 1)) x226000 x226001 x227000 x227001 x227002 x227003 x227004 x227005))) else (ensembleref12_Earliest.l1 k x0 x1 x3 x16 (wrap64 (x17 + 1)) x226000 x226001 x227000 x227001 x227002 x227003 x227004 x227005)) else (ensembleref12_Earliest.l1 k x0 x1 x3 x16 (wrap64 (x17 + 1)) x226000 x226001 x227000 x227001 x227002 x227003 x227004 x227005)) else (none)) else (some (x16, 0))
end
def ensembleref12_Earliest.f (k : Nat) (a0 : Int) (l1 : List (S51)) (a2_0 : Int) (a2_1 : Int) (l3 : List (S41)) (a4_0 : Int) (a4_1 : Int) (a4_2 : Int) (a4_3 : Int) (a4_4 : Int) (a4_5 : Int) : Option (Int × Int) := if a0 < 0 then (ensembleref12_Earliest.j0 k a0 l1 l3 true a2_0 a2_1 a4_0 a4_1 a4_2 a4_3 a4_4 a4_5) else (if a0 > 1073741824 then (ensembleref12_Earliest.j0 k a0 l1 l3 true a2_0 a2_1 a4_0 a4_1 a4_2 a4_3 a4_4 a4_5) else ((ensembleref12_Right.f a4_0 a4_1 a4_2 a4_3 a4_4 a4_5).bind fun t227 => (ensembleref12_Earliest.j0 k a0 l1 l3 (!t227) a2_0 a2_1 a4_0 a4_1 a4_2 a4_3 a4_4 a4_5)))
set_option maxHeartbeats 8000000 in
set_option maxRecDepth 100000 in
theorem ensembleref12_Earliest.calls (k : Nat) (a0 : Int) (A1 : Option Addr) (c1 : Nat) (l1 : List (S51)) (a2_0 : Int) (a2_1 : Int) (A3 : Option Addr) (c3 : Nat) (l3 : List (S41)) (a4_0 : Int) (a4_1 : Int) (a4_2 : Int) (a4_3 : Int) (a4_4 : Int) (a4_5 : Int) (r1 : Int) (r2 : Int) (w : World) (hr1 : Kd.C k51 w A1 l1.length l1) (hc1 : l1.length ≤ c1) (hr3 : Kd.C k41 w A3 l3.length l3) (hc3 : l3.length ≤ c3) (h : ensembleref12_Earliest.f k a0 l1 a2_0 a2_1 l3 a4_0 a4_1 a4_2 a4_3 a4_4 a4_5 = some (r1, r2)) :
  Calls Try.prog 28 #[.int .i64 a0, .slice A1 l1.length c1, .agg #[.int .i64 a2_0, .int .i64 a2_1], .slice A3 l3.length c3, .agg #[.int .i64 a4_0, .int .i64 a4_1, .int .i64 a4_2, .int .i64 a4_3, .int .i64 a4_4, .int .i64 a4_5]] w fun e w' => e = .returned (.tuple #[.int .i64 r1, .int .i64 r2]) ∧ Below w.heap.size w w' := by
 have hu24 := Try.underlying24
 have hu29 := Try.underlying29
 have HR1 := Aside0.mk hr1
 have HC1 := Aside0.mk hc1
 clear hr1 hc1
 have HR3 := Aside0.mk hr3
 have HC3 := Aside0.mk hc3
 clear hr3 hc3
 have HB := Aside0.mk (Below.refl w.heap.size w)
 have H : (if a0 < 0 then (ensembleref12_Earliest.j0 k a0 l1 l3 true a2_0 a2_1 a4_0 a4_1 a4_2 a4_3 a4_4 a4_5) else (if a0 > 1073741824 then (ensembleref12_Earliest.j0 k a0 l1 l3 true a2_0 a2_1 a4_0 a4_1 a4_2 a4_3 a4_4 a4_5) else ((ensembleref12_Right.f a4_0 a4_1 a4_2 a4_3 a4_4 a4_5).bind fun t227 => (ensembleref12_Earliest.j0 k a0 l1 l3 (!t227) a2_0 a2_1 a4_0 a4_1 a4_2 a4_3 a4_4 a4_5)))) = some (r1, r2) := h
 clear h
 have HC6 := Aside0.mk H
 clear H
 go_enter Try.func28, Try.ntmps28
 go_upto_region 1 with (first | ((with_reducible refine gate_dst (N := 7) rfl ?_); refine bx 7 #[.int .i64 a2_0, .int .i64 a2_1] 24 ?_; intro gb225 hg w7 hbox hb; have BK225 := Aside0.mk (hbox); have GW225 := ge_ hg; have GE225 := ge_ hg; replace HB := hs_ hb; clear hb hbox hg) | ((with_reducible refine gate_dst (N := 9) rfl ?_); refine bx 9 #[.int .i64 a4_0, .int .i64 a4_1, .int .i64 a4_2, .int .i64 a4_3, .int .i64 a4_4, .int .i64 a4_5] 29 ?_; intro gb226 hg w8 hbox hb; have BK226 := Aside0.mk (hbox); have GW226 := ge_ hg; have GE226 := ge_ hg; have NB225_226 := nl_ BK225 hg; have NB226_225 := nr_ BK225 hg; replace BK225 := bk_ BK225 hb; replace HB := hs_ hb; clear hb hbox hg))
 (try simp only [Act.put, List.setIfInBounds_toArray, List.set_cons_zero, List.set_cons_succ])
 go_cut [29] (fun v29 wc => ∃ (kq : Nat) (x29_5 : Bool), v29 = .bool x29_5 ∧ Aside0 (ensembleref12_Earliest.j0 kq a0 l1 l3 x29_5 a2_0 a2_1 a4_0 a4_1 a4_2 a4_3 a4_4 a4_5 = some (r1, r2)) ∧ Aside0 (kq ≤ k) ∧ Aside0 (wc.heap[gb225]? = some (.cells #[.int .i64 a2_0, .int .i64 a2_1] 24 (0, 0))) ∧ Aside0 (wc.heap[gb226]? = some (.cells #[.int .i64 a4_0, .int .i64 a4_1, .int .i64 a4_2, .int .i64 a4_3, .int .i64 a4_4, .int .i64 a4_5] 29 (0, 0))) ∧ Aside0 (Below w.heap.size w wc))
 case first =>
  have H := HC6.out
  clear HC6
  by_cases c9 : a0 < 0
  ·rw [if_pos c9] at H
   have c9b0 : decide (a0 < 0) = true := decide_eq_true c9
   clear c9
   (first | rw [c9b0] | (simp only [i64_w, i32_w]; rw [c9b0]) | skip)
   have H' := Aside0.mk H
   clear H
   go_wp2
   go_meet
   case rel => exact ⟨_, (true), Z6, H', ⟨by first | omega | exact Nat.le_refl _⟩, ⟨bo_ BK225⟩, ⟨bo_ BK226⟩, ⟨hb_⟩⟩
  ·rw [if_neg c9] at H
   have c9b0 : decide (a0 < 0) = false := decide_eq_false c9
   clear c9
   (first | rw [c9b0] | (simp only [i64_w, i32_w]; rw [c9b0]) | skip)
   by_cases c10 : a0 > 1073741824
   ·rw [if_pos c10] at H
    have c10b0 : decide (1073741824 < a0) = true := decide_eq_true c10
    clear c10
    have H' := Aside0.mk H
    clear H
    go_wp2
    go_meet
    case rel => exact ⟨_, (true), Z6, H', ⟨by first | omega | exact Nat.le_refl _⟩, ⟨bo_ BK225⟩, ⟨bo_ BK226⟩, ⟨hb_⟩⟩
   ·rw [if_neg c10] at H
    have c10b0 : decide (1073741824 < a0) = false := decide_eq_false c10
    clear c10
    replace H := Option.bind_eq_some_iff.mp H
    obtain ⟨t227, A110, H⟩ := H
    replace H : (ensembleref12_Earliest.j0 k a0 l1 l3 (!t227) a2_0 a2_1 a4_0 a4_1 a4_2 a4_3 a4_4 a4_5) = some (r1, r2) := H
    have A11 := Aside0.mk A110
    clear A110
    have H' := Aside0.mk H
    clear H
    have hnb12 := NB226_225.out
    have hnc12 := NB225_226.out
    obtain ⟨hcz13_0, hcz13_1, hcz13_2, hcz13_3, hcz13_4, hcz13_5, hfz13_0, hfz13_1, hfz13_2, hfz13_3, hfz13_4, hfz13_5⟩ := bz6_ BK226
    go_wp2_with (first | (go_at_call 33; (with_reducible refine (ensembleref12_Right.calls a4_0 a4_1 a4_2 a4_3 a4_4 a4_5 t227 _ A11.out).mono ?_); rintro e w14 ⟨rfl, hb⟩; replace BK225 := bk_ BK225 hb; replace BK226 := bk_ BK226 hb; replace HB := hs_ hb; (try clear hb); (try clear hb2); (try clear hk); (try clear hi)))
    go_meet
    case rel => exact ⟨_, (!t227), Z6, H', ⟨by first | omega | exact Nat.le_refl _⟩, ⟨bo_ BK225⟩, ⟨bo_ BK226⟩, ⟨hb_⟩⟩
 case rest =>
  clear HC6
  try clear c1
  try clear c2
  try clear p2
  try clear c3
  try clear c9
  try clear c9b0
  try clear c10
  try clear c10b0
  try clear c12
  try clear hcz13_0
  try clear hcz13_1
  try clear hcz13_2
  try clear hcz13_3
  try clear hcz13_4
  try clear hcz13_5
  try clear hfz13_0
  try clear hfz13_1
  try clear hfz13_2
  try clear hfz13_3
  try clear hfz13_4
  try clear hfz13_5
  obtain ⟨kq, x29_5, rfl, HA, HJ5, BK225, BK226, HB⟩ := hcut
  cases kq with
  | zero => exact absurd HA.out (by simp [ensembleref12_Earliest.j0])
  | succ kj5 =>
   have H := HA.out
   clear HA
   simp only [ensembleref12_Earliest.j0] at H
   by_cases c15 : x29_5 = true
   ·subst c15
    have H1 : (some (0, 1)) = some (r1, r2) := by rw [if_pos rfl] at H; exact H
    clear H
    have H := H1
    clear H1
    simp only [Option.some.injEq, Prod.mk.injEq] at H
    obtain ⟨rfl, rfl⟩ := H
    go_wp2
    go_ret2
    exact ⟨by first | rfl | (simp [errW_none, errW_some] <;> rfl) | (simp [*, errW_none, errW_some] <;> rfl), hb_⟩
   ·replace c15 := Bool.eq_false_iff.mpr c15
    subst c15
    have H1 : (ensembleref12_Earliest.l0 kj5 a0 l1 l3 ([] : List (S52)) 0 a2_0 a2_1 a4_0 a4_1 a4_2 a4_3 a4_4 a4_5) = some (r1, r2) := by rw [if_neg (show ¬ (false = true) by decide)] at H; exact H
    clear H
    have H := H1
    clear H1
    have H' := Aside0.mk H
    clear H
    go_wp2
    go_loopg [12, 13] kj5 (fun kq v12 v13 w' => ∃ (x12_2 : List (S52)) (x13_2 : Int), v13 = .int .i64 x13_2 ∧ Aside0 (ensembleref12_Earliest.l0 kq a0 l1 l3 x12_2 x13_2 a2_0 a2_1 a4_0 a4_1 a4_2 a4_3 a4_4 a4_5 = some (r1, r2)) ∧ Aside0 (kq ≤ kj5) ∧ Aside0 (Kd.R k52 52 w' w.heap.size (fun _ => True) v12 x12_2) ∧ Aside0 (w'.heap[gb225]? = some (.cells #[.int .i64 a2_0, .int .i64 a2_1] 24 (0, 0))) ∧ Aside0 (w'.heap[gb226]? = some (.cells #[.int .i64 a4_0, .int .i64 a4_1, .int .i64 a4_2, .int .i64 a4_3, .int .i64 a4_4, .int .i64 a4_5] 29 (0, 0))) ∧ Aside0 (Below w.heap.size w w'))
    case atStart => exact ⟨(([] : List (S52))), (0), Z6, H', ⟨Nat.le_refl _⟩, ⟨by first | exact Kd.R_nil _ _ _ _ _ | exact Kd.N_nil _ _ _ _ _ | exact Kd.V_nil _ _ _ _ _ | exact Kd.Q_nil _ _ _ _ _ | exact Kd.S_nil _ _ _ _ _⟩, ⟨bo_ BK225⟩, ⟨bo_ BK226⟩, ⟨hb_⟩⟩
    case round =>
     clear H'
     try clear c1
     try clear c2
     try clear p2
     try clear c3
     try clear c9
     try clear c9b0
     try clear c10
     try clear c10b0
     try clear c12
     try clear c15
     try clear hcz13_0
     try clear hcz13_1
     try clear hcz13_2
     try clear hcz13_3
     try clear hcz13_4
     try clear hcz13_5
     try clear hfz13_0
     try clear hfz13_1
     try clear hfz13_2
     try clear hfz13_3
     try clear hfz13_4
     try clear hfz13_5
     try clear p2
     obtain ⟨x12_2, x13_2, rfl, HA, HK2, HO_12, BK225, BK226, HB⟩ := hrel
     cases gk with
     | zero => exact absurd HA.out (by simp [ensembleref12_Earliest.l0])
     | succ k2 =>
      have H := HA.out
      clear HA
      simp only [ensembleref12_Earliest.l0] at H
      by_cases c16 : x13_2 < (l3.length : Int)
      ·rw [if_pos c16] at H
       have c16b0 : decide (x13_2 < (l3.length : Int)) = true := decide_eq_true c16
       clear c16
       by_cases c17 : 0 ≤ x13_2
       ·rw [if_pos c17] at H
        have c17b0 : decide (0 ≤ x13_2) = true := decide_eq_true c17
        clear c17
        by_cases c18 : x12_2.length + ((rd_T41 l3 x13_2).f4).length < 4398046511104
        ·rw [if_pos c18] at H
         have LMc18 := Aside0.mk c18
         clear c18
         obtain ⟨y229, hy229⟩ : ∃ y_ : List (S52), y_ = (x12_2 ++ ((rd_T41 l3 x13_2).f4)) := ⟨_, rfl⟩
         replace H : (ensembleref12_Earliest.l0 k2 a0 l1 l3 y229 (wrap64 (x13_2 + 1)) a2_0 a2_1 a4_0 a4_1 a4_2 a4_3 a4_4 a4_5) = some (r1, r2) := by first | (rw [hy229]; with_reducible exact H) | (have H2_ := (Option.bind_some _ _).symm.trans H; rw [hy229]; with_reducible exact H2_) | (have H2_ := (Option.bind_some _ _).symm.trans H; with_reducible exact H2_) | with_reducible exact H | (rw [hy229]; exact H) | exact H
         have Ny229 := Aside0.mk hy229
         clear hy229
         have H' := Aside0.mk H
         clear H
         have p228 : 0 ≤ (x13_2 : Int) := of_decide_eq_true Z1
         have q228 : x13_2 < (l3.length : Int) := of_decide_eq_true Z1
         obtain ⟨ad228, A228_4, c228_4, e228, hx228_0, hx228_1, hx228_2, hx228_3, hx228_4, hl228_4, hi228_4⟩ := at_T41 HR3.out x13_2 p228 q228
         cases e228
         replace hx228_0 := cx_ hx228_0
         replace hx228_1 := cx_ hx228_1
         replace hx228_2 := cx_ hx228_2
         replace hx228_3 := cx_ hx228_3
         replace hx228_4 := cx_ hx228_4
         have HR228_4 := Aside0.mk hi228_4
         have HC228_4 := Aside0.mk hl228_4
         clear hi228_4 hl228_4
         replace p228 := eq_true p228
         replace q228 := eq_true q228
         go_wp2_with (first | ((with_reducible refine gate_builtin (b := .append) (xs := #[.tmp 36, .tmp 41]) rfl ?_); at_builtin; refine Kd.R_append_rows k52 (w0 := w) w.heap.size rfl (.tmp 36) (.tmp 41) 39 52 (.agg #[(.int .i64 0), (.int .i64 0), (.int .u64 0), (.int .i64 0)]) 32 rfl Try.underlying39 info52 rfl (by decide) (by omega) u12 x12_2 ((rd_T41 l3 x13_2).f4) _ _ _ (fun _ => True) (fun _ => False) rfl rfl ?aO ?aR (fun _ _ h => h) (fun _ h => h.elim) ?aF ?aB ?aS ?aL ?_; (case aR => repeat (first | exact (Kd.C_below HR228_4.out HB.out) | (with_reducible refine Kd.C_alloc ?_ _) | (with_reducible refine Kd.C_drewN ?_ _) | (with_reducible refine Kd.C_drew ?_))); (case aB => exact hb_); (case aF => exact (fun _ _ => trivial)); (case aO => exact Z22); (case aS => exact (below_size hb_)); (case aL => have := LMc18.out; omega); intro v230 w19 ho hb hg hat; rw [← Ny229.out] at ho; have HO231 := Aside0.mk (ho); replace BK225 := Aside0.mk (blk_grown (g := gb225) (o := .cells #[.int .i64 a2_0, .int .i64 a2_1] 24 (0, 0)) (bo_ BK225) hg (Kd.R_ne HO_12.out BK225.out (by decide))); replace BK226 := Aside0.mk (blk_grown (g := gb226) (o := .cells #[.int .i64 a4_0, .int .i64 a4_1, .int .i64 a4_2, .int .i64 a4_3, .int .i64 a4_4, .int .i64 a4_5] 29 (0, 0)) (bo_ BK226) hg (Kd.R_ne HO_12.out BK226.out (by decide))); replace HB := Aside0.mk (hb); clear HO_12; clear ho hb hg hat))
         go_roundg k2
         case measure => have := HJ5.out; have := HK2.out; omega
         case rel => exact ⟨(y229), (wrap64 (x13_2 + 1)), Z6, H', ⟨by have := HJ5.out; have := HK2.out; omega⟩, ⟨by (with_reducible repeat (first | apply Kd.R_alloc | apply Kd.R_drewN | apply Kd.R_drew)); exact HO231.out⟩, ⟨bo_ BK225⟩, ⟨bo_ BK226⟩, ⟨hb_⟩⟩
        ·rw [if_neg c18] at H
         exact absurd H (by simp)
       ·rw [if_neg c17] at H
        exact absurd H (by simp)
      ·rw [if_neg c16] at H
       have c16b0 : decide (x13_2 < (l3.length : Int)) = false := decide_eq_false c16
       clear c16
       replace H := Option.bind_eq_some_iff.mp H
       obtain ⟨⟨t232, t233⟩, A200, H⟩ := H
       replace H : (if t233 = 0 then ((ensembleref12_At.f k2 a0 l1 a2_0 a2_1 l3 a4_0 a4_1 a4_2 a4_3 a4_4 a4_5).bind fun t236 => (if t236 = true then (some (a0, 0)) else (ensembleref12_Earliest.l1 k2 a0 l1 l3 1073741825 0 a2_0 a2_1 a4_0 a4_1 a4_2 a4_3 a4_4 a4_5))) else (some (0, t233))) = some (r1, r2) := H
       have A20 := Aside0.mk A200
       clear A200
       by_cases c21 : t233 = 0
       ·rw [if_pos c21] at H
        have c21b0 : (t233 == 0) = true := beq_iff_eq.mpr c21
        have c21b1 : (t233 != 0) = false := bne_eq_false_iff_eq.mpr c21
        clear c21
        replace H := Option.bind_eq_some_iff.mp H
        obtain ⟨t236, A220, H⟩ := H
        replace H : (if t236 = true then (some (a0, 0)) else (ensembleref12_Earliest.l1 k2 a0 l1 l3 1073741825 0 a2_0 a2_1 a4_0 a4_1 a4_2 a4_3 a4_4 a4_5)) = some (r1, r2) := H
        have A22 := Aside0.mk A220
        clear A220
        by_cases c23 : t236 = true
        ·subst c23
         have H1 : (some (a0, 0)) = some (r1, r2) := by rw [if_pos rfl] at H; exact H
         clear H
         have H := H1
         clear H1
         simp only [Option.some.injEq, Prod.mk.injEq] at H
         obtain ⟨rfl, rfl⟩ := H
         obtain ⟨Ao24, co24, eo24⟩ := Kd.R_slice HO_12.out
         subst eo24
         go_wp2_with (first | ((with_reducible refine gate_callee (f := 32) rfl ?_); refine goesL_ (some 46) rfl rfl Try.func32 (by kernel_rfl) rfl #[.slice A1 l1.length c1, .slice Ao24 x12_2.length co24] rfl Z0 ?_; (with_reducible refine (ensembleref05_More.calls k2 _ _ l1 _ _ x12_2 t232 t233 _ ?side1 ?side2 ?side3 ?side4 A20.out).mono ?_); (case side1 => exact cs_ HR1); (case side2 => exact HC1.out); (case side3 => repeat (first | exact (Kd.R_reads' HO_12.out).2.2 | (with_reducible refine Kd.C_alloc ?_ _) | (with_reducible refine Kd.C_drewN ?_ _) | (with_reducible refine Kd.C_drew ?_))); (case side4 => exact (Kd.R_reads' HO_12.out).2.1); rintro e w25 ⟨v234, rfl, ho0, hb⟩; refine ⟨_, rfl, ?_⟩; have HO235 := Aside0.mk (Kd.R_lower ho0 (below_size hb_)); replace HO_12 := Aside0.mk (Kd.R_below Z22 hb); replace BK225 := bk_ BK225 hb; replace BK226 := bk_ BK226 hb; replace HB := hs_ hb; (try clear hb); (try clear hb2); (try clear hk); (try clear hi); (try clear ho0); have hnb26 := NB225_226.out; have hnc26 := NB226_225.out; obtain ⟨hcz27_0, hcz27_1, hfz27_0, hfz27_1⟩ := bz2_ BK225; obtain ⟨hcz28_0, hcz28_1, hcz28_2, hcz28_3, hcz28_4, hcz28_5, hfz28_0, hfz28_1, hfz28_2, hfz28_3, hfz28_4, hfz28_5⟩ := bz6_ BK226) | ((with_reducible refine gate_callee (f := 31) rfl ?_); refine goesL_ (some 57) rfl rfl Try.func31 (by kernel_rfl) rfl #[.int .i64 a0, .slice A1 l1.length c1, .agg #[.int .i64 a2_0, .int .i64 a2_1], .slice A3 l3.length c3, .agg #[.int .i64 a4_0, .int .i64 a4_1, .int .i64 a4_2, .int .i64 a4_3, .int .i64 a4_4, .int .i64 a4_5]] rfl Z0 ?_; (with_reducible refine (ensembleref12_At.calls k2 a0 _ _ l1 a2_0 a2_1 _ _ l3 a4_0 a4_1 a4_2 a4_3 a4_4 a4_5 true _ ?side1 ?side2 ?side3 ?side4 A22.out).mono ?_); (case side1 => exact cs_ HR1); (case side2 => exact HC1.out); (case side3 => exact cs_ HR3); (case side4 => exact HC3.out); rintro e w29 ⟨rfl, hb⟩; refine ⟨_, rfl, ?_⟩; replace HO_12 := Aside0.mk (Kd.R_below Z22 hb); replace HO235 := Aside0.mk (Kd.R_below (by (with_reducible repeat (first | apply Kd.R_alloc | apply Kd.R_drewN | apply Kd.R_drew)); exact HO235.out) hb); replace BK225 := bk_ BK225 hb; replace BK226 := bk_ BK226 hb; replace HB := hs_ hb; (try clear hb); (try clear hb2); (try clear hk); (try clear hi)))
         go_ret2
         exact ⟨by first | rfl | (simp [errW_none, errW_some] <;> rfl) | (simp [*, errW_none, errW_some] <;> rfl), hb_⟩
        ·replace c23 := Bool.eq_false_iff.mpr c23
         subst c23
         have H1 : (ensembleref12_Earliest.l1 k2 a0 l1 l3 1073741825 0 a2_0 a2_1 a4_0 a4_1 a4_2 a4_3 a4_4 a4_5) = some (r1, r2) := by rw [if_neg (show ¬ (false = true) by decide)] at H; exact H
         clear H
         have H := H1
         clear H1
         have H' := Aside0.mk H
         clear H
         obtain ⟨Ao30, co30, eo30⟩ := Kd.R_slice HO_12.out
         subst eo30
         go_wp2_with (first | ((with_reducible refine gate_callee (f := 32) rfl ?_); refine goesL_ (some 46) rfl rfl Try.func32 (by kernel_rfl) rfl #[.slice A1 l1.length c1, .slice Ao30 x12_2.length co30] rfl Z0 ?_; (with_reducible refine (ensembleref05_More.calls k2 _ _ l1 _ _ x12_2 t232 t233 _ ?side1 ?side2 ?side3 ?side4 A20.out).mono ?_); (case side1 => exact cs_ HR1); (case side2 => exact HC1.out); (case side3 => repeat (first | exact (Kd.R_reads' HO_12.out).2.2 | (with_reducible refine Kd.C_alloc ?_ _) | (with_reducible refine Kd.C_drewN ?_ _) | (with_reducible refine Kd.C_drew ?_))); (case side4 => exact (Kd.R_reads' HO_12.out).2.1); rintro e w31 ⟨v234, rfl, ho0, hb⟩; refine ⟨_, rfl, ?_⟩; have HO235 := Aside0.mk (Kd.R_lower ho0 (below_size hb_)); replace HO_12 := Aside0.mk (Kd.R_below Z22 hb); replace BK225 := bk_ BK225 hb; replace BK226 := bk_ BK226 hb; replace HB := hs_ hb; (try clear hb); (try clear hb2); (try clear hk); (try clear hi); (try clear ho0); have hnb32 := NB225_226.out; have hnc32 := NB226_225.out; obtain ⟨hcz33_0, hcz33_1, hfz33_0, hfz33_1⟩ := bz2_ BK225; obtain ⟨hcz34_0, hcz34_1, hcz34_2, hcz34_3, hcz34_4, hcz34_5, hfz34_0, hfz34_1, hfz34_2, hfz34_3, hfz34_4, hfz34_5⟩ := bz6_ BK226) | ((with_reducible refine gate_callee (f := 31) rfl ?_); refine goesL_ (some 57) rfl rfl Try.func31 (by kernel_rfl) rfl #[.int .i64 a0, .slice A1 l1.length c1, .agg #[.int .i64 a2_0, .int .i64 a2_1], .slice A3 l3.length c3, .agg #[.int .i64 a4_0, .int .i64 a4_1, .int .i64 a4_2, .int .i64 a4_3, .int .i64 a4_4, .int .i64 a4_5]] rfl Z0 ?_; (with_reducible refine (ensembleref12_At.calls k2 a0 _ _ l1 a2_0 a2_1 _ _ l3 a4_0 a4_1 a4_2 a4_3 a4_4 a4_5 false _ ?side1 ?side2 ?side3 ?side4 A22.out).mono ?_); (case side1 => exact cs_ HR1); (case side2 => exact HC1.out); (case side3 => exact cs_ HR3); (case side4 => exact HC3.out); rintro e w35 ⟨rfl, hb⟩; refine ⟨_, rfl, ?_⟩; replace HO_12 := Aside0.mk (Kd.R_below Z22 hb); replace HO235 := Aside0.mk (Kd.R_below (by (with_reducible repeat (first | apply Kd.R_alloc | apply Kd.R_drewN | apply Kd.R_drew)); exact HO235.out) hb); replace BK225 := bk_ BK225 hb; replace BK226 := bk_ BK226 hb; replace HB := hs_ hb; (try clear hb); (try clear hb2); (try clear hk); (try clear hi)))
         go_loopg [16, 17] k2 (fun kq v16 v17 w' => ∃ (x16_3 : Int) (x17_3 : Int), v16 = .int .i64 x16_3 ∧ v17 = .int .i64 x17_3 ∧ Aside0 (ensembleref12_Earliest.l1 kq a0 l1 l3 x16_3 x17_3 a2_0 a2_1 a4_0 a4_1 a4_2 a4_3 a4_4 a4_5 = some (r1, r2)) ∧ Aside0 (kq ≤ k2) ∧ Aside0 (w'.heap[gb225]? = some (.cells #[.int .i64 a2_0, .int .i64 a2_1] 24 (0, 0))) ∧ Aside0 (w'.heap[gb226]? = some (.cells #[.int .i64 a4_0, .int .i64 a4_1, .int .i64 a4_2, .int .i64 a4_3, .int .i64 a4_4, .int .i64 a4_5] 29 (0, 0))) ∧ Aside0 (Below w.heap.size w w'))
         case atStart => exact ⟨(1073741825), (0), Z6, Z6, H', ⟨Nat.le_refl _⟩, ⟨bo_ BK225⟩, ⟨bo_ BK226⟩, ⟨hb_⟩⟩
         case round =>
          clear H'
          try clear c1
          try clear c2
          try clear p2
          try clear q2
          try clear hx2
          try clear c3
          try clear p6
          try clear c9
          try clear c9b0
          try clear c10
          try clear c10b0
          try clear c12
          try clear c15
          try clear c16
          try clear c16b0
          try clear c17
          try clear c17b0
          try clear c18
          try clear c21
          try clear c21b0
          try clear c21b1
          try clear c22
          try clear p22
          try clear q22
          try clear hx22
          try clear c23
          try clear c26
          try clear c28
          try clear c31
          try clear c32
          try clear hcz13_0
          try clear hcz13_1
          try clear hcz13_2
          try clear hcz13_3
          try clear hcz13_4
          try clear hcz13_5
          try clear hcz27_0
          try clear hcz27_1
          try clear hcz28_0
          try clear hcz28_1
          try clear hcz28_2
          try clear hcz28_3
          try clear hcz28_4
          try clear hcz28_5
          try clear hcz33_0
          try clear hcz33_1
          try clear hcz34_0
          try clear hcz34_1
          try clear hcz34_2
          try clear hcz34_3
          try clear hcz34_4
          try clear hcz34_5
          try clear hfz13_0
          try clear hfz13_1
          try clear hfz13_2
          try clear hfz13_3
          try clear hfz13_4
          try clear hfz13_5
          try clear hfz27_0
          try clear hfz27_1
          try clear hfz28_0
          try clear hfz28_1
          try clear hfz28_2
          try clear hfz28_3
          try clear hfz28_4
          try clear hfz28_5
          try clear hfz33_0
          try clear hfz33_1
          try clear hfz34_0
          try clear hfz34_1
          try clear hfz34_2
          try clear hfz34_3
          try clear hfz34_4
          try clear hfz34_5
          try clear hx228_0
          try clear hx228_1
          try clear hx228_2
          try clear hx228_3
          try clear hx228_4
          try clear p2
          try clear p228
          try clear q228
          obtain ⟨x16_3, x17_3, rfl, rfl, HA, HK3, BK225, BK226, HB⟩ := hrel
          cases gk with
          | zero => exact absurd HA.out (by simp [ensembleref12_Earliest.l1])
          | succ k3 =>
           have H := HA.out
           clear HA
           simp only [ensembleref12_Earliest.l1] at H
           by_cases c36 : x17_3 < (l3.length : Int)
           ·rw [if_pos c36] at H
            have c36b0 : decide (x17_3 < (l3.length : Int)) = true := decide_eq_true c36
            clear c36
            by_cases c37 : 0 ≤ x17_3
            ·rw [if_pos c37] at H
             have c37b0 : decide (0 ≤ x17_3) = true := decide_eq_true c37
             clear c37
             by_cases c38 : ((rd_T41 l3 x17_3).f2) > a0
             ·rw [if_pos c38] at H
              have c38b0 : decide (a0 < ((rd_T41 l3 x17_3).f2)) = true := decide_eq_true c38
              clear c38
              by_cases c39 : ((rd_T41 l3 x17_3).f2) < x16_3
              ·rw [if_pos c39] at H
               have c39b0 : decide (((rd_T41 l3 x17_3).f2) < x16_3) = true := decide_eq_true c39
               clear c39
               replace H := Option.bind_eq_some_iff.mp H
               obtain ⟨t238, A400, H⟩ := H
               replace H : (if t238 = true then (ensembleref12_Earliest.l1 k3 a0 l1 l3 ((rd_T41 l3 x17_3).f2) (wrap64 (x17_3 + 1)) a2_0 a2_1 a4_0 a4_1 a4_2 a4_3 a4_4 a4_5) else (ensembleref12_Earliest.l1 k3 a0 l1 l3 x16_3 (wrap64 (x17_3 + 1)) a2_0 a2_1 a4_0 a4_1 a4_2 a4_3 a4_4 a4_5)) = some (r1, r2) := H
               have A40 := Aside0.mk A400
               clear A400
               by_cases c41 : t238 = true
               ·subst c41
                have H1 : (ensembleref12_Earliest.l1 k3 a0 l1 l3 ((rd_T41 l3 x17_3).f2) (wrap64 (x17_3 + 1)) a2_0 a2_1 a4_0 a4_1 a4_2 a4_3 a4_4 a4_5) = some (r1, r2) := by rw [if_pos rfl] at H; exact H
                clear H
                have H := H1
                clear H1
                have H' := Aside0.mk H
                clear H
                have p237 : 0 ≤ (x17_3 : Int) := of_decide_eq_true Z1
                have q237 : x17_3 < (l3.length : Int) := of_decide_eq_true Z1
                obtain ⟨ad237, A237_4, c237_4, e237, hx237_0, hx237_1, hx237_2, hx237_3, hx237_4, hl237_4, hi237_4⟩ := at_T41 HR3.out x17_3 p237 q237
                cases e237
                replace hx237_0 := cx_ hx237_0
                replace hx237_1 := cx_ hx237_1
                replace hx237_2 := cx_ hx237_2
                replace hx237_3 := cx_ hx237_3
                replace hx237_4 := cx_ hx237_4
                have HR237_4 := Aside0.mk hi237_4
                have HC237_4 := Aside0.mk hl237_4
                clear hi237_4 hl237_4
                replace p237 := eq_true p237
                replace q237 := eq_true q237
                have hnb42 := NB225_226.out
                have hnc42 := NB226_225.out
                obtain ⟨hcz43_0, hcz43_1, hfz43_0, hfz43_1⟩ := bz2_ BK225
                obtain ⟨hcz44_0, hcz44_1, hcz44_2, hcz44_3, hcz44_4, hcz44_5, hfz44_0, hfz44_1, hfz44_2, hfz44_3, hfz44_4, hfz44_5⟩ := bz6_ BK226
                go_wp2_with (first | (go_at_call 31; (with_reducible refine (ensembleref12_At.calls k3 ((rd_T41 l3 x17_3).f2) _ _ l1 a2_0 a2_1 _ _ l3 a4_0 a4_1 a4_2 a4_3 a4_4 a4_5 true _ ?side1 ?side2 ?side3 ?side4 A40.out).mono ?_); (case side1 => exact cs_ HR1); (case side2 => exact HC1.out); (case side3 => exact cs_ HR3); (case side4 => exact HC3.out); rintro e w45 ⟨rfl, hb⟩; replace BK225 := bk_ BK225 hb; replace BK226 := bk_ BK226 hb; replace HB := hs_ hb; (try clear hb); (try clear hb2); (try clear hk); (try clear hi)))
                go_roundg k3
                case measure => have := HJ5.out; have := HK2.out; have := HK3.out; omega
                case rel => exact ⟨((rd_T41 l3 x17_3).f2), (wrap64 (x17_3 + 1)), Z6, Z6, H', ⟨by have := HJ5.out; have := HK2.out; have := HK3.out; omega⟩, ⟨bo_ BK225⟩, ⟨bo_ BK226⟩, ⟨hb_⟩⟩
               ·replace c41 := Bool.eq_false_iff.mpr c41
                subst c41
                have H1 : (ensembleref12_Earliest.l1 k3 a0 l1 l3 x16_3 (wrap64 (x17_3 + 1)) a2_0 a2_1 a4_0 a4_1 a4_2 a4_3 a4_4 a4_5) = some (r1, r2) := by rw [if_neg (show ¬ (false = true) by decide)] at H; exact H
                clear H
                have H := H1
                clear H1
                have H' := Aside0.mk H
                clear H
                have p237 : 0 ≤ (x17_3 : Int) := of_decide_eq_true Z1
                have q237 : x17_3 < (l3.length : Int) := of_decide_eq_true Z1
                obtain ⟨ad237, A237_4, c237_4, e237, hx237_0, hx237_1, hx237_2, hx237_3, hx237_4, hl237_4, hi237_4⟩ := at_T41 HR3.out x17_3 p237 q237
                cases e237
                replace hx237_0 := cx_ hx237_0
                replace hx237_1 := cx_ hx237_1
                replace hx237_2 := cx_ hx237_2
                replace hx237_3 := cx_ hx237_3
                replace hx237_4 := cx_ hx237_4
                have HR237_4 := Aside0.mk hi237_4
                have HC237_4 := Aside0.mk hl237_4
                clear hi237_4 hl237_4
                replace p237 := eq_true p237
                replace q237 := eq_true q237
                have hnb46 := NB225_226.out
                have hnc46 := NB226_225.out
                obtain ⟨hcz47_0, hcz47_1, hfz47_0, hfz47_1⟩ := bz2_ BK225
                obtain ⟨hcz48_0, hcz48_1, hcz48_2, hcz48_3, hcz48_4, hcz48_5, hfz48_0, hfz48_1, hfz48_2, hfz48_3, hfz48_4, hfz48_5⟩ := bz6_ BK226
                go_wp2_with (first | (go_at_call 31; (with_reducible refine (ensembleref12_At.calls k3 ((rd_T41 l3 x17_3).f2) _ _ l1 a2_0 a2_1 _ _ l3 a4_0 a4_1 a4_2 a4_3 a4_4 a4_5 false _ ?side1 ?side2 ?side3 ?side4 A40.out).mono ?_); (case side1 => exact cs_ HR1); (case side2 => exact HC1.out); (case side3 => exact cs_ HR3); (case side4 => exact HC3.out); rintro e w49 ⟨rfl, hb⟩; replace BK225 := bk_ BK225 hb; replace BK226 := bk_ BK226 hb; replace HB := hs_ hb; (try clear hb); (try clear hb2); (try clear hk); (try clear hi)))
                go_roundg k3
                case measure => have := HJ5.out; have := HK2.out; have := HK3.out; omega
                case rel => exact ⟨(x16_3), (wrap64 (x17_3 + 1)), Z6, Z6, H', ⟨by have := HJ5.out; have := HK2.out; have := HK3.out; omega⟩, ⟨bo_ BK225⟩, ⟨bo_ BK226⟩, ⟨hb_⟩⟩
              ·rw [if_neg c39] at H
               have c39b0 : decide (((rd_T41 l3 x17_3).f2) < x16_3) = false := decide_eq_false c39
               clear c39
               have H' := Aside0.mk H
               clear H
               have p237 : 0 ≤ (x17_3 : Int) := of_decide_eq_true Z1
               have q237 : x17_3 < (l3.length : Int) := of_decide_eq_true Z1
               obtain ⟨ad237, A237_4, c237_4, e237, hx237_0, hx237_1, hx237_2, hx237_3, hx237_4, hl237_4, hi237_4⟩ := at_T41 HR3.out x17_3 p237 q237
               cases e237
               replace hx237_0 := cx_ hx237_0
               replace hx237_1 := cx_ hx237_1
               replace hx237_2 := cx_ hx237_2
               replace hx237_3 := cx_ hx237_3
               replace hx237_4 := cx_ hx237_4
               have HR237_4 := Aside0.mk hi237_4
               have HC237_4 := Aside0.mk hl237_4
               clear hi237_4 hl237_4
               replace p237 := eq_true p237
               replace q237 := eq_true q237
               go_wp2
               go_roundg k3
               case measure => have := HJ5.out; have := HK2.out; have := HK3.out; omega
               case rel => exact ⟨(x16_3), (wrap64 (x17_3 + 1)), Z6, Z6, H', ⟨by have := HJ5.out; have := HK2.out; have := HK3.out; omega⟩, ⟨bo_ BK225⟩, ⟨bo_ BK226⟩, ⟨hb_⟩⟩
             ·rw [if_neg c38] at H
              have c38b0 : decide (a0 < ((rd_T41 l3 x17_3).f2)) = false := decide_eq_false c38
              clear c38
              have H' := Aside0.mk H
              clear H
              have p237 : 0 ≤ (x17_3 : Int) := of_decide_eq_true Z1
              have q237 : x17_3 < (l3.length : Int) := of_decide_eq_true Z1
              obtain ⟨ad237, A237_4, c237_4, e237, hx237_0, hx237_1, hx237_2, hx237_3, hx237_4, hl237_4, hi237_4⟩ := at_T41 HR3.out x17_3 p237 q237
              cases e237
              replace hx237_0 := cx_ hx237_0
              replace hx237_1 := cx_ hx237_1
              replace hx237_2 := cx_ hx237_2
              replace hx237_3 := cx_ hx237_3
              replace hx237_4 := cx_ hx237_4
              have HR237_4 := Aside0.mk hi237_4
              have HC237_4 := Aside0.mk hl237_4
              clear hi237_4 hl237_4
              replace p237 := eq_true p237
              replace q237 := eq_true q237
              go_wp2
              go_roundg k3
              case measure => have := HJ5.out; have := HK2.out; have := HK3.out; omega
              case rel => exact ⟨(x16_3), (wrap64 (x17_3 + 1)), Z6, Z6, H', ⟨by have := HJ5.out; have := HK2.out; have := HK3.out; omega⟩, ⟨bo_ BK225⟩, ⟨bo_ BK226⟩, ⟨hb_⟩⟩
            ·rw [if_neg c37] at H
             exact absurd H (by simp)
           ·rw [if_neg c36] at H
            have c36b0 : decide (x17_3 < (l3.length : Int)) = false := decide_eq_false c36
            clear c36
            simp only [Option.some.injEq, Prod.mk.injEq] at H
            obtain ⟨rfl, rfl⟩ := H
            go_wp2
            go_ret2
            exact ⟨by first | rfl | (simp [errW_none, errW_some] <;> rfl) | (simp [*, errW_none, errW_some] <;> rfl), hb_⟩
       ·rw [if_neg c21] at H
        have c21b0 : (t233 == 0) = false := beq_eq_false_iff_ne.mpr c21
        have c21b1 : (t233 != 0) = true := bne_iff_ne.mpr c21
        simp only [Option.some.injEq, Prod.mk.injEq] at H
        obtain ⟨rfl, rfl⟩ := H
        obtain ⟨Ao50, co50, eo50⟩ := Kd.R_slice HO_12.out
        subst eo50
        go_wp2_with (first | ((with_reducible refine gate_callee (f := 32) rfl ?_); refine goesL_ (some 46) rfl rfl Try.func32 (by kernel_rfl) rfl #[.slice A1 l1.length c1, .slice Ao50 x12_2.length co50] rfl Z0 ?_; (with_reducible refine (ensembleref05_More.calls k2 _ _ l1 _ _ x12_2 t232 t233 _ ?side1 ?side2 ?side3 ?side4 A20.out).mono ?_); (case side1 => exact cs_ HR1); (case side2 => exact HC1.out); (case side3 => repeat (first | exact (Kd.R_reads' HO_12.out).2.2 | (with_reducible refine Kd.C_alloc ?_ _) | (with_reducible refine Kd.C_drewN ?_ _) | (with_reducible refine Kd.C_drew ?_))); (case side4 => exact (Kd.R_reads' HO_12.out).2.1); rintro e w51 ⟨v234, rfl, ho0, hb⟩; refine ⟨_, rfl, ?_⟩; have HO235 := Aside0.mk (Kd.R_lower ho0 (below_size hb_)); replace HO_12 := Aside0.mk (Kd.R_below Z22 hb); replace BK225 := bk_ BK225 hb; replace BK226 := bk_ BK226 hb; replace HB := hs_ hb; (try clear hb); (try clear hb2); (try clear hk); (try clear hi); (try clear ho0)))
        go_ret2
        exact ⟨by first | rfl | (simp [errW_none, errW_some] <;> rfl) | (simp [*, errW_none, errW_some] <;> rfl), hb_⟩
end Go.Proofs.Ytckhjehibjdjdaa.P
namespace Go.Proofs.Ytckhjehibjdjdaa.P
open Go.RowKit Go.Proofs.YtckhjehibjdjdaaW.PrintWords Go.Proofs.YtckhjehibjdjdaaW.PrintLast Go.Proofs.YtckhjehibjdjdaaW.PrintMore
attribute [local go_sem] max2_int min2_int max_two min_two max_three min_three max_four min_four
set_option linter.unusedVariables false
set_option linter.unusedSimpArgs false
def ensembleref05_Less.l0 : Nat → List (S52) → List (S51) → Int → Option ((List (S51)) × Int)
 | 0, _, _, _ => none
 | k + 1, x1, x6, x7 => if x7 < (x1.length : Int) then (if 0 ≤ x7 then (if ((rd_T52 x1 x7).f2) < 0 then (some (([] : List (S51)), 1)) else ((ensembleref05_find.f k x6 ((rd_T52 x1 x7).f0.f0) ((rd_T52 x1 x7).f0.f1)).bind fun t368 => (if t368 < 0 then (some (([] : List (S51)), 3)) else (if 0 ≤ t368 then (if t368 < (x6.length : Int) then ((ensembleref05_masks.f k ((rd_T52 x1 x7).f1) ((rd_T51 x6 t368).f1)).bind fun t370 => ((ensembleref01_Units.f k ((rd_T52 x1 x7).f1)).bind fun t371 => (if t370 < (t371.length : Int) then (some (([] : List (S51)), 5)) else (if ((rd_T52 x1 x7).f2) > ((rd_T51 x6 t368).f2) then (some (([] : List (S51)), 5)) else ((some (x6.set (t368 : Int).toNat (⟨(⟨(rd_T51 x6 t368).f0.f0, (rd_T51 x6 t368).f0.f1⟩ : S48), IntKind.u64.wrap (((rd_T51 x6 t368).f1) - ((rd_T52 x1 x7).f1)), (rd_T51 x6 t368).f2⟩ : S51) : List (S51))).bind fun y376 => (ensembleref05_Less.l0 k x1 (y376.set (t368 : Int).toNat (⟨(⟨(rd_T51 y376 t368).f0.f0, (rd_T51 y376 t368).f0.f1⟩ : S48), (rd_T51 y376 t368).f1, wrap64 (((rd_T51 y376 t368).f2) - ((rd_T52 x1 x7).f2))⟩ : S51)) (wrap64 (x7 + 1)))))))) else (none)) else (none))))) else (none)) else (some (x6, 0))
def ensembleref05_Less.f (k : Nat) (l0 : List (S51)) (l1 : List (S52)) : Option ((List (S51)) × Int) := (some (([] : List (S51)) : List (S51))).bind fun y360 => (if y360.length + l0.length < 4398046511104 then (ensembleref05_Less.l0 k l1 (y360 ++ l0) 0) else (none))
def ensembleref05_Less.T11 : Bool × List (List Nat × List Nat) := (true, [([], []), ([0], [0]), ([], []), ([], []), ([2, 3], [2, 3]), ([4], [4]), ([5], [5]), ([1, 6], [1, 6]), ([], []), ([8], [8]), ([9, 7], [9]), ([10], [10]), ([7, 11], [7, 11]), ([12, 10], [12]), ([13], [13]), ([14, 13], [13, 14]), ([13], [13]), ([13], [13]), ([16, 17, 13], [13, 16, 17]), ([18, 13], [13, 18]), ([19, 13], [13, 19]), ([15, 20, 13], [13, 15, 20]), ([13, 21], [13, 21])])
def ensembleref05_Less.B11 : List Nat := [0, 1, 0, 0, 12, 28, 60, 127, 0, 256, 1023, 2047, 4095, 8191, 16383, 32767, 16383, 16383, 212991, 475135, 999423, 2097151, 4194303]
theorem ensembleref05_Less.tab11 : rtab .any (opsOf Try.f41 11) = ensembleref05_Less.T11 := by kernel_rfl
theorem ensembleref05_Less.bits11 : waitsOk ensembleref05_Less.T11.2 ensembleref05_Less.B11 = true := by kernel_rfl
def ensembleref05_Less.T13 : Bool × List (List Nat × List Nat) := (true, [([], []), ([], []), ([], []), ([], []), ([2, 3], [2, 3]), ([4], [4]), ([5], [5]), ([], []), ([7], [7]), ([6, 8], [6, 8]), ([0, 1, 0, 1, 2, 3, 4, 5, 6, 7, 8, 9], [0, 1]), ([10, 0, 1, 2, 3, 4, 5, 6, 7, 8, 9], [10]), ([11, 9, 0, 1, 2, 3, 4, 5, 6, 7, 8, 9], [9, 11])])
def ensembleref05_Less.B13 : List Nat := [0, 0, 0, 0, 12, 28, 60, 0, 128, 508, 1023, 2047, 4095]
theorem ensembleref05_Less.tab13 : rtab .any (opsOf Try.f41 13) = ensembleref05_Less.T13 := by kernel_rfl
theorem ensembleref05_Less.bits13 : waitsOk ensembleref05_Less.T13.2 ensembleref05_Less.B13 = true := by kernel_rfl
def ensembleref05_Less.T14 : Bool × List (List Nat × List Nat) := (true, [([], []), ([], []), ([], []), ([], []), ([2, 3], [2, 3]), ([4], [4]), ([5], [5]), ([], []), ([7], [7]), ([6, 8], [6, 8]), ([0, 1, 0, 1, 2, 3, 4, 5, 6, 7, 8, 9], [0, 1]), ([10, 0, 1, 2, 3, 4, 5, 6, 7, 8, 9], [10]), ([11, 9, 0, 1, 2, 3, 4, 5, 6, 7, 8, 9], [9, 11])])
def ensembleref05_Less.B14 : List Nat := [0, 0, 0, 0, 12, 28, 60, 0, 128, 508, 1023, 2047, 4095]
theorem ensembleref05_Less.tab14 : rtab .any (opsOf Try.f41 14) = ensembleref05_Less.T14 := by kernel_rfl
theorem ensembleref05_Less.bits14 : waitsOk ensembleref05_Less.T14.2 ensembleref05_Less.B14 = true := by kernel_rfl
set_option maxHeartbeats 8000000 in
set_option maxRecDepth 100000 in
theorem ensembleref05_Less.calls (k : Nat) (A0 : Option Addr) (c0 : Nat) (l0 : List (S51)) (A1 : Option Addr) (c1 : Nat) (l1 : List (S52)) (r1 : List (S51)) (r2 : Int) (w : World) (hr0 : Kd.C k51 w A0 l0.length l0) (hc0 : l0.length ≤ c0) (hr1 : Kd.C k52 w A1 l1.length l1) (hc1 : l1.length ≤ c1) (h : ensembleref05_Less.f k l0 l1 = some (r1, r2)) :
  Calls Try.prog 41 #[.slice A0 l0.length c0, .slice A1 l1.length c1] w fun e w' => ∃ v0_ : Value, e = .returned (.tuple #[v0_, .int .i64 r2]) ∧ Kd.R k51 51 w' w.heap.size (fun _ => True) v0_ r1 ∧ Below w.heap.size w w' := by
 have hu52 := Try.underlying52
 have hu48 := Try.underlying48
 have HR0 := Aside0.mk hr0
 have HC0 := Aside0.mk hc0
 clear hr0 hc0
 have HR1 := Aside0.mk hr1
 have HC1 := Aside0.mk hc1
 clear hr1 hc1
 have HB := Aside0.mk (Below.refl w.heap.size w)
 have H : ((some (([] : List (S51)) : List (S51))).bind fun y360 => (if y360.length + l0.length < 4398046511104 then (ensembleref05_Less.l0 k l1 (y360 ++ l0) 0) else (none))) = some (r1, r2) := h
 clear h
 obtain ⟨y360, hy360⟩ : ∃ y_ : List (S51), y_ = (([] : List (S51))) := ⟨_, rfl⟩
 replace H : (if y360.length + l0.length < 4398046511104 then (ensembleref05_Less.l0 k l1 (y360 ++ l0) 0) else (none)) = some (r1, r2) := by first | (rw [hy360]; with_reducible exact H) | (have H2_ := (Option.bind_some _ _).symm.trans H; rw [hy360]; with_reducible exact H2_) | (have H2_ := (Option.bind_some _ _).symm.trans H; with_reducible exact H2_) | with_reducible exact H | (rw [hy360]; exact H) | exact H
 have Ny360 := Aside0.mk hy360
 clear hy360
 by_cases c3 : y360.length + l0.length < 4398046511104
 ·rw [if_pos c3] at H
  have LMc3 := Aside0.mk c3
  clear c3
  obtain ⟨y363, hy363⟩ : ∃ y_ : List (S51), y_ = (y360 ++ l0) := ⟨_, rfl⟩
  replace H : (ensembleref05_Less.l0 k l1 y363 0) = some (r1, r2) := by first | (rw [hy363]; with_reducible exact H) | (have H2_ := (Option.bind_some _ _).symm.trans H; rw [hy363]; with_reducible exact H2_) | (have H2_ := (Option.bind_some _ _).symm.trans H; with_reducible exact H2_) | with_reducible exact H | (rw [hy363]; exact H) | exact H
  have Ny363 := Aside0.mk hy363
  clear hy363
  have H' := Aside0.mk H
  clear H
  go_enter Try.func41, Try.ntmps41
  go_wp2_with (first | ((with_reducible refine gate_dst (N := 10) rfl ?_); refine Kd.R_lit k51 _ 51 ?hg (N := 10) ?hd (xs := ([] : List (S51))) (inner := []) (ok := fun _ => True) (okp := fun _ => True) ?hr ?hp (fun _ hk => hk) trivial (Below.refl _ _) (Nat.le_refl _) (by simp) ?_; (case hd => rfl); (case hg => rfl); (case hr => first | (go_simp; done) | (go_simp; rfl)); (case hp => exact (Reps.none _ _)); intro v361 w4 ho5 hb hg_ hnew_; clear hg_ hnew_; (first | rw [← Ny360.out] at ho5 | (simp only [Int.reduceToNat] at ho5; rw [← Ny360.out] at ho5)); have HO362 := Aside0.mk (Kd.R_lower ho5 (below_size hb_)); replace HB := hs_ hb; clear hb ho5) | ((with_reducible refine gate_builtin (b := .append) (xs := #[.tmp 10, .tmp 11]) rfl ?_); at_builtin; refine Kd.R_append_rows k51 (w0 := w) w.heap.size rfl (.tmp 10) (.tmp 11) 22 51 (.agg #[(.int .i64 0), (.int .i64 0), (.int .u64 0), (.int .i64 0)]) 32 rfl Try.underlying22 info51 rfl (by decide) (by omega) v361 y360 l0 _ _ _ (fun _ => True) (fun _ => False) rfl rfl ?aO ?aR (fun _ _ h => h) (fun _ h => h.elim) ?aF ?aB ?aS ?aL ?_; (case aR => repeat (first | exact (Kd.C_below HR0.out HB.out) | (with_reducible refine Kd.C_alloc ?_ _) | (with_reducible refine Kd.C_drewN ?_ _) | (with_reducible refine Kd.C_drew ?_))); (case aB => exact hb_); (case aF => exact (fun _ _ => trivial)); (case aO => exact (by (with_reducible repeat (first | apply Kd.R_alloc | apply Kd.R_drewN | apply Kd.R_drew)); exact HO362.out)); (case aS => exact (below_size hb_)); (case aL => have := LMc3.out; omega); intro v364 w6 ho hb hg hat; rw [← Ny363.out] at ho; have HO365 := Aside0.mk (ho); replace HB := Aside0.mk (hb); clear HO362; clear ho hb hg hat))
  go_loopg [7] k (fun kq v7 w' => ∃ (x6_1 : List (S51)) (x7_1 : Int), v7 = .int .i64 x7_1 ∧ Aside0 (ensembleref05_Less.l0 kq l1 x6_1 x7_1 = some (r1, r2)) ∧ Aside0 (kq ≤ k) ∧ Aside0 (Kd.R k51 51 w' w.heap.size (fun _ => True) v364 x6_1) ∧ Aside0 (Below w.heap.size w w'))
  case atStart => exact ⟨(y363), (0), Z6, H', ⟨Nat.le_refl _⟩, ⟨by (with_reducible repeat (first | apply Kd.R_alloc | apply Kd.R_drewN | apply Kd.R_drew)); exact HO365.out⟩, ⟨hb_⟩⟩
  case round =>
   clear H'
   try clear c1
   try clear p2
   try clear c3
   try clear c4
   obtain ⟨x6_1, x7_1, rfl, HA, HK1, HO_6, HB⟩ := hrel
   cases gk with
   | zero => exact absurd HA.out (by simp [ensembleref05_Less.l0])
   | succ k1 =>
    have H := HA.out
    clear HA
    simp only [ensembleref05_Less.l0] at H
    by_cases c7 : x7_1 < (l1.length : Int)
    ·rw [if_pos c7] at H
     have c7b0 : decide (x7_1 < (l1.length : Int)) = true := decide_eq_true c7
     clear c7
     by_cases c8 : 0 ≤ x7_1
     ·rw [if_pos c8] at H
      have c8b0 : decide (0 ≤ x7_1) = true := decide_eq_true c8
      clear c8
      by_cases c9 : ((rd_T52 l1 x7_1).f2) < 0
      ·rw [if_pos c9] at H
       have c9b0 : decide (((rd_T52 l1 x7_1).f2) < 0) = true := decide_eq_true c9
       clear c9
       simp only [Option.some.injEq, Prod.mk.injEq] at H
       obtain ⟨rfl, rfl⟩ := H
       have p366 : 0 ≤ (x7_1 : Int) := of_decide_eq_true Z1
       have q366 : x7_1 < (l1.length : Int) := of_decide_eq_true Z1
       obtain ⟨ad366, e366, hx366_0, hx366_1, hx366_2, hx366_3⟩ := at_T52 HR1.out x7_1 p366 q366
       cases e366
       replace hx366_0 := cx_ hx366_0
       replace hx366_1 := cx_ hx366_1
       replace hx366_2 := cx_ hx366_2
       replace hx366_3 := cx_ hx366_3
       replace p366 := eq_true p366
       replace q366 := eq_true q366
       go_wp2_with (first | ((with_reducible refine gate_dst (N := 8) rfl ?_); refine bx 8 #[.int .i64 0, .int .i64 0, .int .u64 0, .int .i64 0] 52 ?_; intro gb367 hg w10 hbox hb; have BK367 := Aside0.mk (hbox); have GW367 := ge_ hg; have GE367 := ge_ hg; replace HO_6 := Aside0.mk (Kd.R_below Z9 hb); replace HB := hs_ hb; clear hb hbox hg; obtain ⟨hcz11_0, hcz11_1, hcz11_2, hcz11_3, hfz11_0, hfz11_1, hfz11_2, hfz11_3⟩ := bz4_ BK367))
       go_ret2
       exact ⟨_, by first | rfl | (simp [errW_none, errW_some] <;> rfl) | (simp [*, errW_none, errW_some] <;> rfl), by first | exact Kd.R_nil _ _ _ _ _ | exact Kd.N_nil _ _ _ _ _ | exact Kd.V_nil _ _ _ _ _ | exact Kd.Q_nil _ _ _ _ _ | exact Kd.S_nil _ _ _ _ _, hb_⟩
      ·rw [if_neg c9] at H
       have c9b0 : decide (((rd_T52 l1 x7_1).f2) < 0) = false := decide_eq_false c9
       clear c9
       replace H := Option.bind_eq_some_iff.mp H
       obtain ⟨t368, A120, H⟩ := H
       replace H : (if t368 < 0 then (some (([] : List (S51)), 3)) else (if 0 ≤ t368 then (if t368 < (x6_1.length : Int) then ((ensembleref05_masks.f k1 ((rd_T52 l1 x7_1).f1) ((rd_T51 x6_1 t368).f1)).bind fun t370 => ((ensembleref01_Units.f k1 ((rd_T52 l1 x7_1).f1)).bind fun t371 => (if t370 < (t371.length : Int) then (some (([] : List (S51)), 5)) else (if ((rd_T52 l1 x7_1).f2) > ((rd_T51 x6_1 t368).f2) then (some (([] : List (S51)), 5)) else ((some (x6_1.set (t368 : Int).toNat (⟨(⟨(rd_T51 x6_1 t368).f0.f0, (rd_T51 x6_1 t368).f0.f1⟩ : S48), IntKind.u64.wrap (((rd_T51 x6_1 t368).f1) - ((rd_T52 l1 x7_1).f1)), (rd_T51 x6_1 t368).f2⟩ : S51) : List (S51))).bind fun y376 => (ensembleref05_Less.l0 k1 l1 (y376.set (t368 : Int).toNat (⟨(⟨(rd_T51 y376 t368).f0.f0, (rd_T51 y376 t368).f0.f1⟩ : S48), (rd_T51 y376 t368).f1, wrap64 (((rd_T51 y376 t368).f2) - ((rd_T52 l1 x7_1).f2))⟩ : S51)) (wrap64 (x7_1 + 1)))))))) else (none)) else (none))) = some (r1, r2) := H
       have A12 := Aside0.mk A120
       clear A120
       by_cases c13 : t368 < 0
       ·rw [if_pos c13] at H
        have c13b0 : decide (t368 < 0) = true := decide_eq_true c13
        clear c13
        simp only [Option.some.injEq, Prod.mk.injEq] at H
        obtain ⟨rfl, rfl⟩ := H
        have p366 : 0 ≤ (x7_1 : Int) := of_decide_eq_true Z1
        have q366 : x7_1 < (l1.length : Int) := of_decide_eq_true Z1
        obtain ⟨ad366, e366, hx366_0, hx366_1, hx366_2, hx366_3⟩ := at_T52 HR1.out x7_1 p366 q366
        cases e366
        replace hx366_0 := cx_ hx366_0
        replace hx366_1 := cx_ hx366_1
        replace hx366_2 := cx_ hx366_2
        replace hx366_3 := cx_ hx366_3
        replace p366 := eq_true p366
        replace q366 := eq_true q366
        go_wp2_with (first | ((with_reducible refine gate_dst (N := 8) rfl ?_); refine bx 8 #[.int .i64 0, .int .i64 0, .int .u64 0, .int .i64 0] 52 ?_; intro gb367 hg w14 hbox hb; have BK367 := Aside0.mk (hbox); have GW367 := ge_ hg; have GE367 := ge_ hg; replace HO_6 := Aside0.mk (Kd.R_below Z9 hb); replace HB := hs_ hb; clear hb hbox hg; obtain ⟨hcz15_0, hcz15_1, hcz15_2, hcz15_3, hfz15_0, hfz15_1, hfz15_2, hfz15_3⟩ := bz4_ BK367; obtain ⟨Ao16, co16, eo16⟩ := Kd.R_slice HO_6.out; subst eo16) | ((with_reducible refine gate_callee (f := 79) rfl ?_); refine goesL_ (some 29) rfl rfl Try.func79 (by kernel_rfl) rfl #[.slice Ao16 x6_1.length co16, .agg #[.int .i64 ((rd_T52 l1 x7_1).f0.f0), .int .i64 ((rd_T52 l1 x7_1).f0.f1)]] rfl Z0 ?_; (with_reducible refine (ensembleref05_find.calls k1 _ _ x6_1 ((rd_T52 l1 x7_1).f0.f0) ((rd_T52 l1 x7_1).f0.f1) t368 _ ?side1 ?side2 A12.out).mono ?_); (case side1 => refine (Kd.R_reads' (e := 51) (base := w.heap.size) (ok := fun k_ => True) (n := x6_1.length) (c := co16) ?_).2.2; exact Z4); (case side2 => exact (Kd.R_reads' HO_6.out).2.1); rintro e w17 ⟨rfl, hb⟩; refine ⟨_, rfl, ?_⟩; replace HO_6 := Aside0.mk (Kd.R_below Z4 hb); replace BK367 := Aside0.mk (blk_below (g := gb367) (o := .cells #[.int .i64 ((rd_T52 l1 x7_1).f0.f0), .int .i64 ((rd_T52 l1 x7_1).f0.f1), .int .u64 ((rd_T52 l1 x7_1).f1), .int .i64 ((rd_T52 l1 x7_1).f2)] 52 (0, 0)) (by (with_reducible repeat (first | refine blk_drewN ?_ _ | refine blk_drew ?_ | refine blk_alloc ?_ _)); refine blk_put (cs := #[.int .i64 ((rd_T52 l1 x7_1).f0.f0), .int .i64 ((rd_T52 l1 x7_1).f0.f1), .int .u64 ((rd_T52 l1 x7_1).f1), .int .i64 0]) ?_ 3 _ rfl; (with_reducible repeat (first | refine blk_drewN ?_ _ | refine blk_drew ?_ | refine blk_alloc ?_ _)); refine blk_put (cs := #[.int .i64 ((rd_T52 l1 x7_1).f0.f0), .int .i64 ((rd_T52 l1 x7_1).f0.f1), .int .u64 0, .int .i64 0]) ?_ 2 _ rfl; (with_reducible repeat (first | refine blk_drewN ?_ _ | refine blk_drew ?_ | refine blk_alloc ?_ _)); refine blk_put (cs := #[.int .i64 ((rd_T52 l1 x7_1).f0.f0), .int .i64 0, .int .u64 0, .int .i64 0]) ?_ 1 _ rfl; (with_reducible repeat (first | refine blk_drewN ?_ _ | refine blk_drew ?_ | refine blk_alloc ?_ _)); refine blk_put (cs := #[.int .i64 0, .int .i64 0, .int .u64 0, .int .i64 0]) ?_ 0 _ rfl; (with_reducible repeat (first | refine blk_drewN ?_ _ | refine blk_drew ?_ | refine blk_alloc ?_ _)); exact BK367.out) hb); replace HB := hs_ hb; (try clear hb); (try clear hb2); (try clear hk); (try clear hi)))
        go_ret2
        exact ⟨_, by first | rfl | (simp [errW_none, errW_some] <;> rfl) | (simp [*, errW_none, errW_some] <;> rfl), by first | exact Kd.R_nil _ _ _ _ _ | exact Kd.N_nil _ _ _ _ _ | exact Kd.V_nil _ _ _ _ _ | exact Kd.Q_nil _ _ _ _ _ | exact Kd.S_nil _ _ _ _ _, hb_⟩
       ·rw [if_neg c13] at H
        have c13b0 : decide (t368 < 0) = false := decide_eq_false c13
        clear c13
        by_cases c18 : 0 ≤ t368
        ·rw [if_pos c18] at H
         have c18b0 : decide (0 ≤ t368) = true := decide_eq_true c18
         clear c18
         by_cases c19 : t368 < (x6_1.length : Int)
         ·rw [if_pos c19] at H
          have c19b0 : decide (t368 < (x6_1.length : Int)) = true := decide_eq_true c19
          clear c19
          replace H := Option.bind_eq_some_iff.mp H
          obtain ⟨t370, A200, H⟩ := H
          replace H : ((ensembleref01_Units.f k1 ((rd_T52 l1 x7_1).f1)).bind fun t371 => (if t370 < (t371.length : Int) then (some (([] : List (S51)), 5)) else (if ((rd_T52 l1 x7_1).f2) > ((rd_T51 x6_1 t368).f2) then (some (([] : List (S51)), 5)) else ((some (x6_1.set (t368 : Int).toNat (⟨(⟨(rd_T51 x6_1 t368).f0.f0, (rd_T51 x6_1 t368).f0.f1⟩ : S48), IntKind.u64.wrap (((rd_T51 x6_1 t368).f1) - ((rd_T52 l1 x7_1).f1)), (rd_T51 x6_1 t368).f2⟩ : S51) : List (S51))).bind fun y376 => (ensembleref05_Less.l0 k1 l1 (y376.set (t368 : Int).toNat (⟨(⟨(rd_T51 y376 t368).f0.f0, (rd_T51 y376 t368).f0.f1⟩ : S48), (rd_T51 y376 t368).f1, wrap64 (((rd_T51 y376 t368).f2) - ((rd_T52 l1 x7_1).f2))⟩ : S51)) (wrap64 (x7_1 + 1))))))) = some (r1, r2) := H
          have A20 := Aside0.mk A200
          clear A200
          replace H := Option.bind_eq_some_iff.mp H
          obtain ⟨t371, A210, H⟩ := H
          replace H : (if t370 < (t371.length : Int) then (some (([] : List (S51)), 5)) else (if ((rd_T52 l1 x7_1).f2) > ((rd_T51 x6_1 t368).f2) then (some (([] : List (S51)), 5)) else ((some (x6_1.set (t368 : Int).toNat (⟨(⟨(rd_T51 x6_1 t368).f0.f0, (rd_T51 x6_1 t368).f0.f1⟩ : S48), IntKind.u64.wrap (((rd_T51 x6_1 t368).f1) - ((rd_T52 l1 x7_1).f1)), (rd_T51 x6_1 t368).f2⟩ : S51) : List (S51))).bind fun y376 => (ensembleref05_Less.l0 k1 l1 (y376.set (t368 : Int).toNat (⟨(⟨(rd_T51 y376 t368).f0.f0, (rd_T51 y376 t368).f0.f1⟩ : S48), (rd_T51 y376 t368).f1, wrap64 (((rd_T51 y376 t368).f2) - ((rd_T52 l1 x7_1).f2))⟩ : S51)) (wrap64 (x7_1 + 1)))))) = some (r1, r2) := H
          have A21 := Aside0.mk A210
          clear A210
          by_cases c22 : t370 < (t371.length : Int)
          ·rw [if_pos c22] at H
           have c22b0 : decide (t370 < (t371.length : Int)) = true := decide_eq_true c22
           clear c22
           simp only [Option.some.injEq, Prod.mk.injEq] at H
           obtain ⟨rfl, rfl⟩ := H
           have p366 : 0 ≤ (x7_1 : Int) := of_decide_eq_true Z1
           have q366 : x7_1 < (l1.length : Int) := of_decide_eq_true Z1
           obtain ⟨ad366, e366, hx366_0, hx366_1, hx366_2, hx366_3⟩ := at_T52 HR1.out x7_1 p366 q366
           cases e366
           replace hx366_0 := cx_ hx366_0
           replace hx366_1 := cx_ hx366_1
           replace hx366_2 := cx_ hx366_2
           replace hx366_3 := cx_ hx366_3
           replace p366 := eq_true p366
           replace q366 := eq_true q366
           try go_wp2_with (first | ((with_reducible refine gate_dst (N := 8) rfl ?_); refine bx 8 #[.int .i64 0, .int .i64 0, .int .u64 0, .int .i64 0] 52 ?_; intro gb367 hg w23 hbox hb; have BK367 := Aside0.mk (hbox); have GW367 := ge_ hg; have GE367 := ge_ hg; replace HO_6 := Aside0.mk (Kd.R_below Z9 hb); replace HB := hs_ hb; clear hb hbox hg; obtain ⟨hcz24_0, hcz24_1, hcz24_2, hcz24_3, hfz24_0, hfz24_1, hfz24_2, hfz24_3⟩ := bz4_ BK367; obtain ⟨Ao25, co25, eo25⟩ := Kd.R_slice HO_6.out; subst eo25) | ((with_reducible refine gate_callee (f := 79) rfl ?_); refine goesL_ (some 29) rfl rfl Try.func79 (by kernel_rfl) rfl #[.slice Ao25 x6_1.length co25, .agg #[.int .i64 ((rd_T52 l1 x7_1).f0.f0), .int .i64 ((rd_T52 l1 x7_1).f0.f1)]] rfl Z0 ?_; (with_reducible refine (ensembleref05_find.calls k1 _ _ x6_1 ((rd_T52 l1 x7_1).f0.f0) ((rd_T52 l1 x7_1).f0.f1) t368 _ ?side1 ?side2 A12.out).mono ?_); (case side1 => refine (Kd.R_reads' (e := 51) (base := w.heap.size) (ok := fun k_ => True) (n := x6_1.length) (c := co25) ?_).2.2; exact Z4); (case side2 => exact (Kd.R_reads' HO_6.out).2.1); rintro e w26 ⟨rfl, hb⟩; refine ⟨_, rfl, ?_⟩; replace HO_6 := Aside0.mk (Kd.R_below Z4 hb); replace BK367 := Aside0.mk (blk_below (g := gb367) (o := .cells #[.int .i64 ((rd_T52 l1 x7_1).f0.f0), .int .i64 ((rd_T52 l1 x7_1).f0.f1), .int .u64 ((rd_T52 l1 x7_1).f1), .int .i64 ((rd_T52 l1 x7_1).f2)] 52 (0, 0)) (by (with_reducible repeat (first | refine blk_drewN ?_ _ | refine blk_drew ?_ | refine blk_alloc ?_ _)); refine blk_put (cs := #[.int .i64 ((rd_T52 l1 x7_1).f0.f0), .int .i64 ((rd_T52 l1 x7_1).f0.f1), .int .u64 ((rd_T52 l1 x7_1).f1), .int .i64 0]) ?_ 3 _ rfl; (with_reducible repeat (first | refine blk_drewN ?_ _ | refine blk_drew ?_ | refine blk_alloc ?_ _)); refine blk_put (cs := #[.int .i64 ((rd_T52 l1 x7_1).f0.f0), .int .i64 ((rd_T52 l1 x7_1).f0.f1), .int .u64 0, .int .i64 0]) ?_ 2 _ rfl; (with_reducible repeat (first | refine blk_drewN ?_ _ | refine blk_drew ?_ | refine blk_alloc ?_ _)); refine blk_put (cs := #[.int .i64 ((rd_T52 l1 x7_1).f0.f0), .int .i64 0, .int .u64 0, .int .i64 0]) ?_ 1 _ rfl; (with_reducible repeat (first | refine blk_drewN ?_ _ | refine blk_drew ?_ | refine blk_alloc ?_ _)); refine blk_put (cs := #[.int .i64 0, .int .i64 0, .int .u64 0, .int .i64 0]) ?_ 0 _ rfl; (with_reducible repeat (first | refine blk_drewN ?_ _ | refine blk_drew ?_ | refine blk_alloc ?_ _)); exact BK367.out) hb); replace HB := hs_ hb; (try clear hb); (try clear hb2); (try clear hk); (try clear hi)))
           replace HO_6 := Aside0.mk (Kd.R_drew HO_6.out)
           replace BK367 := Aside0.mk (blk_drew BK367.out)
           replace HB := Aside0.mk (below_drew1 HB.out)
           have p369 : 0 ≤ (t368 : Int) := of_decide_eq_true Z1
           have q369 : t368 < (x6_1.length : Int) := of_decide_eq_true Z1
           obtain ⟨ad369, e369, hx369_0, hx369_1, hx369_2, hx369_3⟩ := at_T51 (Kd.R_reads' HO_6.out).2.2 t368 p369 q369
           cases e369
           replace p369 := eq_true p369
           replace q369 := eq_true q369
           refine start_ (n := 23) (S := fun w' => w'.cell? ⟨gb367, 0, none⟩ = some (.int .i64 ((rd_T52 l1 x7_1).f0.f0)) ∧ w'.cell? ⟨gb367, 1, none⟩ = some (.int .i64 ((rd_T52 l1 x7_1).f0.f1)) ∧ w'.cell? ⟨gb367, 2, none⟩ = some (.int .u64 ((rd_T52 l1 x7_1).f1)) ∧ w'.cell? ⟨gb367, 3, none⟩ = some (.int .i64 ((rd_T52 l1 x7_1).f2)) ∧ w'.cell? (ad369.add ((t368).toNat * 4)) = some (.int .i64 ((rd_T51 x6_1 t368).f0.f0)) ∧ w'.cell? ⟨(ad369.add ((t368).toNat * 4)).block, (ad369.add ((t368).toNat * 4)).off + 1, none⟩ = some (.int .i64 ((rd_T51 x6_1 t368).f0.f1)) ∧ w'.cell? ⟨(ad369.add ((t368).toNat * 4)).block, (ad369.add ((t368).toNat * 4)).off + 2, none⟩ = some (.int .u64 ((rd_T51 x6_1 t368).f1)) ∧ w'.cell? ⟨(ad369.add ((t368).toNat * 4)).block, (ad369.add ((t368).toNat * 4)).off + 3, none⟩ = some (.int .i64 ((rd_T51 x6_1 t368).f2))) (ds := []) (bm 23 0) (by kernel_rfl) rfl rfl ⟨(blk_cell BK367.out 0).trans rfl, (blk_cell BK367.out 1).trans rfl, (blk_cell BK367.out 2).trans rfl, (blk_cell BK367.out 3).trans rfl, hx369_0, hx369_1, hx369_2, hx369_3⟩ (fun hHeld => ?_); refine with_tabW ensembleref05_Less.tab11 ensembleref05_Less.bits11 (fun HT_ HW_ => ?_)
           generalize w26.drew = w27 at HO_6 BK367 HB hx369_0 hx369_1 hx369_2 hx369_3 hHeld ⊢
           refine pu 0 (some 32) (bm 23 1) ?_
           refine pu 2 (some 34) (bm 23 5) ?_
           refine pu 3 (some 35) (bm 23 13) ?_
           refine pu 4 (some 36) (bm 23 29) ?_
           refine pu 5 (some 37) (bm 23 61) ?_
           refine pu 8 (some 40) (bm 23 317) ?_
           refine tk8 1 (some 33) (bm 23 319) ?_
           refine tk8 6 (some 38) (bm 23 383) ?_
           refine tk8 9 (some 41) (bm 23 895) ?_
           refine one_ (i := 7) (N := some 39) (bm 23 1023) rfl rfl (one_of HT_.out (by kernel_rfl)) (by decide) (fun K hK => ?_)
           refine goes_ Try.func80 (by kernel_rfl) rfl #[.int .u64 ((rd_T52 l1 x7_1).f1), .int .u64 ((rd_T51 x6_1 t368).f1)] (by rfl) rfl rfl Z0 ?_
           with_reducible refine (ensembleref05_masks.calls k1 ((rd_T52 l1 x7_1).f1) ((rd_T51 x6_1 t368).f1) t370 _ A20.out).mono ?_
           rintro e w28 ⟨rfl, hb⟩
           have HS4_ := (hb.cell (World.block_lt_of_cell? _ _ (hHeld.2.2.2.2.1))).trans (hHeld.2.2.2.2.1)
           have HS5_ := (hb.cell (World.block_lt_of_cell? _ _ (hHeld.2.2.2.2.2.1))).trans (hHeld.2.2.2.2.2.1)
           have HS6_ := (hb.cell (World.block_lt_of_cell? _ _ (hHeld.2.2.2.2.2.2.1))).trans (hHeld.2.2.2.2.2.2.1)
           have HS7_ := (hb.cell (World.block_lt_of_cell? _ _ (hHeld.2.2.2.2.2.2.2))).trans (hHeld.2.2.2.2.2.2.2)
           refine ⟨_, rfl, ?_⟩
           replace HO_6 := Aside0.mk (Kd.R_below Z9 hb)
           replace BK367 := Aside0.mk (blk_below (g := gb367) (o := .cells #[.int .i64 ((rd_T52 l1 x7_1).f0.f0), .int .i64 ((rd_T52 l1 x7_1).f0.f1), .int .u64 ((rd_T52 l1 x7_1).f1), .int .i64 ((rd_T52 l1 x7_1).f2)] 52 (0, 0)) (bo_ BK367) hb)
           replace HB := hs_ hb
           (try clear hb)
           (try clear hb2)
           (try clear hk)
           (try clear hi)
           refine hK.out _ _ ⟨(blk_cell BK367.out 0).trans rfl, (blk_cell BK367.out 1).trans rfl, (blk_cell BK367.out 2).trans rfl, (blk_cell BK367.out 3).trans rfl, HS4_, HS5_, HS6_, HS7_⟩ (fun hHeld => ?_)
           clear hK K
           refine norm_ (a' := ?_) ?_ ?_
           rotate_left
           ·show Act.put _ (some 39) _ = _
            simp only [Act.put, List.setIfInBounds_toArray, List.set_cons_zero, List.set_cons_succ, i64_w, i32_w]
            rfl
           refine one_ (i := 10) (N := some 42) (bm 23 2047) rfl rfl (one_of HT_.out (by kernel_rfl)) (by decide) (fun K hK => ?_)
           refine goes_ Try.func82 (by kernel_rfl) rfl #[.int .u64 ((rd_T52 l1 x7_1).f1)] (by rfl) rfl rfl Z0 ?_
           with_reducible refine (ensembleref01_Units.calls k1 ((rd_T52 l1 x7_1).f1) t371 _ A21.out).mono ?_
           rintro e w29 ⟨v372, rfl, ho0, hb⟩
           have HS4_ := (hb.cell (World.block_lt_of_cell? _ _ (hHeld.2.2.2.2.1))).trans (hHeld.2.2.2.2.1)
           have HS5_ := (hb.cell (World.block_lt_of_cell? _ _ (hHeld.2.2.2.2.2.1))).trans (hHeld.2.2.2.2.2.1)
           have HS6_ := (hb.cell (World.block_lt_of_cell? _ _ (hHeld.2.2.2.2.2.2.1))).trans (hHeld.2.2.2.2.2.2.1)
           have HS7_ := (hb.cell (World.block_lt_of_cell? _ _ (hHeld.2.2.2.2.2.2.2))).trans (hHeld.2.2.2.2.2.2.2)
           refine ⟨_, rfl, ?_⟩
           have HO373 := Aside0.mk (Kd.R_lower ho0 (below_size hb_))
           replace HO_6 := Aside0.mk (Kd.R_below Z9 hb)
           replace BK367 := Aside0.mk (blk_below (g := gb367) (o := .cells #[.int .i64 ((rd_T52 l1 x7_1).f0.f0), .int .i64 ((rd_T52 l1 x7_1).f0.f1), .int .u64 ((rd_T52 l1 x7_1).f1), .int .i64 ((rd_T52 l1 x7_1).f2)] 52 (0, 0)) (bo_ BK367) hb)
           replace HB := hs_ hb
           (try clear hb)
           (try clear hb2)
           (try clear hk)
           (try clear hi)
           (try clear ho0)
           obtain ⟨Ao30, co30, eo30⟩ := Kd.R_slice HO373.out
           (first | subst eo30 | (injection eo30 with f1_ f2_ f3_; have f4_ := f1_.symm; have f5_ := f3_.symm; clear f1_ f2_ f3_; subst f4_; subst f5_))
           refine hK.out _ _ ⟨(blk_cell BK367.out 0).trans rfl, (blk_cell BK367.out 1).trans rfl, (blk_cell BK367.out 2).trans rfl, (blk_cell BK367.out 3).trans rfl, HS4_, HS5_, HS6_, HS7_⟩ (fun hHeld => ?_)
           clear hK K
           refine norm_ (a' := ?_) ?_ ?_
           rotate_left
           ·show Act.put _ (some 42) _ = _
            simp only [Act.put, List.setIfInBounds_toArray, List.set_cons_zero, List.set_cons_succ, i64_w, i32_w]
            rfl
           refine pu 11 (some 43) (bm 23 4095) ?_
           refine pu 12 (some 44) (bm 23 8191) ?_
           refine pu 13 (some 45) (bm 23 16383) ?_
           refine pv 14 (some 46) (bm 23 32767) ?_
           refine pv 15 (some 47) (bm 23 65535) ?_
           refine pv 16 (some 48) (bm 23 131071) ?_
           refine pv 17 (some 49) (bm 23 262143) ?_
           refine pv 18 (some 50) (bm 23 524287) ?_
           refine pv 19 (some 51) (bm 23 1048575) ?_
           refine pv 20 (some 52) (bm 23 2097151) ?_
           refine pv 21 (some 53) (bm 23 4194303) ?_
           refine pu 22 (some 54) (bm 23 8388607) ?_
           refine done_ (done_of HT_.out (by kernel_rfl)) ?_
           try go_wp2
           go_ret2
           exact ⟨_, by first | rfl | (simp [errW_none, errW_some] <;> rfl) | (simp [*, errW_none, errW_some] <;> rfl), by first | exact Kd.R_nil _ _ _ _ _ | exact Kd.N_nil _ _ _ _ _ | exact Kd.V_nil _ _ _ _ _ | exact Kd.Q_nil _ _ _ _ _ | exact Kd.S_nil _ _ _ _ _, hb_⟩
          ·rw [if_neg c22] at H
           have c22b0 : decide (t370 < (t371.length : Int)) = false := decide_eq_false c22
           clear c22
           by_cases c31 : ((rd_T52 l1 x7_1).f2) > ((rd_T51 x6_1 t368).f2)
           ·rw [if_pos c31] at H
            have c31b0 : decide (((rd_T51 x6_1 t368).f2) < ((rd_T52 l1 x7_1).f2)) = true := decide_eq_true c31
            clear c31
            simp only [Option.some.injEq, Prod.mk.injEq] at H
            obtain ⟨rfl, rfl⟩ := H
            have p366 : 0 ≤ (x7_1 : Int) := of_decide_eq_true Z1
            have q366 : x7_1 < (l1.length : Int) := of_decide_eq_true Z1
            obtain ⟨ad366, e366, hx366_0, hx366_1, hx366_2, hx366_3⟩ := at_T52 HR1.out x7_1 p366 q366
            cases e366
            replace hx366_0 := cx_ hx366_0
            replace hx366_1 := cx_ hx366_1
            replace hx366_2 := cx_ hx366_2
            replace hx366_3 := cx_ hx366_3
            replace p366 := eq_true p366
            replace q366 := eq_true q366
            try go_wp2_with (first | ((with_reducible refine gate_dst (N := 8) rfl ?_); refine bx 8 #[.int .i64 0, .int .i64 0, .int .u64 0, .int .i64 0] 52 ?_; intro gb367 hg w32 hbox hb; have BK367 := Aside0.mk (hbox); have GW367 := ge_ hg; have GE367 := ge_ hg; replace HO_6 := Aside0.mk (Kd.R_below Z9 hb); replace HB := hs_ hb; clear hb hbox hg; obtain ⟨hcz33_0, hcz33_1, hcz33_2, hcz33_3, hfz33_0, hfz33_1, hfz33_2, hfz33_3⟩ := bz4_ BK367; obtain ⟨Ao34, co34, eo34⟩ := Kd.R_slice HO_6.out; subst eo34) | ((with_reducible refine gate_callee (f := 79) rfl ?_); refine goesL_ (some 29) rfl rfl Try.func79 (by kernel_rfl) rfl #[.slice Ao34 x6_1.length co34, .agg #[.int .i64 ((rd_T52 l1 x7_1).f0.f0), .int .i64 ((rd_T52 l1 x7_1).f0.f1)]] rfl Z0 ?_; (with_reducible refine (ensembleref05_find.calls k1 _ _ x6_1 ((rd_T52 l1 x7_1).f0.f0) ((rd_T52 l1 x7_1).f0.f1) t368 _ ?side1 ?side2 A12.out).mono ?_); (case side1 => refine (Kd.R_reads' (e := 51) (base := w.heap.size) (ok := fun k_ => True) (n := x6_1.length) (c := co34) ?_).2.2; exact Z4); (case side2 => exact (Kd.R_reads' HO_6.out).2.1); rintro e w35 ⟨rfl, hb⟩; refine ⟨_, rfl, ?_⟩; replace HO_6 := Aside0.mk (Kd.R_below Z4 hb); replace BK367 := Aside0.mk (blk_below (g := gb367) (o := .cells #[.int .i64 ((rd_T52 l1 x7_1).f0.f0), .int .i64 ((rd_T52 l1 x7_1).f0.f1), .int .u64 ((rd_T52 l1 x7_1).f1), .int .i64 ((rd_T52 l1 x7_1).f2)] 52 (0, 0)) (by (with_reducible repeat (first | refine blk_drewN ?_ _ | refine blk_drew ?_ | refine blk_alloc ?_ _)); refine blk_put (cs := #[.int .i64 ((rd_T52 l1 x7_1).f0.f0), .int .i64 ((rd_T52 l1 x7_1).f0.f1), .int .u64 ((rd_T52 l1 x7_1).f1), .int .i64 0]) ?_ 3 _ rfl; (with_reducible repeat (first | refine blk_drewN ?_ _ | refine blk_drew ?_ | refine blk_alloc ?_ _)); refine blk_put (cs := #[.int .i64 ((rd_T52 l1 x7_1).f0.f0), .int .i64 ((rd_T52 l1 x7_1).f0.f1), .int .u64 0, .int .i64 0]) ?_ 2 _ rfl; (with_reducible repeat (first | refine blk_drewN ?_ _ | refine blk_drew ?_ | refine blk_alloc ?_ _)); refine blk_put (cs := #[.int .i64 ((rd_T52 l1 x7_1).f0.f0), .int .i64 0, .int .u64 0, .int .i64 0]) ?_ 1 _ rfl; (with_reducible repeat (first | refine blk_drewN ?_ _ | refine blk_drew ?_ | refine blk_alloc ?_ _)); refine blk_put (cs := #[.int .i64 0, .int .i64 0, .int .u64 0, .int .i64 0]) ?_ 0 _ rfl; (with_reducible repeat (first | refine blk_drewN ?_ _ | refine blk_drew ?_ | refine blk_alloc ?_ _)); exact BK367.out) hb); replace HB := hs_ hb; (try clear hb); (try clear hb2); (try clear hk); (try clear hi)))
            replace HO_6 := Aside0.mk (Kd.R_drew HO_6.out)
            replace BK367 := Aside0.mk (blk_drew BK367.out)
            replace HB := Aside0.mk (below_drew1 HB.out)
            have p369 : 0 ≤ (t368 : Int) := of_decide_eq_true Z1
            have q369 : t368 < (x6_1.length : Int) := of_decide_eq_true Z1
            obtain ⟨ad369, e369, hx369_0, hx369_1, hx369_2, hx369_3⟩ := at_T51 (Kd.R_reads' HO_6.out).2.2 t368 p369 q369
            cases e369
            replace p369 := eq_true p369
            replace q369 := eq_true q369
            have p374 : 0 ≤ (t368 : Int) := of_decide_eq_true Z1
            have q374 : t368 < (x6_1.length : Int) := of_decide_eq_true Z1
            obtain ⟨ad374, e374, hx374_0, hx374_1, hx374_2, hx374_3⟩ := at_T51 (Kd.R_reads' HO_6.out).2.2 t368 p374 q374
            obtain rfl : ad369 = ad374 := (by injection e374)
            replace p374 := eq_true p374
            replace q374 := eq_true q374
            refine start_ (n := 23) (S := fun w' => w'.cell? ⟨gb367, 0, none⟩ = some (.int .i64 ((rd_T52 l1 x7_1).f0.f0)) ∧ w'.cell? ⟨gb367, 1, none⟩ = some (.int .i64 ((rd_T52 l1 x7_1).f0.f1)) ∧ w'.cell? ⟨gb367, 2, none⟩ = some (.int .u64 ((rd_T52 l1 x7_1).f1)) ∧ w'.cell? ⟨gb367, 3, none⟩ = some (.int .i64 ((rd_T52 l1 x7_1).f2)) ∧ w'.cell? (ad369.add ((t368).toNat * 4)) = some (.int .i64 ((rd_T51 x6_1 t368).f0.f0)) ∧ w'.cell? ⟨(ad369.add ((t368).toNat * 4)).block, (ad369.add ((t368).toNat * 4)).off + 1, none⟩ = some (.int .i64 ((rd_T51 x6_1 t368).f0.f1)) ∧ w'.cell? ⟨(ad369.add ((t368).toNat * 4)).block, (ad369.add ((t368).toNat * 4)).off + 2, none⟩ = some (.int .u64 ((rd_T51 x6_1 t368).f1)) ∧ w'.cell? ⟨(ad369.add ((t368).toNat * 4)).block, (ad369.add ((t368).toNat * 4)).off + 3, none⟩ = some (.int .i64 ((rd_T51 x6_1 t368).f2)) ∧ w'.cell? (ad369.add ((t368).toNat * 4)) = some (.int .i64 ((rd_T51 x6_1 t368).f0.f0)) ∧ w'.cell? ⟨(ad369.add ((t368).toNat * 4)).block, (ad369.add ((t368).toNat * 4)).off + 1, none⟩ = some (.int .i64 ((rd_T51 x6_1 t368).f0.f1)) ∧ w'.cell? ⟨(ad369.add ((t368).toNat * 4)).block, (ad369.add ((t368).toNat * 4)).off + 2, none⟩ = some (.int .u64 ((rd_T51 x6_1 t368).f1)) ∧ w'.cell? ⟨(ad369.add ((t368).toNat * 4)).block, (ad369.add ((t368).toNat * 4)).off + 3, none⟩ = some (.int .i64 ((rd_T51 x6_1 t368).f2))) (ds := []) (bm 23 0) (by kernel_rfl) rfl rfl ⟨(blk_cell BK367.out 0).trans rfl, (blk_cell BK367.out 1).trans rfl, (blk_cell BK367.out 2).trans rfl, (blk_cell BK367.out 3).trans rfl, hx369_0, hx369_1, hx369_2, hx369_3, hx374_0, hx374_1, hx374_2, hx374_3⟩ (fun hHeld => ?_); refine with_tabW ensembleref05_Less.tab11 ensembleref05_Less.bits11 (fun HT_ HW_ => ?_)
            generalize w35.drew = w36 at HO_6 BK367 HB hx369_0 hx369_1 hx369_2 hx369_3 hx374_0 hx374_1 hx374_2 hx374_3 hHeld ⊢
            refine pu 0 (some 32) (bm 23 1) ?_
            refine pu 2 (some 34) (bm 23 5) ?_
            refine pu 3 (some 35) (bm 23 13) ?_
            refine pu 4 (some 36) (bm 23 29) ?_
            refine pu 5 (some 37) (bm 23 61) ?_
            refine pu 8 (some 40) (bm 23 317) ?_
            refine tk12 1 (some 33) (bm 23 319) ?_
            refine tk12 6 (some 38) (bm 23 383) ?_
            refine tk12 9 (some 41) (bm 23 895) ?_
            refine one_ (i := 7) (N := some 39) (bm 23 1023) rfl rfl (one_of HT_.out (by kernel_rfl)) (by decide) (fun K hK => ?_)
            refine goes_ Try.func80 (by kernel_rfl) rfl #[.int .u64 ((rd_T52 l1 x7_1).f1), .int .u64 ((rd_T51 x6_1 t368).f1)] (by rfl) rfl rfl Z0 ?_
            with_reducible refine (ensembleref05_masks.calls k1 ((rd_T52 l1 x7_1).f1) ((rd_T51 x6_1 t368).f1) t370 _ A20.out).mono ?_
            rintro e w37 ⟨rfl, hb⟩
            have HS4_ := (hb.cell (World.block_lt_of_cell? _ _ (hHeld.2.2.2.2.1))).trans (hHeld.2.2.2.2.1)
            have HS5_ := (hb.cell (World.block_lt_of_cell? _ _ (hHeld.2.2.2.2.2.1))).trans (hHeld.2.2.2.2.2.1)
            have HS6_ := (hb.cell (World.block_lt_of_cell? _ _ (hHeld.2.2.2.2.2.2.1))).trans (hHeld.2.2.2.2.2.2.1)
            have HS7_ := (hb.cell (World.block_lt_of_cell? _ _ (hHeld.2.2.2.2.2.2.2.1))).trans (hHeld.2.2.2.2.2.2.2.1)
            have HS8_ := (hb.cell (World.block_lt_of_cell? _ _ (hHeld.2.2.2.2.2.2.2.2.1))).trans (hHeld.2.2.2.2.2.2.2.2.1)
            have HS9_ := (hb.cell (World.block_lt_of_cell? _ _ (hHeld.2.2.2.2.2.2.2.2.2.1))).trans (hHeld.2.2.2.2.2.2.2.2.2.1)
            have HS10_ := (hb.cell (World.block_lt_of_cell? _ _ (hHeld.2.2.2.2.2.2.2.2.2.2.1))).trans (hHeld.2.2.2.2.2.2.2.2.2.2.1)
            have HS11_ := (hb.cell (World.block_lt_of_cell? _ _ (hHeld.2.2.2.2.2.2.2.2.2.2.2))).trans (hHeld.2.2.2.2.2.2.2.2.2.2.2)
            refine ⟨_, rfl, ?_⟩
            replace HO_6 := Aside0.mk (Kd.R_below Z9 hb)
            replace BK367 := Aside0.mk (blk_below (g := gb367) (o := .cells #[.int .i64 ((rd_T52 l1 x7_1).f0.f0), .int .i64 ((rd_T52 l1 x7_1).f0.f1), .int .u64 ((rd_T52 l1 x7_1).f1), .int .i64 ((rd_T52 l1 x7_1).f2)] 52 (0, 0)) (bo_ BK367) hb)
            replace HB := hs_ hb
            (try clear hb)
            (try clear hb2)
            (try clear hk)
            (try clear hi)
            refine hK.out _ _ ⟨(blk_cell BK367.out 0).trans rfl, (blk_cell BK367.out 1).trans rfl, (blk_cell BK367.out 2).trans rfl, (blk_cell BK367.out 3).trans rfl, HS4_, HS5_, HS6_, HS7_, HS8_, HS9_, HS10_, HS11_⟩ (fun hHeld => ?_)
            clear hK K
            refine norm_ (a' := ?_) ?_ ?_
            rotate_left
            ·show Act.put _ (some 39) _ = _
             simp only [Act.put, List.setIfInBounds_toArray, List.set_cons_zero, List.set_cons_succ, i64_w, i32_w]
             rfl
            refine one_ (i := 10) (N := some 42) (bm 23 2047) rfl rfl (one_of HT_.out (by kernel_rfl)) (by decide) (fun K hK => ?_)
            refine goes_ Try.func82 (by kernel_rfl) rfl #[.int .u64 ((rd_T52 l1 x7_1).f1)] (by rfl) rfl rfl Z0 ?_
            with_reducible refine (ensembleref01_Units.calls k1 ((rd_T52 l1 x7_1).f1) t371 _ A21.out).mono ?_
            rintro e w38 ⟨v372, rfl, ho0, hb⟩
            have HS4_ := (hb.cell (World.block_lt_of_cell? _ _ (hHeld.2.2.2.2.1))).trans (hHeld.2.2.2.2.1)
            have HS5_ := (hb.cell (World.block_lt_of_cell? _ _ (hHeld.2.2.2.2.2.1))).trans (hHeld.2.2.2.2.2.1)
            have HS6_ := (hb.cell (World.block_lt_of_cell? _ _ (hHeld.2.2.2.2.2.2.1))).trans (hHeld.2.2.2.2.2.2.1)
            have HS7_ := (hb.cell (World.block_lt_of_cell? _ _ (hHeld.2.2.2.2.2.2.2.1))).trans (hHeld.2.2.2.2.2.2.2.1)
            have HS8_ := (hb.cell (World.block_lt_of_cell? _ _ (hHeld.2.2.2.2.2.2.2.2.1))).trans (hHeld.2.2.2.2.2.2.2.2.1)
            have HS9_ := (hb.cell (World.block_lt_of_cell? _ _ (hHeld.2.2.2.2.2.2.2.2.2.1))).trans (hHeld.2.2.2.2.2.2.2.2.2.1)
            have HS10_ := (hb.cell (World.block_lt_of_cell? _ _ (hHeld.2.2.2.2.2.2.2.2.2.2.1))).trans (hHeld.2.2.2.2.2.2.2.2.2.2.1)
            have HS11_ := (hb.cell (World.block_lt_of_cell? _ _ (hHeld.2.2.2.2.2.2.2.2.2.2.2))).trans (hHeld.2.2.2.2.2.2.2.2.2.2.2)
            refine ⟨_, rfl, ?_⟩
            have HO373 := Aside0.mk (Kd.R_lower ho0 (below_size hb_))
            replace HO_6 := Aside0.mk (Kd.R_below Z9 hb)
            replace BK367 := Aside0.mk (blk_below (g := gb367) (o := .cells #[.int .i64 ((rd_T52 l1 x7_1).f0.f0), .int .i64 ((rd_T52 l1 x7_1).f0.f1), .int .u64 ((rd_T52 l1 x7_1).f1), .int .i64 ((rd_T52 l1 x7_1).f2)] 52 (0, 0)) (bo_ BK367) hb)
            replace HB := hs_ hb
            (try clear hb)
            (try clear hb2)
            (try clear hk)
            (try clear hi)
            (try clear ho0)
            obtain ⟨Ao39, co39, eo39⟩ := Kd.R_slice HO373.out
            (first | subst eo39 | (injection eo39 with f1_ f2_ f3_; have f4_ := f1_.symm; have f5_ := f3_.symm; clear f1_ f2_ f3_; subst f4_; subst f5_))
            refine hK.out _ _ ⟨(blk_cell BK367.out 0).trans rfl, (blk_cell BK367.out 1).trans rfl, (blk_cell BK367.out 2).trans rfl, (blk_cell BK367.out 3).trans rfl, HS4_, HS5_, HS6_, HS7_, HS8_, HS9_, HS10_, HS11_⟩ (fun hHeld => ?_)
            clear hK K
            refine norm_ (a' := ?_) ?_ ?_
            rotate_left
            ·show Act.put _ (some 42) _ = _
             simp only [Act.put, List.setIfInBounds_toArray, List.set_cons_zero, List.set_cons_succ, i64_w, i32_w]
             rfl
            refine pu 11 (some 43) (bm 23 4095) ?_
            refine pu 12 (some 44) (bm 23 8191) ?_
            refine pu 13 (some 45) (bm 23 16383) ?_
            refine pu 14 (some 46) (bm 23 32767) ?_
            refine pu 16 (some 48) (bm 23 98303) ?_
            refine pu 17 (some 49) (bm 23 229375) ?_
            refine pu 18 (some 50) (bm 23 491519) ?_
            refine pu 19 (some 51) (bm 23 1015807) ?_
            refine tk12 15 (some 47) (bm 23 1048575) ?_
            refine tk12 20 (some 52) (bm 23 2097151) ?_
            refine pu 21 (some 53) (bm 23 4194303) ?_
            refine pu 22 (some 54) (bm 23 8388607) ?_
            refine done_ (done_of HT_.out (by kernel_rfl)) ?_
            try go_wp2
            go_ret2
            exact ⟨_, by first | rfl | (simp [errW_none, errW_some] <;> rfl) | (simp [*, errW_none, errW_some] <;> rfl), by first | exact Kd.R_nil _ _ _ _ _ | exact Kd.N_nil _ _ _ _ _ | exact Kd.V_nil _ _ _ _ _ | exact Kd.Q_nil _ _ _ _ _ | exact Kd.S_nil _ _ _ _ _, hb_⟩
           ·rw [if_neg c31] at H
            have c31b0 : decide (((rd_T51 x6_1 t368).f2) < ((rd_T52 l1 x7_1).f2)) = false := decide_eq_false c31
            clear c31
            obtain ⟨y376, hy376⟩ : ∃ y_ : List (S51), y_ = (x6_1.set (t368 : Int).toNat (⟨(⟨(rd_T51 x6_1 t368).f0.f0, (rd_T51 x6_1 t368).f0.f1⟩ : S48), IntKind.u64.wrap (((rd_T51 x6_1 t368).f1) - ((rd_T52 l1 x7_1).f1)), (rd_T51 x6_1 t368).f2⟩ : S51)) := ⟨_, rfl⟩
            replace H : (ensembleref05_Less.l0 k1 l1 (y376.set (t368 : Int).toNat (⟨(⟨(rd_T51 y376 t368).f0.f0, (rd_T51 y376 t368).f0.f1⟩ : S48), (rd_T51 y376 t368).f1, wrap64 (((rd_T51 y376 t368).f2) - ((rd_T52 l1 x7_1).f2))⟩ : S51)) (wrap64 (x7_1 + 1))) = some (r1, r2) := by first | (rw [hy376]; with_reducible exact H) | (have H2_ := (Option.bind_some _ _).symm.trans H; rw [hy376]; with_reducible exact H2_) | (have H2_ := (Option.bind_some _ _).symm.trans H; with_reducible exact H2_) | with_reducible exact H | (rw [hy376]; exact H) | exact H
            have Ny376 := Aside0.mk hy376
            clear hy376
            obtain ⟨y378, hy378⟩ : ∃ y_ : List (S51), y_ = (y376.set (t368 : Int).toNat (⟨(⟨(rd_T51 y376 t368).f0.f0, (rd_T51 y376 t368).f0.f1⟩ : S48), (rd_T51 y376 t368).f1, wrap64 (((rd_T51 y376 t368).f2) - ((rd_T52 l1 x7_1).f2))⟩ : S51)) := ⟨_, rfl⟩
            replace H : (ensembleref05_Less.l0 k1 l1 y378 (wrap64 (x7_1 + 1))) = some (r1, r2) := by first | (rw [hy378]; with_reducible exact H) | (have H2_ := (Option.bind_some _ _).symm.trans H; rw [hy378]; with_reducible exact H2_) | (have H2_ := (Option.bind_some _ _).symm.trans H; with_reducible exact H2_) | with_reducible exact H | (rw [hy378]; exact H) | exact H
            have Ny378 := Aside0.mk hy378
            clear hy378
            have H' := Aside0.mk H
            clear H
            have p366 : 0 ≤ (x7_1 : Int) := of_decide_eq_true Z1
            have q366 : x7_1 < (l1.length : Int) := of_decide_eq_true Z1
            obtain ⟨ad366, e366, hx366_0, hx366_1, hx366_2, hx366_3⟩ := at_T52 HR1.out x7_1 p366 q366
            cases e366
            replace hx366_0 := cx_ hx366_0
            replace hx366_1 := cx_ hx366_1
            replace hx366_2 := cx_ hx366_2
            replace hx366_3 := cx_ hx366_3
            replace p366 := eq_true p366
            replace q366 := eq_true q366
            try go_wp2_with (first | ((with_reducible refine gate_dst (N := 8) rfl ?_); refine bx 8 #[.int .i64 0, .int .i64 0, .int .u64 0, .int .i64 0] 52 ?_; intro gb367 hg w42 hbox hb; have BK367 := Aside0.mk (hbox); have GW367 := ge_ hg; have GE367 := ge_ hg; replace HO_6 := Aside0.mk (Kd.R_below Z9 hb); replace HB := hs_ hb; clear hb hbox hg; obtain ⟨hcz43_0, hcz43_1, hcz43_2, hcz43_3, hfz43_0, hfz43_1, hfz43_2, hfz43_3⟩ := bz4_ BK367; obtain ⟨Ao44, co44, eo44⟩ := Kd.R_slice HO_6.out; subst eo44) | ((with_reducible refine gate_callee (f := 79) rfl ?_); refine goesL_ (some 29) rfl rfl Try.func79 (by kernel_rfl) rfl #[.slice Ao44 x6_1.length co44, .agg #[.int .i64 ((rd_T52 l1 x7_1).f0.f0), .int .i64 ((rd_T52 l1 x7_1).f0.f1)]] rfl Z0 ?_; (with_reducible refine (ensembleref05_find.calls k1 _ _ x6_1 ((rd_T52 l1 x7_1).f0.f0) ((rd_T52 l1 x7_1).f0.f1) t368 _ ?side1 ?side2 A12.out).mono ?_); (case side1 => refine (Kd.R_reads' (e := 51) (base := w.heap.size) (ok := fun k_ => True) (n := x6_1.length) (c := co44) ?_).2.2; exact Z4); (case side2 => exact (Kd.R_reads' HO_6.out).2.1); rintro e w45 ⟨rfl, hb⟩; refine ⟨_, rfl, ?_⟩; replace HO_6 := Aside0.mk (Kd.R_below Z4 hb); replace BK367 := Aside0.mk (blk_below (g := gb367) (o := .cells #[.int .i64 ((rd_T52 l1 x7_1).f0.f0), .int .i64 ((rd_T52 l1 x7_1).f0.f1), .int .u64 ((rd_T52 l1 x7_1).f1), .int .i64 ((rd_T52 l1 x7_1).f2)] 52 (0, 0)) (by (with_reducible repeat (first | refine blk_drewN ?_ _ | refine blk_drew ?_ | refine blk_alloc ?_ _)); refine blk_put (cs := #[.int .i64 ((rd_T52 l1 x7_1).f0.f0), .int .i64 ((rd_T52 l1 x7_1).f0.f1), .int .u64 ((rd_T52 l1 x7_1).f1), .int .i64 0]) ?_ 3 _ rfl; (with_reducible repeat (first | refine blk_drewN ?_ _ | refine blk_drew ?_ | refine blk_alloc ?_ _)); refine blk_put (cs := #[.int .i64 ((rd_T52 l1 x7_1).f0.f0), .int .i64 ((rd_T52 l1 x7_1).f0.f1), .int .u64 0, .int .i64 0]) ?_ 2 _ rfl; (with_reducible repeat (first | refine blk_drewN ?_ _ | refine blk_drew ?_ | refine blk_alloc ?_ _)); refine blk_put (cs := #[.int .i64 ((rd_T52 l1 x7_1).f0.f0), .int .i64 0, .int .u64 0, .int .i64 0]) ?_ 1 _ rfl; (with_reducible repeat (first | refine blk_drewN ?_ _ | refine blk_drew ?_ | refine blk_alloc ?_ _)); refine blk_put (cs := #[.int .i64 0, .int .i64 0, .int .u64 0, .int .i64 0]) ?_ 0 _ rfl; (with_reducible repeat (first | refine blk_drewN ?_ _ | refine blk_drew ?_ | refine blk_alloc ?_ _)); exact BK367.out) hb); replace HB := hs_ hb; (try clear hb); (try clear hb2); (try clear hk); (try clear hi)))
            replace HO_6 := Aside0.mk (Kd.R_drew HO_6.out)
            replace BK367 := Aside0.mk (blk_drew BK367.out)
            replace HB := Aside0.mk (below_drew1 HB.out)
            have p369 : 0 ≤ (t368 : Int) := of_decide_eq_true Z1
            have q369 : t368 < (x6_1.length : Int) := of_decide_eq_true Z1
            obtain ⟨ad369, e369, hx369_0, hx369_1, hx369_2, hx369_3⟩ := at_T51 (Kd.R_reads' HO_6.out).2.2 t368 p369 q369
            cases e369
            replace p369 := eq_true p369
            replace q369 := eq_true q369
            have p374 : 0 ≤ (t368 : Int) := of_decide_eq_true Z1
            have q374 : t368 < (x6_1.length : Int) := of_decide_eq_true Z1
            obtain ⟨ad374, e374, hx374_0, hx374_1, hx374_2, hx374_3⟩ := at_T51 (Kd.R_reads' HO_6.out).2.2 t368 p374 q374
            obtain rfl : ad369 = ad374 := (by injection e374)
            replace p374 := eq_true p374
            replace q374 := eq_true q374
            refine start_ (n := 23) (S := fun w' => w'.cell? ⟨gb367, 0, none⟩ = some (.int .i64 ((rd_T52 l1 x7_1).f0.f0)) ∧ w'.cell? ⟨gb367, 1, none⟩ = some (.int .i64 ((rd_T52 l1 x7_1).f0.f1)) ∧ w'.cell? ⟨gb367, 2, none⟩ = some (.int .u64 ((rd_T52 l1 x7_1).f1)) ∧ w'.cell? ⟨gb367, 3, none⟩ = some (.int .i64 ((rd_T52 l1 x7_1).f2)) ∧ w'.cell? (ad369.add ((t368).toNat * 4)) = some (.int .i64 ((rd_T51 x6_1 t368).f0.f0)) ∧ w'.cell? ⟨(ad369.add ((t368).toNat * 4)).block, (ad369.add ((t368).toNat * 4)).off + 1, none⟩ = some (.int .i64 ((rd_T51 x6_1 t368).f0.f1)) ∧ w'.cell? ⟨(ad369.add ((t368).toNat * 4)).block, (ad369.add ((t368).toNat * 4)).off + 2, none⟩ = some (.int .u64 ((rd_T51 x6_1 t368).f1)) ∧ w'.cell? ⟨(ad369.add ((t368).toNat * 4)).block, (ad369.add ((t368).toNat * 4)).off + 3, none⟩ = some (.int .i64 ((rd_T51 x6_1 t368).f2)) ∧ w'.cell? (ad369.add ((t368).toNat * 4)) = some (.int .i64 ((rd_T51 x6_1 t368).f0.f0)) ∧ w'.cell? ⟨(ad369.add ((t368).toNat * 4)).block, (ad369.add ((t368).toNat * 4)).off + 1, none⟩ = some (.int .i64 ((rd_T51 x6_1 t368).f0.f1)) ∧ w'.cell? ⟨(ad369.add ((t368).toNat * 4)).block, (ad369.add ((t368).toNat * 4)).off + 2, none⟩ = some (.int .u64 ((rd_T51 x6_1 t368).f1)) ∧ w'.cell? ⟨(ad369.add ((t368).toNat * 4)).block, (ad369.add ((t368).toNat * 4)).off + 3, none⟩ = some (.int .i64 ((rd_T51 x6_1 t368).f2))) (ds := []) (bm 23 0) (by kernel_rfl) rfl rfl ⟨(blk_cell BK367.out 0).trans rfl, (blk_cell BK367.out 1).trans rfl, (blk_cell BK367.out 2).trans rfl, (blk_cell BK367.out 3).trans rfl, hx369_0, hx369_1, hx369_2, hx369_3, hx374_0, hx374_1, hx374_2, hx374_3⟩ (fun hHeld => ?_); refine with_tabW ensembleref05_Less.tab11 ensembleref05_Less.bits11 (fun HT_ HW_ => ?_)
            generalize w45.drew = w46 at HO_6 BK367 HB hx369_0 hx369_1 hx369_2 hx369_3 hx374_0 hx374_1 hx374_2 hx374_3 hHeld ⊢
            refine pu 0 (some 32) (bm 23 1) ?_
            refine pu 2 (some 34) (bm 23 5) ?_
            refine pu 3 (some 35) (bm 23 13) ?_
            refine pu 4 (some 36) (bm 23 29) ?_
            refine pu 5 (some 37) (bm 23 61) ?_
            refine pu 8 (some 40) (bm 23 317) ?_
            refine tk12 1 (some 33) (bm 23 319) ?_
            refine tk12 6 (some 38) (bm 23 383) ?_
            refine tk12 9 (some 41) (bm 23 895) ?_
            refine one_ (i := 7) (N := some 39) (bm 23 1023) rfl rfl (one_of HT_.out (by kernel_rfl)) (by decide) (fun K hK => ?_)
            refine goes_ Try.func80 (by kernel_rfl) rfl #[.int .u64 ((rd_T52 l1 x7_1).f1), .int .u64 ((rd_T51 x6_1 t368).f1)] (by rfl) rfl rfl Z0 ?_
            with_reducible refine (ensembleref05_masks.calls k1 ((rd_T52 l1 x7_1).f1) ((rd_T51 x6_1 t368).f1) t370 _ A20.out).mono ?_
            rintro e w47 ⟨rfl, hb⟩
            have HS4_ := (hb.cell (World.block_lt_of_cell? _ _ (hHeld.2.2.2.2.1))).trans (hHeld.2.2.2.2.1)
            have HS5_ := (hb.cell (World.block_lt_of_cell? _ _ (hHeld.2.2.2.2.2.1))).trans (hHeld.2.2.2.2.2.1)
            have HS6_ := (hb.cell (World.block_lt_of_cell? _ _ (hHeld.2.2.2.2.2.2.1))).trans (hHeld.2.2.2.2.2.2.1)
            have HS7_ := (hb.cell (World.block_lt_of_cell? _ _ (hHeld.2.2.2.2.2.2.2.1))).trans (hHeld.2.2.2.2.2.2.2.1)
            have HS8_ := (hb.cell (World.block_lt_of_cell? _ _ (hHeld.2.2.2.2.2.2.2.2.1))).trans (hHeld.2.2.2.2.2.2.2.2.1)
            have HS9_ := (hb.cell (World.block_lt_of_cell? _ _ (hHeld.2.2.2.2.2.2.2.2.2.1))).trans (hHeld.2.2.2.2.2.2.2.2.2.1)
            have HS10_ := (hb.cell (World.block_lt_of_cell? _ _ (hHeld.2.2.2.2.2.2.2.2.2.2.1))).trans (hHeld.2.2.2.2.2.2.2.2.2.2.1)
            have HS11_ := (hb.cell (World.block_lt_of_cell? _ _ (hHeld.2.2.2.2.2.2.2.2.2.2.2))).trans (hHeld.2.2.2.2.2.2.2.2.2.2.2)
            refine ⟨_, rfl, ?_⟩
            replace HO_6 := Aside0.mk (Kd.R_below Z9 hb)
            replace BK367 := Aside0.mk (blk_below (g := gb367) (o := .cells #[.int .i64 ((rd_T52 l1 x7_1).f0.f0), .int .i64 ((rd_T52 l1 x7_1).f0.f1), .int .u64 ((rd_T52 l1 x7_1).f1), .int .i64 ((rd_T52 l1 x7_1).f2)] 52 (0, 0)) (bo_ BK367) hb)
            replace HB := hs_ hb
            (try clear hb)
            (try clear hb2)
            (try clear hk)
            (try clear hi)
            refine hK.out _ _ ⟨(blk_cell BK367.out 0).trans rfl, (blk_cell BK367.out 1).trans rfl, (blk_cell BK367.out 2).trans rfl, (blk_cell BK367.out 3).trans rfl, HS4_, HS5_, HS6_, HS7_, HS8_, HS9_, HS10_, HS11_⟩ (fun hHeld => ?_)
            clear hK K
            refine norm_ (a' := ?_) ?_ ?_
            rotate_left
            ·show Act.put _ (some 39) _ = _
             simp only [Act.put, List.setIfInBounds_toArray, List.set_cons_zero, List.set_cons_succ, i64_w, i32_w]
             rfl
            refine one_ (i := 10) (N := some 42) (bm 23 2047) rfl rfl (one_of HT_.out (by kernel_rfl)) (by decide) (fun K hK => ?_)
            refine goes_ Try.func82 (by kernel_rfl) rfl #[.int .u64 ((rd_T52 l1 x7_1).f1)] (by rfl) rfl rfl Z0 ?_
            with_reducible refine (ensembleref01_Units.calls k1 ((rd_T52 l1 x7_1).f1) t371 _ A21.out).mono ?_
            rintro e w48 ⟨v372, rfl, ho0, hb⟩
            have HS4_ := (hb.cell (World.block_lt_of_cell? _ _ (hHeld.2.2.2.2.1))).trans (hHeld.2.2.2.2.1)
            have HS5_ := (hb.cell (World.block_lt_of_cell? _ _ (hHeld.2.2.2.2.2.1))).trans (hHeld.2.2.2.2.2.1)
            have HS6_ := (hb.cell (World.block_lt_of_cell? _ _ (hHeld.2.2.2.2.2.2.1))).trans (hHeld.2.2.2.2.2.2.1)
            have HS7_ := (hb.cell (World.block_lt_of_cell? _ _ (hHeld.2.2.2.2.2.2.2.1))).trans (hHeld.2.2.2.2.2.2.2.1)
            have HS8_ := (hb.cell (World.block_lt_of_cell? _ _ (hHeld.2.2.2.2.2.2.2.2.1))).trans (hHeld.2.2.2.2.2.2.2.2.1)
            have HS9_ := (hb.cell (World.block_lt_of_cell? _ _ (hHeld.2.2.2.2.2.2.2.2.2.1))).trans (hHeld.2.2.2.2.2.2.2.2.2.1)
            have HS10_ := (hb.cell (World.block_lt_of_cell? _ _ (hHeld.2.2.2.2.2.2.2.2.2.2.1))).trans (hHeld.2.2.2.2.2.2.2.2.2.2.1)
            have HS11_ := (hb.cell (World.block_lt_of_cell? _ _ (hHeld.2.2.2.2.2.2.2.2.2.2.2))).trans (hHeld.2.2.2.2.2.2.2.2.2.2.2)
            refine ⟨_, rfl, ?_⟩
            have HO373 := Aside0.mk (Kd.R_lower ho0 (below_size hb_))
            replace HO_6 := Aside0.mk (Kd.R_below Z9 hb)
            replace BK367 := Aside0.mk (blk_below (g := gb367) (o := .cells #[.int .i64 ((rd_T52 l1 x7_1).f0.f0), .int .i64 ((rd_T52 l1 x7_1).f0.f1), .int .u64 ((rd_T52 l1 x7_1).f1), .int .i64 ((rd_T52 l1 x7_1).f2)] 52 (0, 0)) (bo_ BK367) hb)
            replace HB := hs_ hb
            (try clear hb)
            (try clear hb2)
            (try clear hk)
            (try clear hi)
            (try clear ho0)
            obtain ⟨Ao49, co49, eo49⟩ := Kd.R_slice HO373.out
            (first | subst eo49 | (injection eo49 with f1_ f2_ f3_; have f4_ := f1_.symm; have f5_ := f3_.symm; clear f1_ f2_ f3_; subst f4_; subst f5_))
            refine hK.out _ _ ⟨(blk_cell BK367.out 0).trans rfl, (blk_cell BK367.out 1).trans rfl, (blk_cell BK367.out 2).trans rfl, (blk_cell BK367.out 3).trans rfl, HS4_, HS5_, HS6_, HS7_, HS8_, HS9_, HS10_, HS11_⟩ (fun hHeld => ?_)
            clear hK K
            refine norm_ (a' := ?_) ?_ ?_
            rotate_left
            ·show Act.put _ (some 42) _ = _
             simp only [Act.put, List.setIfInBounds_toArray, List.set_cons_zero, List.set_cons_succ, i64_w, i32_w]
             rfl
            refine pu 11 (some 43) (bm 23 4095) ?_
            refine pu 12 (some 44) (bm 23 8191) ?_
            refine pu 13 (some 45) (bm 23 16383) ?_
            refine pu 14 (some 46) (bm 23 32767) ?_
            refine pu 16 (some 48) (bm 23 98303) ?_
            refine pu 17 (some 49) (bm 23 229375) ?_
            refine pu 18 (some 50) (bm 23 491519) ?_
            refine pu 19 (some 51) (bm 23 1015807) ?_
            refine tk12 15 (some 47) (bm 23 1048575) ?_
            refine tk12 20 (some 52) (bm 23 2097151) ?_
            refine pu 21 (some 53) (bm 23 4194303) ?_
            refine pu 22 (some 54) (bm 23 8388607) ?_
            refine done_ (done_of HT_.out (by kernel_rfl)) ?_
            try go_wp2
            replace HO_6 := Aside0.mk (Kd.R_drew HO_6.out)
            replace HO373 := Aside0.mk (Kd.R_drew HO373.out)
            replace BK367 := Aside0.mk (blk_drew BK367.out)
            replace HB := Aside0.mk (below_drew1 HB.out)
            have p375 : 0 ≤ (t368 : Int) := of_decide_eq_true Z1
            have q375 : t368 < (x6_1.length : Int) := of_decide_eq_true Z1
            obtain ⟨ad375, e375, hx375_0, hx375_1, hx375_2, hx375_3⟩ := at_T51 (Kd.R_reads' HO_6.out).2.2 t368 p375 q375
            obtain rfl : ad369 = ad375 := (by injection e375)
            replace p375 := eq_true p375
            replace q375 := eq_true q375
            have p40 : 0 ≤ (t368 : Int) := of_decide_eq_true Z1
            have q40 : (t368 : Int) < ((x6_1.length : Int) : Int) := of_decide_eq_true Z1
            obtain ⟨go40, co40, eo40, gb40, gl40, cl40, HG40⟩ := Kd.R_form HO_6.out (by omega)
            (first | cases eo40 | (injection eo40 with ea_ en_ ec_; (first | subst ea_ | (injection ea_ with ea_; subst ea_)); subst ec_; clear en_))
            have GB40 := Aside0.mk gb40
            have GG40 := Aside0.mk HG40
            clear gb40 gl40 HG40
            (first | simp only [add_plain] at hx369_0 | skip)
            (first | simp only [add_plain] at hx369_1 | skip)
            (first | simp only [add_plain] at hx369_2 | skip)
            (first | simp only [add_plain] at hx369_3 | skip)
            (first | simp only [add_plain] at hx374_0 | skip)
            (first | simp only [add_plain] at hx374_1 | skip)
            (first | simp only [add_plain] at hx374_2 | skip)
            (first | simp only [add_plain] at hx374_3 | skip)
            (first | simp only [add_plain] at hx375_0 | skip)
            (first | simp only [add_plain] at hx375_1 | skip)
            (first | simp only [add_plain] at hx375_2 | skip)
            (first | simp only [add_plain] at hx375_3 | skip)
            obtain ⟨ce40, hcl40, hM40, hcc40, hfr40⟩ := Kd.R_elem HO_6.out z51 (t368 : Int) p40 q40
            obtain rfl := k51_openM hM40
            have hx40_0 : World.cell? _ ⟨go40, (t368 : Int).toNat * 4, none⟩ = some (.int .i64 ((rd_T51 x6_1 t368).f0.f0)) := hcc40 0 _ rfl
            have hx40_1 : World.cell? _ ⟨go40, (t368 : Int).toNat * 4 + 1, none⟩ = some (.int .i64 ((rd_T51 x6_1 t368).f0.f1)) := hcc40 1 _ rfl
            have hx40_2 : World.cell? _ ⟨go40, (t368 : Int).toNat * 4 + 2, none⟩ = some (.int .u64 ((rd_T51 x6_1 t368).f1)) := hcc40 2 _ rfl
            have hx40_3 : World.cell? _ ⟨go40, (t368 : Int).toNat * 4 + 3, none⟩ = some (.int .i64 ((rd_T51 x6_1 t368).f2)) := hcc40 3 _ rfl
            have hf40_0 : World.frozen? _ ⟨go40, (t368 : Int).toNat * 4, none⟩ = false := hfr40 0
            have hf40_1 : World.frozen? _ ⟨go40, (t368 : Int).toNat * 4 + 1, none⟩ = false := hfr40 1
            have hf40_2 : World.frozen? _ ⟨go40, (t368 : Int).toNat * 4 + 2, none⟩ = false := hfr40 2
            have hf40_3 : World.frozen? _ ⟨go40, (t368 : Int).toNat * 4 + 3, none⟩ = false := hfr40 3
            clear hcl40 hcc40 hfr40 hM40
            replace p40 := eq_true p40
            replace q40 := eq_true q40
            obtain ⟨ce51, hcl51, hM51, hcc51, hfr51⟩ := Kd.R_elem HO_6.out z51 (t368 : Int) (of_decide_eq_true Z1) (by have h_ : (t368 : Int) < ((x6_1.length : Int) : Int) := of_decide_eq_true Z1; first | exact h_ | (have e_ := (Kd.R_reads' HO_6.out).1; omega) | simpa using h_)
            obtain rfl := k51_openM hM51
            have HP51 := (Kd.R_seg HO_6.out (t368 : Int) (of_decide_eq_true Z1) (by have h_ : (t368 : Int) < ((x6_1.length : Int) : Int) := of_decide_eq_true Z1; first | exact h_ | (have e_ := (Kd.R_reads' HO_6.out).1; omega) | simpa using h_) (seg := [.int .u64 (IntKind.u64.wrap (((rd_T51 x6_1 t368).f1) - ((rd_T52 l1 x7_1).f1)))]) (j := 2) hcl51 hcc51 (show 3 ≤ 4 from by decide) (x' := (⟨(⟨(rd_T51 x6_1 t368).f0.f0, (rd_T51 x6_1 t368).f0.f1⟩ : S48), IntKind.u64.wrap (((rd_T51 x6_1 t368).f1) - ((rd_T52 l1 x7_1).f1)), (rd_T51 x6_1 t368).f2⟩ : S51)) (k51_mkM _ _ _ (⟨(⟨(rd_T51 x6_1 t368).f0.f0, (rd_T51 x6_1 t368).f0.f1⟩ : S48), IntKind.u64.wrap (((rd_T51 x6_1 t368).f1) - ((rd_T52 l1 x7_1).f1)), (rd_T51 x6_1 t368).f2⟩ : S51) ) (fun _ hk => hk)).1
            rw [← Ny376.out] at HP51
            have HQ51 := Aside0.mk HP51
            clear hcl51 hcc51 hfr51 hM51 HP51
            refine start_ (n := 13) (S := fun w' => w'.cell? ⟨gb367, 0, none⟩ = some (.int .i64 ((rd_T52 l1 x7_1).f0.f0)) ∧ w'.cell? ⟨gb367, 1, none⟩ = some (.int .i64 ((rd_T52 l1 x7_1).f0.f1)) ∧ w'.cell? ⟨gb367, 2, none⟩ = some (.int .u64 ((rd_T52 l1 x7_1).f1)) ∧ w'.cell? ⟨gb367, 3, none⟩ = some (.int .i64 ((rd_T52 l1 x7_1).f2)) ∧ w'.cell? ⟨go40, ((t368).toNat * 4), none⟩ = some (.int .i64 ((rd_T51 x6_1 t368).f0.f0)) ∧ w'.cell? ⟨go40, ((t368).toNat * 4) + 1, none⟩ = some (.int .i64 ((rd_T51 x6_1 t368).f0.f1)) ∧ w'.cell? ⟨go40, ((t368).toNat * 4) + 2, none⟩ = some (.int .u64 ((rd_T51 x6_1 t368).f1)) ∧ w'.cell? ⟨go40, ((t368).toNat * 4) + 3, none⟩ = some (.int .i64 ((rd_T51 x6_1 t368).f2))) (ds := [12]) (bm 13 0) (by kernel_rfl) rfl rfl ⟨(blk_cell BK367.out 0).trans rfl, (blk_cell BK367.out 1).trans rfl, (blk_cell BK367.out 2).trans rfl, (blk_cell BK367.out 3).trans rfl, hx375_0, hx375_1, hx375_2, hx375_3⟩ (fun hHeld => ?_); refine with_tabW ensembleref05_Less.tab13 ensembleref05_Less.bits13 (fun HT_ HW_ => ?_)
            generalize w48.drew = w50 at HO_6 HO373 BK367 HB GG40 HQ51 hf40_0 hf40_1 hf40_2 hf40_3 hx369_0 hx369_1 hx369_2 hx369_3 hx374_0 hx374_1 hx374_2 hx374_3 hx375_0 hx375_1 hx375_2 hx375_3 hx40_0 hx40_1 hx40_2 hx40_3 hHeld ⊢
            refine pu 0 (some 55) (bm 13 1) ?_
            refine pu 1 (some 56) (bm 13 3) ?_
            refine pu 2 (some 57) (bm 13 7) ?_
            refine pu 3 (some 58) (bm 13 15) ?_
            refine pu 4 (some 59) (bm 13 31) ?_
            refine pu 5 (some 60) (bm 13 63) ?_
            refine pu 7 (some 62) (bm 13 191) ?_
            refine tk8 6 (some 61) (bm 13 255) ?_
            refine tk8 8 (some 63) (bm 13 511) ?_
            refine pu 9 (some 64) (bm 13 1023) ?_
            refine pu 10 (some 65) (bm 13 2047) ?_
            refine pu 11 (some 66) (bm 13 4095) ?_
            refine last_ (i := 12) (N := none) (bm 13 8191) rfl rfl (one_of HT_.out (by kernel_rfl)) (by decide) (fun K hK => ?_)
            refine skip_ (w1 := ?_) (by rfl) rfl ?_ ?_
            rotate_left
            ·go_simp
             rfl
            refine hK.out _ _ ?_
            clear hK K
            refine done_ (done_of HT_.out (by kernel_rfl)) ?_
            try go_wp2
            have n0_ : Aside0 (Kd.R k51 51 (w50.setCell ⟨go40, (t368 : Int).toNat * 4 + 2, none⟩ (.int .u64 (IntKind.u64.wrap (((rd_T51 x6_1 t368).f1) - ((rd_T52 l1 x7_1).f1))))) w.heap.size (fun _ => True) (.slice (some ⟨go40, 0, none⟩) x6_1.length co44) y376) := ⟨by (with_reducible repeat (first | apply Kd.R_alloc | apply Kd.R_drewN | apply Kd.R_drew)); exact HQ51.out⟩
            have n1_ : Aside0 (Kd.R (Kd.int .i64) 3 (w50.setCell ⟨go40, (t368 : Int).toNat * 4 + 2, none⟩ (.int .u64 (IntKind.u64.wrap (((rd_T51 x6_1 t368).f1) - ((rd_T52 l1 x7_1).f1))))) w.heap.size (fun _ => True) (.slice Ao49 t371.length co49) t371) := ⟨by (with_reducible repeat (first | apply Kd.R_alloc | apply Kd.R_drewN | apply Kd.R_drew)); exact Kd.R_mono (Kd.R_far (p := ⟨go40, (t368 : Int).toNat * 4 + 2, none⟩) (Kd.R_types HO373.out GG40.out (by decide)) (fun _ hk => hk.2) (.int .u64 (IntKind.u64.wrap (((rd_T51 x6_1 t368).f1) - ((rd_T52 l1 x7_1).f1))))) (fun _ hk => trivial)⟩
            have n2_ : Aside0 ((w50.setCell ⟨go40, (t368 : Int).toNat * 4 + 2, none⟩ (.int .u64 (IntKind.u64.wrap (((rd_T51 x6_1 t368).f1) - ((rd_T52 l1 x7_1).f1))))).heap[gb367]? = some (.cells #[.int .i64 ((rd_T52 l1 x7_1).f0.f0), .int .i64 ((rd_T52 l1 x7_1).f0.f1), .int .u64 ((rd_T52 l1 x7_1).f1), .int .i64 ((rd_T52 l1 x7_1).f2)] 52 (0, 0))) := ⟨by (with_reducible repeat (first | refine blk_drewN ?_ _ | refine blk_drew ?_ | refine blk_alloc ?_ _)); refine blk_far ?_ (by have h_ := Kd.R_ne HO_6.out BK367.out (by decide); intro e_; exact h_ (by rw [e_]; rfl)) _; (with_reducible repeat (first | refine blk_drewN ?_ _ | refine blk_drew ?_ | refine blk_alloc ?_ _)); exact BK367.out⟩
            have n3_ : Aside0 (Below w.heap.size w (w50.setCell ⟨go40, (t368 : Int).toNat * 4 + 2, none⟩ (.int .u64 (IntKind.u64.wrap (((rd_T51 x6_1 t368).f1) - ((rd_T52 l1 x7_1).f1)))))) := ⟨by repeat (first | (with_reducible first | exact HB.out | apply below_alloc | apply pw_below_drewN | apply below_drew1 | refine below_set ?_ GB40.out | refine below_set ?_ GE367.out) | exact HB.out)⟩
            (try clear HO_6)
            (try clear HO373)
            (try clear BK367)
            (try clear HB)
            generalize (w50.setCell ⟨go40, (t368 : Int).toNat * 4 + 2, none⟩ (.int .u64 (IntKind.u64.wrap (((rd_T51 x6_1 t368).f1) - ((rd_T52 l1 x7_1).f1))))) = w52 at n0_ n1_ n2_ n3_ ⊢
            have HO_6 := n0_
            have HO373 := n1_
            have BK367 := n2_
            have HB := n3_
            clear n0_ n1_ n2_ n3_
            replace HO_6 := Aside0.mk (Kd.R_drew HO_6.out)
            replace HO373 := Aside0.mk (Kd.R_drew HO373.out)
            replace BK367 := Aside0.mk (blk_drew BK367.out)
            replace HB := Aside0.mk (below_drew1 HB.out)
            have p377 : 0 ≤ (t368 : Int) := of_decide_eq_true Z1
            have q377 : t368 < (y376.length : Int) := (by have h_ : (t368 : Int) < ((x6_1.length : Int) : Int) := of_decide_eq_true Z1; first | (have e_ := (Kd.R_reads' HO_6.out).1; omega) | simpa only [Ny376.out, List.length_set] using h_)
            have ql377 : ((t368 : Int) < ((x6_1.length : Int) : Int)) = True := eq_true (of_decide_eq_true Z1)
            obtain ⟨ad377, e377, hx377_0, hx377_1, hx377_2, hx377_3⟩ := at_T51 (Kd.R_reads' HO_6.out).2.2 t368 p377 q377
            obtain rfl : (⟨go40, 0, none⟩ : Addr) = ad377 := (by injection e377)
            (first | simp only [add_plain] at hx377_0 | simp only [add_at] at hx377_0 | simp only [Addr.add, Nat.zero_add] at hx377_0 | skip)
            (first | simp only [add_plain] at hx377_1 | simp only [add_at] at hx377_1 | simp only [Addr.add, Nat.zero_add] at hx377_1 | skip)
            (first | simp only [add_plain] at hx377_2 | simp only [add_at] at hx377_2 | simp only [Addr.add, Nat.zero_add] at hx377_2 | skip)
            (first | simp only [add_plain] at hx377_3 | simp only [add_at] at hx377_3 | simp only [Addr.add, Nat.zero_add] at hx377_3 | skip)
            replace p377 := eq_true p377
            replace q377 := eq_true q377
            have p41 : 0 ≤ (t368 : Int) := of_decide_eq_true Z1
            have q41 : (t368 : Int) < ((x6_1.length : Int) : Int) := of_decide_eq_true Z1
            obtain ⟨ce41, hcl41, hM41, hcc41, hfr41⟩ := Kd.R_elem HO_6.out z51 (t368 : Int) p41 q41
            obtain rfl := k51_openM hM41
            have hx41_0 : World.cell? _ ⟨go40, (t368 : Int).toNat * 4, none⟩ = some (.int .i64 ((rd_T51 y376 t368).f0.f0)) := hcc41 0 _ rfl
            have hx41_1 : World.cell? _ ⟨go40, (t368 : Int).toNat * 4 + 1, none⟩ = some (.int .i64 ((rd_T51 y376 t368).f0.f1)) := hcc41 1 _ rfl
            have hx41_2 : World.cell? _ ⟨go40, (t368 : Int).toNat * 4 + 2, none⟩ = some (.int .u64 ((rd_T51 y376 t368).f1)) := hcc41 2 _ rfl
            have hx41_3 : World.cell? _ ⟨go40, (t368 : Int).toNat * 4 + 3, none⟩ = some (.int .i64 ((rd_T51 y376 t368).f2)) := hcc41 3 _ rfl
            have hf41_0 : World.frozen? _ ⟨go40, (t368 : Int).toNat * 4, none⟩ = false := hfr41 0
            have hf41_1 : World.frozen? _ ⟨go40, (t368 : Int).toNat * 4 + 1, none⟩ = false := hfr41 1
            have hf41_2 : World.frozen? _ ⟨go40, (t368 : Int).toNat * 4 + 2, none⟩ = false := hfr41 2
            have hf41_3 : World.frozen? _ ⟨go40, (t368 : Int).toNat * 4 + 3, none⟩ = false := hfr41 3
            clear hcl41 hcc41 hfr41 hM41
            replace p41 := eq_true p41
            replace q41 := eq_true q41
            obtain ⟨ce54, hcl54, hM54, hcc54, hfr54⟩ := Kd.R_elem HO_6.out z51 (t368 : Int) (of_decide_eq_true Z1) (by have h_ : (t368 : Int) < ((x6_1.length : Int) : Int) := of_decide_eq_true Z1; first | exact h_ | (have e_ := (Kd.R_reads' HO_6.out).1; omega) | simpa using h_)
            obtain rfl := k51_openM hM54
            have HP54 := (Kd.R_seg HO_6.out (t368 : Int) (of_decide_eq_true Z1) (by have h_ : (t368 : Int) < ((x6_1.length : Int) : Int) := of_decide_eq_true Z1; first | exact h_ | (have e_ := (Kd.R_reads' HO_6.out).1; omega) | simpa using h_) (seg := [.int .i64 (wrap64 (((rd_T51 y376 t368).f2) - ((rd_T52 l1 x7_1).f2)))]) (j := 3) hcl54 hcc54 (show 4 ≤ 4 from by decide) (x' := (⟨(⟨(rd_T51 y376 t368).f0.f0, (rd_T51 y376 t368).f0.f1⟩ : S48), (rd_T51 y376 t368).f1, wrap64 (((rd_T51 y376 t368).f2) - ((rd_T52 l1 x7_1).f2))⟩ : S51)) (k51_mkM _ _ _ (⟨(⟨(rd_T51 y376 t368).f0.f0, (rd_T51 y376 t368).f0.f1⟩ : S48), (rd_T51 y376 t368).f1, wrap64 (((rd_T51 y376 t368).f2) - ((rd_T52 l1 x7_1).f2))⟩ : S51) ) (fun _ hk => hk)).1
            rw [← Ny378.out] at HP54
            have HQ54 := Aside0.mk HP54
            clear hcl54 hcc54 hfr54 hM54 HP54
            refine start_ (n := 13) (S := fun w' => w'.cell? ⟨gb367, 0, none⟩ = some (.int .i64 ((rd_T52 l1 x7_1).f0.f0)) ∧ w'.cell? ⟨gb367, 1, none⟩ = some (.int .i64 ((rd_T52 l1 x7_1).f0.f1)) ∧ w'.cell? ⟨gb367, 2, none⟩ = some (.int .u64 ((rd_T52 l1 x7_1).f1)) ∧ w'.cell? ⟨gb367, 3, none⟩ = some (.int .i64 ((rd_T52 l1 x7_1).f2)) ∧ w'.cell? ⟨go40, (t368).toNat * 4, none⟩ = some (.int .i64 ((rd_T51 y376 t368).f0.f0)) ∧ w'.cell? ⟨go40, (t368).toNat * 4 + 1, none⟩ = some (.int .i64 ((rd_T51 y376 t368).f0.f1)) ∧ w'.cell? ⟨go40, (t368).toNat * 4 + 2, none⟩ = some (.int .u64 ((rd_T51 y376 t368).f1)) ∧ w'.cell? ⟨go40, (t368).toNat * 4 + 3, none⟩ = some (.int .i64 ((rd_T51 y376 t368).f2))) (ds := [12]) (bm 13 0) (by kernel_rfl) rfl rfl ⟨(blk_cell BK367.out 0).trans rfl, (blk_cell BK367.out 1).trans rfl, (blk_cell BK367.out 2).trans rfl, (blk_cell BK367.out 3).trans rfl, hx377_0, hx377_1, hx377_2, hx377_3⟩ (fun hHeld => ?_); refine with_tabW ensembleref05_Less.tab14 ensembleref05_Less.bits14 (fun HT_ HW_ => ?_)
            generalize w52.drew = w53 at HO_6 HO373 BK367 HB HQ51 HQ54 hf41_0 hf41_1 hf41_2 hf41_3 hx377_0 hx377_1 hx377_2 hx377_3 hx41_0 hx41_1 hx41_2 hx41_3 hHeld ⊢
            refine pu 0 (some 67) (bm 13 1) ?_
            refine pu 1 (some 68) (bm 13 3) ?_
            refine pu 2 (some 69) (bm 13 7) ?_
            refine pu 3 (some 70) (bm 13 15) ?_
            refine pu 4 (some 71) (bm 13 31) ?_
            refine pu 5 (some 72) (bm 13 63) ?_
            refine pu 7 (some 74) (bm 13 191) ?_
            refine tk8 6 (some 73) (bm 13 255) ?_
            refine tk8 8 (some 75) (bm 13 511) ?_
            refine pu 9 (some 76) (bm 13 1023) ?_
            refine pu 10 (some 77) (bm 13 2047) ?_
            refine pu 11 (some 78) (bm 13 4095) ?_
            refine last_ (i := 12) (N := none) (bm 13 8191) rfl rfl (one_of HT_.out (by kernel_rfl)) (by decide) (fun K hK => ?_)
            refine skip_ (w1 := ?_) (by rfl) rfl ?_ ?_
            rotate_left
            ·go_simp
             rfl
            refine hK.out _ _ ?_
            clear hK K
            refine done_ (done_of HT_.out (by kernel_rfl)) ?_
            try go_wp2
            go_roundg k1
            case measure => have := HK1.out; omega
            case rel => exact ⟨(y378), (wrap64 (x7_1 + 1)), Z6, H', ⟨by have := HK1.out; omega⟩, ⟨by (with_reducible repeat (first | apply Kd.R_alloc | apply Kd.R_drewN | apply Kd.R_drew)); exact HQ54.out⟩, ⟨by repeat (first | (with_reducible first | exact HB.out | apply below_alloc | apply pw_below_drewN | apply below_drew1 | refine below_set ?_ GB40.out | refine below_set ?_ GE367.out) | exact HB.out)⟩⟩
         ·rw [if_neg c19] at H
          exact absurd H (by simp)
        ·rw [if_neg c18] at H
         exact absurd H (by simp)
     ·rw [if_neg c8] at H
      exact absurd H (by simp)
    ·rw [if_neg c7] at H
     have c7b0 : decide (x7_1 < (l1.length : Int)) = false := decide_eq_false c7
     clear c7
     simp only [Option.some.injEq, Prod.mk.injEq] at H
     obtain ⟨rfl, rfl⟩ := H
     go_wp2
     go_ret2
     exact ⟨_, by first | rfl | (simp [errW_none, errW_some] <;> rfl) | (simp [*, errW_none, errW_some] <;> rfl), by (with_reducible repeat (first | apply Kd.R_alloc | apply Kd.R_drewN | apply Kd.R_drew)); exact HO_6.out, hb_⟩
 ·rw [if_neg c3] at H
  exact absurd H (by simp)
end Go.Proofs.Ytckhjehibjdjdaa.P
