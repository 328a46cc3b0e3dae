import Derived.Test.YtllmgaimdmmahaaP0
import Derived.Test.YtllmgaimdmmahaaMp
import Derived.Test.YtllmgaimdmmahaaBG3
import Derived.LoopN
import Derived.StillTailTactics
namespace Go.Proofs.Ytllmgaimdmmahaa.P
open Go.RowKit Go.Proofs.YtllmgaimdmmahaaW.PrintWords Go.Proofs.YtllmgaimdmmahaaW.PrintLast Go.Proofs.YtllmgaimdmmahaaW.PrintMore
open Go.Proofs.Ytllmgaimdmmahaa.Mp
attribute [local go_sem] max2_int min2_int max_two min_two max_three min_three max_four min_four
set_option linter.unusedVariables false
set_option linter.unusedSimpArgs false

/-- Behind the first i acts: where the last Tick was (-1: nowhere); where the last Pick of a worker was, and one (0: nowhere). -/
def tickAt (l : List S39) : Nat → Int
  | 0 => -1
  | i + 1 => if (rd_T39 l i).f0 = 5 then (i : Int) else tickAt l i
def lastAt (l : List S39) : Nat → Int → Int
  | 0, _ => 0
  | i + 1, k => if (rd_T39 l i).f0 = 6 ∧ (rd_T39 l i).f1 = k then (i : Int) + 1 else lastAt l i k
def condR (l : List S39) (wk wd : Int) (i : Nat) : Bool :=
  decide ((i : Int) + 1 < wd) || (decide ((i : Int) - wd < tickAt l (i + 1)) && (List.range wk.toNat).all fun k => decide ((i : Int) - wd < lastAt l (i + 1) (k : Int) - 1))
def refFair (l : List S39) (wk wd : Int) : Bool :=
  decide (1 ≤ wd) && decide (wd ≤ 1024) && ((List.range l.length).all fun i => decide ((rd_T39 l i).f0 ≠ 3) && condR l wk wd i)
theorem tickAt_bd (l : List S39) (i : Nat) : -1 ≤ tickAt l i ∧ tickAt l i ≤ i := by
  induction i with
  | zero => simp [tickAt]
  | succ i ih => rw [tickAt]; split <;> omega
theorem lastAt_bd (l : List S39) (i : Nat) (k : Int) : 0 ≤ lastAt l i k ∧ lastAt l i k ≤ i := by
  induction i with
  | zero => simp [lastAt]
  | succ i ih => rw [lastAt]; split <;> omega
theorem refFair_no {l : List S39} {wk wd : Int} (i : Nat) (hi : i < l.length) (h : (rd_T39 l i).f0 = 3 ∨ condR l wk wd i = false) : refFair l wk wd = false := by
  unfold refFair
  have : ((List.range l.length).all fun i => decide ((rd_T39 l i).f0 ≠ 3) && condR l wk wd i) = false := by
    rw [List.all_eq_false]
    refine ⟨i, by simpa using hi, ?_⟩
    rcases h with h | h
    · simp [h]
    · simp [h]
  rw [this, Bool.and_false]

set_option maxHeartbeats 16000000 in
set_option maxRecDepth 100000 in
theorem refFair_any (A0_0 : Option Addr) (c0_0 : Nat) (l0_0 : List (S87)) (A0_1 : Option Addr) (c0_1 : Nat) (l0_1 : List (S59)) (wk a3 a4 a5 : Int) (A1 : Option Addr) (c1 : Nat) (l : List S39) (wd : Int) (w : World)
    (hr1 : Kd.C k39 w A1 l.length l) (hc1 : l.length ≤ c1) (hw : ∀ a ∈ l, wfAct a) (hwk : wk ≤ 9223372036854775807) (hlen : l.length ≤ 4611686018427387904) :
    Calls Try.prog 10 #[.agg #[.slice A0_0 l0_0.length c0_0, .slice A0_1 l0_1.length c0_1, .int .i64 wk, .int .i64 a3, .int .i64 a4, .int .i64 a5], .slice A1 l.length c1, .int .i64 wd] w fun e w' => e = .returned (.bool (refFair l wk wd)) ∧ Below w.heap.size w w' := by
  have hu27 := Try.underlying27
  have hu39 := Try.underlying39
  have hu60 := Try.underlying60
  have hmm := @run_makeMap Try.prog
  have HR := Aside0.mk hr1
  have HW := Aside0.mk hw
  clear hr1 hw hc1
  go_enter Try.func10, Try.ntmps10
  by_cases hin : 1 ≤ wd ∧ wd ≤ 1024
  · obtain ⟨h1, h2⟩ := hin
    have hin2 := Aside0.mk (And.intro h1 h2)
    go_wp2
    go_loopw [7, 9] (fun v7 v9 wr => ∃ i : Nat, i ≤ l.length ∧ v7 = .int .i64 (tickAt l i) ∧ v9 = .int .i64 (i : Int) ∧ Aside0 (∀ j : Nat, j < i → (rd_T39 l j).f0 ≠ 3 ∧ condR l wk wd j = true) ∧ Aside0 (MapI Try.prog 3 3 wr (w.heap.size + 1) i (lastAt l i)) ∧ Aside0 (wr.heap[w.heap.size]? = some (.cells #[.slice A0_0 l0_0.length c0_0, .slice A0_1 l0_1.length c0_1, .int .i64 wk, .int .i64 a3, .int .i64 a4, .int .i64 a5] 27 (0, 0))) ∧ Aside0 (Below w.heap.size w wr)) (fun _ v9 _ => l.length - (intOf v9).toNat)
    case atStart => exact ⟨0, Nat.zero_le _, rfl, rfl, ⟨fun _ h => by omega⟩, ⟨by have := MapI.made (w.alloc (.cells #[.slice A0_0 l0_0.length c0_0, .slice A0_1 l0_1.length c0_1, .int .i64 wk, .int .i64 a3, .int .i64 a4, .int .i64 a5] 27)) Try.prog 3 3; simp only [World.size_alloc] at this; exact this.congr (fun _ => rfl) rfl⟩, ⟨blk_alloc (heap_alloc_new w _) _⟩, ⟨below_alloc (below_alloc (Below.refl _ _) _) _⟩⟩
    case round =>
      obtain ⟨i, hi, rfl, rfl, HA, HM, HX, HB⟩ := hrel
      by_cases hlt : i < l.length
      · have h0 : 0 ≤ (i : Int) := by omega
        have h1' : (i : Int) < l.length := by omega
        obtain ⟨ad, e0, x0, x1, _, _, _, _, _, _, _, _⟩ := at_T39 HR.out (i : Int) h0 h1'
        cases e0
        simp only [Int.toNat_natCast] at x0 x1
        replace x0 := pw_cell_below HB.out x0
        replace x1 := pw_cell_below HB.out x1
        have hwf : wfAct (rd_T39 l i) := HW.out _ (by simp [rd_T39, List.getD_eq_getElem?_getD, List.getElem?_eq_getElem hlt])
        have ht := tickAt_bd l i
        by_cases k3 : (rd_T39 l i).f0 = 3
        · have b3 : ((rd_T39 l i).f0 == 3) = true := by simpa using k3
          have HN := Aside0.mk (refFair_no (wk := wk) (wd := wd) i hlt (.inl k3))
          clear k3
          go_wp2
          go_ret
          exact ⟨ret_b HN.out.symm, HB.out⟩
        · have b3 : ((rd_T39 l i).f0 == 3) = false := by simpa using k3
          have K3 := Aside0.mk k3
          clear k3
          have hts : Aside0 (tickAt l (i + 1) = if (rd_T39 l i).f0 = 5 then (i : Int) else tickAt l i) := ⟨rfl⟩
          have hls : Aside0 (∀ k, lastAt l (i + 1) k = if (rd_T39 l i).f0 = 6 ∧ (rd_T39 l i).f1 = k then (i : Int) + 1 else lastAt l i k) := ⟨fun _ => rfl⟩
          go_upto_block 2 with (fail)
          go_cut [7] (fun v7 wc => v7 = .int .i64 (tickAt l (i + 1)) ∧ Aside0 (MapI Try.prog 3 3 wc (w.heap.size + 1) (i + 1) (lastAt l (i + 1))) ∧ Aside0 (wc.heap[w.heap.size]? = some (.cells #[.slice A0_0 l0_0.length c0_0, .slice A0_1 l0_1.length c0_1, .int .i64 wk, .int .i64 a3, .int .i64 a4, .int .i64 a5] 27 (0, 0))) ∧ Aside0 (Below w.heap.size w wc))
          case first =>
            by_cases k5 : (rd_T39 l i).f0 = 5
            · have b5 : ((rd_T39 l i).f0 == 5) = true := by simpa using k5
              have K5 := Aside0.mk k5
              clear k5
              go_wp2
              go_meet
              case rel => exact ⟨by rw [hts.out, if_pos K5.out], ⟨(HM.out.congr (fun k => by rw [hls.out, if_neg (by rw [K5.out]; simp)]) rfl).mono (Nat.le_succ _)⟩, HX, HB⟩
            · have b5 : ((rd_T39 l i).f0 == 5) = false := by simpa using k5
              have K5 := Aside0.mk k5
              clear k5
              by_cases k6 : (rd_T39 l i).f0 = 6
              · have b6 : ((rd_T39 l i).f0 == 6) = true := by simpa using k6
                have K6 := Aside0.mk k6
                clear k6
                go_wp2_with (first
                  | (at_mapUpdate; refine wp_update_I rfl _ _ _ 60 rfl Try.underlying60 Try.underlying3 Try.underlying3 rfl HM.out (by unfold maxLen; omega) _ _ rfl rfl (wf64 hwf) (wf64 (by omega)) ?_; intro w1 hm1 hg1))
                have hsz := HB.out.size
                go_meet
                case rel => exact ⟨by rw [hts.out, if_neg K5.out], ⟨hm1.congr (fun k => by
                    rw [hls.out]; unfold upd
                    by_cases e : k = (rd_T39 l i).f1
                    · rw [if_pos e, if_pos ⟨K6.out, e.symm⟩]
                    · rw [if_neg e, if_neg (fun h => e h.2.symm)]) rfl⟩, ⟨(hg1.block _ (blk_lt HX.out) (by simp)).trans HX.out⟩, ⟨HB.out.grown hg1 hsz (fun k e => by cases e; omega)⟩⟩
              · have b6 : ((rd_T39 l i).f0 == 6) = false := by simpa using k6
                have K6 := Aside0.mk k6
                clear k6
                go_wp2
                go_meet
                case rel => exact ⟨by rw [hts.out, if_neg K5.out], ⟨(HM.out.congr (fun k => by rw [hls.out, if_neg (fun h => K6.out h.1)]) rfl).mono (Nat.le_succ _)⟩, HX, HB⟩
          case rest =>
            clear HM HX HB x0 x1
            obtain ⟨rfl, HM, HX, HB⟩ := hcut
            have ht2 := tickAt_bd l (i + 1)
            by_cases hsm : (i : Int) + 1 < wd
            · have hcr : Aside0 (condR l wk wd i = true) := ⟨by unfold condR; rw [decide_eq_true hsm]; rfl⟩
              go_wp2
              go_roundw
              case rel => exact ⟨i + 1, by omega, rfl, by go_num, ⟨fun j hj => by
                by_cases e : j = i
                · subst e; exact ⟨K3.out, hcr.out⟩
                · exact HA.out j (by omega)⟩, HM, HX, HB⟩
              case measure => simp [intOf]; omega
            · by_cases htk : tickAt l (i + 1) ≤ (i : Int) - wd
              · have HN := Aside0.mk (refFair_no (wk := wk) (wd := wd) i hlt (.inr (by unfold condR; rw [decide_eq_false hsm, decide_eq_false (by omega)]; rfl)))
                go_wp2
                go_ret
                exact ⟨ret_b HN.out.symm, HB.out⟩
              · have hsm2 : wd ≤ (i : Int) + 1 := by omega
                have htk2 : (i : Int) - wd < tickAt l (i + 1) := by omega
                clear hsm htk
                obtain ⟨m, hm1, hm2, hm3⟩ : ∃ m : Nat, wk.toNat = m ∧ (∀ k : Nat, ((k : Int) < wk ↔ k < m)) ∧ (m : Int) ≤ 9223372036854775807 := ⟨wk.toNat, rfl, fun k => by omega, by omega⟩
                have HM1 := Aside0.mk hm1
                have HM2 := Aside0.mk hm2
                clear hm1 hm2
                go_wp2
                obtain ⟨wo, hwo⟩ : ∃ wo : World, wo = wc := ⟨_, rfl⟩
                subst hwo
                go_loopg [10] m (fun kq v10 w2 => ∃ k : Nat, k ≤ m ∧ v10 = .int .i64 (k : Int) ∧ Aside0 (kq = m - k) ∧ Aside0 (∀ k' : Nat, k' < k → (i : Int) - wd < lastAt l (i + 1) (k' : Int) - 1) ∧ Aside0 (MapI Try.prog 3 3 w2 (w.heap.size + 1) (i + 1) (lastAt l (i + 1))) ∧ Aside0 (w2.heap[w.heap.size]? = some (.cells #[.slice A0_0 l0_0.length c0_0, .slice A0_1 l0_1.length c0_1, .int .i64 wk, .int .i64 a3, .int .i64 a4, .int .i64 a5] 27 (0, 0))) ∧ Aside0 (Below w.heap.size w w2))
                case atStart => exact ⟨0, Nat.zero_le _, rfl, ⟨by omega⟩, ⟨fun _ h => by omega⟩, HM, HX, HB⟩
                case round =>
                  clear HM HX HB
                  obtain ⟨k, hk, rfl, HQ, HL, HM, HX, HB⟩ := hrel
                  have c2 : wr.cell? ⟨w.heap.size, 2, none⟩ = some (.int .i64 wk) := (blk_cell HX.out 2).trans rfl
                  have hlb := lastAt_bd l (i + 1) (k : Int)
                  by_cases hkm : k < m
                  · have hkw : (k : Int) < wk := (HM2.out k).2 hkm
                    by_cases hle : lastAt l (i + 1) (k : Int) - 1 ≤ (i : Int) - wd
                    · have HN := Aside0.mk (refFair_no (wk := wk) (wd := wd) i hlt (.inr (by
                        unfold condR
                        rw [HM1.out, decide_eq_false (by omega : ¬ (i : Int) + 1 < wd), decide_eq_true htk2, Bool.false_or, Bool.true_and, List.all_eq_false]
                        exact ⟨k, by simpa using hkm, by simp; omega⟩)))
                      go_wp2_with (first
                        | (at_lookup; refine wp_lookup_I rfl _ _ 60 rfl Try.underlying60 Try.underlying3 Try.underlying3 (zero3 _) rfl HM.out _ rfl (wf64 (by omega)) ?_))
                      go_ret
                      exact ⟨ret_b HN.out.symm, HB.out⟩
                    · have hgt : (i : Int) - wd < lastAt l (i + 1) (k : Int) - 1 := by omega
                      clear hle
                      go_wp2_with (first
                        | (at_lookup; refine wp_lookup_I rfl _ _ 60 rfl Try.underlying60 Try.underlying3 Try.underlying3 (zero3 _) rfl HM.out _ rfl (wf64 (by omega)) ?_))
                      go_roundg (m - (k + 1))
                      case measure => have := HQ.out; omega
                      case rel => exact ⟨k + 1, by omega, by go_num, ⟨rfl⟩, ⟨fun k' hk' => by
                        by_cases e : k' = k
                        · rw [e]; exact hgt
                        · exact HL.out k' (by omega)⟩, HM, HX, HB⟩
                  · have hkw : ¬ (k : Int) < wk := fun h => hkm ((HM2.out k).1 h)
                    have hkw2 : wk ≤ (k : Int) := by omega
                    obtain rfl : k = m := by omega
                    have hcr : Aside0 (condR l wk wd i = true) := ⟨by
                      unfold condR
                      rw [HM1.out, decide_eq_false (by omega : ¬ (i : Int) + 1 < wd), decide_eq_true htk2, Bool.false_or, Bool.true_and, List.all_eq_true]
                      intro x hx
                      exact decide_eq_true (HL.out x (by simpa using hx))⟩
                    clear hkm hkw
                    go_wp2
                    go_roundw
                    case rel => exact ⟨i + 1, by omega, rfl, by go_num, ⟨fun j hj => by
                      by_cases e : j = i
                      · subst e; exact ⟨K3.out, hcr.out⟩
                      · exact HA.out j (by omega)⟩, HM, HX, HB⟩
                    case measure => simp [intOf]; omega
      · obtain rfl : i = l.length := by omega
        have hyes : Aside0 (refFair l wk wd = true) := ⟨by
          unfold refFair
          rw [decide_eq_true hin2.out.1, decide_eq_true hin2.out.2, Bool.true_and, Bool.true_and, List.all_eq_true]
          intro j hj
          have := HA.out j (by simpa using hj)
          rw [this.2, decide_eq_true this.1]; rfl⟩
        go_wp2
        go_ret
        exact ⟨ret_b hyes.out.symm, HB.out⟩
  · have hno : Aside0 (refFair l wk wd = false) := ⟨by
      unfold refFair
      by_cases h : 1 ≤ wd
      · rw [decide_eq_false (fun h2 => hin ⟨h, h2⟩)]; simp
      · rw [decide_eq_false h]; simp⟩
    by_cases h : 1 ≤ wd
    · have h2 : 1024 < wd := by omega
      clear hin
      go_wp2
      go_ret
      exact ⟨ret_b hno.out.symm, below_alloc (Below.refl _ _) _⟩
    · have h2 : wd < 1 := by omega
      clear hin h
      go_wp2
      go_ret
      exact ⟨ret_b hno.out.symm, below_alloc (Below.refl _ _) _⟩
end Go.Proofs.Ytllmgaimdmmahaa.P
