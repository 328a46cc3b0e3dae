import Derived.Test.YtllmgaimdmmahaaP0
import Derived.Test.YtllmgaimdmmahaaMp
import Derived.LoopN
import Derived.StillTailTactics
namespace Go.Proofs.Ytllmgaimdmmahaa.P
open Go.RowKit Go.Proofs.YtllmgaimdmmahaaW.PrintWords Go.Proofs.YtllmgaimdmmahaaW.PrintLast Go.Proofs.YtllmgaimdmmahaaW.PrintMore
open Go.Proofs.Ytllmgaimdmmahaa.Mp
attribute [local go_sem] max2_int min2_int max_two min_two max_three min_three max_four min_four
set_option linter.unusedVariables false
set_option linter.unusedSimpArgs false

/-- How many of the first j acts are a Pick of worker i. -/
def picks (l : List S39) (j : Nat) (i : Int) : Int := ((l.take j).countP fun a => decide (a.f0 = 6 ∧ a.f1 = i) : Nat)
def ticks (l : List S39) (j : Nat) : Int := ((l.take j).countP fun a => decide (a.f0 = 5) : Nat)
def wfAct (a : S39) : Prop := -9223372036854775808 ≤ a.f1 ∧ a.f1 ≤ 9223372036854775807
def fullB (l : List S39) (w : Int) : Bool := ((List.range w.toNat).all fun k => decide (picks l l.length (k : Int) ≠ 0)) && decide (0 < ticks l l.length)

theorem take_step (l : List S39) (j : Nat) (h : j < l.length) : l.take (j + 1) = l.take j ++ [rd_T39 l j] := by
  rw [List.take_succ_eq_append_getElem h]
  simp [rd_T39, List.getD_eq_getElem?_getD, List.getElem?_eq_getElem h]
theorem ticks_step (l : List S39) (j : Nat) (h : j < l.length) : ticks l (j + 1) = ticks l j + if (rd_T39 l j).f0 = 5 then 1 else 0 := by
  unfold ticks; rw [take_step l j h, List.countP_append]
  by_cases e : (rd_T39 l j).f0 = 5 <;> simp [e]
theorem picks_step (l : List S39) (j : Nat) (h : j < l.length) (i : Int) : picks l (j + 1) i = if (rd_T39 l j).f0 = 6 ∧ (rd_T39 l j).f1 = i then picks l j i + 1 else picks l j i := by
  unfold picks; rw [take_step l j h, List.countP_append]
  by_cases e : (rd_T39 l j).f0 = 6 ∧ (rd_T39 l j).f1 = i <;> simp [e]
theorem ticks_le (l : List S39) (j : Nat) : 0 ≤ ticks l j ∧ ticks l j ≤ j := by
  unfold ticks
  have := List.countP_le_length (p := fun a : S39 => decide (a.f0 = 5)) (l := l.take j)
  have h2 := List.length_take_le j l
  omega
theorem picks_le (l : List S39) (j : Nat) (i : Int) : 0 ≤ picks l j i ∧ picks l j i ≤ j := by
  unfold picks
  have := List.countP_le_length (p := fun a : S39 => decide (a.f0 = 6 ∧ a.f1 = i)) (l := l.take j)
  have h2 := List.length_take_le j l
  omega
theorem ret_b {a b : Bool} (h : a = b) : Ending.returned (.bool a) = .returned (.bool b) := by rw [h]
theorem zero3 (w : World) : (zeroValue 3).run Try.prog w = .ok (.int .i64 0) w := by kernel_rfl
theorem wf64 {x : Int} (h : -9223372036854775808 ≤ x ∧ x ≤ 9223372036854775807) : (Lit.int .i64 x).wf = true := by
  simp [Lit.wf, IntKind.min, IntKind.max, IntKind.bits, IntKind.signed]; omega

set_option maxHeartbeats 4000000 in
set_option maxRecDepth 100000 in
theorem full_any (A0 : Option Addr) (c0 : Nat) (l : List S39) (wk : Int) (w : World) (hr0 : Kd.C k39 w A0 l.length l) (hc0 : l.length ≤ c0) (hw : ∀ a ∈ l, wfAct a) (hwk : wk ≤ 9223372036854775807) :
    Calls Try.prog 17 #[.slice A0 l.length c0, .int .i64 wk] w fun e w' => e = .returned (.bool (fullB l wk)) ∧ Below w.heap.size w w' := by
  have hu39 := Try.underlying39
  have hu60 := Try.underlying60
  have hmm := @run_makeMap Try.prog
  have hlen : l.length ≤ 9223372036854775807 := hr0.2.1
  have HR := Aside0.mk hr0
  have HW := Aside0.mk hw
  clear hr0 hw
  go_enter Try.func17, Try.ntmps17
  go_wp2
  go_loopw [5, 13] (fun v5 v13 wr => ∃ j : Nat, j ≤ l.length ∧ v5 = .int .i64 (ticks l j) ∧ v13 = .int .i64 (j : Int) ∧ Aside0 (MapI Try.prog 3 3 wr w.heap.size j (picks l j)) ∧ Aside0 (Below w.heap.size w wr)) (fun _ v13 _ => l.length - (intOf v13).toNat)
  case atStart => exact ⟨0, Nat.zero_le _, by simp [ticks], rfl, ⟨(MapI.made w _ _ _).congr (fun i => by simp [picks]) rfl⟩, ⟨below_alloc (Below.refl _ _) _⟩⟩
  case round =>
    obtain ⟨j, hj, rfl, rfl, HM, HB⟩ := hrel
    by_cases hlt : j < l.length
    · have h0 : 0 ≤ (j : Int) := by omega
      have h1 : (j : Int) < l.length := by omega
      obtain ⟨ad, e0, x0, x1, x2, x3, x4, x5, x6, x7, x8, x9⟩ := at_T39 HR.out (j : Int) h0 h1
      cases e0
      simp only [Int.toNat_natCast] at x0 x1 x2 x3 x4 x5 x6 x7 x8 x9
      replace x0 := pw_cell_below HB.out x0
      replace x1 := pw_cell_below HB.out x1
      replace x2 := pw_cell_below HB.out x2
      replace x3 := pw_cell_below HB.out x3
      replace x4 := pw_cell_below HB.out x4
      replace x5 := pw_cell_below HB.out x5
      replace x6 := pw_cell_below HB.out x6
      replace x7 := pw_cell_below HB.out x7
      replace x8 := pw_cell_below HB.out x8
      replace x9 := pw_cell_below HB.out x9
      have ht := ticks_le l j
      have hs := Aside0.mk (ticks_step l j hlt)
      have hp := Aside0.mk (picks_step l j hlt)
      have hwf : wfAct (rd_T39 l j) := HW.out _ (by simp [rd_T39, List.getD_eq_getElem?_getD, List.getElem?_eq_getElem hlt])
      by_cases k5 : (rd_T39 l j).f0 = 5
      · have b5 : ((rd_T39 l j).f0 == 5) = true := by simpa using k5
        have K5 := Aside0.mk k5
        clear k5
        go_wp2
        go_roundw
        case rel => exact ⟨j + 1, by omega, by rw [hs.out, if_pos K5.out], by go_num, ⟨((HM.out.alloc _).congr (fun i => by rw [hp.out, if_neg (by rw [K5.out]; simp)]) rfl).mono (Nat.le_succ _)⟩, ⟨below_alloc HB.out _⟩⟩
        case measure => simp [intOf]; omega
      · have b5 : ((rd_T39 l j).f0 == 5) = false := by simpa using k5
        have K5 := Aside0.mk k5
        clear k5
        by_cases k6 : (rd_T39 l j).f0 = 6
        · have b6 : ((rd_T39 l j).f0 == 6) = true := by simpa using k6
          have K6 := Aside0.mk k6
          clear k6
          have hpl := picks_le l j (rd_T39 l j).f1
          go_wp2_with (first
            | (at_lookup; refine wp_lookup_I rfl _ _ 60 rfl Try.underlying60 Try.underlying3 Try.underlying3 (zero3 _) rfl (HM.out.alloc _) _ rfl (wf64 hwf) ?_)
            | (at_mapUpdate; refine wp_update_I rfl _ _ _ 60 rfl Try.underlying60 Try.underlying3 Try.underlying3 rfl (HM.out.alloc _) (by unfold maxLen; omega) _ _ rfl rfl (wf64 hwf) (wf64 (by omega)) ?_; intro w1 hm1 hg1))
          go_roundw
          case rel =>
            exact ⟨j + 1, by omega, by rw [hs.out, if_neg K5.out, Int.add_zero], by go_num, ⟨hm1.congr (fun i => by
                rw [hp.out]; unfold upd
                by_cases e : i = (rd_T39 l j).f1
                · rw [if_pos e, if_pos ⟨K6.out, e.symm⟩, e]
                · rw [if_neg e, if_neg (fun h => e h.2.symm)]) rfl⟩, ⟨(below_alloc HB.out _).grown hg1 (by have := HB.out.size; simp; omega) (fun k e => by cases e; exact Nat.le_refl _)⟩⟩
          case measure => simp [intOf]; omega
        · have b6 : ((rd_T39 l j).f0 == 6) = false := by simpa using k6
          have K6 := Aside0.mk k6
          clear k6
          go_wp2
          go_roundw
          case rel => exact ⟨j + 1, by omega, by rw [hs.out, if_neg K5.out, Int.add_zero], by go_num, ⟨((HM.out.alloc _).congr (fun i => by rw [hp.out, if_neg (fun h => K6.out h.1)]) rfl).mono (Nat.le_succ _)⟩, ⟨below_alloc HB.out _⟩⟩
          case measure => simp [intOf]; omega
    · obtain rfl : j = l.length := by omega
      have htk := ticks_le l l.length
      clear hlt hj
      obtain ⟨m, hm, hmx⟩ : ∃ m : Nat, wk.toNat = m ∧ max wk 0 = (m : Int) := ⟨wk.toNat, rfl, by omega⟩
      have hmw : (m : Int) ≤ 9223372036854775807 := by omega
      have hfin : Aside0 (∀ j : Nat, j ≤ m → (∀ i : Nat, i < j → picks l l.length i ≠ 0) → (j < m → picks l l.length j = 0) → fullB l wk = if j = m then decide (0 < ticks l l.length) else false) := by
        refine ⟨fun j hj hall hz => ?_⟩
        unfold fullB
        rw [hm]
        by_cases e : j = m
        · rw [if_pos e]
          have : (List.range m).all (fun k => decide (picks l l.length (k : Int) ≠ 0)) = true := by
            rw [List.all_eq_true]; intro k hk; exact decide_eq_true (hall k (by rw [e]; simpa using hk))
          rw [this, Bool.true_and]
        · rw [if_neg e]
          have : (List.range m).all (fun k => decide (picks l l.length (k : Int) ≠ 0)) = false := by
            rw [List.all_eq_false]; exact ⟨j, by simp; omega, by simp [hz (by omega)]⟩
          rw [this, Bool.false_and]
      have HMX := Aside0.mk hm
      clear hm
      by_cases hw0 : wk ≤ 0
      · have hm0 : m = 0 := by omega
        subst hm0
        go_wp2
        all_goals
          refine wp_loop_rounds 1 ?_
          rw [rounds_succ]
          go_wp2
          go_ret
          exact ⟨ret_b (by rw [hfin.out 0 (Nat.le_refl _) (fun _ h => by omega) (fun h => by omega), if_pos rfl]), HB.out⟩
      · obtain rfl : wk = (m : Int) := by omega
        clear hmx HMX
        go_wp2
        go_loopw [33] (fun v33 w2 => ∃ j : Nat, j ≤ m ∧ v33 = .int .i64 (j : Int) ∧ Aside0 (∀ i : Nat, i < j → picks l l.length i ≠ 0) ∧ Aside0 (MapI Try.prog 3 3 w2 w.heap.size l.length (picks l l.length)) ∧ Aside0 (Below w.heap.size w w2)) (fun v33 _ => m - (intOf v33).toNat)
        case atStart => exact ⟨0, Nat.zero_le _, rfl, ⟨fun _ h => by omega⟩, HM, HB⟩
        case round =>
          obtain ⟨j, hj, rfl, HA, HM2, HB2⟩ := hrel
          by_cases hlt : j < m
          · by_cases hz : picks l l.length j = 0
            · have hb : (picks l l.length (j : Int) == 0) = true := by simpa using hz
              have HZ := Aside0.mk hz
              clear hz
              go_wp2_with (first
                | (at_lookup; refine wp_lookup_I rfl _ _ 60 rfl Try.underlying60 Try.underlying3 Try.underlying3 (zero3 _) rfl HM2.out _ rfl (wf64 (by omega)) ?_))
              go_ret
              exact ⟨ret_b (by rw [hfin.out j hj HA.out (fun _ => HZ.out), if_neg (by omega)]), HB2.out⟩
            · have hb : (picks l l.length (j : Int) == 0) = false := by simpa using hz
              have HZ := Aside0.mk hz
              clear hz
              go_wp2_with (first
                | (at_lookup; refine wp_lookup_I rfl _ _ 60 rfl Try.underlying60 Try.underlying3 Try.underlying3 (zero3 _) rfl HM2.out _ rfl (wf64 (by omega)) ?_))
              go_roundw
              case rel => exact ⟨j + 1, by omega, by go_num, ⟨fun i hi => by
                by_cases e : i = j
                · rw [e]; exact HZ.out
                · exact HA.out i (by omega)⟩, HM2, HB2⟩
              case measure => simp [intOf]; omega
          · obtain rfl : j = m := by omega
            go_wp2
            go_ret
            exact ⟨ret_b (by rw [hfin.out j hj HA.out (fun h => by omega), if_pos rfl]), HB2.out⟩
theorem fair1_any (x0 x1 x2 x3 x4 x5 x6 x7 x8 x9 : Int) (w : World) :
    Calls Try.prog 15 #[.agg #[.int .i64 x0, .int .i64 x1, .int .i64 x2, .int .i64 x3, .int .i64 x4, .int .i64 x5, .int .i64 x6, .int .i64 x7, .int .i64 x8, .int .i64 x9]] w fun e w' => e = .returned (.bool (x0 == 3)) ∧ Below w.heap.size w w' := by
  have hu39 := Try.underlying39
  go_enter Try.func15, Try.ntmps15
  go_wp2
  go_ret
  exact ⟨ret_b (by first | rfl | simp), below_alloc (Below.refl _ _) _⟩

def drainAt (l : List S39) (j : Nat) : Bool := (l.take j).any fun a => a.f0 == 3
theorem drainAt_step (l : List S39) (j : Nat) (h : j < l.length) : drainAt l (j + 1) = (drainAt l j || (rd_T39 l j).f0 == 3) := by
  unfold drainAt; rw [take_step l j h, List.any_append]; simp

set_option maxHeartbeats 4000000 in
set_option maxRecDepth 100000 in
theorem idxAct_any (A0 : Option Addr) (c0 : Nat) (l : List S39) (w : World) (hr0 : Kd.C k39 w A0 l.length l) (hc0 : l.length ≤ c0) :
    Calls Try.prog 22 #[.slice A0 l.length c0, .func (.func 15) #[] #[]] w fun e w' => (∃ n : Int, e = .returned (.int .i64 n) ∧ (drainAt l l.length = true ∧ 0 ≤ n ∨ drainAt l l.length = false ∧ n = -1)) ∧ Below w.heap.size w w' := by
  have hu39 := Try.underlying39
  have hlen : l.length ≤ 9223372036854775807 := hr0.2.1
  have HR := Aside0.mk hr0
  clear hr0
  go_enter Try.func22, Try.ntmps22
  go_wp2
  go_loopw [8] (fun v8 wr => ∃ j : Nat, j ≤ l.length ∧ v8 = .int .i64 (j : Int) ∧ Aside0 (drainAt l j = false) ∧ Aside0 (Below w.heap.size w wr)) (fun v8 _ => l.length - (intOf v8).toNat)
  case atStart => exact ⟨0, Nat.zero_le _, rfl, ⟨by simp [drainAt]⟩, ⟨Below.refl _ _⟩⟩
  case round =>
    obtain ⟨j, hj, rfl, HD, HB⟩ := hrel
    by_cases hlt : j < l.length
    · have h0 : 0 ≤ (j : Int) := by omega
      have h1 : (j : Int) < l.length := by omega
      obtain ⟨ad, e0, x0, x1, x2, x3, x4, x5, x6, x7, x8, x9⟩ := at_T39 HR.out (j : Int) h0 h1
      cases e0
      simp only [Int.toNat_natCast] at x0 x1 x2 x3 x4 x5 x6 x7 x8 x9
      replace x0 := pw_cell_below HB.out x0
      replace x1 := pw_cell_below HB.out x1
      replace x2 := pw_cell_below HB.out x2
      replace x3 := pw_cell_below HB.out x3
      replace x4 := pw_cell_below HB.out x4
      replace x5 := pw_cell_below HB.out x5
      replace x6 := pw_cell_below HB.out x6
      replace x7 := pw_cell_below HB.out x7
      replace x8 := pw_cell_below HB.out x8
      replace x9 := pw_cell_below HB.out x9
      have hs := Aside0.mk (drainAt_step l j hlt)
      by_cases k3 : (rd_T39 l j).f0 = 3
      · have b3 : ((rd_T39 l j).f0 == 3) = true := by simpa using k3
        have hdr : Aside0 (drainAt l l.length = true) := ⟨by
          unfold drainAt; rw [List.take_length, List.any_eq_true]
          exact ⟨rd_T39 l j, by simp [rd_T39, List.getD_eq_getElem?_getD, List.getElem?_eq_getElem hlt], b3⟩⟩
        clear k3
        go_wp2_with (go_at_call 15; refine (fair1_any _ _ _ _ _ _ _ _ _ _ _).mono ?_; rintro e w' ⟨rfl, hb⟩; have HB2 := Aside0.mk (below_step HB.out hb); clear hb)
        go_ret
        exact ⟨⟨_, rfl, .inl ⟨hdr.out, h0⟩⟩, HB2.out⟩
      · have b3 : ((rd_T39 l j).f0 == 3) = false := by simpa using k3
        clear k3
        have hn : Aside0 (drainAt l (j + 1) = false) := ⟨by rw [hs.out, HD.out, b3]; rfl⟩
        go_wp2_with (go_at_call 15; refine (fair1_any _ _ _ _ _ _ _ _ _ _ _).mono ?_; rintro e w' ⟨rfl, hb⟩; have HB2 := Aside0.mk (below_step HB.out hb); clear hb)
        go_roundw
        case rel => exact ⟨j + 1, by omega, by go_num, hn, HB2⟩
        case measure => simp [intOf]; omega
    · obtain rfl : j = l.length := by omega
      go_wp2
      go_ret
      exact ⟨⟨-1, rfl, .inr ⟨HD.out, rfl⟩⟩, HB.out⟩

set_option maxHeartbeats 4000000 in
set_option maxRecDepth 100000 in
theorem hasAct_any (A0 : Option Addr) (c0 : Nat) (l : List S39) (w : World) (hr0 : Kd.C k39 w A0 l.length l) (hc0 : l.length ≤ c0) :
    Calls Try.prog 14 #[.slice A0 l.length c0, .func (.func 15) #[] #[]] w fun e w' => e = .returned (.bool (drainAt l l.length)) ∧ Below w.heap.size w w' := by
  have H := Aside0.mk (idxAct_any A0 c0 l w hr0 hc0)
  clear hr0
  go_enter Try.func14, Try.ntmps14
  go_wp2_with (go_at_call 22; refine H.out.mono ?_; rintro e w' ⟨⟨n, rfl, hn⟩, hb⟩; have HN := Aside0.mk hn; have HB := Aside0.mk hb; clear hn hb)
  go_ret
  refine ⟨ret_b ?_, HB.out⟩
  rcases HN.out with ⟨h1, h2⟩ | ⟨h1, rfl⟩
  · rw [h1]; exact decide_eq_true h2
  · rw [h1]; rfl
theorem in_any (n lo hi : Int) (w : World) : Calls Try.prog 16 #[.int .i64 n, .int .i64 lo, .int .i64 hi] w fun e w' => e = .returned (.bool (decide (lo ≤ n) && decide (n ≤ hi))) ∧ w = w' := by
  go_enter Try.func16, Try.ntmps16
  by_cases h1 : lo ≤ n
  · have b1 : decide (lo ≤ n) = true := decide_eq_true h1
    go_wp2
    all_goals (go_ret; exact ⟨ret_b (by first | rfl | simp [*]), rfl⟩)
  · have b1 : decide (lo ≤ n) = false := decide_eq_false h1
    go_wp2
    all_goals (go_ret; exact ⟨ret_b (by first | rfl | simp [*]), rfl⟩)

/-- The windows from k on, so many of them, are full. -/
def fairB (l : List S39) (wk wd : Int) : Bool :=
  decide (1 ≤ wd) && decide (wd ≤ 1024) && !drainAt l l.length && ((List.range (l.length + 1)).all fun k => decide ((l.length : Int) < k + wd) || fullB ((l.drop k).take wd.toNat) wk)

theorem slice3 (ad : Addr) (n c j m : Nat) (hm : 0 < m) (h : j + m ≤ c) (W : World) :
    (Instr.slice 28 (.slice (some ad) n c) (some (.int .i64 (j : Int))) (some (.int .i64 ((j : Int) + m))) (some (.int .i64 ((j : Int) + m)))).run Try.prog W = .ok (.slice (some (ad.add (j * 10))) m m) W := by
  have hel : Try.prog.elem 28 = 39 := by simp [Program.elem, Try.underlying28]
  have hu : Try.prog.underlying 28 = some (.slice (Try.prog.elem 28)) := by rw [hel]; exact Try.underlying28
  obtain ⟨i, hi, hz⟩ := Option.map_eq_some_iff.1 (show (Try.prog.info? 39).map (fun i => i.size) = some 10 by kernel_rfl)
  rw [run_slice_lhm W 28 (some ad) n c hu .i64 .i64 .i64 (j : Int) ((j : Int) + m) ((j : Int) + m) (by omega) (by omega) (by omega) (by omega), hel]
  have e1 : ((j : Int) + m).toNat = j + m := by omega
  simp only [sizeOf, typeInfo, Sem.run_bind, hi, e1, Int.toNat_natCast]
  simp [Result.andThen, sliced, hi, hz, Nat.add_sub_cancel_left]
  omega

set_option maxHeartbeats 8000000 in
set_option maxRecDepth 100000 in
theorem fair_any (A0_0 : Option Addr) (c0_0 : Nat) (l0_0 : List (S87)) (A0_1 : Option Addr) (c0_1 : Nat) (l0_1 : List (S59)) (wk a3 a4 a5 : Int) (A1 : Option Addr) (c1 : Nat) (l : List S39) (wd : Int) (w : World)
    (hr1 : Kd.C k39 w A1 l.length l) (hc1 : l.length ≤ c1) (hw : ∀ a ∈ l, wfAct a) (hwk : wk ≤ 9223372036854775807) (hlen : l.length ≤ 4611686018427387904) :
    Calls Try.prog 6 #[.agg #[.slice A0_0 l0_0.length c0_0, .slice A0_1 l0_1.length c0_1, .int .i64 wk, .int .i64 a3, .int .i64 a4, .int .i64 a5], .slice A1 l.length c1, .int .i64 wd] w fun e w' => e = .returned (.bool (fairB l wk wd)) ∧ Below w.heap.size w w' := by
  have hu27 := Try.underlying27
  have hu28 := Try.underlying28
  have HH := fun W (hb : Below w.heap.size w W) => hasAct_any A1 c1 l W (Kd.C_below hr1 hb) hc1
  have HR := Aside0.mk hr1
  have HW := Aside0.mk hw
  have HC := Aside0.mk hc1
  clear hr1 hw hc1
  have hH := Aside0.mk HH
  clear HH
  go_enter Try.func6, Try.ntmps6
  by_cases hin : 1 ≤ wd ∧ wd ≤ 1024
  · obtain ⟨h1, h2⟩ := hin
    have b1 : decide ((1 : Int) ≤ wd) = true := decide_eq_true h1
    have b2 : decide (wd ≤ 1024) = true := decide_eq_true h2
    cases hdr : drainAt l l.length with
    | true =>
      have HD := Aside0.mk hdr
      go_wp2_with (first
        | (go_at_call 14; refine (hH.out _ (by first | exact below_alloc (Below.refl _ _) _)).mono ?_; rw [HD.out]; rintro e w' ⟨rfl, hb⟩; have HB := Aside0.mk (below_step (below_alloc (Below.refl _ _) _) hb); clear hb)
        | (go_at_call 16; refine (in_any _ _ _ _).mono ?_; rintro e w' ⟨rfl, rfl⟩))
      go_ret
      exact ⟨ret_b (by unfold fairB; rw [HD.out]; simp), HB.out⟩
    | false =>
      have HD := Aside0.mk hdr
      clear hdr
      go_wp2_with (first
        | (go_at_call 14; refine (hH.out _ (by first | exact below_alloc (Below.refl _ _) _)).mono ?_; rw [HD.out]; rintro e W1 ⟨rfl, hb⟩; have HBX := Aside0.mk hb; have HB := Aside0.mk (below_step (below_alloc (Below.refl _ _) _) hb); clear hb)
        | (go_at_call 16; refine (in_any _ _ _ _).mono ?_; rintro e w' ⟨rfl, rfl⟩))
      have hbx : W1.heap[w.heap.size]? = some (.cells #[.slice A0_0 l0_0.length c0_0, .slice A0_1 l0_1.length c0_1, .int .i64 wk, .int .i64 a3, .int .i64 a4, .int .i64 a5] 27 (0, 0)) := (HBX.out.block _ (by simp)).trans (heap_alloc_new w _)
      have HX := Aside0.mk hbx
      clear hbx HBX
      have hsz := HB.out.size
      go_loopw [8] (fun v8 wr => ∃ j : Nat, j ≤ l.length + 1 ∧ v8 = .int .i64 (j : Int) ∧ Aside0 (∀ i : Nat, i < j → (i : Int) + wd ≤ l.length → fullB ((l.drop i).take wd.toNat) wk = true) ∧ Aside0 (wr.heap[w.heap.size]? = some (.cells #[.slice A0_0 l0_0.length c0_0, .slice A0_1 l0_1.length c0_1, .int .i64 wk, .int .i64 a3, .int .i64 a4, .int .i64 a5] 27 (0, 0))) ∧ Aside0 (Below w.heap.size w wr)) (fun v8 _ => l.length + 1 - (intOf v8).toNat)
      case atStart => exact ⟨0, Nat.zero_le _, rfl, ⟨fun _ h => by omega⟩, HX, HB⟩
      case round =>
        clear HX HB
        obtain ⟨j, hj, rfl, HA, HX, HB⟩ := hrel
        by_cases hk : (j : Int) + wd ≤ l.length
        · obtain ⟨m, rfl⟩ := Int.eq_ofNat_of_zero_le (by omega : 0 ≤ wd)
          obtain ⟨ad, rfl, _⟩ := HR.out.2.2 (by omega)
          have hread : k39.C wr (some (ad.add (j * 10))) ((l.drop j).take m).length ((l.drop j).take m) := by
            have h1 := Kd.C_drop (Kd.C_below HR.out HB.out) (by omega : j ≤ l.length) (Nat.le_succ_of_le HC.out)
            rw [if_neg (by have := HC.out; omega)] at h1
            exact Kd.C_take h1 (by simp; omega)
          have hl2 : ((l.drop j).take m).length = m := by simp; omega
          have hwf2 : ∀ a ∈ (l.drop j).take m, wfAct a := fun a ha => HW.out a (List.mem_of_mem_drop (List.mem_of_mem_take ha))
          have hfull := full_any (some (ad.add (j * 10))) m ((l.drop j).take m) wk
          rw [hl2] at hfull hread
          have HF := Aside0.mk (fun W (hb : Below wr.heap.size wr W) => hfull W (Kd.C_below hread hb) (Nat.le_refl _) hwf2 hwk)
          have hc2 : wr.cell? ⟨w.heap.size, 2, none⟩ = some (.int .i64 wk) := (blk_cell HX.out 2).trans rfl
          clear hfull hread hwf2 hl2
          have hsl := slice3 ad l.length c1 j m (by omega) (by have := HC.out; omega)
          have hjc : (j : Int) + (m : Int) ≤ c1 := by have := HC.out; omega
          have hne : ¬ (j + m = j) := by omega
          go_wp2
          have hwj : IntKind.i64.wrap ((j : Int) + (m : Int)) = (j : Int) + m := by rw [IntKind.wrap_i64]; omega
          go_still_tail 11, (by kernel_rfl)
          change wpList _ _ _ _ _ wr.drew
          clear hwj
          have HBD := Aside0.mk (below_drew1 HB.out)
          have HXD := Aside0.mk (blk_drew HX.out)
          have hcall := Aside0.mk (HF.out wr.drew (below_drew (Below.refl _ _)))
          clear hc2 HF HX HB hsl
          generalize wr.drew = w2 at *
          cases hfl : fullB ((l.drop j).take m) wk with
          | true =>
            rw [hfl] at hcall
            have HFL := Aside0.mk hfl
            clear hfl
            go_wp2_with (go_at_call 17; refine hcall.out.mono ?_; rintro e W3 ⟨rfl, hb⟩; have HB3 := Aside0.mk (below_step HBD.out hb); have HX3 := Aside0.mk (blk_below HXD.out hb); clear hb)
            go_roundw
            case rel => exact ⟨j + 1, by omega, by go_num, ⟨fun i hi hle => by
              by_cases e : i = j
              · rw [e]; simpa using HFL.out
              · exact HA.out i (by omega) hle⟩, HX3, HB3⟩
            case measure => simp [intOf]; omega
          | false =>
            rw [hfl] at hcall
            have HFL := Aside0.mk hfl
            clear hfl
            go_wp2_with (go_at_call 17; refine hcall.out.mono ?_; rintro e W3 ⟨rfl, hb⟩; have HB3 := Aside0.mk (below_step HBD.out hb); have HX3 := Aside0.mk (blk_below HXD.out hb); clear hb)
            go_ret
            refine ⟨ret_b ?_, HB3.out⟩
            unfold fairB
            have : ((List.range (l.length + 1)).all fun k => decide ((l.length : Int) < k + (m : Int)) || fullB ((l.drop k).take (m : Int).toNat) wk) = false := by
              rw [List.all_eq_false]
              refine ⟨j, by simp; omega, ?_⟩
              simp only [Int.toNat_natCast]
              rw [HFL.out]
              simp; omega
            rw [this, Bool.and_false]
        · have hk2 : (l.length : Int) < j + wd := by omega
          have hj2 : (j : Int) ≤ l.length + 1 := by omega
          have HJ := Aside0.mk hj
          clear hk hj
          go_wp2
          go_ret
          refine ⟨ret_b ?_, HB.out⟩
          unfold fairB
          have : ((List.range (l.length + 1)).all fun k => decide ((l.length : Int) < k + wd) || fullB ((l.drop k).take wd.toNat) wk) = true := by
            rw [List.all_eq_true]
            intro k hk
            by_cases e : k < j
            · by_cases e2 : (l.length : Int) < k + wd
              · rw [decide_eq_true e2]; rfl
              · rw [HA.out k e (by omega), Bool.or_true]
            · rw [decide_eq_true (by omega : (l.length : Int) < k + wd)]; rfl
          rw [this, HD.out, b1, b2]; rfl
  · have hbb : (decide (1 ≤ wd) && decide (wd ≤ 1024)) = false := by
      rw [Bool.and_eq_false_iff]
      by_cases h : 1 ≤ wd
      · right; exact decide_eq_false (fun h2 => hin ⟨h, h2⟩)
      · left; exact decide_eq_false h
    have HBB := Aside0.mk hbb
    clear hin hbb
    go_wp2_with (first
      | (go_at_call 14; refine (hH.out _ (by first | exact below_alloc (Below.refl _ _) _)).mono ?_; rintro e W1 ⟨rfl, hb⟩; have HB := Aside0.mk (below_step (below_alloc (Below.refl _ _) _) hb); clear hb)
      | (go_at_call 16; refine (in_any _ _ _ _).mono ?_; rw [HBB.out]; rintro e w' ⟨rfl, rfl⟩))
    go_ret
    exact ⟨ret_b (by unfold fairB; rw [HBB.out]; rfl), HB.out⟩
end Go.Proofs.Ytllmgaimdmmahaa.P
