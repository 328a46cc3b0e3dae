import Derived.Test.YtllmgaimdmmahaaP0
import Derived.Test.YtllmgaimdmmahaaMp
import Derived.Test.YtllmgaimdmmahaaBG1
import Derived.LoopN
import Derived.StillTailTactics
namespace Go.Proofs.Ytllmgaimdmmahaa.P
open Go.RowKit Go.Proofs.YtllmgaimdmmahaaW.PrintWords Go.Proofs.YtllmgaimdmmahaaW.PrintLast Go.Proofs.YtllmgaimdmmahaaW.PrintMore
open Go.Proofs.Ytllmgaimdmmahaa.Mp
attribute [local go_sem] max2_int min2_int max_two min_two max_three min_three max_four min_four
set_option linter.unusedVariables false
set_option linter.unusedSimpArgs false

def roomsB (qs : List S59) (j : Nat) : Int := ((qs.take j).map fun q => q.f1).sum
def roomOk (q : S59) : Bool := decide (0 ≤ q.f1) && decide (q.f1 ≤ 16)
def inU (n : Int) : Bool := decide (0 ≤ n) && decide (n ≤ 1048576)
def entriesB (qs : List S59) (tmo rt ag wd : Int) : Int × Int :=
  if (decide (1 ≤ wd) && decide (wd ≤ 1024) && decide (qs.length ≤ 8) && inU ag && inU tmo && inU rt && qs.all roomOk) = true then ((17 * ag + 1) * wd + (roomsB qs qs.length + 1) * (tmo + rt + 8) * wd, 0) else (0, 1)
theorem take_step59 (l : List S59) (j : Nat) (h : j < l.length) : l.take (j + 1) = l.take j ++ [rd_T59 l j] := by
  rw [List.take_succ_eq_append_getElem h]
  simp [rd_T59, List.getD_eq_getElem?_getD, List.getElem?_eq_getElem h]
theorem rooms_step (l : List S59) (j : Nat) (h : j < l.length) : roomsB l (j + 1) = roomsB l j + (rd_T59 l j).f1 := by
  unfold roomsB; rw [take_step59 l j h]; simp
theorem all_step59 (l : List S59) (j : Nat) (h : j < l.length) : (l.take (j + 1)).all roomOk = ((l.take j).all roomOk && roomOk (rd_T59 l j)) := by
  rw [take_step59 l j h]; simp
theorem ret_ie {a b c d : Int} (h : (a, c) = (b, d)) : Ending.returned (.tuple #[.int .i64 a, .int .i64 c]) = .returned (.tuple #[.int .i64 b, .int .i64 d]) := by
  obtain ⟨rfl, rfl⟩ := Prod.mk.inj h; rfl

theorem mul_bd {a b A B : Int} (ha : 0 ≤ a) (hA : a ≤ A) (hb : 0 ≤ b) (hB : b ≤ B) : 0 ≤ a * b ∧ a * b ≤ A * B :=
  ⟨Int.mul_nonneg ha hb, Int.mul_le_mul hA hB hb (by omega)⟩
theorem wrap_id {x : Int} (h0 : 0 ≤ x) (h : x ≤ 9223372036854775807) : wrap64 x = x := by unfold wrap64; omega
theorem entries_wrap {ag wd rm s : Int} (ha : 0 ≤ ag ∧ ag ≤ 1048576) (hw : 1 ≤ wd ∧ wd ≤ 1024) (hr : 0 ≤ rm ∧ rm ≤ 128) (hs : 0 ≤ s ∧ s ≤ 2097160) :
    wrap64 (wrap64 ((17 * ag + 1) * wd) + wrap64 (wrap64 ((rm + 1) * s) * wd)) = (17 * ag + 1) * wd + (rm + 1) * s * wd := by
  have p1 := mul_bd (a := 17 * ag + 1) (b := wd) (A := 17825793) (B := 1024) (by omega) (by omega) (by omega) (by omega)
  have p2 := mul_bd (a := rm + 1) (b := s) (A := 129) (B := 2097160) (by omega) (by omega) (by omega) (by omega)
  have p3 := mul_bd (a := (rm + 1) * s) (b := wd) (A := 129 * 2097160) (B := 1024) (by omega) (by omega) (by omega) (by omega)
  rw [wrap_id p1.1 (by omega), wrap_id p2.1 (by omega), wrap_id p3.1 (by omega), wrap_id (by omega) (by omega)]

set_option maxHeartbeats 8000000 in
set_option maxRecDepth 100000 in
theorem entries_any (A0_0 : Option Addr) (c0_0 : Nat) (l0_0 : List (S87)) (A0_1 : Option Addr) (c0_1 : Nat) (qs : List (S59)) (wk tmo rt ag wd : Int) (r1 r2 : Int) (w : World)
    (hr0 : Kd.C k59 w A0_1 qs.length qs) (hc0 : qs.length ≤ c0_1) (h : entriesB qs tmo rt ag wd = (r1, r2)) :
    Calls Try.prog 7 #[.agg #[.slice A0_0 l0_0.length c0_0, .slice A0_1 qs.length c0_1, .int .i64 wk, .int .i64 tmo, .int .i64 rt, .int .i64 ag], .int .i64 wd] w fun e w' => e = .returned (.tuple #[.int .i64 r1, .int .i64 r2]) ∧ Below w.heap.size w w' := by
  have hu27 := Try.underlying27
  have hu55 := Try.underlying55
  have hu59 := Try.underlying59
  have hlen := hr0.2.1
  have HR := Aside0.mk hr0
  have H := Aside0.mk h
  clear hr0 h
  have i0 : ∀ (W : World) (x0 x1 x2 : Value), (Instr.index 55 (.agg #[x0, x1, x2]) (.int .i64 0)).run Try.prog W = .ok x0 W := fun _ _ _ _ => by kernel_rfl
  have i1 : ∀ (W : World) (x0 x1 x2 : Value), (Instr.index 55 (.agg #[x0, x1, x2]) (.int .i64 1)).run Try.prog W = .ok x1 W := fun _ _ _ _ => by kernel_rfl
  have i2 : ∀ (W : World) (x0 x1 x2 : Value), (Instr.index 55 (.agg #[x0, x1, x2]) (.int .i64 2)).run Try.prog W = .ok x2 W := fun _ _ _ _ => by kernel_rfl
  have refuse : ∀ (b : Bool), (decide (1 ≤ wd) && decide (wd ≤ 1024) && decide (qs.length ≤ 8) && inU ag && inU tmo && inU rt && qs.all roomOk) = b → b = false → (0, 1) = (r1, r2) := by
    intro b hb hf
    rw [← H.out]; unfold entriesB; rw [hb, hf]; rfl
  have R := Aside0.mk refuse
  clear refuse
  go_enter Try.func7, Try.ntmps7
  by_cases h1 : (decide (1 ≤ wd) && decide (wd ≤ 1024)) = true
  · have H1 := Aside0.mk h1
    by_cases h8 : 8 < qs.length
    · go_wp2_with (go_at_call 16; refine (in_any _ _ _ _).mono ?_; rw [H1.out]; rintro e w' ⟨rfl, rfl⟩)
      go_ret2
      exact ⟨ret_ie (R.out _ rfl (by rw [decide_eq_false (by omega : ¬ qs.length ≤ 8)]; simp)), below_alloc (Below.refl _ _) _⟩
    · have h8' : qs.length ≤ 8 := by omega
      have HL8 := Aside0.mk h8'
      clear h8'
      have below1 := Aside0.mk (below_alloc (Below.refl w.heap.size w) (.cells #[.slice A0_0 l0_0.length c0_0, .slice A0_1 qs.length c0_1, .int .i64 wk, .int .i64 tmo, .int .i64 rt, .int .i64 ag] 27))
      cases ha : inU ag with
      | false =>
        have HA := Aside0.mk (show (decide (0 ≤ ag) && decide (ag ≤ 1048576)) = false from ha)
        have HT := Aside0.mk trivial
        have HG := Aside0.mk trivial
        have HX := Aside0.mk (R.out _ rfl (by rw [ha]; simp))
        clear ha
        go_wp2_with (go_at_call 16; refine (in_any _ _ _ _).mono ?_; (first | rw [H1.out] | rw [HA.out] | rw [HT.out] | rw [HG.out]); rintro e w' ⟨rfl, rfl⟩)
        refine wp_loop_rounds 4 ?_
        rw [rounds_succ]
        go_wp2_with (go_at_call 16; refine (in_any _ _ _ _).mono ?_; (first | rw [H1.out] | rw [HA.out] | rw [HT.out] | rw [HG.out]); rintro e w' ⟨rfl, rfl⟩)
        go_ret2
        exact ⟨ret_ie HX.out, below1.out⟩
      | true =>
        have HA := Aside0.mk (show (decide (0 ≤ ag) && decide (ag ≤ 1048576)) = true from ha)
        have ba : 0 ≤ ag ∧ ag ≤ 1048576 := by simpa using HA.out
        cases htm : inU tmo with
        | false =>
          have HT := Aside0.mk (show (decide (0 ≤ tmo) && decide (tmo ≤ 1048576)) = false from htm)
          have HG := Aside0.mk trivial
          have HX := Aside0.mk (R.out _ rfl (by rw [htm]; simp))
          clear ha htm
          go_wp2_with (go_at_call 16; refine (in_any _ _ _ _).mono ?_; (first | rw [H1.out] | rw [HA.out] | rw [HT.out] | rw [HG.out]); rintro e w' ⟨rfl, rfl⟩)
          refine wp_loop_rounds 4 ?_
          rw [rounds_succ]
          go_wp2_with (go_at_call 16; refine (in_any _ _ _ _).mono ?_; (first | rw [H1.out] | rw [HA.out] | rw [HT.out] | rw [HG.out]); rintro e w' ⟨rfl, rfl⟩)
          rw [rounds_succ]
          go_wp2_with (go_at_call 16; refine (in_any _ _ _ _).mono ?_; (first | rw [H1.out] | rw [HA.out] | rw [HT.out] | rw [HG.out]); rintro e w' ⟨rfl, rfl⟩)
          go_ret2
          exact ⟨ret_ie HX.out, below1.out⟩
        | true =>
          have HT := Aside0.mk (show (decide (0 ≤ tmo) && decide (tmo ≤ 1048576)) = true from htm)
          have bt2 : 0 ≤ tmo ∧ tmo ≤ 1048576 := by simpa using HT.out
          cases hrt : inU rt with
          | false =>
            have HG := Aside0.mk (show (decide (0 ≤ rt) && decide (rt ≤ 1048576)) = false from hrt)
            have HX := Aside0.mk (R.out _ rfl (by rw [hrt]; simp))
            clear ha htm hrt
            go_wp2_with (go_at_call 16; refine (in_any _ _ _ _).mono ?_; (first | rw [H1.out] | rw [HA.out] | rw [HT.out] | rw [HG.out]); rintro e w' ⟨rfl, rfl⟩)
            refine wp_loop_rounds 4 ?_
            rw [rounds_succ]
            go_wp2_with (go_at_call 16; refine (in_any _ _ _ _).mono ?_; (first | rw [H1.out] | rw [HA.out] | rw [HT.out] | rw [HG.out]); rintro e w' ⟨rfl, rfl⟩)
            rw [rounds_succ]
            go_wp2_with (go_at_call 16; refine (in_any _ _ _ _).mono ?_; (first | rw [H1.out] | rw [HA.out] | rw [HT.out] | rw [HG.out]); rintro e w' ⟨rfl, rfl⟩)
            rw [rounds_succ]
            go_wp2_with (go_at_call 16; refine (in_any _ _ _ _).mono ?_; (first | rw [H1.out] | rw [HA.out] | rw [HT.out] | rw [HG.out]); rintro e w' ⟨rfl, rfl⟩)
            go_ret2
            exact ⟨ret_ie HX.out, below1.out⟩
          | true =>
            have HG := Aside0.mk (show (decide (0 ≤ rt) && decide (rt ≤ 1048576)) = true from hrt)
            have br : 0 ≤ rt ∧ rt ≤ 1048576 := by simpa using HG.out
            have bw : 1 ≤ wd ∧ wd ≤ 1024 := by simpa using H1.out
            have hgo : Aside0 (qs.all roomOk = true → ((17 * ag + 1) * wd + (roomsB qs qs.length + 1) * (tmo + rt + 8) * wd, 0) = (r1, r2)) := ⟨fun hq => by
              rw [← H.out]; unfold entriesB; rw [H1.out, decide_eq_true HL8.out, ha, htm, hrt, hq]; rfl⟩
            have hno : Aside0 (qs.all roomOk = false → (0, 1) = (r1, r2)) := ⟨fun hq => R.out _ rfl (by rw [hq]; simp)⟩
            clear ha htm hrt
            go_wp2_with (go_at_call 16; refine (in_any _ _ _ _).mono ?_; (first | rw [H1.out] | rw [HA.out] | rw [HT.out] | rw [HG.out]); rintro e w' ⟨rfl, rfl⟩)
            refine wp_loop_rounds 4 ?_
            rw [rounds_succ]
            go_wp2_with (go_at_call 16; refine (in_any _ _ _ _).mono ?_; (first | rw [H1.out] | rw [HA.out] | rw [HT.out] | rw [HG.out]); rintro e w' ⟨rfl, rfl⟩)
            rw [rounds_succ]
            go_wp2_with (go_at_call 16; refine (in_any _ _ _ _).mono ?_; (first | rw [H1.out] | rw [HA.out] | rw [HT.out] | rw [HG.out]); rintro e w' ⟨rfl, rfl⟩)
            rw [rounds_succ]
            go_wp2_with (go_at_call 16; refine (in_any _ _ _ _).mono ?_; (first | rw [H1.out] | rw [HA.out] | rw [HT.out] | rw [HG.out]); rintro e w' ⟨rfl, rfl⟩)
            rw [rounds_succ]
            go_wp2_with (go_at_call 16; refine (in_any _ _ _ _).mono ?_; (first | rw [H1.out] | rw [HA.out] | rw [HT.out] | rw [HG.out]); rintro e w' ⟨rfl, rfl⟩)
            go_loopw [8, 37] (fun v8 v37 wr => ∃ j : Nat, j ≤ qs.length ∧ v8 = .int .i64 (roomsB qs j) ∧ v37 = .int .i64 (j : Int) ∧ Aside0 ((qs.take j).all roomOk = true) ∧ Aside0 (0 ≤ roomsB qs j ∧ roomsB qs j ≤ 16 * j) ∧ Aside0 (wr.heap[w.heap.size]? = some (.cells #[.slice A0_0 l0_0.length c0_0, .slice A0_1 qs.length c0_1, .int .i64 wk, .int .i64 tmo, .int .i64 rt, .int .i64 ag] 27 (0, 0))) ∧ Aside0 (Below w.heap.size w wr)) (fun _ v37 _ => qs.length - (intOf v37).toNat)
            case atStart => exact ⟨0, Nat.zero_le _, rfl, rfl, ⟨rfl⟩, ⟨by simp [roomsB]⟩, ⟨heap_alloc_new w _⟩, below1⟩
            case round =>
              obtain ⟨j, hj, rfl, rfl, HA2, HB2, HX, HB⟩ := hrel
              have hrb := HB2.out
              have hsz := HB.out.size
              have hq8 := HL8.out
              by_cases hlt : j < qs.length
              · have h0 : 0 ≤ (j : Int) := by omega
                have hj1 : (j : Int) < qs.length := by omega
                obtain ⟨ad, e0, x0, x1, x2⟩ := at_T59 HR.out (j : Int) h0 hj1
                cases e0
                simp only [Int.toNat_natCast] at x0 x1 x2
                replace x0 := pw_cell_below HB.out x0
                replace x1 := pw_cell_below HB.out x1
                replace x2 := pw_cell_below HB.out x2
                have hs := Aside0.mk (rooms_step qs j hlt)
                have hal := Aside0.mk (all_step59 qs j hlt)
                have hmem : rd_T59 qs j ∈ qs := by simp [rd_T59, List.getD_eq_getElem?_getD, List.getElem?_eq_getElem hlt]
                cases hok : roomOk (rd_T59 qs j) with
                | false =>
                  have HK := Aside0.mk (show (decide (0 ≤ (rd_T59 qs j).f1) && decide ((rd_T59 qs j).f1 ≤ 16)) = false from hok)
                  have HN := Aside0.mk (hno.out (by rw [List.all_eq_false]; exact ⟨_, hmem, by rw [hok]; simp⟩))
                  clear hok hmem
                  go_wp2_with (go_at_call 16; refine (in_any _ _ _ _).mono ?_; rw [HK.out]; rintro e w' ⟨rfl, rfl⟩)
                  go_ret2
                  exact ⟨ret_ie HN.out, below_alloc HB.out _⟩
                | true =>
                  have HK := Aside0.mk (show (decide (0 ≤ (rd_T59 qs j).f1) && decide ((rd_T59 qs j).f1 ≤ 16)) = true from hok)
                  have bq : 0 ≤ (rd_T59 qs j).f1 ∧ (rd_T59 qs j).f1 ≤ 16 := by simpa using HK.out
                  have hok2 := Aside0.mk hok
                  clear hok hmem
                  go_wp2_with (go_at_call 16; refine (in_any _ _ _ _).mono ?_; rw [HK.out]; rintro e w' ⟨rfl, rfl⟩)
                  go_roundw
                  case rel => exact ⟨j + 1, by omega, by rw [hs.out], by go_num, ⟨by rw [hal.out, HA2.out, hok2.out]; rfl⟩, ⟨by rw [hs.out]; omega⟩, ⟨blk_alloc HX.out _⟩, ⟨below_alloc HB.out _⟩⟩
                  case measure => simp [intOf]; omega
              · obtain rfl : j = qs.length := by omega
                have hall : qs.all roomOk = true := by have := HA2.out; rwa [List.take_length] at this
                have HG2 := Aside0.mk (hgo.out hall)
                have c3 : wr.cell? ⟨w.heap.size, 3, none⟩ = some (.int .i64 tmo) := (blk_cell HX.out 3).trans rfl
                have c4 : wr.cell? ⟨w.heap.size, 4, none⟩ = some (.int .i64 rt) := (blk_cell HX.out 4).trans rfl
                have c5 : wr.cell? ⟨w.heap.size, 5, none⟩ = some (.int .i64 ag) := (blk_cell HX.out 5).trans rfl
                clear hall hlt
                go_wp2
                go_ret2
                exact ⟨ret_ie (by rw [entries_wrap ba bw (by omega) (by omega)]; exact HG2.out), HB.out⟩
  · have H1 : Aside0 ((decide (1 ≤ wd) && decide (wd ≤ 1024)) = false) := ⟨by simpa using h1⟩
    clear h1
    go_wp2_with (go_at_call 16; refine (in_any _ _ _ _).mono ?_; rw [H1.out]; rintro e w' ⟨rfl, rfl⟩)
    go_ret2
    exact ⟨ret_ie (R.out _ rfl (by rw [H1.out]; simp)), below_alloc (Below.refl _ _) _⟩
end Go.Proofs.Ytllmgaimdmmahaa.P
