/- The plain law BoundTells: no program in sight. No condition. -/
import Derived.Test.YtllmgaimdmmahaaP6
import Derived.Test.YtllmgaimdmmahaaPureBoundGrows
namespace Go.Proofs.Ytllmgaimdmmahaa.P
open Go.RowKit Go.Proofs.YtllmgaimdmmahaaW.PrintWords
set_option linter.unusedVariables false
set_option linter.unusedSimpArgs false

/-! ### Started -/
theorem rd44 (l : List S44) (i : Nat) (h : i < l.length) : rd_T44 l (i : Int) = l[i] := by
  simp [rd_T44, List.getD_eq_getElem?_getD, List.getElem?_eq_getElem h]
theorem rd64 (l : List S64) (i : Nat) (h : i < l.length) : rd_T64 l (i : Int) = l[i] := by
  simp [rd_T64, List.getD_eq_getElem?_getD, List.getElem?_eq_getElem h]
theorem rd39' (l : List S39) (i : Nat) (h : i < l.length) : rd_T39 l (i : Int) = l[i] := by
  simp [rd_T39, List.getD_eq_getElem?_getD, List.getElem?_eq_getElem h]
theorem rd59' (l : List S59) (i : Nat) (h : i < l.length) : rd_T59 l (i : Int) = l[i] := by
  simp [rd_T59, List.getD_eq_getElem?_getD, List.getElem?_eq_getElem h]
theorem started_l (m : Nat) : ∀ (k : Nat) (l : List S44) (id : Int) (i : Nat), l.length ≤ 1000 → (∀ r ∈ l, r.f1.length ≤ 100) → i ≤ l.length → 110 * (l.length - i) + 1 ≤ k → l.length - i = m →
    ensembleref20_Started.l0 k l id (i : Int) = some (firstI (hasStart id) (l.drop i) (i : Int)) := by
  induction m with
  | zero =>
    intro k l id i hl hr hi hk hm
    obtain ⟨k, rfl⟩ := Nat.exists_eq_succ_of_ne_zero (show k ≠ 0 by omega)
    rw [ensembleref20_Started.l0, if_neg (by omega), List.drop_eq_nil_of_le (by omega)]
    rfl
  | succ m ih =>
    intro k l id i hl hr hi hk hm
    have hil : i < l.length := by omega
    obtain ⟨k, rfl⟩ := Nat.exists_eq_succ_of_ne_zero (show k ≠ 0 by omega)
    rw [ensembleref20_Started.l0, if_pos (by omega), List.drop_eq_getElem_cons hil, firstI]
    have key : ∀ (n : Nat) (k j : Nat), j ≤ (l[i]).f1.length → (l[i]).f1.length - j = n → n + 2 + 110 * (l.length - (i + 1)) ≤ k →
        ensembleref20_Started.l1 k l id (i : Int) (j : Int) = if ((l[i]).f1.drop j).any (isStart id) = true then some (i : Int) else ensembleref20_Started.l0 (k - 1 - n) l id ((i : Int) + 1) := by
      intro n
      induction n with
      | zero =>
        intro k j hj hn hk
        obtain ⟨k, rfl⟩ := Nat.exists_eq_succ_of_ne_zero (show k ≠ 0 by omega)
        rw [ensembleref20_Started.l1, if_pos (by omega), if_pos (by omega), rd44 l i hil, if_neg (by omega), List.drop_eq_nil_of_le (by omega), w_id (by omega)]
        simp
      | succ n ihn =>
        intro k j hj hn hk
        have hjl : j < (l[i]).f1.length := by omega
        have h100 := hr (l[i]) (List.getElem_mem hil)
        obtain ⟨k, rfl⟩ := Nat.exists_eq_succ_of_ne_zero (show k ≠ 0 by omega)
        have e1 : (j : Int) + 1 = ((j + 1 : Nat) : Int) := by omega
        rw [ensembleref20_Started.l1, if_pos (by omega), if_pos (by omega), rd44 l i hil, if_pos (by omega), if_pos (by omega), rd64 _ j hjl, w_id (x := (j : Int) + 1) (by omega), e1, ihn k (j + 1) (by omega) (by omega) (by omega), List.drop_eq_getElem_cons hjl, List.any_cons]
        have e2 : k + 1 - 1 - (n + 1) = k - 1 - n := by omega
        rw [e2]
        by_cases h4 : ((l[i]).f1[j]).f0 = 4
        · by_cases hid : ((l[i]).f1[j]).f1 = id
          · rw [if_pos h4, if_pos hid]
            simp [isStart, h4, hid]
          · rw [if_pos h4, if_neg hid]
            simp [isStart, h4, hid]
        · rw [if_neg h4]
          simp [isStart, h4]
    have hk0 := key (l[i]).f1.length k 0 (by omega) (by omega) (by have := hr (l[i]) (List.getElem_mem hil); omega)
    rw [show ((0 : Nat) : Int) = 0 from rfl] at hk0
    rw [hk0, List.drop_zero]
    have hs : ((l[i]).f1.any (isStart id)) = hasStart id l[i] := rfl
    rw [hs]
    by_cases hh : hasStart id l[i] = true
    · rw [if_pos hh, if_pos hh]
    · rw [if_neg hh, if_neg hh]
      have e3 : (i : Int) + 1 = ((i + 1 : Nat) : Int) := by omega
      rw [e3]
      exact ih _ l id (i + 1) hl hr (by omega) (by have := hr (l[i]) (List.getElem_mem hil); omega) (by omega)

/-! ### Entries -/
def roomsFrom (qs : List S59) (a : Int) : Int := qs.foldl (fun s q => wrap64 (s + q.f1)) a
def endR (x1 a3 a4 a5 : Int) (ok : Bool) (s : Int) : Option (Int × Int) := if ok = true then (some (wrap64 ((wrap64 (x1 * (wrap64 ((wrap64 (17 * a5)) + 1)))) + (wrap64 ((wrap64 (x1 * s)) * (wrap64 ((wrap64 (a3 + a4)) + 8))))), 0)) else (some (0, 1))
theorem entries_l (m : Nat) : ∀ (k : Nat) (x1 : Int) (ok : Bool) (s : Int) (i : Nat) (q : List S87) (qs : List S59) (a2 a3 a4 a5 : Int), qs.length ≤ 1000 → i ≤ qs.length → qs.length - i = m → m + 1 ≤ k →
    ensembleref20_Entries.l0 k x1 ok s (i : Int) q qs a2 a3 a4 a5 = endR x1 a3 a4 a5 (ok && (qs.drop i).all roomOk) (roomsFrom (qs.drop i) s) := by
  induction m with
  | zero =>
    intro k x1 ok s i q qs a2 a3 a4 a5 hl hi hm hk
    obtain ⟨k, rfl⟩ := Nat.exists_eq_succ_of_ne_zero (show k ≠ 0 by omega)
    rw [ensembleref20_Entries.l0, if_neg (by omega), List.drop_eq_nil_of_le (by omega)]
    simp [endR, roomsFrom]
  | succ m ih =>
    intro k x1 ok s i q qs a2 a3 a4 a5 hl hi hm hk
    obtain ⟨k, rfl⟩ := Nat.exists_eq_succ_of_ne_zero (show k ≠ 0 by omega)
    have hil : i < qs.length := by omega
    have e1 : (i : Int) + 1 = ((i + 1 : Nat) : Int) := by omega
    have I := fun ok s => ih k x1 ok s (i + 1) q qs a2 a3 a4 a5 hl (by omega) (by omega) (by omega)
    rw [ensembleref20_Entries.l0, if_pos (by omega), if_pos (by omega), rd59' qs i hil, w_id (x := (i : Int) + 1) (by omega), e1, I, I, List.drop_eq_getElem_cons hil]
    have hs : roomsFrom (qs[i] :: qs.drop (i + 1)) s = roomsFrom (qs.drop (i + 1)) (wrap64 (s + (qs[i]).f1)) := rfl
    rw [hs, List.all_cons]
    by_cases h0 : (qs[i]).f1 < 0
    · rw [if_pos h0]
      have : roomOk qs[i] = false := by unfold roomOk; rw [decide_eq_false (by omega)]; rfl
      rw [this]; simp
    · rw [if_neg h0]
      by_cases h16 : (qs[i]).f1 > 16
      · rw [if_pos h16]
        have : roomOk qs[i] = false := by unfold roomOk; rw [decide_eq_false (p := (qs[i]).f1 ≤ 16) (by omega)]; simp
        rw [this]; simp
      · rw [if_neg h16]
        have : roomOk qs[i] = true := by unfold roomOk; rw [decide_eq_true (by omega), decide_eq_true (by omega)]; rfl
        rw [this]; simp
theorem roomsFrom_eq (qs : List S59) (a : Int) (h0 : 0 ≤ a) (ha : a + 16 * qs.length ≤ 1000000) (h : qs.all roomOk = true) : roomsFrom qs a = a + (qs.map fun q => q.f1).sum := by
  induction qs generalizing a with
  | nil => simp [roomsFrom]
  | cons q qs ih =>
    simp only [List.all_cons, Bool.and_eq_true] at h
    have h1 := h.1
    unfold roomOk at h1
    simp only [Bool.and_eq_true, decide_eq_true_eq] at h1
    simp only [List.length_cons] at ha
    have hs : roomsFrom (q :: qs) a = roomsFrom qs (wrap64 (a + q.f1)) := rfl
    rw [hs, w_id (by omega), ih _ (by omega) (by omega) h.2, List.map_cons, List.sum_cons]
    omega
theorem refEntries (k : Nat) (hk : 200 ≤ k) (q : List S87) (qs : List S59) (a2 a3 a4 a5 wd : Int) (hl : qs.length ≤ 100) :
    ensembleref20_Entries.f k q qs a2 a3 a4 a5 wd = some (entriesB qs a3 a4 a5 wd) := by
  have J : ∀ ok, ensembleref20_Entries.j0 k wd ok q qs a2 a3 a4 a5 = endR wd a3 a4 a5 (ok && qs.all roomOk) (roomsFrom qs 1) := by
    intro ok
    obtain ⟨k, rfl⟩ := Nat.exists_eq_succ_of_ne_zero (show k ≠ 0 by omega)
    rw [ensembleref20_Entries.j0]
    exact entries_l qs.length k wd ok 1 0 q qs a2 a3 a4 a5 (by omega) (by omega) (by omega) (by omega)
  have R : ∀ ok s, endR wd a3 a4 a5 ok s = if ok = true then endR wd a3 a4 a5 true s else some (0, 1) := by
    intro ok s; cases ok <;> simp [endR]
  have E : entriesB qs a3 a4 a5 wd = if (decide (1 ≤ wd) && decide (wd ≤ 1024) && decide (qs.length ≤ 8) && inU a5 && inU a3 && inU a4 && qs.all roomOk) = true then ((17 * a5 + 1) * wd + (roomsB qs qs.length + 1) * (a3 + a4 + 8) * wd, 0) else (0, 1) := rfl
  rw [E]
  have F : ensembleref20_Entries.f k q qs a2 a3 a4 a5 wd = endR wd a3 a4 a5 (decide (1 ≤ wd) && decide (wd ≤ 1024) && decide (qs.length ≤ 8) && inU a5 && inU a3 && inU a4 && qs.all roomOk) (roomsFrom qs 1) := by
    unfold ensembleref20_Entries.f
    simp only [J, ge_iff_le]
    unfold inU
    by_cases c1 : 1 ≤ wd
    · by_cases c2 : wd ≤ 1024
      · by_cases c3 : (qs.length : Int) ≤ 8
        · have c3' : qs.length ≤ 8 := by omega
          by_cases c4 : 0 ≤ a5
          · by_cases c5 : a5 ≤ 1048576
            · by_cases c6 : 0 ≤ a3
              · by_cases c7 : a3 ≤ 1048576
                · by_cases c8 : 0 ≤ a4 <;> simp [c1, c2, c3, c3', c4, c5, c6, c7, c8]
                · simp [c1, c2, c3, c4, c5, c6, c7]
              · simp [c1, c2, c3, c4, c5, c6]
            · simp [c1, c2, c3, c4, c5]
          · simp [c1, c2, c3, c4]
        · have c3' : ¬ qs.length ≤ 8 := by omega
          simp [c1, c2, c3, c3']
      · simp [c1, c2]
    · simp [c1]
  rw [F, R]
  by_cases hc : (decide (1 ≤ wd) && decide (wd ≤ 1024) && decide (qs.length ≤ 8) && inU a5 && inU a3 && inU a4 && qs.all roomOk) = true
  · rw [if_pos hc, if_pos hc]
    simp only [Bool.and_eq_true, decide_eq_true_eq] at hc
    obtain ⟨⟨⟨⟨⟨⟨hw1, hw2⟩, h8⟩, hag⟩, htm⟩, hrt⟩, hq⟩ := hc
    have hr := rooms_nonneg qs hq
    unfold inU at hag htm hrt
    simp only [Bool.and_eq_true, decide_eq_true_eq] at hag htm hrt
    have hrf : roomsFrom qs 1 = 1 + roomsB qs qs.length := by
      rw [roomsFrom_eq qs 1 (by omega) (by omega) hq]; unfold roomsB; rw [List.take_length]
    have b1 := mul_bd (a := wd) (b := 17 * a5 + 1) (A := 1024) (B := 17825793) (by omega) (by omega) (by omega) (by omega)
    have b2 := mul_bd (a := wd) (b := 1 + roomsB qs qs.length) (A := 1024) (B := 129) (by omega) (by omega) (by omega) (by omega)
    have b3 := mul_bd (a := wd * (1 + roomsB qs qs.length)) (b := a3 + a4 + 8) (A := 1024 * 129) (B := 2097160) (by omega) (by omega) (by omega) (by omega)
    unfold endR
    rw [if_pos rfl, hrf, w_id (x := 17 * a5) (by omega), w_id (x := 17 * a5 + 1) (by omega), w_id (x := wd * (17 * a5 + 1)) (by omega), w_id (x := wd * (1 + roomsB qs qs.length)) (by omega), w_id (x := a3 + a4) (by omega), w_id (x := a3 + a4 + 8) (by omega), w_id (x := wd * (1 + roomsB qs qs.length) * (a3 + a4 + 8)) (by omega), w_id (by omega)]
    have e1 : wd * (17 * a5 + 1) = (17 * a5 + 1) * wd := Int.mul_comm _ _
    have e2 : wd * (1 + roomsB qs qs.length) * (a3 + a4 + 8) = (roomsB qs qs.length + 1) * (a3 + a4 + 8) * wd := by
      rw [Int.mul_assoc, Int.mul_comm wd, Int.add_comm 1]
    rw [e1, e2]
  · rw [if_neg hc, if_neg hc]

/-! ### Fair: the two forms -/
theorem tickAt_iff (l : List S39) (x : Int) (hx : 0 ≤ x) : ∀ i, i ≤ l.length → (x ≤ tickAt l i ↔ ∃ j : Nat, j < i ∧ x ≤ j ∧ (rd_T39 l j).f0 = 5)
  | 0, _ => by simp [tickAt]; omega
  | i + 1, h => by
    have ih := tickAt_iff l x hx i (by omega)
    have bd := tickAt_bd l i
    rw [tickAt]
    split
    · rename_i h5
      constructor
      · intro h; exact ⟨i, by omega, h, h5⟩
      · rintro ⟨j, hj, hxj, _⟩; omega
    · rename_i h5
      rw [ih]
      constructor
      · rintro ⟨j, hj, h1, h2⟩; exact ⟨j, by omega, h1, h2⟩
      · rintro ⟨j, hj, h1, h2⟩
        refine ⟨j, ?_, h1, h2⟩
        rcases Nat.lt_or_ge j i with h | h
        · exact h
        · exact absurd (by rw [show j = i by omega] at h2; exact h2) h5
theorem lastAt_iff (l : List S39) (k x : Int) (hx : 0 ≤ x) : ∀ i, i ≤ l.length → (x < lastAt l i k ↔ ∃ j : Nat, j < i ∧ x ≤ j ∧ (rd_T39 l j).f0 = 6 ∧ (rd_T39 l j).f1 = k)
  | 0, _ => by simp [lastAt]; omega
  | i + 1, h => by
    have ih := lastAt_iff l k x hx i (by omega)
    have bd := lastAt_bd l i k
    rw [lastAt]
    split
    · rename_i h5
      constructor
      · intro h; exact ⟨i, by omega, by omega, h5⟩
      · rintro ⟨j, hj, hxj, _⟩; omega
    · rename_i h5
      rw [ih]
      constructor
      · rintro ⟨j, hj, h1, h2⟩; exact ⟨j, by omega, h1, h2⟩
      · rintro ⟨j, hj, h1, h2⟩
        refine ⟨j, ?_, h1, h2⟩
        rcases Nat.lt_or_ge j i with h | h
        · exact h
        · exact absurd (by rw [show j = i by omega] at h2; exact h2) h5
theorem mem_win (l : List S39) (k w : Nat) (h : k + w ≤ l.length) (a : S39) : a ∈ (l.drop k).take w ↔ ∃ j : Nat, k ≤ j ∧ j < k + w ∧ rd_T39 l (j : Int) = a := by
  constructor
  · intro ha
    obtain ⟨n, hn, e⟩ := List.mem_iff_getElem.1 ha
    rw [List.length_take, List.length_drop] at hn
    refine ⟨k + n, by omega, by omega, ?_⟩
    rw [rd39' l (k + n) (by omega), ← e, List.getElem_take, List.getElem_drop]
  · rintro ⟨j, h1, h2, rfl⟩
    rw [rd39' l j (by omega)]
    refine List.mem_iff_getElem.2 ⟨j - k, by rw [List.length_take, List.length_drop]; omega, ?_⟩
    rw [List.getElem_take, List.getElem_drop]
    simp only [Nat.add_sub_cancel' h1]
theorem cond_full (l : List S39) (wk wd : Int) (h1 : 1 ≤ wd) (k : Nat) (hk : (k : Int) + wd ≤ l.length) :
    condR l wk wd (k + wd.toNat - 1) = fullB ((l.drop k).take wd.toNat) wk := by
  rw [Bool.eq_iff_iff, fullB_iff]
  unfold condR
  have e0 : ((k + wd.toNat - 1 : Nat) : Int) = k + wd - 1 := by omega
  have e1 : k + wd.toNat - 1 + 1 = k + wd.toNat := by omega
  rw [e0, e1]
  have hlt : decide ((k : Int) + wd - 1 + 1 < wd) = false := decide_eq_false (by omega)
  rw [hlt]
  simp only [Bool.false_or, Bool.and_eq_true, decide_eq_true_eq, List.all_eq_true, List.mem_range]
  have hw : k + wd.toNat ≤ l.length := by omega
  have et : ((k : Int) + wd - 1 - wd < tickAt l (k + wd.toNat)) ↔ (k : Int) ≤ tickAt l (k + wd.toNat) := by omega
  rw [et, tickAt_iff l k (by omega) _ hw]
  have el : ∀ m : Nat, ((k : Int) + wd - 1 - wd < lastAt l (k + wd.toNat) (m : Int) - 1) ↔ (k : Int) < lastAt l (k + wd.toNat) (m : Int) := fun m => by omega
  simp only [el, lastAt_iff l _ (k : Int) (by omega) _ hw]
  constructor
  · rintro ⟨⟨j, hj, hkj, h5⟩, hp⟩
    refine ⟨fun m hm => ?_, ⟨rd_T39 l j, (mem_win l k wd.toNat hw _).2 ⟨j, by omega, hj, rfl⟩, h5⟩⟩
    obtain ⟨j, hj, hkj, h6⟩ := hp m hm
    exact ⟨rd_T39 l j, (mem_win l k wd.toNat hw _).2 ⟨j, by omega, hj, rfl⟩, h6⟩
  · rintro ⟨hp, a, ha, h5⟩
    obtain ⟨j, h1, h2, rfl⟩ := (mem_win l k wd.toNat hw _).1 ha
    refine ⟨⟨j, h2, by omega, h5⟩, fun m hm => ?_⟩
    obtain ⟨b, hb, h6⟩ := hp m hm
    obtain ⟨j, h1, h2, rfl⟩ := (mem_win l k wd.toNat hw _).1 hb
    exact ⟨j, h2, by omega, h6⟩
theorem drain_iff (l : List S39) : drainAt l l.length = false ↔ ∀ i, i < l.length → (rd_T39 l (i : Int)).f0 ≠ 3 := by
  unfold drainAt
  rw [List.take_length, List.any_eq_false]
  constructor
  · intro h i hi
    rw [rd39' l i hi]
    simpa using h _ (List.getElem_mem hi)
  · intro h a ha
    obtain ⟨i, hi, rfl⟩ := List.mem_iff_getElem.1 ha
    have := h i hi
    rw [rd39' l i hi] at this
    simpa using this
theorem fair_two (l : List S39) (wk wd : Int) : fairB l wk wd = refFair l wk wd := by
  rw [Bool.eq_iff_iff, fairB_iff]
  unfold refFair
  simp only [Bool.and_eq_true, decide_eq_true_eq, List.all_eq_true, List.mem_range, and_assoc]
  constructor
  · rintro ⟨h1, h2, h3, h4⟩
    refine ⟨h1, h2, fun i hi => ⟨(drain_iff l).1 h3 i hi, ?_⟩⟩
    by_cases hc : (i : Int) + 1 < wd
    · unfold condR; rw [decide_eq_true hc]; rfl
    · have := cond_full l wk wd h1 (i + 1 - wd.toNat) (by omega)
      rw [show i + 1 - wd.toNat + wd.toNat - 1 = i by omega] at this
      rw [this]
      exact h4 _ (by omega)
  · rintro ⟨h1, h2, h3⟩
    refine ⟨h1, h2, (drain_iff l).2 fun i hi => (h3 i hi).1, fun k hk => ?_⟩
    rw [← cond_full l wk wd h1 k hk]
    exact (h3 _ (by omega)).2

theorem Pure.BoundTells (x0 : S27) (x1 : List S39) (x2 : Int) (x3 : List S44) (x4 : Int) (h0 : wfd27 x0) (h1 : x1.length ≤ maxLen ∧ ∀ y ∈ x1, wfd39 y) (h2 : I64 x2) (h3 : x3.length ≤ maxLen ∧ ∀ y ∈ x3, wfd44 y) (h4 : I64 x4) :
    ∃ k, ensemblelaw20_BoundTells.f k x0.f0.f0 x0.f1 x0.f2 x0.f3 x0.f4 x0.f5 x1 x2 x3 x4 = some true := by
  refine ⟨40000, ?_⟩
  have j0t : ∀ k, ensemblelaw20_BoundTells.j0 (k + 1) x1 x2 x3 x4 true x0.f0.f0 x0.f1 x0.f2 x0.f3 x0.f4 x0.f5 = some true := by
    intro k; rw [ensemblelaw20_BoundTells.j0]; simp
  unfold ensemblelaw20_BoundTells.f ensemblelaw20_awake.f
  rw [Option.bind_some, if_pos rfl]
  split
  · exact j0t 39999
  rename_i hl
  split
  · exact j0t 39999
  rename_i hr
  split
  · exact j0t 39999
  rename_i hw
  by_cases hq : (x0.f1.length : Int) > 100
  · rw [decide_eq_true hq]; exact j0t 39999
  rw [decide_eq_false hq]
  rw [ensemblelaw20_BoundTells.j0, if_neg (by simp)]
  have main : ∀ k, 30000 ≤ k → (∀ r ∈ x3, r.f1.length ≤ 100) → ensemblelaw20_BoundTells.l0 (k + 1) x1 x2 x3 x4 (x3.length : Int) x0.f0.f0 x0.f1 x0.f2 x0.f3 x0.f4 x0.f5 = some true := by
    intro k hk hev
    have hE : bound_Entries.f x0.f0.f0 x0.f1 x0.f2 x0.f3 x0.f4 x0.f5 x2 = some (entriesB x0.f1 x0.f3 x0.f4 x0.f5 x2) := rfl
    have hS : bound_Slack.f x2 = some (if 1 ≤ x2 ∧ x2 ≤ 1024 then (4 * x2, 0) else (0, 1)) := by
      unfold bound_Slack.f bound_in.f
      by_cases c1 : x2 ≥ 1
      · by_cases c2 : x2 ≤ 1024
        · rw [if_pos c1, decide_eq_true c2, Option.bind_some, if_pos rfl, w_id (by omega), if_pos ⟨c1, c2⟩]
        · rw [if_pos c1, decide_eq_false c2, Option.bind_some, if_neg (by simp), if_neg (by omega)]
      · rw [if_neg c1, Option.bind_some, if_neg (by simp), if_neg (by omega)]
    rw [ensemblelaw20_BoundTells.l0, if_neg (by omega), hE, refEntries k (by omega) _ _ _ _ _ _ _ (by omega), hS]
    simp only [Option.bind_some]
    have hj3 : ∀ k, 29000 ≤ k → ensemblelaw20_BoundTells.j3 (k + 1) x1 x2 x3 x4 (entriesB x0.f1 x0.f3 x0.f4 x0.f5 x2).1 (entriesB x0.f1 x0.f3 x0.f4 x0.f5 x2).2 (entriesB x0.f1 x0.f3 x0.f4 x0.f5 x2).1 (entriesB x0.f1 x0.f3 x0.f4 x0.f5 x2).2 false x0.f0.f0 x0.f1 x0.f2 x0.f3 x0.f4 x0.f5 = some true := by
      intro k hk
      have hacts : ∀ a ∈ x1, wfAct a := fun a ha => (h1.2 a ha).2.1
      have hwk : x0.f2 ≤ 9223372036854775807 := h0.2.2.1.2
      have hF := fair_def x0.f0.f0 x0.f1 x1 x0.f2 x0.f3 x0.f4 x0.f5 x2 hacts hwk (by omega)
      have hG : ensembleref20_Fair.f x0.f0.f0 x0.f1 x0.f2 x0.f3 x0.f4 x0.f5 x1 x2 = some (refFair x1 x0.f2 x2) := by
        unfold ensembleref20_Fair.f; rw [if_pos ⟨hacts, hwk, by omega⟩]
      have hT : ensembleref20_Started.f k x3 x4 = some (firstI (hasStart x4) x3 0) := by
        unfold ensembleref20_Started.f
        exact started_l x3.length k x3 x4 0 (by omega) hev (by omega) (by omega) (by omega)
      have hU : bound_Started.f x3 x4 = some (firstI (hasStart x4) x3 0) := rfl
      rw [ensemblelaw20_BoundTells.j3, if_neg (by simp), if_pos rfl, if_pos rfl, hF, hG, hT, hU]
      simp [fair_two]
    obtain ⟨k, rfl⟩ : ∃ m, k = m + 1 := ⟨k - 1, by omega⟩
    obtain ⟨k, rfl⟩ : ∃ m, k = m + 1 := ⟨k - 1, by omega⟩
    by_cases c1 : x2 ≥ 1
    · rw [if_pos c1]
      by_cases c2 : x2 ≤ 1024
      · rw [decide_eq_true c2, if_pos ⟨c1, c2⟩, ensemblelaw20_BoundTells.j2]
        have e4 : wrap64 (4 * x2) = 4 * x2 := w_id (by omega)
        simp only [e4]
        exact hj3 k (by omega)
      · rw [decide_eq_false c2, if_neg (by omega), ensemblelaw20_BoundTells.j2]
        exact hj3 k (by omega)
    · rw [if_neg c1, if_neg (by omega), ensemblelaw20_BoundTells.j2]
      exact hj3 k (by omega)
  have loop : ∀ (m k : Nat) (i : Nat), i ≤ x3.length → x3.length - i = m → m + 30001 ≤ k → (∀ j (hj : j < x3.length), j < i → (x3[j]).f1.length ≤ 100) → ensemblelaw20_BoundTells.l0 k x1 x2 x3 x4 (i : Int) x0.f0.f0 x0.f1 x0.f2 x0.f3 x0.f4 x0.f5 = some true := by
    intro m
    induction m with
    | zero =>
      intro k i hi hm hk hprev
      obtain ⟨k, rfl⟩ : ∃ m, k = m + 1 := ⟨k - 1, by omega⟩
      obtain rfl : i = x3.length := by omega
      refine main k (by omega) fun r hr => ?_
      obtain ⟨j, hj, rfl⟩ := List.mem_iff_getElem.1 hr
      exact hprev j hj hj
    | succ m ih =>
      intro k i hi hm hk hprev
      obtain ⟨k, rfl⟩ : ∃ m, k = m + 1 := ⟨k - 1, by omega⟩
      have hil : i < x3.length := by omega
      have e1 : (i : Int) + 1 = ((i + 1 : Nat) : Int) := by omega
      rw [ensemblelaw20_BoundTells.l0, if_pos (by omega), if_pos (by omega), rd44 x3 i hil]
      split
      · rfl
      · rename_i hn
        rw [w_id (x := (i : Int) + 1) (by omega), e1]
        refine ih k (i + 1) (by omega) (by omega) (by omega) fun j hj hlt => ?_
        rcases Nat.lt_or_ge j i with h | h
        · exact hprev j hj h
        · obtain rfl : j = i := by omega
          omega
  exact loop x3.length 39999 0 (by omega) (by omega) (by omega) (fun j _ h => by omega)
end Go.Proofs.Ytllmgaimdmmahaa.P
