/- The plain law BoundGrows: no program in sight. No condition. -/
import Derived.Test.YtllmgaimdmmahaaP1
import Derived.Test.YtllmgaimdmmahaaOpn
namespace Go.Proofs.Ytllmgaimdmmahaa.P
open Go.RowKit Go.Proofs.YtllmgaimdmmahaaW.PrintWords
set_option linter.unusedVariables false
set_option linter.unusedSimpArgs false

theorem fullB_iff (l : List S39) (w : Int) : fullB l w = true ↔ (∀ k : Nat, k < w.toNat → ∃ a ∈ l, a.f0 = 6 ∧ a.f1 = (k : Int)) ∧ ∃ a ∈ l, a.f0 = 5 := by
  unfold fullB picks ticks
  simp only [Bool.and_eq_true, List.all_eq_true, List.mem_range, decide_eq_true_eq, List.take_length]
  have e : ∀ p : S39 → Bool, 0 < l.countP p ↔ ∃ a ∈ l, p a = true := fun p => List.countP_pos_iff
  refine and_congr ⟨fun h k hk => ?_, fun h k hk => ?_⟩ ?_
  · have h1 := h k hk
    have h2 : 0 < l.countP fun a => decide (a.f0 = 6 ∧ a.f1 = (k : Int)) := by omega
    obtain ⟨a, ha, hp⟩ := (e _).1 h2
    exact ⟨a, ha, by simpa using hp⟩
  · obtain ⟨a, ha, hp⟩ := h k hk
    have h2 : 0 < l.countP fun a => decide (a.f0 = 6 ∧ a.f1 = (k : Int)) := (e _).2 ⟨a, ha, by simpa using hp⟩
    omega
  · constructor
    · intro h
      obtain ⟨a, ha, hp⟩ := (e (fun a => decide (a.f0 = 5))).1 (by omega)
      exact ⟨a, ha, by simpa using hp⟩
    · rintro ⟨a, ha, hp⟩
      have := (e (fun a => decide (a.f0 = 5))).2 ⟨a, ha, by simpa using hp⟩
      omega
theorem fullB_mono {l l' : List S39} {w : Int} (hs : ∀ a ∈ l, a ∈ l') (h : fullB l w = true) : fullB l' w = true := by
  rw [fullB_iff] at h ⊢
  exact ⟨fun k hk => let ⟨a, ha, hp⟩ := h.1 k hk; ⟨a, hs a ha, hp⟩, let ⟨a, ha, hp⟩ := h.2; ⟨a, hs a ha, hp⟩⟩
theorem fairB_iff (l : List S39) (wk wd : Int) : fairB l wk wd = true ↔ 1 ≤ wd ∧ wd ≤ 1024 ∧ drainAt l l.length = false ∧ ∀ k : Nat, (k : Int) + wd ≤ l.length → fullB ((l.drop k).take wd.toNat) wk = true := by
  unfold fairB
  simp only [Bool.and_eq_true, List.all_eq_true, List.mem_range, decide_eq_true_eq, Bool.or_eq_true, Bool.not_eq_true', and_assoc]
  refine and_congr Iff.rfl (and_congr Iff.rfl (and_congr Iff.rfl ⟨fun h k hk => ?_, fun h k hk => ?_⟩))
  · rcases Classical.em (k < l.length + 1) with hh | hh
    · rcases h k hh with h1 | h1
      · omega
      · exact h1
    · have := h (l.length) (by omega)
      rcases this with h1 | h1
      · have h0 : wd ≤ 0 := by omega
        have e : wd.toNat = 0 := by omega
        rcases h 0 (by omega) with h2 | h2
        · omega
        · rw [e] at h2 ⊢; simpa using h2
      · have h0 : wd ≤ 0 := by omega
        have e : wd.toNat = 0 := by omega
        rw [e] at h1 ⊢; simpa using h1
  · rcases Classical.em ((l.length : Int) < k + wd) with hh | hh
    · exact Or.inl hh
    · exact Or.inr (h k (by omega))
theorem fairB_mono {l : List S39} {wk wd wd' : Int} (hle : wd ≤ wd') (h1024 : wd' ≤ 1024) (h : fairB l wk wd = true) : fairB l wk wd' = true := by
  rw [fairB_iff] at h ⊢
  refine ⟨by omega, h1024, h.2.2.1, fun k hk => ?_⟩
  refine fullB_mono (fun a ha => ?_) (h.2.2.2 k (by omega))
  have e : (l.drop k).take wd.toNat = ((l.drop k).take wd'.toNat).take wd.toNat := by
    rw [List.take_take, Nat.min_eq_left (by omega)]
  rw [e] at ha
  exact List.mem_of_mem_take ha
theorem drain_end (l : List S39) (n : Int) (x : S37) (wk wd : Int) : fairB (l ++ [⟨3, n, x⟩]) wk wd = false := by
  rw [Bool.eq_false_iff]
  intro h
  have := ((fairB_iff _ _ _).1 h).2.2.1
  unfold drainAt at this
  rw [List.take_length, List.any_append] at this
  simp at this
theorem rooms_nonneg (qs : List S59) (h : qs.all roomOk = true) : 0 ≤ roomsB qs qs.length ∧ roomsB qs qs.length ≤ 16 * qs.length := by
  unfold roomsB
  rw [List.take_length]
  induction qs with
  | nil => simp
  | cons q qs ih =>
    simp only [List.all_cons, Bool.and_eq_true] at h
    have := ih h.2
    have h1 := h.1
    unfold roomOk at h1
    simp only [Bool.and_eq_true, decide_eq_true_eq] at h1
    simp only [List.map_cons, List.sum_cons, List.length_cons]
    omega
theorem entries_grow (qs : List S59) (tmo rt ag wd wd' : Int) (h0 : 1 ≤ wd) (hle : wd ≤ wd') (h1 : wd' ≤ 1024) :
    (entriesB qs tmo rt ag wd).2 = (entriesB qs tmo rt ag wd').2 ∧ ((entriesB qs tmo rt ag wd).2 = 0 → ¬ (entriesB qs tmo rt ag wd').1 < (entriesB qs tmo rt ag wd).1 ∧ ¬ (entriesB qs tmo rt ag wd).1 < wd) := by
  unfold entriesB
  have a1 : decide (1 ≤ wd) = true := by simpa using h0
  have a2 : decide (wd ≤ 1024) = true := by simp; omega
  have a3 : decide (1 ≤ wd') = true := by simp; omega
  have a4 : decide (wd' ≤ 1024) = true := by simpa using h1
  rw [a1, a2, a3, a4]
  simp only [Bool.true_and]
  by_cases hc : (decide (qs.length ≤ 8) && inU ag && inU tmo && inU rt && qs.all roomOk) = true
  · rw [if_pos hc, if_pos hc]
    refine ⟨rfl, fun _ => ?_⟩
    simp only [Bool.and_eq_true] at hc
    obtain ⟨⟨⟨⟨_, hag⟩, htm⟩, hrt⟩, hq⟩ := hc
    have hr := (rooms_nonneg qs hq).1
    unfold inU at hag htm hrt
    simp only [Bool.and_eq_true, decide_eq_true_eq] at hag htm hrt
    have p1 : (17 * ag + 1) * wd ≤ (17 * ag + 1) * wd' := Int.mul_le_mul_of_nonneg_left hle (by omega)
    have q0 : 0 ≤ (roomsB qs qs.length + 1) * (tmo + rt + 8) := Int.mul_nonneg (by omega) (by omega)
    have p2 : (roomsB qs qs.length + 1) * (tmo + rt + 8) * wd ≤ (roomsB qs qs.length + 1) * (tmo + rt + 8) * wd' := Int.mul_le_mul_of_nonneg_left hle q0
    have p3 : 0 ≤ (roomsB qs qs.length + 1) * (tmo + rt + 8) * wd := Int.mul_nonneg q0 (by omega)
    have p4 : 1 * wd ≤ (17 * ag + 1) * wd := Int.mul_le_mul_of_nonneg_right (by omega) (by omega)
    simp only
    omega
  · rw [if_neg hc, if_neg hc]
    exact ⟨rfl, fun h => by cases h⟩
theorem w_id {x : Int} (h : -9223372036854775808 ≤ x ∧ x ≤ 9223372036854775807) : wrap64 x = x := by unfold wrap64; omega
theorem tmod_by {x : Int} (h : U8 x) : 0 ≤ Int.tmod x 100 ∧ Int.tmod x 100 ≤ 99 := by
  unfold U8 at h
  rw [Int.tmod_eq_emod_of_nonneg h.1]
  omega
theorem fair_def (q : List S87) (s : List S59) (l : List S39) (a b c d wd : Int) (h1 : ∀ x ∈ l, wfAct x) (h2 : a ≤ 9223372036854775807) (h3 : l.length ≤ 4611686018427387904) : bound_Fair.f q s a b c d l wd = some (fairB l a wd) := by
  unfold bound_Fair.f
  rw [if_pos ⟨h1, h2, h3⟩]
theorem Pure.BoundGrows (x0 : S27) (x1 : List S39) (x2 x3 : Int) (h0 : wfd27 x0) (h1 : x1.length ≤ maxLen ∧ ∀ y ∈ x1, wfd39 y) (h2 : I64 x2) (h3 : U8 x3) :
    ∃ k, ensemblelaw20_BoundGrows.f k x0.f0.f0 x0.f1 x0.f2 x0.f3 x0.f4 x0.f5 x1 x2 x3 = some true := by
  refine ⟨2, ?_⟩
  have ht := tmod_by h3
  have j0t : ensemblelaw20_BoundGrows.j0 2 x1 x2 x3 true x0.f0.f0 x0.f1 x0.f2 x0.f3 x0.f4 x0.f5 = some true := by
    rw [ensemblelaw20_BoundGrows.j0]; simp
  unfold ensemblelaw20_BoundGrows.f ensemblelaw20_awake.f
  rw [Option.bind_some, if_pos rfl]
  split
  · exact j0t
  rename_i hl
  split
  · exact j0t
  rename_i hw
  split
  · exact j0t
  rename_i hq
  split
  · exact j0t
  rename_i hn
  by_cases h9 : x2 > 900
  · rw [decide_eq_true h9]; exact j0t
  rw [decide_eq_false h9]
  have hwd : wrap64 (x2 + wrap64 (Int.tmod x3 100)) = x2 + Int.tmod x3 100 := by
    rw [w_id (x := Int.tmod x3 100) (by omega), w_id (by omega)]
  have hacts : ∀ a ∈ x1, wfAct a := fun a ha => (h1.2 a ha).2.1
  have hwk : x0.f2 ≤ 9223372036854775807 := h0.2.2.1.2
  rw [ensemblelaw20_BoundGrows.j0, if_neg (by simp), hwd]
  have hF : ∀ wd, bound_Fair.f x0.f0.f0 x0.f1 x0.f2 x0.f3 x0.f4 x0.f5 x1 wd = some (fairB x1 x0.f2 wd) := fun wd => fair_def _ _ _ _ _ _ _ _ hacts hwk (by omega)
  have hD : bound_Fair.f x0.f0.f0 x0.f1 x0.f2 x0.f3 x0.f4 x0.f5 (([] ++ x1) ++ [(⟨3, 0, (⟨0, 0, 0, 0, (⟨0, 0, 0, 0⟩ : S35)⟩ : S37)⟩ : S39)]) x2 = some false := by
    rw [fair_def _ _ _ _ _ _ _ _ _ hwk (by simp; omega), drain_end]
    intro a ha
    simp only [List.nil_append, List.mem_append, List.mem_singleton] at ha
    rcases ha with ha | rfl
    · exact hacts a ha
    · exact ⟨by simp, by simp⟩
  have hE : ∀ wd, bound_Entries.f x0.f0.f0 x0.f1 x0.f2 x0.f3 x0.f4 x0.f5 wd = some (entriesB x0.f1 x0.f3 x0.f4 x0.f5 wd) := fun _ => rfl
  have hg := entries_grow x0.f1 x0.f3 x0.f4 x0.f5 x2 (x2 + Int.tmod x3 100) (by omega) (by omega) (by omega)
  have hj1 : ensemblelaw20_BoundGrows.j1 1 x1 x2 (x2 + Int.tmod x3 100) false x0.f0.f0 x0.f1 x0.f2 x0.f3 x0.f4 x0.f5 = some true := by
    rw [ensemblelaw20_BoundGrows.j1, if_neg (by simp), hE, hE, Option.bind_some, Option.bind_some, if_pos hg.1]
    have hlen : ([] : List S39).length + x1.length < 1759218604441 := by simp; omega
    have hlen2 : (([] : List S39) ++ x1).length < 1759218604441 := by simp; omega
    simp only [Option.bind_some, if_pos hlen, if_pos hlen2, hD, Bool.not_false]
    split
    · rename_i h0
      rw [if_neg (hg.2 h0).1, if_neg (hg.2 h0).2]
    · rfl
  rw [hF, hF, Option.bind_some, Option.bind_some]
  split
  · rename_i hh
    have : fairB x1 x0.f2 (x2 + Int.tmod x3 100) = true := fairB_mono (by omega) (by omega) hh
    rw [this]
    exact hj1
  · exact hj1
end Go.Proofs.Ytllmgaimdmmahaa.P
