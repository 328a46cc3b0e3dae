import Derived.Test.YtllmgaimdmmahaaP0
import Derived.Test.YtllmgaimdmmahaaMp
import Derived.Test.YtllmgaimdmmahaaBG1
import Derived.LoopN
import Derived.StillTailTactics
namespace Go.Proofs.Ytllmgaimdmmahaa.P
open Go.RowKit Go.Proofs.YtllmgaimdmmahaaW.PrintWords Go.Proofs.YtllmgaimdmmahaaW.PrintLast Go.Proofs.YtllmgaimdmmahaaW.PrintMore
open Go.Proofs.Ytllmgaimdmmahaa.Mp
attribute [local go_sem] max2_int min2_int max_two min_two max_three min_three max_four min_four
set_option linter.unusedVariables false
set_option linter.unusedSimpArgs false

theorem ret_i64 {a b : Int} (h : a = b) : Ending.returned (.int .i64 a) = .returned (.int .i64 b) := by rw [h]
def isStart (id : Int) (e : S64) : Bool := decide (e.f0 = 4) && decide (e.f1 = id)
set_option maxHeartbeats 2000000 in
theorem st11_any (k i n id : Int) (g : Nat) (w : World) (hc : w.cell? ⟨g, 0, none⟩ = some (.int .i64 id)) (hg : g < w.heap.size) :
    Calls Try.prog 21 #[.agg #[.int .i64 k, .int .i64 i, .int .i64 n], .pointer (some ⟨g, 0, none⟩)] w fun e w' => e = .returned (.bool (decide (k = 4) && decide (i = id))) ∧ Below w.heap.size w w' := by
  have hu64 := Try.underlying64
  have hc2 : (w.alloc (.cells #[.int .i64 k, .int .i64 i, .int .i64 n] 64)).cell? ⟨g, 0, none⟩ = some (.int .i64 id) := pw_cell_below (below_alloc (Below.refl _ _) _) hc
  go_enter Try.func21, Try.ntmps21
  by_cases h1 : k = 4
  · have b1 : (k == 4) = true := by simpa using h1
    have H1 := Aside0.mk h1
    clear h1
    go_wp2
    all_goals (go_ret; exact ⟨ret_b (by rw [H1.out]; first | rfl | simp), below_alloc (Below.refl _ _) _⟩)
  · have b1 : (k == 4) = false := by simpa using h1
    have H1 := Aside0.mk h1
    clear h1
    go_wp2
    go_ret
    exact ⟨ret_b (by rw [decide_eq_false H1.out]; rfl), below_alloc (Below.refl _ _) _⟩

/-- The first place of something, from 0 on; -1: nowhere. -/
def firstI {α : Type} (p : α → Bool) : List α → Int → Int
  | [], _ => -1
  | x :: l, i => if p x = true then i else firstI p l (i + 1)
theorem firstI_none {α : Type} {p : α → Bool} {l : List α} {i : Int} (h : ∀ x ∈ l, p x = false) : firstI p l i = -1 := by
  induction l generalizing i with
  | nil => rfl
  | cons x l ih => rw [firstI, h x (by simp), if_neg (by simp), ih (fun y hy => h y (by simp [hy]))]
theorem firstI_at {α : Type} {p : α → Bool} {l : List α} {i : Int} (j : Nat) (x : α) (hx : l[j]? = some x) (hp : p x = true) (h : ∀ k y, k < j → l[k]? = some y → p y = false) : firstI p l i = i + j := by
  induction j generalizing l i with
  | zero =>
    cases l with
    | nil => simp at hx
    | cons y l => simp at hx; subst hx; rw [firstI, if_pos hp]; simp
  | succ j ih =>
    cases l with
    | nil => simp at hx
    | cons y l =>
      rw [firstI, h 0 y (by omega) (by simp), if_neg (by simp), ih (i := i + 1) (by simpa using hx) (fun k z hk hz => h (k + 1) z (by omega) (by simpa using hz))]
      omega
theorem getE {α : Type} {l : List α} {d : α} {j : Nat} (h : j < l.length) : l[j]? = some (l.getD j d) := by simp [List.getD_eq_getElem?_getD, List.getElem?_eq_getElem h]

set_option maxHeartbeats 4000000 in
set_option maxRecDepth 100000 in
theorem idxEv_any (A0 : Option Addr) (c0 : Nat) (l : List S64) (id : Int) (g : Nat) (w : World) (hr0 : Kd.C k64 w A0 l.length l) (hc0 : l.length ≤ c0) (hc : w.cell? ⟨g, 0, none⟩ = some (.int .i64 id)) (hg : g < w.heap.size) :
    Calls Try.prog 23 #[.slice A0 l.length c0, .func (.func 21) #[] #[.pointer (some ⟨g, 0, none⟩)]] w fun e w' => e = .returned (.int .i64 (firstI (isStart id) l 0)) ∧ Below w.heap.size w w' := by
  have hu64 := Try.underlying64
  have hlen : l.length ≤ 9223372036854775807 := hr0.2.1
  have HR := Aside0.mk hr0
  have HC := Aside0.mk hc
  clear hr0 hc
  go_enter Try.func23, Try.ntmps23
  go_wp2
  go_loopw [8] (fun v8 wr => ∃ j : Nat, j ≤ l.length ∧ v8 = .int .i64 (j : Int) ∧ Aside0 (∀ k y, k < j → l[k]? = some y → isStart id y = false) ∧ Aside0 (Below w.heap.size w wr)) (fun v8 _ => l.length - (intOf v8).toNat)
  case atStart => exact ⟨0, Nat.zero_le _, rfl, ⟨fun _ _ h => by omega⟩, ⟨Below.refl _ _⟩⟩
  case round =>
    obtain ⟨j, hj, rfl, HD, HB⟩ := hrel
    by_cases hlt : j < l.length
    · have h0 : 0 ≤ (j : Int) := by omega
      have h1 : (j : Int) < l.length := by omega
      obtain ⟨ad, e0, x0, x1, x2⟩ := at_T64 HR.out (j : Int) h0 h1
      cases e0
      simp only [Int.toNat_natCast] at x0 x1 x2
      replace x0 := pw_cell_below HB.out x0
      replace x1 := pw_cell_below HB.out x1
      replace x2 := pw_cell_below HB.out x2
      have HE := Aside0.mk (show l[j]? = some (rd_T64 l j) by simpa [rd_T64] using getE (d := z64) hlt)
      have hct := fun k i n => st11_any k i n id g wr (pw_cell_below HB.out HC.out) (Nat.lt_of_lt_of_le hg HB.out.size)
      have HT := Aside0.mk (hct (rd_T64 l j).f0 (rd_T64 l j).f1 (rd_T64 l j).f2)
      clear hct
      cases hs : isStart id (rd_T64 l j) with
      | true =>
        have HS := Aside0.mk hs
        have HS2 := Aside0.mk (show (decide ((rd_T64 l j).f0 = 4) && decide ((rd_T64 l j).f1 = id)) = true from hs)
        clear hs
        go_wp2_with (go_at_call 21; refine HT.out.mono ?_; rw [HS2.out]; rintro e w' ⟨rfl, hb⟩; have HB2 := Aside0.mk (below_step HB.out hb); clear hb)
        go_ret
        exact ⟨ret_i64 (by rw [firstI_at j _ HE.out HS.out HD.out]; omega), HB2.out⟩
      | false =>
        have HS := Aside0.mk hs
        have HS2 := Aside0.mk (show (decide ((rd_T64 l j).f0 = 4) && decide ((rd_T64 l j).f1 = id)) = false from hs)
        clear hs
        go_wp2_with (go_at_call 21; refine HT.out.mono ?_; rw [HS2.out]; rintro e w' ⟨rfl, hb⟩; have HB2 := Aside0.mk (below_step HB.out hb); clear hb)
        go_roundw
        case rel => exact ⟨j + 1, by omega, by go_num, ⟨fun k y hk hy => by
          by_cases e : k = j
          · subst e; rw [HE.out] at hy; injection hy with hy; subst hy; exact HS.out
          · exact HD.out k y (by omega) hy⟩, HB2⟩
        case measure => simp [intOf]; omega
    · obtain rfl : j = l.length := by omega
      have hn : firstI (isStart id) l 0 = -1 := firstI_none (fun x hx => by
        obtain ⟨k, hk, rfl⟩ := List.getElem_of_mem hx
        exact HD.out k _ hk (List.getElem?_eq_getElem hk))
      have HN := Aside0.mk hn
      clear hn
      go_wp2
      go_ret
      exact ⟨ret_i64 HN.out.symm, HB.out⟩

theorem firstI_nonneg {α : Type} {p : α → Bool} (l : List α) (i : Int) (hi : 0 ≤ i) : (decide (0 ≤ firstI p l i)) = l.any p := by
  induction l generalizing i with
  | nil => rfl
  | cons x l ih =>
    rw [firstI, List.any_cons]
    cases h : p x with
    | true => simp [hi]
    | false => simp [ih (i + 1) (by omega)]

set_option maxHeartbeats 4000000 in
set_option maxRecDepth 100000 in
theorem hasEv_any (A0 : Option Addr) (c0 : Nat) (l : List S64) (id : Int) (g : Nat) (w : World) (hr0 : Kd.C k64 w A0 l.length l) (hc0 : l.length ≤ c0) (hc : w.cell? ⟨g, 0, none⟩ = some (.int .i64 id)) (hg : g < w.heap.size) :
    Calls Try.prog 20 #[.slice A0 l.length c0, .func (.func 21) #[] #[.pointer (some ⟨g, 0, none⟩)]] w fun e w' => e = .returned (.bool (l.any (isStart id))) ∧ Below w.heap.size w w' := by
  have H := Aside0.mk (idxEv_any A0 c0 l id g w hr0 hc0 hc hg)
  have HF := Aside0.mk (firstI_nonneg (p := isStart id) l 0 (by omega))
  clear hr0 hc
  go_enter Try.func20, Try.ntmps20
  go_wp2_with (go_at_call 23; refine H.out.mono ?_; rintro e w' ⟨rfl, hb⟩; have HB := Aside0.mk hb; clear hb)
  go_ret
  exact ⟨ret_b HF.out, HB.out⟩

set_option maxHeartbeats 4000000 in
set_option maxRecDepth 100000 in
theorem st1_any (er : Int) (A0 : Option Addr) (c0 : Nat) (l : List S64) (id : Int) (g : Nat) (w : World) (hr0 : Kd.C k64 w A0 l.length l) (hc0 : l.length ≤ c0) (hc : w.cell? ⟨g, 0, none⟩ = some (.int .i64 id)) (hg : g < w.heap.size) :
    Calls Try.prog 19 #[.agg #[.int .i64 er, .slice A0 l.length c0], .pointer (some ⟨g, 0, none⟩)] w fun e w' => e = .returned (.bool (l.any (isStart id))) ∧ Below w.heap.size w w' := by
  have hb1 := below_alloc (Below.refl w.heap.size w) (.cells #[.int .i64 er, .slice A0 l.length c0] 44)
  have H := Aside0.mk (hasEv_any A0 c0 l id g _ (Kd.C_below hr0 hb1) hc0 (pw_cell_below hb1 hc) (Nat.lt_of_lt_of_le hg hb1.size))
  have HB1 := Aside0.mk hb1
  have hu44 := Try.underlying44
  clear hr0 hc hb1
  go_enter Try.func19, Try.ntmps19
  go_wp2_with (go_at_call 20; refine H.out.mono ?_; rintro e w' ⟨rfl, hb⟩; have HB := Aside0.mk (below_step HB1.out hb); clear hb)
  go_ret
  exact ⟨rfl, HB.out⟩
def hasStart (id : Int) (r : S44) : Bool := r.f1.any (isStart id)
set_option maxHeartbeats 4000000 in
set_option maxRecDepth 100000 in
theorem idxRe_any (A0 : Option Addr) (c0 : Nat) (l : List S44) (id : Int) (g : Nat) (w : World) (hr0 : Kd.C k44 w A0 l.length l) (hc0 : l.length ≤ c0) (hc : w.cell? ⟨g, 0, none⟩ = some (.int .i64 id)) (hg : g < w.heap.size) :
    Calls Try.prog 18 #[.slice A0 l.length c0, .func (.func 19) #[] #[.pointer (some ⟨g, 0, none⟩)]] w fun e w' => e = .returned (.int .i64 (firstI (hasStart id) l 0)) ∧ Below w.heap.size w w' := by
  have hu44 := Try.underlying44
  have hlen : l.length ≤ 9223372036854775807 := hr0.2.1
  have HR := Aside0.mk hr0
  have HC := Aside0.mk hc
  clear hr0 hc
  go_enter Try.func18, Try.ntmps18
  go_wp2
  go_loopw [8] (fun v8 wr => ∃ j : Nat, j ≤ l.length ∧ v8 = .int .i64 (j : Int) ∧ Aside0 (∀ k y, k < j → l[k]? = some y → hasStart id y = false) ∧ Aside0 (Below w.heap.size w wr)) (fun v8 _ => l.length - (intOf v8).toNat)
  case atStart => exact ⟨0, Nat.zero_le _, rfl, ⟨fun _ _ h => by omega⟩, ⟨Below.refl _ _⟩⟩
  case round =>
    obtain ⟨j, hj, rfl, HD, HB⟩ := hrel
    by_cases hlt : j < l.length
    · have h0 : 0 ≤ (j : Int) := by omega
      have h1 : (j : Int) < l.length := by omega
      obtain ⟨ad, A1, c1, e0, x0, x1, y1, y2⟩ := at_T44 HR.out (j : Int) h0 h1
      cases e0
      simp only [Int.toNat_natCast] at x0 x1
      replace x0 := pw_cell_below HB.out x0
      replace x1 := pw_cell_below HB.out x1
      have HE := Aside0.mk (show l[j]? = some (rd_T44 l j) by simpa [rd_T44] using getE (d := z44) hlt)
      have HT := Aside0.mk (st1_any (rd_T44 l j).f0 A1 c1 (rd_T44 l j).f1 id g wr (Kd.C_below y2 HB.out) y1 (pw_cell_below HB.out HC.out) (Nat.lt_of_lt_of_le hg HB.out.size))
      clear y1 y2
      cases hs : hasStart id (rd_T44 l j) with
      | true =>
        have HS := Aside0.mk hs
        have HS2 := Aside0.mk (show (rd_T44 l j).f1.any (isStart id) = true from hs)
        clear hs
        go_wp2_with (go_at_call 19; refine HT.out.mono ?_; rw [HS2.out]; rintro e w' ⟨rfl, hb⟩; have HB2 := Aside0.mk (below_step HB.out hb); clear hb)
        go_ret
        exact ⟨ret_i64 (by rw [firstI_at j _ HE.out HS.out HD.out]; omega), HB2.out⟩
      | false =>
        have HS := Aside0.mk hs
        have HS2 := Aside0.mk (show (rd_T44 l j).f1.any (isStart id) = false from hs)
        clear hs
        go_wp2_with (go_at_call 19; refine HT.out.mono ?_; rw [HS2.out]; rintro e w' ⟨rfl, hb⟩; have HB2 := Aside0.mk (below_step HB.out hb); clear hb)
        go_roundw
        case rel => exact ⟨j + 1, by omega, by go_num, ⟨fun k y hk hy => by
          by_cases e : k = j
          · subst e; rw [HE.out] at hy; injection hy with hy; subst hy; exact HS.out
          · exact HD.out k y (by omega) hy⟩, HB2⟩
        case measure => simp [intOf]; omega
    · obtain rfl : j = l.length := by omega
      have hn : firstI (hasStart id) l 0 = -1 := firstI_none (fun x hx => by
        obtain ⟨k, hk, rfl⟩ := List.getElem_of_mem hx
        exact HD.out k _ hk (List.getElem?_eq_getElem hk))
      have HN := Aside0.mk hn
      clear hn
      go_wp2
      go_ret
      exact ⟨ret_i64 HN.out.symm, HB.out⟩

def bound_Started.f (l0 : List (S44)) (a1 : Int) : Option (Int) := some (firstI (hasStart a1) l0 0)
set_option maxHeartbeats 4000000 in
set_option maxRecDepth 100000 in
theorem bound_Started.calls (A0 : Option Addr) (c0 : Nat) (l0 : List (S44)) (a1 : Int) (r : Int) (w : World) (hr0 : Kd.C k44 w A0 l0.length l0) (hc0 : l0.length ≤ c0) (h : bound_Started.f l0 a1 = some r) :
    Calls Try.prog 11 #[.slice A0 l0.length c0, .int .i64 a1] w fun e w' => e = .returned (.int .i64 r) ∧ Below w.heap.size w w' := by
  obtain rfl := Option.some.inj h
  clear h
  have hb1 := below_alloc (Below.refl w.heap.size w) (.cells #[.int .i64 a1] 3)
  have hx := heap_alloc_new w (.cells #[.int .i64 a1] 3)
  have H := Aside0.mk (idxRe_any A0 c0 l0 a1 w.heap.size _ (Kd.C_below hr0 hb1) hc0 ((blk_cell hx 0).trans rfl) (by simp))
  have HB1 := Aside0.mk hb1
  clear hr0 hb1 hx
  go_enter Try.func11, Try.ntmps11
  go_wp2_with (go_at_call 18; refine H.out.mono ?_; rintro e w' ⟨rfl, hb⟩; have HB := Aside0.mk (below_step HB1.out hb); clear hb)
  go_ret
  exact ⟨rfl, HB.out⟩

instance decWfAct : DecidablePred wfAct := fun a => by unfold wfAct; infer_instance
instance decWf (l : List S39) : Decidable (∀ a ∈ l, wfAct a) := List.decidableBAll (p := wfAct) l
def bound_Fair.f (l0_0 : List (S87)) (l0_1 : List (S59)) (a0_2 : Int) (a0_3 : Int) (a0_4 : Int) (a0_5 : Int) (l1 : List (S39)) (a2 : Int) : Option (Bool) :=
  if (∀ a ∈ l1, wfAct a) ∧ a0_2 ≤ 9223372036854775807 ∧ l1.length ≤ 4611686018427387904 then some (fairB l1 a0_2 a2) else none
end Go.Proofs.Ytllmgaimdmmahaa.P
