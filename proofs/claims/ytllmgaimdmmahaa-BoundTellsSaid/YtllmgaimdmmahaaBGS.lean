import Derived.Test.YtllmgaimdmmahaaP0
import Derived.Test.YtllmgaimdmmahaaMp
import Derived.Test.YtllmgaimdmmahaaBG4
import Derived.Test.YtllmgaimdmmahaaBG2
import Derived.LoopN
import Derived.StillTailTactics
namespace Go.Proofs.Ytllmgaimdmmahaa.P
open Go.RowKit Go.Proofs.YtllmgaimdmmahaaW.PrintWords Go.Proofs.YtllmgaimdmmahaaW.PrintLast Go.Proofs.YtllmgaimdmmahaaW.PrintMore
open Go.Proofs.Ytllmgaimdmmahaa.Mp
attribute [local go_sem] max2_int min2_int max_two min_two max_three min_three max_four min_four
set_option linter.unusedVariables false
set_option linter.unusedSimpArgs false

def actOf (k n : Int) : S39 := ⟨k, n, z37⟩
theorem block_C {α : Type} {d : Kd α} {W : World} {b t : Nat} {cs : Array Value} {xs : List α} (h : W.heap[b]? = some (.cells cs t (0, 0))) (hrep : Reps (d.K W) d.sz xs cs.toList) (hn : xs.length ≤ 9223372036854775807) :
    d.C W (some ⟨b, 0, none⟩) xs.length xs := by
  refine ⟨rfl, hn, fun _ => ⟨⟨b, 0, none⟩, rfl, fun j p hp => ⟨_, d.K_len (hrep.2 j p hp), hrep.2 j p hp, fun i u hu => ?_⟩⟩⟩
  rw [add_plain, blk_cell h]
  rw [List.getElem?_take] at hu
  split at hu
  · rw [List.getElem?_drop] at hu
    simpa using hu
  · cases hu

set_option maxHeartbeats 2000000 in
set_option maxRecDepth 100000 in
theorem one_any (k n : Int) (w : World) : Calls Try.prog 13 #[.int .i64 k, .int .i64 n] w fun e w' => e = .returned (.agg #[.int .i64 k, .int .i64 n, .int .i64 0, .int .i64 0, .int .i64 0, .int .i64 0, .int .i64 0, .int .i64 0, .int .i64 0, .int .i64 0]) ∧ Below w.heap.size w w' := by
  have hu39 := Try.underlying39
  go_enter Try.func13, Try.ntmps13
  go_wp2
  refine bodyPost_ret (v := .agg #[.int .i64 k, .int .i64 n, .int .i64 0, .int .i64 0, .int .i64 0, .int .i64 0, .int .i64 0, .int .i64 0, .int .i64 0, .int .i64 0]) (by simp [results, Try.results13, go_sem, hu39]) rfl ⟨rfl, ?_⟩
  exact below_alloc (Below.refl _ _) _

set_option maxHeartbeats 4000000 in
set_option maxRecDepth 100000 in
theorem awake_any (w : World) : Calls Try.prog 5 #[] w fun e w' => e = .returned (.bool true) ∧ Below w.heap.size w w' := by
  have hu39 := Try.underlying39
  have hu27 := Try.underlying27
  go_enter Try.func5, Try.ntmps5
  go_wp2_with (fail)
  refine (one_any _ _ _).mono ?_
  rintro e W1 ⟨rfl, hb1⟩
  have HB1 := Aside0.mk hb1
  clear hb1
  go_wp2_with (fail)
  refine (one_any _ _ _).mono ?_
  rintro e W2 ⟨rfl, hb2⟩
  have HB2 := Aside0.mk (below_step HB1.out hb2)
  clear hb2 HB1
  go_wp2_with (fail)
  refine (one_any _ _ _).mono ?_
  rintro e W3 ⟨rfl, hb3⟩
  have HB3 := Aside0.mk (below_step HB2.out hb3)
  clear hb3 HB2
  go_wp2_with (fail)
  have hp : (((W3.alloc (.cells #[.int .i64 6, .int .i64 0, .int .i64 0, .int .i64 0, .int .i64 0, .int .i64 0, .int .i64 0, .int .i64 0, .int .i64 0, .int .i64 0] 39)).alloc (.cells #[.int .i64 6, .int .i64 1, .int .i64 0, .int .i64 0, .int .i64 0, .int .i64 0, .int .i64 0, .int .i64 0, .int .i64 0, .int .i64 0] 39)).alloc (.cells #[.int .i64 5, .int .i64 0, .int .i64 0, .int .i64 0, .int .i64 0, .int .i64 0, .int .i64 0, .int .i64 0, .int .i64 0, .int .i64 0] 39)).heap[W3.heap.size]? = some (.cells #[.int .i64 6, .int .i64 0, .int .i64 0, .int .i64 0, .int .i64 0, .int .i64 0, .int .i64 0, .int .i64 0, .int .i64 0, .int .i64 0] 39 (0, 0)) := blk_alloc (blk_alloc (heap_alloc_new _ _) _) _
  have ht : (((W3.alloc (.cells #[.int .i64 6, .int .i64 0, .int .i64 0, .int .i64 0, .int .i64 0, .int .i64 0, .int .i64 0, .int .i64 0, .int .i64 0, .int .i64 0] 39)).alloc (.cells #[.int .i64 6, .int .i64 1, .int .i64 0, .int .i64 0, .int .i64 0, .int .i64 0, .int .i64 0, .int .i64 0, .int .i64 0, .int .i64 0] 39)).alloc (.cells #[.int .i64 5, .int .i64 0, .int .i64 0, .int .i64 0, .int .i64 0, .int .i64 0, .int .i64 0, .int .i64 0, .int .i64 0, .int .i64 0] 39)).heap[W3.heap.size + 1 + 1]? = some (.cells #[.int .i64 5, .int .i64 0, .int .i64 0, .int .i64 0, .int .i64 0, .int .i64 0, .int .i64 0, .int .i64 0, .int .i64 0, .int .i64 0] 39 (0, 0)) := by simpa using heap_alloc_new ((W3.alloc (.cells #[.int .i64 6, .int .i64 0, .int .i64 0, .int .i64 0, .int .i64 0, .int .i64 0, .int .i64 0, .int .i64 0, .int .i64 0, .int .i64 0] 39)).alloc (.cells #[.int .i64 6, .int .i64 1, .int .i64 0, .int .i64 0, .int .i64 0, .int .i64 0, .int .i64 0, .int .i64 0, .int .i64 0, .int .i64 0] 39)) (.cells #[.int .i64 5, .int .i64 0, .int .i64 0, .int .i64 0, .int .i64 0, .int .i64 0, .int .i64 0, .int .i64 0, .int .i64 0, .int .i64 0] 39)
  have hs : (((W3.alloc (.cells #[.int .i64 6, .int .i64 0, .int .i64 0, .int .i64 0, .int .i64 0, .int .i64 0, .int .i64 0, .int .i64 0, .int .i64 0, .int .i64 0] 39)).alloc (.cells #[.int .i64 6, .int .i64 1, .int .i64 0, .int .i64 0, .int .i64 0, .int .i64 0, .int .i64 0, .int .i64 0, .int .i64 0, .int .i64 0] 39)).alloc (.cells #[.int .i64 5, .int .i64 0, .int .i64 0, .int .i64 0, .int .i64 0, .int .i64 0, .int .i64 0, .int .i64 0, .int .i64 0, .int .i64 0] 39)).heap.size = W3.heap.size + 1 + 1 + 1 := by simp
  have hbu : Below w.heap.size w (((W3.alloc (.cells #[.int .i64 6, .int .i64 0, .int .i64 0, .int .i64 0, .int .i64 0, .int .i64 0, .int .i64 0, .int .i64 0, .int .i64 0, .int .i64 0] 39)).alloc (.cells #[.int .i64 6, .int .i64 1, .int .i64 0, .int .i64 0, .int .i64 0, .int .i64 0, .int .i64 0, .int .i64 0, .int .i64 0, .int .i64 0] 39)).alloc (.cells #[.int .i64 5, .int .i64 0, .int .i64 0, .int .i64 0, .int .i64 0, .int .i64 0, .int .i64 0, .int .i64 0, .int .i64 0, .int .i64 0] 39)) := below_alloc (below_alloc (below_alloc HB3.out _) _) _
  obtain ⟨U, hU⟩ : ∃ U, U = (((W3.alloc (.cells #[.int .i64 6, .int .i64 0, .int .i64 0, .int .i64 0, .int .i64 0, .int .i64 0, .int .i64 0, .int .i64 0, .int .i64 0, .int .i64 0] 39)).alloc (.cells #[.int .i64 6, .int .i64 1, .int .i64 0, .int .i64 0, .int .i64 0, .int .i64 0, .int .i64 0, .int .i64 0, .int .i64 0, .int .i64 0] 39)).alloc (.cells #[.int .i64 5, .int .i64 0, .int .i64 0, .int .i64 0, .int .i64 0, .int .i64 0, .int .i64 0, .int .i64 0, .int .i64 0, .int .i64 0] 39)) := ⟨_, rfl⟩
  rw [← hU] at hp ht hs hbu ⊢
  clear hU
  have hR : ∀ (W : World) (k n : Int), k39.K W (actOf k n) [.int .i64 k, .int .i64 n, .int .i64 0, .int .i64 0, .int .i64 0, .int .i64 0, .int .i64 0, .int .i64 0, .int .i64 0, .int .i64 0] := fun W k n => k39_mk W (actOf k n)
  have hC : ∀ cs : List Value, Reps (k39.K (U.alloc (.cells cs.toArray 39))) 10 [actOf 6 0, actOf 6 1, actOf 5 0, actOf 6 0, actOf 6 1, actOf 5 0] cs → k39.C (U.alloc (.cells cs.toArray 39)) (some ⟨W3.heap.size + 1 + 1 + 1, 0, none⟩) 6 [actOf 6 0, actOf 6 1, actOf 5 0, actOf 6 0, actOf 6 1, actOf 5 0] := by
    intro cs hcs
    rw [← hs]
    exact block_C (heap_alloc_new _ _) hcs (by decide)
  have hF1 : fairB [actOf 6 0, actOf 6 1, actOf 5 0, actOf 6 0, actOf 6 1, actOf 5 0] 2 3 = true := by decide
  have hF2 : fairB [actOf 6 0, actOf 6 0, actOf 5 0] 2 3 = false := by decide
  have hfair := fun cs hcs => fair_any none 0 [] none 0 [] 2 0 0 0 _ 6 _ 3 _ (hC cs hcs) (Nat.le_refl _) (by decide) (by decide) (by decide)
  rw [hF1] at hfair
  refine (hfair _ (Reps.c10 (hR _ _ _) (Reps.c10 (hR _ _ _) (Reps.c10 (hR _ _ _) (Reps.c10 (hR _ _ _) (Reps.c10 (hR _ _ _) (Reps.c10 (hR _ _ _) (Reps.none _ _)))))))).mono ?_
  rintro e W4 ⟨rfl, hb4⟩
  clear hfair hC
  have HB4 := Aside0.mk (below_then (below_alloc hbu (.cells (_ : List Value).toArray 39)) (by have := hbu.size; simp; omega) hb4)
  have hp4 : W4.heap[W3.heap.size]? = some (.cells #[.int .i64 6, .int .i64 0, .int .i64 0, .int .i64 0, .int .i64 0, .int .i64 0, .int .i64 0, .int .i64 0, .int .i64 0, .int .i64 0] 39 (0, 0)) := (hb4.block _ (by simp; omega)).trans (blk_alloc hp _)
  have ht4 : W4.heap[W3.heap.size + 1 + 1]? = some (.cells #[.int .i64 5, .int .i64 0, .int .i64 0, .int .i64 0, .int .i64 0, .int .i64 0, .int .i64 0, .int .i64 0, .int .i64 0, .int .i64 0] 39 (0, 0)) := (hb4.block _ (by simp; omega)).trans (blk_alloc ht _)
  have cp0 : W4.cell? ⟨W3.heap.size, 0, none⟩ = some (.int .i64 6) := (blk_cell hp4 0).trans rfl
  have cp1 : W4.cell? ⟨W3.heap.size, 1, none⟩ = some (.int .i64 0) := (blk_cell hp4 1).trans rfl
  have cp2 : W4.cell? ⟨W3.heap.size, 2, none⟩ = some (.int .i64 0) := (blk_cell hp4 2).trans rfl
  have cp3 : W4.cell? ⟨W3.heap.size, 3, none⟩ = some (.int .i64 0) := (blk_cell hp4 3).trans rfl
  have cp4 : W4.cell? ⟨W3.heap.size, 4, none⟩ = some (.int .i64 0) := (blk_cell hp4 4).trans rfl
  have cp5 : W4.cell? ⟨W3.heap.size, 5, none⟩ = some (.int .i64 0) := (blk_cell hp4 5).trans rfl
  have cp6 : W4.cell? ⟨W3.heap.size, 6, none⟩ = some (.int .i64 0) := (blk_cell hp4 6).trans rfl
  have cp7 : W4.cell? ⟨W3.heap.size, 7, none⟩ = some (.int .i64 0) := (blk_cell hp4 7).trans rfl
  have cp8 : W4.cell? ⟨W3.heap.size, 8, none⟩ = some (.int .i64 0) := (blk_cell hp4 8).trans rfl
  have cp9 : W4.cell? ⟨W3.heap.size, 9, none⟩ = some (.int .i64 0) := (blk_cell hp4 9).trans rfl
  have ct0 : W4.cell? ⟨W3.heap.size + 1 + 1, 0, none⟩ = some (.int .i64 5) := (blk_cell ht4 0).trans rfl
  have ct1 : W4.cell? ⟨W3.heap.size + 1 + 1, 1, none⟩ = some (.int .i64 0) := (blk_cell ht4 1).trans rfl
  have ct2 : W4.cell? ⟨W3.heap.size + 1 + 1, 2, none⟩ = some (.int .i64 0) := (blk_cell ht4 2).trans rfl
  have ct3 : W4.cell? ⟨W3.heap.size + 1 + 1, 3, none⟩ = some (.int .i64 0) := (blk_cell ht4 3).trans rfl
  have ct4 : W4.cell? ⟨W3.heap.size + 1 + 1, 4, none⟩ = some (.int .i64 0) := (blk_cell ht4 4).trans rfl
  have ct5 : W4.cell? ⟨W3.heap.size + 1 + 1, 5, none⟩ = some (.int .i64 0) := (blk_cell ht4 5).trans rfl
  have ct6 : W4.cell? ⟨W3.heap.size + 1 + 1, 6, none⟩ = some (.int .i64 0) := (blk_cell ht4 6).trans rfl
  have ct7 : W4.cell? ⟨W3.heap.size + 1 + 1, 7, none⟩ = some (.int .i64 0) := (blk_cell ht4 7).trans rfl
  have ct8 : W4.cell? ⟨W3.heap.size + 1 + 1, 8, none⟩ = some (.int .i64 0) := (blk_cell ht4 8).trans rfl
  have ct9 : W4.cell? ⟨W3.heap.size + 1 + 1, 9, none⟩ = some (.int .i64 0) := (blk_cell ht4 9).trans rfl
  have hw4 := Aside0.mk hb4
  clear hp4 ht4 hb4 hp ht hs hbu
  go_wp2_with (fail)
  have hC : ∀ cs : List Value, Reps (k39.K (W4.alloc (.cells cs.toArray 39))) 10 [actOf 6 0, actOf 6 0, actOf 5 0] cs → k39.C (W4.alloc (.cells cs.toArray 39)) (some ⟨W4.heap.size, 0, none⟩) 3 [actOf 6 0, actOf 6 0, actOf 5 0] := by
    intro cs hcs
    exact block_C (heap_alloc_new _ _) hcs (by decide)
  have hfair := fun cs hcs => fair_any none 0 [] none 0 [] 2 0 0 0 _ 3 _ 3 _ (hC cs hcs) (Nat.le_refl _) (by decide) (by decide) (by decide)
  rw [hF2] at hfair
  refine (hfair _ (Reps.c10 (hR _ _ _) (Reps.c10 (hR _ _ _) (Reps.c10 (hR _ _ _) (Reps.none _ _))))).mono ?_
  rintro e W5 ⟨rfl, hb5⟩
  clear hfair hC
  have HB5 := Aside0.mk (below_then (below_alloc HB4.out (.cells (_ : List Value).toArray 39)) (by have := HB4.out.size; simp; omega) hb5)
  clear hb5
  go_wp2
  go_ret
  exact ⟨rfl, HB5.out⟩

def ensemblelaw20_awake.f : Option (Bool) := some true
theorem ensemblelaw20_awake.calls (r : Bool) (w : World) (h : ensemblelaw20_awake.f = some r) :
    Calls Try.prog 5 #[] w fun e w' => e = .returned (.bool r) ∧ Below w.heap.size w w' := by
  obtain rfl := Option.some.inj h
  exact awake_any w
theorem bound_Fair.calls (A0_0 : Option Addr) (c0_0 : Nat) (l0_0 : List (S87)) (A0_1 : Option Addr) (c0_1 : Nat) (l0_1 : List (S59)) (a0_2 : Int) (a0_3 : Int) (a0_4 : Int) (a0_5 : Int) (A1 : Option Addr) (c1 : Nat) (l1 : List (S39)) (a2 : Int) (r : Bool) (w : World) (hr0_0 : Kd.C k87 w A0_0 l0_0.length l0_0) (hc0_0 : l0_0.length ≤ c0_0) (hr0_1 : Kd.C k59 w A0_1 l0_1.length l0_1) (hc0_1 : l0_1.length ≤ c0_1) (hr1 : Kd.C k39 w A1 l1.length l1) (hc1 : l1.length ≤ c1) (h : bound_Fair.f l0_0 l0_1 a0_2 a0_3 a0_4 a0_5 l1 a2 = some r) :
    Calls Try.prog 6 #[.agg #[.slice A0_0 l0_0.length c0_0, .slice A0_1 l0_1.length c0_1, .int .i64 a0_2, .int .i64 a0_3, .int .i64 a0_4, .int .i64 a0_5], .slice A1 l1.length c1, .int .i64 a2] w fun e w' => e = .returned (.bool r) ∧ Below w.heap.size w w' := by
  unfold bound_Fair.f at h
  split at h
  · rename_i hh
    obtain rfl := Option.some.inj h
    exact fair_any A0_0 c0_0 l0_0 A0_1 c0_1 l0_1 a0_2 a0_3 a0_4 a0_5 A1 c1 l1 a2 w hr1 hc1 hh.1 hh.2.1 hh.2.2
  · cases h
def ensembleref20_Fair.f (l0_0 : List (S87)) (l0_1 : List (S59)) (a0_2 : Int) (a0_3 : Int) (a0_4 : Int) (a0_5 : Int) (l1 : List (S39)) (a2 : Int) : Option (Bool) :=
  if (∀ a ∈ l1, wfAct a) ∧ a0_2 ≤ 9223372036854775807 ∧ l1.length ≤ 4611686018427387904 then some (refFair l1 a0_2 a2) else none
theorem ensembleref20_Fair.calls (A0_0 : Option Addr) (c0_0 : Nat) (l0_0 : List (S87)) (A0_1 : Option Addr) (c0_1 : Nat) (l0_1 : List (S59)) (a0_2 : Int) (a0_3 : Int) (a0_4 : Int) (a0_5 : Int) (A1 : Option Addr) (c1 : Nat) (l1 : List (S39)) (a2 : Int) (r : Bool) (w : World) (hr0_0 : Kd.C k87 w A0_0 l0_0.length l0_0) (hc0_0 : l0_0.length ≤ c0_0) (hr0_1 : Kd.C k59 w A0_1 l0_1.length l0_1) (hc0_1 : l0_1.length ≤ c0_1) (hr1 : Kd.C k39 w A1 l1.length l1) (hc1 : l1.length ≤ c1) (h : ensembleref20_Fair.f l0_0 l0_1 a0_2 a0_3 a0_4 a0_5 l1 a2 = some r) :
    Calls Try.prog 10 #[.agg #[.slice A0_0 l0_0.length c0_0, .slice A0_1 l0_1.length c0_1, .int .i64 a0_2, .int .i64 a0_3, .int .i64 a0_4, .int .i64 a0_5], .slice A1 l1.length c1, .int .i64 a2] w fun e w' => e = .returned (.bool r) ∧ Below w.heap.size w w' := by
  unfold ensembleref20_Fair.f at h
  split at h
  · rename_i hh
    obtain rfl := Option.some.inj h
    exact refFair_any A0_0 c0_0 l0_0 A0_1 c0_1 l0_1 a0_2 a0_3 a0_4 a0_5 A1 c1 l1 a2 w hr1 hc1 hh.1 hh.2.1 hh.2.2
  · cases h
def bound_Entries.f (l0_0 : List (S87)) (l0_1 : List (S59)) (a0_2 : Int) (a0_3 : Int) (a0_4 : Int) (a0_5 : Int) (a1 : Int) : Option (Int × Int) := some (entriesB l0_1 a0_3 a0_4 a0_5 a1)
theorem bound_Entries.calls (A0_0 : Option Addr) (c0_0 : Nat) (l0_0 : List (S87)) (A0_1 : Option Addr) (c0_1 : Nat) (l0_1 : List (S59)) (a0_2 : Int) (a0_3 : Int) (a0_4 : Int) (a0_5 : Int) (a1 : Int) (r1 : Int) (r2 : Int) (w : World) (hr0_0 : Kd.C k87 w A0_0 l0_0.length l0_0) (hc0_0 : l0_0.length ≤ c0_0) (hr0_1 : Kd.C k59 w A0_1 l0_1.length l0_1) (hc0_1 : l0_1.length ≤ c0_1) (h : bound_Entries.f l0_0 l0_1 a0_2 a0_3 a0_4 a0_5 a1 = some (r1, r2)) :
    Calls Try.prog 7 #[.agg #[.slice A0_0 l0_0.length c0_0, .slice A0_1 l0_1.length c0_1, .int .i64 a0_2, .int .i64 a0_3, .int .i64 a0_4, .int .i64 a0_5], .int .i64 a1] w fun e w' => e = .returned (.tuple #[.int .i64 r1, .int .i64 r2]) ∧ Below w.heap.size w w' :=
  entries_any A0_0 c0_0 l0_0 A0_1 c0_1 l0_1 a0_2 a0_3 a0_4 a0_5 a1 r1 r2 w hr0_1 hc0_1 (Option.some.inj h)
end Go.Proofs.Ytllmgaimdmmahaa.P
