/- ElasticSafe: part 4 of the walk and of the plain law that it comes to. No condition. -/
import Derived.Test.YtckhjehibjdjdaaZElasticSafe3
import Derived.ArgAppend
import Derived.Below
import Derived.BigQuiet
import Derived.BigRegion
import Derived.Carry
import Derived.Deep.AppendLies
import Derived.Deep.CutBlock
import Derived.Deep.DeepCutAuto
import Derived.Deep.Draws
import Derived.Deep.LoopGhost
import Derived.Deep.OwnRows
import Derived.Deep.QuietTactic
import Derived.Deep.RegionHeld3
import Derived.DeepKeys3
import Derived.KernelRfl
import Derived.Laws.Bits64
import Derived.Laws.Bits64b
import Derived.Laws.BitsLemmas
import Derived.Laws.BytesArg
import Derived.Laws.EntriesVeiled
import Derived.Laws.Externs
import Derived.Laws.IdiomCopy
import Derived.Laws.MakeOwn
import Derived.Laws.OwnMore
import Derived.Laws.Rows
import Derived.Laws.Slices
import Derived.Lib.AppendStr
import Derived.Lib.ConvBytes
import Derived.Lib.ReflectliteSlice
import Derived.Lib.ReflectliteSwap
import Derived.Lib.SliceRun
import Derived.LoopIn
import Derived.LoopN
import Derived.LoopNIn
import Derived.LoopTactic
import Derived.Maps.AppendAt
import Derived.Maps.Keyed
import Derived.Maps.Own
import Derived.Maps.OwnOps
import Derived.Maps.OwnSet
import Derived.Maps.Views
import Derived.OrdersHeld
import Derived.Outline
import Derived.OwnWalk
import Derived.OwnWalkIn
import Derived.RangeFuncBound
import Derived.RangeFuncBox
import Derived.RangeFuncCalls
import Derived.RangeFuncFrom
import Derived.RangeFuncLeaves
import Derived.RangeFuncNested
import Derived.RowKit
import Derived.RowKit3
import Derived.Shelf.Abstract
import Derived.Shelf.RegionOpen
import Derived.StillTailTactics
import Derived.Tactics
import Derived.TacticsInMore
import Derived.WalkKit
import Derived.WideLaws
set_option linter.unusedVariables false
set_option linter.unusedSimpArgs false
namespace Go.Proofs.Ytckhjehibjdjdaa.P
open Go.RowKit Go.Shelf Go.Proofs.YtckhjehibjdjdaaW.PrintWords Go.Proofs.YtckhjehibjdjdaaW.PrintLast Go.Proofs.YtckhjehibjdjdaaW.PrintMore
attribute [local go_sem] Oper.semAt_some
theorem sort_n2 (A : Option Addr) (n cap base : Nat) (xs : List HV) (w : World) (hr : Kd.R kh 41 w base (fun _ => True) (.slice A n cap) xs) (hn : n ≤ 100000) :
  Calls Try.prog 71 #[.slice A n cap, .func (.func 72) #[] #[]] w fun e w' => e = .returned (.tuple #[]) ∧ Kd.R kh 41 w' base (fun k => base ≤ k ∧ k < w.heap.size) (.slice A n cap) (isort hkey xs) ∧ w.grownBy w' (some (blkOf A w.heap.size)) :=
 sort_big A n cap base _ xs w (Kd.R_mono (Kd.R_bound hr) (fun k hk => ⟨hk.2.1, hk.2.2.1⟩)) (Nat.le_trans hn (by decide)) (fun k hk => hk.2) (blkOf A w.heap.size) (fun a ha => by rw [ha]; rfl)
theorem KP.under {w W W' : World} {S : Nat → Prop} (h : KP W W' S) (hb : Below w.heap.size w W) (hs : ∀ k, S k → w.heap.size ≤ k) : Below w.heap.size w W' :=
 ⟨h.os.trans hb.os, h.tape.trans hb.tape, h.output.trans hb.output, Nat.le_trans hb.size h.kept.1, fun k hk => (h.kept.2 k (Nat.lt_of_lt_of_le hk hb.size) (fun hh => by have := hs k hh; omega)).trans (hb.block k hk)⟩
theorem KP.trans {w W W' : World} {S : Nat → Prop} (h : KP w W S) (h' : KP W W' S) : KP w W' S :=
 ⟨⟨Nat.le_trans h.kept.1 h'.kept.1, fun i hi hs => (h'.kept.2 i (Nat.lt_of_lt_of_le hi h.kept.1) hs).trans (h.kept.2 i hi hs)⟩, h'.os.trans h.os, h'.tape.trans h.tape, h'.output.trans h.output⟩
set_option maxHeartbeats 8000000 in
set_option maxRecDepth 100000 in
theorem early_any (now : Int) (A1 : Option Addr) (c1 : Nat) (l1 : List S51) (lg lc : Int) (A3 : Option Addr) (c3 : Nat) (l3 : List S41) (q m g c mn mx : Int) (w : World) (hr1 : Kd.C k51 w A1 l1.length l1) (hc1 : l1.length ≤ c1) (hr3 : Kd.C k41 w A3 l3.length l3) (hc3 : l3.length ≤ c3)
  (hn : l3.length ≤ 1000) (hv : viewOk l1) (hs : ∀ s ∈ l3.flatMap (fun h => h.f4), maskOk s = true ∧ (w64B s.f0.f0 && w64B s.f0.f1) = true) (hlen : (l3.flatMap fun h => h.f4).length < 4000000000) :
  Calls Try.prog 27 #[.int .i64 now, .slice A1 l1.length c1, .agg #[.int .i64 lg, .int .i64 lc], .slice A3 l3.length c3, .agg #[.int .i64 q, .int .i64 m, .int .i64 g, .int .i64 c, .int .i64 mn, .int .i64 mx]] w fun e w' => e = .returned (.tuple #[.int .i64 (earliestB now l1 lg lc l3 q m g c mn mx).1, .int .i64 (earliestB now l1 lg lc l3 q m g c mn mx).2]) ∧ Below w.heap.size w w' := by
 have hu22 := Try.underlying22
 have hu24 := Try.underlying24
 have hu25 := Try.underlying25
 have hu29 := Try.underlying29
 have hu41 := Try.underlying41
 have HR1 := m_ hr1
 have HR3 := m_ hr3
 have HC1 := m_ hc1
 have HC3 := m_ hc3
 have HN := m_ hn
 have HVO := m_ hv
 have HS := m_ hs
 have HLEN := m_ hlen
 have HRT := m_ (fun w => promise_right.calls q m g c mn mx _ w (right_eq q m g c mn mx))
 clear hr1 hr3 hc1 hc3 hn hv hs hlen
 by_cases hbad : now < 0 ∨ now > 1073741824 ∨ rightB m g c mn mx = false
 ·have HE : earliestB now l1 lg lc l3 q m g c mn mx = (0, 1) := by unfold earliestB; rw [if_pos hbad]
  rw [HE]
  clear HE
  have hRT0 := right_eq q m g c mn mx
  by_cases h0 : now < 0
  ·have d0 : decide (now < 0) = true := by simpa using h0
   clear h0 hbad hRT0
   go_enter Try.func27, Try.ntmps27
   go_wp2_with (first | ((with_reducible refine a3_ (N := 6) rfl ?_); refine bx 6 #[.slice A1 l1.length c1] 22 ?_; intro gv hgv w1 hx1 hb1; have wgv : w.heap.size ≤ gv := (by omega); have hgv2 := c4_ hx1; have HX1 := m_ hx1; have HB1 := m_ hb1; clear hx1 hb1) | ((with_reducible refine a3_ (N := 7) rfl ?_); refine bx 7 #[.int .i64 lg, .int .i64 lc] 24 ?_; intro gl hgl w2 hx2 hb2; have wgl : w.heap.size ≤ gl := (by have := HB1.out.size; omega); have hgl2 := c4_ hx2; have HX1b := m_ (a1_ HX1.out hb2); have HX2 := m_ hx2; have HB2 := m_ (a9_ HB1.out hb2); have hs2 := hb2.size; have nvl : gv ≠ gl := (by omega); clear hx2 hb2) | ((with_reducible refine a3_ (N := 9) rfl ?_); refine bx 9 #[.int .i64 q, .int .i64 m, .int .i64 g, .int .i64 c, .int .i64 mn, .int .i64 mx] 29 ?_; intro gw hgw w3 hx3 hb3; have HX1c := m_ (a1_ HX1b.out hb3); have HX2b := m_ (a1_ HX2.out hb3); have HX3 := m_ hx3; have HB3 := m_ (a9_ HB2.out hb3); have nvw : gv ≠ gw := (by omega); have nlw : gl ≠ gw := (by omega); obtain ⟨f0, f1, f2, f3, f4, f5⟩ := cz6_ ⟨hx3⟩; clear hx3 hb3 hgv hgl hgw hgv2 hgl2 hs2 HX1 HX1b HX2 HB1 HB2) | (go_at_call 68; refine (HRT.out _).mono ?_; rintro e w4 ⟨rfl, hb4⟩; have HX4v := m_ (a1_ HX1c.out hb4); have HX4l := m_ (a1_ HX2b.out hb4); have HX4w := m_ (a1_ HX3.out hb4); have HB4 := m_ (a9_ HB3.out hb4); clear hb4 f0 f1 f2 f3 f4 f5 HX1c HX2b HX3 HB3))
   all_goals go_ret2
   all_goals exact ⟨rfl, HB3.out⟩
  ·have d0 : decide (now < 0) = false := by simpa using h0
   by_cases h1 : now > 1073741824
   ·have d1 : decide (1073741824 < now) = true := by simpa using h1
    clear h0 h1 hbad hRT0
    go_enter Try.func27, Try.ntmps27
    go_wp2_with (first | ((with_reducible refine a3_ (N := 6) rfl ?_); refine bx 6 #[.slice A1 l1.length c1] 22 ?_; intro gv hgv w1 hx1 hb1; have wgv : w.heap.size ≤ gv := (by omega); have hgv2 := c4_ hx1; have HX1 := m_ hx1; have HB1 := m_ hb1; clear hx1 hb1) | ((with_reducible refine a3_ (N := 7) rfl ?_); refine bx 7 #[.int .i64 lg, .int .i64 lc] 24 ?_; intro gl hgl w2 hx2 hb2; have wgl : w.heap.size ≤ gl := (by have := HB1.out.size; omega); have hgl2 := c4_ hx2; have HX1b := m_ (a1_ HX1.out hb2); have HX2 := m_ hx2; have HB2 := m_ (a9_ HB1.out hb2); have hs2 := hb2.size; have nvl : gv ≠ gl := (by omega); clear hx2 hb2) | ((with_reducible refine a3_ (N := 9) rfl ?_); refine bx 9 #[.int .i64 q, .int .i64 m, .int .i64 g, .int .i64 c, .int .i64 mn, .int .i64 mx] 29 ?_; intro gw hgw w3 hx3 hb3; have HX1c := m_ (a1_ HX1b.out hb3); have HX2b := m_ (a1_ HX2.out hb3); have HX3 := m_ hx3; have HB3 := m_ (a9_ HB2.out hb3); have nvw : gv ≠ gw := (by omega); have nlw : gl ≠ gw := (by omega); obtain ⟨f0, f1, f2, f3, f4, f5⟩ := cz6_ ⟨hx3⟩; clear hx3 hb3 hgv hgl hgw hgv2 hgl2 hs2 HX1 HX1b HX2 HB1 HB2) | (go_at_call 68; refine (HRT.out _).mono ?_; rintro e w4 ⟨rfl, hb4⟩; have HX4v := m_ (a1_ HX1c.out hb4); have HX4l := m_ (a1_ HX2b.out hb4); have HX4w := m_ (a1_ HX3.out hb4); have HB4 := m_ (a9_ HB3.out hb4); clear hb4 f0 f1 f2 f3 f4 f5 HX1c HX2b HX3 HB3))
    all_goals go_ret2
    all_goals exact ⟨rfl, HB3.out⟩
   ·have d1 : decide (1073741824 < now) = false := by simpa using h1
    have hr : rightB m g c mn mx = false := by
     rcases hbad with h | h | h
     ·exact absurd h h0
     ·exact absurd h h1
     ·exact h
    rw [hr] at HRT
    clear h0 h1 hbad hRT0 hr
    go_enter Try.func27, Try.ntmps27
    go_wp2_with (first | ((with_reducible refine a3_ (N := 6) rfl ?_); refine bx 6 #[.slice A1 l1.length c1] 22 ?_; intro gv hgv w1 hx1 hb1; have wgv : w.heap.size ≤ gv := (by omega); have hgv2 := c4_ hx1; have HX1 := m_ hx1; have HB1 := m_ hb1; clear hx1 hb1) | ((with_reducible refine a3_ (N := 7) rfl ?_); refine bx 7 #[.int .i64 lg, .int .i64 lc] 24 ?_; intro gl hgl w2 hx2 hb2; have wgl : w.heap.size ≤ gl := (by have := HB1.out.size; omega); have hgl2 := c4_ hx2; have HX1b := m_ (a1_ HX1.out hb2); have HX2 := m_ hx2; have HB2 := m_ (a9_ HB1.out hb2); have hs2 := hb2.size; have nvl : gv ≠ gl := (by omega); clear hx2 hb2) | ((with_reducible refine a3_ (N := 9) rfl ?_); refine bx 9 #[.int .i64 q, .int .i64 m, .int .i64 g, .int .i64 c, .int .i64 mn, .int .i64 mx] 29 ?_; intro gw hgw w3 hx3 hb3; have HX1c := m_ (a1_ HX1b.out hb3); have HX2b := m_ (a1_ HX2.out hb3); have HX3 := m_ hx3; have HB3 := m_ (a9_ HB2.out hb3); have nvw : gv ≠ gw := (by omega); have nlw : gl ≠ gw := (by omega); obtain ⟨f0, f1, f2, f3, f4, f5⟩ := cz6_ ⟨hx3⟩; clear hx3 hb3 hgv hgl hgw hgv2 hgl2 hs2 HX1 HX1b HX2 HB1 HB2) | (go_at_call 68; refine (HRT.out _).mono ?_; rintro e w4 ⟨rfl, hb4⟩; have HX4v := m_ (a1_ HX1c.out hb4); have HX4l := m_ (a1_ HX2b.out hb4); have HX4w := m_ (a1_ HX3.out hb4); have HB4 := m_ (a9_ HB3.out hb4); clear hb4 f0 f1 f2 f3 f4 f5 HX1c HX2b HX3 HB3))
    all_goals go_ret2
    all_goals exact ⟨rfl, HB4.out⟩
 ·have hn0 : ¬ now < 0 := fun h => hbad (.inl h)
  have hn1 : ¬ now > 1073741824 := fun h => hbad (.inr (.inl h))
  have hrt : rightB m g c mn mx = true := by
   cases h : rightB m g c mn mx with
   | true => rfl
   | false => exact absurd (.inr (.inr h)) hbad
  have HE : earliestB now l1 lg lc l3 q m g c mn mx = (if (turned51 moreE moreF l1 (l3.flatMap fun h => h.f4)).2 ≠ 0 then (0, (turned51 moreE moreF l1 (l3.flatMap fun h => h.f4)).2)
   else (goE q m g c mn mx (isort skey41 l3) now l1 (lg, lc), 0)) := by unfold earliestB; rw [if_neg hbad]
  rw [HE]
  rw [hrt] at HRT
  have hm0 := more_eq HVO.out (fun s hs => (HS.out s hs).2)
  have ha0 := all_eq (l3.length + 1) l3 (Nat.le_refl _) (by have := HN.out; omega) (by have := HLEN.out; omega)
  generalize hall : l3.flatMap (fun h => h.f4) = al at *
  generalize hmr : turned51 moreE moreF l1 al = mr at *
  obtain ⟨mv, me⟩ := mr
  have HM := m_ hm0
  have HA := m_ ha0
  have HALL := m_ hall
  clear hm0 ha0 hmr hall
  obtain ⟨ps, hmap, hpC, hsl⟩ := holds_of HR3.out
  have hpl : ps.length = l3.length := by rw [← hmap, List.length_map]
  have hsm : (isort hkey ps).map (fun x => x.1) = isort skey41 l3 := by
   have := isort_map skey41 (fun x : HV => x.1) ps []
   rw [hmap] at this
   exact this
  have HMAP := m_ hmap
  have HPC := m_ hpC
  have HSL := m_ hsl
  have HPL := m_ hpl
  have hwl : wrap64 ((ps.length : Int) + 1) = (ps.length : Int) + 1 := w_id (by have := HN.out; omega)
  rw [← hsm]
  have hperm := isort_perm hkey ps
  obtain ⟨SP, hSP⟩ : ∃ SP, isort hkey ps = SP := ⟨_, rfl⟩
  rw [hSP] at hperm ⊢
  have HSPE := m_ hSP
  have HPERM := m_ hperm
  clear hmap hpC hsl hpl hsm hSP hperm
  have d0 : decide (now < 0) = false := by simpa using hn0
  have d1 : decide (1073741824 < now) = false := by simpa using hn1
  clear HE hbad hrt hn0 hn1
  go_enter Try.func27, Try.ntmps27
  go_wp2_with (first | ((with_reducible refine a3_ (N := 6) rfl ?_); refine bx 6 #[.slice A1 l1.length c1] 22 ?_; intro gv hgv w1 hx1 hb1; have wgv : w.heap.size ≤ gv := (by omega); have hgv2 := c4_ hx1; have HX1 := m_ hx1; have HB1 := m_ hb1; clear hx1 hb1) | ((with_reducible refine a3_ (N := 7) rfl ?_); refine bx 7 #[.int .i64 lg, .int .i64 lc] 24 ?_; intro gl hgl w2 hx2 hb2; have wgl : w.heap.size ≤ gl := (by have := HB1.out.size; omega); have hgl2 := c4_ hx2; have HX1b := m_ (a1_ HX1.out hb2); have HX2 := m_ hx2; have HB2 := m_ (a9_ HB1.out hb2); have hs2 := hb2.size; have nvl : gv ≠ gl := (by omega); clear hx2 hb2) | ((with_reducible refine a3_ (N := 9) rfl ?_); refine bx 9 #[.int .i64 q, .int .i64 m, .int .i64 g, .int .i64 c, .int .i64 mn, .int .i64 mx] 29 ?_; intro gw hgw w3 hx3 hb3; have HX1c := m_ (a1_ HX1b.out hb3); have HX2b := m_ (a1_ HX2.out hb3); have HX3 := m_ hx3; have HB3 := m_ (a9_ HB2.out hb3); have nvw : gv ≠ gw := (by omega); have nlw : gl ≠ gw := (by omega); obtain ⟨f0, f1, f2, f3, f4, f5⟩ := cz6_ ⟨hx3⟩; clear hx3 hb3 hgv hgl hgw hgv2 hgl2 hs2 HX1 HX1b HX2 HB1 HB2) | (go_at_call 68; refine (HRT.out _).mono ?_; rintro e w4 ⟨rfl, hb4⟩; have HX4v := m_ (a1_ HX1c.out hb4); have HX4l := m_ (a1_ HX2b.out hb4); have HX4w := m_ (a1_ HX3.out hb4); have HB4 := m_ (a9_ HB3.out hb4); clear hb4 f0 f1 f2 f3 f4 f5 HX1c HX2b HX3 HB3))
  have k4 : w4.cell? ⟨gv, 0, none⟩ = some (.slice A1 l1.length c1) := (a0_ HX4v.out 0).trans rfl
  go_region_held3 (fun w' => w'.cell? ⟨gv, 0, none⟩ = some (.slice A1 l1.length c1)) (first | exact k4 | assumption) (first | (go_at_call 69; refine (promise_all.calls (l3.length + 1) A3 c3 l3 _ _ (Kd.C_below HR3.out (b7_ HB4.out)) HC3.out HA.out).mono ?_; rintro e w5 ⟨v5, rfl, ho5, hb5⟩; obtain ⟨A5, c5, rfl, hc5, hr5⟩ := Kd.R_reads ho5; have k5 : w5.cell? ⟨gv, 0, none⟩ = some (.slice A1 l1.length c1) := d9_ hb5 k4; have HB5 := m_ (a9_ (b7_ (Below.refl w4.heap.size w4)) hb5); have HR5 := m_ (And.intro hc5 hr5); clear ho5 hb5 hc5 hr5) | (go_at_call 52; refine (pack_More.calls A1 c1 l1 A5 c5 al mv me _ (Kd.C_below HR1.out (a9_ HB4.out HB5.out)) HC1.out HR5.out.2 HR5.out.1 HM.out).mono ?_; rintro e w6 ⟨v6, rfl, ho6, hb6⟩; have k6 : w6.cell? ⟨gv, 0, none⟩ = some (.slice A1 l1.length c1) := d9_ hb6 k5; have HB6 := m_ (a9_ HB5.out hb6); clear ho6 hb6))
  clear k4 k5 k6
  by_cases hme : me = 0
  ·subst hme
   go_wp2_with (first | (go_at_call 70; refine (clone70_n A3 c3 l3.length ps _ HPL.out (Kd.C_below HPC.out (a9_ HB4.out HB6.out)) (by have := HPL.out; have := HN.out; omega)).mono ?_; rintro e w7 ⟨v7, rfl, ho7, hb7⟩; obtain ⟨A7, c7, rfl, hc7, _⟩ := Kd.R_reads ho7; have HO7 := m_ ho7; have HB7 := m_ hb7; clear ho7 hb7 hc7) | (go_at_call 71; refine (sort_n2 A7 ps.length c7 w6.heap.size ps _ HO7.out (by have := HPL.out; have := HN.out; omega)).mono ?_; rintro e w8 ⟨rfl, ho8, hg8⟩; rw [HSPE.out] at ho8; have HO8 := m_ ho8; have HG8 := m_ hg8; clear ho8 hg8))
   have hB6 := a9_ HB4.out HB6.out
   have hB7 := a9_ hB6 HB7.out
   have hbb := blkOf_base HO7.out HB7.out.size
   have hs46 := HB6.out.size
   have gv4 := c4_ HX4v.out
   have gl4 := c4_ HX4l.out
   have gw4 := c4_ HX4w.out
   have hB8 : Below w.heap.size w w8 := hB7.grown HG8.out hB7.size (fun k e => by cases e; have := HB4.out.size; omega)
   have hmv : ∀ k, k < w4.heap.size → w8.heap[k]? = w4.heap[k]? := fun k hk => by
    rw [HG8.out.block k (by have := HB7.out.size; omega) (fun e => by cases e; omega), HB7.out.block k (by omega), HB6.out.block k hk]
   have HXv := m_ ((hmv gv gv4).trans HX4v.out)
   have HXl := m_ ((hmv gl gl4).trans HX4l.out)
   have HXw := m_ ((hmv gw gw4).trans HX4w.out)
   have HFv := m_ (Kd.F_mono (ok' := fun k => k ≠ gv ∧ k ≠ gl) (Foot.step (Kd.C_F k51_heap HR1.out) (fun k hk _ => hB8.block k hk)) (fun k hk => ⟨by omega, by omega⟩))
   have HSO := m_ (fun (x : HV) (hx : x ∈ SP) => (show SlotsOk w8 (fun k => k ≠ gv ∧ k ≠ gl) x from
    let h0 := HSL.out x (HPERM.out.mem_iff.1 hx)
    ⟨h0.1, h0.2.1, Kd.F_mono (Foot.step h0.2.2 (fun k hk _ => hB8.block k hk)) (fun k hk => ⟨by omega, by omega⟩)⟩))
   have HMK := m_ (fun (x : HV) (hx : x ∈ SP) (s : S52) (hs : s ∈ x.1.f4) => HS.out s (by
    rw [← HALL.out]
    refine List.mem_flatMap.2 ⟨x.1, ?_, hs⟩
    rw [← HMAP.out]
    exact List.mem_map.2 ⟨x, HPERM.out.mem_iff.1 hx, rfl⟩))
   have HLS := m_ (HPERM.out.length_eq)
   have HPN := m_ (show ps.length ≤ 1000 by have := HPL.out; have := HN.out; omega)
   have HB8 := m_ hB8
   have HBS := m_ (show gv < w6.heap.size ∧ gl < w6.heap.size ∧ gw < w6.heap.size by omega)
   clear hB6 hB7 hbb hs46 gv4 gl4 gw4 hB8 hmv HO7 HB7 HG8 HX4v HX4l HX4w
   rw [hwl]
   go_loopw [48, 16] (fun v48 v16 wr => ∃ (k : Nat) (t : Int) (view : List S51) (left : Int × Int) (Av : Option Addr) (cv : Nat), k ≤ SP.length ∧ v48 = .int .i64 (k : Int) ∧ v16 = .int .i64 t ∧
    A_ (goE q m g c mn mx (SP.map (fun x => x.1)) now l1 (lg, lc) = goE q m g c mn mx ((SP.drop k).map (fun x => x.1)) t view left) ∧
    A_ (wr.heap[gv]? = some (.cells #[.slice Av view.length cv] 22 (0, 0))) ∧ A_ (wr.heap[gl]? = some (.cells #[.int .i64 left.1, .int .i64 left.2] 24 (0, 0))) ∧ A_ (wr.heap[gw]? = some (.cells #[.int .i64 q, .int .i64 m, .int .i64 g, .int .i64 c, .int .i64 mn, .int .i64 mx] 29 (0, 0))) ∧
    A_ (Kd.F k51 wr (fun k => k ≠ gv ∧ k ≠ gl) Av view.length view) ∧ A_ (view.length ≤ cv) ∧ A_ (viewOk view) ∧ A_ (∀ x ∈ SP, SlotsOk wr (fun k => k ≠ gv ∧ k ≠ gl) x) ∧
    A_ (Kd.R kh 41 wr w6.heap.size (fun k => w6.heap.size ≤ k) (.slice A7 ps.length c7) SP) ∧ A_ (Below w.heap.size w wr)) (fun v48 _ _ => SP.length + 1 - (intOf v48).toNat)
   case atStart => exact ⟨0, now, l1, (lg, lc), A1, c1, Nat.zero_le _, rfl, rfl, ⟨rfl⟩, HXv, HXl, HXw, HFv, HC1, HVO, HSO, ⟨Kd.R_mono HO8.out (fun _ hk => hk.1)⟩, HB8⟩
   case round =>
    clear HXv HXl HXw HFv HSO HO8 HB8
    obtain ⟨k, t, view, ⟨lg', lc'⟩, Av, cv, hk, rfl, rfl, HG, HXV, HXL, HXW, HFV, HCV, HVW, HSP, HRW, HBW⟩ := hrel
    have hspl : SP.length = ps.length := HLS.out
    have hpn := HPN.out
    have HFit := fits_eq (view.length + 1) view lg' lc' q m g c mn mx (Nat.le_refl _) (by have := HVW.out.1; omega) HVW.out.2.1
    have HCF := m_ (promise_Fits.calls (view.length + 1) Av cv view lg' lc' q m g c mn mx _ wr (Kd.F_now HFV.out) HCV.out HFit)
    have fv : wr.cell? ⟨gv, 0, none⟩ = some (.slice Av view.length cv) := (a0_ HXV.out 0).trans rfl
    obtain ⟨fl0, fl1⟩ := cz2_ HXL
    obtain ⟨fw0, fw1, fw2, fw3, fw4, fw5⟩ := cz6_ HXW
    clear HFit
    by_cases hkn : k = SP.length
    ·have h1 : (k : Int) < (ps.length : Int) + 1 := by omega
     have h2 : ((k : Int) == (ps.length : Int)) = true := by simp; omega
     rw [List.drop_eq_nil_of_le (by omega)] at HG
     simp only [List.map_nil, goE] at HG
     cases hf : fitsB view lg' lc' m g c mn mx with
     | true =>
      rw [hf] at HCF
      rw [hf, if_pos rfl] at HG
      clear hf hkn
      go_wp2_with (go_at_call 29; refine HCF.out.mono ?_; rintro e w9 ⟨rfl, hb9⟩; have HB9 := m_ (a9_ HBW.out hb9); clear hb9)
      all_goals go_ret2
      all_goals exact ⟨by rw [HG.out]; rfl, HB9.out⟩
     | false =>
      rw [hf] at HCF
      rw [hf, if_neg (by decide)] at HG
      clear hf hkn
      go_wp2_with (go_at_call 29; refine HCF.out.mono ?_; rintro e w9 ⟨rfl, hb9⟩; have HB9 := m_ (a9_ HBW.out hb9); clear hb9)
      all_goals go_ret2
      all_goals exact ⟨by rw [HG.out]; rfl, HB9.out⟩
    ·have hkl : k < SP.length := by omega
     have h1 : (k : Int) < (ps.length : Int) + 1 := by omega
     have h2 : ((k : Int) == (ps.length : Int)) = false := by simp; omega
     have h3 : (k : Int) < (ps.length : Int) := by omega
     have h4 : (0 : Int) ≤ (k : Int) := by omega
     obtain ⟨g7, cap7, cur7, hv7, hok7, _, hh7⟩ := ownh HRW.out (by omega)
     injection hv7 with ha7 hn7 hc7
     subst ha7
     clear hn7 hc7
     have hget := List.getElem?_eq_getElem hkl
     obtain ⟨y0, y1, y2, y3, y4⟩ := at_kh HRW.out k SP[k] hget
     have hSx := HSP.out SP[k] (List.getElem_mem hkl)
     have hMx := HMK.out SP[k] (List.getElem_mem hkl)
     rw [List.drop_eq_getElem_cons hkl, List.map_cons, goE] at HG
     generalize SP[k] = x at *
     have HSX := m_ hSx
     have HMX := m_ hMx
     clear hget hSx hMx hkn
     have hmv1 := more_eq HVW.out (fun s hs => (HMX.out s hs).2)
     have hvok := turned51_ok HVW.out (fun s hs => (HMX.out s hs).1)
     generalize turned51 moreE moreF view x.1.f4 = mr2 at *
     obtain ⟨v2, e2⟩ := mr2
     have HMV := m_ hmv1
     have HVOK := m_ hvok
     clear hmv1 hvok
     have hwk : ∀ k, (k = gv ∨ k = gl) → w.heap.size ≤ k := fun k hk => by rcases hk with rfl | rfl <;> omega
     by_cases hgt : x.1.f2 > t
     ·have b3 : decide (t < x.1.f2) = true := by simpa using hgt
      rw [if_pos hgt] at HG
      clear hgt
      cases hf : fitsB view lg' lc' m g c mn mx with
      | true =>
       rw [hf] at HCF
       rw [hf, if_pos rfl] at HG
       clear hf
       go_wp2_with (go_at_call 29; refine HCF.out.mono ?_; rintro e w9 ⟨rfl, hb9⟩; have HB9 := m_ (a9_ HBW.out hb9); clear hb9)
       all_goals go_ret2
       all_goals exact ⟨by rw [HG.out]; rfl, HB9.out⟩
      | false =>
       rw [hf] at HCF
       rw [hf, if_neg (by decide)] at HG
       clear hf
       by_cases hge : x.1.f2 ≥ 1073741825
       ·have b4 : decide ((1073741825 : Int) ≤ x.1.f2) = true := by simpa using hge
        rw [if_pos hge] at HG
        clear hge
        go_wp2_with (go_at_call 29; refine HCF.out.mono ?_; rintro e w9 ⟨rfl, hb9⟩; have z2 := d9_ hb9 y2; have HB9 := m_ (a9_ HBW.out hb9); clear hb9)
        all_goals go_ret2
        all_goals exact ⟨by rw [HG.out]; rfl, HB9.out⟩
       ·have b4 : decide ((1073741825 : Int) ≤ x.1.f2) = false := by simpa using hge
        rw [if_neg hge] at HG
        clear hge
        go_wp2_with (first | (go_at_call 29; refine HCF.out.mono ?_; rintro e w8b ⟨rfl, hb8⟩; have z0 := d9_ hb8 y0; have z1 := d9_ hb8 y1; have z2 := d9_ hb8 y2; have z3 := d9_ hb8 y3; have z4 := d9_ hb8 y4; have HK8 := m_ (KP.below (KP.refl wr (fun k => k = gv ∨ k = gl)) hb8); have HXV8 := m_ (a1_ HXV.out hb8); have HXW8 := m_ (a1_ HXW.out hb8); have HXL8 := m_ (a1_ HXL.out hb8); have HFV8 := m_ (Kd.F_below HFV.out hb8); have HSX8 := m_ (show SlotsOk w8b (fun k => k ≠ gv ∧ k ≠ gl) x from ⟨HSX.out.1, HSX.out.2.1, Kd.F_below HSX.out.2.2 hb8⟩); clear hb8) | (go_at_call 74; refine (end_any gv gw gl x view Av cv q m g c mn mx lg' lc' v2 e2 w8b HXV8.out HXW8.out HXL8.out nvw nvl (fun e => nlw e.symm) HFV8.out HCV.out HSX8.out (fun s hs => (HMX.out s hs).1) HMV.out).mono ?_; rintro e w9 ⟨rfl, hk9, ⟨A9, c9, hv9, hc9, hf9⟩, hl9⟩; have HK9b := m_ hk9; have HV9 := m_ hv9; have HC9 := m_ hc9; have HF9 := m_ hf9; have HL9 := m_ hl9; clear hk9 hv9 hc9 hf9 hl9))
        have HK9 := m_ (HK8.out.trans HK9b.out)
        have HB9 := m_ (HK9.out.under HBW.out hwk)
        have HW9 := m_ (blk_kept HXW.out HK9.out.kept (fun h => by rcases h with h | h; exact nvw h.symm; exact nlw h.symm))
        have HS9 := m_ (fun (z : HV) (hz : z ∈ SP) => (show SlotsOk w9 (fun k => k ≠ gv ∧ k ≠ gl) z from ⟨(HSP.out z hz).1, (HSP.out z hz).2.1, Kd.F_kept (HSP.out z hz).2.2 HK9.out.kept (fun k hk hs => by rcases hs with h | h; exact hk.1 h; exact hk.2 h)⟩))
        have HR9 := m_ (Kd.R_kept HRW.out HK9.out.kept (fun k hk hs => by have := HBS.out; rcases hs with h | h <;> omega))
        go_roundw
        case rel => exact ⟨k + 1, x.1.f2, v2, _, A9, c9, by omega, by go_num, rfl, HG, HV9, HL9, HW9, HF9, HC9, HVOK, HS9, HR9, HB9⟩
        case measure => simp [intOf]; omega
     ·have b3 : decide (t < x.1.f2) = false := by simpa using hgt
      rw [if_neg hgt] at HG
      clear hgt
      go_wp2_with (first | (go_at_call 74; refine (end_any gv gw gl x view Av cv q m g c mn mx lg' lc' v2 e2 wr HXV.out HXW.out HXL.out nvw nvl (fun e => nlw e.symm) HFV.out HCV.out HSX.out (fun s hs => (HMX.out s hs).1) HMV.out).mono ?_; rintro e w9 ⟨rfl, hk9, ⟨A9, c9, hv9, hc9, hf9⟩, hl9⟩; have HK9 := m_ hk9; have HV9 := m_ hv9; have HC9 := m_ hc9; have HF9 := m_ hf9; have HL9 := m_ hl9; clear hk9 hv9 hc9 hf9 hl9))
      have HB9 := m_ (HK9.out.under HBW.out hwk)
      have HW9 := m_ (blk_kept HXW.out HK9.out.kept (fun h => by rcases h with h | h; exact nvw h.symm; exact nlw h.symm))
      have HS9 := m_ (fun (z : HV) (hz : z ∈ SP) => (show SlotsOk w9 (fun k => k ≠ gv ∧ k ≠ gl) z from ⟨(HSP.out z hz).1, (HSP.out z hz).2.1, Kd.F_kept (HSP.out z hz).2.2 HK9.out.kept (fun k hk hs => by rcases hs with h | h; exact hk.1 h; exact hk.2 h)⟩))
      have HR9 := m_ (Kd.R_kept HRW.out HK9.out.kept (fun k hk hs => by have := HBS.out; rcases hs with h | h <;> omega))
      go_roundw
      case rel => exact ⟨k + 1, t, v2, _, A9, c9, by omega, by go_num, rfl, HG, HV9, HL9, HW9, HF9, HC9, HVOK, HS9, HR9, HB9⟩
      case measure => simp [intOf]; omega
  ·have bme : (me == 0) = false := by simpa using hme
   go_wp2
   go_ret2
   exact ⟨by simp [hme], a9_ HB4.out HB6.out⟩
theorem okE_out {view : List S51} {ends : List S41} (h : okE view ends = true) : ends.length ≤ 1000 ∧ viewOk view ∧ (∀ s ∈ ends.flatMap (fun h => h.f4), maskOk s = true ∧ (w64B s.f0.f0 && w64B s.f0.f1) = true) ∧ (ends.flatMap fun h => h.f4).length < 4000000000 := by
 unfold okE spotsOk at h
 rw [Bool.and_eq_true, Bool.and_eq_true, Bool.and_eq_true, Bool.and_eq_true, Bool.and_eq_true, Bool.and_eq_true] at h
 obtain ⟨⟨⟨⟨h1, ⟨h2, h3⟩, h4⟩, h5⟩, h6⟩, h7⟩ := h
 exact ⟨of_decide_eq_true h1, ⟨of_decide_eq_true h2, fun f hf => List.all_eq_true.1 h5 f hf, fun f hf => List.all_eq_true.1 h3 f hf⟩, fun s hs => ⟨List.all_eq_true.1 h6 s hs, List.all_eq_true.1 h4 s hs⟩, of_decide_eq_true h7⟩
theorem promise_Earliest.calls (a0 : Int) (A1 : Option Addr) (c1 : Nat) (l1 : List (S51)) (a2_0 a2_1 : Int) (A3 : Option Addr) (c3 : Nat) (l3 : List (S41)) (a4_0 a4_1 a4_2 a4_3 a4_4 a4_5 r1 r2 : Int) (w : World) (hr1 : Kd.C k51 w A1 l1.length l1) (hc1 : l1.length ≤ c1) (hr3 : Kd.C k41 w A3 l3.length l3) (hc3 : l3.length ≤ c3) (h : promise_Earliest.f a0 l1 a2_0 a2_1 l3 a4_0 a4_1 a4_2 a4_3 a4_4 a4_5 = some (r1, r2)) :
  Calls Try.prog 27 #[.int .i64 a0, .slice A1 l1.length c1, .agg #[.int .i64 a2_0, .int .i64 a2_1], .slice A3 l3.length c3, .agg #[.int .i64 a4_0, .int .i64 a4_1, .int .i64 a4_2, .int .i64 a4_3, .int .i64 a4_4, .int .i64 a4_5]] w fun e w' => e = .returned (.tuple #[.int .i64 r1, .int .i64 r2]) ∧ Below w.heap.size w w' := by
 unfold promise_Earliest.f at h
 by_cases ho : okE l1 l3 = true
 ·rw [if_pos ho] at h
  obtain ⟨h1, h2, h3, h4⟩ := okE_out ho
  have e := Option.some.inj h
  have e1 : r1 = (earliestB a0 l1 a2_0 a2_1 l3 a4_0 a4_1 a4_2 a4_3 a4_4 a4_5).1 := by rw [e]
  have e2 : r2 = (earliestB a0 l1 a2_0 a2_1 l3 a4_0 a4_1 a4_2 a4_3 a4_4 a4_5).2 := by rw [e]
  rw [e1, e2]
  exact early_any a0 A1 c1 l1 a2_0 a2_1 A3 c3 l3 a4_0 a4_1 a4_2 a4_3 a4_4 a4_5 w hr1 hc1 hr3 hc3 h1 h2 h3 h4
 ·rw [if_neg ho] at h; cases h
end Go.Proofs.Ytckhjehibjdjdaa.P
namespace Go.Proofs.Ytckhjehibjdjdaa.P
open Go.RowKit Go.Shelf Go.Proofs.YtckhjehibjdjdaaW.PrintWords Go.Proofs.YtckhjehibjdjdaaW.PrintLast Go.Proofs.YtckhjehibjdjdaaW.PrintMore
open Go.Proofs.Ytckhjehibjdjdaa.Bits
attribute [local go_sem] Oper.semAt_some
def subU (a : Int × Int) (s : S52) : Int × Int := (wrap64 (a.1 - popI s.f1), wrap64 (a.2 - s.f2))
def subL (a : Int × Int) (l : List S52) : Int × Int := l.foldl subU a
theorem subL_step (a : Int × Int) (l : List S52) (j : Nat) (h : j < l.length) : subL a (l.take (j + 1)) = subU (subL a (l.take j)) (a5_ l (j : Int)) := by
 have e : a5_ l (j : Int) = l[j] := by simp [a5_, List.getD_eq_getElem?_getD, List.getElem?_eq_getElem h]
 unfold subL
 rw [List.take_succ_eq_append_getElem h, List.foldl_append, e]; rfl
set_option maxHeartbeats 8000000 in
set_option maxRecDepth 100000 in
theorem take1 (gl : Nat) (t0 t1 sm sc lg lc : Int) (w : World) (hl : w.heap[gl]? = some (.cells #[.int .i64 lg, .int .i64 lc] 24 (0, 0))) (hm : 0 ≤ sm ∧ sm < 18446744073709551616) :
  Calls Try.prog 107 #[.agg #[.int .i64 t0, .int .i64 t1, .int .u64 sm, .int .i64 sc], .pointer (some ⟨gl, 0, none⟩)] w fun e w' => e = .returned (.tuple #[]) ∧ KP w w' (fun k => k = gl) ∧
   w'.heap[gl]? = some (.cells #[.int .i64 (wrap64 (lg - popI sm)), .int .i64 (wrap64 (lc - sc))] 24 (0, 0)) := by
 have hu52 := Try.underlying52
 have hu24 := Try.underlying24
 have gll := c4_ hl
 have HL0 := m_ hl
 have HMK := m_ hm
 clear hl hm
 go_enter Try.func107, Try.ntmps107
 go_wp2_with (first | ((with_reducible refine a3_ (N := 2) rfl ?_); refine bx 2 #[.int .i64 t0, .int .i64 t1, .int .u64 sm, .int .i64 sc] 52 ?_; intro g4 hg4 w4 hx4 hb4; have HX4 := m_ hx4; have HB4 := m_ hb4; have n3 : gl ≠ g4 := (by omega); have HL4 := m_ (a1_ HL0.out hb4); have l0 : w4.cell? ⟨gl, 0, none⟩ = some (.int .i64 lg) := (a0_ (a1_ HL0.out hb4) 0).trans rfl; have b2 : w4.cell? ⟨g4, 1 + 1, none⟩ = some (.int .u64 sm) := (a0_ hx4 2).trans rfl; clear hg4 hx4 hb4))
 go_still_tail 7, (by kernel_rfl)
 still_call ((count_any _ HMK.out.1 HMK.out.2 _))
 repeat still_step
 refine wpStill_nil ?_
 change wpList _ _ _ _ _ w4.drew
 clear l0 b2
 have l0 : w4.drew.cell? ⟨gl, 0, none⟩ = some (.int .i64 lg) := (a0_ HL4.out 0).trans rfl
 have z0 : w4.drew.frozen? ⟨gl, 0, none⟩ = false := a2_ HL4.out 0
 have z1 : w4.frozen? ⟨gl, 1, none⟩ = false := a2_ HL4.out 1
 have l1 : w4.cell? ⟨gl, 1, none⟩ = some (.int .i64 lc) := (a0_ HL4.out 1).trans rfl
 have b3 : w4.cell? ⟨g4, 3, none⟩ = some (.int .i64 sc) := (a0_ HX4.out 3).trans rfl
 go_wp2
 go_end0
 exact ⟨rfl, (((KP.below (KP.refl w (fun k => k = gl)) HB4.out).set (g := gl) (j := 0) (Or.inl rfl) _).set (g := gl) (j := 1) (Or.inl rfl) _).drew, blk_set (blk_set HL4.out 0 _) 1 _⟩
def maskAll (l : List S52) : Bool := l.all maskOk && decide (l.length < 1000000000)
def fill_take.f (a0_0 a0_1 : Int) (l1 : List (S52)) : Option (Int × Int) := if maskAll l1 = true then some (subL (a0_0, a0_1) l1) else none
set_option maxHeartbeats 8000000 in
set_option maxRecDepth 100000 in
theorem take_any (a0_0 a0_1 : Int) (A1 : Option Addr) (c1 : Nat) (l1 : List (S52)) (w : World) (hr1 : Kd.C k52 w A1 l1.length l1) (hm : ∀ s ∈ l1, maskOk s = true) (hl : l1.length < 1000000000) :
  Calls Try.prog 81 #[.agg #[.int .i64 a0_0, .int .i64 a0_1], .slice A1 l1.length c1] w fun e w' => e = .returned (.agg #[.int .i64 (subL (a0_0, a0_1) l1).1, .int .i64 (subL (a0_0, a0_1) l1).2]) ∧ Below w.heap.size w w' := by
 have hu52 := Try.underlying52
 have hu24 := Try.underlying24
 have HR := m_ hr1
 have HM := m_ hm
 have HL := m_ hl
 clear hr1 hm hl
 go_enter Try.func81, Try.ntmps81
 go_wp2_with (first | ((with_reducible refine a3_ (N := 2) rfl ?_); refine bx 2 #[.int .i64 a0_0, .int .i64 a0_1] 24 ?_; intro gb hgb wb hxb hbb; have HXB := m_ hxb; have HBB := m_ hbb; have hgb2 : w.heap.size ≤ gb := (by omega); clear hgb hxb hbb))
 have hB1 := b4_ HBB.out (.cells #[.int .i64 0, .int .i64 0] 24)
 have hG1 := b8_ HXB.out (.cells #[.int .i64 0, .int .i64 0] 24)
 have hR1 := heap_alloc_new wb (.cells #[.int .i64 0, .int .i64 0] 24)
 have hne : wb.heap.size ≠ gb := by have := c4_ HXB.out; omega
 have hrs : w.heap.size ≤ wb.heap.size := HBB.out.size
 have HB1 := m_ hB1
 have HG1 := m_ hG1
 have HR1 := m_ hR1
 obtain ⟨gr, hgr⟩ : ∃ gr, gr = wb.heap.size := ⟨_, rfl⟩
 rw [← hgr] at HR1 hne hrs ⊢
 clear hB1 hG1 hR1 hgr HXB HBB
 go_loopw [11] (fun v11 wr => ∃ j : Nat, j ≤ l1.length ∧ v11 = .int .i64 (j : Int) ∧ A_ (Below w.heap.size w wr) ∧ A_ (wr.heap[gb]? = some (.cells #[.int .i64 (subL (a0_0, a0_1) (l1.take j)).1, .int .i64 (subL (a0_0, a0_1) (l1.take j)).2] 24 (0, 0))) ∧ A_ (wr.heap[gr]? = some (.cells #[.int .i64 0, .int .i64 0] 24 (0, 0)))) (fun v11 _ => l1.length - (intOf v11).toNat)
 case atStart => exact ⟨0, Nat.zero_le _, rfl, HB1, HG1, HR1⟩
 case round =>
  clear HB1 HG1 HR1
  obtain ⟨j, hj, rfl, HB, HG, HE⟩ := hrel
  have hC := Kd.C_below HR.out HB.out
  have hlm := HL.out
  by_cases hlt : j < l1.length
  ·have h0 : 0 ≤ (j : Int) := by omega
   have h1' : (j : Int) < l1.length := by omega
   obtain ⟨ad1, ee, y0, y1, y2, y3⟩ := at_T52 hC (j : Int) h0 h1'
   cases ee
   simp only [Int.toNat_natCast] at y0 y1 y2 y3
   have hstep := subL_step (a0_0, a0_1) l1 j hlt
   have hmk := HM.out (a5_ l1 (j : Int)) (by simp [a5_, List.getD_eq_getElem?_getD, List.getElem?_eq_getElem hlt])
   generalize a5_ l1 (j : Int) = s at *
   generalize subL (a0_0, a0_1) (l1.take j) = acc at *
   obtain ⟨⟨t0, t1⟩, sm, sc⟩ := s
   simp only [maskOk, Bool.and_eq_true, decide_eq_true_eq] at hmk
   have HMK := m_ hmk
   have HST := m_ hstep
   clear hmk hstep hC
   simp only at y0 y1 y2 y3
   have HBA := m_ (b4_ HB.out (.cells #[.int .i64 t0, .int .i64 t1, .int .u64 sm, .int .i64 sc] 52))
   have HGA := m_ (b8_ HG.out (.cells #[.int .i64 t0, .int .i64 t1, .int .u64 sm, .int .i64 sc] 52))
   have HEA := m_ (b8_ HE.out (.cells #[.int .i64 t0, .int .i64 t1, .int .u64 sm, .int .i64 sc] 52))
   clear HB HG HE
   go_wp2_with (go_at_call 107; refine (take1 gb t0 t1 sm sc acc.1 acc.2 _ HGA.out HMK.out).mono ?_; rintro e w5 ⟨rfl, hk5, hg5⟩; have HB5 := m_ (hk5.under HBA.out (fun k hk => by omega)); have HG5 := m_ hg5; have HE5 := m_ ((hk5.kept.2 gr (c4_ HEA.out) hne).trans HEA.out); clear hk5 hg5)
   go_roundw
   case rel => exact ⟨j + 1, by omega, by go_num, HB5, ⟨by rw [HST.out]; exact HG5.out⟩, HE5⟩
   case measure => simp [intOf]; omega
  ·obtain rfl : j = l1.length := by omega
   have hg := HG.out
   rw [List.take_length] at hg
   obtain ⟨p0, p1⟩ := cz2_ ⟨hg⟩
   have e0 : wr.cell? ⟨gr, 0, none⟩ = some (.int .i64 0) := (a0_ HE.out 0).trans rfl
   have e1 : wr.cell? ⟨gr, 1, none⟩ = some (.int .i64 0) := (a0_ HE.out 1).trans rfl
   have z0 := a2_ HE.out 0
   have z1 := a2_ HE.out 1
   clear hg hC
   go_wp2
   refine bodyPost_ret (results_cell_row rfl _ _ gr 24 #[.int .i64 (subL (a0_0, a0_1) l1).1, .int .i64 (subL (a0_0, a0_1) l1).2] (0, 0) _ rfl (blk_set (blk_set HE.out 0 _) 1 _) Try.underlying24 rfl rfl) rfl ?_
   exact ⟨rfl, b5_ (b5_ HB.out hrs) hrs⟩
theorem fill_take.calls (a0_0 a0_1 : Int) (A1 : Option Addr) (c1 : Nat) (l1 : List (S52)) (r1 r2 : Int) (w : World) (hr1 : Kd.C k52 w A1 l1.length l1) (hc1 : l1.length ≤ c1) (h : fill_take.f a0_0 a0_1 l1 = some (r1, r2)) :
  Calls Try.prog 81 #[.agg #[.int .i64 a0_0, .int .i64 a0_1], .slice A1 l1.length c1] w fun e w' => e = .returned (.agg #[.int .i64 r1, .int .i64 r2]) ∧ Below w.heap.size w w' := by
 unfold fill_take.f at h
 by_cases ho : maskAll l1 = true
 ·rw [if_pos ho] at h
  unfold maskAll at ho
  rw [Bool.and_eq_true] at ho
  have e := Option.some.inj h
  have e1 : r1 = (subL (a0_0, a0_1) l1).1 := by rw [e]
  have e2 : r2 = (subL (a0_0, a0_1) l1).2 := by rw [e]
  rw [e1, e2]
  exact take_any a0_0 a0_1 A1 c1 l1 w hr1 (fun s hs => List.all_eq_true.1 ho.1 s hs) (of_decide_eq_true ho.2)
 ·rw [if_neg ho] at h; cases h
end Go.Proofs.Ytckhjehibjdjdaa.P
namespace Go.Proofs.Ytckhjehibjdjdaa.P
open Go.RowKit Go.Proofs.YtckhjehibjdjdaaW.PrintWords Go.Proofs.YtckhjehibjdjdaaW.PrintLast Go.Proofs.YtckhjehibjdjdaaW.PrintMore
def Sh {α : Type} (k : Kd α) (e : TypeId) (w W : World) (base : Nat) (v : Value) (l : List α) : Prop :=
 ∃ rows : List (List Value), rows.length = l.length ∧ (Kd.raw k.sz).R e W base (fun _ => True) v rows ∧ ∀ (j : Nat) (y : α) (c : List Value), l[j]? = some y → rows[j]? = some c → k.K w y c
section
variable {α : Type} {k : Kd α} {e base : Nat} {w W W' : World} {v : Value} {l : List α}
theorem Sh.nil : Sh k e w W base (.slice none 0 0) [] := ⟨[], rfl, Kd.R_nil _ _ _ _ _, fun j y c h => by simp at h⟩
theorem rowIn {A : Option Addr} {n : Nat} (h : k.C w A n l) (hb : Below w.heap.size w W) : ReadsRow (k.K w) k.sz W A n l := ReadsRow.imp_ h hb (fun _ _ h => h)
theorem rowBx {g t : Nat} {cs : Array Value} {x : α} [b : Bx W g cs t] (hk : k.K w x cs.toList) : ReadsRow (k.K w) k.sz W (some ⟨g, 0, none⟩) [x].length [x] :=
 ⟨rfl, by simp, fun _ => ⟨_, rfl, fun j p hj => by
  cases j with
  | succ j => simp at hj
  | zero =>
   obtain rfl : x = p := by simpa using hj
   refine ⟨cs.toList, k.K_len hk, hk, fun i u hu => ?_⟩
   rw [Nat.zero_mul, Nat.zero_add, e0_, cellBx]
   simpa using hu⟩⟩
theorem Sh.step (h : Sh k e w W base v l) (hb : Below W.heap.size W W') : Sh k e w W' base v l :=
 let ⟨r, a, b, c⟩ := h; ⟨r, a, Kd.R_below b hb, c⟩
theorem Sh.drew (h : Sh k e w W base v l) : Sh k e w W.drew base v l := let ⟨r, a, b, c⟩ := h; ⟨r, a, Kd.R_drew b, c⟩
theorem Sh.read (h : Sh k e w W base v l) (hw : Below w.heap.size w W) : ∃ A c, v = .slice A l.length c ∧ Rw k W A c l := by
 obtain ⟨rows, hl, hR, hk⟩ := h
 obtain ⟨A, c, rfl, hc, hC⟩ := Kd.R_reads hR
 refine ⟨A, c, by rw [hl], ⟨?_, by omega⟩⟩
 refine ⟨rfl, by have := hC.2.1; omega, fun hn => ?_⟩
 obtain ⟨ad, ea, hh⟩ := hC.2.2 (by omega)
 refine ⟨ad, ea, fun j p hj => ?_⟩
 have hjl := (List.getElem?_eq_some_iff.1 hj).1
 have hr : rows[j]? = some (rows[j]'(by omega)) := List.getElem?_eq_getElem (by omega)
 obtain ⟨c', h1, h2, h3⟩ := hh j _ hr
 obtain ⟨rfl, _, _⟩ := h2
 exact ⟨_, h1, k.K_below hw (hk j p _ hj hr), h3⟩
theorem Sh.elem {g n cap i : Nat} {y : α} (h : Sh k e w W base (.slice (some ⟨g, 0, none⟩) n cap) l) (hy : l[i]? = some y) :
  ∃ c, k.K w y c ∧ (∀ (j : Nat) (u : Value), c[j]? = some u → W.cell? ⟨g, i * k.sz + j, none⟩ = some u) ∧ (∀ j, W.frozen? ⟨g, i * k.sz + j, none⟩ = false) ∧
   ∀ (j : Nat) (u : Value) (y' : α), j < k.sz → k.K w y' (c.set j u) → Sh k e w (W.setCell ⟨g, i * k.sz + j, none⟩ u) base (.slice (some ⟨g, 0, none⟩) n cap) (l.set i y') := by
 obtain ⟨rows, hl, hR, hk⟩ := h
 have hil := (List.getElem?_eq_some_iff.1 hy).1
 have hn := (Kd.R_reads' hR).1
 obtain ⟨c, hcl, hM, hcc, hfr⟩ := Kd.R_elem hR [] (i : Int) (by omega) (by omega)
 have hr : rows[i]? = some (rows[i]'(by omega)) := List.getElem?_eq_getElem (by omega)
 have ec : c = rows[i]'(by omega) := by
  have := hM.1
  simpa [List.getD_eq_getElem?_getD, hr] using this
 have hK := hk i y _ hy hr
 rw [← ec] at hK
 refine ⟨c, hK, fun j u hu => by simpa [Kd.raw] using hcc j u hu, fun j => by simpa [Kd.raw] using hfr j, fun j u y' hj hK' => ?_⟩
 have hone := k.K_one hK'
 have hlen := k.K_len hK'
 have e1 : c.take j ++ [u] ++ c.drop (j + [u].length) = c.set j u := by
  rw [List.set_eq_take_append_cons_drop, if_pos (by rw [hcl]; exact hj)]
  simp
 have := (Kd.R_seg hR (i : Int) (by omega) (by omega) (seg := [u]) (j := j) (x' := c.set j u) (okp := fun _ => False) hcl hcc (by show j + 1 ≤ k.sz; omega) (by rw [e1]; exact ⟨rfl, hlen, hone⟩) (fun _ hk => hk.elim)).1
 refine ⟨rows.set i (c.set j u), by rw [List.length_set, List.length_set, hl], by simpa [World.setCells, Kd.raw] using this, fun j2 y2 c2 h1 h2 => ?_⟩
 by_cases hij : i = j2
 ·subst hij
  rw [List.getElem?_set_self hil] at h1
  rw [List.getElem?_set_self (by omega)] at h2
  obtain rfl := Option.some.inj h1
  obtain rfl := Option.some.inj h2
  exact hK'
 ·rw [List.getElem?_set_ne hij] at h1 h2
  exact hk j2 y2 c2 h1 h2
theorem Sh.joined {rows news : List (List Value)} {xs ys : List α} (hl : rows.length = xs.length) (hk : ∀ (j : Nat) (y : α) (c : List Value), xs[j]? = some y → rows[j]? = some c → k.K w y c) (hnl : news.length = ys.length) (hn : ∀ (j : Nat) (y : α) (c : List Value), ys[j]? = some y → news[j]? = some c → k.K w y c)
  (hR : (Kd.raw k.sz).R e W base (fun _ => True) v (rows ++ news)) : Sh k e w W base v (xs ++ ys) := by
 refine ⟨rows ++ news, by rw [List.length_append, List.length_append, hl, hnl], hR, fun j y c h1 h2 => ?_⟩
 by_cases hj : j < xs.length
 ·rw [List.getElem?_append_left hj] at h1
  rw [List.getElem?_append_left (by omega)] at h2
  exact hk j y c h1 h2
 ·rw [List.getElem?_append_right (by omega)] at h1
  rw [List.getElem?_append_right (by omega), hl] at h2
  exact hn _ y c h1 h2
end
section
variable {P : Program} {ops : Array Oper} {rest : List Oper} {o : Oper} {a : Act} {Q : Exit → Act → World → Prop} {Kc : Act → World → Prop} {α : Type}
theorem litS {w W : World} (N : Tmp) (k : Kd α) (e : TypeId) (h : ∀ v w1, Sh k e w w1 W.heap.size v [] → Bl W w1 → wpList P ops Q rest (a.put o.dst v) w1)
  (hg : o.guard = none := by exact rfl) (hd : o.dst = some N := by exact rfl)
  (hr : (execOp a.eval o).run P W = .ok (.value (.slice (some ⟨W.heap.size, 0, none⟩) 0 0)) (W.alloc (.cells #[] e)) := by first | (go_simp; done) | (go_simp; rfl)) : wpList P ops Q (o :: rest) a W :=
 Kd.R_lit (Kd.raw k.sz) (w0 := W) W.heap.size e hg hd (xs := []) (inner := []) (ok := fun _ => True) (okp := fun _ => True) hr (Reps.none _ _) (fun _ hk => hk) trivial (Below.refl _ _) (Nat.le_refl _) (by simp)
  fun v1 w1 ho hb _ _ => h v1 w1 ⟨[], rfl, ho, fun j y c h1 => by simp at h1⟩ ⟨hb⟩
theorem appS (k : Kd α) {w W0 W : World} (hgd : o.guard = none) (s x : Operand) (t e : TypeId) (z : Value) (bytes : Nat)
  (ho : o.op = .call { callee := .builtin .append, args := #[s, x], argTypes := #[t, t] })
  (ht : P.underlying t = some (.slice e)) (hinfo : (P.info? e).map (fun i => (i.zero, i.size, i.bytes)) = some (some z, k.sz, bytes)) (hz : z.cells.size = k.sz) (hs0 : 0 < k.sz) (hb0 : 0 < bytes)
  {v : Value} {xs ys : List α} {A : Option Addr} {c : Nat} (hs : a.eval s = v) (hx : a.eval x = .slice A ys.length c)
  (HO : Sh k e w W W0.heap.size v xs) (HR : ReadsRow (k.K w) k.sz W A ys.length ys) (HB : Below W0.heap.size W0 W) (hl : (xs.length + ys.length) * bytes ≤ 140737488355328)
  (h : ∀ v1 w1, Sh k e w w1 W0.heap.size v1 (xs ++ ys) → Bl W0 w1 → wpList P ops Q rest (a.put o.dst v1) w1) :
  wpList P ops Q (o :: rest) a W := by
 obtain ⟨rows, hrl, hR, hk⟩ := HO
 obtain ⟨news, hnl, hnr, hnf⟩ := Kd.reads_raw HR (fun y c hk => ⟨k.K_len hk, k.K_one hk⟩)
 refine Kd.R_append_rows (Kd.raw k.sz) W0.heap.size hgd s x t e z bytes ho ht hinfo hz hs0 hb0 v rows news A ys.length c (fun _ => True) (fun _ => False) hs hx hR hnr (fun _ _ hk => hk) (fun _ hk => hk.elim) (fun _ _ => trivial) HB HB.size (by rw [hrl]; exact hl) ?_
 intro v1 w1 h1 h2 _ _
 exact h v1 w1 (Sh.joined hrl hk hnl hnf h1) ⟨h2⟩
theorem appS_step (k : Kd α) {w W0 W : World} (hw' : Region.wanted o (yielded ops a.tmps) = true) (s x : Operand) (t e : TypeId) (z : Value) (bytes : Nat)
  (ho : o.op = .call { callee := .builtin .append, args := #[s, x], argTypes := #[t, t] })
  (ht : P.underlying t = some (.slice e)) (hinfo : (P.info? e).map (fun i => (i.zero, i.size, i.bytes)) = some (some z, k.sz, bytes)) (hz : z.cells.size = k.sz) (hs0 : 0 < k.sz) (hb0 : 0 < bytes)
  {v : Value} {xs ys : List α} {A : Option Addr} {c : Nat} (hs : a.eval s = v) (hx : a.eval x = .slice A ys.length c)
  (HO : Sh k e w W W0.heap.size v xs) (HR : ReadsRow (k.K w) k.sz W A ys.length ys) (HB : Below W0.heap.size W0 W) (hl : (xs.length + ys.length) * bytes ≤ 140737488355328)
  (h : ∀ v1 w1, Sh k e w w1 W0.heap.size v1 (xs ++ ys) → Bl W0 w1 → Kc (a.put o.dst v1) w1) :
  if Region.wanted o (yielded ops a.tmps) = true then Oper.wp P o a W Kc Q else Kc (a.put o.dst undef) W := by
 obtain ⟨rows, hrl, hR, hk⟩ := HO
 obtain ⟨news, hnl, hnr, hnf⟩ := Kd.reads_raw HR (fun y c hk => ⟨k.K_len hk, k.K_one hk⟩)
 refine Kd.R_append_rows_step (Kd.raw k.sz) W0.heap.size hw' s x t e z bytes ho ht hinfo hz hs0 hb0 v rows news A ys.length c (fun _ => True) (fun _ => False) hs hx hR hnr (fun _ _ hk => hk) (fun _ hk => hk.elim) (fun _ _ => trivial) HB HB.size (by rw [hrl]; exact hl) ?_
 intro v1 w1 h1 h2 _ _
 exact h v1 w1 (Sh.joined hrl hk hnl hnf h1) ⟨h2⟩
end
end Go.Proofs.Ytckhjehibjdjdaa.P
namespace Go.Proofs.Ytckhjehibjdjdaa.P
open Go.RowKit Go.Shelf Go.Proofs.YtckhjehibjdjdaaW.PrintWords Go.Proofs.YtckhjehibjdjdaaW.PrintLast Go.Proofs.YtckhjehibjdjdaaW.PrintMore
attribute [local go_sem] Oper.semAt_some
def api_Hold.f (l0 : List (S41)) : Option ((List (S41))) := if l0.length < 1000000 then some l0 else none
end Go.Proofs.Ytckhjehibjdjdaa.P
namespace Go.Proofs.Ytckhjehibjdjdaa.P
open Go.RowKit Go.Proofs.YtckhjehibjdjdaaW.PrintWords Go.Proofs.YtckhjehibjdjdaaW.PrintLast Go.Proofs.YtckhjehibjdjdaaW.PrintMore
attribute [local go_sem] Oper.semAt_some
set_option maxHeartbeats 4000000 in
set_option maxRecDepth 100000 in
theorem cloneS {A0 : Option Addr} {c0 : Nat} {l0 l1 : List S41} {w W : World} (hr0 : Kd.C k41 w A0 l0.length l0) (hw : Below w.heap.size w W) (h : A_ (api_Hold.f l0 = some l1)) :
  Calls Try.prog 70 #[.slice A0 l0.length c0] W fun e w' => ∃ v0_ : Value, e = .returned v0_ ∧ Sh k41 41 w w' W.heap.size v0_ l1 ∧ Below W.heap.size W w' := by
 have hu25 := Try.underlying25
 have q25 : ∀ (w : World) (a : Option Addr) (n c n' c' : Nat), (binOp .eql 25 (.slice a n c) (.slice none n' c')).run Try.prog w = .ok (.bool a.isNone) w := fun w a n c n' c' => Lib.run_eql_slice_nil w _ _ a n c n' c' Try.underlying25
 have h := h.out
 unfold api_Hold.f at h
 by_cases hl : l0.length < 1000000
 case neg => rw [if_neg hl] at h; cases h
 rw [if_pos hl] at h
 obtain rfl := Option.some.inj h
 clear h
 have HR := m_ (rowIn hr0 hw)
 have HL := m_ hl
 cases A0 with
 | none =>
  obtain rfl : l0 = [] := by
   rcases Nat.eq_zero_or_pos l0.length with h | h
   ·exact List.eq_nil_of_length_eq_zero h
   ·obtain ⟨ad, hA, _⟩ := hr0.2.2 h
    cases hA
  clear hr0 hw hl
  go_enter Try.func70, Try.ntmps70
  go_wp2
  all_goals go_ret
  all_goals exact ⟨_, rfl, Sh.nil, Below.refl _ _⟩
 | some ad =>
  clear hr0 hw hl
  go_enter Try.func70, Try.ntmps70
  go_wp2_with (first | ((with_reducible refine a3_ (N := 5) rfl ?_); refine litS (w := w) 5 k41 41 ?_; intro v5 w5 hs hb; have HS := m_ hs; clear hs) | ((with_reducible refine gate_builtin (b := .append) (xs := #[.tmp 5, .tmp 6]) rfl ?_); at_builtin; refine appS k41 (w := w) (W0 := W) rfl (.tmp 5) (.tmp 6) 25 41 (.agg #[(.int .i64 0), (.int .i64 0), (.int .i64 0), (.bool false), (.slice none 0 0)]) 56 rfl Try.underlying25 info41 rfl (by decide) (by omega) rfl rfl HS.out (ReadsRow.imp_ HR.out hb.out (fun _ _ h => h)) hb.out (by have := HL.out; simp; omega) ?_; intro v7 w7 hs7 hb7; have HS7 := m_ hs7; clear hs7 HS))
  all_goals go_ret
  all_goals exact ⟨_, rfl, HS7.out, hb7.out⟩
end Go.Proofs.Ytckhjehibjdjdaa.P
namespace Go.Proofs.Ytckhjehibjdjdaa.P
open Go.RowKit Go.Proofs.YtckhjehibjdjdaaW.PrintWords Go.Proofs.YtckhjehibjdjdaaW.PrintLast Go.Proofs.YtckhjehibjdjdaaW.PrintMore
attribute [local go_sem] cellBx frozBx
def fill_After.f (a0 : Int) (l1 : List (S51)) (a2_0 a2_1 : Int) (l3 : List (S41)) (a4_0 a4_1 a4_2 a4_3 a4_4 a4_5 a5_0 a5_1 a5_2 : Int) (a5_3 : Bool) (l5_4 : List (S52)) : Option (Int × Int) := (pack_Less.f l1 l5_4).bind fun bt329 => (if bt329.2 = 0 then (if a5_1 = a4_0 then ((fill_take.f a2_0 a2_1 l5_4).bind fun bt333 => ((api_Hold.f l3).bind fun t335 => ((some (([(⟨a5_0, a5_1, a5_2, a5_3, l5_4⟩ : S41)] : List (S41)) : List (S41))).bind fun y338 => (if t335.length + y338.length < 2513169434916 then ((promise_Earliest.f a0 bt329.1 bt333.1 bt333.2 (t335 ++ y338) a4_0 a4_1 a4_2 a4_3 a4_4 a4_5).bind fun bt344 => (some (bt344.1, bt344.2))) else (none))))) else ((api_Hold.f l3).bind fun t346 => ((some (([(⟨a5_0, a5_1, a5_2, a5_3, l5_4⟩ : S41)] : List (S41)) : List (S41))).bind fun y349 => (if t346.length + y349.length < 2513169434916 then ((promise_Earliest.f a0 bt329.1 a2_0 a2_1 (t346 ++ y349) a4_0 a4_1 a4_2 a4_3 a4_4 a4_5).bind fun bt355 => (some (bt355.1, bt355.2))) else (none))))) else (some (0, bt329.2)))
set_option maxHeartbeats 8000000 in
set_option maxRecDepth 100000 in
theorem fill_After.calls (a0 : Int) (A1 : Option Addr) (c1 : Nat) (l1 : List (S51)) (a2_0 a2_1 : Int) (A3 : Option Addr) (c3 : Nat) (l3 : List (S41)) (a4_0 a4_1 a4_2 a4_3 a4_4 a4_5 a5_0 a5_1 a5_2 : Int) (a5_3 : Bool) (A5_4 : Option Addr) (c5_4 : Nat) (l5_4 : List (S52)) (r1 r2 : Int) (w : World) (hr1 : Kd.C k51 w A1 l1.length l1) (hc1 : l1.length ≤ c1) (hr3 : Kd.C k41 w A3 l3.length l3) (hc3 : l3.length ≤ c3) (hr5_4 : Kd.C k52 w A5_4 l5_4.length l5_4) (hc5_4 : l5_4.length ≤ c5_4) (h : fill_After.f a0 l1 a2_0 a2_1 l3 a4_0 a4_1 a4_2 a4_3 a4_4 a4_5 a5_0 a5_1 a5_2 a5_3 l5_4 = some (r1, r2)) :
  Calls Try.prog 39 #[.int .i64 a0, .slice A1 l1.length c1, .agg #[.int .i64 a2_0, .int .i64 a2_1], .slice A3 l3.length c3, .agg #[.int .i64 a4_0, .int .i64 a4_1, .int .i64 a4_2, .int .i64 a4_3, .int .i64 a4_4, .int .i64 a4_5], .agg #[.int .i64 a5_0, .int .i64 a5_1, .int .i64 a5_2, .bool a5_3, .slice A5_4 l5_4.length c5_4]] w fun e w' => e = .returned (.tuple #[.int .i64 r1, .int .i64 r2]) ∧ Below w.heap.size w w' := by
 have hu24 := Try.underlying24
 have hu29 := Try.underlying29
 have hu41 := Try.underlying41
 have hu25 := Try.underlying25
 have : Be w w := ⟨Below.refl _ _⟩
 unfold fill_After.f at h
 replace h := bindS h
 obtain ⟨⟨less, e⟩, hL, h⟩ := h
 simp only at h
 have HL := m_ hL
 have H := m_ h
 clear hL h
 go_enter Try.func39, Try.ntmps39
 go_upto_region 2 with (first | ((with_reducible refine a3_ (N := 8) rfl ?_); refine bxT 8 #[.int .i64 a2_0, .int .i64 a2_1] 24 ?_; intro g8 w8 _ _ _) | ((with_reducible refine a3_ (N := 10) rfl ?_); refine bxT 10 #[.int .i64 a4_0, .int .i64 a4_1, .int .i64 a4_2, .int .i64 a4_3, .int .i64 a4_4, .int .i64 a4_5] 29 ?_; intro g10 w10 _ _ _) | ((with_reducible refine a3_ (N := 11) rfl ?_); refine bxT 11 #[.int .i64 a5_0, .int .i64 a5_1, .int .i64 a5_2, .bool a5_3, .slice A5_4 l5_4.length c5_4] 41 ?_; intro g11 w11 _ _ _) | (go_at_call 51; refine (pack_Less.calls _ _ _ _ _ _ _ _ _ (Kd.C_below hr1 Be.out) hc1 (Kd.C_below hr5_4 Be.out) hc5_4 HL.out).mono ?_; rintro e wl ⟨vl, rfl, hv, hb⟩; have := Bl.mk hb; obtain ⟨Al, cl, hvl⟩ := Kd.R_slice hv; subst hvl; have HV := m_ hv; clear hb hv))
 have hh := H.out
 clear H HL
 by_cases c8 : e = 0
 ·rw [if_pos c8] at hh
  have t : (e != 0) = false := by rw [c8]; rfl
  clear c8
  go_upto_region 4 with (fail)
  clear t
  by_cases c9 : a5_1 = a4_0
  case' pos =>
   rw [if_pos c9] at hh
   have t : (a5_1 == a4_0) = true := beq_iff_eq.2 c9
   clear c9
   replace hh := bindS hh
   obtain ⟨⟨lg, lc⟩, hT, hh⟩ := hh
   simp only at hh
   have HT := m_ hT
   have H := m_ hh
   clear hT hh
   go_upto_region 6 with (first | (go_at_call 81; refine (fill_take.calls _ _ _ _ _ _ _ _ (Kd.C_below hr5_4 Be.out) hc5_4 HT.out).mono ?_; rintro e wt ⟨rfl, hb⟩; have := Bl.mk hb; clear hb))
   have b8 : Bx ((wt.setCell ⟨g8, 0, none⟩ (.int .i64 lg)).setCell ⟨g8, 1, none⟩ (.int .i64 lc)) g8 #[.int .i64 lg, .int .i64 lc] 24 := bxSetS (h := bxSetS (cs := #[.int .i64 a2_0, .int .i64 a2_1]))
   have b10 : Bx ((wt.setCell ⟨g8, 0, none⟩ (.int .i64 lg)).setCell ⟨g8, 1, none⟩ (.int .i64 lc)) g10 #[.int .i64 a4_0, .int .i64 a4_1, .int .i64 a4_2, .int .i64 a4_3, .int .i64 a4_4, .int .i64 a4_5] 29 := inferInstance
   have b11 : Bx ((wt.setCell ⟨g8, 0, none⟩ (.int .i64 lg)).setCell ⟨g8, 1, none⟩ (.int .i64 lc)) g11 #[.int .i64 a5_0, .int .i64 a5_1, .int .i64 a5_2, .bool a5_3, .slice A5_4 l5_4.length c5_4] 41 := inferInstance
   have be : Be w ((wt.setCell ⟨g8, 0, none⟩ (.int .i64 lg)).setCell ⟨g8, 1, none⟩ (.int .i64 lc)) := inferInstance
   have HV2 := m_ (roFar (g := g8) (j := 1) (u := .int .i64 lc) (roFar (g := g8) (j := 0) (u := .int .i64 lg) (Kd.R_below HV.out (Bl.out (W' := wt))) (by decide)) (by decide))
   generalize (wt.setCell ⟨g8, 0, none⟩ (.int .i64 lg)).setCell ⟨g8, 1, none⟩ (.int .i64 lc) = wq at *
   clear HT HV t
  case' neg =>
   rw [if_neg c9] at hh
   have t : (a5_1 == a4_0) = false := beq_eq_false_iff_ne.2 c9
   clear c9
   obtain ⟨lg, hlg⟩ : ∃ x, x = a2_0 := ⟨_, rfl⟩
   obtain ⟨lc, hlc⟩ : ∃ x, x = a2_1 := ⟨_, rfl⟩
   subst hlg
   subst hlc
   have H := m_ hh
   clear hh
   go_upto_region 6 with (fail)
   obtain ⟨wq, hwq⟩ : ∃ x, x = wl := ⟨_, rfl⟩
   subst hwq
   have b8 : Bx wq g8 #[.int .i64 lg, .int .i64 lc] 24 := inferInstance
   have b10 : Bx wq g10 #[.int .i64 a4_0, .int .i64 a4_1, .int .i64 a4_2, .int .i64 a4_3, .int .i64 a4_4, .int .i64 a4_5] 29 := inferInstance
   have b11 : Bx wq g11 #[.int .i64 a5_0, .int .i64 a5_1, .int .i64 a5_2, .bool a5_3, .slice A5_4 l5_4.length c5_4] 41 := inferInstance
   have be : Be w wq := inferInstance
   have HV2 := HV
   clear HV t
  all_goals
   have hh := H.out
   clear H
   replace hh := bindS hh
   obtain ⟨cl2, hC, hh⟩ := hh
   rw [Option.bind_some] at hh
   by_cases c12 : cl2.length + ([(⟨a5_0, a5_1, a5_2, a5_3, l5_4⟩ : S41)] : List S41).length < 2513169434916
   case neg => rw [if_neg c12] at hh; cases hh
   rw [if_pos c12] at hh
   replace hh := bindS hh
   obtain ⟨⟨t1, t2⟩, hE, hh⟩ := hh
   simp only [Option.some.injEq, Prod.mk.injEq] at hh
   obtain ⟨rfl, rfl⟩ := hh
   obtain ⟨lx, hlx⟩ : ∃ x, x = cl2 ++ [(⟨a5_0, a5_1, a5_2, a5_3, l5_4⟩ : S41)] := ⟨_, rfl⟩
   rw [← hlx] at hE
   have HLX := m_ hlx
   clear hlx
   have HC := m_ hC
   have HE := m_ hE
   clear hC hE
   have HN := m_ c12
   have : Rw k51 wq Al cl less := ⟨(Kd.R_reads' HV2.out).2.2, (Kd.R_reads' HV2.out).2.1⟩
   clear c12
   have HX := m_ (k41_mk w (⟨a5_0, a5_1, a5_2, a5_3, l5_4⟩ : S41) hc5_4 hr5_4)
   go_region_held3 (fun w' => w'.cell? ⟨g8, 0, none⟩ = some (.int .i64 lg) ∧ w'.cell? ⟨g8, 1, none⟩ = some (.int .i64 lc) ∧ w'.cell? ⟨g10, 0, none⟩ = some (.int .i64 a4_0) ∧ w'.cell? ⟨g10, 1, none⟩ = some (.int .i64 a4_1) ∧ w'.cell? ⟨g10, 2, none⟩ = some (.int .i64 a4_2) ∧ w'.cell? ⟨g10, 3, none⟩ = some (.int .i64 a4_3) ∧ w'.cell? ⟨g10, 4, none⟩ = some (.int .i64 a4_4) ∧ w'.cell? ⟨g10, 5, none⟩ = some (.int .i64 a4_5) ∧ w'.cell? ⟨g11, 0, none⟩ = some (.int .i64 a5_0) ∧ w'.cell? ⟨g11, 1, none⟩ = some (.int .i64 a5_1) ∧ w'.cell? ⟨g11, 2, none⟩ = some (.int .i64 a5_2) ∧ w'.cell? ⟨g11, 3, none⟩ = some (.bool a5_3) ∧ w'.cell? ⟨g11, 4, none⟩ = some (.slice A5_4 l5_4.length c5_4)) (((repeat' (refine And.intro ?_ ?_)) <;> first | exact (cellBx _).trans rfl | exact d9_ hb1.out (by first | exact (cellBx _).trans rfl))) (first | ((go_at_call 70); refine (cloneS hr3 Be.out HC).mono ?_; rintro e wc ⟨vc, rfl, hs, hb⟩; have := Bl.mk hb; have HSc := m_ hs; have HBc := m_ hb; clear hs hb) | (refine appS_step k41 (w := w) (by rfl) (.tmp 39) (.tmp 41) 25 41 (.agg #[(.int .i64 0), (.int .i64 0), (.int .i64 0), (.bool false), (.slice none 0 0)]) 56 (by rfl) Try.underlying25 info41 rfl (by decide) (by omega) (by rfl) (by rfl) (by first | exact HSc.out | exact HSc.out.step (b4_ (Below.refl _ _) _)) (rowBx HX.out) (by first | exact HBc.out | exact b4_ HBc.out _) (by have := HN.out; simp at this ⊢; omega) ?_; intro v1 w1 hs1 hb1; rw [← HLX.out] at hs1; obtain ⟨Ae, ce, hve, hq⟩ := hs1.read Be.out; subst hve; have HQ := m_ hq; clear hs1) | (go_at_call 27; refine (promise_Earliest.calls _ _ _ _ _ _ _ _ _ _ _ _ _ _ _ _ _ _ (Rw.out (k := k51) (A := Al) (l := less)) (Rw.le (k := k51) (W := w1) (A := Al) (l := less)) HQ.out.out HQ.out.le HE.out).mono ?_; rintro e we ⟨rfl, hb⟩; have := Bl.mk hb; clear hb))
   all_goals go_wp2
   all_goals go_ret2
   all_goals exact ⟨rfl, Be.out⟩
 ·rw [if_neg c8] at hh
  simp only [Option.some.injEq, Prod.mk.injEq] at hh
  obtain ⟨rfl, rfl⟩ := hh
  have t : (e != 0) = true := bne_iff_ne.2 c8
  clear c8
  go_wp2
  go_ret2
  exact ⟨rfl, Be.out⟩
end Go.Proofs.Ytckhjehibjdjdaa.P
namespace Go.Proofs.Ytckhjehibjdjdaa.P
open Go.RowKit Go.Proofs.YtckhjehibjdjdaaW.PrintWords Go.Proofs.YtckhjehibjdjdaaW.PrintLast Go.Proofs.YtckhjehibjdjdaaW.PrintMore
attribute [local go_sem] max2_int min2_int max_two min_two max_three min_three max_four min_four
def fill_Safe.f (a0 : Int) (l1 : List (S51)) (a2_0 a2_1 : Int) (l3 : List (S41)) (a4_0 a4_1 a4_2 a4_3 a4_4 a4_5 a5 a6_0 a6_1 a6_2 : Int) (a6_3 : Bool) (l6_4 : List (S52)) : Option (Bool × Int) := (fill_After.f a0 l1 a2_0 a2_1 l3 a4_0 a4_1 a4_2 a4_3 a4_4 a4_5 a6_0 a6_1 a6_2 a6_3 l6_4).bind fun bt329 => (if bt329.2 = 0 then (some (decide (bt329.1 ≤ (mx a0 a5)), bt329.2)) else (some (false, bt329.2)))
set_option maxHeartbeats 8000000 in
set_option maxRecDepth 100000 in
theorem fill_Safe.calls (a0 : Int) (A1 : Option Addr) (c1 : Nat) (l1 : List (S51)) (a2_0 a2_1 : Int) (A3 : Option Addr) (c3 : Nat) (l3 : List (S41)) (a4_0 a4_1 a4_2 a4_3 a4_4 a4_5 a5 a6_0 a6_1 a6_2 : Int) (a6_3 : Bool) (A6_4 : Option Addr) (c6_4 : Nat) (l6_4 : List (S52)) (r1 : Bool) (r2 : Int) (w : World) (hr1 : Kd.C k51 w A1 l1.length l1) (hc1 : l1.length ≤ c1) (hr3 : Kd.C k41 w A3 l3.length l3) (hc3 : l3.length ≤ c3) (hr6_4 : Kd.C k52 w A6_4 l6_4.length l6_4) (hc6_4 : l6_4.length ≤ c6_4) (h : fill_Safe.f a0 l1 a2_0 a2_1 l3 a4_0 a4_1 a4_2 a4_3 a4_4 a4_5 a5 a6_0 a6_1 a6_2 a6_3 l6_4 = some (r1, r2)) :
  Calls Try.prog 37 #[.int .i64 a0, .slice A1 l1.length c1, .agg #[.int .i64 a2_0, .int .i64 a2_1], .slice A3 l3.length c3, .agg #[.int .i64 a4_0, .int .i64 a4_1, .int .i64 a4_2, .int .i64 a4_3, .int .i64 a4_4, .int .i64 a4_5], .int .i64 a5, .agg #[.int .i64 a6_0, .int .i64 a6_1, .int .i64 a6_2, .bool a6_3, .slice A6_4 l6_4.length c6_4]] w fun e w' => e = .returned (.tuple #[.bool r1, .int .i64 r2]) ∧ Below w.heap.size w w' := by
 have hu24 := Try.underlying24
 have hu29 := Try.underlying29
 have hu41 := Try.underlying41
 have HR1 := m_ hr1
 have HC1 := m_ hc1
 clear hr1 hc1
 have HR3 := m_ hr3
 have HC3 := m_ hc3
 clear hr3 hc3
 have HR6_4 := m_ hr6_4
 have HC6_4 := m_ hc6_4
 clear hr6_4 hc6_4
 have HB := m_ (Below.refl w.heap.size w)
 have H := h
 unfold fill_Safe.f at H
 clear h
 replace H := Option.bind_eq_some_iff.mp H
 obtain ⟨⟨t329, t330⟩, A80, H⟩ := H
 try dsimp only at H
 have A8 := m_ A80
 clear A80
 by_cases c9 : t330 = 0
 ·rw [if_pos c9] at H
  have c9b0 : (t330 == 0) = true := beq_iff_eq.mpr c9
  have c9b1 : (t330 != 0) = false := bne_eq_false_iff_eq.mpr c9
  clear c9
  obtain ⟨ji10, hji10⟩ : ∃ j_ : Int, (mx a0 a5) = j_ := ⟨_, rfl⟩
  replace H : (some (decide (t329 ≤ (ji10)), t330)) = some (r1, r2) := by first | (rw [hji10] at H; exact H) | (simp only [hji10] at H ⊢; exact H)
  (try rw [hji10] at A8)
  have hji10_ : (if a0 < a5 then a5 else a0) = ji10 := hji10
  simp only [Option.some.injEq, Prod.mk.injEq] at H
  obtain ⟨rfl, rfl⟩ := H
  go_enter Try.func37, Try.ntmps37
  go_wp2_with (first | ((with_reducible refine a3_ (N := 9) rfl ?_); (try (refine gate_guard (by rfl) ?_; dsimp only)); refine bx 9 #[.int .i64 a2_0, .int .i64 a2_1] 24 ?_; intro gb326 hg w11 hbox hb; have BK326 := m_ (hbox); have GW326 := ge_ hg; have GE326 := ge_ hg; replace HB := hs_ hb; clear hb hbox hg) | ((with_reducible refine a3_ (N := 11) rfl ?_); (try (refine gate_guard (by rfl) ?_; dsimp only)); refine bx 11 #[.int .i64 a4_0, .int .i64 a4_1, .int .i64 a4_2, .int .i64 a4_3, .int .i64 a4_4, .int .i64 a4_5] 29 ?_; intro gb327 hg w12 hbox hb; have BK327 := m_ (hbox); have GW327 := ge_ hg; have GE327 := ge_ hg; have NB326_327 := nl_ BK326 hg; have NB327_326 := nr_ BK326 hg; replace BK326 := bk_ BK326 hb; replace HB := hs_ hb; clear hb hbox hg) | ((with_reducible refine a3_ (N := 13) rfl ?_); (try (refine gate_guard (by rfl) ?_; dsimp only)); refine bx 13 #[.int .i64 a6_0, .int .i64 a6_1, .int .i64 a6_2, .bool a6_3, .slice A6_4 l6_4.length c6_4] 41 ?_; intro gb328 hg w13 hbox hb; have BK328 := m_ (hbox); have GW328 := ge_ hg; have GE328 := ge_ hg; have NB326_328 := nl_ BK326 hg; have NB328_326 := nr_ BK326 hg; have NB327_328 := nl_ BK327 hg; have NB328_327 := nr_ BK327 hg; replace BK326 := bk_ BK326 hb; replace BK327 := bk_ BK327 hb; replace HB := hs_ hb; clear hb hbox hg; have hnb14 := NB326_327.out; have hnc14 := NB327_326.out; have hnb15 := NB326_328.out; have hnc15 := NB328_326.out; obtain ⟨hcz16_0, hcz16_1, hfz16_0, hfz16_1⟩ := bz2_ BK326; have hnb17 := NB327_328.out; have hnc17 := NB328_327.out; obtain ⟨hcz18_0, hcz18_1, hcz18_2, hcz18_3, hcz18_4, hcz18_5, hfz18_0, hfz18_1, hfz18_2, hfz18_3, hfz18_4, hfz18_5⟩ := bz6_ BK327; obtain ⟨hcz19_0, hcz19_1, hcz19_2, hcz19_3, hcz19_4, hfz19_0, hfz19_1, hfz19_2, hfz19_3, hfz19_4⟩ := bz5_ BK328) | ((with_reducible refine b2_ (f := 39) rfl ?_); refine goesL_ (some 25) rfl rfl Try.func39 (by kernel_rfl) rfl #[.int .i64 a0, .slice A1 l1.length c1, .agg #[.int .i64 a2_0, .int .i64 a2_1], .slice A3 l3.length c3, .agg #[.int .i64 a4_0, .int .i64 a4_1, .int .i64 a4_2, .int .i64 a4_3, .int .i64 a4_4, .int .i64 a4_5], .agg #[.int .i64 a6_0, .int .i64 a6_1, .int .i64 a6_2, .bool a6_3, .slice A6_4 l6_4.length c6_4]] rfl Z0 ?_; (with_reducible refine (fill_After.calls a0 _ _ l1 a2_0 a2_1 _ _ l3 a4_0 a4_1 a4_2 a4_3 a4_4 a4_5 a6_0 a6_1 a6_2 a6_3 _ _ l6_4 t329 t330 _ ?side1 ?side2 ?side3 ?side4 ?side5 ?side6 A8.out).mono ?_); (case side1 => exact cs_ HR1); (case side2 => exact HC1.out); (case side3 => exact cs_ HR3); (case side4 => exact HC3.out); (case side5 => exact cs_ HR6_4); (case side6 => exact HC6_4.out); rintro e w20 ⟨rfl, hb⟩; refine ⟨_, rfl, ?_⟩; replace BK326 := bk_ BK326 hb; replace BK327 := bk_ BK327 hb; replace BK328 := bk_ BK328 hb; replace HB := hs_ hb; (try clear hb); (try clear hb2); (try clear hk); (try clear hi)))
  go_ret2
  exact ⟨by first | rfl | (simp [b1_, b0_] <;> rfl) | (simp only [← hji10]; first | rfl | (simp [b1_, b0_] <;> rfl)) | (simp [*, b1_, b0_] <;> rfl), hb_⟩
 ·rw [if_neg c9] at H
  have c9b0 : (t330 == 0) = false := beq_eq_false_iff_ne.mpr c9
  have c9b1 : (t330 != 0) = true := bne_iff_ne.mpr c9
  simp only [Option.some.injEq, Prod.mk.injEq] at H
  obtain ⟨rfl, rfl⟩ := H
  go_enter Try.func37, Try.ntmps37
  go_wp2_with (first | ((with_reducible refine a3_ (N := 9) rfl ?_); (try (refine gate_guard (by rfl) ?_; dsimp only)); refine bx 9 #[.int .i64 a2_0, .int .i64 a2_1] 24 ?_; intro gb326 hg w21 hbox hb; have BK326 := m_ (hbox); have GW326 := ge_ hg; have GE326 := ge_ hg; replace HB := hs_ hb; clear hb hbox hg) | ((with_reducible refine a3_ (N := 11) rfl ?_); (try (refine gate_guard (by rfl) ?_; dsimp only)); refine bx 11 #[.int .i64 a4_0, .int .i64 a4_1, .int .i64 a4_2, .int .i64 a4_3, .int .i64 a4_4, .int .i64 a4_5] 29 ?_; intro gb327 hg w22 hbox hb; have BK327 := m_ (hbox); have GW327 := ge_ hg; have GE327 := ge_ hg; have NB326_327 := nl_ BK326 hg; have NB327_326 := nr_ BK326 hg; replace BK326 := bk_ BK326 hb; replace HB := hs_ hb; clear hb hbox hg) | ((with_reducible refine a3_ (N := 13) rfl ?_); (try (refine gate_guard (by rfl) ?_; dsimp only)); refine bx 13 #[.int .i64 a6_0, .int .i64 a6_1, .int .i64 a6_2, .bool a6_3, .slice A6_4 l6_4.length c6_4] 41 ?_; intro gb328 hg w23 hbox hb; have BK328 := m_ (hbox); have GW328 := ge_ hg; have GE328 := ge_ hg; have NB326_328 := nl_ BK326 hg; have NB328_326 := nr_ BK326 hg; have NB327_328 := nl_ BK327 hg; have NB328_327 := nr_ BK327 hg; replace BK326 := bk_ BK326 hb; replace BK327 := bk_ BK327 hb; replace HB := hs_ hb; clear hb hbox hg; have hnb24 := NB326_327.out; have hnc24 := NB327_326.out; have hnb25 := NB326_328.out; have hnc25 := NB328_326.out; obtain ⟨hcz26_0, hcz26_1, hfz26_0, hfz26_1⟩ := bz2_ BK326; have hnb27 := NB327_328.out; have hnc27 := NB328_327.out; obtain ⟨hcz28_0, hcz28_1, hcz28_2, hcz28_3, hcz28_4, hcz28_5, hfz28_0, hfz28_1, hfz28_2, hfz28_3, hfz28_4, hfz28_5⟩ := bz6_ BK327; obtain ⟨hcz29_0, hcz29_1, hcz29_2, hcz29_3, hcz29_4, hfz29_0, hfz29_1, hfz29_2, hfz29_3, hfz29_4⟩ := bz5_ BK328) | ((with_reducible refine b2_ (f := 39) rfl ?_); refine goesL_ (some 25) rfl rfl Try.func39 (by kernel_rfl) rfl #[.int .i64 a0, .slice A1 l1.length c1, .agg #[.int .i64 a2_0, .int .i64 a2_1], .slice A3 l3.length c3, .agg #[.int .i64 a4_0, .int .i64 a4_1, .int .i64 a4_2, .int .i64 a4_3, .int .i64 a4_4, .int .i64 a4_5], .agg #[.int .i64 a6_0, .int .i64 a6_1, .int .i64 a6_2, .bool a6_3, .slice A6_4 l6_4.length c6_4]] rfl Z0 ?_; (with_reducible refine (fill_After.calls a0 _ _ l1 a2_0 a2_1 _ _ l3 a4_0 a4_1 a4_2 a4_3 a4_4 a4_5 a6_0 a6_1 a6_2 a6_3 _ _ l6_4 t329 t330 _ ?side1 ?side2 ?side3 ?side4 ?side5 ?side6 A8.out).mono ?_); (case side1 => exact cs_ HR1); (case side2 => exact HC1.out); (case side3 => exact cs_ HR3); (case side4 => exact HC3.out); (case side5 => exact cs_ HR6_4); (case side6 => exact HC6_4.out); rintro e w30 ⟨rfl, hb⟩; refine ⟨_, rfl, ?_⟩; replace BK326 := bk_ BK326 hb; replace BK327 := bk_ BK327 hb; replace BK328 := bk_ BK328 hb; replace HB := hs_ hb; (try clear hb); (try clear hb2); (try clear hk); (try clear hi)))
  go_ret2
  exact ⟨by first | rfl | (simp [b1_, b0_] <;> rfl) | (simp [*, b1_, b0_] <;> rfl), hb_⟩
end Go.Proofs.Ytckhjehibjdjdaa.P
namespace Go.Proofs.Ytckhjehibjdjdaa.P
open Go.RowKit Go.Proofs.YtckhjehibjdjdaaW.PrintWords Go.Proofs.YtckhjehibjdjdaaW.PrintLast Go.Proofs.YtckhjehibjdjdaaW.PrintMore
attribute [local go_sem] cellBx frozBx
def headL (h : Int) : List S105 → Int × Int × Int × Int × Int × Int × Bool
 | [] => (0, 0, 0, 0, 0, 0, false)
 | x :: r => if h ≠ 0 ∧ x.f0.f0 = h then (x.f0.f1, x.f0.f4.f2, x.f0.f4.f0, x.f0.f4.f1, x.f0.f4.f2, x.f0.f4.f3, true) else headL h r
def elastic_Head.f (a0_0 a0_1 a0_2 a0_3 : Int) (l0_4 : List S51) (l0_5 : List S24) (l0_6 : List S41) (l0_7 : List S105) (l0_8 : List S149) : Option (Int × Int × Int × Int × Int × Int × Bool) := if l0_7.length ≤ 1000000 then some (headL a0_1 l0_7) else none
set_option maxHeartbeats 8000000 in
set_option maxRecDepth 100000 in
theorem elastic_Head.calls (a0_0 a0_1 a0_2 a0_3 : Int) (A0_4 : Option Addr) (c0_4 : Nat) (l0_4 : List (S51)) (A0_5 : Option Addr) (c0_5 : Nat) (l0_5 : List (S24)) (A0_6 : Option Addr) (c0_6 : Nat) (l0_6 : List (S41)) (A0_7 : Option Addr) (c0_7 : Nat) (l0_7 : List (S105)) (A0_8 : Option Addr) (c0_8 : Nat) (l0_8 : List (S149)) (r1 r2 r3 r4 r5 r6 : Int) (r7 : Bool) (w : World) (hr0_4 : Kd.C k51 w A0_4 l0_4.length l0_4) (hc0_4 : l0_4.length ≤ c0_4) (hr0_5 : Kd.C k24 w A0_5 l0_5.length l0_5) (hc0_5 : l0_5.length ≤ c0_5) (hr0_6 : Kd.C k41 w A0_6 l0_6.length l0_6) (hc0_6 : l0_6.length ≤ c0_6) (hr0_7 : Kd.C k105 w A0_7 l0_7.length l0_7) (hc0_7 : l0_7.length ≤ c0_7) (hr0_8 : Kd.C k149 w A0_8 l0_8.length l0_8) (hc0_8 : l0_8.length ≤ c0_8) (h : elastic_Head.f a0_0 a0_1 a0_2 a0_3 l0_4 l0_5 l0_6 l0_7 l0_8 = some (r1, r2, r3, r4, r5, r6, r7)) :
  Calls Try.prog 60 #[.agg #[.int .i64 a0_0, .int .i64 a0_1, .int .i64 a0_2, .int .i64 a0_3, .slice A0_4 l0_4.length c0_4, .slice A0_5 l0_5.length c0_5, .slice A0_6 l0_6.length c0_6, .slice A0_7 l0_7.length c0_7, .slice A0_8 l0_8.length c0_8]] w fun e w' => e = .returned (.tuple #[.agg #[.int .i64 r1, .int .i64 r2, .int .i64 r3, .int .i64 r4, .int .i64 r5, .int .i64 r6], .bool r7]) ∧ Below w.heap.size w w' := by
 have hu86 := Try.underlying86
 have hu29 := Try.underlying29
 have hu105 := Try.underlying105
 have hu88 := Try.underlying88
 have hu27 := Try.underlying27
 have HR0_7 := m_ hr0_7
 clear hr0_4 hc0_4 hr0_5 hc0_5 hr0_6 hc0_6 hr0_7 hc0_7 hr0_8 hc0_8
 have : Be w w := ⟨Below.refl _ _⟩
 unfold elastic_Head.f at h
 by_cases hn : l0_7.length ≤ 1000000
 case neg => rw [if_neg hn] at h; cases h
 rw [if_pos hn] at h
 have HN := m_ hn
 have HA0 := m_ (show headL a0_1 (l0_7.drop 0) = (r1, r2, r3, r4, r5, r6, r7) from Option.some.inj h)
 clear h hn
 go_enter Try.func60, Try.ntmps60
 go_wp2_with (first | ((with_reducible refine a3_ (N := 1) rfl ?_); refine bxT 1 #[.int .i64 a0_0, .int .i64 a0_1, .int .i64 a0_2, .int .i64 a0_3, .slice A0_4 l0_4.length c0_4, .slice A0_5 l0_5.length c0_5, .slice A0_6 l0_6.length c0_6, .slice A0_7 l0_7.length c0_7, .slice A0_8 l0_8.length c0_8] 86 ?_; intro g1 w1 _ _ _) | ((with_reducible refine a3_ (N := 2) rfl ?_); refine bxT 2 #[.int .i64 0, .int .i64 0, .int .i64 0, .int .i64 0, .int .i64 0, .int .i64 0] 29 ?_; intro g2 w2 _ _ _))
 go_loopw [10] (fun v10 wr => ∃ i : Nat, i ≤ l0_7.length ∧ v10 = .int .i64 (i : Int) ∧ A_ (headL a0_1 (l0_7.drop i) = (r1, r2, r3, r4, r5, r6, r7)) ∧ Bx wr g1 #[.int .i64 a0_0, .int .i64 a0_1, .int .i64 a0_2, .int .i64 a0_3, .slice A0_4 l0_4.length c0_4, .slice A0_5 l0_5.length c0_5, .slice A0_6 l0_6.length c0_6, .slice A0_7 l0_7.length c0_7, .slice A0_8 l0_8.length c0_8] 86 ∧ Bx wr g2 #[.int .i64 0, .int .i64 0, .int .i64 0, .int .i64 0, .int .i64 0, .int .i64 0] 29 ∧ Be w wr) (fun v10 _ => l0_7.length - (intOf v10).toNat)
 case atStart => exact ⟨0, Nat.zero_le _, rfl, HA0, inferInstance, inferInstance, inferInstance⟩
 case round =>
  clear HA0
  obtain ⟨i, hi, rfl, HA, b1, b2, be⟩ := hrel
  by_cases hlt : i < l0_7.length
  ·have hib : (i : Int) ≤ 1000000 := by have := HN.out; omega
   have hrC := Kd.C_below HR0_7.out be.out
   obtain ⟨ad1, ee, y0, y1, y2, y3, y4, y5, y6, y7, y8, y9⟩ := at_T105 hrC (i : Int) (by omega) (by omega)
   cases ee
   clear hrC
   simp only [Int.toNat_natCast] at y0 y1 y2 y3 y4 y5 y6 y7 y8 y9
   have hx : a6_ l0_7 (i : Int) = l0_7[i] := by simp [a6_, List.getD_eq_getElem?_getD, List.getElem?_eq_getElem hlt]
   have ha := HA.out
   rw [List.drop_eq_getElem_cons hlt] at ha
   rw [hx] at y0 y1 y2 y3 y4 y5 y6 y7 y8 y9
   generalize l0_7[i] = x at *
   rw [headL] at ha
   have HA2 := m_ ha
   have HLT := m_ hlt
   have hlt' : (i : Int) < l0_7.length := by omega
   have h0i : 0 ≤ (i : Int) := by omega
   clear HA ha hx hlt
   have ha := HA2.out
   clear HA2
   by_cases h0 : a0_1 ≠ 0 ∧ x.f0.f0 = a0_1
   ·rw [if_pos h0] at ha
    simp only [Prod.mk.injEq] at ha
    obtain ⟨rfl, rfl, rfl, rfl, rfl, rfl, rfl⟩ := ha
    have t0 : (a0_1 != 0) = true := bne_iff_ne.2 h0.1
    have t1 : (x.f0.f0 == a0_1) = true := beq_iff_eq.2 h0.2
    clear h0
    go_wp2
    refine bodyPost_ret (results_ct rfl _ _ g2 29 _ (0, 0) _ rfl Bx.out Try.underlying29 rfl (by kernel_rfl)) rfl ?_
    exact ⟨rfl, Be.out⟩
   ·rw [if_neg h0] at ha
    have HA3 := m_ ha
    clear ha
    by_cases h1 : a0_1 = 0
    ·have t0 : (a0_1 != 0) = false := by simpa using h1
     clear h0 h1
     go_wp2
     go_roundw
     case rel => exact ⟨i + 1, HLT.out, by go_num, HA3, inferInstance, inferInstance, inferInstance⟩
     case measure => have := HLT.out; simp [intOf]; omega
    ·have t0 : (a0_1 != 0) = true := bne_iff_ne.2 h1
     have t1 : (x.f0.f0 == a0_1) = false := beq_eq_false_iff_ne.2 fun h => h0 ⟨h1, h⟩
     clear h0 h1
     go_wp2
     go_roundw
     case rel => exact ⟨i + 1, HLT.out, by go_num, HA3, inferInstance, inferInstance, inferInstance⟩
     case measure => have := HLT.out; simp [intOf]; omega
  ·obtain rfl : i = l0_7.length := by omega
   have ha := HA.out
   rw [List.drop_length, headL] at ha
   simp only [Prod.mk.injEq] at ha
   obtain ⟨rfl, rfl, rfl, rfl, rfl, rfl, rfl⟩ := ha
   clear HA
   go_wp2
   refine bodyPost_ret (results_ct rfl _ _ g2 29 _ (0, 0) _ rfl Bx.out Try.underlying29 rfl (by kernel_rfl)) rfl ?_
   exact ⟨rfl, Be.out⟩
end Go.Proofs.Ytckhjehibjdjdaa.P
namespace Go.Proofs.Ytckhjehibjdjdaa.P
open Go.RowKit Go.Proofs.YtckhjehibjdjdaaW.PrintWords Go.Proofs.YtckhjehibjdjdaaW.PrintLast Go.Proofs.YtckhjehibjdjdaaW.PrintMore
attribute [local go_sem] max2_int min2_int max_two min_two max_three min_three max_four min_four
attribute [local go_sem] cellBx frozBx
def elastic_safe.j0 : Nat → Bool → Int → Int → Int → Int → List (S51) → List (S24) → List (S41) → List (S105) → List (S149) → Int → Int → Int → Bool → List (S52) → Int → Int → Int → Int → Int → Int → Option (Bool)
 | 0, _, _, _, _, _, _, _, _, _, _, _, _, _, _, _, _, _, _, _, _, _ => none
 | k + 1, x22, x887000, x887001, x887002, x887003, x887004, x887005, x887006, x887007, x887008, x888000, x888001, x888002, x888003, x888004, x896000, x896001, x896002, x896003, x896004, x896005 => if x22 = true then (some true) else (if x896000 < 0 then (some false) else (if x896000 ≥ (x887005.length : Int) then (some false) else (if 0 ≤ x896000 then (if x896000 < (x887005.length : Int) then ((fill_Safe.f x887000 x887004 ((a7_ x887005 x896000).f0) ((a7_ x887005 x896000).f1) x887006 x896000 x896001 x896002 x896003 x896004 x896005 x887002 x888000 x888001 x888002 x888003 x888004).bind fun bt897 => (some bt897.1)) else (none)) else (none))))
def elastic_safe.f (k : Nat) (a0_0 a0_1 a0_2 a0_3 : Int) (l0_4 : List (S51)) (l0_5 : List (S24)) (l0_6 : List (S41)) (l0_7 : List (S105)) (l0_8 : List (S149)) (a1_0 a1_1 a1_2 : Int) (a1_3 : Bool) (l1_4 : List (S52)) : Option (Bool) := (elastic_Head.f a0_0 a0_1 a0_2 a0_3 l0_4 l0_5 l0_6 l0_7 l0_8).bind fun bt888 => (if bt888.2.2.2.2.2.2 = true then (elastic_safe.j0 k (a1_0 == a0_1) a0_0 a0_1 a0_2 a0_3 l0_4 l0_5 l0_6 l0_7 l0_8 a1_0 a1_1 a1_2 a1_3 l1_4 bt888.1 bt888.2.1 bt888.2.2.1 bt888.2.2.2.1 bt888.2.2.2.2.1 bt888.2.2.2.2.2.1) else (elastic_safe.j0 k true a0_0 a0_1 a0_2 a0_3 l0_4 l0_5 l0_6 l0_7 l0_8 a1_0 a1_1 a1_2 a1_3 l1_4 bt888.1 bt888.2.1 bt888.2.2.1 bt888.2.2.2.1 bt888.2.2.2.2.1 bt888.2.2.2.2.2.1))
set_option maxHeartbeats 8000000 in
set_option maxRecDepth 100000 in
theorem elastic_safe.calls (k : Nat) (a0_0 a0_1 a0_2 a0_3 : Int) (A0_4 : Option Addr) (c0_4 : Nat) (l0_4 : List (S51)) (A0_5 : Option Addr) (c0_5 : Nat) (l0_5 : List (S24)) (A0_6 : Option Addr) (c0_6 : Nat) (l0_6 : List (S41)) (A0_7 : Option Addr) (c0_7 : Nat) (l0_7 : List (S105)) (A0_8 : Option Addr) (c0_8 : Nat) (l0_8 : List (S149)) (a1_0 a1_1 a1_2 : Int) (a1_3 : Bool) (A1_4 : Option Addr) (c1_4 : Nat) (l1_4 : List (S52)) (r : Bool) (w : World) (hr0_4 : Kd.C k51 w A0_4 l0_4.length l0_4) (hc0_4 : l0_4.length ≤ c0_4) (hr0_5 : Kd.C k24 w A0_5 l0_5.length l0_5) (hc0_5 : l0_5.length ≤ c0_5) (hr0_6 : Kd.C k41 w A0_6 l0_6.length l0_6) (hc0_6 : l0_6.length ≤ c0_6) (hr0_7 : Kd.C k105 w A0_7 l0_7.length l0_7) (hc0_7 : l0_7.length ≤ c0_7) (hr0_8 : Kd.C k149 w A0_8 l0_8.length l0_8) (hc0_8 : l0_8.length ≤ c0_8) (hr1_4 : Kd.C k52 w A1_4 l1_4.length l1_4) (hc1_4 : l1_4.length ≤ c1_4) (h : elastic_safe.f k a0_0 a0_1 a0_2 a0_3 l0_4 l0_5 l0_6 l0_7 l0_8 a1_0 a1_1 a1_2 a1_3 l1_4 = some r) :
  Calls Try.prog 97 #[.agg #[.int .i64 a0_0, .int .i64 a0_1, .int .i64 a0_2, .int .i64 a0_3, .slice A0_4 l0_4.length c0_4, .slice A0_5 l0_5.length c0_5, .slice A0_6 l0_6.length c0_6, .slice A0_7 l0_7.length c0_7, .slice A0_8 l0_8.length c0_8], .agg #[.int .i64 a1_0, .int .i64 a1_1, .int .i64 a1_2, .bool a1_3, .slice A1_4 l1_4.length c1_4]] w fun e w' => e = .returned (.bool r) ∧ Below w.heap.size w w' := by
 have hu86 := Try.underlying86
 have hu41 := Try.underlying41
 have hu29 := Try.underlying29
 have hu24 := Try.underlying24
 have hu27 := Try.underlying27
 have : Be w w := ⟨Below.refl _ _⟩
 unfold elastic_safe.f at h
 replace h := bindS h
 obtain ⟨⟨q, m, s1, s2, s3, s4, ok⟩, hH, h⟩ := h
 simp only at h
 have HH := m_ hH
 have H := m_ h
 clear hH h
 go_enter Try.func97, Try.ntmps97
 go_upto_region 2 with (first | ((with_reducible refine a3_ (N := 2) rfl ?_); refine bxT 2 #[.int .i64 a0_0, .int .i64 a0_1, .int .i64 a0_2, .int .i64 a0_3, .slice A0_4 l0_4.length c0_4, .slice A0_5 l0_5.length c0_5, .slice A0_6 l0_6.length c0_6, .slice A0_7 l0_7.length c0_7, .slice A0_8 l0_8.length c0_8] 86 ?_; intro g2 w2 _ _ _) | ((with_reducible refine a3_ (N := 3) rfl ?_); refine bxT 3 #[.int .i64 a1_0, .int .i64 a1_1, .int .i64 a1_2, .bool a1_3, .slice A1_4 l1_4.length c1_4] 41 ?_; intro g3 w3 _ _ _) | (go_at_call 60; refine (elastic_Head.calls _ _ _ _ _ _ _ _ _ _ _ _ _ _ _ _ _ _ _ _ _ _ _ _ _ _ _ (Kd.C_below hr0_4 Be.out) hc0_4 (Kd.C_below hr0_5 Be.out) hc0_5 (Kd.C_below hr0_6 Be.out) hc0_6 (Kd.C_below hr0_7 Be.out) hc0_7 (Kd.C_below hr0_8 Be.out) hc0_8 HH.out).mono ?_; rintro e wh ⟨rfl, hb⟩; have := Bl.mk hb; clear hb))
 obtain ⟨g5, w5, _, _, _, e1, e2⟩ := nameA wh #[.int .i64 q, .int .i64 m, .int .i64 s1, .int .i64 s2, .int .i64 s3, .int .i64 s4] 29
 rw [e1, e2]
 clear e1 e2
 have hh := H.out
 clear H HH
 cases ok with
 | false =>
  rw [if_neg (by decide)] at hh
  cases k with
  | zero => exact absurd hh (by simp [elastic_safe.j0])
  | succ k =>
   rw [elastic_safe.j0, if_pos rfl] at hh
   obtain rfl := Option.some.inj hh
   clear hh
   go_wp2
   go_ret
   exact ⟨rfl, Be.out⟩
 | true =>
  rw [if_pos rfl] at hh
  cases k with
  | zero => exact absurd hh (by simp [elastic_safe.j0])
  | succ k =>
   rw [elastic_safe.j0] at hh
   by_cases hi : a1_0 = a0_1
   ·have t : (a1_0 == a0_1) = true := beq_iff_eq.2 hi
    rw [t, if_pos rfl] at hh
    obtain rfl := Option.some.inj hh
    clear hh
    clear hi
    go_wp2
    go_ret
    exact ⟨rfl, Be.out⟩
   ·have t : (a1_0 == a0_1) = false := beq_eq_false_iff_ne.2 hi
    rw [t, if_neg (by decide)] at hh
    by_cases c1 : q < 0
    ·rw [if_pos c1] at hh
     obtain rfl := Option.some.inj hh
     clear hh
     have q1 := decide_eq_true c1
     clear c1 hi
     go_wp2
     go_ret
     exact ⟨rfl, Be.out⟩
    rw [if_neg c1] at hh
    by_cases c2 : q ≥ (l0_5.length : Int)
    ·rw [if_pos c2] at hh
     obtain rfl := Option.some.inj hh
     clear hh
     have q1 := decide_eq_false c1
     have q2 := decide_eq_true c2
     clear c1 c2 hi
     go_wp2
     go_ret
     exact ⟨rfl, Be.out⟩
    rw [if_neg c2, if_pos (by omega), if_pos (by omega)] at hh
    replace hh := bindS hh
    obtain ⟨⟨r1, r2⟩, hS, hh⟩ := hh
    simp only at hh
    obtain rfl := Option.some.inj hh
    clear hh
    have HS := m_ hS
    clear hS
    have p1 : decide (q < 0) = false := decide_eq_false c1
    have p2 : decide (q ≥ (l0_5.length : Int)) = false := decide_eq_false c2
    have p3 : (0 ≤ q) = True := eq_true (by omega)
    have p4 : (q < (l0_5.length : Int)) = True := eq_true (by omega)
    obtain ⟨ad, hea, y0, y1⟩ := at_T24 hr0_5 q (by omega) (by omega)
    subst hea
    clear c1 c2
    go_upto_region 6 with (fail)
    clear p1 p2
    go_region_held3 (fun w' => w'.cell? ⟨g2, 0, none⟩ = some (.int .i64 a0_0) ∧ w'.cell? ⟨g2, 4, none⟩ = some (.slice A0_4 l0_4.length c0_4) ∧ w'.cell? ⟨g2, 5, none⟩ = some (.slice (some ad) l0_5.length c0_5) ∧ w'.cell? ⟨g2, 6, none⟩ = some (.slice A0_6 l0_6.length c0_6) ∧ w'.cell? ⟨g2, 2, none⟩ = some (.int .i64 a0_2) ∧ w'.cell? ⟨g5, 0, none⟩ = some (.int .i64 q) ∧ w'.cell? ⟨g5, 1, none⟩ = some (.int .i64 m) ∧ w'.cell? ⟨g5, 2, none⟩ = some (.int .i64 s1) ∧ w'.cell? ⟨g5, 3, none⟩ = some (.int .i64 s2) ∧ w'.cell? ⟨g5, 4, none⟩ = some (.int .i64 s3) ∧ w'.cell? ⟨g5, 5, none⟩ = some (.int .i64 s4) ∧ w'.cell? ⟨g3, 0, none⟩ = some (.int .i64 a1_0) ∧ w'.cell? ⟨g3, 1, none⟩ = some (.int .i64 a1_1) ∧ w'.cell? ⟨g3, 2, none⟩ = some (.int .i64 a1_2) ∧ w'.cell? ⟨g3, 3, none⟩ = some (.bool a1_3) ∧ w'.cell? ⟨g3, 4, none⟩ = some (.slice A1_4 l1_4.length c1_4) ∧ w'.cell? (ad.add (q.toNat * 2)) = some (.int .i64 (a7_ l0_5 q).f0) ∧ w'.cell? ⟨(ad.add (q.toNat * 2)).block, (ad.add (q.toNat * 2)).off + 1, none⟩ = some (.int .i64 (a7_ l0_5 q).f1)) (((repeat' (refine And.intro ?_ ?_)) <;> first | exact (cellBx _).trans rfl | exact d9_ Be.out y0 | exact d9_ Be.out y1)) ((go_at_call 37; refine (fill_Safe.calls _ _ _ _ _ _ _ _ _ _ _ _ _ _ _ _ _ _ _ _ _ _ _ _ _ _ (Kd.C_below hr0_4 Be.out) hc0_4 (Kd.C_below hr0_6 Be.out) hc0_6 (Kd.C_below hr1_4 Be.out) hc1_4 HS.out).mono ?_; rintro e ws ⟨rfl, hb⟩; have := Bl.mk hb; clear hb))
    go_wp2
    go_ret
    exact ⟨rfl, Be.out⟩
end Go.Proofs.Ytckhjehibjdjdaa.P
namespace Go.Proofs.Ytckhjehibjdjdaa.P
open Go.RowKit Go.Shelf Go.Proofs.YtckhjehibjdjdaaW.PrintWords Go.Proofs.YtckhjehibjdjdaaW.PrintLast Go.Proofs.YtckhjehibjdjdaaW.PrintMore
open Go.Proofs.Ytckhjehibjdjdaa.RF
attribute [local go_sem] Oper.semAt_some
set_option maxHeartbeats 8000000 in
set_option maxRecDepth 100000 in
theorem try_calls (ks : Nat) (a0_0 a0_1 a0_2 a0_3 : Int) (A0_4 : Option Addr) (c0_4 : Nat) (l0_4 : List (S51)) (A0_5 : Option Addr) (c0_5 : Nat) (l0_5 : List (S24)) (A0_6 : Option Addr) (c0_6 : Nat) (l0_6 : List (S41)) (A0_7 : Option Addr) (c0_7 : Nat) (l0_7 : List (S105)) (A0_8 : Option Addr) (c0_8 : Nat) (l0_8 : List (S149)) (a1_0 a1_1 a1_2 a1_3 a1_4 a1_5 a1_6 a1_7 u n : Int) (p : List S52 × Int) (b : Bool) (g3 g4 g5 : Nat) (w : World) (hr0_4 : Kd.C k51 w A0_4 l0_4.length l0_4) (hc0_4 : l0_4.length ≤ c0_4) (hr0_5 : Kd.C k24 w A0_5 l0_5.length l0_5) (hc0_5 : l0_5.length ≤ c0_5) (hr0_6 : Kd.C k41 w A0_6 l0_6.length l0_6) (hc0_6 : l0_6.length ≤ c0_6) (hr0_7 : Kd.C k105 w A0_7 l0_7.length l0_7) (hc0_7 : l0_7.length ≤ c0_7) (hr0_8 : Kd.C k149 w A0_8 l0_8.length l0_8) (hc0_8 : l0_8.length ≤ c0_8)
  (b3 : w.heap[g3]? = some (.cells #[.int .i64 a0_0, .int .i64 a0_1, .int .i64 a0_2, .int .i64 a0_3, .slice A0_4 l0_4.length c0_4, .slice A0_5 l0_5.length c0_5, .slice A0_6 l0_6.length c0_6, .slice A0_7 l0_7.length c0_7, .slice A0_8 l0_8.length c0_8] 86 (0, 0))) (b4 : w.heap[g4]? = some (.cells #[.int .i64 a1_0, .int .i64 a1_1, .int .i64 a1_2, .int .i64 a1_3, .int .i64 a1_4, .int .i64 a1_5, .int .i64 a1_6, .int .i64 a1_7] 88 (0, 0))) (b5 : w.heap[g5]? = some (.cells #[.int .i64 u] 3 (0, 0)))
  (hp : pack_Place.f l0_4 a1_4 a1_5 a1_6 a1_7 n = some p) (hs : elastic_safe.f ks a0_0 a0_1 a0_2 a0_3 l0_4 l0_5 l0_6 l0_7 l0_8 a1_0 a1_1 u false p.1 = some b) :
  Calls Try.prog 96 #[.int .i64 n, .pointer (some ⟨g3, 0, none⟩), .pointer (some ⟨g4, 0, none⟩), .pointer (some ⟨g5, 0, none⟩)] w fun e w' => ∃ v, e = .returned (.tuple #[v, .bool b]) ∧ Kd.R k52 52 w' w.heap.size (fun _ => True) v p.1 ∧ Below w.heap.size w w' := by
 have hu86 := Try.underlying86
 have hu88 := Try.underlying88
 have hu27 := Try.underlying27
 have hu41 := Try.underlying41
 have hu39 := Try.underlying39
 have hu32 := Try.underlying32
 have hu139 := Try.underlying139
 have hu3 := Try.underlying3
 have HR0_4 := m_ hr0_4
 have HC0_4 := m_ hc0_4
 clear hr0_4 hc0_4
 have HR0_5 := m_ hr0_5
 have HC0_5 := m_ hc0_5
 clear hr0_5 hc0_5
 have HR0_6 := m_ hr0_6
 have HC0_6 := m_ hc0_6
 clear hr0_6 hc0_6
 have HR0_7 := m_ hr0_7
 have HC0_7 := m_ hc0_7
 clear hr0_7 hc0_7
 have HR0_8 := m_ hr0_8
 have HC0_8 := m_ hc0_8
 clear hr0_8 hc0_8
 have HXg3 := m_ b3
 have HXg4 := m_ b4
 have HXg5 := m_ b5
 have HP := m_ hp
 have HS := m_ hs
 have HB := m_ (Below.refl w.heap.size w)
 clear b3 b4 b5 hp hs
 obtain ⟨cg3_0, cg3_1, cg3_2, cg3_3, cg3_4, cg3_5, cg3_6, cg3_7, cg3_8⟩ := cz9_ HXg3
 obtain ⟨cg4_0, cg4_1, cg4_2, cg4_3, cg4_4, cg4_5, cg4_6, cg4_7⟩ := cz8_ HXg4
 have cg5_0 : w.cell? ⟨g5, 0, none⟩ = some (.int .i64 u) := (a0_ HXg5.out 0).trans rfl
 go_enter Try.func96, Try.ntmps96
 go_wp2_with (first | (go_at_call 46; refine (pack_Place.calls _ _ l0_4 a1_4 a1_5 a1_6 a1_7 n _ _ _ (Kd.C_below HR0_4.out HB.out) HC0_4.out HP.out).mono ?_; rintro e wp ⟨vp, rfl, hrp, hbp⟩; obtain ⟨Ap, cp, rfl⟩ := Kd.R_slice hrp; have HRP := m_ hrp; clear cg3_0 cg3_1 cg3_2 cg3_3 cg3_4 cg3_5 cg3_6 cg3_7 cg3_8 cg4_0 cg4_1 cg4_2 cg4_3 cg4_4 cg4_5 cg4_6 cg4_7 cg5_0; replace HXg3 := m_ (a1_ HXg3.out hbp); replace HXg4 := m_ (a1_ HXg4.out hbp); replace HXg5 := m_ (a1_ HXg5.out hbp); replace HB := m_ (a9_ HB.out hbp); clear hbp hrp; obtain ⟨cg3_0, cg3_1, cg3_2, cg3_3, cg3_4, cg3_5, cg3_6, cg3_7, cg3_8⟩ := cz9_ HXg3; obtain ⟨cg4_0, cg4_1, cg4_2, cg4_3, cg4_4, cg4_5, cg4_6, cg4_7⟩ := cz8_ HXg4; have cg5_0 : wp.cell? ⟨g5, 0, none⟩ = some (.int .i64 u) := (a0_ HXg5.out 0).trans rfl) | (go_at_call 97; refine (elastic_safe.calls ks a0_0 a0_1 a0_2 a0_3 _ _ l0_4 _ _ l0_5 _ _ l0_6 _ _ l0_7 _ _ l0_8 a1_0 a1_1 u false _ _ p.1 _ _ (Kd.C_below HR0_4.out (HB.out)) HC0_4.out (Kd.C_below HR0_5.out (HB.out)) HC0_5.out (Kd.C_below HR0_6.out (HB.out)) HC0_6.out (Kd.C_below HR0_7.out (HB.out)) HC0_7.out (Kd.C_below HR0_8.out (HB.out)) HC0_8.out (Kd.R_reads' HRP.out).2.2 (Kd.R_reads' HRP.out).2.1 HS.out).mono ?_; rintro e ws ⟨rfl, hbs⟩; clear cg3_0 cg3_1 cg3_2 cg3_3 cg3_4 cg3_5 cg3_6 cg3_7 cg3_8 cg4_0 cg4_1 cg4_2 cg4_3 cg4_4 cg4_5 cg4_6 cg4_7 cg5_0; replace HXg3 := m_ (a1_ HXg3.out hbs); replace HXg4 := m_ (a1_ HXg4.out hbs); replace HXg5 := m_ (a1_ HXg5.out hbs); replace HRP := m_ (Kd.R_below HRP.out hbs); replace HB := m_ (a9_ HB.out hbs); clear hbs))
 go_ret2
 exact ⟨_, rfl, HRP.out, HB.out⟩
def fillTs (k : Nat) (a0_0 a0_1 a0_2 a0_3 : Int) (l0_4 : List S51) (l0_5 : List S24) (l0_6 : List S41) (l0_7 : List S105) (l0_8 : List S149) (id q g c mn mx u : Int) : List Int → Option (List (List S52 × Bool))
 | [] => some []
 | n :: r => (pack_Place.f l0_4 g c mn mx n).bind fun p => (elastic_safe.f k a0_0 a0_1 a0_2 a0_3 l0_4 l0_5 l0_6 l0_7 l0_8 id q u false p.1).bind fun b => (fillTs k a0_0 a0_1 a0_2 a0_3 l0_4 l0_5 l0_6 l0_7 l0_8 id q g c mn mx u r).bind fun t => some ((p.1, b) :: t)
def fillR (t : List (List S52 × Bool)) : List S52 × Int := match t.find? (fun x => x.2) with | some x => (x.1, 0) | none => ([], 5)
def elastic_Fill.f (k : Nat) (a0_0 a0_1 a0_2 a0_3 : Int) (l0_4 : List (S51)) (l0_5 : List (S24)) (l0_6 : List (S41)) (l0_7 : List (S105)) (l0_8 : List (S149)) (a1_0 a1_1 a1_2 a1_3 a1_4 a1_5 a1_6 a1_7 a2 : Int) : Option ((List (S52)) × Int) :=
 (elastic_Most.f a0_0 a0_1 a0_2 a0_3 l0_4 l0_5 l0_6 l0_7 l0_8 a1_0 a1_1 a1_2 a1_3 a1_4 a1_5 a1_6 a1_7).bind fun m => if m.2 = 0 then (if -1000000 ≤ a1_6 ∧ a1_6 ≤ 1000000 ∧ m.1.length ≤ 1000000 then (fillTs k a0_0 a0_1 a0_2 a0_3 l0_4 l0_5 l0_6 l0_7 l0_8 a1_0 a1_1 a1_4 a1_5 a1_6 a1_7 a2 (downL m.1.length a1_6)).bind fun t => some (fillR t) else none) else some ([], m.2)
theorem fillTs_get {k : Nat} {a0_0 a0_1 a0_2 a0_3 : Int} {l0_4 : List S51} {l0_5 : List S24} {l0_6 : List S41} {l0_7 : List S105} {l0_8 : List S149} {id q g c mn mx u : Int} : ∀ {L : List Int} {t : List (List S52 × Bool)}, fillTs k a0_0 a0_1 a0_2 a0_3 l0_4 l0_5 l0_6 l0_7 l0_8 id q g c mn mx u L = some t →
  t.length = L.length ∧ ∀ (i : Nat) (n : Int), L[i]? = some n → ∃ (p : List S52 × Int) (b : Bool), t[i]? = some (p.1, b) ∧ pack_Place.f l0_4 g c mn mx n = some p ∧ elastic_safe.f k a0_0 a0_1 a0_2 a0_3 l0_4 l0_5 l0_6 l0_7 l0_8 id q u false p.1 = some b
 | [], t, h => by
  have h := Option.some.inj h
  subst h
  refine ⟨rfl, fun i n hn => ?_⟩
  simp at hn
 | m :: r, t, h => by
  rw [fillTs] at h
  obtain ⟨p, hp, h⟩ := Option.bind_eq_some_iff.1 h
  obtain ⟨b, hb, h⟩ := Option.bind_eq_some_iff.1 h
  obtain ⟨t', ht, h⟩ := Option.bind_eq_some_iff.1 h
  cases h
  obtain ⟨hl, ih⟩ := fillTs_get ht
  refine ⟨by simp [hl], fun i n hn => ?_⟩
  cases i with
  | zero => cases hn; exact ⟨p, b, rfl, hp, hb⟩
  | succ i => exact ih i n hn
theorem results58 {tmps : Array Value} {w : World} {g4 g5 : Nat} {v u : Value} {t t' : TypeId} (h4 : tmps.getD 6 undef = .pointer (some ⟨g4, 0, none⟩)) (h5 : tmps.getD 7 undef = .pointer (some ⟨g5, 0, none⟩))
  (b4 : w.heap[g4]? = some (.cells #[v] t (0, 0))) (b5 : w.heap[g5]? = some (.cells #[u] t' (0, 0))) : (results Try.f58 tmps).run Try.prog w = .ok (.tuple #[v, u]) w := by
 have h4' : tmps[6]?.getD undef = .pointer (some ⟨g4, 0, none⟩) := by simpa using h4
 have h5' : tmps[7]?.getD undef = .pointer (some ⟨g5, 0, none⟩) := by simpa using h5
 have c4 : w.cell? ⟨g4, 0, none⟩ = some v := (a0_ b4 0).trans rfl
 have c5 : w.cell? ⟨g5, 0, none⟩ = some u := (a0_ b5 0).trans rfl
 have hu39 := Try.underlying39
 have hu32 := Try.underlying32
 simp [results, Try.f58, go_sem, h4', h5', c4, c5, hu39, hu32]
set_option maxHeartbeats 8000000 in
set_option maxRecDepth 100000 in
theorem fill_no (a0_0 a0_1 a0_2 a0_3 : Int) (A0_4 : Option Addr) (c0_4 : Nat) (l0_4 : List (S51)) (A0_5 : Option Addr) (c0_5 : Nat) (l0_5 : List (S24)) (A0_6 : Option Addr) (c0_6 : Nat) (l0_6 : List (S41)) (A0_7 : Option Addr) (c0_7 : Nat) (l0_7 : List (S105)) (A0_8 : Option Addr) (c0_8 : Nat) (l0_8 : List (S149)) (a1_0 a1_1 a1_2 a1_3 a1_4 a1_5 a1_6 a1_7 u : Int) (ms : List S52) (e0 : Int) (w : World) (hr0_4 : Kd.C k51 w A0_4 l0_4.length l0_4) (hc0_4 : l0_4.length ≤ c0_4) (hr0_5 : Kd.C k24 w A0_5 l0_5.length l0_5) (hc0_5 : l0_5.length ≤ c0_5) (hr0_6 : Kd.C k41 w A0_6 l0_6.length l0_6) (hc0_6 : l0_6.length ≤ c0_6) (hr0_7 : Kd.C k105 w A0_7 l0_7.length l0_7) (hc0_7 : l0_7.length ≤ c0_7) (hr0_8 : Kd.C k149 w A0_8 l0_8.length l0_8) (hc0_8 : l0_8.length ≤ c0_8) (hM : elastic_Most.f a0_0 a0_1 a0_2 a0_3 l0_4 l0_5 l0_6 l0_7 l0_8 a1_0 a1_1 a1_2 a1_3 a1_4 a1_5 a1_6 a1_7 = some (ms, e0)) (he : e0 ≠ 0) :
  Calls Try.prog 58 #[.agg #[.int .i64 a0_0, .int .i64 a0_1, .int .i64 a0_2, .int .i64 a0_3, .slice A0_4 l0_4.length c0_4, .slice A0_5 l0_5.length c0_5, .slice A0_6 l0_6.length c0_6, .slice A0_7 l0_7.length c0_7, .slice A0_8 l0_8.length c0_8], .agg #[.int .i64 a1_0, .int .i64 a1_1, .int .i64 a1_2, .int .i64 a1_3, .int .i64 a1_4, .int .i64 a1_5, .int .i64 a1_6, .int .i64 a1_7], .int .i64 u] w fun e w' => ∃ v0_ : Value, e = .returned (.tuple #[v0_, .int .i64 e0]) ∧ Kd.R k52 52 w' w.heap.size (fun _ => True) v0_ [] ∧ Below w.heap.size w w' := by
 have hu86 := Try.underlying86
 have hu88 := Try.underlying88
 have hu27 := Try.underlying27
 have hu41 := Try.underlying41
 have hu39 := Try.underlying39
 have hu32 := Try.underlying32
 have hu139 := Try.underlying139
 have hu3 := Try.underlying3
 have HR0_4 := m_ hr0_4
 have HC0_4 := m_ hc0_4
 clear hr0_4 hc0_4
 have HR0_5 := m_ hr0_5
 have HC0_5 := m_ hc0_5
 clear hr0_5 hc0_5
 have HR0_6 := m_ hr0_6
 have HC0_6 := m_ hc0_6
 clear hr0_6 hc0_6
 have HR0_7 := m_ hr0_7
 have HC0_7 := m_ hc0_7
 clear hr0_7 hc0_7
 have HR0_8 := m_ hr0_8
 have HC0_8 := m_ hc0_8
 clear hr0_8 hc0_8
 have HM := m_ hM
 have HB := m_ (Below.refl w.heap.size w)
 have t0 : (e0 != 0) = true := by simpa using he
 clear hM he
 refine calls_marks Try.func58 rfl ?_
 simp only [Try.ntmps58, List.size_toArray, List.length_cons, List.length_nil, Nat.reduceAdd, Nat.reduceSub, Array.replicate_succ, Array.replicate_zero, List.push_toArray, List.append_toArray, List.nil_append, List.cons_append]
 go_wp2_with (first | ((with_reducible refine a3_ (N := 3) rfl ?_); refine bx 3 #[.int .i64 a0_0, .int .i64 a0_1, .int .i64 a0_2, .int .i64 a0_3, .slice A0_4 l0_4.length c0_4, .slice A0_5 l0_5.length c0_5, .slice A0_6 l0_6.length c0_6, .slice A0_7 l0_7.length c0_7, .slice A0_8 l0_8.length c0_8] 86 ?_; intro g3 hgg3 wg3 hxg3 hbg3; have Gg3 : w.heap.size ≤ g3 := Z7; replace HB := m_ (a9_ HB.out hbg3); have HXg3 := m_ hxg3; clear hgg3 hxg3 hbg3) | ((with_reducible refine a3_ (N := 4) rfl ?_); refine bx 4 #[.int .i64 a1_0, .int .i64 a1_1, .int .i64 a1_2, .int .i64 a1_3, .int .i64 a1_4, .int .i64 a1_5, .int .i64 a1_6, .int .i64 a1_7] 88 ?_; intro g4 hgg4 wg4 hxg4 hbg4; have Ng3_g4 := m_ (show g3 ≠ g4 from by have := c4_ HXg3.out; omega); replace HXg3 := m_ (a1_ HXg3.out hbg4); have Gg4 : w.heap.size ≤ g4 := Z7; replace HB := m_ (a9_ HB.out hbg4); have HXg4 := m_ hxg4; clear hgg4 hxg4 hbg4) | ((with_reducible refine a3_ (N := 5) rfl ?_); refine bx 5 #[.int .i64 u] 3 ?_; intro g5 hgg5 wg5 hxg5 hbg5; have Ng3_g5 := m_ (show g3 ≠ g5 from by have := c4_ HXg3.out; omega); have Ng4_g5 := m_ (show g4 ≠ g5 from by have := c4_ HXg4.out; omega); replace HXg3 := m_ (a1_ HXg3.out hbg5); replace HXg4 := m_ (a1_ HXg4.out hbg5); have Gg5 : w.heap.size ≤ g5 := Z7; replace HB := m_ (a9_ HB.out hbg5); have HXg5 := m_ hxg5; clear hgg5 hxg5 hbg5) | ((with_reducible refine a3_ (N := 6) rfl ?_); refine bx 6 #[.slice none 0 0] 39 ?_; intro g6 hgg6 wg6 hxg6 hbg6; have Ng3_g6 := m_ (show g3 ≠ g6 from by have := c4_ HXg3.out; omega); have Ng4_g6 := m_ (show g4 ≠ g6 from by have := c4_ HXg4.out; omega); have Ng5_g6 := m_ (show g5 ≠ g6 from by have := c4_ HXg5.out; omega); replace HXg3 := m_ (a1_ HXg3.out hbg6); replace HXg4 := m_ (a1_ HXg4.out hbg6); replace HXg5 := m_ (a1_ HXg5.out hbg6); have Gg6 : w.heap.size ≤ g6 := Z7; replace HB := m_ (a9_ HB.out hbg6); have HXg6 := m_ hxg6; clear hgg6 hxg6 hbg6) | ((with_reducible refine a3_ (N := 7) rfl ?_); refine bx 7 #[.int .i64 0] 32 ?_; intro g7 hgg7 wg7 hxg7 hbg7; have Ng3_g7 := m_ (show g3 ≠ g7 from by have := c4_ HXg3.out; omega); have Ng4_g7 := m_ (show g4 ≠ g7 from by have := c4_ HXg4.out; omega); have Ng5_g7 := m_ (show g5 ≠ g7 from by have := c4_ HXg5.out; omega); have Ng6_g7 := m_ (show g6 ≠ g7 from by have := c4_ HXg6.out; omega); replace HXg3 := m_ (a1_ HXg3.out hbg7); replace HXg4 := m_ (a1_ HXg4.out hbg7); replace HXg5 := m_ (a1_ HXg5.out hbg7); replace HXg6 := m_ (a1_ HXg6.out hbg7); have Gg7 : w.heap.size ≤ g7 := Z7; replace HB := m_ (a9_ HB.out hbg7); have HXg7 := m_ hxg7; clear hgg7 hxg7 hbg7; obtain ⟨cg3_0, cg3_1, cg3_2, cg3_3, cg3_4, cg3_5, cg3_6, cg3_7, cg3_8⟩ := cz9_ HXg3; obtain ⟨cg4_0, cg4_1, cg4_2, cg4_3, cg4_4, cg4_5, cg4_6, cg4_7⟩ := cz8_ HXg4) | (go_at_call 57; refine (elastic_Most.calls a0_0 a0_1 a0_2 a0_3 _ _ l0_4 _ _ l0_5 _ _ l0_6 _ _ l0_7 _ _ l0_8 a1_0 a1_1 a1_2 a1_3 a1_4 a1_5 a1_6 a1_7 ms e0 _ (Kd.C_below HR0_4.out (HB.out)) HC0_4.out (Kd.C_below HR0_5.out (HB.out)) HC0_5.out (Kd.C_below HR0_6.out (HB.out)) HC0_6.out (Kd.C_below HR0_7.out (HB.out)) HC0_7.out (Kd.C_below HR0_8.out (HB.out)) HC0_8.out HM.out).mono ?_; rintro e w8 ⟨vm, rfl, hrm, hb8⟩; obtain ⟨Am, cm, rfl⟩ := Kd.R_slice hrm; clear cg3_0 cg3_1 cg3_2 cg3_3 cg3_4 cg3_5 cg3_6 cg3_7 cg3_8 cg4_0 cg4_1 cg4_2 cg4_3 cg4_4 cg4_5 cg4_6 cg4_7; replace HXg3 := m_ (a1_ HXg3.out hb8); replace HXg4 := m_ (a1_ HXg4.out hb8); replace HXg5 := m_ (a1_ HXg5.out hb8); replace HXg6 := m_ (a1_ HXg6.out hb8); replace HXg7 := m_ (a1_ HXg7.out hb8); replace HB := m_ (a9_ HB.out hb8); clear hb8 hrm; have zg6 : w8.frozen? ⟨g6, 0, none⟩ = false := a2_ HXg6.out 0; have zg7 : w8.frozen? ⟨g7, 0, none⟩ = false := a2_ HXg7.out 0; have cg6_0 : w8.cell? ⟨g6, 0, none⟩ = some (.slice none 0 0) := (a0_ HXg6.out 0).trans rfl; have cg7_0 : w8.cell? ⟨g7, 0, none⟩ = some (.int .i64 0) := (a0_ HXg7.out 0).trans rfl; have n67 := Ng6_g7.out))
 have h6 : ((w8.setCell ⟨g6, 0, none⟩ (.slice none 0 0)).setCell ⟨g7, 0, none⟩ (.int .i64 e0)).heap[g6]? = some (.cells #[.slice none 0 0] 39 (0, 0)) := c5_ (c8_ HXg6.out 0 _ rfl) n67 _
 have h7 : ((w8.setCell ⟨g6, 0, none⟩ (.slice none 0 0)).setCell ⟨g7, 0, none⟩ (.int .i64 e0)).heap[g7]? = some (.cells #[.int .i64 e0] 32 (0, 0)) := c8_ (c5_ HXg7.out n67.symm _) 0 _ rfl
 exact marks_ret0 (results58 rfl rfl h6 h7) ⟨_, rfl, Kd.R_nil _ _ _ _ _, b5_ (b5_ HB.out Gg6) Gg7⟩
set_option maxHeartbeats 8000000 in
set_option maxRecDepth 100000 in
theorem fill_yes (ks : Nat) (a0_0 a0_1 a0_2 a0_3 : Int) (A0_4 : Option Addr) (c0_4 : Nat) (l0_4 : List (S51)) (A0_5 : Option Addr) (c0_5 : Nat) (l0_5 : List (S24)) (A0_6 : Option Addr) (c0_6 : Nat) (l0_6 : List (S41)) (A0_7 : Option Addr) (c0_7 : Nat) (l0_7 : List (S105)) (A0_8 : Option Addr) (c0_8 : Nat) (l0_8 : List (S149)) (a1_0 a1_1 a1_2 a1_3 a1_4 a1_5 a1_6 a1_7 u : Int) (ms : List S52) (ts : List (List S52 × Bool)) (rr : List S52 × Int) (w : World) (hr0_4 : Kd.C k51 w A0_4 l0_4.length l0_4) (hc0_4 : l0_4.length ≤ c0_4) (hr0_5 : Kd.C k24 w A0_5 l0_5.length l0_5) (hc0_5 : l0_5.length ≤ c0_5) (hr0_6 : Kd.C k41 w A0_6 l0_6.length l0_6) (hc0_6 : l0_6.length ≤ c0_6) (hr0_7 : Kd.C k105 w A0_7 l0_7.length l0_7) (hc0_7 : l0_7.length ≤ c0_7) (hr0_8 : Kd.C k149 w A0_8 l0_8.length l0_8) (hc0_8 : l0_8.length ≤ c0_8) (hM : elastic_Most.f a0_0 a0_1 a0_2 a0_3 l0_4 l0_5 l0_6 l0_7 l0_8 a1_0 a1_1 a1_2 a1_3 a1_4 a1_5 a1_6 a1_7 = some (ms, 0))
  (hmn : (-1000000 ≤ a1_6 ∧ a1_6 ≤ 1000000) ∧ ms.length ≤ 1000000) (hts : fillTs ks a0_0 a0_1 a0_2 a0_3 l0_4 l0_5 l0_6 l0_7 l0_8 a1_0 a1_1 a1_4 a1_5 a1_6 a1_7 u (downL ms.length a1_6) = some ts) (hR : rr = fillR ts) :
  Calls Try.prog 58 #[.agg #[.int .i64 a0_0, .int .i64 a0_1, .int .i64 a0_2, .int .i64 a0_3, .slice A0_4 l0_4.length c0_4, .slice A0_5 l0_5.length c0_5, .slice A0_6 l0_6.length c0_6, .slice A0_7 l0_7.length c0_7, .slice A0_8 l0_8.length c0_8], .agg #[.int .i64 a1_0, .int .i64 a1_1, .int .i64 a1_2, .int .i64 a1_3, .int .i64 a1_4, .int .i64 a1_5, .int .i64 a1_6, .int .i64 a1_7], .int .i64 u] w fun e w' => ∃ v0_ : Value, e = .returned (.tuple #[v0_, .int .i64 rr.2]) ∧ Kd.R k52 52 w' w.heap.size (fun _ => True) v0_ rr.1 ∧ Below w.heap.size w w' := by
 have hu86 := Try.underlying86
 have hu88 := Try.underlying88
 have hu27 := Try.underlying27
 have hu41 := Try.underlying41
 have hu39 := Try.underlying39
 have hu32 := Try.underlying32
 have hu139 := Try.underlying139
 have hu3 := Try.underlying3
 have HR0_4 := m_ hr0_4
 have HC0_4 := m_ hc0_4
 clear hr0_4 hc0_4
 have HR0_5 := m_ hr0_5
 have HC0_5 := m_ hc0_5
 clear hr0_5 hc0_5
 have HR0_6 := m_ hr0_6
 have HC0_6 := m_ hc0_6
 clear hr0_6 hc0_6
 have HR0_7 := m_ hr0_7
 have HC0_7 := m_ hc0_7
 clear hr0_7 hc0_7
 have HR0_8 := m_ hr0_8
 have HC0_8 := m_ hc0_8
 clear hr0_8 hc0_8
 have HM := m_ hM
 have HTS := m_ (fillTs_get hts)
 have HMN := m_ hmn
 have HRR := m_ hR
 have HB := m_ (Below.refl w.heap.size w)
 clear hM hts hmn hR
 refine calls_marks Try.func58 rfl ?_
 simp only [Try.ntmps58, List.size_toArray, List.length_cons, List.length_nil, Nat.reduceAdd, Nat.reduceSub, Array.replicate_succ, Array.replicate_zero, List.push_toArray, List.append_toArray, List.nil_append, List.cons_append]
 go_upto_region 4 with (first | ((with_reducible refine a3_ (N := 3) rfl ?_); refine bx 3 #[.int .i64 a0_0, .int .i64 a0_1, .int .i64 a0_2, .int .i64 a0_3, .slice A0_4 l0_4.length c0_4, .slice A0_5 l0_5.length c0_5, .slice A0_6 l0_6.length c0_6, .slice A0_7 l0_7.length c0_7, .slice A0_8 l0_8.length c0_8] 86 ?_; intro g3 hgg3 wg3 hxg3 hbg3; have Gg3 : w.heap.size ≤ g3 := Z7; replace HB := m_ (a9_ HB.out hbg3); have HXg3 := m_ hxg3; clear hgg3 hxg3 hbg3) | ((with_reducible refine a3_ (N := 4) rfl ?_); refine bx 4 #[.int .i64 a1_0, .int .i64 a1_1, .int .i64 a1_2, .int .i64 a1_3, .int .i64 a1_4, .int .i64 a1_5, .int .i64 a1_6, .int .i64 a1_7] 88 ?_; intro g4 hgg4 wg4 hxg4 hbg4; have Ng3_g4 := m_ (show g3 ≠ g4 from by have := c4_ HXg3.out; omega); replace HXg3 := m_ (a1_ HXg3.out hbg4); have Gg4 : w.heap.size ≤ g4 := Z7; replace HB := m_ (a9_ HB.out hbg4); have HXg4 := m_ hxg4; clear hgg4 hxg4 hbg4) | ((with_reducible refine a3_ (N := 5) rfl ?_); refine bx 5 #[.int .i64 u] 3 ?_; intro g5 hgg5 wg5 hxg5 hbg5; have Ng3_g5 := m_ (show g3 ≠ g5 from by have := c4_ HXg3.out; omega); have Ng4_g5 := m_ (show g4 ≠ g5 from by have := c4_ HXg4.out; omega); replace HXg3 := m_ (a1_ HXg3.out hbg5); replace HXg4 := m_ (a1_ HXg4.out hbg5); have Gg5 : w.heap.size ≤ g5 := Z7; replace HB := m_ (a9_ HB.out hbg5); have HXg5 := m_ hxg5; clear hgg5 hxg5 hbg5) | ((with_reducible refine a3_ (N := 6) rfl ?_); refine bx 6 #[.slice none 0 0] 39 ?_; intro g6 hgg6 wg6 hxg6 hbg6; have Ng3_g6 := m_ (show g3 ≠ g6 from by have := c4_ HXg3.out; omega); have Ng4_g6 := m_ (show g4 ≠ g6 from by have := c4_ HXg4.out; omega); have Ng5_g6 := m_ (show g5 ≠ g6 from by have := c4_ HXg5.out; omega); replace HXg3 := m_ (a1_ HXg3.out hbg6); replace HXg4 := m_ (a1_ HXg4.out hbg6); replace HXg5 := m_ (a1_ HXg5.out hbg6); have Gg6 : w.heap.size ≤ g6 := Z7; replace HB := m_ (a9_ HB.out hbg6); have HXg6 := m_ hxg6; clear hgg6 hxg6 hbg6) | ((with_reducible refine a3_ (N := 7) rfl ?_); refine bx 7 #[.int .i64 0] 32 ?_; intro g7 hgg7 wg7 hxg7 hbg7; have Ng3_g7 := m_ (show g3 ≠ g7 from by have := c4_ HXg3.out; omega); have Ng4_g7 := m_ (show g4 ≠ g7 from by have := c4_ HXg4.out; omega); have Ng5_g7 := m_ (show g5 ≠ g7 from by have := c4_ HXg5.out; omega); have Ng6_g7 := m_ (show g6 ≠ g7 from by have := c4_ HXg6.out; omega); replace HXg3 := m_ (a1_ HXg3.out hbg7); replace HXg4 := m_ (a1_ HXg4.out hbg7); replace HXg5 := m_ (a1_ HXg5.out hbg7); replace HXg6 := m_ (a1_ HXg6.out hbg7); have Gg7 : w.heap.size ≤ g7 := Z7; replace HB := m_ (a9_ HB.out hbg7); have HXg7 := m_ hxg7; clear hgg7 hxg7 hbg7; obtain ⟨cg3_0, cg3_1, cg3_2, cg3_3, cg3_4, cg3_5, cg3_6, cg3_7, cg3_8⟩ := cz9_ HXg3; obtain ⟨cg4_0, cg4_1, cg4_2, cg4_3, cg4_4, cg4_5, cg4_6, cg4_7⟩ := cz8_ HXg4) | (go_at_call 57; refine (elastic_Most.calls a0_0 a0_1 a0_2 a0_3 _ _ l0_4 _ _ l0_5 _ _ l0_6 _ _ l0_7 _ _ l0_8 a1_0 a1_1 a1_2 a1_3 a1_4 a1_5 a1_6 a1_7 ms 0 _ (Kd.C_below HR0_4.out (HB.out)) HC0_4.out (Kd.C_below HR0_5.out (HB.out)) HC0_5.out (Kd.C_below HR0_6.out (HB.out)) HC0_6.out (Kd.C_below HR0_7.out (HB.out)) HC0_7.out (Kd.C_below HR0_8.out (HB.out)) HC0_8.out HM.out).mono ?_; rintro e w8 ⟨vm, rfl, hrm, hb8⟩; obtain ⟨Am, cm, rfl⟩ := Kd.R_slice hrm; clear cg3_0 cg3_1 cg3_2 cg3_3 cg3_4 cg3_5 cg3_6 cg3_7 cg3_8 cg4_0 cg4_1 cg4_2 cg4_3 cg4_4 cg4_5 cg4_6 cg4_7; replace HXg3 := m_ (a1_ HXg3.out hb8); replace HXg4 := m_ (a1_ HXg4.out hb8); replace HXg5 := m_ (a1_ HXg5.out hb8); replace HXg6 := m_ (a1_ HXg6.out hb8); replace HXg7 := m_ (a1_ HXg7.out hb8); replace HB := m_ (a9_ HB.out hb8); clear hb8 hrm))
 go_upto_region 5 with (first | ((with_reducible refine a3_ (N := 23) rfl ?_); refine Kd.event_run (w1 := w8) (v := .func (.func 96) #[] #[.pointer (some ⟨g3, 0, none⟩), .pointer (some ⟨g4, 0, none⟩), .pointer (some ⟨g5, 0, none⟩)]) rfl ?hmk ?_; (case hmk => first | (go_simp; done) | (go_simp; rfl)); refine bx 10 #[.nilFunc] 139 ?_; intro g10 hgg10 wg10 hxg10 hbg10; have Ng3_g10 := m_ (show g3 ≠ g10 from by have := c4_ HXg3.out; omega); have Ng4_g10 := m_ (show g4 ≠ g10 from by have := c4_ HXg4.out; omega); have Ng5_g10 := m_ (show g5 ≠ g10 from by have := c4_ HXg5.out; omega); have Ng6_g10 := m_ (show g6 ≠ g10 from by have := c4_ HXg6.out; omega); have Ng7_g10 := m_ (show g7 ≠ g10 from by have := c4_ HXg7.out; omega); replace HXg3 := m_ (a1_ HXg3.out hbg10); replace HXg4 := m_ (a1_ HXg4.out hbg10); replace HXg5 := m_ (a1_ HXg5.out hbg10); replace HXg6 := m_ (a1_ HXg6.out hbg10); replace HXg7 := m_ (a1_ HXg7.out hbg10); have Gg10 : w.heap.size ≤ g10 := Z7; replace HB := m_ (a9_ HB.out hbg10); have HXg10 := m_ hxg10; clear hgg10 hxg10 hbg10; have zg10_0 : wg10.frozen? ⟨g10, 0, none⟩ = false := a2_ HXg10.out 0; have cg10_0 : wg10.cell? ⟨g10, 0, none⟩ = some (.nilFunc) := (a0_ HXg10.out 0).trans rfl))
 obtain ⟨wB, hwB⟩ : ∃ wB, wB = wg10.setCell ⟨g10, 0, none⟩ (.func (.func 96) #[] #[.pointer (some ⟨g3, 0, none⟩), .pointer (some ⟨g4, 0, none⟩), .pointer (some ⟨g5, 0, none⟩)]) := ⟨_, rfl⟩
 rw [← hwB]
 have hxg3 : wB.heap[g3]? = some (.cells #[.int .i64 a0_0, .int .i64 a0_1, .int .i64 a0_2, .int .i64 a0_3, .slice A0_4 l0_4.length c0_4, .slice A0_5 l0_5.length c0_5, .slice A0_6 l0_6.length c0_6, .slice A0_7 l0_7.length c0_7, .slice A0_8 l0_8.length c0_8] 86 (0, 0)) := by rw [hwB]; exact c5_ HXg3.out (Ng3_g10.out) _
 have hxg4 : wB.heap[g4]? = some (.cells #[.int .i64 a1_0, .int .i64 a1_1, .int .i64 a1_2, .int .i64 a1_3, .int .i64 a1_4, .int .i64 a1_5, .int .i64 a1_6, .int .i64 a1_7] 88 (0, 0)) := by rw [hwB]; exact c5_ HXg4.out (Ng4_g10.out) _
 have hxg5 : wB.heap[g5]? = some (.cells #[.int .i64 u] 3 (0, 0)) := by rw [hwB]; exact c5_ HXg5.out (Ng5_g10.out) _
 have hxg6 : wB.heap[g6]? = some (.cells #[.slice none 0 0] 39 (0, 0)) := by rw [hwB]; exact c5_ HXg6.out (Ng6_g10.out) _
 have hxg7 : wB.heap[g7]? = some (.cells #[.int .i64 0] 32 (0, 0)) := by rw [hwB]; exact c5_ HXg7.out (Ng7_g10.out) _
 have hxg10 : wB.heap[g10]? = some (.cells #[.func (.func 96) #[] #[.pointer (some ⟨g3, 0, none⟩), .pointer (some ⟨g4, 0, none⟩), .pointer (some ⟨g5, 0, none⟩)]] 139 (0, 0)) := by rw [hwB]; exact c8_ HXg10.out 0 _ rfl
 have hbB : Below w.heap.size w wB := by rw [hwB]; exact b5_ HB.out Gg10
 replace HXg3 := m_ hxg3
 replace HXg4 := m_ hxg4
 replace HXg5 := m_ hxg5
 replace HXg6 := m_ hxg6
 replace HXg7 := m_ hxg7
 replace HXg10 := m_ hxg10
 replace HB := m_ hbB
 clear hwB hxg3 hxg4 hxg5 hxg6 hxg7 hxg10 hbB zg10_0 cg10_0
 obtain ⟨cg4_0, cg4_1, cg4_2, cg4_3, cg4_4, cg4_5, cg4_6, cg4_7⟩ := cz8_ HXg4
 go_wp2_with (first | (go_at_call 95; refine (down_calls ms.length a1_6 _).mono ?_; rintro e w9 ⟨rfl, hd1, hd2, hb9⟩; have HD1 := m_ hd1; have HD2 := m_ hd2; have HBL := m_ (HB.out.size); clear cg4_0 cg4_1 cg4_2 cg4_3 cg4_4 cg4_5 cg4_6 cg4_7; replace HXg3 := m_ (a1_ HXg3.out hb9); replace HXg4 := m_ (a1_ HXg4.out hb9); replace HXg5 := m_ (a1_ HXg5.out hb9); replace HXg6 := m_ (a1_ HXg6.out hb9); replace HXg7 := m_ (a1_ HXg7.out hb9); replace HXg10 := m_ (a1_ HXg10.out hb9); replace HB := m_ (a9_ HB.out hb9); clear hb9 hd1 hd2))
 refine range_try (gf := 117) (lb := #[.pointer (some ⟨wB.heap.size, 0, none⟩), .pointer (some ⟨wB.heap.size + 1, 0, none⟩)]) rfl (enters_of Try.func117 (by kernel_rfl) rfl)
  (enc := fun x : Int => #[.int .i64 x]) (down_goes _ _ ms.length a1_6 _ HD1.out HD2.out (by have := HMN.out; omega) (by have := HMN.out; omega)) (fun _ => rfl)
  (fun x => ∀ i : Nat, (downL ms.length a1_6)[i]? = some x → ∃ p, ts[i]? = some (p, false)) (fun x W => ∃ p : List S52 × Int, (∀ i : Nat, (downL ms.length a1_6)[i]? = some x → ts[i]? = some (p.1, true)) ∧ Stands w g6 g7 (p.1, 0) W) ?hRx
  (fun x a' _ => a' = { tmps := #[.agg #[.int .i64 a0_0, .int .i64 a0_1, .int .i64 a0_2, .int .i64 a0_3, .slice A0_4 l0_4.length c0_4, .slice A0_5 l0_5.length c0_5, .slice A0_6 l0_6.length c0_6, .slice A0_7 l0_7.length c0_7, .slice A0_8 l0_8.length c0_8], .agg #[.int .i64 a1_0, .int .i64 a1_1, .int .i64 a1_2, .int .i64 a1_3, .int .i64 a1_4, .int .i64 a1_5, .int .i64 a1_6, .int .i64 a1_7], .int .i64 u, .pointer (some ⟨g3, 0, none⟩), .pointer (some ⟨g4, 0, none⟩), .pointer (some ⟨g5, 0, none⟩), .pointer (some ⟨g6, 0, none⟩), .pointer (some ⟨g7, 0, none⟩), .slice Am ms.length cm, .int .i64 0, .pointer (some ⟨g10, 0, none⟩), .int .i64 x, undef, undef, .tuple #[.slice Am ms.length cm, .int .i64 0], .agg #[.int .i64 a0_0, .int .i64 a0_1, .int .i64 a0_2, .int .i64 a0_3, .slice A0_4 l0_4.length c0_4, .slice A0_5 l0_5.length c0_5, .slice A0_6 l0_6.length c0_6, .slice A0_7 l0_7.length c0_7, .slice A0_8 l0_8.length c0_8], .agg #[.int .i64 a1_0, .int .i64 a1_1, .int .i64 a1_2, .int .i64 a1_3, .int .i64 a1_4, .int .i64 a1_5, .int .i64 a1_6, .int .i64 a1_7], .tuple #[.slice Am ms.length cm, .int .i64 0], .slice Am ms.length cm, .int .i64 0, .int .i64 0, .bool false, undef, .func (.func 96) #[] #[.pointer (some ⟨g3, 0, none⟩), .pointer (some ⟨g4, 0, none⟩), .pointer (some ⟨g5, 0, none⟩)], .slice Am ms.length cm, .int .i64 ms.length, .pointer (some ⟨g4, 4, none⟩), .pointer (some ⟨g4, 6, none⟩), .int .i64 a1_6, .func (.func 117) #[] #[.pointer (some ⟨wB.heap.size, 0, none⟩), .pointer (some ⟨wB.heap.size + 1, 0, none⟩)], .int .i64 x, undef, undef, undef, undef, undef, undef, undef, undef], defers := [] }) (fun _ _ => ownFrom_pure (β := Unit) _ _) ?assign ?body ?done ?stop
 case hRx =>
  rintro y _ A C row ⟨p, hp, hs⟩ hg hr
  exact ⟨p, hp, Stands.own HB.out.size () A C row hs hg hr⟩
 case assign =>
  intro l x W K hx hB hK
  gi_wp2
  exact hK _ _ (Below.refl _ _) rfl
 case body =>
  rintro l x a' W hx hBW rfl
  obtain ⟨i0, hi0⟩ := List.getElem?_of_mem hx
  obtain ⟨px, bx, ht0, hpx, hsx⟩ := HTS.out.2 i0 x hi0
  have hall : ∀ i : Nat, (downL ms.length a1_6)[i]? = some x → ts[i]? = some (px.1, bx) := fun i hi => by
   obtain ⟨p', b', h1, h2, h3⟩ := HTS.out.2 i x hi
   rw [hpx] at h2
   have h2 := Option.some.inj h2
   subst h2
   rw [hsx] at h3
   have h3 := Option.some.inj h3
   subst h3
   exact h1
  have HPx := m_ hpx
  have HSx := m_ hsx
  have HAL := m_ hall
  have HBW := m_ (a9_ HB.out hBW)
  have HS9 := m_ hBW.size
  have HBQ := m_ HB.out.size
  replace HXg3 := m_ (a1_ HXg3.out hBW)
  replace HXg4 := m_ (a1_ HXg4.out hBW)
  replace HXg5 := m_ (a1_ HXg5.out hBW)
  replace HXg6 := m_ (a1_ HXg6.out hBW)
  replace HXg7 := m_ (a1_ HXg7.out hBW)
  replace HXg10 := m_ (a1_ HXg10.out hBW)
  clear HB hBW hx ht0 hpx hsx hall hi0 HD1 HD2 HM HTS
  have HB := HBW
  clear HBW
  have cg10_0 : W.cell? ⟨g10, 0, none⟩ = some (.func (.func 96) #[] #[.pointer (some ⟨g3, 0, none⟩), .pointer (some ⟨g4, 0, none⟩), .pointer (some ⟨g5, 0, none⟩)]) := (a0_ HXg10.out 0).trans rfl
  cases bx with
  | true =>
   gi_wp2_with (first | ((try refine ⟨trivial, ?_⟩); gi_at_call 96; refine (CallsIn.inRound l (callsIn_wide.2 (try_calls ks a0_0 a0_1 a0_2 a0_3 A0_4 c0_4 l0_4 A0_5 c0_5 l0_5 A0_6 c0_6 l0_6 A0_7 c0_7 l0_7 A0_8 c0_8 l0_8 a1_0 a1_1 a1_2 a1_3 a1_4 a1_5 a1_6 a1_7 u x px _ g3 g4 g5 _ (Kd.C_below HR0_4.out (HB.out)) HC0_4.out (Kd.C_below HR0_5.out (HB.out)) HC0_5.out (Kd.C_below HR0_6.out (HB.out)) HC0_6.out (Kd.C_below HR0_7.out (HB.out)) HC0_7.out (Kd.C_below HR0_8.out (HB.out)) HC0_8.out HXg3.out HXg4.out HXg5.out HPx.out HSx.out))).mono ?_; rintro e wp ⟨vp, rfl, hrp, hbp⟩; obtain ⟨Ap, cp, rfl⟩ := Kd.R_slice hrp; have HBP := m_ hbp; have HRP := m_ hrp; clear cg10_0; replace HXg3 := m_ (a1_ HXg3.out hbp); replace HXg4 := m_ (a1_ HXg4.out hbp); replace HXg5 := m_ (a1_ HXg5.out hbp); replace HXg6 := m_ (a1_ HXg6.out hbp); replace HXg7 := m_ (a1_ HXg7.out hbp); replace HXg10 := m_ (a1_ HXg10.out hbp); replace HB := m_ (a9_ HB.out hbp); clear hbp hrp; have zg6 : wp.frozen? ⟨g6, 0, none⟩ = false := a2_ HXg6.out 0; have zg7 : wp.frozen? ⟨g7, 0, none⟩ = false := a2_ HXg7.out 0; have cg6_0 : wp.cell? ⟨g6, 0, none⟩ = some (.slice none 0 0) := (a0_ HXg6.out 0).trans rfl; have cg7_0 : wp.cell? ⟨g7, 0, none⟩ = some (.int .i64 0) := (a0_ HXg7.out 0).trans rfl; have n67 := Ng6_g7.out))
   have h6 : ((wp.setCell ⟨g6, 0, none⟩ (.slice Ap px.1.length cp)).setCell ⟨g7, 0, none⟩ (.int .i64 0)).heap[g6]? = some (.cells #[.slice Ap px.1.length cp] 39 (0, 0)) := c5_ (c8_ HXg6.out 0 _ rfl) n67 _
   have h7 : ((wp.setCell ⟨g6, 0, none⟩ (.slice Ap px.1.length cp)).setCell ⟨g7, 0, none⟩ (.int .i64 0)).heap[g7]? = some (.cells #[.int .i64 0] 32 (0, 0)) := c8_ (c5_ HXg7.out n67.symm _) 0 _ rfl
   have hr1 := Kd.R_grown2 HRP.out rfl (grown_set (j := 0) (v := .slice Ap px.1.length cp) (d4_ wp (some g6))) (fun k hk => by injection hk with hk; subst hk; exact Kd.R_ne HRP.out HXg6.out (by decide))
   have hx7 : (wp.setCell ⟨g6, 0, none⟩ (.slice Ap px.1.length cp)).heap[g7]? = some (.cells #[.int .i64 0] 32 (0, 0)) := c5_ HXg7.out n67.symm _
   have hr2 := Kd.R_grown2 hr1 rfl (grown_set (j := 0) (v := .int .i64 0) (d4_ _ (some g7))) (fun k hk => by injection hk with hk; subst hk; exact Kd.R_ne hr1 hx7 (by decide))
   refine ⟨(keepsFrom_below HBP.out).trans (((KeepsOthers.setCell _ _ _).trans (KeepsOthers.setCell _ _ _)).from _), px, HAL.out, _, h6, h7, Kd.R_lower hr2 ?_, b5_ (b5_ HB.out Gg6) Gg7⟩
   have h2 := HS9.out
   have h6 := HBQ.out
   omega
  | false =>
   gi_wp2_with (first | ((try refine ⟨trivial, ?_⟩); gi_at_call 96; refine (CallsIn.inRound l (callsIn_wide.2 (try_calls ks a0_0 a0_1 a0_2 a0_3 A0_4 c0_4 l0_4 A0_5 c0_5 l0_5 A0_6 c0_6 l0_6 A0_7 c0_7 l0_7 A0_8 c0_8 l0_8 a1_0 a1_1 a1_2 a1_3 a1_4 a1_5 a1_6 a1_7 u x px _ g3 g4 g5 _ (Kd.C_below HR0_4.out (HB.out)) HC0_4.out (Kd.C_below HR0_5.out (HB.out)) HC0_5.out (Kd.C_below HR0_6.out (HB.out)) HC0_6.out (Kd.C_below HR0_7.out (HB.out)) HC0_7.out (Kd.C_below HR0_8.out (HB.out)) HC0_8.out HXg3.out HXg4.out HXg5.out HPx.out HSx.out))).mono ?_; rintro e wp ⟨vp, rfl, hrp, hbp⟩; obtain ⟨Ap, cp, rfl⟩ := Kd.R_slice hrp; have HBP := m_ hbp; have HRP := m_ hrp; clear cg10_0; replace HXg3 := m_ (a1_ HXg3.out hbp); replace HXg4 := m_ (a1_ HXg4.out hbp); replace HXg5 := m_ (a1_ HXg5.out hbp); replace HXg6 := m_ (a1_ HXg6.out hbp); replace HXg7 := m_ (a1_ HXg7.out hbp); replace HXg10 := m_ (a1_ HXg10.out hbp); replace HB := m_ (a9_ HB.out hbp); clear hbp hrp; have zg6 : wp.frozen? ⟨g6, 0, none⟩ = false := a2_ HXg6.out 0; have zg7 : wp.frozen? ⟨g7, 0, none⟩ = false := a2_ HXg7.out 0; have cg6_0 : wp.cell? ⟨g6, 0, none⟩ = some (.slice none 0 0) := (a0_ HXg6.out 0).trans rfl; have cg7_0 : wp.cell? ⟨g7, 0, none⟩ = some (.int .i64 0) := (a0_ HXg7.out 0).trans rfl; have n67 := Ng6_g7.out))
   exact ⟨HBP.out, fun i hi => ⟨_, HAL.out i hi⟩⟩
 case done =>
  intro D W hD hf hBW hK
  have hrr : rr = ([], 5) := by
   rw [HRR.out]
   have : ts.find? (fun x => x.2) = none := List.find?_eq_none.2 fun x hx => by
    obtain ⟨i, hi⟩ := List.getElem?_of_mem hx
    have hil : i < (downL ms.length a1_6).length := by
     rw [← HTS.out.1]; exact (List.getElem?_eq_some_iff.1 hi).1
    obtain ⟨p, hp⟩ := hf _ (List.getElem_mem hil) i (List.getElem?_eq_getElem hil)
    rw [hi] at hp
    rw [Option.some.inj hp]; simp
   unfold fillR; rw [this]
  subst hrr
  replace HXg6 := m_ (a1_ HXg6.out hBW)
  replace HXg7 := m_ (a1_ HXg7.out hBW)
  have HBW := m_ (a9_ HB.out hBW)
  have HD := m_ hD
  have HK := m_ hK
  have HW9 := m_ HB.out.size
  clear HXg3 HXg4 HXg5 HXg10 HB hBW hK hD hf HD1 HD2 HTS HRR
  have z6 : W.frozen? ⟨g6, 0, none⟩ = false := a2_ HXg6.out 0
  have z7 : W.frozen? ⟨g7, 0, none⟩ = false := a2_ HXg7.out 0
  have c6 : W.cell? ⟨g6, 0, none⟩ = some (.slice none 0 0) := (a0_ HXg6.out 0).trans rfl
  have c7 : W.cell? ⟨g7, 0, none⟩ = some (.int .i64 0) := (a0_ HXg7.out 0).trans rfl
  have n67 := Ng6_g7.out
  go_wp2
  have h6 : ((W.setCell ⟨g6, 0, none⟩ (.slice none 0 0)).setCell ⟨g7, 0, none⟩ (.int .i64 5)).heap[g6]? = some (.cells #[.slice none 0 0] 39 (0, 0)) := c5_ (c8_ HXg6.out 0 _ rfl) n67 _
  have h7 : ((W.setCell ⟨g6, 0, none⟩ (.slice none 0 0)).setCell ⟨g7, 0, none⟩ (.int .i64 5)).heap[g7]? = some (.cells #[.int .i64 5] 32 (0, 0)) := c8_ (c5_ HXg7.out n67.symm _) 0 _ rfl
  have hk := ((KeepsOthers.setCell W ⟨g6, 0, none⟩ (.slice none 0 0)).trans (KeepsOthers.setCell _ ⟨g7, 0, none⟩ (.int .i64 5))).same D _ HK.out rfl
  have hs : Stands w g6 g7 ([], 5) ((W.setCell ⟨g6, 0, none⟩ (.slice none 0 0)).setCell ⟨g7, 0, none⟩ (.int .i64 5)) := ⟨_, h6, h7, Kd.R_nil _ _ _ _ _, b5_ (b5_ HBW.out Gg6) Gg7⟩
  obtain ⟨v, k4, k5, kr, kb⟩ := hs.mark (by have := HD.out; have := HW9.out; omega) hk
  exact marks_ret1 hk (results58 rfl rfl k4 k5) ⟨v, rfl, kr, kb⟩
 case stop =>
  intro D k x W hD hx hf ⟨p, hp, hs⟩ hK
  have hrr : rr = (p.1, 0) := by
   rw [HRR.out]
   have : ts.find? (fun x => x.2) = some (p.1, true) := by
    rw [List.find?_eq_some_iff_getElem]
    obtain ⟨hk, he⟩ := List.getElem?_eq_some_iff.1 (hp k hx)
    refine ⟨rfl, k, hk, he, fun j hj => ?_⟩
    have hjl : j < (downL ms.length a1_6).length := by rw [← HTS.out.1]; omega
    obtain ⟨q, hq⟩ := hf (downL ms.length a1_6)[j] (List.mem_take_iff_getElem.2 ⟨j, by omega, rfl⟩) j (List.getElem?_eq_getElem hjl)
    rw [List.getElem?_eq_getElem (by omega)] at hq
    rw [Option.some.inj hq]; simp
   unfold fillR; rw [this]
  subst hrr
  have hw := HB.out.size
  obtain ⟨v, k4, k5, kr, kb⟩ := hs.mark (by omega) hK
  exact marks_ret1 hK (results58 rfl rfl k4 k5) ⟨v, rfl, kr, kb⟩
theorem elastic_Fill.calls (k : Nat) (a0_0 a0_1 a0_2 a0_3 : Int) (A0_4 : Option Addr) (c0_4 : Nat) (l0_4 : List (S51)) (A0_5 : Option Addr) (c0_5 : Nat) (l0_5 : List (S24)) (A0_6 : Option Addr) (c0_6 : Nat) (l0_6 : List (S41)) (A0_7 : Option Addr) (c0_7 : Nat) (l0_7 : List (S105)) (A0_8 : Option Addr) (c0_8 : Nat) (l0_8 : List (S149)) (a1_0 a1_1 a1_2 a1_3 a1_4 a1_5 a1_6 a1_7 a2 : Int) (r1 : List (S52)) (r2 : Int) (w : World) (hr0_4 : Kd.C k51 w A0_4 l0_4.length l0_4) (hc0_4 : l0_4.length ≤ c0_4) (hr0_5 : Kd.C k24 w A0_5 l0_5.length l0_5) (hc0_5 : l0_5.length ≤ c0_5) (hr0_6 : Kd.C k41 w A0_6 l0_6.length l0_6) (hc0_6 : l0_6.length ≤ c0_6) (hr0_7 : Kd.C k105 w A0_7 l0_7.length l0_7) (hc0_7 : l0_7.length ≤ c0_7) (hr0_8 : Kd.C k149 w A0_8 l0_8.length l0_8) (hc0_8 : l0_8.length ≤ c0_8) (h : elastic_Fill.f k a0_0 a0_1 a0_2 a0_3 l0_4 l0_5 l0_6 l0_7 l0_8 a1_0 a1_1 a1_2 a1_3 a1_4 a1_5 a1_6 a1_7 a2 = some (r1, r2)) :
  Calls Try.prog 58 #[.agg #[.int .i64 a0_0, .int .i64 a0_1, .int .i64 a0_2, .int .i64 a0_3, .slice A0_4 l0_4.length c0_4, .slice A0_5 l0_5.length c0_5, .slice A0_6 l0_6.length c0_6, .slice A0_7 l0_7.length c0_7, .slice A0_8 l0_8.length c0_8], .agg #[.int .i64 a1_0, .int .i64 a1_1, .int .i64 a1_2, .int .i64 a1_3, .int .i64 a1_4, .int .i64 a1_5, .int .i64 a1_6, .int .i64 a1_7], .int .i64 a2] w fun e w' => ∃ v0_ : Value, e = .returned (.tuple #[v0_, .int .i64 r2]) ∧ Kd.R k52 52 w' w.heap.size (fun _ => True) v0_ r1 ∧ Below w.heap.size w w' := by
 unfold elastic_Fill.f at h
 obtain ⟨⟨ms, e0⟩, hM, h⟩ := Option.bind_eq_some_iff.1 h
 simp only at h
 by_cases he : e0 = 0
 ·rw [if_pos he] at h
  subst he
  by_cases hb : -1000000 ≤ a1_6 ∧ a1_6 ≤ 1000000 ∧ ms.length ≤ 1000000
  ·rw [if_pos hb] at h
   obtain ⟨ts, hts, h⟩ := Option.bind_eq_some_iff.1 h
   have h := Option.some.inj h
   have := fill_yes k a0_0 a0_1 a0_2 a0_3 A0_4 c0_4 l0_4 A0_5 c0_5 l0_5 A0_6 c0_6 l0_6 A0_7 c0_7 l0_7 A0_8 c0_8 l0_8 a1_0 a1_1 a1_2 a1_3 a1_4 a1_5 a1_6 a1_7 a2 ms ts _ w hr0_4 hc0_4 hr0_5 hc0_5 hr0_6 hc0_6 hr0_7 hc0_7 hr0_8 hc0_8 hM ⟨⟨hb.1, hb.2.1⟩, hb.2.2⟩ hts rfl
   rw [h] at this
   exact this
  ·rw [if_neg hb] at h; cases h
 ·rw [if_neg he] at h
  have h := Option.some.inj h
  injection h with h1 h2
  subst h1 h2
  exact fill_no a0_0 a0_1 a0_2 a0_3 A0_4 c0_4 l0_4 A0_5 c0_5 l0_5 A0_6 c0_6 l0_6 A0_7 c0_7 l0_7 A0_8 c0_8 l0_8 a1_0 a1_1 a1_2 a1_3 a1_4 a1_5 a1_6 a1_7 a2 ms e0 w hr0_4 hc0_4 hr0_5 hc0_5 hr0_6 hc0_6 hr0_7 hc0_7 hr0_8 hc0_8 hM he
end Go.Proofs.Ytckhjehibjdjdaa.P
namespace Go.Proofs.Ytckhjehibjdjdaa.P
open Go.RowKit Go.Shelf Go.Proofs.YtckhjehibjdjdaaW.PrintWords Go.Proofs.YtckhjehibjdjdaaW.PrintLast Go.Proofs.YtckhjehibjdjdaaW.PrintMore
attribute [local go_sem] Oper.semAt_some
def elastic_Grow.f (k : Nat) (a0_0 a0_1 a0_2 a0_3 : Int) (l0_4 : List (S51)) (l0_5 : List (S24)) (l0_6 : List (S41)) (l0_7 : List (S105)) (l0_8 : List (S149)) (a1_0 a1_1 a1_2 : Int) (a1_3 : Bool) (l1_4 : List (S52)) (a2_0 a2_1 a2_2 a2_3 a2_4 a2_5 a2_6 a2_7 : Int) : Option (Int × Int × Int × Int × Int) := (elastic_left.f a0_0 a0_1 a0_2 a0_3 l0_4 l0_5 l0_6 l0_7 l0_8 a2_0 a2_1 a2_2 a2_3 a2_4 a2_5 a2_6 a2_7).bind fun bt752 => (if bt752.2.2 = 0 then (if (l1_4.length : Int) ≥ a2_7 then (some (0, 0, 0, 0, 2)) else ((elastic_can.f k a0_0 a0_1 a0_2 a0_3 l0_4 l0_5 l0_6 l0_7 l0_8 a2_4 a2_5 a2_6 a2_7 1 bt752.1 bt752.2.1).bind fun t756 => (if t756 = 0 then ((pack_Place.f l0_4 a2_4 a2_5 a2_6 a2_7 1).bind fun bt757 => ((elastic_safe.f k a0_0 a0_1 a0_2 a0_3 l0_4 l0_5 l0_6 l0_7 l0_8 a2_0 a2_1 a1_2 false bt757.1).bind fun t761 => (if t761 = true then (if 0 < (bt757.1.length : Int) then (some ((a5_ bt757.1 0).f0.f0, (a5_ bt757.1 0).f0.f1, (a5_ bt757.1 0).f1, (a5_ bt757.1 0).f2, 0)) else (none)) else (some (0, 0, 0, 0, 5))))) else (some (0, 0, 0, 0, t756))))) else (some (0, 0, 0, 0, bt752.2.2)))
set_option maxHeartbeats 8000000 in
set_option maxRecDepth 100000 in
theorem elastic_Grow.calls (k : Nat) (a0_0 a0_1 a0_2 a0_3 : Int) (A0_4 : Option Addr) (c0_4 : Nat) (l0_4 : List (S51)) (A0_5 : Option Addr) (c0_5 : Nat) (l0_5 : List (S24)) (A0_6 : Option Addr) (c0_6 : Nat) (l0_6 : List (S41)) (A0_7 : Option Addr) (c0_7 : Nat) (l0_7 : List (S105)) (A0_8 : Option Addr) (c0_8 : Nat) (l0_8 : List (S149)) (a1_0 a1_1 a1_2 : Int) (a1_3 : Bool) (A1_4 : Option Addr) (c1_4 : Nat) (l1_4 : List (S52)) (a2_0 a2_1 a2_2 a2_3 a2_4 a2_5 a2_6 a2_7 r1 r2 r3 r4 r5 : Int) (w : World) (hr0_4 : Kd.C k51 w A0_4 l0_4.length l0_4) (hc0_4 : l0_4.length ≤ c0_4) (hr0_5 : Kd.C k24 w A0_5 l0_5.length l0_5) (hc0_5 : l0_5.length ≤ c0_5) (hr0_6 : Kd.C k41 w A0_6 l0_6.length l0_6) (hc0_6 : l0_6.length ≤ c0_6) (hr0_7 : Kd.C k105 w A0_7 l0_7.length l0_7) (hc0_7 : l0_7.length ≤ c0_7) (hr0_8 : Kd.C k149 w A0_8 l0_8.length l0_8) (hc0_8 : l0_8.length ≤ c0_8) (hr1_4 : Kd.C k52 w A1_4 l1_4.length l1_4) (hc1_4 : l1_4.length ≤ c1_4) (h : elastic_Grow.f k a0_0 a0_1 a0_2 a0_3 l0_4 l0_5 l0_6 l0_7 l0_8 a1_0 a1_1 a1_2 a1_3 l1_4 a2_0 a2_1 a2_2 a2_3 a2_4 a2_5 a2_6 a2_7 = some (r1, r2, r3, r4, r5)) :
  Calls Try.prog 59 #[.agg #[.int .i64 a0_0, .int .i64 a0_1, .int .i64 a0_2, .int .i64 a0_3, .slice A0_4 l0_4.length c0_4, .slice A0_5 l0_5.length c0_5, .slice A0_6 l0_6.length c0_6, .slice A0_7 l0_7.length c0_7, .slice A0_8 l0_8.length c0_8], .agg #[.int .i64 a1_0, .int .i64 a1_1, .int .i64 a1_2, .bool a1_3, .slice A1_4 l1_4.length c1_4], .agg #[.int .i64 a2_0, .int .i64 a2_1, .int .i64 a2_2, .int .i64 a2_3, .int .i64 a2_4, .int .i64 a2_5, .int .i64 a2_6, .int .i64 a2_7]] w fun e w' => e = .returned (.tuple #[.agg #[.int .i64 r1, .int .i64 r2, .int .u64 r3, .int .i64 r4], .int .i64 r5]) ∧ Below w.heap.size w w' := by
 have hu86 := Try.underlying86
 have hu41 := Try.underlying41
 have hu88 := Try.underlying88
 have hu52 := Try.underlying52
 have hu24 := Try.underlying24
 have hu27 := Try.underlying27
 have HR0_4 := m_ hr0_4
 have HC0_4 := m_ hc0_4
 clear hr0_4 hc0_4
 have HR0_5 := m_ hr0_5
 have HC0_5 := m_ hc0_5
 clear hr0_5 hc0_5
 have HR0_6 := m_ hr0_6
 have HC0_6 := m_ hc0_6
 clear hr0_6 hc0_6
 have HR0_7 := m_ hr0_7
 have HC0_7 := m_ hc0_7
 clear hr0_7 hc0_7
 have HR0_8 := m_ hr0_8
 have HC0_8 := m_ hc0_8
 clear hr0_8 hc0_8
 have HR1 := m_ hr1_4
 have HC1 := m_ hc1_4
 have HB := m_ (Below.refl w.heap.size w)
 unfold elastic_Grow.f at h
 obtain ⟨⟨lg, lc, le⟩, hL, h⟩ := Option.bind_eq_some_iff.1 h
 have HL := m_ hL
 have H := m_ h
 clear h hL hr1_4 hc1_4
 go_enter Try.func59, Try.ntmps59
 go_upto_region 2 with (first | ((with_reducible refine a3_ (N := 3) rfl ?_); refine bx 3 #[.int .i64 a0_0, .int .i64 a0_1, .int .i64 a0_2, .int .i64 a0_3, .slice A0_4 l0_4.length c0_4, .slice A0_5 l0_5.length c0_5, .slice A0_6 l0_6.length c0_6, .slice A0_7 l0_7.length c0_7, .slice A0_8 l0_8.length c0_8] 86 ?_; intro g1 hgg1 wg1 hxg1 hbg1; have Gg1 : w.heap.size ≤ g1 := Z7; replace HB := m_ (a9_ HB.out hbg1); have HXg1 := m_ hxg1; clear hgg1 hxg1 hbg1) | ((with_reducible refine a3_ (N := 4) rfl ?_); refine bx 4 #[.int .i64 a1_0, .int .i64 a1_1, .int .i64 a1_2, .bool a1_3, .slice A1_4 l1_4.length c1_4] 41 ?_; intro g2 hgg2 wg2 hxg2 hbg2; have Ng1_g2 := m_ (show g1 ≠ g2 from by have := c4_ HXg1.out; omega); replace HXg1 := m_ (a1_ HXg1.out hbg2); have Gg2 : w.heap.size ≤ g2 := Z7; replace HB := m_ (a9_ HB.out hbg2); have HXg2 := m_ hxg2; clear hgg2 hxg2 hbg2) | ((with_reducible refine a3_ (N := 5) rfl ?_); refine bx 5 #[.int .i64 a2_0, .int .i64 a2_1, .int .i64 a2_2, .int .i64 a2_3, .int .i64 a2_4, .int .i64 a2_5, .int .i64 a2_6, .int .i64 a2_7] 88 ?_; intro g3 hgg3 wg3 hxg3 hbg3; have Ng1_g3 := m_ (show g1 ≠ g3 from by have := c4_ HXg1.out; omega); have Ng2_g3 := m_ (show g2 ≠ g3 from by have := c4_ HXg2.out; omega); replace HXg1 := m_ (a1_ HXg1.out hbg3); replace HXg2 := m_ (a1_ HXg2.out hbg3); have Gg3 : w.heap.size ≤ g3 := Z7; replace HB := m_ (a9_ HB.out hbg3); have HXg3 := m_ hxg3; clear hgg3 hxg3 hbg3) | ((with_reducible refine a3_ (N := 6) rfl ?_); refine bx 6 #[.int .i64 0, .int .i64 0, .int .u64 0, .int .i64 0] 52 ?_; intro g4 hgg4 wg4 hxg4 hbg4; have Ng1_g4 := m_ (show g1 ≠ g4 from by have := c4_ HXg1.out; omega); have Ng2_g4 := m_ (show g2 ≠ g4 from by have := c4_ HXg2.out; omega); have Ng3_g4 := m_ (show g3 ≠ g4 from by have := c4_ HXg3.out; omega); replace HXg1 := m_ (a1_ HXg1.out hbg4); replace HXg2 := m_ (a1_ HXg2.out hbg4); replace HXg3 := m_ (a1_ HXg3.out hbg4); have Gg4 : w.heap.size ≤ g4 := Z7; replace HB := m_ (a9_ HB.out hbg4); have HXg4 := m_ hxg4; clear hgg4 hxg4 hbg4; obtain ⟨cg1_0, cg1_1, cg1_2, cg1_3, cg1_4, cg1_5, cg1_6, cg1_7, cg1_8⟩ := cz9_ HXg1; obtain ⟨cg3_0, cg3_1, cg3_2, cg3_3, cg3_4, cg3_5, cg3_6, cg3_7⟩ := cz8_ HXg3) | (go_at_call 93; refine (elastic_left.calls a0_0 a0_1 a0_2 a0_3 A0_4 c0_4 l0_4 A0_5 c0_5 l0_5 A0_6 c0_6 l0_6 A0_7 c0_7 l0_7 A0_8 c0_8 l0_8 a2_0 a2_1 a2_2 a2_3 a2_4 a2_5 a2_6 a2_7 lg lc le _ (Kd.C_below HR0_4.out HB.out) HC0_4.out (Kd.C_below HR0_5.out HB.out) HC0_5.out (Kd.C_below HR0_6.out HB.out) HC0_6.out (Kd.C_below HR0_7.out HB.out) HC0_7.out (Kd.C_below HR0_8.out HB.out) HC0_8.out HL.out).mono ?_; rintro e w1 ⟨rfl, hb⟩; clear cg1_0 cg1_1 cg1_2 cg1_3 cg1_4 cg1_5 cg1_6 cg1_7 cg1_8 cg3_0 cg3_1 cg3_2 cg3_3 cg3_4 cg3_5 cg3_6 cg3_7; replace HXg1 := m_ (a1_ HXg1.out hb); replace HXg2 := m_ (a1_ HXg2.out hb); replace HXg3 := m_ (a1_ HXg3.out hb); replace HXg4 := m_ (a1_ HXg4.out hb); replace HB := m_ (a9_ HB.out hb); clear hb))
 have hag1 := b8_ HXg1.out (.cells #[.int .i64 lg, .int .i64 lc] 24)
 have hag2 := b8_ HXg2.out (.cells #[.int .i64 lg, .int .i64 lc] 24)
 have hag3 := b8_ HXg3.out (.cells #[.int .i64 lg, .int .i64 lc] 24)
 have hag4 := b8_ HXg4.out (.cells #[.int .i64 lg, .int .i64 lc] 24)
 have haN := blk_new w1 (.cells #[.int .i64 lg, .int .i64 lc] 24)
 have haB := b4_ HB.out (.cells #[.int .i64 lg, .int .i64 lc] 24)
 obtain ⟨g5, hg5⟩ : ∃ g, g = w1.heap.size := ⟨_, rfl⟩
 rw [← hg5] at haN ⊢
 clear HB hg5 HXg1 HXg2 HXg3 HXg4
 generalize w1.alloc (.cells #[.int .i64 lg, .int .i64 lc] 24) = w2 at *
 have HXg1 := m_ hag1
 have HXg2 := m_ hag2
 have HXg3 := m_ hag3
 have HXg4 := m_ hag4
 have HXg5 := m_ haN
 have HB := m_ haB
 clear haN haB hag1 hag2 hag3 hag4
 have hh := H.out
 clear H
 by_cases he : le = 0
 case neg =>
  rw [if_neg he] at hh
  obtain ⟨rfl, rfl, rfl, rfl, rfl⟩ : (0 : Int) = r1 ∧ (0 : Int) = r2 ∧ (0 : Int) = r3 ∧ (0 : Int) = r4 ∧ le = r5 := by simpa using hh
  clear hh
  have t0 : (le != 0) = true := bne_iff_ne.2 he
  clear he
  obtain ⟨cg4_0, cg4_1, cg4_2, cg4_3, zg4_0, zg4_1, zg4_2, zg4_3⟩ := bz4_ HXg4
  go_wp2
  refine bodyPost_ret (results_ct rfl _ _ g4 52 #[.int .i64 0, .int .i64 0, .int .u64 0, .int .i64 0] (0, 0) _ rfl (c8_ (c8_ (c8_ (c8_ HXg4.out 0 _ rfl) 1 _ rfl) 2 _ rfl) 3 _ rfl) Try.underlying52 rfl (by kernel_rfl)) rfl ?_
  exact ⟨rfl, b5_ (b5_ (b5_ (b5_ HB.out Gg4) Gg4) Gg4) Gg4⟩
 subst he
 rw [if_pos rfl] at hh
 obtain ⟨cg1_0, cg1_1, cg1_2, cg1_3, cg1_4, cg1_5, cg1_6, cg1_7, cg1_8⟩ := cz9_ HXg1
 obtain ⟨cg2_0, cg2_1, cg2_2, cg2_3, cg2_4⟩ := cz5_ HXg2
 obtain ⟨cg3_0, cg3_1, cg3_2, cg3_3, cg3_4, cg3_5, cg3_6, cg3_7⟩ := cz8_ HXg3
 obtain ⟨cg4_0, cg4_1, cg4_2, cg4_3⟩ := cz4_ HXg4
 obtain ⟨cg5_0, cg5_1⟩ := cz2_ HXg5
 by_cases hm : (l1_4.length : Int) ≥ a2_7
 ·rw [if_pos hm] at hh
  obtain ⟨rfl, rfl, rfl, rfl, rfl⟩ : (0 : Int) = r1 ∧ (0 : Int) = r2 ∧ (0 : Int) = r3 ∧ (0 : Int) = r4 ∧ (2 : Int) = r5 := by simpa using hh
  clear hh
  have t0 : decide ((l1_4.length : Int) ≥ a2_7) = true := decide_eq_true hm
  clear hm
  have zg4_0 : w2.frozen? ⟨g4, 0, none⟩ = false := a2_ HXg4.out 0
  have zg4_1 : w2.frozen? ⟨g4, 1, none⟩ = false := a2_ HXg4.out 1
  have zg4_2 : w2.frozen? ⟨g4, 2, none⟩ = false := a2_ HXg4.out 2
  have zg4_3 : w2.frozen? ⟨g4, 3, none⟩ = false := a2_ HXg4.out 3
  go_wp2
  refine bodyPost_ret (results_ct rfl _ _ g4 52 #[.int .i64 0, .int .i64 0, .int .u64 0, .int .i64 0] (0, 0) _ rfl (c8_ (c8_ (c8_ (c8_ HXg4.out 0 _ rfl) 1 _ rfl) 2 _ rfl) 3 _ rfl) Try.underlying52 rfl (by kernel_rfl)) rfl ?_
  exact ⟨rfl, b5_ (b5_ (b5_ (b5_ HB.out Gg4) Gg4) Gg4) Gg4⟩
 rw [if_neg hm] at hh
 have t0 : decide ((l1_4.length : Int) ≥ a2_7) = false := decide_eq_false hm
 clear hm
 obtain ⟨t, hT, hh⟩ := Option.bind_eq_some_iff.1 hh
 have HT := m_ hT
 clear hT
 have H := m_ hh
 clear hh
 go_upto_region 7 with (first | (go_at_call 94; refine (elastic_can.calls k a0_0 a0_1 a0_2 a0_3 A0_4 c0_4 l0_4 A0_5 c0_5 l0_5 A0_6 c0_6 l0_6 A0_7 c0_7 l0_7 A0_8 c0_8 l0_8 a2_4 a2_5 a2_6 a2_7 1 lg lc t _ (Kd.C_below HR0_4.out HB.out) HC0_4.out (Kd.C_below HR0_5.out HB.out) HC0_5.out (Kd.C_below HR0_6.out HB.out) HC0_6.out (Kd.C_below HR0_7.out HB.out) HC0_7.out (Kd.C_below HR0_8.out HB.out) HC0_8.out HT.out).mono ?_; rintro e w3 ⟨rfl, hb⟩; clear cg1_0 cg1_1 cg1_2 cg1_3 cg1_4 cg1_5 cg1_6 cg1_7 cg1_8 cg2_0 cg2_1 cg2_2 cg2_3 cg2_4 cg3_0 cg3_1 cg3_2 cg3_3 cg3_4 cg3_5 cg3_6 cg3_7 cg4_0 cg4_1 cg4_2 cg4_3 cg5_0 cg5_1; replace HXg1 := m_ (a1_ HXg1.out hb); replace HXg2 := m_ (a1_ HXg2.out hb); replace HXg3 := m_ (a1_ HXg3.out hb); replace HXg4 := m_ (a1_ HXg4.out hb); replace HXg5 := m_ (a1_ HXg5.out hb); replace HB := m_ (a9_ HB.out hb); clear hb))
 clear t0 HT
 have hh := H.out
 clear H
 by_cases ht : t = 0
 case neg =>
  rw [if_neg ht] at hh
  obtain ⟨rfl, rfl, rfl, rfl, rfl⟩ : (0 : Int) = r1 ∧ (0 : Int) = r2 ∧ (0 : Int) = r3 ∧ (0 : Int) = r4 ∧ t = r5 := by simpa using hh
  clear hh
  have t0 : (t != 0) = true := bne_iff_ne.2 ht
  clear ht
  obtain ⟨cg4_0, cg4_1, cg4_2, cg4_3, zg4_0, zg4_1, zg4_2, zg4_3⟩ := bz4_ HXg4
  go_wp2
  refine bodyPost_ret (results_ct rfl _ _ g4 52 #[.int .i64 0, .int .i64 0, .int .u64 0, .int .i64 0] (0, 0) _ rfl (c8_ (c8_ (c8_ (c8_ HXg4.out 0 _ rfl) 1 _ rfl) 2 _ rfl) 3 _ rfl) Try.underlying52 rfl (by kernel_rfl)) rfl ?_
  exact ⟨rfl, b5_ (b5_ (b5_ (b5_ HB.out Gg4) Gg4) Gg4) Gg4⟩
 subst ht
 rw [if_pos rfl] at hh
 obtain ⟨⟨p, pe⟩, hT, hh⟩ := Option.bind_eq_some_iff.1 hh
 have HT := m_ hT
 clear hT
 obtain ⟨b, hU, hh⟩ := Option.bind_eq_some_iff.1 hh
 have HU := m_ hU
 clear hU
 have H := m_ hh
 clear hh
 obtain ⟨cg1_0, cg1_1, cg1_2, cg1_3, cg1_4, cg1_5, cg1_6, cg1_7, cg1_8⟩ := cz9_ HXg1
 obtain ⟨cg2_0, cg2_1, cg2_2, cg2_3, cg2_4⟩ := cz5_ HXg2
 obtain ⟨cg3_0, cg3_1, cg3_2, cg3_3, cg3_4, cg3_5, cg3_6, cg3_7⟩ := cz8_ HXg3
 obtain ⟨cg4_0, cg4_1, cg4_2, cg4_3⟩ := cz4_ HXg4
 obtain ⟨cg5_0, cg5_1⟩ := cz2_ HXg5
 go_upto_region 10 with (first | (go_at_call 46; refine (pack_Place.calls _ _ l0_4 a2_4 a2_5 a2_6 a2_7 1 p pe _ (Kd.C_below HR0_4.out HB.out) HC0_4.out HT.out).mono ?_; rintro e w4 ⟨vp, rfl, hrp, hb⟩; obtain ⟨Ap, cp, hvp⟩ := Kd.R_slice hrp; subst hvp; have HS := m_ (Kd.R_reads' hrp).2.2; have HSL := m_ (Kd.R_reads' hrp).2.1; clear cg1_0 cg1_1 cg1_2 cg1_3 cg1_4 cg1_5 cg1_6 cg1_7 cg1_8 cg2_0 cg2_1 cg2_2 cg2_3 cg2_4 cg3_0 cg3_1 cg3_2 cg3_3 cg3_4 cg3_5 cg3_6 cg3_7 cg4_0 cg4_1 cg4_2 cg4_3 cg5_0 cg5_1; replace HXg1 := m_ (a1_ HXg1.out hb); replace HXg2 := m_ (a1_ HXg2.out hb); replace HXg3 := m_ (a1_ HXg3.out hb); replace HXg4 := m_ (a1_ HXg4.out hb); replace HXg5 := m_ (a1_ HXg5.out hb); replace HB := m_ (a9_ HB.out hb); clear hb hrp))
 obtain ⟨cg1_0, cg1_1, cg1_2, cg1_3, cg1_4, cg1_5, cg1_6, cg1_7, cg1_8⟩ := cz9_ HXg1
 obtain ⟨cg2_0, cg2_1, cg2_2, cg2_3, cg2_4⟩ := cz5_ HXg2
 obtain ⟨cg3_0, cg3_1, cg3_2, cg3_3, cg3_4, cg3_5, cg3_6, cg3_7⟩ := cz8_ HXg3
 obtain ⟨cg4_0, cg4_1, cg4_2, cg4_3⟩ := cz4_ HXg4
 obtain ⟨cg5_0, cg5_1⟩ := cz2_ HXg5
 cases b with
 | false =>
  go_upto_region 11 with (first | (go_at_call 97; refine (elastic_safe.calls k a0_0 a0_1 a0_2 a0_3 A0_4 c0_4 l0_4 A0_5 c0_5 l0_5 A0_6 c0_6 l0_6 A0_7 c0_7 l0_7 A0_8 c0_8 l0_8 a2_0 a2_1 a1_2 false _ _ p false _ (Kd.C_below HR0_4.out HB.out) HC0_4.out (Kd.C_below HR0_5.out HB.out) HC0_5.out (Kd.C_below HR0_6.out HB.out) HC0_6.out (Kd.C_below HR0_7.out HB.out) HC0_7.out (Kd.C_below HR0_8.out HB.out) HC0_8.out HS.out HSL.out HU.out).mono ?_; rintro e w5 ⟨rfl, hb⟩; clear cg1_0 cg1_1 cg1_2 cg1_3 cg1_4 cg1_5 cg1_6 cg1_7 cg1_8 cg2_0 cg2_1 cg2_2 cg2_3 cg2_4 cg3_0 cg3_1 cg3_2 cg3_3 cg3_4 cg3_5 cg3_6 cg3_7 cg4_0 cg4_1 cg4_2 cg4_3 cg5_0 cg5_1; replace HXg1 := m_ (a1_ HXg1.out hb); replace HXg2 := m_ (a1_ HXg2.out hb); replace HXg3 := m_ (a1_ HXg3.out hb); replace HXg4 := m_ (a1_ HXg4.out hb); replace HXg5 := m_ (a1_ HXg5.out hb); replace HB := m_ (a9_ HB.out hb); replace HS := m_ (Kd.C_below HS.out hb); clear hb))
  have hh := H.out
  clear H
  rw [if_neg (by decide)] at hh
  obtain ⟨rfl, rfl, rfl, rfl, rfl⟩ : (0 : Int) = r1 ∧ (0 : Int) = r2 ∧ (0 : Int) = r3 ∧ (0 : Int) = r4 ∧ (5 : Int) = r5 := by simpa using hh
  clear hh
  obtain ⟨cg4_0, cg4_1, cg4_2, cg4_3, zg4_0, zg4_1, zg4_2, zg4_3⟩ := bz4_ HXg4
  go_wp2
  refine bodyPost_ret (results_ct rfl _ _ g4 52 #[.int .i64 0, .int .i64 0, .int .u64 0, .int .i64 0] (0, 0) _ rfl (c8_ (c8_ (c8_ (c8_ HXg4.out 0 _ rfl) 1 _ rfl) 2 _ rfl) 3 _ rfl) Try.underlying52 rfl (by kernel_rfl)) rfl ?_
  exact ⟨rfl, b5_ (b5_ (b5_ (b5_ HB.out Gg4) Gg4) Gg4) Gg4⟩
 | true =>
  go_upto_region 12 with (first | (go_at_call 97; refine (elastic_safe.calls k a0_0 a0_1 a0_2 a0_3 A0_4 c0_4 l0_4 A0_5 c0_5 l0_5 A0_6 c0_6 l0_6 A0_7 c0_7 l0_7 A0_8 c0_8 l0_8 a2_0 a2_1 a1_2 false _ _ p true _ (Kd.C_below HR0_4.out HB.out) HC0_4.out (Kd.C_below HR0_5.out HB.out) HC0_5.out (Kd.C_below HR0_6.out HB.out) HC0_6.out (Kd.C_below HR0_7.out HB.out) HC0_7.out (Kd.C_below HR0_8.out HB.out) HC0_8.out HS.out HSL.out HU.out).mono ?_; rintro e w5 ⟨rfl, hb⟩; clear cg1_0 cg1_1 cg1_2 cg1_3 cg1_4 cg1_5 cg1_6 cg1_7 cg1_8 cg2_0 cg2_1 cg2_2 cg2_3 cg2_4 cg3_0 cg3_1 cg3_2 cg3_3 cg3_4 cg3_5 cg3_6 cg3_7 cg4_0 cg4_1 cg4_2 cg4_3 cg5_0 cg5_1; replace HXg1 := m_ (a1_ HXg1.out hb); replace HXg2 := m_ (a1_ HXg2.out hb); replace HXg3 := m_ (a1_ HXg3.out hb); replace HXg4 := m_ (a1_ HXg4.out hb); replace HXg5 := m_ (a1_ HXg5.out hb); replace HB := m_ (a9_ HB.out hb); replace HS := m_ (Kd.C_below HS.out hb); clear hb))
  have hh := H.out
  clear H
  first | rw [if_pos rfl] at hh | rw [if_pos trivial] at hh
  by_cases hp : 0 < (p.length : Int)
  case neg => rw [if_neg hp] at hh; cases hh
  rw [if_pos hp] at hh
  obtain ⟨rfl, rfl, rfl, rfl, rfl⟩ : (a5_ p 0).f0.f0 = r1 ∧ (a5_ p 0).f0.f1 = r2 ∧ (a5_ p 0).f1 = r3 ∧ (a5_ p 0).f2 = r4 ∧ (0 : Int) = r5 := by simpa using hh
  clear hh
  obtain ⟨ad, hea, y0, y1, y2, y3⟩ := at_T52 HS.out 0 (by decide) hp
  subst hea
  replace y0 : w5.cell? ad = some (.int .i64 (a5_ p 0).f0.f0) := y0
  replace y1 : w5.cell? ⟨ad.block, ad.off + 1, none⟩ = some (.int .i64 (a5_ p 0).f0.f1) := y1
  replace y2 : w5.cell? ⟨ad.block, ad.off + 2, none⟩ = some (.int .u64 (a5_ p 0).f1) := y2
  replace y3 : w5.cell? ⟨ad.block, ad.off + 3, none⟩ = some (.int .i64 (a5_ p 0).f2) := y3
  have hp2 : (0 < p.length) = True := eq_true (by omega)
  clear hp
  obtain ⟨cg4_0, cg4_1, cg4_2, cg4_3, zg4_0, zg4_1, zg4_2, zg4_3⟩ := bz4_ HXg4
  go_wp2
  refine bodyPost_ret (results_ct rfl _ _ g4 52 #[.int .i64 (a5_ p 0).f0.f0, .int .i64 (a5_ p 0).f0.f1, .int .u64 (a5_ p 0).f1, .int .i64 (a5_ p 0).f2] (0, 0) _ rfl (c8_ (c8_ (c8_ (c8_ HXg4.out 0 _ rfl) 1 _ rfl) 2 _ rfl) 3 _ rfl) Try.underlying52 rfl (by kernel_rfl)) rfl ?_
  exact ⟨rfl, b5_ (b5_ (b5_ (b5_ HB.out Gg4) Gg4) Gg4) Gg4⟩
end Go.Proofs.Ytckhjehibjdjdaa.P
namespace Go.Proofs.Ytckhjehibjdjdaa.P
open Go.RowKit Go.Proofs.YtckhjehibjdjdaaW.PrintWords Go.Proofs.YtckhjehibjdjdaaW.PrintLast Go.Proofs.YtckhjehibjdjdaaW.PrintMore
attribute [local go_sem] max2_int min2_int max_two min_two max_three min_three max_four min_four
theorem eqA48 (d : Nat) (w : World) (x0 y0 x1 y1 : Int) :
  (Op.equalIn (d + 2) 48 (.agg #[.int .i64 x0, .int .i64 x1]) (.agg #[.int .i64 y0, .int .i64 y1])).run Try.prog w = .ok (x0 == y0 && (x1 == y1)) w := by
 refine eqA_of Try.underlying48 (by kernel_rfl) ?_
 refine eqf_cons (by rfl) (by go_simp; rfl) (by go_simp; rfl) (by go_simp) ?_
 exact eqf_last (by rfl) (by go_simp; rfl) (by go_simp; rfl) (by go_simp)
theorem eqA52 (d : Nat) (w : World) (x0 y0 x1 y1 x2 y2 x3 y3 : Int) :
  (Op.equalIn (d + 3) 52 (.agg #[.int .i64 x0, .int .i64 x1, .int .u64 x2, .int .i64 x3]) (.agg #[.int .i64 y0, .int .i64 y1, .int .u64 y2, .int .i64 y3])).run Try.prog w = .ok ((x0 == y0 && (x1 == y1)) && (x2 == y2 && (x3 == y3))) w := by
 refine eqA_of Try.underlying52 (by kernel_rfl) ?_
 refine eqf_cons (by rfl) (by go_simp) (by go_simp) (eqA48 (d + 0) w _ _ _ _) ?_
 refine eqf_cons (by rfl) (by go_simp; rfl) (by go_simp; rfl) (by go_simp) ?_
 exact eqf_last (by rfl) (by go_simp; rfl) (by go_simp; rfl) (by go_simp)
end Go.Proofs.Ytckhjehibjdjdaa.P
namespace Go.Proofs.Ytckhjehibjdjdaa.P
open Go.RowKit Go.Proofs.YtckhjehibjdjdaaW.PrintWords Go.Proofs.YtckhjehibjdjdaaW.PrintLast Go.Proofs.YtckhjehibjdjdaaW.PrintMore
attribute [local go_sem] max2_int min2_int max_two min_two max_three min_three max_four min_four
attribute [local go_sem high] eqA52
def ensembleref05_Same.l0 : Nat → List (S52) → List (S52) → Int → Option (Bool)
 | 0, _, _, _ => none
 | k + 1, x0, x1, x5 => if x5 < (x0.length : Int) then (if 0 ≤ x5 then (if x5 < (x1.length : Int) then (if ((!(((a5_ x0 x5).f0.f0) == ((a5_ x1 x5).f0.f0)) || (!(((a5_ x0 x5).f0.f1) == ((a5_ x1 x5).f0.f1)))) || (!(((a5_ x0 x5).f1) == ((a5_ x1 x5).f1)) || (!(((a5_ x0 x5).f2) == ((a5_ x1 x5).f2))))) = true then (some false) else (ensembleref05_Same.l0 k x0 x1 (wrap64 (x5 + 1)))) else (none)) else (none)) else (some true)
def ensembleref05_Same.f (k : Nat) (l0 l1 : List (S52)) : Option (Bool) := if (l0.length : Int) = (l1.length : Int) then (ensembleref05_Same.l0 k l0 l1 0) else (some false)
set_option maxHeartbeats 8000000 in
set_option maxRecDepth 100000 in
theorem ensembleref05_Same.calls (k : Nat) (A0 : Option Addr) (c0 : Nat) (l0 : List (S52)) (A1 : Option Addr) (c1 : Nat) (l1 : List (S52)) (r : Bool) (w : World) (hr0 : Kd.C k52 w A0 l0.length l0) (hc0 : l0.length ≤ c0) (hr1 : Kd.C k52 w A1 l1.length l1) (hc1 : l1.length ≤ c1) (h : ensembleref05_Same.f k l0 l1 = some r) :
  Calls Try.prog 48 #[.slice A0 l0.length c0, .slice A1 l1.length c1] w fun e w' => e = .returned (.bool r) ∧ Drawn0 w w' := by
 have hu52 := Try.underlying52
 have HR0 := m_ hr0
 have HC0 := m_ hc0
 clear hr0 hc0
 have HR1 := m_ hr1
 have HC1 := m_ hc1
 clear hr1 hc1
 have H := h
 unfold ensembleref05_Same.f at H
 clear h
 by_cases c3 : (l0.length : Int) = (l1.length : Int)
 ·rw [if_pos c3] at H
  have c3b0 : ((l0.length : Int) == (l1.length : Int)) = true := beq_iff_eq.mpr c3
  have c3b1 : ((l0.length : Int) != (l1.length : Int)) = false := bne_eq_false_iff_eq.mpr c3
  have c3b2 : (l0.length == l1.length) = true := by first | simpa using c3 | (simp at c3 ⊢; omega)
  clear c3
  have H' := m_ H
  clear H
  go_enter Try.func48, Try.ntmps48
  go_wp2
  repeat (go_quiet (fail); try go_wp2)
  go_loopg [5] k (fun kq v5 w' => ∃ (x5_1 : Int), v5 = .int .i64 x5_1 ∧ A_ (ensembleref05_Same.l0 kq l0 l1 x5_1 = some r) ∧ A_ (kq ≤ k) ∧ Drawn0 w w')
  case atStart => exact ⟨(0), Z2, H', ⟨Nat.le_refl _⟩, by repeat (first | exact Drawn0.refl _ | apply Drawn0.step)⟩
  case round =>
   clear H'
   try clear c1
   try clear p2
   try clear c3
   try clear c3b0
   try clear c3b1
   try clear c3b2
   obtain ⟨x5_1, rfl, HA, HK1, ⟨m1, rfl⟩⟩ := hrel
   cases gk with
   | zero => exact absurd HA.out (by simp [ensembleref05_Same.l0])
   | succ k1 =>
    have H := HA.out
    clear HA
    simp only [ensembleref05_Same.l0] at H
    by_cases c4 : x5_1 < (l0.length : Int)
    ·rw [if_pos c4] at H
     have c4b0 : decide (x5_1 < (l0.length : Int)) = true := decide_eq_true c4
     clear c4
     by_cases c5 : 0 ≤ x5_1
     ·rw [if_pos c5] at H
      have c5b0 : decide (0 ≤ x5_1) = true := decide_eq_true c5
      clear c5
      by_cases c6 : x5_1 < (l1.length : Int)
      ·rw [if_pos c6] at H
       have c6b0 : decide (x5_1 < (l1.length : Int)) = true := decide_eq_true c6
       clear c6
       by_cases c7 : ((!(((a5_ l0 x5_1).f0.f0) == ((a5_ l1 x5_1).f0.f0)) || (!(((a5_ l0 x5_1).f0.f1) == ((a5_ l1 x5_1).f0.f1)))) || (!(((a5_ l0 x5_1).f1) == ((a5_ l1 x5_1).f1)) || (!(((a5_ l0 x5_1).f2) == ((a5_ l1 x5_1).f2))))) = true
       ·rw [if_pos c7] at H
        have c7b0 : ((!(((a5_ l0 x5_1).f0.f0) == ((a5_ l1 x5_1).f0.f0)) || (!(((a5_ l0 x5_1).f0.f1) == ((a5_ l1 x5_1).f0.f1)))) || (!(((a5_ l0 x5_1).f1) == ((a5_ l1 x5_1).f1)) || (!(((a5_ l0 x5_1).f2) == ((a5_ l1 x5_1).f2))))) = true := c7
        clear c7
        obtain rfl := Option.some.inj H
        have p500 : 0 ≤ (x5_1 : Int) := of_decide_eq_true Z1
        have q500 : x5_1 < (l0.length : Int) := of_decide_eq_true Z1
        obtain ⟨ad500, e500, hx500_0, hx500_1, hx500_2, hx500_3⟩ := at_T52 HR0.out x5_1 p500 q500
        cases e500
        replace p500 := eq_true p500
        replace q500 := eq_true q500
        have p501 : 0 ≤ (x5_1 : Int) := of_decide_eq_true Z1
        have q501 : x5_1 < (l1.length : Int) := of_decide_eq_true Z1
        obtain ⟨ad501, e501, hx501_0, hx501_1, hx501_2, hx501_3⟩ := at_T52 HR1.out x5_1 p501 q501
        cases e501
        replace p501 := eq_true p501
        replace q501 := eq_true q501
        go_wp2
        repeat (go_quiet (fail); try go_wp2)
        go_ret
        exact ⟨by first | rfl | (simp; done) | (simp [*]; done), by repeat (first | exact Drawn0.refl _ | apply Drawn0.step)⟩
       ·rw [if_neg c7] at H
        have c7b0 : ((!(((a5_ l0 x5_1).f0.f0) == ((a5_ l1 x5_1).f0.f0)) || (!(((a5_ l0 x5_1).f0.f1) == ((a5_ l1 x5_1).f0.f1)))) || (!(((a5_ l0 x5_1).f1) == ((a5_ l1 x5_1).f1)) || (!(((a5_ l0 x5_1).f2) == ((a5_ l1 x5_1).f2))))) = false := by simpa using c7
        clear c7
        have H' := m_ H
        clear H
        have p500 : 0 ≤ (x5_1 : Int) := of_decide_eq_true Z1
        have q500 : x5_1 < (l0.length : Int) := of_decide_eq_true Z1
        obtain ⟨ad500, e500, hx500_0, hx500_1, hx500_2, hx500_3⟩ := at_T52 HR0.out x5_1 p500 q500
        cases e500
        replace p500 := eq_true p500
        replace q500 := eq_true q500
        have p501 : 0 ≤ (x5_1 : Int) := of_decide_eq_true Z1
        have q501 : x5_1 < (l1.length : Int) := of_decide_eq_true Z1
        obtain ⟨ad501, e501, hx501_0, hx501_1, hx501_2, hx501_3⟩ := at_T52 HR1.out x5_1 p501 q501
        cases e501
        replace p501 := eq_true p501
        replace q501 := eq_true q501
        go_wp2
        repeat (go_quiet (fail); try go_wp2)
        go_roundg k1
        case measure => have := HK1.out; omega
        case rel => exact ⟨(wrap64 (x5_1 + 1)), Z2, H', ⟨by have := HK1.out; omega⟩, by repeat (first | exact Drawn0.refl _ | apply Drawn0.step)⟩
      ·rw [if_neg c6] at H
       exact absurd H (by simp)
     ·rw [if_neg c5] at H
      exact absurd H (by simp)
    ·rw [if_neg c4] at H
     have c4b0 : decide (x5_1 < (l0.length : Int)) = false := decide_eq_false c4
     clear c4
     obtain rfl := Option.some.inj H
     go_wp2
     repeat (go_quiet (fail); try go_wp2)
     go_ret
     exact ⟨by first | rfl | (simp; done) | (simp [*]; done), by repeat (first | exact Drawn0.refl _ | apply Drawn0.step)⟩
 ·rw [if_neg c3] at H
  have c3b0 : ((l0.length : Int) == (l1.length : Int)) = false := beq_eq_false_iff_ne.mpr c3
  have c3b1 : ((l0.length : Int) != (l1.length : Int)) = true := bne_iff_ne.mpr c3
  have c3b2 : (l0.length == l1.length) = false := by first | simpa using c3 | (simp at c3 ⊢; omega)
  obtain rfl := Option.some.inj H
  go_enter Try.func48, Try.ntmps48
  go_wp2
  repeat (go_quiet (fail); try go_wp2)
  go_ret
  exact ⟨by first | rfl | (simp; done) | (simp [*]; done), by repeat (first | exact Drawn0.refl _ | apply Drawn0.step)⟩
end Go.Proofs.Ytckhjehibjdjdaa.P
namespace Go.Proofs.Ytckhjehibjdjdaa.P
open Go.RowKit Go.Proofs.YtckhjehibjdjdaaW.PrintWords Go.Proofs.YtckhjehibjdjdaaW.PrintLast Go.Proofs.YtckhjehibjdjdaaW.PrintMore
theorem set51 {W : World} {base n cap g : Nat} {i : Int} {xs : List S51} (h : Kd.R k51 51 W base (fun _ => True) (.slice (some ⟨g, 0, none⟩) n cap) xs) (h0 : 0 ≤ i) (h1 : i < n) :
  (W.cell? ⟨g, i.toNat * 4, none⟩ = some (.int .i64 (a4_ xs i).f0.f0) ∧ W.cell? ⟨g, i.toNat * 4 + 1, none⟩ = some (.int .i64 (a4_ xs i).f0.f1) ∧ W.cell? ⟨g, i.toNat * 4 + 2, none⟩ = some (.int .u64 (a4_ xs i).f1) ∧ W.cell? ⟨g, i.toNat * 4 + 3, none⟩ = some (.int .i64 (a4_ xs i).f2)) ∧ (W.frozen? ⟨g, i.toNat * 4 + 2, none⟩ = false ∧ W.frozen? ⟨g, i.toNat * 4 + 3, none⟩ = false) ∧
  (∀ v, Kd.R k51 51 (W.setCell ⟨g, i.toNat * 4 + 2, none⟩ (.int .u64 v)) base (fun _ => True) (.slice (some ⟨g, 0, none⟩) n cap) (xs.set i.toNat ⟨⟨(a4_ xs i).f0.f0, (a4_ xs i).f0.f1⟩, v, (a4_ xs i).f2⟩)) ∧
  (∀ v, Kd.R k51 51 (W.setCell ⟨g, i.toNat * 4 + 3, none⟩ (.int .i64 v)) base (fun _ => True) (.slice (some ⟨g, 0, none⟩) n cap) (xs.set i.toNat ⟨⟨(a4_ xs i).f0.f0, (a4_ xs i).f0.f1⟩, (a4_ xs i).f1, v⟩)) := by
 obtain ⟨c, hcl, hM, hcc, hfr⟩ := Kd.R_elem h z51 i h0 h1
 obtain rfl := k51_openM hM
 have hsz : k51.sz = 4 := rfl
 rw [hsz] at hcc hfr
 refine ⟨⟨by have := hcc 0 _ rfl; rwa [Nat.add_zero] at this, hcc 1 _ rfl, hcc 2 _ rfl, hcc 3 _ rfl⟩, ⟨hfr 2, hfr 3⟩, fun v => ?_, fun v => ?_⟩
 ·have := (Kd.R_seg h i h0 h1 (seg := [.int .u64 v]) (j := 2) hcl (by rw [hsz]; exact hcc) (show 3 ≤ 4 from by decide) (x' := ⟨⟨(a4_ xs i).f0.f0, (a4_ xs i).f0.f1⟩, v, (a4_ xs i).f2⟩) (k51_mkM _ _ _ _) (fun _ hk => hk)).1
  rw [hsz] at this
  exact this
 ·have := (Kd.R_seg h i h0 h1 (seg := [.int .i64 v]) (j := 3) hcl (by rw [hsz]; exact hcc) (show 4 ≤ 4 from by decide) (x' := ⟨⟨(a4_ xs i).f0.f0, (a4_ xs i).f0.f1⟩, (a4_ xs i).f1, v⟩) (k51_mkM _ _ _ _) (fun _ hk => hk)).1
  rw [hsz] at this
  exact this
end Go.Proofs.Ytckhjehibjdjdaa.P
namespace Go.Proofs.Ytckhjehibjdjdaa.P
open Go.RowKit Go.Proofs.YtckhjehibjdjdaaW.PrintWords Go.Proofs.YtckhjehibjdjdaaW.PrintLast Go.Proofs.YtckhjehibjdjdaaW.PrintMore
attribute [local go_sem] max2_int min2_int max_two min_two max_three min_three max_four min_four
attribute [local go_sem high] eqA48
def ensembleref05_find.l0 : Nat → List (S51) → Int → Int → Int → Option (Int)
 | 0, _, _, _, _ => none
 | k + 1, x0, x5, x119000, x119001 => if x5 < (x0.length : Int) then (if 0 ≤ x5 then (if (((a4_ x0 x5).f0.f0) == x119000 && (((a4_ x0 x5).f0.f1) == x119001)) = true then (some x5) else (ensembleref05_find.l0 k x0 (wrap64 (x5 + 1)) x119000 x119001)) else (none)) else (some (-1))
def ensembleref05_find.f (k : Nat) (l0 : List (S51)) (a1_0 a1_1 : Int) : Option (Int) := ensembleref05_find.l0 k l0 0 a1_0 a1_1
set_option maxHeartbeats 8000000 in
set_option maxRecDepth 100000 in
theorem ensembleref05_find.calls (k : Nat) (A0 : Option Addr) (c0 : Nat) (l0 : List (S51)) (a1_0 a1_1 r : Int) (w : World) (hr0 : Kd.C k51 w A0 l0.length l0) (hc0 : l0.length ≤ c0) (h : ensembleref05_find.f k l0 a1_0 a1_1 = some r) :
  Calls Try.prog 79 #[.slice A0 l0.length c0, .agg #[.int .i64 a1_0, .int .i64 a1_1]] w fun e w' => e = .returned (.int .i64 r) ∧ Below w.heap.size w w' := by
 have hu48 := Try.underlying48
 have HR0 := m_ hr0
 have HC0 := m_ hc0
 clear hr0 hc0
 have HB := m_ (Below.refl w.heap.size w)
 have H := h
 unfold ensembleref05_find.f at H
 clear h
 have H' := m_ H
 clear H
 go_enter Try.func79, Try.ntmps79
 go_wp2_with (first | ((with_reducible refine a3_ (N := 3) rfl ?_); refine bx 3 #[.int .i64 a1_0, .int .i64 a1_1] 48 ?_; intro gb118 hg w3 hbox hb; have BK118 := m_ (hbox); have GW118 := ge_ hg; have GE118 := ge_ hg; replace HB := hs_ hb; clear hb hbox hg))
 repeat (go_quiet (first | ((with_reducible refine a3_ (N := 3) rfl ?_); refine bx 3 #[.int .i64 a1_0, .int .i64 a1_1] 48 ?_; intro gb118 hg w3 hbox hb; have BK118 := m_ (hbox); have GW118 := ge_ hg; have GE118 := ge_ hg; replace HB := hs_ hb; clear hb hbox hg)); try go_wp2_with (first | ((with_reducible refine a3_ (N := 3) rfl ?_); refine bx 3 #[.int .i64 a1_0, .int .i64 a1_1] 48 ?_; intro gb118 hg w3 hbox hb; have BK118 := m_ (hbox); have GW118 := ge_ hg; have GE118 := ge_ hg; replace HB := hs_ hb; clear hb hbox hg)))
 go_loopg [5] k (fun kq v5 w' => ∃ (x5_1 : Int), v5 = .int .i64 x5_1 ∧ A_ (ensembleref05_find.l0 kq l0 x5_1 a1_0 a1_1 = some r) ∧ A_ (kq ≤ k) ∧ A_ (w'.heap[gb118]? = some (.cells #[.int .i64 a1_0, .int .i64 a1_1] 48 (0, 0))) ∧ A_ (Below w.heap.size w w'))
 case atStart => exact ⟨(0), Z2, H', ⟨Nat.le_refl _⟩, ⟨bo_ BK118⟩, ⟨hb_⟩⟩
 case round =>
  clear H'
  try clear p2
  obtain ⟨x5_1, rfl, HA, HK1, BK118, HB⟩ := hrel
  cases gk with
  | zero => exact absurd HA.out (by simp [ensembleref05_find.l0])
  | succ k1 =>
   have H := HA.out
   clear HA
   simp only [ensembleref05_find.l0] at H
   by_cases c4 : x5_1 < (l0.length : Int)
   ·rw [if_pos c4] at H
    have c4b0 : decide (x5_1 < (l0.length : Int)) = true := decide_eq_true c4
    clear c4
    by_cases c5 : 0 ≤ x5_1
    ·rw [if_pos c5] at H
     have c5b0 : decide (0 ≤ x5_1) = true := decide_eq_true c5
     clear c5
     by_cases c6 : (((a4_ l0 x5_1).f0.f0) == a1_0 && (((a4_ l0 x5_1).f0.f1) == a1_1)) = true
     ·rw [if_pos c6] at H
      have c6b0 : (((a4_ l0 x5_1).f0.f0) == a1_0 && (((a4_ l0 x5_1).f0.f1) == a1_1)) = true := c6
      (try (have c6b1 : decide (((a4_ l0 x5_1).f0.f0) = a1_0 && (((a4_ l0 x5_1).f0.f1) == a1_1)) = true := by simpa using c6))
      (try (have c6b2 : (((a4_ l0 x5_1).f0.f0) == a1_0 && (((a4_ l0 x5_1).f0.f1) == a1_1)) = true := by simpa using c6))
      clear c6
      obtain rfl := Option.some.inj H
      have p119 : 0 ≤ (x5_1 : Int) := of_decide_eq_true Z1
      have q119 : x5_1 < (l0.length : Int) := of_decide_eq_true Z1
      obtain ⟨ad119, e119, hx119_0, hx119_1, hx119_2, hx119_3⟩ := at_T51 (Kd.C_below HR0.out HB.out) x5_1 p119 q119
      cases e119
      replace p119 := eq_true p119
      replace q119 := eq_true q119
      obtain ⟨hcz7_0, hcz7_1, hfz7_0, hfz7_1⟩ := bz2_ BK118
      go_wp2
      repeat (go_quiet (fail); try go_wp2)
      go_ret
      exact ⟨by first | rfl | (simp [b1_, b0_] <;> rfl) | (simp [*, b1_, b0_] <;> rfl), hb_⟩
     ·rw [if_neg c6] at H
      have c6b0 : (((a4_ l0 x5_1).f0.f0) == a1_0 && (((a4_ l0 x5_1).f0.f1) == a1_1)) = false := by simpa using c6
      (try (have c6b1 : decide (((a4_ l0 x5_1).f0.f0) = a1_0 && (((a4_ l0 x5_1).f0.f1) == a1_1)) = false := by simpa using c6))
      (try (have c6b2 : (((a4_ l0 x5_1).f0.f0) == a1_0 && (((a4_ l0 x5_1).f0.f1) == a1_1)) = false := by simpa using c6))
      (try (have c6b3 : ¬ (((a4_ l0 x5_1).f0.f0) = a1_0 && (((a4_ l0 x5_1).f0.f1) == a1_1)) := by simpa using c6))
      clear c6
      have H' := m_ H
      clear H
      have p119 : 0 ≤ (x5_1 : Int) := of_decide_eq_true Z1
      have q119 : x5_1 < (l0.length : Int) := of_decide_eq_true Z1
      obtain ⟨ad119, e119, hx119_0, hx119_1, hx119_2, hx119_3⟩ := at_T51 (Kd.C_below HR0.out HB.out) x5_1 p119 q119
      cases e119
      replace p119 := eq_true p119
      replace q119 := eq_true q119
      obtain ⟨hcz8_0, hcz8_1, hfz8_0, hfz8_1⟩ := bz2_ BK118
      go_wp2
      repeat (go_quiet (fail); try go_wp2)
      go_roundg k1
      case measure => have := HK1.out; omega
      case rel => exact ⟨(wrap64 (x5_1 + 1)), Z2, H', ⟨by have := HK1.out; omega⟩, ⟨bo_ BK118⟩, ⟨hb_⟩⟩
    ·rw [if_neg c5] at H
     exact absurd H (by simp)
   ·rw [if_neg c4] at H
    have c4b0 : decide (x5_1 < (l0.length : Int)) = false := decide_eq_false c4
    clear c4
    obtain rfl := Option.some.inj H
    go_wp2
    repeat (go_quiet (fail); try go_wp2)
    go_ret
    exact ⟨by first | rfl | (simp [b1_, b0_] <;> rfl) | (simp [*, b1_, b0_] <;> rfl), hb_⟩
end Go.Proofs.Ytckhjehibjdjdaa.P
namespace Go.Proofs.Ytckhjehibjdjdaa.P
open Go.RowKit Go.Proofs.YtckhjehibjdjdaaW.PrintWords Go.Proofs.YtckhjehibjdjdaaW.PrintLast Go.Proofs.YtckhjehibjdjdaaW.PrintMore
attribute [local go_sem] max2_int min2_int max_two min_two max_three min_three max_four min_four
attribute [local go_sem] cellBx frozBx
def ensembleref05_More.l0 : Nat → List (S52) → List (S51) → Int → Option ((List (S51)) × Int)
 | 0, _, _, _ => none
 | k + 1, x1, x6, x7 => if x7 < (x1.length : Int) then (if 0 ≤ x7 then (if ((a5_ x1 x7).f2) < 0 then (some (([] : List (S51)), 1)) else ((ensembleref05_find.f k x6 ((a5_ x1 x7).f0.f0) ((a5_ x1 x7).f0.f1)).bind fun t189 => (if t189 < 0 then (some (([] : List (S51)), 3)) else (if 0 ≤ t189 then (if t189 < (x6.length : Int) then ((ensembleref05_masks.f k ((a5_ x1 x7).f1) ((a4_ x6 t189).f1)).bind fun t191 => (if t191 > 0 then (some (([] : List (S51)), 4)) else (if ((a5_ x1 x7).f2) > (wrap64 (1048576 - ((a4_ x6 t189).f2))) then (some (([] : List (S51)), 14)) else ((some (x6.set (t189 : Int).toNat (⟨(⟨(a4_ x6 t189).f0.f0, (a4_ x6 t189).f0.f1⟩ : S48), IntKind.u64.wrap (((a4_ x6 t189).f1) + ((a5_ x1 x7).f1)), (a4_ x6 t189).f2⟩ : S51) : List (S51))).bind fun y194 => (ensembleref05_More.l0 k x1 (y194.set (t189 : Int).toNat (⟨(⟨(a4_ y194 t189).f0.f0, (a4_ y194 t189).f0.f1⟩ : S48), (a4_ y194 t189).f1, wrap64 (((a4_ y194 t189).f2) + ((a5_ x1 x7).f2))⟩ : S51)) (wrap64 (x7 + 1))))))) else (none)) else (none))))) else (none)) else (some (x6, 0))
def ensembleref05_More.f (k : Nat) (l0 : List (S51)) (l1 : List (S52)) : Option ((List (S51)) × Int) := (some (([] : List (S51)) : List (S51))).bind fun y181 => (if y181.length + l0.length < 4398046511104 then (ensembleref05_More.l0 k l1 (y181 ++ l0) 0) else (none))
theorem ensembleref05_More.find {k n : Nat} {A : Option Addr} {c : Nat} {l : List S51} {a b r : Int} {w : World} (hl : A_ (l.length = n)) (hr : Kd.C k51 w A l.length l) (hc : l.length ≤ c) (h : A_ (ensembleref05_find.f k l a b = some r)) :
  Calls Try.prog 79 #[.slice A n c, .agg #[.int .i64 a, .int .i64 b]] w fun e w' => e = .returned (.int .i64 r) ∧ Below w.heap.size w w' := by
 obtain rfl := hl.out
 exact ensembleref05_find.calls k A c l a b r w hr hc h.out
set_option maxHeartbeats 8000000 in
set_option maxRecDepth 100000 in
theorem ensembleref05_More.calls (k : Nat) (A0 : Option Addr) (c0 : Nat) (l0 : List (S51)) (A1 : Option Addr) (c1 : Nat) (l1 : List (S52)) (r1 : List (S51)) (r2 : Int) (w : World) (hr0 : Kd.C k51 w A0 l0.length l0) (hc0 : l0.length ≤ c0) (hr1 : Kd.C k52 w A1 l1.length l1) (hc1 : l1.length ≤ c1) (h : ensembleref05_More.f k l0 l1 = some (r1, r2)) :
  Calls Try.prog 32 #[.slice A0 l0.length c0, .slice A1 l1.length c1] w fun e w' => ∃ v0_ : Value, e = .returned (.tuple #[v0_, .int .i64 r2]) ∧ Kd.R k51 51 w' w.heap.size (fun _ => True) v0_ r1 ∧ Below w.heap.size w w' := by
 have hu52 := Try.underlying52
 have hu51 := Try.underlying51
 have hu48 := Try.underlying48
 have : Be w w := ⟨Below.refl _ _⟩
 unfold ensembleref05_More.f at h
 rw [Option.bind_some] at h
 by_cases hn : ([] : List (S51)).length + l0.length < 4398046511104
 case neg => rw [if_neg hn] at h; cases h
 rw [if_pos hn, List.nil_append] at h
 have HN := m_ (show l0.length < 4398046511104 by simpa using hn)
 have HA0 := m_ h
 clear h hn
 go_enter Try.func32, Try.ntmps32
 go_wp2_with (first | ((with_reducible refine a3_ (N := 10) rfl ?_); refine Kd.R_lit k51 _ 51 ?hg (N := 10) ?hd (xs := ([] : List S51)) (inner := []) (ok := fun _ => True) (okp := fun _ => True) ?hr ?hp (fun _ hk => hk) trivial (Below.refl w.heap.size w) (Nat.le_refl _) (by simp) ?_; (case hd => rfl); (case hg => rfl); (case hr => first | (go_simp; done) | (go_simp; rfl)); (case hp => exact (Reps.none _ _)); intro v1 wl ho hb _ _; have := Bl.mk hb) | ((with_reducible refine gate_builtin (b := .append) (xs := #[.tmp 10, .tmp 11]) rfl ?_); at_builtin; refine Kd.R_append_rows k51 (w0 := w) w.heap.size rfl (.tmp 10) (.tmp 11) 22 51 (.agg #[.int .i64 0, .int .i64 0, .int .u64 0, .int .i64 0]) 32 rfl Try.underlying22 info51 rfl (by decide) (by omega) v1 [] l0 _ _ _ (fun _ => True) (fun _ => False) rfl rfl ?aO ?aR (fun _ _ h => h) (fun _ h => h.elim) ?aF ?aB ?aS ?aL ?_; (case aR => exact Kd.C_below hr0 hb); (case aB => exact hb); (case aF => exact (fun _ _ => trivial)); (case aO => exact ho); (case aS => exact hb.size); (case aL => have := HN.out; simp; omega); intro v wp ho2 hb2 _ _; rw [List.nil_append] at ho2; have := Bl.mk hb2; clear ho hb))
 obtain ⟨Av, cv, e3⟩ := Kd.R_slice ho2
 subst e3
 have HO := m_ ho2
 have be : Be w wp := inferInstance
 clear ho2
 go_loopg [7] k (fun kq v7 w' => ∃ (x6 : List (S51)) (x7 : Int), v7 = .int .i64 x7 ∧ A_ (ensembleref05_More.l0 kq l1 x6 x7 = some (r1, r2)) ∧ A_ (kq ≤ k) ∧ A_ (x6.length = l0.length) ∧ A_ (Kd.R k51 51 w' w.heap.size (fun _ => True) (.slice Av l0.length cv) x6) ∧ Be w w')
 case atStart => exact ⟨l0, 0, rfl, HA0, ⟨Nat.le_refl _⟩, ⟨rfl⟩, HO, be⟩
 case round =>
  clear HA0 HO be
  obtain ⟨x6, x7, rfl, HA, HK, HL, HO, be⟩ := hrel
  cases gk with
  | zero => exact absurd HA.out (by simp [ensembleref05_More.l0])
  | succ k1 =>
   have hh := HA.out
   clear HA
   rw [ensembleref05_More.l0] at hh
   by_cases c1 : x7 < (l1.length : Int)
   case neg =>
    rw [if_neg c1] at hh
    simp only [Option.some.injEq, Prod.mk.injEq] at hh
    obtain ⟨rfl, rfl⟩ := hh
    have q := decide_eq_false c1
    clear c1
    go_wp2
    go_ret2
    exact ⟨_, rfl, HO.out, Be.out⟩
   rw [if_pos c1] at hh
   by_cases c2 : 0 ≤ x7
   case neg => rw [if_neg c2] at hh; cases hh
   rw [if_pos c2] at hh
   obtain ⟨ad, hea, z0, z1, z2, z3⟩ := at_T52 (Kd.C_below hr1 be.out) x7 c2 c1
   subst hea
   generalize a5_ l1 x7 = s at *
   have c1' := decide_eq_true c1
   have c2' : (0 ≤ x7) = True := eq_true c2
   have c3' : (x7 < (l1.length : Int)) = True := eq_true c1
   by_cases c3 : s.f2 < 0
   case pos =>
    rw [if_pos c3] at hh
    simp only [Option.some.injEq, Prod.mk.injEq] at hh
    obtain ⟨rfl, rfl⟩ := hh
    have q := decide_eq_true c3
    clear c1 c2 c3
    go_wp2
    go_ret2
    exact ⟨_, rfl, Kd.R_nil _ _ _ _ _, Be.out⟩
   rw [if_neg c3] at hh
   have q3 := decide_eq_false c3
   replace hh := bindS hh
   obtain ⟨t, hF, hh⟩ := hh
   have HF := m_ hF
   have H := m_ hh
   clear c1 c2 c3 hF hh
   go_upto_region 6 with (fail)
   obtain ⟨g8, w8, _, _, _, e1, e2⟩ := nameA wr #[.int .i64 s.f0.f0, .int .i64 s.f0.f1, .int .u64 s.f1, .int .i64 s.f2] 52
   rw [e1, e2]
   clear e1 e2 z0 z1 z2 z3 c1' c2' c3'
   have HOr := HO
   replace HO := m_ (Kd.R_below HO.out (Bl.out (W' := w8)))
   go_upto_region 9 with (first | (go_at_call 79; refine (ensembleref05_More.find HL (Kd.R_reads' HO.out).2.2 (by have := (Kd.R_reads' HO.out).2.1; have := HL.out; omega) HF).mono ?_; rintro e wf ⟨rfl, hb⟩; have := Bl.mk hb; clear hb))
   replace HO := m_ (Kd.R_below HO.out (Bl.out (W' := wf)))
   have hh := H.out
   clear H HF q3
   by_cases c4 : t < 0
   case pos =>
    rw [if_pos c4] at hh
    simp only [Option.some.injEq, Prod.mk.injEq] at hh
    obtain ⟨rfl, rfl⟩ := hh
    have q := decide_eq_true c4
    clear c4
    go_wp2
    go_ret2
    exact ⟨_, rfl, Kd.R_nil _ _ _ _ _, Be.out⟩
   rw [if_neg c4, if_pos (by omega)] at hh
   have q4 := decide_eq_false c4
   by_cases c6 : t < (x6.length : Int)
   case neg => rw [if_neg c6] at hh; cases hh
   rw [if_pos c6] at hh
   have c7 : t < (l0.length : Int) := by have := HL.out; omega
   obtain ⟨gr, cap, ee, hg1, hgl, _⟩ := Kd.R_form HOr.out (by omega)
   injection ee with e1 e2 e3
   subst e1
   clear e2 e3
   have : Ge w gr := ⟨hg1⟩
   have HK8 : A_ (Nq g8 gr) := ⟨nqGt (W := wr) hgl⟩
   clear HOr hg1 hgl
   obtain ⟨⟨y0, y1, y2, y3⟩, _⟩ := set51 HO.out (show 0 ≤ t by omega) c7
   have k5 : (0 ≤ t) = True := eq_true (by omega)
   have k6 : (t < (l0.length : Int)) = True := eq_true c7
   replace hh := bindS hh
   obtain ⟨m, hM, hh⟩ := hh
   have HM := m_ hM
   clear hM
   have C5 := m_ (show 0 ≤ t from by omega)
   have C7 := m_ c7
   have H := m_ hh
   clear c4 c6 c7 hh
   go_upto_region 11 with (fail)
   clear q4
   replace y0 : wf.drew.cell? ⟨gr, t.toNat * 4, none⟩ = some (.int .i64 (a4_ x6 t).f0.f0) := y0
   replace y1 : wf.drew.cell? ⟨gr, t.toNat * 4 + 1, none⟩ = some (.int .i64 (a4_ x6 t).f0.f1) := y1
   replace y2 : wf.drew.cell? ⟨gr, t.toNat * 4 + 2, none⟩ = some (.int .u64 (a4_ x6 t).f1) := y2
   replace y3 : wf.drew.cell? ⟨gr, t.toNat * 4 + 3, none⟩ = some (.int .i64 (a4_ x6 t).f2) := y3
   go_region_held3 (fun w' => w'.cell? ⟨g8, 0, none⟩ = some (.int .i64 s.f0.f0) ∧ w'.cell? ⟨g8, 1, none⟩ = some (.int .i64 s.f0.f1) ∧ w'.cell? ⟨g8, 2, none⟩ = some (.int .u64 s.f1) ∧ w'.cell? ⟨g8, 3, none⟩ = some (.int .i64 s.f2) ∧ w'.cell? ⟨gr, t.toNat * 4 + 2, none⟩ = some (.int .u64 (a4_ x6 t).f1)) (((repeat' (refine And.intro ?_ ?_)) <;> first | exact (cellBx _).trans rfl | assumption | exact d9_ Bl.out (by assumption))) ((go_at_call 80; refine (ensembleref05_masks.calls _ _ _ _ _ HM.out).mono ?_; rintro e wm ⟨rfl, hb⟩; have := Bl.mk hb; clear hb))
   replace HO := m_ (Kd.R_below (Kd.R_drew HO.out) (Bl.out (W' := wm)))
   have hh := H.out
   clear H HM y0 y1 y2 y3
   by_cases c8 : m > 0
   case pos =>
    rw [if_pos c8] at hh
    simp only [Option.some.injEq, Prod.mk.injEq] at hh
    obtain ⟨rfl, rfl⟩ := hh
    go_wp2
    go_ret2
    exact ⟨_, rfl, Kd.R_nil _ _ _ _ _, Be.out⟩
   rw [if_neg c8] at hh
   have H := m_ hh
   clear hh
   have c5 := C5.out
   have c7 := C7.out
   obtain ⟨⟨y0, y1, y2, y3⟩, ⟨f2, f3⟩, s2, s3⟩ := set51 HO.out c5 c7
   have S2 := m_ s2
   clear s2 s3 c5 c7
   go_upto_region 13 with (fail)
   go_region
   clear c8
   have hh := H.out
   clear H
   by_cases c9 : s.f2 > wrap64 (1048576 - (a4_ x6 t).f2)
   case pos =>
    rw [if_pos c9] at hh
    simp only [Option.some.injEq, Prod.mk.injEq] at hh
    obtain ⟨rfl, rfl⟩ := hh
    go_wp2
    go_ret2
    exact ⟨_, rfl, Kd.R_nil _ _ _ _ _, Be.out⟩
   rw [if_neg c9, Option.bind_some] at hh
   generalize hy : x6.set (t : Int).toNat (⟨(⟨(a4_ x6 t).f0.f0, (a4_ x6 t).f0.f1⟩ : S48), IntKind.u64.wrap ((a4_ x6 t).f1 + s.f1), (a4_ x6 t).f2⟩ : S51) = y at hh
   have HO2 := m_ (hy ▸ S2.out (IntKind.u64.wrap ((a4_ x6 t).f1 + s.f1)))
   have HY := m_ (show y.length = l0.length ∧ (a4_ y t).f2 = (a4_ x6 t).f2 from by
    have c5 := C5.out
    have c7 := C7.out
    have hl := HL.out
    subst hy
    exact ⟨by rw [List.length_set, hl], by simp [a4_, List.getD_eq_getElem?_getD, List.getElem?_set_self (show t.toNat < x6.length by omega)]⟩)
   have H := m_ hh
   clear hh hy S2
   have := HK8.out
   go_wp2
   go_region
   go_wp2
   go_region
   go_wp2
   go_roundg k1
   case measure => have := HK.out; omega
   case rel =>
    have hs := (set51 HO2.out C5.out C7.out).2.2.2 (wrap64 ((a4_ x6 t).f2 + s.f2))
    exact ⟨_, _, rfl, ⟨by rw [← HY.out.2] ; exact H.out⟩, ⟨by have := HK.out; omega⟩, ⟨by rw [List.length_set]; exact HY.out.1⟩, ⟨hs⟩, inferInstance⟩
end Go.Proofs.Ytckhjehibjdjdaa.P
namespace Go.Proofs.Ytckhjehibjdjdaa.P
open Go.RowKit Go.Proofs.YtckhjehibjdjdaaW.PrintWords Go.Proofs.YtckhjehibjdjdaaW.PrintLast Go.Proofs.YtckhjehibjdjdaaW.PrintMore
attribute [local go_sem] max2_int min2_int max_two min_two max_three min_three max_four min_four
def ensembleref08_Units.l0 : Nat → List (S52) → Int → Int → Int → Option (Int × Int)
 | 0, _, _, _, _ => none
 | k + 1, x0, x4, x199000, x199001 => if x4 < (x0.length : Int) then (if 0 ≤ x4 then ((ensembleref01_Units.f k ((a5_ x0 x4).f1)).bind fun t200 => (ensembleref08_Units.l0 k x0 (wrap64 (x4 + 1)) (wrap64 (x199000 + (t200.length : Int))) (wrap64 (x199001 + ((a5_ x0 x4).f2))))) else (none)) else (some (x199000, x199001))
def ensembleref08_Units.f (k : Nat) (l0 : List (S52)) : Option (Int × Int) := ensembleref08_Units.l0 k l0 0 0 0
def ensembleref08_Units.T5 : Bool × List (List Nat × List Nat) := (true, [([], []), ([0], [0]), ([], []), ([], []), ([2, 3], [2, 3]), ([4], [4]), ([5], [5]), ([6], [6]), ([7], [7]), ([1, 8], [1, 8]), ([0, 1, 2, 3, 4, 5, 6, 7, 8, 9], []), ([10, 9, 7, 0, 1, 2, 3, 4, 5, 6, 7, 8, 9], [9, 10])])
def ensembleref08_Units.B5 : List Nat := [0, 1, 0, 0, 12, 28, 60, 124, 252, 511, 1023, 2047]
theorem ensembleref08_Units.tab5 : rtab .any (opsOf Try.f42 5) = ensembleref08_Units.T5 := by kernel_rfl
theorem ensembleref08_Units.bits5 : waitsOk ensembleref08_Units.T5.2 ensembleref08_Units.B5 = true := by kernel_rfl
def ensembleref08_Units.T6 : Bool × List (List Nat × List Nat) := (true, [([], []), ([0], [0]), ([], []), ([], []), ([2, 3], [2, 3]), ([4], [4]), ([5], [5]), ([1, 6], [1, 6]), ([0, 1, 2, 3, 4, 5, 6, 7], []), ([8, 7, 0, 1, 2, 3, 4, 5, 6, 7], [7, 8])])
def ensembleref08_Units.B6 : List Nat := [0, 1, 0, 0, 12, 28, 60, 127, 255, 511]
theorem ensembleref08_Units.tab6 : rtab .any (opsOf Try.f42 6) = ensembleref08_Units.T6 := by kernel_rfl
theorem ensembleref08_Units.bits6 : waitsOk ensembleref08_Units.T6.2 ensembleref08_Units.B6 = true := by kernel_rfl
set_option maxHeartbeats 8000000 in
set_option maxRecDepth 100000 in
theorem ensembleref08_Units.calls (k : Nat) (A0 : Option Addr) (c0 : Nat) (l0 : List (S52)) (r1 r2 : Int) (w : World) (hr0 : Kd.C k52 w A0 l0.length l0) (hc0 : l0.length ≤ c0) (h : ensembleref08_Units.f k l0 = some (r1, r2)) :
  Calls Try.prog 42 #[.slice A0 l0.length c0] w fun e w' => e = .returned (.agg #[.int .i64 r1, .int .i64 r2]) ∧ Below w.heap.size w w' := by
 have hu24 := Try.underlying24
 have HR0 := m_ hr0
 have HC0 := m_ hc0
 clear hr0 hc0
 have HB := m_ (Below.refl w.heap.size w)
 have H := h
 unfold ensembleref08_Units.f at H
 clear h
 have H' := m_ H
 clear H
 go_enter Try.func42, Try.ntmps42
 go_wp2_with (first | ((with_reducible refine a3_ (N := 2) rfl ?_); refine bx 2 #[.int .i64 0, .int .i64 0] 24 ?_; intro gb197 hg w2 hbox hb; have BK197 := m_ (hbox); have GW197 := ge_ hg; have GE197 := ge_ hg; replace HB := hs_ hb; clear hb hbox hg) | ((with_reducible refine a3_ (N := 3) rfl ?_); refine bx 3 #[.int .i64 0, .int .i64 0] 24 ?_; intro gb198 hg w3 hbox hb; have BK198 := m_ (hbox); have GW198 := ge_ hg; have GE198 := ge_ hg; have NB197_198 := nl_ BK197 hg; have NB198_197 := nr_ BK197 hg; replace BK197 := bk_ BK197 hb; replace HB := hs_ hb; clear hb hbox hg; have hnb4 := NB198_197.out; have hnc4 := NB197_198.out; obtain ⟨hcz5_0, hcz5_1, hfz5_0, hfz5_1⟩ := bz2_ BK198))
 go_loopg [4] k (fun kq v4 w' => ∃ (x4_1 : Int) (x199000_1 : Int) (x199001_1 : Int), v4 = .int .i64 x4_1 ∧ A_ (ensembleref08_Units.l0 kq l0 x4_1 x199000_1 x199001_1 = some (r1, r2)) ∧ A_ (kq ≤ k) ∧ A_ (w'.heap[gb197]? = some (.cells #[.int .i64 0, .int .i64 0] 24 (0, 0))) ∧ A_ (w'.heap[gb198]? = some (.cells #[.int .i64 x199000_1, .int .i64 x199001_1] 24 (0, 0))) ∧ A_ (Below w.heap.size w w'))
 case atStart => exact ⟨(0), (0), (0), Z2, H', ⟨Nat.le_refl _⟩, ⟨bs_⟩, ⟨bs_⟩, ⟨hb_⟩⟩
 case round =>
  clear H'
  try clear p2
  try clear c4
  try clear hcz5_0 hcz5_1 hfz5_0 hfz5_1
  obtain ⟨x4_1, x199000_1, x199001_1, rfl, HA, HK1, BK197, BK198, HB⟩ := hrel
  cases gk with
  | zero => exact absurd HA.out (by simp [ensembleref08_Units.l0])
  | succ k1 =>
   have H := HA.out
   clear HA
   simp only [ensembleref08_Units.l0] at H
   by_cases c6 : x4_1 < (l0.length : Int)
   ·rw [if_pos c6] at H
    have c6b0 : decide (x4_1 < (l0.length : Int)) = true := decide_eq_true c6
    clear c6
    by_cases c7 : 0 ≤ x4_1
    ·rw [if_pos c7] at H
     have c7b0 : decide (0 ≤ x4_1) = true := decide_eq_true c7
     clear c7
     replace H := Option.bind_eq_some_iff.mp H
     obtain ⟨t200, A80, H⟩ := H
     try dsimp only at H
     have A8 := m_ A80
     clear A80
     have H' := m_ H
     clear H
     try go_wp2
     replace BK197 := m_ (d5_ BK197.out)
     replace BK198 := m_ (d5_ BK198.out)
     replace HB := m_ (b7_ HB.out)
     have p199 : 0 ≤ (x4_1 : Int) := of_decide_eq_true Z1
     have q199 : x4_1 < (l0.length : Int) := of_decide_eq_true Z1
     obtain ⟨ad199, e199, hx199_0, hx199_1, hx199_2, hx199_3⟩ := at_T52 HR0.out x4_1 p199 q199
     have hw199_3 := hx199_3
     have hw199_2 := hx199_2
     have hw199_1 := hx199_1
     have hw199_0 := hx199_0
     cases e199
     replace hx199_0 := cx_ hx199_0
     replace hx199_1 := cx_ hx199_1
     replace hx199_2 := cx_ hx199_2
     replace hx199_3 := cx_ hx199_3
     replace p199 := eq_true p199
     replace q199 := eq_true q199
     refine start_ (n := 12) (S := fun w' => w'.cell? ⟨gb198, 0, none⟩ = some (.int .i64 x199000_1) ∧ w'.cell? ⟨gb198, 1, none⟩ = some (.int .i64 x199001_1) ∧ w'.cell? (ad199.add ((x4_1).toNat * 4)) = some (.int .i64 ((a5_ l0 x4_1).f0.f0)) ∧ w'.cell? ⟨(ad199.add ((x4_1).toNat * 4)).block, (ad199.add ((x4_1).toNat * 4)).off + 1, none⟩ = some (.int .i64 ((a5_ l0 x4_1).f0.f1)) ∧ w'.cell? ⟨(ad199.add ((x4_1).toNat * 4)).block, (ad199.add ((x4_1).toNat * 4)).off + 2, none⟩ = some (.int .u64 ((a5_ l0 x4_1).f1)) ∧ w'.cell? ⟨(ad199.add ((x4_1).toNat * 4)).block, (ad199.add ((x4_1).toNat * 4)).off + 3, none⟩ = some (.int .i64 ((a5_ l0 x4_1).f2))) (ds := [11]) (bm 12 0) (by kernel_rfl) rfl rfl ⟨(a0_ BK198.out 0).trans rfl, (a0_ BK198.out 1).trans rfl, ((HB.out.cell (World.block_lt_of_cell? w _ hw199_0)).trans hw199_0), ((HB.out.cell (World.block_lt_of_cell? w _ hw199_1)).trans hw199_1), ((HB.out.cell (World.block_lt_of_cell? w _ hw199_2)).trans hw199_2), ((HB.out.cell (World.block_lt_of_cell? w _ hw199_3)).trans hw199_3)⟩ (fun hHeld => ?_); refine with_tabW ensembleref08_Units.tab5 ensembleref08_Units.bits5 (fun HT_ HW_ => ?_)
     generalize wr.drew = w9 at BK197 BK198 HB hx199_0 hx199_1 hx199_2 hx199_3 hHeld ⊢
     refine pu 0 (some 12) (bm 12 1) ?_
     refine pu 2 (some 14) (bm 12 5) ?_
     refine pu 3 (some 15) (bm 12 13) ?_
     refine pu 4 (some 16) (bm 12 29) ?_
     refine pu 5 (some 17) (bm 12 61) ?_
     refine tk 1 (some 13) (bm 12 63) ?_
     refine tk 6 (some 18) (bm 12 127) ?_
     refine one_ (i := 7) (N := some 19) (bm 12 255) rfl rfl (one_of HT_.out (by kernel_rfl)) (by decide) (fun K hK => ?_)
     refine goes_ Try.func82 (by kernel_rfl) rfl #[.int .u64 ((a5_ l0 x4_1).f1)] (by rfl) rfl rfl Z0 ?_
     with_reducible refine (ensembleref01_Units.calls k1 ((a5_ l0 x4_1).f1) t200 _ A8.out).mono ?_
     rintro e w10 ⟨v201, rfl, ho0, hb⟩
     refine ⟨_, rfl, ?_⟩
     have HO202 := m_ (Kd.R_lower ho0 (b6_ hb_))
     replace BK197 := bk_ BK197 hb
     replace BK198 := bk_ BK198 hb
     replace HB := hs_ hb
     (try clear hb)
     (try clear hb2)
     (try clear hk)
     (try clear hi)
     (try clear ho0)
     obtain ⟨Ao11, co11, eo11⟩ := Kd.R_slice HO202.out
     (first | subst eo11 | (injection eo11 with f1_ f2_ f3_; have f4_ := f1_.symm; have f5_ := f3_.symm; clear f1_ f2_ f3_; subst f4_; subst f5_))
     refine hK.out _ _ ⟨(a0_ BK198.out 0).trans rfl, (a0_ BK198.out 1).trans rfl, ((HB.out.cell (World.block_lt_of_cell? w _ hw199_0)).trans hw199_0), ((HB.out.cell (World.block_lt_of_cell? w _ hw199_1)).trans hw199_1), ((HB.out.cell (World.block_lt_of_cell? w _ hw199_2)).trans hw199_2), ((HB.out.cell (World.block_lt_of_cell? w _ hw199_3)).trans hw199_3)⟩ (fun hHeld => ?_)
     clear hK K
     refine norm_ (a' := ?_) ?_ ?_
     rotate_left
     ·show Act.put _ (some 19) _ = _
      simp only [Act.put, List.setIfInBounds_toArray, List.set_cons_zero, List.set_cons_succ, i64_w, i32_w]
      rfl
     refine pu 8 (some 20) (bm 12 511) ?_
     refine pu 9 (some 21) (bm 12 1023) ?_
     refine pu 10 (some 22) (bm 12 2047) ?_
     refine last_ (i := 11) (N := none) (bm 12 4095) rfl rfl (one_of HT_.out (by kernel_rfl)) (by decide) (fun K hK => ?_)
     have hs12 : w10.cell? ⟨gb198, 0, none⟩ = some (.int .i64 x199000_1) := (a0_ BK198.out 0).trans rfl
     have hfs12 := a2_ BK198.out 0
     have hns12_0 := NB197_198.out
     have hms12_0 := NB198_197.out
     refine skip_ (w1 := ?_) (by rfl) rfl ?_ ?_
     rotate_left
     ·go_simp
      rfl
     refine hK.out _ _ ?_
     clear hK K
     refine done_ (done_of HT_.out (by kernel_rfl)) ?_
     try go_wp2
     have n0_ : A_ (Kd.R (Kd.int .i64) 3 (w10.setCell ⟨gb198, 0, none⟩ (.int .i64 (wrap64 (x199000_1 + (t200.length : Int))))) w.heap.size (fun _ => True) (.slice Ao11 t200.length co11) t200) := ⟨by (with_reducible repeat (first | apply Kd.R_alloc | apply Kd.R_drewN | apply Kd.R_drew)); exact Kd.R_mono (Kd.R_far (p := ⟨gb198, 0, none⟩) (Kd.R_types HO202.out BK198.out (by decide)) (fun _ hk => hk.2) (.int .i64 (wrap64 (x199000_1 + (t200.length : Int))))) (fun _ hk => trivial)⟩
     have n1_ : A_ ((w10.setCell ⟨gb198, 0, none⟩ (.int .i64 (wrap64 (x199000_1 + (t200.length : Int))))).heap[gb197]? = some (.cells #[.int .i64 0, .int .i64 0] 24 (0, 0))) := ⟨bs_⟩
     have n2_ : A_ ((w10.setCell ⟨gb198, 0, none⟩ (.int .i64 (wrap64 (x199000_1 + (t200.length : Int))))).heap[gb198]? = some (.cells #[.int .i64 (wrap64 (x199000_1 + (t200.length : Int))), .int .i64 x199001_1] 24 (0, 0))) := ⟨bs_⟩
     have n3_ : A_ (Below w.heap.size w (w10.setCell ⟨gb198, 0, none⟩ (.int .i64 (wrap64 (x199000_1 + (t200.length : Int)))))) := ⟨hb_⟩
     (try clear HO202)
     (try clear BK197)
     (try clear BK198)
     (try clear HB)
     generalize (w10.setCell ⟨gb198, 0, none⟩ (.int .i64 (wrap64 (x199000_1 + (t200.length : Int))))) = w13 at n0_ n1_ n2_ n3_ ⊢
     have HO202 := n0_
     have BK197 := n1_
     have BK198 := n2_
     have HB := n3_
     clear n0_ n1_ n2_ n3_
     replace HO202 := m_ (Kd.R_drew HO202.out)
     replace BK197 := m_ (d5_ BK197.out)
     replace BK198 := m_ (d5_ BK198.out)
     replace HB := m_ (b7_ HB.out)
     have p203 : 0 ≤ (x4_1 : Int) := of_decide_eq_true Z1
     have q203 : x4_1 < (l0.length : Int) := of_decide_eq_true Z1
     obtain ⟨ad203, e203, hx203_0, hx203_1, hx203_2, hx203_3⟩ := at_T52 HR0.out x4_1 p203 q203
     have hw203_3 := hx203_3
     have hw203_2 := hx203_2
     have hw203_1 := hx203_1
     have hw203_0 := hx203_0
     obtain rfl : ad199 = ad203 := (by injection e203)
     replace hx203_0 := cx_ hx203_0
     replace hx203_1 := cx_ hx203_1
     replace hx203_2 := cx_ hx203_2
     replace hx203_3 := cx_ hx203_3
     replace p203 := eq_true p203
     replace q203 := eq_true q203
     refine start_ (n := 10) (S := fun w' => w'.cell? ⟨gb198, 0, none⟩ = some (.int .i64 (wrap64 (x199000_1 + (t200.length : Int)))) ∧ w'.cell? ⟨gb198, 1, none⟩ = some (.int .i64 x199001_1) ∧ w'.cell? (ad199.add ((x4_1).toNat * 4)) = some (.int .i64 ((a5_ l0 x4_1).f0.f0)) ∧ w'.cell? ⟨(ad199.add ((x4_1).toNat * 4)).block, (ad199.add ((x4_1).toNat * 4)).off + 1, none⟩ = some (.int .i64 ((a5_ l0 x4_1).f0.f1)) ∧ w'.cell? ⟨(ad199.add ((x4_1).toNat * 4)).block, (ad199.add ((x4_1).toNat * 4)).off + 2, none⟩ = some (.int .u64 ((a5_ l0 x4_1).f1)) ∧ w'.cell? ⟨(ad199.add ((x4_1).toNat * 4)).block, (ad199.add ((x4_1).toNat * 4)).off + 3, none⟩ = some (.int .i64 ((a5_ l0 x4_1).f2))) (ds := [9]) (bm 10 0) (by kernel_rfl) rfl rfl ⟨(a0_ BK198.out 0).trans rfl, (a0_ BK198.out 1).trans rfl, ((HB.out.cell (World.block_lt_of_cell? w _ hw203_0)).trans hw203_0), ((HB.out.cell (World.block_lt_of_cell? w _ hw203_1)).trans hw203_1), ((HB.out.cell (World.block_lt_of_cell? w _ hw203_2)).trans hw203_2), ((HB.out.cell (World.block_lt_of_cell? w _ hw203_3)).trans hw203_3)⟩ (fun hHeld => ?_); refine with_tabW ensembleref08_Units.tab6 ensembleref08_Units.bits6 (fun HT_ HW_ => ?_)
     generalize w13.drew = w14 at HO202 BK197 BK198 HB hx203_0 hx203_1 hx203_2 hx203_3 hHeld ⊢
     refine pu 0 (some 23) (bm 10 1) ?_
     refine pu 2 (some 25) (bm 10 5) ?_
     refine pu 3 (some 26) (bm 10 13) ?_
     refine pu 4 (some 27) (bm 10 29) ?_
     refine pu 5 (some 28) (bm 10 61) ?_
     refine tk 1 (some 24) (bm 10 63) ?_
     refine tk 6 (some 29) (bm 10 127) ?_
     refine pu 7 (some 30) (bm 10 255) ?_
     refine pu 8 (some 31) (bm 10 511) ?_
     refine last_ (i := 9) (N := none) (bm 10 1023) rfl rfl (one_of HT_.out (by kernel_rfl)) (by decide) (fun K hK => ?_)
     have hs15 : w14.cell? ⟨gb198, 1, none⟩ = some (.int .i64 x199001_1) := (a0_ BK198.out 1).trans rfl
     have hfs15 := a2_ BK198.out 1
     have hns15_0 := NB197_198.out
     have hms15_0 := NB198_197.out
     refine skip_ (w1 := ?_) (by rfl) rfl ?_ ?_
     rotate_left
     ·go_simp
      rfl
     refine hK.out _ _ ?_
     clear hK K
     refine done_ (done_of HT_.out (by kernel_rfl)) ?_
     try go_wp2
     go_roundg k1
     case measure => have := HK1.out; omega
     case rel => exact ⟨(wrap64 (x4_1 + 1)), (wrap64 (x199000_1 + (t200.length : Int))), (wrap64 (x199001_1 + ((a5_ l0 x4_1).f2))), Z2, H', ⟨by have := HK1.out; omega⟩, ⟨bs_⟩, ⟨bs_⟩, ⟨hb_⟩⟩
    ·rw [if_neg c7] at H
     exact absurd H (by simp)
   ·rw [if_neg c6] at H
    have c6b0 : decide (x4_1 < (l0.length : Int)) = false := decide_eq_false c6
    clear c6
    simp only [Option.some.injEq, Prod.mk.injEq] at H
    obtain ⟨rfl, rfl⟩ := H
    have hnb16 := NB198_197.out
    have hnc16 := NB197_198.out
    obtain ⟨hcz17_0, hcz17_1, hfz17_0, hfz17_1⟩ := bz2_ BK198
    obtain ⟨hcz18_0, hcz18_1, hfz18_0, hfz18_1⟩ := bz2_ BK197
    go_wp2
    refine bodyPost_ret (results_cell_row rfl _ _ gb197 24 #[.int .i64 x199000_1, .int .i64 x199001_1] (0, 0) _ rfl (bt_ BK197) Try.underlying24 rfl (by kernel_rfl)) rfl ?_
    exact ⟨by first | rfl | (simp [b1_, b0_] <;> rfl) | (simp [*, b1_, b0_] <;> rfl), hb_⟩
def ensembleref12_All.l0 : Nat → List (S41) → Int → List (S52) → Int → Option ((List (S52)))
 | 0, _, _, _, _ => none
 | k + 1, x0, x1, x5, x6 => if x6 < (x0.length : Int) then (if 0 ≤ x6 then (if ((a8_ x0 x6).f2) ≤ x1 then (if x5.length + ((a8_ x0 x6).f4).length < 4398046511104 then (ensembleref12_All.l0 k x0 x1 (x5 ++ ((a8_ x0 x6).f4)) (wrap64 (x6 + 1))) else (none)) else (ensembleref12_All.l0 k x0 x1 x5 (wrap64 (x6 + 1)))) else (none)) else (some x5)
def ensembleref12_All.f (k : Nat) (l0 : List (S41)) (a1 : Int) : Option ((List (S52))) := ensembleref12_All.l0 k l0 a1 ([] : List (S52)) 0
set_option maxHeartbeats 8000000 in
set_option maxRecDepth 100000 in
theorem ensembleref12_All.calls (k : Nat) (A0 : Option Addr) (c0 : Nat) (l0 : List (S41)) (a1 : Int) (r : List (S52)) (w : World) (hr0 : Kd.C k41 w A0 l0.length l0) (hc0 : l0.length ≤ c0) (h : ensembleref12_All.f k l0 a1 = some r) :
  Calls Try.prog 78 #[.slice A0 l0.length c0, .int .i64 a1] w fun e w' => ∃ v0_ : Value, e = .returned (v0_) ∧ Kd.R k52 52 w' w.heap.size (fun _ => True) v0_ r ∧ Below w.heap.size w w' := by
 have HR0 := m_ hr0
 have HC0 := m_ hc0
 clear hr0 hc0
 have HB := m_ (Below.refl w.heap.size w)
 have H := h
 unfold ensembleref12_All.f at H
 clear h
 have H' := m_ H
 clear H
 go_enter Try.func78, Try.ntmps78
 go_wp2
 go_loopg [5, 6] k (fun kq v5 v6 w' => ∃ (x5_1 : List (S52)) (x6_1 : Int), v6 = .int .i64 x6_1 ∧ A_ (ensembleref12_All.l0 kq l0 a1 x5_1 x6_1 = some r) ∧ A_ (kq ≤ k) ∧ A_ (Kd.R k52 52 w' w.heap.size (fun _ => True) v5 x5_1) ∧ A_ (Below w.heap.size w w'))
 case atStart => exact ⟨(([] : List (S52))), (0), Z2, H', ⟨Nat.le_refl _⟩, ⟨by first | exact Kd.R_nil _ _ _ _ _ | exact Kd.N_nil _ _ _ _ _ | exact Kd.V_nil _ _ _ _ _ | exact Kd.Q_nil _ _ _ _ _ | exact Kd.S_nil _ _ _ _ _⟩, ⟨hb_⟩⟩
 case round =>
  clear H'
  try clear p2
  obtain ⟨x5_1, x6_1, rfl, HA, HK1, HO_5, HB⟩ := hrel
  cases gk with
  | zero => exact absurd HA.out (by simp [ensembleref12_All.l0])
  | succ k1 =>
   have H := HA.out
   clear HA
   simp only [ensembleref12_All.l0] at H
   by_cases c3 : x6_1 < (l0.length : Int)
   ·rw [if_pos c3] at H
    have c3b0 : decide (x6_1 < (l0.length : Int)) = true := decide_eq_true c3
    clear c3
    by_cases c4 : 0 ≤ x6_1
    ·rw [if_pos c4] at H
     have c4b0 : decide (0 ≤ x6_1) = true := decide_eq_true c4
     clear c4
     by_cases c5 : ((a8_ l0 x6_1).f2) ≤ a1
     ·rw [if_pos c5] at H
      have c5b0 : decide (((a8_ l0 x6_1).f2) ≤ a1) = true := decide_eq_true c5
      clear c5
      by_cases c6 : x5_1.length + ((a8_ l0 x6_1).f4).length < 4398046511104
      ·rw [if_pos c6] at H
       have LMc6 := m_ c6
       clear c6
       obtain ⟨y206, hy206⟩ : ∃ y_ : List (S52), y_ = (x5_1 ++ ((a8_ l0 x6_1).f4)) := ⟨_, rfl⟩
       replace H : (ensembleref12_All.l0 k1 l0 a1 y206 (wrap64 (x6_1 + 1))) = some r := by first | (rw [hy206]; with_reducible exact H) | (have H2_ := (Option.bind_some _ _).symm.trans H; rw [hy206]; with_reducible exact H2_) | (have H2_ := (Option.bind_some _ _).symm.trans H; with_reducible exact H2_) | with_reducible exact H | (rw [hy206]; exact H) | exact H
       have Ny206 := m_ hy206
       clear hy206
       have H' := m_ H
       clear H
       have p204 : 0 ≤ (x6_1 : Int) := of_decide_eq_true Z1
       have q204 : x6_1 < (l0.length : Int) := of_decide_eq_true Z1
       obtain ⟨ad204, A204_4, c204_4, e204, hx204_0, hx204_1, hx204_2, hx204_3, hx204_4, hl204_4, hi204_4⟩ := at_T41 HR0.out x6_1 p204 q204
       cases e204
       replace hx204_0 := cx_ hx204_0
       replace hx204_1 := cx_ hx204_1
       replace hx204_2 := cx_ hx204_2
       replace hx204_3 := cx_ hx204_3
       replace hx204_4 := cx_ hx204_4
       have HR204_4 := m_ hi204_4
       have HC204_4 := m_ hl204_4
       clear hi204_4 hl204_4
       replace p204 := eq_true p204
       replace q204 := eq_true q204
       have p205 : 0 ≤ (x6_1 : Int) := of_decide_eq_true Z1
       have q205 : x6_1 < (l0.length : Int) := of_decide_eq_true Z1
       obtain ⟨ad205, A205_4, c205_4, e205, hx205_0, hx205_1, hx205_2, hx205_3, hx205_4, hl205_4, hi205_4⟩ := at_T41 HR0.out x6_1 p205 q205
       obtain rfl : ad204 = ad205 := (by injection e205)
       replace hx205_0 := cx_ hx205_0
       replace hx205_1 := cx_ hx205_1
       replace hx205_2 := cx_ hx205_2
       replace hx205_3 := cx_ hx205_3
       replace hx205_4 := cx_ hx205_4
       have HR205_4 := m_ hi205_4
       have HC205_4 := m_ hl205_4
       clear hi205_4 hl205_4
       replace p205 := eq_true p205
       replace q205 := eq_true q205
       have ea_ := Option.some.inj (hx204_4.symm.trans hx205_4)
       injection ea_ with ea_ en_ ec_
       subst ea_
       subst ec_
       clear en_
       go_wp2_with (first | ((with_reducible refine gate_builtin (b := .append) (xs := #[.tmp 20, .tmp 25]) rfl ?_); at_builtin; refine Kd.R_append_rows k52 (w0 := w) w.heap.size rfl (.tmp 20) (.tmp 25) 39 52 (.agg #[(.int .i64 0), (.int .i64 0), (.int .u64 0), (.int .i64 0)]) 32 rfl Try.underlying39 info52 rfl (by decide) (by omega) u5 x5_1 ((a8_ l0 x6_1).f4) _ _ _ (fun _ => True) (fun _ => False) rfl rfl ?aO ?aR (fun _ _ h => h) (fun _ h => h.elim) ?aF ?aB ?aS ?aL ?_; (case aR => repeat (first | exact (Kd.C_below HR205_4.out HB.out) | (with_reducible refine Kd.C_alloc ?_ _) | (with_reducible refine Kd.C_drewN ?_ _) | (with_reducible refine Kd.C_drew ?_))); (case aB => exact hb_); (case aF => exact (fun _ _ => trivial)); (case aO => exact (by (with_reducible repeat (first | apply Kd.R_alloc | apply Kd.R_drewN | apply Kd.R_drew)); exact HO_5.out)); (case aS => exact (b6_ hb_)); (case aL => have := LMc6.out; omega); intro v207 w7 ho hb hg hat; rw [← Ny206.out] at ho; have HO208 := m_ (ho); replace HB := m_ (hb); clear HO_5; clear ho hb hg hat))
       go_roundg k1
       case measure => have := HK1.out; omega
       case rel => exact ⟨(y206), (wrap64 (x6_1 + 1)), Z2, H', ⟨by have := HK1.out; omega⟩, ⟨by (with_reducible repeat (first | apply Kd.R_alloc | apply Kd.R_drewN | apply Kd.R_drew)); exact HO208.out⟩, ⟨hb_⟩⟩
      ·rw [if_neg c6] at H
       exact absurd H (by simp)
     ·rw [if_neg c5] at H
      have c5b0 : decide (((a8_ l0 x6_1).f2) ≤ a1) = false := decide_eq_false c5
      clear c5
      have H' := m_ H
      clear H
      have p204 : 0 ≤ (x6_1 : Int) := of_decide_eq_true Z1
      have q204 : x6_1 < (l0.length : Int) := of_decide_eq_true Z1
      obtain ⟨ad204, A204_4, c204_4, e204, hx204_0, hx204_1, hx204_2, hx204_3, hx204_4, hl204_4, hi204_4⟩ := at_T41 HR0.out x6_1 p204 q204
      cases e204
      replace hx204_0 := cx_ hx204_0
      replace hx204_1 := cx_ hx204_1
      replace hx204_2 := cx_ hx204_2
      replace hx204_3 := cx_ hx204_3
      replace hx204_4 := cx_ hx204_4
      have HR204_4 := m_ hi204_4
      have HC204_4 := m_ hl204_4
      clear hi204_4 hl204_4
      replace p204 := eq_true p204
      replace q204 := eq_true q204
      go_wp2
      go_roundg k1
      case measure => have := HK1.out; omega
      case rel => exact ⟨(x5_1), (wrap64 (x6_1 + 1)), Z2, H', ⟨by have := HK1.out; omega⟩, ⟨by (with_reducible repeat (first | apply Kd.R_alloc | apply Kd.R_drewN | apply Kd.R_drew)); exact HO_5.out⟩, ⟨hb_⟩⟩
    ·rw [if_neg c4] at H
     exact absurd H (by simp)
   ·rw [if_neg c3] at H
    have c3b0 : decide (x6_1 < (l0.length : Int)) = false := decide_eq_false c3
    clear c3
    obtain rfl := Option.some.inj H
    go_wp2
    go_ret
    exact ⟨_, by first | rfl | (simp [b1_, b0_] <;> rfl) | (simp [*, b1_, b0_] <;> rfl), by (with_reducible repeat (first | apply Kd.R_alloc | apply Kd.R_drewN | apply Kd.R_drew)); exact HO_5.out, hb_⟩
def ensembleref12_At.l0 : Nat → Int → List (S41) → List (S51) → Int → Int → Int → Int → Int → Int → Int → Int → Int → Option (Bool)
 | 0, _, _, _, _, _, _, _, _, _, _, _, _ => none
 | k + 1, x0, x3, x11, x13, x210000, x210001, x211000, x211001, x211002, x211003, x211004, x211005 => if x13 < (x3.length : Int) then (if 0 ≤ x13 then (if ((a8_ x3 x13).f2) ≤ x0 then (if ((a8_ x3 x13).f1) = x211000 then ((ensembleref08_Units.f k ((a8_ x3 x13).f4)).bind fun bt221 => (ensembleref12_At.l0 k x0 x3 x11 (wrap64 (x13 + 1)) (wrap64 (x210000 + bt221.1)) (wrap64 (x210001 + bt221.2)) x211000 x211001 x211002 x211003 x211004 x211005)) else (ensembleref12_At.l0 k x0 x3 x11 (wrap64 (x13 + 1)) x210000 x210001 x211000 x211001 x211002 x211003 x211004 x211005)) else (ensembleref12_At.l0 k x0 x3 x11 (wrap64 (x13 + 1)) x210000 x210001 x211000 x211001 x211002 x211003 x211004 x211005)) else (none)) else ((ensembleref12_Fits.f k x11 x210000 x210001 x211000 x211001 x211002 x211003 x211004 x211005).bind fun t224 => (some t224))
def ensembleref12_At.f (k : Nat) (a0 : Int) (l1 : List (S51)) (a2_0 a2_1 : Int) (l3 : List (S41)) (a4_0 a4_1 a4_2 a4_3 a4_4 a4_5 : Int) : Option (Bool) := (ensembleref12_All.f k l3 a0).bind fun t211 => ((ensembleref05_More.f k l1 t211).bind fun bt214 => (ensembleref12_At.l0 k a0 l3 bt214.1 0 a2_0 a2_1 a4_0 a4_1 a4_2 a4_3 a4_4 a4_5))
set_option maxHeartbeats 8000000 in
set_option maxRecDepth 100000 in
theorem ensembleref12_At.calls (k : Nat) (a0 : Int) (A1 : Option Addr) (c1 : Nat) (l1 : List (S51)) (a2_0 a2_1 : Int) (A3 : Option Addr) (c3 : Nat) (l3 : List (S41)) (a4_0 a4_1 a4_2 a4_3 a4_4 a4_5 : Int) (r : Bool) (w : World) (hr1 : Kd.C k51 w A1 l1.length l1) (hc1 : l1.length ≤ c1) (hr3 : Kd.C k41 w A3 l3.length l3) (hc3 : l3.length ≤ c3) (h : ensembleref12_At.f k a0 l1 a2_0 a2_1 l3 a4_0 a4_1 a4_2 a4_3 a4_4 a4_5 = some r) :
  Calls Try.prog 31 #[.int .i64 a0, .slice A1 l1.length c1, .agg #[.int .i64 a2_0, .int .i64 a2_1], .slice A3 l3.length c3, .agg #[.int .i64 a4_0, .int .i64 a4_1, .int .i64 a4_2, .int .i64 a4_3, .int .i64 a4_4, .int .i64 a4_5]] w fun e w' => e = .returned (.bool r) ∧ Below w.heap.size w w' := by
 have hu24 := Try.underlying24
 have hu29 := Try.underlying29
 have HR1 := m_ hr1
 have HC1 := m_ hc1
 clear hr1 hc1
 have HR3 := m_ hr3
 have HC3 := m_ hc3
 clear hr3 hc3
 have HB := m_ (Below.refl w.heap.size w)
 have H := h
 unfold ensembleref12_At.f at H
 clear h
 replace H := Option.bind_eq_some_iff.mp H
 obtain ⟨t211, A60, H⟩ := H
 try dsimp only at H
 have A6 := m_ A60
 clear A60
 replace H := Option.bind_eq_some_iff.mp H
 obtain ⟨⟨t214, t215⟩, A70, H⟩ := H
 try dsimp only at H
 have A7 := m_ A70
 clear A70
 have H' := m_ H
 clear H
 go_enter Try.func31, Try.ntmps31
 go_wp2_with (first | ((with_reducible refine a3_ (N := 7) rfl ?_); refine bx 7 #[.int .i64 a2_0, .int .i64 a2_1] 24 ?_; intro gb209 hg w8 hbox hb; have BK209 := m_ (hbox); have GW209 := ge_ hg; have GE209 := ge_ hg; replace HB := hs_ hb; clear hb hbox hg) | ((with_reducible refine a3_ (N := 9) rfl ?_); refine bx 9 #[.int .i64 a4_0, .int .i64 a4_1, .int .i64 a4_2, .int .i64 a4_3, .int .i64 a4_4, .int .i64 a4_5] 29 ?_; intro gb210 hg w9 hbox hb; have BK210 := m_ (hbox); have GW210 := ge_ hg; have GE210 := ge_ hg; have NB209_210 := nl_ BK209 hg; have NB210_209 := nr_ BK209 hg; replace BK209 := bk_ BK209 hb; replace HB := hs_ hb; clear hb hbox hg) | (go_at_call 78; (with_reducible refine (ensembleref12_All.calls k _ _ l3 a0 t211 _ ?side1 ?side2 A6.out).mono ?_); (case side1 => exact cs_ HR3); (case side2 => exact HC3.out); rintro e w10 ⟨v212, rfl, ho0, hb⟩; have HO213 := m_ (Kd.R_lower ho0 (b6_ hb_)); replace BK209 := bk_ BK209 hb; replace BK210 := bk_ BK210 hb; replace HB := hs_ hb; (try clear hb); (try clear hb2); (try clear hk); (try clear hi); (try clear ho0); obtain ⟨Ao11, co11, eo11⟩ := Kd.R_slice HO213.out; subst eo11) | (go_at_call 32; (with_reducible refine (ensembleref05_More.calls k _ _ l1 _ _ t211 t214 t215 _ ?side1 ?side2 ?side3 ?side4 A7.out).mono ?_); (case side1 => exact cs_ HR1); (case side2 => exact HC1.out); (case side3 => repeat (first | exact (Kd.R_reads' HO213.out).2.2 | (with_reducible refine Kd.C_alloc ?_ _) | (with_reducible refine Kd.C_drewN ?_ _) | (with_reducible refine Kd.C_drew ?_))); (case side4 => exact (Kd.R_reads' HO213.out).2.1); rintro e w12 ⟨v216, rfl, ho0, hb⟩; have HO217 := m_ (Kd.R_lower ho0 (b6_ hb_)); replace HO213 := m_ (Kd.R_below (by (with_reducible repeat (first | apply Kd.R_alloc | apply Kd.R_drewN | apply Kd.R_drew)); exact HO213.out) hb); replace BK209 := bk_ BK209 hb; replace BK210 := bk_ BK210 hb; replace HB := hs_ hb; (try clear hb); (try clear hb2); (try clear hk); (try clear hi); (try clear ho0)))
 repeat (go_quiet (first | ((with_reducible refine a3_ (N := 7) rfl ?_); refine bx 7 #[.int .i64 a2_0, .int .i64 a2_1] 24 ?_; intro gb209 hg w8 hbox hb; have BK209 := m_ (hbox); have GW209 := ge_ hg; have GE209 := ge_ hg; replace HB := hs_ hb; clear hb hbox hg) | ((with_reducible refine a3_ (N := 9) rfl ?_); refine bx 9 #[.int .i64 a4_0, .int .i64 a4_1, .int .i64 a4_2, .int .i64 a4_3, .int .i64 a4_4, .int .i64 a4_5] 29 ?_; intro gb210 hg w9 hbox hb; have BK210 := m_ (hbox); have GW210 := ge_ hg; have GE210 := ge_ hg; have NB209_210 := nl_ BK209 hg; have NB210_209 := nr_ BK209 hg; replace BK209 := bk_ BK209 hb; replace HB := hs_ hb; clear hb hbox hg) | (go_at_call 78; (with_reducible refine (ensembleref12_All.calls k _ _ l3 a0 t211 _ ?side1 ?side2 A6.out).mono ?_); (case side1 => exact cs_ HR3); (case side2 => exact HC3.out); rintro e w10 ⟨v212, rfl, ho0, hb⟩; have HO213 := m_ (Kd.R_lower ho0 (b6_ hb_)); replace BK209 := bk_ BK209 hb; replace BK210 := bk_ BK210 hb; replace HB := hs_ hb; (try clear hb); (try clear hb2); (try clear hk); (try clear hi); (try clear ho0); obtain ⟨Ao11, co11, eo11⟩ := Kd.R_slice HO213.out; subst eo11) | (go_at_call 32; (with_reducible refine (ensembleref05_More.calls k _ _ l1 _ _ t211 t214 t215 _ ?side1 ?side2 ?side3 ?side4 A7.out).mono ?_); (case side1 => exact cs_ HR1); (case side2 => exact HC1.out); (case side3 => repeat (first | exact (Kd.R_reads' HO213.out).2.2 | (with_reducible refine Kd.C_alloc ?_ _) | (with_reducible refine Kd.C_drewN ?_ _) | (with_reducible refine Kd.C_drew ?_))); (case side4 => exact (Kd.R_reads' HO213.out).2.1); rintro e w12 ⟨v216, rfl, ho0, hb⟩; have HO217 := m_ (Kd.R_lower ho0 (b6_ hb_)); replace HO213 := m_ (Kd.R_below (by (with_reducible repeat (first | apply Kd.R_alloc | apply Kd.R_drewN | apply Kd.R_drew)); exact HO213.out) hb); replace BK209 := bk_ BK209 hb; replace BK210 := bk_ BK210 hb; replace HB := hs_ hb; (try clear hb); (try clear hb2); (try clear hk); (try clear hi); (try clear ho0))); try go_wp2_with (first | ((with_reducible refine a3_ (N := 7) rfl ?_); refine bx 7 #[.int .i64 a2_0, .int .i64 a2_1] 24 ?_; intro gb209 hg w8 hbox hb; have BK209 := m_ (hbox); have GW209 := ge_ hg; have GE209 := ge_ hg; replace HB := hs_ hb; clear hb hbox hg) | ((with_reducible refine a3_ (N := 9) rfl ?_); refine bx 9 #[.int .i64 a4_0, .int .i64 a4_1, .int .i64 a4_2, .int .i64 a4_3, .int .i64 a4_4, .int .i64 a4_5] 29 ?_; intro gb210 hg w9 hbox hb; have BK210 := m_ (hbox); have GW210 := ge_ hg; have GE210 := ge_ hg; have NB209_210 := nl_ BK209 hg; have NB210_209 := nr_ BK209 hg; replace BK209 := bk_ BK209 hb; replace HB := hs_ hb; clear hb hbox hg) | (go_at_call 78; (with_reducible refine (ensembleref12_All.calls k _ _ l3 a0 t211 _ ?side1 ?side2 A6.out).mono ?_); (case side1 => exact cs_ HR3); (case side2 => exact HC3.out); rintro e w10 ⟨v212, rfl, ho0, hb⟩; have HO213 := m_ (Kd.R_lower ho0 (b6_ hb_)); replace BK209 := bk_ BK209 hb; replace BK210 := bk_ BK210 hb; replace HB := hs_ hb; (try clear hb); (try clear hb2); (try clear hk); (try clear hi); (try clear ho0); obtain ⟨Ao11, co11, eo11⟩ := Kd.R_slice HO213.out; subst eo11) | (go_at_call 32; (with_reducible refine (ensembleref05_More.calls k _ _ l1 _ _ t211 t214 t215 _ ?side1 ?side2 ?side3 ?side4 A7.out).mono ?_); (case side1 => exact cs_ HR1); (case side2 => exact HC1.out); (case side3 => repeat (first | exact (Kd.R_reads' HO213.out).2.2 | (with_reducible refine Kd.C_alloc ?_ _) | (with_reducible refine Kd.C_drewN ?_ _) | (with_reducible refine Kd.C_drew ?_))); (case side4 => exact (Kd.R_reads' HO213.out).2.1); rintro e w12 ⟨v216, rfl, ho0, hb⟩; have HO217 := m_ (Kd.R_lower ho0 (b6_ hb_)); replace HO213 := m_ (Kd.R_below (by (with_reducible repeat (first | apply Kd.R_alloc | apply Kd.R_drewN | apply Kd.R_drew)); exact HO213.out) hb); replace BK209 := bk_ BK209 hb; replace BK210 := bk_ BK210 hb; replace HB := hs_ hb; (try clear hb); (try clear hb2); (try clear hk); (try clear hi); (try clear ho0))))
 go_loopg [13] k (fun kq v13 w' => ∃ (x13_1 : Int) (x210000_1 : Int) (x210001_1 : Int), v13 = .int .i64 x13_1 ∧ A_ (ensembleref12_At.l0 kq a0 l3 t214 x13_1 x210000_1 x210001_1 a4_0 a4_1 a4_2 a4_3 a4_4 a4_5 = some r) ∧ A_ (kq ≤ k) ∧ A_ (Kd.R k51 51 w' w.heap.size (fun _ => True) v216 t214) ∧ A_ (w'.heap[gb209]? = some (.cells #[.int .i64 x210000_1, .int .i64 x210001_1] 24 (0, 0))) ∧ A_ (w'.heap[gb210]? = some (.cells #[.int .i64 a4_0, .int .i64 a4_1, .int .i64 a4_2, .int .i64 a4_3, .int .i64 a4_4, .int .i64 a4_5] 29 (0, 0))) ∧ A_ (Below w.heap.size w w'))
 case atStart => exact ⟨(0), (a2_0), (a2_1), Z2, H', ⟨Nat.le_refl _⟩, ⟨by (with_reducible repeat (first | apply Kd.R_alloc | apply Kd.R_drewN | apply Kd.R_drew)); exact HO217.out⟩, ⟨bo_ BK209⟩, ⟨bo_ BK210⟩, ⟨hb_⟩⟩
 case round =>
  clear H'
  try clear c1
  try clear p2
  try clear c3
  obtain ⟨x13_1, x210000_1, x210001_1, rfl, HA, HK1, HO_11, BK209, BK210, HB⟩ := hrel
  cases gk with
  | zero => exact absurd HA.out (by simp [ensembleref12_At.l0])
  | succ k1 =>
   have H := HA.out
   clear HA
   simp only [ensembleref12_At.l0] at H
   by_cases c13 : x13_1 < (l3.length : Int)
   ·rw [if_pos c13] at H
    have c13b0 : decide (x13_1 < (l3.length : Int)) = true := decide_eq_true c13
    clear c13
    by_cases c14 : 0 ≤ x13_1
    ·rw [if_pos c14] at H
     have c14b0 : decide (0 ≤ x13_1) = true := decide_eq_true c14
     clear c14
     by_cases c15 : ((a8_ l3 x13_1).f2) ≤ a0
     ·rw [if_pos c15] at H
      have c15b0 : decide (((a8_ l3 x13_1).f2) ≤ a0) = true := decide_eq_true c15
      clear c15
      by_cases c16 : ((a8_ l3 x13_1).f1) = a4_0
      ·rw [if_pos c16] at H
       have c16b0 : (((a8_ l3 x13_1).f1) == a4_0) = true := beq_iff_eq.mpr c16
       have c16b1 : (((a8_ l3 x13_1).f1) != a4_0) = false := bne_eq_false_iff_eq.mpr c16
       clear c16
       replace H := Option.bind_eq_some_iff.mp H
       obtain ⟨⟨t221, t222⟩, A170, H⟩ := H
       try dsimp only at H
       have A17 := m_ A170
       clear A170
       have H' := m_ H
       clear H
       have p218 : 0 ≤ (x13_1 : Int) := of_decide_eq_true Z1
       have q218 : x13_1 < (l3.length : Int) := of_decide_eq_true Z1
       obtain ⟨ad218, A218_4, c218_4, e218, hx218_0, hx218_1, hx218_2, hx218_3, hx218_4, hl218_4, hi218_4⟩ := at_T41 HR3.out x13_1 p218 q218
       cases e218
       replace hx218_0 := cx_ hx218_0
       replace hx218_1 := cx_ hx218_1
       replace hx218_2 := cx_ hx218_2
       replace hx218_3 := cx_ hx218_3
       replace hx218_4 := cx_ hx218_4
       have HR218_4 := m_ hi218_4
       have HC218_4 := m_ hl218_4
       clear hi218_4 hl218_4
       replace p218 := eq_true p218
       replace q218 := eq_true q218
       have p219 : 0 ≤ (x13_1 : Int) := of_decide_eq_true Z1
       have q219 : x13_1 < (l3.length : Int) := of_decide_eq_true Z1
       obtain ⟨ad219, A219_4, c219_4, e219, hx219_0, hx219_1, hx219_2, hx219_3, hx219_4, hl219_4, hi219_4⟩ := at_T41 HR3.out x13_1 p219 q219
       obtain rfl : ad218 = ad219 := (by injection e219)
       replace hx219_0 := cx_ hx219_0
       replace hx219_1 := cx_ hx219_1
       replace hx219_2 := cx_ hx219_2
       replace hx219_3 := cx_ hx219_3
       replace hx219_4 := cx_ hx219_4
       have HR219_4 := m_ hi219_4
       have HC219_4 := m_ hl219_4
       clear hi219_4 hl219_4
       replace p219 := eq_true p219
       replace q219 := eq_true q219
       have ea_ := Option.some.inj (hx218_4.symm.trans hx219_4)
       injection ea_ with ea_ en_ ec_
       subst ea_
       subst ec_
       clear en_
       have hnb18 := NB210_209.out
       have hnc18 := NB209_210.out
       obtain ⟨hcz19_0, hcz19_1, hcz19_2, hcz19_3, hcz19_4, hcz19_5, hfz19_0, hfz19_1, hfz19_2, hfz19_3, hfz19_4, hfz19_5⟩ := bz6_ BK210
       have p220 : 0 ≤ (x13_1 : Int) := of_decide_eq_true Z1
       have q220 : x13_1 < (l3.length : Int) := of_decide_eq_true Z1
       obtain ⟨ad220, A220_4, c220_4, e220, hx220_0, hx220_1, hx220_2, hx220_3, hx220_4, hl220_4, hi220_4⟩ := at_T41 HR3.out x13_1 p220 q220
       obtain rfl : ad218 = ad220 := (by injection e220)
       replace hx220_0 := cx_ hx220_0
       replace hx220_1 := cx_ hx220_1
       replace hx220_2 := cx_ hx220_2
       replace hx220_3 := cx_ hx220_3
       replace hx220_4 := cx_ hx220_4
       have HR220_4 := m_ hi220_4
       have HC220_4 := m_ hl220_4
       clear hi220_4 hl220_4
       replace p220 := eq_true p220
       replace q220 := eq_true q220
       have ea_ := Option.some.inj (hx218_4.symm.trans hx220_4)
       injection ea_ with ea_ en_ ec_
       subst ea_
       subst ec_
       clear en_
       go_wp2_with (first | (go_at_call 42; (with_reducible refine (ensembleref08_Units.calls k1 _ _ ((a8_ l3 x13_1).f4) t221 t222 _ ?side1 ?side2 A17.out).mono ?_); (case side1 => exact cs_ HR220_4); (case side2 => exact HC220_4.out); rintro e w20 ⟨rfl, hb⟩; replace HO_11 := m_ (Kd.R_below Z6 hb); replace BK209 := bk_ BK209 hb; replace BK210 := bk_ BK210 hb; replace HB := hs_ hb; (try clear hb); (try clear hb2); (try clear hk); (try clear hi)) | ((with_reducible refine a3_ (N := 14) rfl ?_); refine bx 14 #[.int .i64 0, .int .i64 0] 24 ?_; intro gb223 hg w21 hbox hb; have BK223 := m_ (hbox); have GW223 := ge_ hg; have GE223 := ge_ hg; have NB209_223 := nl_ BK209 hg; have NB223_209 := nr_ BK209 hg; have NB210_223 := nl_ BK210 hg; have NB223_210 := nr_ BK210 hg; replace HO_11 := m_ (Kd.R_below Z6 hb); replace BK209 := bk_ BK209 hb; replace BK210 := bk_ BK210 hb; replace HB := hs_ hb; clear hb hbox hg; have hnb22 := NB223_209.out; have hnc22 := NB209_223.out; have hnb23 := NB223_210.out; have hnc23 := NB210_223.out; obtain ⟨hcz24_0, hcz24_1, hfz24_0, hfz24_1⟩ := bz2_ BK223; obtain ⟨hcz25_0, hcz25_1, hfz25_0, hfz25_1⟩ := bz2_ BK209))
       repeat (go_quiet (first | (go_at_call 42; (with_reducible refine (ensembleref08_Units.calls k1 _ _ ((a8_ l3 x13_1).f4) t221 t222 _ ?side1 ?side2 A17.out).mono ?_); (case side1 => exact cs_ HR220_4); (case side2 => exact HC220_4.out); rintro e w20 ⟨rfl, hb⟩; replace HO_11 := m_ (Kd.R_below Z6 hb); replace BK209 := bk_ BK209 hb; replace BK210 := bk_ BK210 hb; replace HB := hs_ hb; (try clear hb); (try clear hb2); (try clear hk); (try clear hi)) | ((with_reducible refine a3_ (N := 14) rfl ?_); refine bx 14 #[.int .i64 0, .int .i64 0] 24 ?_; intro gb223 hg w21 hbox hb; have BK223 := m_ (hbox); have GW223 := ge_ hg; have GE223 := ge_ hg; have NB209_223 := nl_ BK209 hg; have NB223_209 := nr_ BK209 hg; have NB210_223 := nl_ BK210 hg; have NB223_210 := nr_ BK210 hg; replace HO_11 := m_ (Kd.R_below Z6 hb); replace BK209 := bk_ BK209 hb; replace BK210 := bk_ BK210 hb; replace HB := hs_ hb; clear hb hbox hg; have hnb22 := NB223_209.out; have hnc22 := NB209_223.out; have hnb23 := NB223_210.out; have hnc23 := NB210_223.out; obtain ⟨hcz24_0, hcz24_1, hfz24_0, hfz24_1⟩ := bz2_ BK223; obtain ⟨hcz25_0, hcz25_1, hfz25_0, hfz25_1⟩ := bz2_ BK209)); try go_wp2_with (first | (go_at_call 42; (with_reducible refine (ensembleref08_Units.calls k1 _ _ ((a8_ l3 x13_1).f4) t221 t222 _ ?side1 ?side2 A17.out).mono ?_); (case side1 => exact cs_ HR220_4); (case side2 => exact HC220_4.out); rintro e w20 ⟨rfl, hb⟩; replace HO_11 := m_ (Kd.R_below Z6 hb); replace BK209 := bk_ BK209 hb; replace BK210 := bk_ BK210 hb; replace HB := hs_ hb; (try clear hb); (try clear hb2); (try clear hk); (try clear hi)) | ((with_reducible refine a3_ (N := 14) rfl ?_); refine bx 14 #[.int .i64 0, .int .i64 0] 24 ?_; intro gb223 hg w21 hbox hb; have BK223 := m_ (hbox); have GW223 := ge_ hg; have GE223 := ge_ hg; have NB209_223 := nl_ BK209 hg; have NB223_209 := nr_ BK209 hg; have NB210_223 := nl_ BK210 hg; have NB223_210 := nr_ BK210 hg; replace HO_11 := m_ (Kd.R_below Z6 hb); replace BK209 := bk_ BK209 hb; replace BK210 := bk_ BK210 hb; replace HB := hs_ hb; clear hb hbox hg; have hnb22 := NB223_209.out; have hnc22 := NB209_223.out; have hnb23 := NB223_210.out; have hnc23 := NB210_223.out; obtain ⟨hcz24_0, hcz24_1, hfz24_0, hfz24_1⟩ := bz2_ BK223; obtain ⟨hcz25_0, hcz25_1, hfz25_0, hfz25_1⟩ := bz2_ BK209)))
       go_roundg k1
       case measure => have := HK1.out; omega
       case rel => exact ⟨(wrap64 (x13_1 + 1)), (wrap64 (x210000_1 + t221)), (wrap64 (x210001_1 + t222)), Z2, H', ⟨by have := HK1.out; omega⟩, ⟨by (with_reducible repeat (first | apply Kd.R_alloc | apply Kd.R_drewN | apply Kd.R_drew)); exact Kd.R_mono (Kd.R_far (p := ⟨gb209, 1, none⟩) (Kd.R_far (p := ⟨gb209, 0, none⟩) (Kd.R_far (p := ⟨gb223, 1, none⟩) (Kd.R_far (p := ⟨gb223, 0, none⟩) (Kd.R_types (Kd.R_types HO_11.out BK223.out (by decide)) BK209.out (by decide)) (fun _ hk => hk.1.2) (.int .i64 t221)) (fun _ hk => hk.1.2) (.int .i64 t222)) (fun _ hk => hk.2) (.int .i64 (wrap64 (x210000_1 + t221)))) (fun _ hk => hk.2) (.int .i64 (wrap64 (x210001_1 + t222)))) (fun _ hk => trivial)⟩, ⟨bs_⟩, ⟨bs_⟩, ⟨hb_⟩⟩
      ·rw [if_neg c16] at H
       have c16b0 : (((a8_ l3 x13_1).f1) == a4_0) = false := beq_eq_false_iff_ne.mpr c16
       have c16b1 : (((a8_ l3 x13_1).f1) != a4_0) = true := bne_iff_ne.mpr c16
       have H' := m_ H
       clear H
       have p218 : 0 ≤ (x13_1 : Int) := of_decide_eq_true Z1
       have q218 : x13_1 < (l3.length : Int) := of_decide_eq_true Z1
       obtain ⟨ad218, A218_4, c218_4, e218, hx218_0, hx218_1, hx218_2, hx218_3, hx218_4, hl218_4, hi218_4⟩ := at_T41 HR3.out x13_1 p218 q218
       cases e218
       replace hx218_0 := cx_ hx218_0
       replace hx218_1 := cx_ hx218_1
       replace hx218_2 := cx_ hx218_2
       replace hx218_3 := cx_ hx218_3
       replace hx218_4 := cx_ hx218_4
       have HR218_4 := m_ hi218_4
       have HC218_4 := m_ hl218_4
       clear hi218_4 hl218_4
       replace p218 := eq_true p218
       replace q218 := eq_true q218
       have p219 : 0 ≤ (x13_1 : Int) := of_decide_eq_true Z1
       have q219 : x13_1 < (l3.length : Int) := of_decide_eq_true Z1
       obtain ⟨ad219, A219_4, c219_4, e219, hx219_0, hx219_1, hx219_2, hx219_3, hx219_4, hl219_4, hi219_4⟩ := at_T41 HR3.out x13_1 p219 q219
       obtain rfl : ad218 = ad219 := (by injection e219)
       replace hx219_0 := cx_ hx219_0
       replace hx219_1 := cx_ hx219_1
       replace hx219_2 := cx_ hx219_2
       replace hx219_3 := cx_ hx219_3
       replace hx219_4 := cx_ hx219_4
       have HR219_4 := m_ hi219_4
       have HC219_4 := m_ hl219_4
       clear hi219_4 hl219_4
       replace p219 := eq_true p219
       replace q219 := eq_true q219
       have ea_ := Option.some.inj (hx218_4.symm.trans hx219_4)
       injection ea_ with ea_ en_ ec_
       subst ea_
       subst ec_
       clear en_
       have hnb26 := NB210_209.out
       have hnc26 := NB209_210.out
       obtain ⟨hcz27_0, hcz27_1, hcz27_2, hcz27_3, hcz27_4, hcz27_5, hfz27_0, hfz27_1, hfz27_2, hfz27_3, hfz27_4, hfz27_5⟩ := bz6_ BK210
       go_wp2
       repeat (go_quiet (fail); try go_wp2)
       go_roundg k1
       case measure => have := HK1.out; omega
       case rel => exact ⟨(wrap64 (x13_1 + 1)), (x210000_1), (x210001_1), Z2, H', ⟨by have := HK1.out; omega⟩, ⟨by (with_reducible repeat (first | apply Kd.R_alloc | apply Kd.R_drewN | apply Kd.R_drew)); exact HO_11.out⟩, ⟨bo_ BK209⟩, ⟨bo_ BK210⟩, ⟨hb_⟩⟩
     ·rw [if_neg c15] at H
      have c15b0 : decide (((a8_ l3 x13_1).f2) ≤ a0) = false := decide_eq_false c15
      clear c15
      have H' := m_ H
      clear H
      have p218 : 0 ≤ (x13_1 : Int) := of_decide_eq_true Z1
      have q218 : x13_1 < (l3.length : Int) := of_decide_eq_true Z1
      obtain ⟨ad218, A218_4, c218_4, e218, hx218_0, hx218_1, hx218_2, hx218_3, hx218_4, hl218_4, hi218_4⟩ := at_T41 HR3.out x13_1 p218 q218
      cases e218
      replace hx218_0 := cx_ hx218_0
      replace hx218_1 := cx_ hx218_1
      replace hx218_2 := cx_ hx218_2
      replace hx218_3 := cx_ hx218_3
      replace hx218_4 := cx_ hx218_4
      have HR218_4 := m_ hi218_4
      have HC218_4 := m_ hl218_4
      clear hi218_4 hl218_4
      replace p218 := eq_true p218
      replace q218 := eq_true q218
      go_wp2
      repeat (go_quiet (fail); try go_wp2)
      go_roundg k1
      case measure => have := HK1.out; omega
      case rel => exact ⟨(wrap64 (x13_1 + 1)), (x210000_1), (x210001_1), Z2, H', ⟨by have := HK1.out; omega⟩, ⟨by (with_reducible repeat (first | apply Kd.R_alloc | apply Kd.R_drewN | apply Kd.R_drew)); exact HO_11.out⟩, ⟨bo_ BK209⟩, ⟨bo_ BK210⟩, ⟨hb_⟩⟩
    ·rw [if_neg c14] at H
     exact absurd H (by simp)
   ·rw [if_neg c13] at H
    have c13b0 : decide (x13_1 < (l3.length : Int)) = false := decide_eq_false c13
    clear c13
    replace H := Option.bind_eq_some_iff.mp H
    obtain ⟨t224, A280, H⟩ := H
    try dsimp only at H
    have A28 := m_ A280
    clear A280
    obtain rfl := Option.some.inj H
    have hnb29 := NB209_210.out
    have hnc29 := NB210_209.out
    obtain ⟨hcz30_0, hcz30_1, hfz30_0, hfz30_1⟩ := bz2_ BK209
    obtain ⟨hcz31_0, hcz31_1, hcz31_2, hcz31_3, hcz31_4, hcz31_5, hfz31_0, hfz31_1, hfz31_2, hfz31_3, hfz31_4, hfz31_5⟩ := bz6_ BK210
    obtain ⟨Ao32, co32, eo32⟩ := Kd.R_slice HO_11.out
    subst eo32
    go_wp2_with (first | (go_at_call 30; (with_reducible refine (ensembleref12_Fits.calls k1 _ _ t214 x210000_1 x210001_1 a4_0 a4_1 a4_2 a4_3 a4_4 a4_5 t224 _ ?side1 ?side2 A28.out).mono ?_); (case side1 => repeat (first | exact (Kd.R_reads' HO_11.out).2.2 | (with_reducible refine Kd.C_alloc ?_ _) | (with_reducible refine Kd.C_drewN ?_ _) | (with_reducible refine Kd.C_drew ?_))); (case side2 => exact (Kd.R_reads' HO_11.out).2.1); rintro e w33 ⟨rfl, hb⟩; replace HO_11 := m_ (Kd.R_below Z6 hb); replace BK209 := bk_ BK209 hb; replace BK210 := bk_ BK210 hb; replace HB := hs_ hb; (try clear hb); (try clear hb2); (try clear hk); (try clear hi)))
    repeat (go_quiet (first | (go_at_call 30; (with_reducible refine (ensembleref12_Fits.calls k1 _ _ t214 x210000_1 x210001_1 a4_0 a4_1 a4_2 a4_3 a4_4 a4_5 t224 _ ?side1 ?side2 A28.out).mono ?_); (case side1 => repeat (first | exact (Kd.R_reads' HO_11.out).2.2 | (with_reducible refine Kd.C_alloc ?_ _) | (with_reducible refine Kd.C_drewN ?_ _) | (with_reducible refine Kd.C_drew ?_))); (case side2 => exact (Kd.R_reads' HO_11.out).2.1); rintro e w33 ⟨rfl, hb⟩; replace HO_11 := m_ (Kd.R_below Z6 hb); replace BK209 := bk_ BK209 hb; replace BK210 := bk_ BK210 hb; replace HB := hs_ hb; (try clear hb); (try clear hb2); (try clear hk); (try clear hi))); try go_wp2_with (first | (go_at_call 30; (with_reducible refine (ensembleref12_Fits.calls k1 _ _ t214 x210000_1 x210001_1 a4_0 a4_1 a4_2 a4_3 a4_4 a4_5 t224 _ ?side1 ?side2 A28.out).mono ?_); (case side1 => repeat (first | exact (Kd.R_reads' HO_11.out).2.2 | (with_reducible refine Kd.C_alloc ?_ _) | (with_reducible refine Kd.C_drewN ?_ _) | (with_reducible refine Kd.C_drew ?_))); (case side2 => exact (Kd.R_reads' HO_11.out).2.1); rintro e w33 ⟨rfl, hb⟩; replace HO_11 := m_ (Kd.R_below Z6 hb); replace BK209 := bk_ BK209 hb; replace BK210 := bk_ BK210 hb; replace HB := hs_ hb; (try clear hb); (try clear hb2); (try clear hk); (try clear hi))))
    go_ret
    exact ⟨by first | rfl | (simp [b1_, b0_] <;> rfl) | (simp [*, b1_, b0_] <;> rfl), hb_⟩
mutual
def ensembleref12_Earliest.j0 : Nat → Int → List (S51) → List (S41) → Bool → Int → Int → Int → Int → Int → Int → Int → Int → Option (Int × Int)
 | 0, _, _, _, _, _, _, _, _, _, _, _, _ => none
 | k + 1, x0, x1, x3, x29, x226000, x226001, x227000, x227001, x227002, x227003, x227004, x227005 => if x29 = true then (some (0, 1)) else (ensembleref12_Earliest.l0 k x0 x1 x3 ([] : List (S52)) 0 x226000 x226001 x227000 x227001 x227002 x227003 x227004 x227005)
def ensembleref12_Earliest.l0 : Nat → Int → List (S51) → List (S41) → List (S52) → Int → Int → Int → Int → Int → Int → Int → Int → Int → Option (Int × Int)
 | 0, _, _, _, _, _, _, _, _, _, _, _, _, _ => none
 | k + 1, x0, x1, x3, x12, x13, x226000, x226001, x227000, x227001, x227002, x227003, x227004, x227005 => if x13 < (x3.length : Int) then (if 0 ≤ x13 then (if x12.length + ((a8_ x3 x13).f4).length < 4398046511104 then (ensembleref12_Earliest.l0 k x0 x1 x3 (x12 ++ ((a8_ x3 x13).f4)) (wrap64 (x13 + 1)) x226000 x226001 x227000 x227001 x227002 x227003 x227004 x227005) else (none)) else (none)) else ((ensembleref05_More.f k x1 x12).bind fun bt232 => (if bt232.2 = 0 then ((ensembleref12_At.f k x0 x1 x226000 x226001 x3 x227000 x227001 x227002 x227003 x227004 x227005).bind fun t236 => (if t236 = true then (some (x0, 0)) else (ensembleref12_Earliest.l1 k x0 x1 x3 1073741825 0 x226000 x226001 x227000 x227001 x227002 x227003 x227004 x227005))) else (some (0, bt232.2))))
def ensembleref12_Earliest.l1 : Nat → Int → List (S51) → List (S41) → Int → Int → Int → Int → Int → Int → Int → Int → Int → Int → Option (Int × Int)
 | 0, _, _, _, _, _, _, _, _, _, _, _, _, _ => none
 | k + 1, x0, x1, x3, x16, x17, x226000, x226001, x227000, x227001, x227002, x227003, x227004, x227005 => if x17 < (x3.length : Int) then (if 0 ≤ x17 then (if ((a8_ x3 x17).f2) > x0 then (if ((a8_ x3 x17).f2) < x16 then ((ensembleref12_At.f k ((a8_ x3 x17).f2) x1 x226000 x226001 x3 x227000 x227001 x227002 x227003 x227004 x227005).bind fun t238 => (if t238 = true then (ensembleref12_Earliest.l1 k x0 x1 x3 ((a8_ x3 x17).f2) (wrap64 (x17 + 1)) x226000 x226001 x227000 x227001 x227002 x227003 x227004 x227005) else (ensembleref12_Earliest.l1 k x0 x1 x3 x16 (wrap64 (x17 + 1)) x226000 x226001 x227000 x227001 x227002 x227003 x227004 x227005))) else (ensembleref12_Earliest.l1 k x0 x1 x3 x16 (wrap64 (x17 + 1)) x226000 x226001 x227000 x227001 x227002 x227003 x227004 x227005)) else (ensembleref12_Earliest.l1 k x0 x1 x3 x16 (wrap64 (x17 + 1)) x226000 x226001 x227000 x227001 x227002 x227003 x227004 x227005)) else (none)) else (some (x16, 0))
end
def ensembleref12_Earliest.f (k : Nat) (a0 : Int) (l1 : List (S51)) (a2_0 a2_1 : Int) (l3 : List (S41)) (a4_0 a4_1 a4_2 a4_3 a4_4 a4_5 : Int) : Option (Int × Int) := if a0 < 0 then (ensembleref12_Earliest.j0 k a0 l1 l3 true a2_0 a2_1 a4_0 a4_1 a4_2 a4_3 a4_4 a4_5) else (if a0 > 1073741824 then (ensembleref12_Earliest.j0 k a0 l1 l3 true a2_0 a2_1 a4_0 a4_1 a4_2 a4_3 a4_4 a4_5) else ((ensembleref12_Right.f a4_0 a4_1 a4_2 a4_3 a4_4 a4_5).bind fun t227 => (ensembleref12_Earliest.j0 k a0 l1 l3 (!t227) a2_0 a2_1 a4_0 a4_1 a4_2 a4_3 a4_4 a4_5)))
set_option maxHeartbeats 8000000 in
set_option maxRecDepth 100000 in
theorem ensembleref12_Earliest.calls (k : Nat) (a0 : Int) (A1 : Option Addr) (c1 : Nat) (l1 : List (S51)) (a2_0 a2_1 : Int) (A3 : Option Addr) (c3 : Nat) (l3 : List (S41)) (a4_0 a4_1 a4_2 a4_3 a4_4 a4_5 r1 r2 : Int) (w : World) (hr1 : Kd.C k51 w A1 l1.length l1) (hc1 : l1.length ≤ c1) (hr3 : Kd.C k41 w A3 l3.length l3) (hc3 : l3.length ≤ c3) (h : ensembleref12_Earliest.f k a0 l1 a2_0 a2_1 l3 a4_0 a4_1 a4_2 a4_3 a4_4 a4_5 = some (r1, r2)) :
  Calls Try.prog 28 #[.int .i64 a0, .slice A1 l1.length c1, .agg #[.int .i64 a2_0, .int .i64 a2_1], .slice A3 l3.length c3, .agg #[.int .i64 a4_0, .int .i64 a4_1, .int .i64 a4_2, .int .i64 a4_3, .int .i64 a4_4, .int .i64 a4_5]] w fun e w' => e = .returned (.tuple #[.int .i64 r1, .int .i64 r2]) ∧ Below w.heap.size w w' := by
 have hu24 := Try.underlying24
 have hu29 := Try.underlying29
 have HR1 := m_ hr1
 have HC1 := m_ hc1
 clear hr1 hc1
 have HR3 := m_ hr3
 have HC3 := m_ hc3
 clear hr3 hc3
 have HB := m_ (Below.refl w.heap.size w)
 have H := h
 unfold ensembleref12_Earliest.f at H
 clear h
 have HC6 := m_ H
 clear H
 go_enter Try.func28, Try.ntmps28
 go_upto_region 1 with (first | ((with_reducible refine a3_ (N := 7) rfl ?_); refine bx 7 #[.int .i64 a2_0, .int .i64 a2_1] 24 ?_; intro gb225 hg w7 hbox hb; have BK225 := m_ (hbox); have GW225 := ge_ hg; have GE225 := ge_ hg; replace HB := hs_ hb; clear hb hbox hg) | ((with_reducible refine a3_ (N := 9) rfl ?_); refine bx 9 #[.int .i64 a4_0, .int .i64 a4_1, .int .i64 a4_2, .int .i64 a4_3, .int .i64 a4_4, .int .i64 a4_5] 29 ?_; intro gb226 hg w8 hbox hb; have BK226 := m_ (hbox); have GW226 := ge_ hg; have GE226 := ge_ hg; have NB225_226 := nl_ BK225 hg; have NB226_225 := nr_ BK225 hg; replace BK225 := bk_ BK225 hb; replace HB := hs_ hb; clear hb hbox hg))
 (try simp only [Act.put, List.setIfInBounds_toArray, List.set_cons_zero, List.set_cons_succ])
 go_cut [29] (fun v29 wc => ∃ (kq : Nat) (x29_5 : Bool), v29 = .bool x29_5 ∧ A_ (ensembleref12_Earliest.j0 kq a0 l1 l3 x29_5 a2_0 a2_1 a4_0 a4_1 a4_2 a4_3 a4_4 a4_5 = some (r1, r2)) ∧ A_ (kq ≤ k) ∧ A_ (wc.heap[gb225]? = some (.cells #[.int .i64 a2_0, .int .i64 a2_1] 24 (0, 0))) ∧ A_ (wc.heap[gb226]? = some (.cells #[.int .i64 a4_0, .int .i64 a4_1, .int .i64 a4_2, .int .i64 a4_3, .int .i64 a4_4, .int .i64 a4_5] 29 (0, 0))) ∧ A_ (Below w.heap.size w wc))
 case first =>
  have H := HC6.out
  clear HC6
  by_cases c9 : a0 < 0
  ·rw [if_pos c9] at H
   have c9b0 : decide (a0 < 0) = true := decide_eq_true c9
   clear c9
   (first | rw [c9b0] | (simp only [i64_w, i32_w]; rw [c9b0]) | skip)
   have H' := m_ H
   clear H
   go_wp2
   go_meet
   case rel => exact ⟨_, (true), Z2, H', ⟨by first | omega | exact Nat.le_refl _⟩, ⟨bo_ BK225⟩, ⟨bo_ BK226⟩, ⟨hb_⟩⟩
  ·rw [if_neg c9] at H
   have c9b0 : decide (a0 < 0) = false := decide_eq_false c9
   clear c9
   (first | rw [c9b0] | (simp only [i64_w, i32_w]; rw [c9b0]) | skip)
   by_cases c10 : a0 > 1073741824
   ·rw [if_pos c10] at H
    have c10b0 : decide (1073741824 < a0) = true := decide_eq_true c10
    clear c10
    have H' := m_ H
    clear H
    go_wp2
    go_meet
    case rel => exact ⟨_, (true), Z2, H', ⟨by first | omega | exact Nat.le_refl _⟩, ⟨bo_ BK225⟩, ⟨bo_ BK226⟩, ⟨hb_⟩⟩
   ·rw [if_neg c10] at H
    have c10b0 : decide (1073741824 < a0) = false := decide_eq_false c10
    clear c10
    replace H := Option.bind_eq_some_iff.mp H
    obtain ⟨t227, A110, H⟩ := H
    try dsimp only at H
    have A11 := m_ A110
    clear A110
    have H' := m_ H
    clear H
    have hnb12 := NB226_225.out
    have hnc12 := NB225_226.out
    obtain ⟨hcz13_0, hcz13_1, hcz13_2, hcz13_3, hcz13_4, hcz13_5, hfz13_0, hfz13_1, hfz13_2, hfz13_3, hfz13_4, hfz13_5⟩ := bz6_ BK226
    go_wp2_with (first | (go_at_call 33; (with_reducible refine (ensembleref12_Right.calls a4_0 a4_1 a4_2 a4_3 a4_4 a4_5 t227 _ A11.out).mono ?_); rintro e w14 ⟨rfl, hb⟩; replace BK225 := bk_ BK225 hb; replace BK226 := bk_ BK226 hb; replace HB := hs_ hb; (try clear hb); (try clear hb2); (try clear hk); (try clear hi)))
    go_meet
    case rel => exact ⟨_, (!t227), Z2, H', ⟨by first | omega | exact Nat.le_refl _⟩, ⟨bo_ BK225⟩, ⟨bo_ BK226⟩, ⟨hb_⟩⟩
 case rest =>
  clear HC6
  try clear c1
  try clear c2
  try clear p2
  try clear c3
  try clear c9
  try clear c9b0
  try clear c10
  try clear c10b0
  try clear c12
  try clear hcz13_0 hcz13_1 hcz13_2 hcz13_3 hcz13_4 hcz13_5 hfz13_0 hfz13_1 hfz13_2 hfz13_3 hfz13_4 hfz13_5
  obtain ⟨kq, x29_5, rfl, HA, HJ5, BK225, BK226, HB⟩ := hcut
  cases kq with
  | zero => exact absurd HA.out (by simp [ensembleref12_Earliest.j0])
  | succ kj5 =>
   have H := HA.out
   clear HA
   simp only [ensembleref12_Earliest.j0] at H
   by_cases c15 : x29_5 = true
   ·subst c15
    have H1 : (some (0, 1)) = some (r1, r2) := by rw [if_pos rfl] at H; exact H
    clear H
    have H := H1
    clear H1
    simp only [Option.some.injEq, Prod.mk.injEq] at H
    obtain ⟨rfl, rfl⟩ := H
    go_wp2
    go_ret2
    exact ⟨by first | rfl | (simp [b1_, b0_] <;> rfl) | (simp [*, b1_, b0_] <;> rfl), hb_⟩
   ·replace c15 := Bool.eq_false_iff.mpr c15
    subst c15
    have H1 : (ensembleref12_Earliest.l0 kj5 a0 l1 l3 ([] : List (S52)) 0 a2_0 a2_1 a4_0 a4_1 a4_2 a4_3 a4_4 a4_5) = some (r1, r2) := by rw [if_neg (show ¬ (false = true) by decide)] at H; exact H
    clear H
    have H := H1
    clear H1
    have H' := m_ H
    clear H
    go_wp2
    go_loopg [12, 13] kj5 (fun kq v12 v13 w' => ∃ (x12_2 : List (S52)) (x13_2 : Int), v13 = .int .i64 x13_2 ∧ A_ (ensembleref12_Earliest.l0 kq a0 l1 l3 x12_2 x13_2 a2_0 a2_1 a4_0 a4_1 a4_2 a4_3 a4_4 a4_5 = some (r1, r2)) ∧ A_ (kq ≤ kj5) ∧ A_ (Kd.R k52 52 w' w.heap.size (fun _ => True) v12 x12_2) ∧ A_ (w'.heap[gb225]? = some (.cells #[.int .i64 a2_0, .int .i64 a2_1] 24 (0, 0))) ∧ A_ (w'.heap[gb226]? = some (.cells #[.int .i64 a4_0, .int .i64 a4_1, .int .i64 a4_2, .int .i64 a4_3, .int .i64 a4_4, .int .i64 a4_5] 29 (0, 0))) ∧ A_ (Below w.heap.size w w'))
    case atStart => exact ⟨(([] : List (S52))), (0), Z2, H', ⟨Nat.le_refl _⟩, ⟨by first | exact Kd.R_nil _ _ _ _ _ | exact Kd.N_nil _ _ _ _ _ | exact Kd.V_nil _ _ _ _ _ | exact Kd.Q_nil _ _ _ _ _ | exact Kd.S_nil _ _ _ _ _⟩, ⟨bo_ BK225⟩, ⟨bo_ BK226⟩, ⟨hb_⟩⟩
    case round =>
     clear H'
     try clear c1
     try clear c2
     try clear p2
     try clear c3
     try clear c9
     try clear c9b0
     try clear c10
     try clear c10b0
     try clear c12
     try clear c15
     try clear hcz13_0 hcz13_1 hcz13_2 hcz13_3 hcz13_4 hcz13_5 hfz13_0 hfz13_1 hfz13_2 hfz13_3 hfz13_4 hfz13_5
     try clear p2
     obtain ⟨x12_2, x13_2, rfl, HA, HK2, HO_12, BK225, BK226, HB⟩ := hrel
     cases gk with
     | zero => exact absurd HA.out (by simp [ensembleref12_Earliest.l0])
     | succ k2 =>
      have H := HA.out
      clear HA
      simp only [ensembleref12_Earliest.l0] at H
      by_cases c16 : x13_2 < (l3.length : Int)
      ·rw [if_pos c16] at H
       have c16b0 : decide (x13_2 < (l3.length : Int)) = true := decide_eq_true c16
       clear c16
       by_cases c17 : 0 ≤ x13_2
       ·rw [if_pos c17] at H
        have c17b0 : decide (0 ≤ x13_2) = true := decide_eq_true c17
        clear c17
        by_cases c18 : x12_2.length + ((a8_ l3 x13_2).f4).length < 4398046511104
        ·rw [if_pos c18] at H
         have LMc18 := m_ c18
         clear c18
         obtain ⟨y229, hy229⟩ : ∃ y_ : List (S52), y_ = (x12_2 ++ ((a8_ l3 x13_2).f4)) := ⟨_, rfl⟩
         replace H : (ensembleref12_Earliest.l0 k2 a0 l1 l3 y229 (wrap64 (x13_2 + 1)) a2_0 a2_1 a4_0 a4_1 a4_2 a4_3 a4_4 a4_5) = some (r1, r2) := by first | (rw [hy229]; with_reducible exact H) | (have H2_ := (Option.bind_some _ _).symm.trans H; rw [hy229]; with_reducible exact H2_) | (have H2_ := (Option.bind_some _ _).symm.trans H; with_reducible exact H2_) | with_reducible exact H | (rw [hy229]; exact H) | exact H
         have Ny229 := m_ hy229
         clear hy229
         have H' := m_ H
         clear H
         have p228 : 0 ≤ (x13_2 : Int) := of_decide_eq_true Z1
         have q228 : x13_2 < (l3.length : Int) := of_decide_eq_true Z1
         obtain ⟨ad228, A228_4, c228_4, e228, hx228_0, hx228_1, hx228_2, hx228_3, hx228_4, hl228_4, hi228_4⟩ := at_T41 HR3.out x13_2 p228 q228
         cases e228
         replace hx228_0 := cx_ hx228_0
         replace hx228_1 := cx_ hx228_1
         replace hx228_2 := cx_ hx228_2
         replace hx228_3 := cx_ hx228_3
         replace hx228_4 := cx_ hx228_4
         have HR228_4 := m_ hi228_4
         have HC228_4 := m_ hl228_4
         clear hi228_4 hl228_4
         replace p228 := eq_true p228
         replace q228 := eq_true q228
         go_wp2_with (first | ((with_reducible refine gate_builtin (b := .append) (xs := #[.tmp 36, .tmp 41]) rfl ?_); at_builtin; refine Kd.R_append_rows k52 (w0 := w) w.heap.size rfl (.tmp 36) (.tmp 41) 39 52 (.agg #[(.int .i64 0), (.int .i64 0), (.int .u64 0), (.int .i64 0)]) 32 rfl Try.underlying39 info52 rfl (by decide) (by omega) u12 x12_2 ((a8_ l3 x13_2).f4) _ _ _ (fun _ => True) (fun _ => False) rfl rfl ?aO ?aR (fun _ _ h => h) (fun _ h => h.elim) ?aF ?aB ?aS ?aL ?_; (case aR => repeat (first | exact (Kd.C_below HR228_4.out HB.out) | (with_reducible refine Kd.C_alloc ?_ _) | (with_reducible refine Kd.C_drewN ?_ _) | (with_reducible refine Kd.C_drew ?_))); (case aB => exact hb_); (case aF => exact (fun _ _ => trivial)); (case aO => exact Z11); (case aS => exact (b6_ hb_)); (case aL => have := LMc18.out; omega); intro v230 w19 ho hb hg hat; rw [← Ny229.out] at ho; have HO231 := m_ (ho); replace BK225 := m_ (d7_ (g := gb225) (o := .cells #[.int .i64 a2_0, .int .i64 a2_1] 24 (0, 0)) (bo_ BK225) hg (Kd.R_ne HO_12.out BK225.out (by decide))); replace BK226 := m_ (d7_ (g := gb226) (o := .cells #[.int .i64 a4_0, .int .i64 a4_1, .int .i64 a4_2, .int .i64 a4_3, .int .i64 a4_4, .int .i64 a4_5] 29 (0, 0)) (bo_ BK226) hg (Kd.R_ne HO_12.out BK226.out (by decide))); replace HB := m_ (hb); clear HO_12; clear ho hb hg hat))
         go_roundg k2
         case measure => have := HJ5.out; have := HK2.out; omega
         case rel => exact ⟨(y229), (wrap64 (x13_2 + 1)), Z2, H', ⟨by have := HJ5.out; have := HK2.out; omega⟩, ⟨by (with_reducible repeat (first | apply Kd.R_alloc | apply Kd.R_drewN | apply Kd.R_drew)); exact HO231.out⟩, ⟨bo_ BK225⟩, ⟨bo_ BK226⟩, ⟨hb_⟩⟩
        ·rw [if_neg c18] at H
         exact absurd H (by simp)
       ·rw [if_neg c17] at H
        exact absurd H (by simp)
      ·rw [if_neg c16] at H
       have c16b0 : decide (x13_2 < (l3.length : Int)) = false := decide_eq_false c16
       clear c16
       replace H := Option.bind_eq_some_iff.mp H
       obtain ⟨⟨t232, t233⟩, A200, H⟩ := H
       try dsimp only at H
       have A20 := m_ A200
       clear A200
       by_cases c21 : t233 = 0
       ·rw [if_pos c21] at H
        have c21b0 : (t233 == 0) = true := beq_iff_eq.mpr c21
        have c21b1 : (t233 != 0) = false := bne_eq_false_iff_eq.mpr c21
        clear c21
        replace H := Option.bind_eq_some_iff.mp H
        obtain ⟨t236, A220, H⟩ := H
        try dsimp only at H
        have A22 := m_ A220
        clear A220
        by_cases c23 : t236 = true
        ·subst c23
         have H1 : (some (a0, 0)) = some (r1, r2) := by rw [if_pos rfl] at H; exact H
         clear H
         have H := H1
         clear H1
         simp only [Option.some.injEq, Prod.mk.injEq] at H
         obtain ⟨rfl, rfl⟩ := H
         obtain ⟨Ao24, co24, eo24⟩ := Kd.R_slice HO_12.out
         subst eo24
         go_wp2_with (first | ((with_reducible refine b2_ (f := 32) rfl ?_); refine goesL_ (some 46) rfl rfl Try.func32 (by kernel_rfl) rfl #[.slice A1 l1.length c1, .slice Ao24 x12_2.length co24] rfl Z0 ?_; (with_reducible refine (ensembleref05_More.calls k2 _ _ l1 _ _ x12_2 t232 t233 _ ?side1 ?side2 ?side3 ?side4 A20.out).mono ?_); (case side1 => exact cs_ HR1); (case side2 => exact HC1.out); (case side3 => repeat (first | exact (Kd.R_reads' HO_12.out).2.2 | (with_reducible refine Kd.C_alloc ?_ _) | (with_reducible refine Kd.C_drewN ?_ _) | (with_reducible refine Kd.C_drew ?_))); (case side4 => exact (Kd.R_reads' HO_12.out).2.1); rintro e w25 ⟨v234, rfl, ho0, hb⟩; refine ⟨_, rfl, ?_⟩; have HO235 := m_ (Kd.R_lower ho0 (b6_ hb_)); replace HO_12 := m_ (Kd.R_below Z11 hb); replace BK225 := bk_ BK225 hb; replace BK226 := bk_ BK226 hb; replace HB := hs_ hb; (try clear hb); (try clear hb2); (try clear hk); (try clear hi); (try clear ho0); have hnb26 := NB225_226.out; have hnc26 := NB226_225.out; obtain ⟨hcz27_0, hcz27_1, hfz27_0, hfz27_1⟩ := bz2_ BK225; obtain ⟨hcz28_0, hcz28_1, hcz28_2, hcz28_3, hcz28_4, hcz28_5, hfz28_0, hfz28_1, hfz28_2, hfz28_3, hfz28_4, hfz28_5⟩ := bz6_ BK226) | ((with_reducible refine b2_ (f := 31) rfl ?_); refine goesL_ (some 57) rfl rfl Try.func31 (by kernel_rfl) rfl #[.int .i64 a0, .slice A1 l1.length c1, .agg #[.int .i64 a2_0, .int .i64 a2_1], .slice A3 l3.length c3, .agg #[.int .i64 a4_0, .int .i64 a4_1, .int .i64 a4_2, .int .i64 a4_3, .int .i64 a4_4, .int .i64 a4_5]] rfl Z0 ?_; (with_reducible refine (ensembleref12_At.calls k2 a0 _ _ l1 a2_0 a2_1 _ _ l3 a4_0 a4_1 a4_2 a4_3 a4_4 a4_5 true _ ?side1 ?side2 ?side3 ?side4 A22.out).mono ?_); (case side1 => exact cs_ HR1); (case side2 => exact HC1.out); (case side3 => exact cs_ HR3); (case side4 => exact HC3.out); rintro e w29 ⟨rfl, hb⟩; refine ⟨_, rfl, ?_⟩; replace HO_12 := m_ (Kd.R_below Z11 hb); replace HO235 := m_ (Kd.R_below (by (with_reducible repeat (first | apply Kd.R_alloc | apply Kd.R_drewN | apply Kd.R_drew)); exact HO235.out) hb); replace BK225 := bk_ BK225 hb; replace BK226 := bk_ BK226 hb; replace HB := hs_ hb; (try clear hb); (try clear hb2); (try clear hk); (try clear hi)))
         go_ret2
         exact ⟨by first | rfl | (simp [b1_, b0_] <;> rfl) | (simp [*, b1_, b0_] <;> rfl), hb_⟩
        ·replace c23 := Bool.eq_false_iff.mpr c23
         subst c23
         have H1 : (ensembleref12_Earliest.l1 k2 a0 l1 l3 1073741825 0 a2_0 a2_1 a4_0 a4_1 a4_2 a4_3 a4_4 a4_5) = some (r1, r2) := by rw [if_neg (show ¬ (false = true) by decide)] at H; exact H
         clear H
         have H := H1
         clear H1
         have H' := m_ H
         clear H
         obtain ⟨Ao30, co30, eo30⟩ := Kd.R_slice HO_12.out
         subst eo30
         go_wp2_with (first | ((with_reducible refine b2_ (f := 32) rfl ?_); refine goesL_ (some 46) rfl rfl Try.func32 (by kernel_rfl) rfl #[.slice A1 l1.length c1, .slice Ao30 x12_2.length co30] rfl Z0 ?_; (with_reducible refine (ensembleref05_More.calls k2 _ _ l1 _ _ x12_2 t232 t233 _ ?side1 ?side2 ?side3 ?side4 A20.out).mono ?_); (case side1 => exact cs_ HR1); (case side2 => exact HC1.out); (case side3 => repeat (first | exact (Kd.R_reads' HO_12.out).2.2 | (with_reducible refine Kd.C_alloc ?_ _) | (with_reducible refine Kd.C_drewN ?_ _) | (with_reducible refine Kd.C_drew ?_))); (case side4 => exact (Kd.R_reads' HO_12.out).2.1); rintro e w31 ⟨v234, rfl, ho0, hb⟩; refine ⟨_, rfl, ?_⟩; have HO235 := m_ (Kd.R_lower ho0 (b6_ hb_)); replace HO_12 := m_ (Kd.R_below Z11 hb); replace BK225 := bk_ BK225 hb; replace BK226 := bk_ BK226 hb; replace HB := hs_ hb; (try clear hb); (try clear hb2); (try clear hk); (try clear hi); (try clear ho0); have hnb32 := NB225_226.out; have hnc32 := NB226_225.out; obtain ⟨hcz33_0, hcz33_1, hfz33_0, hfz33_1⟩ := bz2_ BK225; obtain ⟨hcz34_0, hcz34_1, hcz34_2, hcz34_3, hcz34_4, hcz34_5, hfz34_0, hfz34_1, hfz34_2, hfz34_3, hfz34_4, hfz34_5⟩ := bz6_ BK226) | ((with_reducible refine b2_ (f := 31) rfl ?_); refine goesL_ (some 57) rfl rfl Try.func31 (by kernel_rfl) rfl #[.int .i64 a0, .slice A1 l1.length c1, .agg #[.int .i64 a2_0, .int .i64 a2_1], .slice A3 l3.length c3, .agg #[.int .i64 a4_0, .int .i64 a4_1, .int .i64 a4_2, .int .i64 a4_3, .int .i64 a4_4, .int .i64 a4_5]] rfl Z0 ?_; (with_reducible refine (ensembleref12_At.calls k2 a0 _ _ l1 a2_0 a2_1 _ _ l3 a4_0 a4_1 a4_2 a4_3 a4_4 a4_5 false _ ?side1 ?side2 ?side3 ?side4 A22.out).mono ?_); (case side1 => exact cs_ HR1); (case side2 => exact HC1.out); (case side3 => exact cs_ HR3); (case side4 => exact HC3.out); rintro e w35 ⟨rfl, hb⟩; refine ⟨_, rfl, ?_⟩; replace HO_12 := m_ (Kd.R_below Z11 hb); replace HO235 := m_ (Kd.R_below (by (with_reducible repeat (first | apply Kd.R_alloc | apply Kd.R_drewN | apply Kd.R_drew)); exact HO235.out) hb); replace BK225 := bk_ BK225 hb; replace BK226 := bk_ BK226 hb; replace HB := hs_ hb; (try clear hb); (try clear hb2); (try clear hk); (try clear hi)))
         go_loopg [16, 17] k2 (fun kq v16 v17 w' => ∃ (x16_3 : Int) (x17_3 : Int), v16 = .int .i64 x16_3 ∧ v17 = .int .i64 x17_3 ∧ A_ (ensembleref12_Earliest.l1 kq a0 l1 l3 x16_3 x17_3 a2_0 a2_1 a4_0 a4_1 a4_2 a4_3 a4_4 a4_5 = some (r1, r2)) ∧ A_ (kq ≤ k2) ∧ A_ (w'.heap[gb225]? = some (.cells #[.int .i64 a2_0, .int .i64 a2_1] 24 (0, 0))) ∧ A_ (w'.heap[gb226]? = some (.cells #[.int .i64 a4_0, .int .i64 a4_1, .int .i64 a4_2, .int .i64 a4_3, .int .i64 a4_4, .int .i64 a4_5] 29 (0, 0))) ∧ A_ (Below w.heap.size w w'))
         case atStart => exact ⟨(1073741825), (0), Z2, Z2, H', ⟨Nat.le_refl _⟩, ⟨bo_ BK225⟩, ⟨bo_ BK226⟩, ⟨hb_⟩⟩
         case round =>
          clear H'
          try clear c1
          try clear c2
          try clear p2
          try clear q2
          try clear hx2
          try clear c3
          try clear p6
          try clear c9
          try clear c9b0
          try clear c10
          try clear c10b0
          try clear c12
          try clear c15
          try clear c16
          try clear c16b0
          try clear c17
          try clear c17b0
          try clear c18
          try clear c21
          try clear c21b0
          try clear c21b1
          try clear c22
          try clear p22
          try clear q22
          try clear hx22
          try clear c23
          try clear c26
          try clear c28
          try clear c31
          try clear c32
          try clear hcz13_0 hcz13_1 hcz13_2 hcz13_3 hcz13_4 hcz13_5
          try clear hcz27_0 hcz27_1
          try clear hcz28_0 hcz28_1 hcz28_2 hcz28_3 hcz28_4 hcz28_5
          try clear hcz33_0 hcz33_1
          try clear hcz34_0 hcz34_1 hcz34_2 hcz34_3 hcz34_4 hcz34_5
          try clear hfz13_0 hfz13_1 hfz13_2 hfz13_3 hfz13_4 hfz13_5
          try clear hfz27_0 hfz27_1
          try clear hfz28_0 hfz28_1 hfz28_2 hfz28_3 hfz28_4 hfz28_5
          try clear hfz33_0 hfz33_1
          try clear hfz34_0 hfz34_1 hfz34_2 hfz34_3 hfz34_4 hfz34_5
          try clear hx228_0
          try clear hx228_1
          try clear hx228_2
          try clear hx228_3
          try clear hx228_4
          try clear p2
          try clear p228
          try clear q228
          obtain ⟨x16_3, x17_3, rfl, rfl, HA, HK3, BK225, BK226, HB⟩ := hrel
          cases gk with
          | zero => exact absurd HA.out (by simp [ensembleref12_Earliest.l1])
          | succ k3 =>
           have H := HA.out
           clear HA
           simp only [ensembleref12_Earliest.l1] at H
           by_cases c36 : x17_3 < (l3.length : Int)
           ·rw [if_pos c36] at H
            have c36b0 : decide (x17_3 < (l3.length : Int)) = true := decide_eq_true c36
            clear c36
            by_cases c37 : 0 ≤ x17_3
            ·rw [if_pos c37] at H
             have c37b0 : decide (0 ≤ x17_3) = true := decide_eq_true c37
             clear c37
             by_cases c38 : ((a8_ l3 x17_3).f2) > a0
             ·rw [if_pos c38] at H
              have c38b0 : decide (a0 < ((a8_ l3 x17_3).f2)) = true := decide_eq_true c38
              clear c38
              by_cases c39 : ((a8_ l3 x17_3).f2) < x16_3
              ·rw [if_pos c39] at H
               have c39b0 : decide (((a8_ l3 x17_3).f2) < x16_3) = true := decide_eq_true c39
               clear c39
               replace H := Option.bind_eq_some_iff.mp H
               obtain ⟨t238, A400, H⟩ := H
               try dsimp only at H
               have A40 := m_ A400
               clear A400
               by_cases c41 : t238 = true
               ·subst c41
                have H1 : (ensembleref12_Earliest.l1 k3 a0 l1 l3 ((a8_ l3 x17_3).f2) (wrap64 (x17_3 + 1)) a2_0 a2_1 a4_0 a4_1 a4_2 a4_3 a4_4 a4_5) = some (r1, r2) := by rw [if_pos rfl] at H; exact H
                clear H
                have H := H1
                clear H1
                have H' := m_ H
                clear H
                have p237 : 0 ≤ (x17_3 : Int) := of_decide_eq_true Z1
                have q237 : x17_3 < (l3.length : Int) := of_decide_eq_true Z1
                obtain ⟨ad237, A237_4, c237_4, e237, hx237_0, hx237_1, hx237_2, hx237_3, hx237_4, hl237_4, hi237_4⟩ := at_T41 HR3.out x17_3 p237 q237
                cases e237
                replace hx237_0 := cx_ hx237_0
                replace hx237_1 := cx_ hx237_1
                replace hx237_2 := cx_ hx237_2
                replace hx237_3 := cx_ hx237_3
                replace hx237_4 := cx_ hx237_4
                have HR237_4 := m_ hi237_4
                have HC237_4 := m_ hl237_4
                clear hi237_4 hl237_4
                replace p237 := eq_true p237
                replace q237 := eq_true q237
                have hnb42 := NB225_226.out
                have hnc42 := NB226_225.out
                obtain ⟨hcz43_0, hcz43_1, hfz43_0, hfz43_1⟩ := bz2_ BK225
                obtain ⟨hcz44_0, hcz44_1, hcz44_2, hcz44_3, hcz44_4, hcz44_5, hfz44_0, hfz44_1, hfz44_2, hfz44_3, hfz44_4, hfz44_5⟩ := bz6_ BK226
                go_wp2_with (first | (go_at_call 31; (with_reducible refine (ensembleref12_At.calls k3 ((a8_ l3 x17_3).f2) _ _ l1 a2_0 a2_1 _ _ l3 a4_0 a4_1 a4_2 a4_3 a4_4 a4_5 true _ ?side1 ?side2 ?side3 ?side4 A40.out).mono ?_); (case side1 => exact cs_ HR1); (case side2 => exact HC1.out); (case side3 => exact cs_ HR3); (case side4 => exact HC3.out); rintro e w45 ⟨rfl, hb⟩; replace BK225 := bk_ BK225 hb; replace BK226 := bk_ BK226 hb; replace HB := hs_ hb; (try clear hb); (try clear hb2); (try clear hk); (try clear hi)))
                go_roundg k3
                case measure => have := HJ5.out; have := HK2.out; have := HK3.out; omega
                case rel => exact ⟨((a8_ l3 x17_3).f2), (wrap64 (x17_3 + 1)), Z2, Z2, H', ⟨by have := HJ5.out; have := HK2.out; have := HK3.out; omega⟩, ⟨bo_ BK225⟩, ⟨bo_ BK226⟩, ⟨hb_⟩⟩
               ·replace c41 := Bool.eq_false_iff.mpr c41
                subst c41
                have H1 : (ensembleref12_Earliest.l1 k3 a0 l1 l3 x16_3 (wrap64 (x17_3 + 1)) a2_0 a2_1 a4_0 a4_1 a4_2 a4_3 a4_4 a4_5) = some (r1, r2) := by rw [if_neg (show ¬ (false = true) by decide)] at H; exact H
                clear H
                have H := H1
                clear H1
                have H' := m_ H
                clear H
                have p237 : 0 ≤ (x17_3 : Int) := of_decide_eq_true Z1
                have q237 : x17_3 < (l3.length : Int) := of_decide_eq_true Z1
                obtain ⟨ad237, A237_4, c237_4, e237, hx237_0, hx237_1, hx237_2, hx237_3, hx237_4, hl237_4, hi237_4⟩ := at_T41 HR3.out x17_3 p237 q237
                cases e237
                replace hx237_0 := cx_ hx237_0
                replace hx237_1 := cx_ hx237_1
                replace hx237_2 := cx_ hx237_2
                replace hx237_3 := cx_ hx237_3
                replace hx237_4 := cx_ hx237_4
                have HR237_4 := m_ hi237_4
                have HC237_4 := m_ hl237_4
                clear hi237_4 hl237_4
                replace p237 := eq_true p237
                replace q237 := eq_true q237
                have hnb46 := NB225_226.out
                have hnc46 := NB226_225.out
                obtain ⟨hcz47_0, hcz47_1, hfz47_0, hfz47_1⟩ := bz2_ BK225
                obtain ⟨hcz48_0, hcz48_1, hcz48_2, hcz48_3, hcz48_4, hcz48_5, hfz48_0, hfz48_1, hfz48_2, hfz48_3, hfz48_4, hfz48_5⟩ := bz6_ BK226
                go_wp2_with (first | (go_at_call 31; (with_reducible refine (ensembleref12_At.calls k3 ((a8_ l3 x17_3).f2) _ _ l1 a2_0 a2_1 _ _ l3 a4_0 a4_1 a4_2 a4_3 a4_4 a4_5 false _ ?side1 ?side2 ?side3 ?side4 A40.out).mono ?_); (case side1 => exact cs_ HR1); (case side2 => exact HC1.out); (case side3 => exact cs_ HR3); (case side4 => exact HC3.out); rintro e w49 ⟨rfl, hb⟩; replace BK225 := bk_ BK225 hb; replace BK226 := bk_ BK226 hb; replace HB := hs_ hb; (try clear hb); (try clear hb2); (try clear hk); (try clear hi)))
                go_roundg k3
                case measure => have := HJ5.out; have := HK2.out; have := HK3.out; omega
                case rel => exact ⟨(x16_3), (wrap64 (x17_3 + 1)), Z2, Z2, H', ⟨by have := HJ5.out; have := HK2.out; have := HK3.out; omega⟩, ⟨bo_ BK225⟩, ⟨bo_ BK226⟩, ⟨hb_⟩⟩
              ·rw [if_neg c39] at H
               have c39b0 : decide (((a8_ l3 x17_3).f2) < x16_3) = false := decide_eq_false c39
               clear c39
               have H' := m_ H
               clear H
               have p237 : 0 ≤ (x17_3 : Int) := of_decide_eq_true Z1
               have q237 : x17_3 < (l3.length : Int) := of_decide_eq_true Z1
               obtain ⟨ad237, A237_4, c237_4, e237, hx237_0, hx237_1, hx237_2, hx237_3, hx237_4, hl237_4, hi237_4⟩ := at_T41 HR3.out x17_3 p237 q237
               cases e237
               replace hx237_0 := cx_ hx237_0
               replace hx237_1 := cx_ hx237_1
               replace hx237_2 := cx_ hx237_2
               replace hx237_3 := cx_ hx237_3
               replace hx237_4 := cx_ hx237_4
               have HR237_4 := m_ hi237_4
               have HC237_4 := m_ hl237_4
               clear hi237_4 hl237_4
               replace p237 := eq_true p237
               replace q237 := eq_true q237
               go_wp2
               go_roundg k3
               case measure => have := HJ5.out; have := HK2.out; have := HK3.out; omega
               case rel => exact ⟨(x16_3), (wrap64 (x17_3 + 1)), Z2, Z2, H', ⟨by have := HJ5.out; have := HK2.out; have := HK3.out; omega⟩, ⟨bo_ BK225⟩, ⟨bo_ BK226⟩, ⟨hb_⟩⟩
             ·rw [if_neg c38] at H
              have c38b0 : decide (a0 < ((a8_ l3 x17_3).f2)) = false := decide_eq_false c38
              clear c38
              have H' := m_ H
              clear H
              have p237 : 0 ≤ (x17_3 : Int) := of_decide_eq_true Z1
              have q237 : x17_3 < (l3.length : Int) := of_decide_eq_true Z1
              obtain ⟨ad237, A237_4, c237_4, e237, hx237_0, hx237_1, hx237_2, hx237_3, hx237_4, hl237_4, hi237_4⟩ := at_T41 HR3.out x17_3 p237 q237
              cases e237
              replace hx237_0 := cx_ hx237_0
              replace hx237_1 := cx_ hx237_1
              replace hx237_2 := cx_ hx237_2
              replace hx237_3 := cx_ hx237_3
              replace hx237_4 := cx_ hx237_4
              have HR237_4 := m_ hi237_4
              have HC237_4 := m_ hl237_4
              clear hi237_4 hl237_4
              replace p237 := eq_true p237
              replace q237 := eq_true q237
              go_wp2
              go_roundg k3
              case measure => have := HJ5.out; have := HK2.out; have := HK3.out; omega
              case rel => exact ⟨(x16_3), (wrap64 (x17_3 + 1)), Z2, Z2, H', ⟨by have := HJ5.out; have := HK2.out; have := HK3.out; omega⟩, ⟨bo_ BK225⟩, ⟨bo_ BK226⟩, ⟨hb_⟩⟩
            ·rw [if_neg c37] at H
             exact absurd H (by simp)
           ·rw [if_neg c36] at H
            have c36b0 : decide (x17_3 < (l3.length : Int)) = false := decide_eq_false c36
            clear c36
            simp only [Option.some.injEq, Prod.mk.injEq] at H
            obtain ⟨rfl, rfl⟩ := H
            go_wp2
            go_ret2
            exact ⟨by first | rfl | (simp [b1_, b0_] <;> rfl) | (simp [*, b1_, b0_] <;> rfl), hb_⟩
       ·rw [if_neg c21] at H
        have c21b0 : (t233 == 0) = false := beq_eq_false_iff_ne.mpr c21
        have c21b1 : (t233 != 0) = true := bne_iff_ne.mpr c21
        simp only [Option.some.injEq, Prod.mk.injEq] at H
        obtain ⟨rfl, rfl⟩ := H
        obtain ⟨Ao50, co50, eo50⟩ := Kd.R_slice HO_12.out
        subst eo50
        go_wp2_with (first | ((with_reducible refine b2_ (f := 32) rfl ?_); refine goesL_ (some 46) rfl rfl Try.func32 (by kernel_rfl) rfl #[.slice A1 l1.length c1, .slice Ao50 x12_2.length co50] rfl Z0 ?_; (with_reducible refine (ensembleref05_More.calls k2 _ _ l1 _ _ x12_2 t232 t233 _ ?side1 ?side2 ?side3 ?side4 A20.out).mono ?_); (case side1 => exact cs_ HR1); (case side2 => exact HC1.out); (case side3 => repeat (first | exact (Kd.R_reads' HO_12.out).2.2 | (with_reducible refine Kd.C_alloc ?_ _) | (with_reducible refine Kd.C_drewN ?_ _) | (with_reducible refine Kd.C_drew ?_))); (case side4 => exact (Kd.R_reads' HO_12.out).2.1); rintro e w51 ⟨v234, rfl, ho0, hb⟩; refine ⟨_, rfl, ?_⟩; have HO235 := m_ (Kd.R_lower ho0 (b6_ hb_)); replace HO_12 := m_ (Kd.R_below Z11 hb); replace BK225 := bk_ BK225 hb; replace BK226 := bk_ BK226 hb; replace HB := hs_ hb; (try clear hb); (try clear hb2); (try clear hk); (try clear hi); (try clear ho0)))
        go_ret2
        exact ⟨by first | rfl | (simp [b1_, b0_] <;> rfl) | (simp [*, b1_, b0_] <;> rfl), hb_⟩
end Go.Proofs.Ytckhjehibjdjdaa.P
