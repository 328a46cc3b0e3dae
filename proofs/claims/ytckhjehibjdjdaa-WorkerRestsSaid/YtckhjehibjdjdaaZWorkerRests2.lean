/- WorkerRests: part 2 of the walk and of the plain law that it comes to. No condition. -/
import Derived.Test.YtckhjehibjdjdaaZWorkerRests1
import Derived.ArgAppend
import Derived.Below
import Derived.BigQuiet
import Derived.BigRegion
import Derived.Carry
import Derived.Deep.AppendLies
import Derived.Deep.CutBlock
import Derived.Deep.DeepCutAuto
import Derived.Deep.Draws
import Derived.Deep.LoopGhost
import Derived.Deep.OwnRows
import Derived.Deep.QuietTactic
import Derived.Deep.RegionHeld3
import Derived.DeepKeys3
import Derived.KernelRfl
import Derived.Laws.Bits64
import Derived.Laws.Bits64b
import Derived.Laws.BitsLemmas
import Derived.Laws.BytesArg
import Derived.Laws.Externs
import Derived.Laws.IdiomCopy
import Derived.Laws.MakeOwn
import Derived.Laws.OwnMore
import Derived.Laws.Rows
import Derived.Laws.Slices
import Derived.Lib.AppendStr
import Derived.Lib.ConvBytes
import Derived.Lib.ReflectliteSlice
import Derived.Lib.ReflectliteSwap
import Derived.Lib.SliceRun
import Derived.LoopIn
import Derived.LoopN
import Derived.LoopNIn
import Derived.Maps.AppendAt
import Derived.Maps.Keyed
import Derived.Maps.Own
import Derived.Maps.OwnOps
import Derived.Maps.OwnSet
import Derived.Maps.Views
import Derived.OrdersHeld
import Derived.Outline
import Derived.OwnWalk
import Derived.OwnWalkIn
import Derived.RangeFuncBound
import Derived.RangeFuncBox
import Derived.RangeFuncCalls
import Derived.RangeFuncFrom
import Derived.RangeFuncLeaves
import Derived.RangeFuncNested
import Derived.RowKit
import Derived.RowKit3
import Derived.Shelf.Abstract
import Derived.Shelf.RegionOpen
import Derived.StillTailTactics
import Derived.Tactics
import Derived.TacticsInMore
import Derived.WalkKit
import Derived.WideLaws
set_option linter.unusedVariables false
set_option linter.unusedSimpArgs false
namespace Go.Proofs.Ytckhjehibjdjdaa.P
open Go.RowKit Go.Shelf Go.Proofs.YtckhjehibjdjdaaW.PrintWords Go.Proofs.YtckhjehibjdjdaaW.PrintLast Go.Proofs.YtckhjehibjdjdaaW.PrintMore
attribute [local go_sem] Oper.semAt_some
set_option maxHeartbeats 8000000 in
set_option maxRecDepth 100000 in
theorem symMergeF_left (E : SE) (O : E.Ok) (a m b : Nat) (X V Z : List S51) (u : S51) (w : World) (hr : E.RW w (X ++ (u :: (V ++ Z)))) (ha : a = X.length) (hm : m = X.length + 1) (hb : b = X.length + 1 + V.length) (hV : Srt E.key V) :
  Calls Try.prog 132 #[.agg #[.func (.func 86) #[] E.lb, .func (.func E.sf) #[] E.sb], .int .i64 a, .int .i64 m, .int .i64 b] w fun e w' => e = .returned (.tuple #[]) ∧ E.RW w' (X ++ (mrg E.key [u] V ++ Z)) ∧ w.grownBy w' (some E.g) := by
 have hu165 := Try.underlying165
 have HO := m_ O
 have hn := O.nb
 have hgw : E.g < w.heap.size := Nat.lt_of_lt_of_le O.gb hr.grown.size
 have HR := m_ hr
 have HVS := m_ hV
 have hxl := hr.len.symm
 obtain ⟨n, hnE⟩ : ∃ n, E.n = n := ⟨_, rfl⟩
 rw [hnE] at hxl hn
 have HNE := m_ hnE
 clear hnE O
 simp only [List.length_append, List.length_cons] at hxl
 have bm : a < n ∧ m ≤ n ∧ b ≤ n ∧ m ≤ b := by omega
 obtain ⟨b1, b2, b3, b4⟩ := bm
 have hma : ((m : Int) - (a : Int) == 1) = true := by simp; omega
 have HM := m_ (And.intro hm (show m = a + 1 by omega))
 have HB := m_ (And.intro (show b = m + V.length by omega) hxl)
 have HAL := m_ ha
 clear hr hV hxl hm ha hb
 go_enter Try.func132, Try.ntmps132
 go_wp2_with (first | ((with_reducible refine a3_ (N := 4) rfl ?_); refine box_event ?hg (N := 4) ?hd (cs := #[.func (.func 86) #[] E.lb, .func (.func E.sf) #[] E.sb]) (t := 165) ?hr ?_; (case hd => rfl); (case hg => rfl); (case hr => first | (go_simp; done) | (go_simp; rfl)); intro gb hgb wb hxb hbb; have HXB := m_ hxb; have HRB := m_ (HR.out.below hbb); have HGB := m_ (e4_ (g := E.g) hbb); have hne : gb ≠ E.g := (by omega); clear hgb hxb hbb HR))
 go_loopw [8, 9] (fun v8 v9 wr => ∃ (i j : Nat), v8 = .int .i64 (i : Int) ∧ v9 = .int .i64 (j : Int) ∧ m ≤ i ∧ i ≤ j ∧ j ≤ b ∧ A_ (∀ y ∈ V.take (i - m), E.key y < E.key u) ∧ A_ (∀ y ∈ V.drop (j - m), E.key u ≤ E.key y) ∧
  A_ (E.RW wr (X ++ (u :: (V ++ Z)))) ∧ A_ (w.grownBy wr (some E.g)) ∧ A_ (wr.heap[gb]? = some (.cells #[.func (.func 86) #[] E.lb, .func (.func E.sf) #[] E.sb] 165 (0, 0)))) (fun v8 v9 _ => (intOf v9).toNat - (intOf v8).toNat)
 case atStart => exact ⟨m, b, rfl, rfl, Nat.le_refl _, b4, Nat.le_refl _, ⟨by simp⟩, ⟨by rw [List.drop_eq_nil_of_le (by have := HB.out; omega)]; simp⟩, HRB, HGB, HXB⟩
 case round =>
  clear HRB HGB HXB
  obtain ⟨i, j, rfl, rfl, hi, hij, hj, HT, HD, HA, HG, HX⟩ := hrel
  by_cases hlt : i < j
  ·have hlt' : (i : Int) < j := by omega
   obtain ⟨h, hh⟩ : ∃ h, h = (i + j) / 2 := ⟨_, rfl⟩
   have hh1 : i ≤ h ∧ h < j := by omega
   have h3 : h - m < V.length := by have := HB.out; omega
   have hry := krow_at (Z := Z) u HM.out.1 (Nat.le_trans hi hh1.1) h3
   have hru : (X ++ (u :: (V ++ Z)))[a]? = some u := by rw [List.getElem?_append_right (by have := HAL.out; omega), show a - X.length = 0 by have := HAL.out; omega]; rfl
   have ST := m_ (fun hl => ksrt_take HVS.out h3 (u := u) hl)
   have SD := m_ (fun hl => ksrt_drop HVS.out h3 (u := u) hl)
   generalize V[h - m] = y at *
   have HHH := m_ hh
   have c0 : (0 : Int) ≤ (i : Int) + (j : Int) := by omega
   have c1 : (i : Int) + (j : Int) ≤ 2000000000000 := by omega
   have hcc : ((i : Int) + (j : Int)) / 2 = (h : Int) := by omega
   have i3 : (a : Int) < n := by omega
   have hh2 : (i ≤ h ∧ h < j) := hh1
   clear hh hh1
   have hcall := HO.out.less wr _ h a _ _ HA.out hry hru
   have l0 : wr.cell? ⟨gb, 0, none⟩ = some (.func (.func 86) #[] E.lb) := (a0_ HX.out 0).trans rfl
   clear hry hru
   by_cases hlt2 : E.key y < E.key u
   ·rw [decide_eq_true hlt2] at hcall
    have HST := m_ (ST.out (by omega))
    clear hlt2 ST SD
    have HC := m_ hcall
    clear hcall
    go_wp2_with (go_at_call 86; refine HC.out.mono ?_; rintro e w4 ⟨rfl, hb4⟩; have HA4 := m_ (HA.out.below hb4); have HG4 := m_ (e5_ HG.out hb4); have HX4 := m_ (a1_ HX.out hb4); clear hb4)
    go_roundw
    case rel => exact ⟨h + 1, j, by first | exact int_i64 (by have := HHH.out; omega) | go_num, rfl, by omega, by omega, hj, ⟨by rw [show h + 1 - m = h - m + 1 by omega]; exact HST.out⟩, HD, HA4, HG4, HX4⟩
    case measure => simp [intOf]; omega
   ·rw [decide_eq_false hlt2] at hcall
    have HSD := m_ (SD.out (by omega))
    clear hlt2 ST SD
    have HC := m_ hcall
    clear hcall
    go_wp2_with (go_at_call 86; refine HC.out.mono ?_; rintro e w4 ⟨rfl, hb4⟩; have HA4 := m_ (HA.out.below hb4); have HG4 := m_ (e5_ HG.out hb4); have HX4 := m_ (a1_ HX.out hb4); clear hb4)
    go_roundw
    case rel => exact ⟨i, h, rfl, by first | rfl | exact int_i64 (by have := HHH.out; omega), hi, by omega, by omega, HT, HSD, HA4, HG4, HX4⟩
    case measure => simp [intOf]; omega
  ·obtain rfl : i = j := by omega
   have hV1 : V.take (i - m) ++ V.drop (i - m) = V := List.take_append_drop _ V
   have hml : mrg E.key [u] V = V.take (i - m) ++ u :: V.drop (i - m) := by
    have := mrg_one_left E.key u (V.take (i - m)) (V.drop (i - m)) HT.out HD.out
    rw [hV1] at this
    exact this
   have HAa := HA.out
   rw [← hV1] at HAa
   have hlA : (V.take (i - m)).length = i - m := by rw [List.length_take]; have := HB.out; omega
   have HA2 := m_ HAa
   have HLA := m_ hlA
   have HML := m_ hml
   generalize V.take (i - m) = A at *
   generalize V.drop (i - m) = B at *
   clear HT HD HA HAa hlA hV1 hml HVS
   go_wp2
   obtain ⟨wo, hwo⟩ : ∃ wo : World, wo = wr := ⟨_, rfl⟩
   subst hwo
   go_loopw [11] (fun v11_ w2 => ∃ (k : Nat) (A1 A2 : List S51), v11_ = .int .i64 (k : Int) ∧ a ≤ k ∧ k + 1 ≤ i ∧ A_ (A1.length = k - a) ∧ A_ (A1 ++ A2 = A) ∧ A_ (E.RW w2 (X ++ (A1 ++ (u :: (A2 ++ (B ++ Z)))))) ∧ A_ (w.grownBy w2 (some E.g)) ∧ A_ (w2.heap[gb]? = some (.cells #[.func (.func 86) #[] E.lb, .func (.func E.sf) #[] E.sb] 165 (0, 0)))) (fun v11_ _ => i - (intOf v11_).toNat)
   case atStart => exact ⟨a, [], A, rfl, Nat.le_refl _, by have := HM.out; omega, ⟨by simp⟩, ⟨rfl⟩, ⟨by have := HA2.out; rw [List.append_assoc] at this; exact this⟩, HG, HX⟩
   case round =>
    clear HA2 HG HX
    obtain ⟨k, A1, A2, rfl, hk, hki, HL1, HAA, HA, HG, HX⟩ := hrel
    by_cases hk2 : k + 1 < i
    ·cases A2 with
     | nil =>
      exfalso
      have h1 := HAA.out; have h2 := HL1.out; have h3 := HLA.out; have h4 := HM.out
      rw [List.append_nil] at h1
      rw [h1] at h2
      omega
     | cons v A2 =>
      have hlt' : (k : Int) < (i : Int) - 1 := by omega
      have hX := HAL.out
      have hL1 := HL1.out
      have hpos : X.length + A1.length = k := by omega
      have hru : (X ++ (A1 ++ (u :: (v :: A2 ++ (B ++ Z)))))[k]? = some u := by rw [List.getElem?_append_right (by omega), List.getElem?_append_right (by omega), show k - X.length - A1.length = 0 by omega]; rfl
      have hrv : (X ++ (A1 ++ (u :: (v :: A2 ++ (B ++ Z)))))[k + 1]? = some v := by rw [List.getElem?_append_right (by omega), List.getElem?_append_right (by omega), show k + 1 - X.length - A1.length = 1 by omega]; rfl
      obtain ⟨W', hrun, hrw, hgr⟩ := HO.out.swap wr _ k (k + 1) u v HA.out hru hrv
      have hbub := kbub X A1 u v (A2 ++ (B ++ Z))
      rw [hpos] at hbub
      rw [show (X ++ (A1 ++ (u :: (v :: A2 ++ (B ++ Z))))) = X ++ (A1 ++ (u :: v :: (A2 ++ (B ++ Z)))) from rfl, hbub] at hrw
      have l1 : wr.cell? ⟨gb, 1, none⟩ = some (.func (.func E.sf) #[] E.sb) := (a0_ HX.out 1).trans rfl
      have HR5 := m_ hrw
      have HG5 := m_ (b4_ HG.out hgr)
      have HX5 := m_ (grown_box HX.out hgr hne)
      have HL5 := m_ (show (A1 ++ [v]).length = k + 1 - a from by rw [List.length_append, List.length_singleton]; omega)
      have HA5 := m_ (show (A1 ++ [v]) ++ A2 = A from by rw [← HAA.out]; simp)
      clear hrw hgr hbub hX hL1 hpos HL1 HAA hru hrv
      have e1 : IntKind.i64.wrap ((k : Int) + 1) = (k : Int) + 1 := by rw [IntKind.wrap_i64]; omega
      push_cast at hrun
      go_wp2
      try rw [hrun, Oper.upon_value]
      try clear hrun
      try go_wp2
      go_roundw
      case rel => exact ⟨k + 1, A1 ++ [v], A2, by first | rfl | go_num | exact int_i64 (by omega), by omega, by omega, HL5, HA5, HR5, HG5, HX5⟩
      case measure => simp [intOf]; omega
    ·have hlt' : ¬ (k : Int) < (i : Int) - 1 := by omega
     have hA2 : A2 = [] := by
      have h1 := congrArg List.length HAA.out; have h2 := HL1.out; have h3 := HLA.out; have h4 := HM.out
      rw [List.length_append] at h1
      exact List.eq_nil_of_length_eq_zero (by omega)
     subst hA2
     have hAA := HAA.out
     rw [List.append_nil] at hAA
     have hfin := HA.out
     rw [hAA] at hfin
     have HF := m_ (show E.RW wr (X ++ ((A ++ u :: B) ++ Z)) from by simpa using hfin)
     clear hAA hfin HAA HL1
     go_wp2
     first | go_end0 | refine bodyPost_ret (results_none rfl _ _ _) rfl ?_
     exact ⟨rfl, by rw [HML.out]; exact HF.out, HG.out⟩
set_option maxHeartbeats 8000000 in
set_option maxRecDepth 100000 in
theorem symMergeF_right (E : SE) (O : E.Ok) (a m b : Nat) (X U Z : List S51) (v : S51) (w : World) (hr : E.RW w (X ++ (U ++ (v :: Z)))) (ha : a = X.length) (hm : m = X.length + U.length) (hb : b = X.length + U.length + 1) (hU1 : 1 < U.length) (hU : Srt E.key U) :
  Calls Try.prog 132 #[.agg #[.func (.func 86) #[] E.lb, .func (.func E.sf) #[] E.sb], .int .i64 a, .int .i64 m, .int .i64 b] w fun e w' => e = .returned (.tuple #[]) ∧ E.RW w' (X ++ (mrg E.key U [v] ++ Z)) ∧ w.grownBy w' (some E.g) := by
 have hu165 := Try.underlying165
 have HO := m_ O
 have hn := O.nb
 have hgw : E.g < w.heap.size := Nat.lt_of_lt_of_le O.gb hr.grown.size
 have HR := m_ hr
 have HUS := m_ hU
 have hxl := hr.len.symm
 obtain ⟨n, hnE⟩ : ∃ n, E.n = n := ⟨_, rfl⟩
 rw [hnE] at hxl hn
 have HNE := m_ hnE
 clear hnE O
 simp only [List.length_append, List.length_cons] at hxl
 have bm : a < n ∧ m < n ∧ b ≤ n ∧ a ≤ m := by omega
 obtain ⟨b1, b2, b3, b4⟩ := bm
 have hma : ((m : Int) - (a : Int) == 1) = false := by simp; omega
 have hbm : ((b : Int) - (m : Int) == 1) = true := by simp; omega
 have HM := m_ (And.intro (show m = a + U.length by omega) hxl)
 have HAL := m_ ha
 clear hr hU hxl hm ha hb hU1
 go_enter Try.func132, Try.ntmps132
 go_wp2_with (first | ((with_reducible refine a3_ (N := 4) rfl ?_); refine box_event ?hg (N := 4) ?hd (cs := #[.func (.func 86) #[] E.lb, .func (.func E.sf) #[] E.sb]) (t := 165) ?hr ?_; (case hd => rfl); (case hg => rfl); (case hr => first | (go_simp; done) | (go_simp; rfl)); intro gb hgb wb hxb hbb; have HXB := m_ hxb; have HRB := m_ (HR.out.below hbb); have HGB := m_ (e4_ (g := E.g) hbb); have hne : gb ≠ E.g := (by omega); clear hgb hxb hbb HR))
 go_loopw [12, 13] (fun v12 v13 wr => ∃ (i j : Nat), v12 = .int .i64 (i : Int) ∧ v13 = .int .i64 (j : Int) ∧ a ≤ i ∧ i ≤ j ∧ j ≤ m ∧ A_ (∀ y ∈ U.take (i - a), E.key y ≤ E.key v) ∧ A_ (∀ y ∈ U.drop (j - a), E.key v < E.key y) ∧
  A_ (E.RW wr (X ++ (U ++ (v :: Z)))) ∧ A_ (w.grownBy wr (some E.g)) ∧ A_ (wr.heap[gb]? = some (.cells #[.func (.func 86) #[] E.lb, .func (.func E.sf) #[] E.sb] 165 (0, 0)))) (fun v12 v13 _ => (intOf v13).toNat - (intOf v12).toNat)
 case atStart => exact ⟨a, m, rfl, rfl, Nat.le_refl _, b4, Nat.le_refl _, ⟨by simp⟩, ⟨by rw [List.drop_eq_nil_of_le (by have := HM.out; omega)]; simp⟩, HRB, HGB, HXB⟩
 case round =>
  clear HRB HGB HXB
  obtain ⟨i, j, rfl, rfl, hi, hij, hj, HT, HD, HA, HG, HX⟩ := hrel
  by_cases hlt : i < j
  ·have hlt' : (i : Int) < j := by omega
   obtain ⟨h, hh⟩ : ∃ h, h = (i + j) / 2 := ⟨_, rfl⟩
   have hh1 : i ≤ h ∧ h < j := by omega
   have h3 : h - a < U.length := by have := HM.out; omega
   have hry := krow_at2 (R := v :: Z) HAL.out (Nat.le_trans hi hh1.1) h3
   have hrv : (X ++ (U ++ (v :: Z)))[m]? = some v := by rw [List.getElem?_append_right (by have := HAL.out; omega), List.getElem?_append_right (by have := HAL.out; have := HM.out; omega), show m - X.length - U.length = 0 by have := HAL.out; have := HM.out; omega]; rfl
   have ST := m_ (fun hl => ksrt_take2 HUS.out h3 (v := v) hl)
   have SD := m_ (fun hl => ksrt_drop2 HUS.out h3 (v := v) hl)
   generalize U[h - a] = y at *
   have HHH := m_ hh
   have c0 : (0 : Int) ≤ (i : Int) + (j : Int) := by omega
   have c1 : (i : Int) + (j : Int) ≤ 2000000000000 := by omega
   have hcc : ((i : Int) + (j : Int)) / 2 = (h : Int) := by omega
   have i3 : (m : Int) < n := by omega
   have hh2 : (i ≤ h ∧ h < j) := hh1
   clear hh hh1
   have hcall := HO.out.less wr _ m h _ _ HA.out hrv hry
   have l0 : wr.cell? ⟨gb, 0, none⟩ = some (.func (.func 86) #[] E.lb) := (a0_ HX.out 0).trans rfl
   clear hry hrv
   by_cases hlt2 : E.key v < E.key y
   ·rw [decide_eq_true hlt2] at hcall
    have HSD := m_ (SD.out (by omega))
    clear hlt2 ST SD
    have HC := m_ hcall
    clear hcall
    go_wp2_with (go_at_call 86; refine HC.out.mono ?_; rintro e w4 ⟨rfl, hb4⟩; have HA4 := m_ (HA.out.below hb4); have HG4 := m_ (e5_ HG.out hb4); have HX4 := m_ (a1_ HX.out hb4); clear hb4)
    go_roundw
    case rel => exact ⟨i, h, rfl, by first | rfl | exact int_i64 (by have := HHH.out; omega), hi, by omega, by omega, HT, HSD, HA4, HG4, HX4⟩
    case measure => simp [intOf]; omega
   ·rw [decide_eq_false hlt2] at hcall
    have HST := m_ (ST.out (by omega))
    clear hlt2 ST SD
    have HC := m_ hcall
    clear hcall
    go_wp2_with (go_at_call 86; refine HC.out.mono ?_; rintro e w4 ⟨rfl, hb4⟩; have HA4 := m_ (HA.out.below hb4); have HG4 := m_ (e5_ HG.out hb4); have HX4 := m_ (a1_ HX.out hb4); clear hb4)
    go_roundw
    case rel => exact ⟨h + 1, j, by first | exact int_i64 (by have := HHH.out; omega) | go_num, rfl, by omega, by omega, hj, ⟨by rw [show h + 1 - a = h - a + 1 by omega]; exact HST.out⟩, HD, HA4, HG4, HX4⟩
    case measure => simp [intOf]; omega
  ·obtain rfl : i = j := by omega
   have hV1 : U.take (i - a) ++ U.drop (i - a) = U := List.take_append_drop _ U
   have hml : mrg E.key U [v] = U.take (i - a) ++ v :: U.drop (i - a) := by
    have := mrg_one_right E.key v (U.take (i - a)) (U.drop (i - a)) HT.out HD.out
    rw [hV1] at this
    exact this
   have HAa := HA.out
   rw [← hV1] at HAa
   have hlA : (U.take (i - a)).length = i - a := by rw [List.length_take]; have := HM.out; omega
   have hlB : (U.drop (i - a)).length = m - i := by rw [List.length_drop]; have := HM.out; omega
   have HA2 := m_ HAa
   have HLA := m_ (And.intro hlA hlB)
   have HML := m_ hml
   generalize U.take (i - a) = A at *
   generalize U.drop (i - a) = B at *
   obtain ⟨XA, hXA⟩ : ∃ XA, XA = X ++ A := ⟨_, rfl⟩
   have HLX := m_ (show XA.length = i from by rw [hXA, List.length_append]; have := HAL.out; omega)
   have HXA := m_ hXA
   clear HT HD HA HAa hlA hlB hV1 hml HUS hXA
   go_wp2
   obtain ⟨wo, hwo⟩ : ∃ wo : World, wo = wr := ⟨_, rfl⟩
   subst hwo
   go_loopw [15] (fun v15 w2 => ∃ (k : Nat) (B1 B2 : List S51), v15 = .int .i64 (k : Int) ∧ i ≤ k ∧ k ≤ m ∧ A_ (B1.length = k - i) ∧ A_ (B1 ++ B2 = B) ∧ A_ (E.RW w2 (XA ++ (B1 ++ (v :: (B2 ++ Z))))) ∧ A_ (w.grownBy w2 (some E.g)) ∧ A_ (w2.heap[gb]? = some (.cells #[.func (.func 86) #[] E.lb, .func (.func E.sf) #[] E.sb] 165 (0, 0)))) (fun v15 _ => (intOf v15).toNat - i)
   case atStart => exact ⟨m, B, [], rfl, by omega, Nat.le_refl _, ⟨by have := HLA.out; omega⟩, ⟨by simp⟩, ⟨by have := HA2.out; rw [HXA.out]; simpa using this⟩, HG, HX⟩
   case round =>
    clear HA2 HG HX
    obtain ⟨k, B1, B2, rfl, hk, hki, HL1, HAA, HA, HG, HX⟩ := hrel
    by_cases hk2 : i < k
    ·obtain ⟨B', y, hB'⟩ := snoc_of B1 Z3
     subst hB'
     have hlt' : (i : Int) < (k : Int) := by omega
     have hX := HAL.out
     have hL1 := HL1.out
     rw [List.length_append, List.length_singleton] at hL1
     have hLX := HLX.out
     have hpos : XA.length + B'.length + 1 = k := by omega
     have hrv : (XA ++ ((B' ++ [y]) ++ (v :: (B2 ++ Z))))[k]? = some v := by rw [List.getElem?_append_right (by omega), List.getElem?_append_right (by simp only [List.length_append, List.length_singleton]; omega), show k - XA.length - (B' ++ [y]).length = 0 by simp only [List.length_append, List.length_singleton]; omega]; rfl
     have hry : (XA ++ ((B' ++ [y]) ++ (v :: (B2 ++ Z))))[k - 1]? = some y := by rw [List.append_assoc, List.getElem?_append_right (by omega), List.getElem?_append_right (by omega), show k - 1 - XA.length - B'.length = 0 by omega]; rfl
     obtain ⟨k', hk'⟩ : ∃ k', k = k' + 1 := ⟨k - 1, by omega⟩
     subst hk'
     rw [Nat.add_sub_cancel] at hry
     obtain ⟨W', hrun, hrw, hgr⟩ := HO.out.swap wr _ (k' + 1) k' v y HA.out hrv hry
     have hbub := kbub2 XA B' y v (B2 ++ Z)
     rw [show XA.length + B'.length = k' by omega] at hbub
     rw [hbub] at hrw
     have l1 : wr.cell? ⟨gb, 1, none⟩ = some (.func (.func E.sf) #[] E.sb) := (a0_ HX.out 1).trans rfl
     have HR5 := m_ hrw
     have HG5 := m_ (b4_ HG.out hgr)
     have HX5 := m_ (grown_box HX.out hgr hne)
     have HL5 := m_ (show B'.length = k' - i from by omega)
     have HA5 := m_ (show B' ++ (y :: B2) = B from by rw [← HAA.out]; simp)
     clear hrw hgr hbub hX hL1 hLX hpos HL1 HAA hrv hry HA HG
     have e1 : IntKind.i64.wrap ((k' : Int) + 1 - 1) = (k' : Int) := by rw [IntKind.wrap_i64]; omega
     have i5 : (k' : Int) + 1 - 1 = (k' : Int) := by omega
     push_cast at hrun
     go_wp2
     try rw [hrun, Oper.upon_value]
     try clear hrun
     try go_wp2
     go_roundw
     case rel => exact ⟨k', B', y :: B2, by first | rfl | exact int_i64 (by omega), by omega, by omega, HL5, HA5, HR5, HG5, HX5⟩
     case measure => simp [intOf]; omega
    ·obtain rfl : i = k := by omega
     have hlt' : ¬ (i : Int) < (i : Int) := by omega
     have hB1 : B1 = [] := List.eq_nil_of_length_eq_zero Z3
     subst hB1
     have hAA := HAA.out
     rw [List.nil_append] at hAA
     have hfin := HA.out
     rw [hAA, HXA.out] at hfin
     have HF := m_ (show E.RW wr (X ++ ((A ++ v :: B) ++ Z)) from by simpa using hfin)
     clear hAA hfin HAA HL1
     go_wp2
     first | go_end0 | refine bodyPost_ret (results_none rfl _ _ _) rfl ?_
     exact ⟨rfl, by rw [HML.out]; exact HF.out, HG.out⟩
def SymF (E : SE) (sz : Nat) : Prop := ∀ (a m b : Nat) (X U V Z : List S51) (w : World), U.length + V.length = sz → E.RW w (X ++ (U ++ (V ++ Z))) → a = X.length → m = X.length + U.length → b = X.length + U.length + V.length → 0 < U.length → 0 < V.length → Srt E.key U → Srt E.key V →
  Calls Try.prog 132 #[.agg #[.func (.func 86) #[] E.lb, .func (.func E.sf) #[] E.sb], .int .i64 a, .int .i64 m, .int .i64 b] w fun e w' => e = .returned (.tuple #[]) ∧ E.RW w' (X ++ (mrg E.key U V ++ Z)) ∧ w.grownBy w' (some E.g)
set_option maxHeartbeats 16000000 in
set_option maxRecDepth 100000 in
theorem symMergeF_gen (E : SE) (O : E.Ok) (sz : Nat) (IH : ∀ s, s < sz → SymF E s) (a m b : Nat) (X U V Z : List S51) (w : World) (hsz : U.length + V.length = sz) (hr : E.RW w (X ++ (U ++ (V ++ Z)))) (ha : a = X.length) (hm : m = X.length + U.length) (hb : b = X.length + U.length + V.length) (hU2 : 1 < U.length) (hV2 : 1 < V.length) (hU : Srt E.key U) (hV : Srt E.key V) :
  Calls Try.prog 132 #[.agg #[.func (.func 86) #[] E.lb, .func (.func E.sf) #[] E.sb], .int .i64 a, .int .i64 m, .int .i64 b] w fun e w' => e = .returned (.tuple #[]) ∧ E.RW w' (X ++ (mrg E.key U V ++ Z)) ∧ w.grownBy w' (some E.g) := by
 have hu165 := Try.underlying165
 have HO := m_ O
 have hn := O.nb
 have hgw : E.g < w.heap.size := Nat.lt_of_lt_of_le O.gb hr.grown.size
 have HR := m_ hr
 have HS := m_ (And.intro hU hV)
 have HIH := m_ IH
 have hxl := hr.len.symm
 obtain ⟨n, hnE⟩ : ∃ n, E.n = n := ⟨_, rfl⟩
 rw [hnE] at hxl hn
 have HNE := m_ hnE
 clear hnE O
 simp only [List.length_append] at hxl
 obtain ⟨mid, hmid⟩ : ∃ mid, mid = (a + b) / 2 := ⟨_, rfl⟩
 have bm : a + 1 < m ∧ m + 1 < b ∧ b ≤ n ∧ a < mid ∧ mid < b ∧ 2 * mid ≤ a + b ∧ a + b ≤ 2 * mid + 1 := by omega
 obtain ⟨b1, b2, b3, b4, b5, b6, b7⟩ := bm
 obtain ⟨lo, hi, hlh⟩ : ∃ lo hi : Nat, (mid < m ∧ lo + b = mid + m ∧ hi = mid) ∨ (¬ mid < m ∧ lo = a ∧ hi = m) := by
  by_cases h : mid < m
  ·exact ⟨mid + m - b, mid, .inl ⟨h, by omega, rfl⟩⟩
  ·exact ⟨a, m, .inr ⟨h, rfl, rfl⟩⟩
 have bl : a ≤ lo ∧ lo ≤ hi ∧ hi ≤ m ∧ hi ≤ mid ∧ mid + m ≤ lo + b := by omega
 obtain ⟨l1, l2, l3, l4, l5⟩ := bl
 have HLH := m_ hlh
 have hma : ((m : Int) - (a : Int) == 1) = false := by simp; omega
 have hbm : ((b : Int) - (m : Int) == 1) = false := by simp; omega
 have hmd : ((a : Int) + (b : Int)) / 2 = (mid : Int) := by omega
 have HLN := m_ (show X.length = a ∧ U.length = m - a ∧ V.length = b - m ∧ U.length + V.length = sz from by omega)
 clear hr hU hV hxl hm ha hb hU2 hV2 IH hsz hmid
 rcases hlh with ⟨q1, q2, q3⟩ | ⟨q1, q2, q3⟩
 ·have t1 : decide ((mid : Int) < (m : Int)) = true := by simp; omega
  have t2 : (mid : Int) + (m : Int) - (b : Int) = (lo : Int) := by omega
  have t3 : (mid : Int) < (m : Int) := by omega
  subst q3
  clear q2 t1
  go_enter Try.func132, Try.ntmps132
  go_wp2_with (first | ((with_reducible refine a3_ (N := 4) rfl ?_); refine box_event ?hg (N := 4) ?hd (cs := #[.func (.func 86) #[] E.lb, .func (.func E.sf) #[] E.sb]) (t := 165) ?hr ?_; (case hd => rfl); (case hg => rfl); (case hr => first | (go_simp; done) | (go_simp; rfl)); intro gb hgb wb hxb hbb; have HXB := m_ hxb; have HRB := m_ (HR.out.below hbb); have HGB := m_ (e4_ (g := E.g) hbb); have hne : gb ≠ E.g := (by omega); clear hgb hxb hbb HR))
  go_loopw [18, 19] (fun v18 v19 wr => ∃ (s r : Nat), v18 = .int .i64 (s : Int) ∧ v19 = .int .i64 (r : Int) ∧ lo ≤ s ∧ s ≤ r ∧ r ≤ hi ∧ A_ (∀ c x y, lo ≤ c → c < s → U[c - a]? = some x → V[hi + m - 1 - c - m]? = some y → E.key x ≤ E.key y) ∧ A_ (∀ c x y, r ≤ c → c < hi → U[c - a]? = some x → V[hi + m - 1 - c - m]? = some y → E.key y < E.key x) ∧
   A_ (E.RW wr (X ++ (U ++ (V ++ Z)))) ∧ A_ (w.grownBy wr (some E.g)) ∧ A_ (wr.heap[gb]? = some (.cells #[.func (.func 86) #[] E.lb, .func (.func E.sf) #[] E.sb] 165 (0, 0)))) (fun v18 v19 _ => (intOf v19).toNat - (intOf v18).toNat)
  case atStart => exact ⟨lo, hi, rfl, rfl, Nat.le_refl _, l2, Nat.le_refl _, ⟨fun c x y h1 h2 => by omega⟩, ⟨fun c x y h1 h2 => by omega⟩, HRB, HGB, HXB⟩
  case round =>
   clear HRB HGB HXB
   obtain ⟨s, r, rfl, rfl, hls, hsr, hrh, HT, HD, HA, HG, HX⟩ := hrel
   by_cases hlt : s < r
   ·have hlt' : (s : Int) < r := by omega
    obtain ⟨c, hc⟩ : ∃ c, c = (s + r) / 2 := ⟨_, rfl⟩
    have hc1 : s ≤ c ∧ c < r := by omega
    obtain ⟨hc2, hc3⟩ := hc1
    obtain ⟨d, hd⟩ : ∃ d, d = hi + m - 1 - c := ⟨_, rfl⟩
    have hd1 : m ≤ d ∧ d < b := by omega
    have hxu : U[c - a]? = some _ := List.getElem?_eq_getElem (show c - a < U.length by have := HLN.out; omega)
    have hyv : V[d - m]? = some _ := List.getElem?_eq_getElem (show d - m < V.length by have := HLN.out; omega)
    generalize U[c - a]'_ = x at *
    generalize V[d - m]'_ = y at *
    have hrx : (X ++ (U ++ (V ++ Z)))[c]? = some x := by rw [List.getElem?_append_right Z5, List.getElem?_append_left Z5, show c - X.length = c - a by have := HLN.out; omega]; exact hxu
    have hry : (X ++ (U ++ (V ++ Z)))[d]? = some y := by rw [List.getElem?_append_right Z5, List.getElem?_append_right Z5, List.getElem?_append_left Z5, show d - X.length - U.length = d - m by have := HLN.out; omega]; exact hyv
    have HXU := m_ hxu
    have HYV := m_ hyv
    have HDD := m_ hd
    have hcc : ((s : Int) + (r : Int)) / 2 = (c : Int) := by omega
    have hdd : (hi : Int) + (m : Int) - 1 - (c : Int) = (d : Int) := by omega
    have hdw : IntKind.i64.wrap ((hi : Int) + (m : Int) - 1 - (c : Int)) = (d : Int) := by rw [IntKind.wrap_i64]; omega
    have hdw2 : IntKind.i64.wrap (d : Int) = (d : Int) := by rw [IntKind.wrap_i64]; omega
    have j0 : (c : Int) < n := by omega
    have j1 : (d : Int) < n := by omega
    have c0 : (0 : Int) ≤ (s : Int) + (r : Int) := by omega
    have c1 : (s : Int) + (r : Int) ≤ 2000000000000 := by omega
    clear hxu hyv hd hc
    have hcall := HO.out.less wr _ d c _ _ HA.out hry hrx
    have l0 : wr.cell? ⟨gb, 0, none⟩ = some (.func (.func 86) #[] E.lb) := (a0_ HX.out 0).trans rfl
    clear hrx hry
    by_cases hlt2 : E.key y < E.key x
    ·rw [decide_eq_true hlt2] at hcall
     have HLT := m_ hlt2
     clear hlt2
     have HC := m_ hcall
     clear hcall
     go_wp2_with (go_at_call 86; refine HC.out.mono ?_; rintro e w4 ⟨rfl, hb4⟩; have HA4 := m_ (HA.out.below hb4); have HG4 := m_ (e5_ HG.out hb4); have HX4 := m_ (a1_ HX.out hb4); clear hb4)
     go_roundw
     case rel => exact ⟨s, c, rfl, by first | rfl | exact int_i64 (by omega), hls, hc2, by omega, HT, ⟨fun c' x' y' h1 h2 h3 h4 => by
      by_cases e : r ≤ c'
      ·exact HD.out c' x' y' e h2 h3 h4
      ·have k1 := ksrt_le HS.out.1 (i := c - a) (j := c' - a) (by omega) HXU.out h3
       have k2 := ksrt_le HS.out.2 (i := hi + m - 1 - c' - m) (j := d - m) (by have := HDD.out; omega) h4 HYV.out
       have := HLT.out
       omega⟩, HA4, HG4, HX4⟩
     case measure => simp [intOf]; omega
    ·rw [decide_eq_false hlt2] at hcall
     have HLT := m_ (show E.key x ≤ E.key y by omega)
     clear hlt2
     have HC := m_ hcall
     clear hcall
     go_wp2_with (go_at_call 86; refine HC.out.mono ?_; rintro e w4 ⟨rfl, hb4⟩; have HA4 := m_ (HA.out.below hb4); have HG4 := m_ (e5_ HG.out hb4); have HX4 := m_ (a1_ HX.out hb4); clear hb4)
     go_roundw
     case rel => exact ⟨c + 1, r, by first | exact int_i64 (by omega) | go_num, rfl, by omega, by omega, hrh, ⟨fun c' x' y' h1 h2 h3 h4 => by
      by_cases e : c' < s
      ·exact HT.out c' x' y' h1 e h3 h4
      ·have k1 := ksrt_le HS.out.1 (i := c' - a) (j := c - a) (by omega) h3 HXU.out
       have k2 := ksrt_le HS.out.2 (i := d - m) (j := hi + m - 1 - c' - m) (by have := HDD.out; omega) HYV.out h4
       have := HLT.out
       omega⟩, HD, HA4, HG4, HX4⟩
     case measure => simp [intOf]; omega
   ·obtain rfl : s = r := by omega
    obtain ⟨e, he⟩ : ∃ e, e = hi + m - s := ⟨_, rfl⟩
    have he1 : m ≤ e ∧ e ≤ b ∧ e + s = hi + m := by omega
    obtain ⟨e1, e2, e3⟩ := he1
    have h12 := ksplit12 HS.out.1 HS.out.2 (p := s - a) (q := e - m) Z5 (by
     by_cases h1 : s = a
     ·exact .inl (by omega)
     ·by_cases h2 : e = b
      ·exact .inr (.inl Z5)
      ·exact .inr (.inr fun x y hx hy => HT.out (s - 1) x y (by have := HLH.out; omega) (by omega) (by rw [show s - 1 - a = s - a - 1 by omega]; exact hx) (by rw [show hi + m - 1 - (s - 1) - m = e - m by omega]; exact hy)))
    have h21 := ksplit21 HS.out.1 HS.out.2 (p := s - a) (q := e - m) Z5 (by
     by_cases h1 : s = m
     ·exact .inl Z5
     ·by_cases h2 : e = m
      ·exact .inr (.inl (by omega))
      ·exact .inr (.inr fun x y hx hy => HD.out s x y (by omega) (by have := HLH.out; omega) hx (by rw [show hi + m - 1 - s - m = e - m - 1 by omega]; exact hy)))
    have hU1 : U.take (s - a) ++ U.drop (s - a) = U := List.take_append_drop _ U
    have hV1 : V.take (e - m) ++ V.drop (e - m) = V := List.take_append_drop _ V
    have hml := mrg_split E.key _ _ _ _ h12 h21
    rw [hU1, hV1] at hml
    have hS1 : Srt E.key (U.take (s - a)) ∧ Srt E.key (U.drop (s - a)) ∧ Srt E.key (V.take (e - m)) ∧ Srt E.key (V.drop (e - m)) := ⟨HS.out.1.sublist (List.take_sublist _ _), HS.out.1.sublist (List.drop_sublist _ _), HS.out.2.sublist (List.take_sublist _ _), HS.out.2.sublist (List.drop_sublist _ _)⟩
    have hl1 : (U.take (s - a)).length = s - a ∧ (U.drop (s - a)).length = m - s ∧ (V.take (e - m)).length = e - m ∧ (V.drop (e - m)).length = b - e := by
     rw [List.length_take, List.length_drop, List.length_take, List.length_drop]; have := HLN.out; omega
    have hA0 := HA.out
    rw [← hU1, ← hV1] at hA0
    have HML := m_ hml
    generalize U.take (s - a) = U1 at *
    generalize U.drop (s - a) = U2 at *
    generalize V.take (e - m) = V1 at *
    generalize V.drop (e - m) = V2 at *
    have HS1 := m_ hS1
    have HL1 := m_ hl1
    have HA0 := m_ (show E.RW wr (X ++ (U1 ++ (U2 ++ (V1 ++ (V2 ++ Z))))) from by simpa using hA0)
    have hcz0 : wr.cell? ⟨gb, 0, none⟩ = some (.func (.func 86) #[] E.lb) := (a0_ HX.out 0).trans rfl
    have hcz1 : wr.cell? ⟨gb, 1, none⟩ = some (.func (.func E.sf) #[] E.sb) := (a0_ HX.out 1).trans rfl
    have hfz0 := a2_ HX.out 0
    have hfz1 := a2_ HX.out 1
    have hen : (hi : Int) + (m : Int) - (s : Int) = (e : Int) := by omega
    have hbnd : a ≤ s ∧ s ≤ m ∧ s ≤ hi := by omega
    obtain ⟨n1, n2, n3⟩ := hbnd
    clear h12 h21 hU1 hV1 hml hS1 hl1 hA0 HA HT HD he
    have hcs : (a < s ∧ m < e ∧ s < m ∧ e < b) ∨ (a < s ∧ m < e ∧ s < m ∧ b ≤ e) ∨ (a < s ∧ m < e ∧ m ≤ s ∧ e < b) ∨ (a < s ∧ e ≤ m ∧ s < m ∧ e < b) ∨ (a < s ∧ e ≤ m ∧ m ≤ s ∧ e < b) ∨ (s ≤ a ∧ m < e ∧ s < m ∧ e < b) ∨ (s ≤ a ∧ m < e ∧ s < m ∧ b ≤ e) := by omega
    rcases hcs with ⟨k1, k2, k3, k4⟩ | ⟨k1, k2, k3, k4⟩ | ⟨k1, k2, k3, k4⟩ | ⟨k1, k2, k3, k4⟩ | ⟨k1, k2, k3, k4⟩ | ⟨k1, k2, k3, k4⟩ | ⟨k1, k2, k3, k4⟩
    ·have z1 : (s : Int) < (m : Int) := by omega
     have z2 : (m : Int) < (e : Int) := by omega
     have z3 : (a : Int) < (s : Int) := by omega
     have z4 : (s : Int) < (hi : Int) := by omega
     have z5 : (hi : Int) < (e : Int) := by omega
     have z6 : (e : Int) < (b : Int) := by omega
     have HRB := m_ (show E.RW wr ((X ++ U1) ++ (U2 ++ (V1 ++ (V2 ++ Z)))) from by simpa using HA0.out)
     go_wp2_with (go_at_call 137; refine (rotateF E HO.out s m e (X ++ U1) U2 V1 (V2 ++ Z) wr HRB.out Z2 Z2 Z2 Z3 Z3).mono ?_; rintro e' w5 ⟨rfl, hr5, hg5⟩; have HR5 := m_ (show E.RW w5 (X ++ (U1 ++ (V1 ++ (U2 ++ (V2 ++ Z))))) from by simpa using hr5); have HG5 := m_ (b4_ HG.out hg5); have HX5 := m_ (grown_box HX.out hg5 hne); clear hr5 hg5 hcz0 hcz1 hfz0 hfz1; obtain ⟨hcz0, hcz1, hfz0, hfz1⟩ := bz2_ HX5)
     refine (HIH.out (U1.length + V1.length) Z9 a s hi X U1 V1 (U2 ++ (V2 ++ Z)) w5 rfl HR5.out Z5 Z8 Z8 Z3 Z3 HS1.out.1 HS1.out.2.2.1).mono ?_
     rintro e' w6 ⟨rfl, hr6, hg6⟩
     have HR6 := m_ hr6
     have HG6 := m_ (b4_ HG5.out hg6)
     have HX6 := m_ (grown_box HX5.out hg6 hne)
     clear hr6 hg6 hcz0 hcz1 hfz0 hfz1
     obtain ⟨hcz0, hcz1, hfz0, hfz1⟩ := bz2_ HX6
     go_wp2_with fail
     have HML1 := m_ (show (X ++ mrg E.key U1 V1).length = hi from by rw [List.length_append, mrg_length]; have := HLN.out; have := HL1.out; omega)
     have HR7 := m_ (show E.RW w6 ((X ++ mrg E.key U1 V1) ++ (U2 ++ (V2 ++ Z))) from by rw [List.append_assoc]; exact HR6.out)
     refine (HIH.out (U2.length + V2.length) Z9 hi e b (X ++ mrg E.key U1 V1) U2 V2 Z w6 rfl HR7.out (by have := HML1.out; omega) Z7 Z7 Z3 Z3 HS1.out.2.1 HS1.out.2.2.2).mono ?_
     rintro e' w7 ⟨rfl, hr7, hg7⟩
     have HR8 := m_ hr7
     have HG8 := m_ (b4_ HG6.out hg7)
     clear hr7 hg7
     go_wp2_with fail
     go_end0
     exact ⟨rfl, by rw [HML.out]; have := HR8.out; simpa using this, HG8.out⟩
    ·have z1 : (s : Int) < (m : Int) := by omega
     have z2 : (m : Int) < (e : Int) := by omega
     have z3 : (a : Int) < (s : Int) := by omega
     have z4 : (s : Int) < (hi : Int) := by omega
     have z5 : (hi : Int) < (e : Int) := by omega
     have z6 : decide ((e : Int) < (b : Int)) = false := by simp; omega
     have HRB := m_ (show E.RW wr ((X ++ U1) ++ (U2 ++ (V1 ++ (V2 ++ Z)))) from by simpa using HA0.out)
     go_wp2_with (go_at_call 137; refine (rotateF E HO.out s m e (X ++ U1) U2 V1 (V2 ++ Z) wr HRB.out Z2 Z2 Z2 Z3 Z3).mono ?_; rintro e' w5 ⟨rfl, hr5, hg5⟩; have HR5 := m_ (show E.RW w5 (X ++ (U1 ++ (V1 ++ (U2 ++ (V2 ++ Z))))) from by simpa using hr5); have HG5 := m_ (b4_ HG.out hg5); have HX5 := m_ (grown_box HX.out hg5 hne); clear hr5 hg5 hcz0 hcz1 hfz0 hfz1; obtain ⟨hcz0, hcz1, hfz0, hfz1⟩ := bz2_ HX5)
     refine (HIH.out (U1.length + V1.length) Z9 a s hi X U1 V1 (U2 ++ (V2 ++ Z)) w5 rfl HR5.out Z5 Z8 Z8 Z3 Z3 HS1.out.1 HS1.out.2.2.1).mono ?_
     rintro e' w6 ⟨rfl, hr6, hg6⟩
     have HR6 := m_ hr6
     have HG6 := m_ (b4_ HG5.out hg6)
     have HX6 := m_ (grown_box HX5.out hg6 hne)
     clear hr6 hg6 hcz0 hcz1 hfz0 hfz1
     obtain ⟨hcz0, hcz1, hfz0, hfz1⟩ := bz2_ HX6
     go_wp2_with fail
     have HML1 := m_ (show (X ++ mrg E.key U1 V1).length = hi from by rw [List.length_append, mrg_length]; have := HLN.out; have := HL1.out; omega)
     have HR7 := m_ (show E.RW w6 ((X ++ mrg E.key U1 V1) ++ (U2 ++ (V2 ++ Z))) from by rw [List.append_assoc]; exact HR6.out)
     have hem : V2 = [] := List.eq_nil_of_length_eq_zero Z3
     have HR8 := m_ (show E.RW w6 ((X ++ mrg E.key U1 V1) ++ (mrg E.key U2 V2 ++ Z)) from by have := HR7.out; rw [hem] at this ⊢; rw [mrg_nil_right]; simpa using this)
     have HG8 := HG6
     clear hem
     go_end0
     exact ⟨rfl, by rw [HML.out]; have := HR8.out; simpa using this, HG8.out⟩
    ·exfalso; omega
    ·have z1 : (s : Int) < (m : Int) := by omega
     have z2 : decide ((m : Int) < (e : Int)) = false := by simp; omega
     have z3 : (a : Int) < (s : Int) := by omega
     have z4 : decide ((s : Int) < (hi : Int)) = false := by simp; omega
     have z5 : (hi : Int) < (e : Int) := by omega
     have z6 : (e : Int) < (b : Int) := by omega
     have hem : V1 = [] := List.eq_nil_of_length_eq_zero Z3
     have HR5 := m_ (show E.RW wr (X ++ (U1 ++ (V1 ++ (U2 ++ (V2 ++ Z))))) from by have := HA0.out; rw [hem] at this ⊢; simpa using this)
     have HG5 := HG
     have HX5 := HX
     clear hem
     go_wp2_with fail
     have hem : V1 = [] := List.eq_nil_of_length_eq_zero Z3
     have HR6 := m_ (show E.RW wr (X ++ (mrg E.key U1 V1 ++ (U2 ++ (V2 ++ Z)))) from by have := HR5.out; rw [hem] at this ⊢; rw [mrg_nil_right]; simpa using this)
     have HG6 := HG5
     have HX6 := HX5
     clear hem
     have HML1 := m_ (show (X ++ mrg E.key U1 V1).length = hi from by rw [List.length_append, mrg_length]; have := HLN.out; have := HL1.out; omega)
     have HR7 := m_ (show E.RW wr ((X ++ mrg E.key U1 V1) ++ (U2 ++ (V2 ++ Z))) from by rw [List.append_assoc]; exact HR6.out)
     refine (HIH.out (U2.length + V2.length) Z9 hi e b (X ++ mrg E.key U1 V1) U2 V2 Z wr rfl HR7.out (by have := HML1.out; omega) Z7 Z7 Z3 Z3 HS1.out.2.1 HS1.out.2.2.2).mono ?_
     rintro e' w7 ⟨rfl, hr7, hg7⟩
     have HR8 := m_ hr7
     have HG8 := m_ (b4_ HG6.out hg7)
     clear hr7 hg7
     go_wp2_with fail
     go_end0
     exact ⟨rfl, by rw [HML.out]; have := HR8.out; simpa using this, HG8.out⟩
    ·exfalso; omega
    ·exfalso; omega
    ·have z1 : (s : Int) < (m : Int) := by omega
     have z2 : (m : Int) < (e : Int) := by omega
     have z3 : decide ((a : Int) < (s : Int)) = false := by simp; omega
     have z4 : (s : Int) < (hi : Int) := by omega
     have z5 : (hi : Int) < (e : Int) := by omega
     have z6 : decide ((e : Int) < (b : Int)) = false := by simp; omega
     have HRB := m_ (show E.RW wr ((X ++ U1) ++ (U2 ++ (V1 ++ (V2 ++ Z)))) from by simpa using HA0.out)
     go_wp2_with (go_at_call 137; refine (rotateF E HO.out s m e (X ++ U1) U2 V1 (V2 ++ Z) wr HRB.out Z2 Z2 Z2 Z3 Z3).mono ?_; rintro e' w5 ⟨rfl, hr5, hg5⟩; have HR5 := m_ (show E.RW w5 (X ++ (U1 ++ (V1 ++ (U2 ++ (V2 ++ Z))))) from by simpa using hr5); have HG5 := m_ (b4_ HG.out hg5); have HX5 := m_ (grown_box HX.out hg5 hne); clear hr5 hg5 hcz0 hcz1 hfz0 hfz1; obtain ⟨hcz0, hcz1, hfz0, hfz1⟩ := bz2_ HX5)
     have hem : U1 = [] := List.eq_nil_of_length_eq_zero Z3
     have HR6 := m_ (show E.RW w5 (X ++ (mrg E.key U1 V1 ++ (U2 ++ (V2 ++ Z)))) from by have := HR5.out; rw [hem] at this ⊢; rw [mrg_nil_left]; simpa using this)
     have HG6 := HG5
     have HX6 := HX5
     clear hem
     have HML1 := m_ (show (X ++ mrg E.key U1 V1).length = hi from by rw [List.length_append, mrg_length]; have := HLN.out; have := HL1.out; omega)
     have HR7 := m_ (show E.RW w5 ((X ++ mrg E.key U1 V1) ++ (U2 ++ (V2 ++ Z))) from by rw [List.append_assoc]; exact HR6.out)
     have hem : V2 = [] := List.eq_nil_of_length_eq_zero Z3
     have HR8 := m_ (show E.RW w5 ((X ++ mrg E.key U1 V1) ++ (mrg E.key U2 V2 ++ Z)) from by have := HR7.out; rw [hem] at this ⊢; rw [mrg_nil_right]; simpa using this)
     have HG8 := HG6
     clear hem
     go_end0
     exact ⟨rfl, by rw [HML.out]; have := HR8.out; simpa using this, HG8.out⟩
 ·have t1 : decide ((mid : Int) < (m : Int)) = false := by simp; omega
  subst q2 q3
  go_enter Try.func132, Try.ntmps132
  go_wp2_with (first | ((with_reducible refine a3_ (N := 4) rfl ?_); refine box_event ?hg (N := 4) ?hd (cs := #[.func (.func 86) #[] E.lb, .func (.func E.sf) #[] E.sb]) (t := 165) ?hr ?_; (case hd => rfl); (case hg => rfl); (case hr => first | (go_simp; done) | (go_simp; rfl)); intro gb hgb wb hxb hbb; have HXB := m_ hxb; have HRB := m_ (HR.out.below hbb); have HGB := m_ (e4_ (g := E.g) hbb); have hne : gb ≠ E.g := (by omega); clear hgb hxb hbb HR))
  go_loopw [18, 19] (fun v18 v19 wr => ∃ (s r : Nat), v18 = .int .i64 (s : Int) ∧ v19 = .int .i64 (r : Int) ∧ lo ≤ s ∧ s ≤ r ∧ r ≤ hi ∧ A_ (∀ c x y, lo ≤ c → c < s → U[c - lo]? = some x → V[mid + hi - 1 - c - hi]? = some y → E.key x ≤ E.key y) ∧ A_ (∀ c x y, r ≤ c → c < hi → U[c - lo]? = some x → V[mid + hi - 1 - c - hi]? = some y → E.key y < E.key x) ∧
   A_ (E.RW wr (X ++ (U ++ (V ++ Z)))) ∧ A_ (w.grownBy wr (some E.g)) ∧ A_ (wr.heap[gb]? = some (.cells #[.func (.func 86) #[] E.lb, .func (.func E.sf) #[] E.sb] 165 (0, 0)))) (fun v18 v19 _ => (intOf v19).toNat - (intOf v18).toNat)
  case atStart => exact ⟨lo, hi, rfl, rfl, Nat.le_refl _, l2, Nat.le_refl _, ⟨fun c x y h1 h2 => by omega⟩, ⟨fun c x y h1 h2 => by omega⟩, HRB, HGB, HXB⟩
  case round =>
   clear HRB HGB HXB
   obtain ⟨s, r, rfl, rfl, hls, hsr, hrh, HT, HD, HA, HG, HX⟩ := hrel
   by_cases hlt : s < r
   ·have hlt' : (s : Int) < r := by omega
    obtain ⟨c, hc⟩ : ∃ c, c = (s + r) / 2 := ⟨_, rfl⟩
    have hc1 : s ≤ c ∧ c < r := by omega
    obtain ⟨hc2, hc3⟩ := hc1
    obtain ⟨d, hd⟩ : ∃ d, d = mid + hi - 1 - c := ⟨_, rfl⟩
    have hd1 : hi ≤ d ∧ d < b := by omega
    have hxu : U[c - lo]? = some _ := List.getElem?_eq_getElem (show c - lo < U.length by have := HLN.out; omega)
    have hyv : V[d - hi]? = some _ := List.getElem?_eq_getElem (show d - hi < V.length by have := HLN.out; omega)
    generalize U[c - lo]'_ = x at *
    generalize V[d - hi]'_ = y at *
    have hrx : (X ++ (U ++ (V ++ Z)))[c]? = some x := by rw [List.getElem?_append_right Z5, List.getElem?_append_left Z5, show c - X.length = c - lo by have := HLN.out; omega]; exact hxu
    have hry : (X ++ (U ++ (V ++ Z)))[d]? = some y := by rw [List.getElem?_append_right Z5, List.getElem?_append_right Z5, List.getElem?_append_left Z5, show d - X.length - U.length = d - hi by have := HLN.out; omega]; exact hyv
    have HXU := m_ hxu
    have HYV := m_ hyv
    have HDD := m_ hd
    have hcc : ((s : Int) + (r : Int)) / 2 = (c : Int) := by omega
    have hdd : (mid : Int) + (hi : Int) - 1 - (c : Int) = (d : Int) := by omega
    have hdw : IntKind.i64.wrap ((mid : Int) + (hi : Int) - 1 - (c : Int)) = (d : Int) := by rw [IntKind.wrap_i64]; omega
    have hdw2 : IntKind.i64.wrap (d : Int) = (d : Int) := by rw [IntKind.wrap_i64]; omega
    have j0 : (c : Int) < n := by omega
    have j1 : (d : Int) < n := by omega
    have c0 : (0 : Int) ≤ (s : Int) + (r : Int) := by omega
    have c1 : (s : Int) + (r : Int) ≤ 2000000000000 := by omega
    clear hxu hyv hd hc
    have hcall := HO.out.less wr _ d c _ _ HA.out hry hrx
    have l0 : wr.cell? ⟨gb, 0, none⟩ = some (.func (.func 86) #[] E.lb) := (a0_ HX.out 0).trans rfl
    clear hrx hry
    by_cases hlt2 : E.key y < E.key x
    ·rw [decide_eq_true hlt2] at hcall
     have HLT := m_ hlt2
     clear hlt2
     have HC := m_ hcall
     clear hcall
     go_wp2_with (go_at_call 86; refine HC.out.mono ?_; rintro e w4 ⟨rfl, hb4⟩; have HA4 := m_ (HA.out.below hb4); have HG4 := m_ (e5_ HG.out hb4); have HX4 := m_ (a1_ HX.out hb4); clear hb4)
     go_roundw
     case rel => exact ⟨s, c, rfl, by first | rfl | exact int_i64 (by omega), hls, hc2, by omega, HT, ⟨fun c' x' y' h1 h2 h3 h4 => by
      by_cases e : r ≤ c'
      ·exact HD.out c' x' y' e h2 h3 h4
      ·have k1 := ksrt_le HS.out.1 (i := c - lo) (j := c' - lo) (by omega) HXU.out h3
       have k2 := ksrt_le HS.out.2 (i := mid + hi - 1 - c' - hi) (j := d - hi) (by have := HDD.out; omega) h4 HYV.out
       have := HLT.out
       omega⟩, HA4, HG4, HX4⟩
     case measure => simp [intOf]; omega
    ·rw [decide_eq_false hlt2] at hcall
     have HLT := m_ (show E.key x ≤ E.key y by omega)
     clear hlt2
     have HC := m_ hcall
     clear hcall
     go_wp2_with (go_at_call 86; refine HC.out.mono ?_; rintro e w4 ⟨rfl, hb4⟩; have HA4 := m_ (HA.out.below hb4); have HG4 := m_ (e5_ HG.out hb4); have HX4 := m_ (a1_ HX.out hb4); clear hb4)
     go_roundw
     case rel => exact ⟨c + 1, r, by first | exact int_i64 (by omega) | go_num, rfl, by omega, by omega, hrh, ⟨fun c' x' y' h1 h2 h3 h4 => by
      by_cases e : c' < s
      ·exact HT.out c' x' y' h1 e h3 h4
      ·have k1 := ksrt_le HS.out.1 (i := c' - lo) (j := c - lo) (by omega) h3 HXU.out
       have k2 := ksrt_le HS.out.2 (i := d - hi) (j := mid + hi - 1 - c' - hi) (by have := HDD.out; omega) HYV.out h4
       have := HLT.out
       omega⟩, HD, HA4, HG4, HX4⟩
     case measure => simp [intOf]; omega
   ·obtain rfl : s = r := by omega
    obtain ⟨e, he⟩ : ∃ e, e = mid + hi - s := ⟨_, rfl⟩
    have he1 : hi ≤ e ∧ e ≤ b ∧ e + s = mid + hi := by omega
    obtain ⟨e1, e2, e3⟩ := he1
    have h12 := ksplit12 HS.out.1 HS.out.2 (p := s - lo) (q := e - hi) Z5 (by
     by_cases h1 : s = lo
     ·exact .inl (by omega)
     ·by_cases h2 : e = b
      ·exact .inr (.inl Z5)
      ·exact .inr (.inr fun x y hx hy => HT.out (s - 1) x y (by have := HLH.out; omega) (by omega) (by rw [show s - 1 - lo = s - lo - 1 by omega]; exact hx) (by rw [show mid + hi - 1 - (s - 1) - hi = e - hi by omega]; exact hy)))
    have h21 := ksplit21 HS.out.1 HS.out.2 (p := s - lo) (q := e - hi) Z5 (by
     by_cases h1 : s = hi
     ·exact .inl Z5
     ·by_cases h2 : e = hi
      ·exact .inr (.inl (by omega))
      ·exact .inr (.inr fun x y hx hy => HD.out s x y (by omega) (by have := HLH.out; omega) hx (by rw [show mid + hi - 1 - s - hi = e - hi - 1 by omega]; exact hy)))
    have hU1 : U.take (s - lo) ++ U.drop (s - lo) = U := List.take_append_drop _ U
    have hV1 : V.take (e - hi) ++ V.drop (e - hi) = V := List.take_append_drop _ V
    have hml := mrg_split E.key _ _ _ _ h12 h21
    rw [hU1, hV1] at hml
    have hS1 : Srt E.key (U.take (s - lo)) ∧ Srt E.key (U.drop (s - lo)) ∧ Srt E.key (V.take (e - hi)) ∧ Srt E.key (V.drop (e - hi)) := ⟨HS.out.1.sublist (List.take_sublist _ _), HS.out.1.sublist (List.drop_sublist _ _), HS.out.2.sublist (List.take_sublist _ _), HS.out.2.sublist (List.drop_sublist _ _)⟩
    have hl1 : (U.take (s - lo)).length = s - lo ∧ (U.drop (s - lo)).length = hi - s ∧ (V.take (e - hi)).length = e - hi ∧ (V.drop (e - hi)).length = b - e := by
     rw [List.length_take, List.length_drop, List.length_take, List.length_drop]; have := HLN.out; omega
    have hA0 := HA.out
    rw [← hU1, ← hV1] at hA0
    have HML := m_ hml
    generalize U.take (s - lo) = U1 at *
    generalize U.drop (s - lo) = U2 at *
    generalize V.take (e - hi) = V1 at *
    generalize V.drop (e - hi) = V2 at *
    have HS1 := m_ hS1
    have HL1 := m_ hl1
    have HA0 := m_ (show E.RW wr (X ++ (U1 ++ (U2 ++ (V1 ++ (V2 ++ Z))))) from by simpa using hA0)
    have hcz0 : wr.cell? ⟨gb, 0, none⟩ = some (.func (.func 86) #[] E.lb) := (a0_ HX.out 0).trans rfl
    have hcz1 : wr.cell? ⟨gb, 1, none⟩ = some (.func (.func E.sf) #[] E.sb) := (a0_ HX.out 1).trans rfl
    have hfz0 := a2_ HX.out 0
    have hfz1 := a2_ HX.out 1
    have hen : (mid : Int) + (hi : Int) - (s : Int) = (e : Int) := by omega
    have hbnd : lo ≤ s ∧ s ≤ hi ∧ s ≤ mid := by omega
    obtain ⟨n1, n2, n3⟩ := hbnd
    clear h12 h21 hU1 hV1 hml hS1 hl1 hA0 HA HT HD he
    have hcs : (lo < s ∧ hi < e ∧ s < hi ∧ e < b) ∨ (lo < s ∧ hi < e ∧ s < hi ∧ b ≤ e) ∨ (lo < s ∧ hi < e ∧ hi ≤ s ∧ e < b) ∨ (lo < s ∧ e ≤ hi ∧ s < hi ∧ e < b) ∨ (lo < s ∧ e ≤ hi ∧ hi ≤ s ∧ e < b) ∨ (s ≤ lo ∧ hi < e ∧ s < hi ∧ e < b) ∨ (s ≤ lo ∧ hi < e ∧ s < hi ∧ b ≤ e) := by omega
    rcases hcs with ⟨k1, k2, k3, k4⟩ | ⟨k1, k2, k3, k4⟩ | ⟨k1, k2, k3, k4⟩ | ⟨k1, k2, k3, k4⟩ | ⟨k1, k2, k3, k4⟩ | ⟨k1, k2, k3, k4⟩ | ⟨k1, k2, k3, k4⟩
    ·have z1 : (s : Int) < (hi : Int) := by omega
     have z2 : (hi : Int) < (e : Int) := by omega
     have z3 : (lo : Int) < (s : Int) := by omega
     have z4 : (s : Int) < (mid : Int) := by omega
     have z5 : (mid : Int) < (e : Int) := by omega
     have z6 : (e : Int) < (b : Int) := by omega
     have HRB := m_ (show E.RW wr ((X ++ U1) ++ (U2 ++ (V1 ++ (V2 ++ Z)))) from by simpa using HA0.out)
     go_wp2_with (go_at_call 137; refine (rotateF E HO.out s hi e (X ++ U1) U2 V1 (V2 ++ Z) wr HRB.out Z2 Z2 Z2 Z3 Z3).mono ?_; rintro e' w5 ⟨rfl, hr5, hg5⟩; have HR5 := m_ (show E.RW w5 (X ++ (U1 ++ (V1 ++ (U2 ++ (V2 ++ Z))))) from by simpa using hr5); have HG5 := m_ (b4_ HG.out hg5); have HX5 := m_ (grown_box HX.out hg5 hne); clear hr5 hg5 hcz0 hcz1 hfz0 hfz1; obtain ⟨hcz0, hcz1, hfz0, hfz1⟩ := bz2_ HX5)
     refine (HIH.out (U1.length + V1.length) Z9 lo s mid X U1 V1 (U2 ++ (V2 ++ Z)) w5 rfl HR5.out Z5 Z8 Z8 Z3 Z3 HS1.out.1 HS1.out.2.2.1).mono ?_
     rintro e' w6 ⟨rfl, hr6, hg6⟩
     have HR6 := m_ hr6
     have HG6 := m_ (b4_ HG5.out hg6)
     have HX6 := m_ (grown_box HX5.out hg6 hne)
     clear hr6 hg6 hcz0 hcz1 hfz0 hfz1
     obtain ⟨hcz0, hcz1, hfz0, hfz1⟩ := bz2_ HX6
     go_wp2_with fail
     have HML1 := m_ (show (X ++ mrg E.key U1 V1).length = mid from by rw [List.length_append, mrg_length]; have := HLN.out; have := HL1.out; omega)
     have HR7 := m_ (show E.RW w6 ((X ++ mrg E.key U1 V1) ++ (U2 ++ (V2 ++ Z))) from by rw [List.append_assoc]; exact HR6.out)
     refine (HIH.out (U2.length + V2.length) Z9 mid e b (X ++ mrg E.key U1 V1) U2 V2 Z w6 rfl HR7.out (by have := HML1.out; omega) Z7 Z7 Z3 Z3 HS1.out.2.1 HS1.out.2.2.2).mono ?_
     rintro e' w7 ⟨rfl, hr7, hg7⟩
     have HR8 := m_ hr7
     have HG8 := m_ (b4_ HG6.out hg7)
     clear hr7 hg7
     go_wp2_with fail
     go_end0
     exact ⟨rfl, by rw [HML.out]; have := HR8.out; simpa using this, HG8.out⟩
    ·exfalso; omega
    ·have z1 : decide ((s : Int) < (hi : Int)) = false := by simp; omega
     have z2 : (hi : Int) < (e : Int) := by omega
     have z3 : (lo : Int) < (s : Int) := by omega
     have z4 : (s : Int) < (mid : Int) := by omega
     have z5 : decide ((mid : Int) < (e : Int)) = false := by simp; omega
     have z6 : (e : Int) < (b : Int) := by omega
     have hem : U2 = [] := List.eq_nil_of_length_eq_zero Z3
     have HR5 := m_ (show E.RW wr (X ++ (U1 ++ (V1 ++ (U2 ++ (V2 ++ Z))))) from by have := HA0.out; rw [hem] at this ⊢; simpa using this)
     have HG5 := HG
     have HX5 := HX
     clear hem
     go_wp2_with fail
     refine (HIH.out (U1.length + V1.length) Z9 lo s mid X U1 V1 (U2 ++ (V2 ++ Z)) wr rfl HR5.out Z5 Z8 Z8 Z3 Z3 HS1.out.1 HS1.out.2.2.1).mono ?_
     rintro e' w6 ⟨rfl, hr6, hg6⟩
     have HR6 := m_ hr6
     have HG6 := m_ (b4_ HG5.out hg6)
     have HX6 := m_ (grown_box HX5.out hg6 hne)
     clear hr6 hg6 hcz0 hcz1 hfz0 hfz1
     obtain ⟨hcz0, hcz1, hfz0, hfz1⟩ := bz2_ HX6
     go_wp2_with fail
     have HML1 := m_ (show (X ++ mrg E.key U1 V1).length = mid from by rw [List.length_append, mrg_length]; have := HLN.out; have := HL1.out; omega)
     have HR7 := m_ (show E.RW w6 ((X ++ mrg E.key U1 V1) ++ (U2 ++ (V2 ++ Z))) from by rw [List.append_assoc]; exact HR6.out)
     have hem : U2 = [] := List.eq_nil_of_length_eq_zero Z3
     have HR8 := m_ (show E.RW w6 ((X ++ mrg E.key U1 V1) ++ (mrg E.key U2 V2 ++ Z)) from by have := HR7.out; rw [hem] at this ⊢; rw [mrg_nil_left]; simpa using this)
     have HG8 := HG6
     clear hem
     go_end0
     exact ⟨rfl, by rw [HML.out]; have := HR8.out; simpa using this, HG8.out⟩
    ·exfalso; omega
    ·have z1 : decide ((s : Int) < (hi : Int)) = false := by simp; omega
     have z2 : decide ((hi : Int) < (e : Int)) = false := by simp; omega
     have z3 : (lo : Int) < (s : Int) := by omega
     have z4 : decide ((s : Int) < (mid : Int)) = false := by simp; omega
     have z5 : decide ((mid : Int) < (e : Int)) = false := by simp; omega
     have z6 : (e : Int) < (b : Int) := by omega
     have hem : U2 = [] := List.eq_nil_of_length_eq_zero Z3
     have HR5 := m_ (show E.RW wr (X ++ (U1 ++ (V1 ++ (U2 ++ (V2 ++ Z))))) from by have := HA0.out; rw [hem] at this ⊢; simpa using this)
     have HG5 := HG
     have HX5 := HX
     clear hem
     go_wp2_with fail
     have hem : V1 = [] := List.eq_nil_of_length_eq_zero Z3
     have HR6 := m_ (show E.RW wr (X ++ (mrg E.key U1 V1 ++ (U2 ++ (V2 ++ Z)))) from by have := HR5.out; rw [hem] at this ⊢; rw [mrg_nil_right]; simpa using this)
     have HG6 := HG5
     have HX6 := HX5
     clear hem
     have HML1 := m_ (show (X ++ mrg E.key U1 V1).length = mid from by rw [List.length_append, mrg_length]; have := HLN.out; have := HL1.out; omega)
     have HR7 := m_ (show E.RW wr ((X ++ mrg E.key U1 V1) ++ (U2 ++ (V2 ++ Z))) from by rw [List.append_assoc]; exact HR6.out)
     have hem : U2 = [] := List.eq_nil_of_length_eq_zero Z3
     have HR8 := m_ (show E.RW wr ((X ++ mrg E.key U1 V1) ++ (mrg E.key U2 V2 ++ Z)) from by have := HR7.out; rw [hem] at this ⊢; rw [mrg_nil_left]; simpa using this)
     have HG8 := HG6
     clear hem
     go_end0
     exact ⟨rfl, by rw [HML.out]; have := HR8.out; simpa using this, HG8.out⟩
    ·have z1 : (s : Int) < (hi : Int) := by omega
     have z2 : (hi : Int) < (e : Int) := by omega
     have z3 : decide ((lo : Int) < (s : Int)) = false := by simp; omega
     have z4 : (s : Int) < (mid : Int) := by omega
     have z5 : (mid : Int) < (e : Int) := by omega
     have z6 : (e : Int) < (b : Int) := by omega
     have HRB := m_ (show E.RW wr ((X ++ U1) ++ (U2 ++ (V1 ++ (V2 ++ Z)))) from by simpa using HA0.out)
     go_wp2_with (go_at_call 137; refine (rotateF E HO.out s hi e (X ++ U1) U2 V1 (V2 ++ Z) wr HRB.out Z2 Z2 Z2 Z3 Z3).mono ?_; rintro e' w5 ⟨rfl, hr5, hg5⟩; have HR5 := m_ (show E.RW w5 (X ++ (U1 ++ (V1 ++ (U2 ++ (V2 ++ Z))))) from by simpa using hr5); have HG5 := m_ (b4_ HG.out hg5); have HX5 := m_ (grown_box HX.out hg5 hne); clear hr5 hg5 hcz0 hcz1 hfz0 hfz1; obtain ⟨hcz0, hcz1, hfz0, hfz1⟩ := bz2_ HX5)
     have hem : U1 = [] := List.eq_nil_of_length_eq_zero Z3
     have HR6 := m_ (show E.RW w5 (X ++ (mrg E.key U1 V1 ++ (U2 ++ (V2 ++ Z)))) from by have := HR5.out; rw [hem] at this ⊢; rw [mrg_nil_left]; simpa using this)
     have HG6 := HG5
     have HX6 := HX5
     clear hem
     have HML1 := m_ (show (X ++ mrg E.key U1 V1).length = mid from by rw [List.length_append, mrg_length]; have := HLN.out; have := HL1.out; omega)
     have HR7 := m_ (show E.RW w5 ((X ++ mrg E.key U1 V1) ++ (U2 ++ (V2 ++ Z))) from by rw [List.append_assoc]; exact HR6.out)
     refine (HIH.out (U2.length + V2.length) Z9 mid e b (X ++ mrg E.key U1 V1) U2 V2 Z w5 rfl HR7.out (by have := HML1.out; omega) Z7 Z7 Z3 Z3 HS1.out.2.1 HS1.out.2.2.2).mono ?_
     rintro e' w7 ⟨rfl, hr7, hg7⟩
     have HR8 := m_ hr7
     have HG8 := m_ (b4_ HG6.out hg7)
     clear hr7 hg7
     go_wp2_with fail
     go_end0
     exact ⟨rfl, by rw [HML.out]; have := HR8.out; simpa using this, HG8.out⟩
    ·have z1 : (s : Int) < (hi : Int) := by omega
     have z2 : (hi : Int) < (e : Int) := by omega
     have z3 : decide ((lo : Int) < (s : Int)) = false := by simp; omega
     have z4 : (s : Int) < (mid : Int) := by omega
     have z5 : (mid : Int) < (e : Int) := by omega
     have z6 : decide ((e : Int) < (b : Int)) = false := by simp; omega
     have HRB := m_ (show E.RW wr ((X ++ U1) ++ (U2 ++ (V1 ++ (V2 ++ Z)))) from by simpa using HA0.out)
     go_wp2_with (go_at_call 137; refine (rotateF E HO.out s hi e (X ++ U1) U2 V1 (V2 ++ Z) wr HRB.out Z2 Z2 Z2 Z3 Z3).mono ?_; rintro e' w5 ⟨rfl, hr5, hg5⟩; have HR5 := m_ (show E.RW w5 (X ++ (U1 ++ (V1 ++ (U2 ++ (V2 ++ Z))))) from by simpa using hr5); have HG5 := m_ (b4_ HG.out hg5); have HX5 := m_ (grown_box HX.out hg5 hne); clear hr5 hg5 hcz0 hcz1 hfz0 hfz1; obtain ⟨hcz0, hcz1, hfz0, hfz1⟩ := bz2_ HX5)
     have hem : U1 = [] := List.eq_nil_of_length_eq_zero Z3
     have HR6 := m_ (show E.RW w5 (X ++ (mrg E.key U1 V1 ++ (U2 ++ (V2 ++ Z)))) from by have := HR5.out; rw [hem] at this ⊢; rw [mrg_nil_left]; simpa using this)
     have HG6 := HG5
     have HX6 := HX5
     clear hem
     have HML1 := m_ (show (X ++ mrg E.key U1 V1).length = mid from by rw [List.length_append, mrg_length]; have := HLN.out; have := HL1.out; omega)
     have HR7 := m_ (show E.RW w5 ((X ++ mrg E.key U1 V1) ++ (U2 ++ (V2 ++ Z))) from by rw [List.append_assoc]; exact HR6.out)
     have hem : V2 = [] := List.eq_nil_of_length_eq_zero Z3
     have HR8 := m_ (show E.RW w5 ((X ++ mrg E.key U1 V1) ++ (mrg E.key U2 V2 ++ Z)) from by have := HR7.out; rw [hem] at this ⊢; rw [mrg_nil_right]; simpa using this)
     have HG8 := HG6
     clear hem
     go_end0
     exact ⟨rfl, by rw [HML.out]; have := HR8.out; simpa using this, HG8.out⟩
theorem symMergeF_any (E : SE) (O : E.Ok) : ∀ sz, SymF E sz := fun sz => by
 induction sz using Nat.strongRecOn with
 | ind sz IH =>
  intro a m b X U V Z w hsz hr ha hm hb hU0 hV0 hU hV
  by_cases h1 : U.length = 1
  ·obtain ⟨u, rfl⟩ := List.length_eq_one_iff.1 h1
   exact symMergeF_left E O a m b X V Z u w hr ha (by simpa using hm) (by simpa using hb) hV
  ·by_cases h2 : V.length = 1
   ·obtain ⟨v, rfl⟩ := List.length_eq_one_iff.1 h2
    exact symMergeF_right E O a m b X U Z v w hr ha hm (by simpa using hb) (by omega) hU
   ·exact symMergeF_gen E O sz IH a m b X U V Z w hsz hr ha hm hb (by omega) (by omega) hU hV
theorem kpre_get (X l : List S51) {a i : Nat} (ha : a = X.length) (h : a ≤ i) : (X ++ l)[i]? = l[i - a]? := by
 rw [List.getElem?_append_right (by omega), ha]
theorem kpre_set (X l : List S51) {a i : Nat} (ha : a = X.length) (h : a ≤ i) (v : S51) : (X ++ l).set i v = X ++ l.set (i - a) v := by
 rw [List.set_append_right _ _ (by omega), ha]
set_option maxHeartbeats 8000000 in
set_option maxRecDepth 100000 in
theorem insertF_gen (E : SE) (O : E.Ok) (a b c : Nat) (X xs : List S51) (w : World) (hr : E.RW w (X ++ xs)) (ha : a = X.length) (hb : b = a + c) (hc : c ≤ xs.length) (h2 : 2 ≤ c) :
  Calls Try.prog 131 #[.agg #[.func (.func 86) #[] E.lb, .func (.func E.sf) #[] E.sb], .int .i64 a, .int .i64 b] w fun e w' => e = .returned (.tuple #[]) ∧ E.RW w' (X ++ (isort E.key (xs.take c) ++ xs.drop c)) ∧ w.grownBy w' (some E.g) := by
 have hu165 := Try.underlying165
 have HO := m_ O
 have hn := O.nb
 have hgw : E.g < w.heap.size := Nat.lt_of_lt_of_le O.gb hr.grown.size
 have HR := m_ hr
 have hxl := hr.len.symm
 obtain ⟨n, hnE⟩ : ∃ n, E.n = n := ⟨_, rfl⟩
 rw [hnE] at hxl hn
 have HNE := m_ hnE
 clear hnE O
 rw [List.length_append] at hxl
 have bb : a + 2 ≤ b ∧ b ≤ n := by omega
 obtain ⟨bb1, bb2⟩ := bb
 have HXL := m_ (show X.length = a ∧ a + xs.length = n ∧ b = a + c ∧ c ≤ xs.length from by omega)
 clear hr hxl ha hb hc h2
 go_enter Try.func131, Try.ntmps131
 go_wp2_with (first | ((with_reducible refine a3_ (N := 3) rfl ?_); refine box_event ?hg (N := 3) ?hd (cs := #[.func (.func 86) #[] E.lb, .func (.func E.sf) #[] E.sb]) (t := 165) ?hr ?_; (case hd => rfl); (case hg => rfl); (case hr => first | (go_simp; done) | (go_simp; rfl)); intro gb hgb wb hxb hbb; have HXB := m_ hxb; have HRB := m_ (HR.out.below hbb); have HGB := m_ (e4_ (g := E.g) hbb); have hne : gb ≠ E.g := (by omega); clear hgb hxb hbb HR))
 go_loopw [6] (fun v6 wr => ∃ p : Nat, a + 1 ≤ p ∧ p ≤ b ∧ v6 = .int .i64 (p : Int) ∧ A_ (E.RW wr (X ++ (isort E.key (xs.take (p - a)) ++ xs.drop (p - a)))) ∧ A_ (w.grownBy wr (some E.g)) ∧ A_ (wr.heap[gb]? = some (.cells #[.func (.func 86) #[] E.lb, .func (.func E.sf) #[] E.sb] 165 (0, 0)))) (fun v6 _ => b - (intOf v6).toNat)
 case atStart => exact ⟨a + 1, Nat.le_refl _, by omega, by go_num, ⟨by
  have : isort E.key (xs.take (a + 1 - a)) ++ xs.drop (a + 1 - a) = xs := by
   rw [show a + 1 - a = 1 by omega]
   cases xs with
   | nil => rfl
   | cons x xs => simp [isort, insK]
  rw [this]; exact HRB.out⟩, HGB, HXB⟩
 case round =>
  clear HRB HGB HXB
  obtain ⟨p, hi1, hib, rfl, HA, HG, HX⟩ := hrel
  by_cases hlt : p < b
  ·have hlt' : (p : Int) < b := by omega
   obtain ⟨i, hpi⟩ : ∃ i, i = p - a := ⟨_, rfl⟩
   have hix : i < xs.length := by have := HXL.out; omega
   have hLl : (isort E.key (xs.take i)).length = i := by rw [(isort_perm E.key _).length_eq, List.length_take]; omega
   have hz : isort E.key (xs.take i) ++ xs.drop i = zAt (isort E.key (xs.take i)) xs[i] (xs.drop (i + 1)) i := by
    unfold zAt
    have t1 : (isort E.key (xs.take i)).take i = isort E.key (xs.take i) := List.take_of_length_le (by omega)
    have t2 : (isort E.key (xs.take i)).drop i = [] := List.drop_eq_nil_of_le (by omega)
    rw [t1, t2, List.nil_append, List.drop_eq_getElem_cons hix]
   have hstep := isort_take E.key xs i hix
   have hsrt := isort_sorted E.key (xs.take i)
   rw [← hpi, hz] at HA
   have hrl : (xs.drop (i + 1)).length = xs.length - (i + 1) := List.length_drop
   clear hz
   have HST := m_ hstep
   have HPI := m_ (And.intro hpi (show p + 1 - a = i + 1 by omega))
   clear hstep
   generalize hL : isort E.key (xs.take i) = L at *
   generalize hx : xs[i] = x at *
   generalize hre : xs.drop (i + 1) = rest at *
   have HSRT := m_ hsrt
   have HRE := m_ hre
   have HLL := m_ (show L.length = i ∧ a + i + 1 + rest.length = n ∧ i + a = p from by have := HXL.out; omega)
   clear hsrt hL hx hre hpi hLl hrl
   go_wp2
   obtain ⟨wo, hwo⟩ : ∃ wo : World, wo = wr := ⟨_, rfl⟩
   subst hwo
   go_loopg [7] p (fun kq v7 w2 => ∃ q : Nat, a ≤ q ∧ q ≤ p ∧ v7 = .int .i64 (q : Int) ∧ A_ (kq = q) ∧ A_ (∀ y ∈ L.drop (q - a), E.key x < E.key y) ∧ A_ (E.RW w2 (X ++ zAt L x rest (q - a))) ∧ A_ (w.grownBy w2 (some E.g)) ∧ A_ (w2.heap[gb]? = some (.cells #[.func (.func 86) #[] E.lb, .func (.func E.sf) #[] E.sb] 165 (0, 0))))
   case atStart => exact ⟨p, by omega, Nat.le_refl _, rfl, ⟨rfl⟩, ⟨fun y hy => by rw [List.drop_eq_nil_of_le (by have := HLL.out; omega)] at hy; cases hy⟩, ⟨by rw [← HPI.out.1]; exact HA.out⟩, HG, HX⟩
   case round =>
    clear HA HG HX
    obtain ⟨q, hqa, hj, rfl, HQ, HD, HA, HG, HX⟩ := hrel
    by_cases hq0 : q ≤ a
    ·have hqe : q - a = 0 := by omega
     have hdone : X ++ (isort E.key (xs.take (p + 1 - a)) ++ xs.drop (p + 1 - a)) = X ++ zAt L x rest (q - a) := by
      have hd := HD.out
      rw [hqe] at hd ⊢
      rw [HPI.out.2, HST.out, HRE.out, insK_at E.key x L 0 (by simp) hd]
      simp [zAt]
     rw [← hdone] at HA
     have hd1 : decide ((a : Int) < (q : Int)) = false := by simp; omega
     have hd2 : decide (a < q) = false := by simp; omega
     clear hdone hqe
     go_wp2
     go_roundw
     case rel => exact ⟨p + 1, by omega, by omega, by go_num, HA, HG, HX⟩
     case measure => simp [intOf]; omega
    ·obtain ⟨m, rfl⟩ : ∃ m, q = m + 1 := ⟨q - 1, by omega⟩
     have hm : m - a < L.length := by have := HLL.out; omega
     have hxp : (X ++ zAt L x rest (m + 1 - a))[m + 1]? = some x := by
      rw [kpre_get X _ HXL.out.1.symm (by omega)]; exact zAt_get L x rest (m + 1 - a) (by omega)
     have hyp : (X ++ zAt L x rest (m + 1 - a))[m]? = some L[m - a] := by
      rw [kpre_get X _ HXL.out.1.symm (by omega), show m + 1 - a = m - a + 1 by omega]; exact zAt_get1 L x rest (m - a) hm
     have hzs : ((X ++ zAt L x rest (m + 1 - a)).set (m + 1) L[m - a]).set m x = X ++ zAt L x rest (m - a) := by
      rw [kpre_set X _ HXL.out.1.symm (by omega), kpre_set X _ HXL.out.1.symm (by omega), show m + 1 - a = m - a + 1 by omega, zAt_step L x rest (m - a) hm]
     have hd := List.drop_eq_getElem_cons hm
     have ht := List.take_succ_eq_append_getElem hm
     generalize L[m - a] = y at *
     have HZS := m_ hzs
     have HXP := m_ hxp
     have HYP := m_ hyp
     have HDR := m_ hd
     have HTK := m_ ht
     clear hzs hd ht hxp hyp
     have e1 : IntKind.i64.wrap (m : Int) = (m : Int) := by rw [IntKind.wrap_i64]; omega
     have i0 : (0 : Int) ≤ (m : Int) + 1 := by omega
     have i1 : (a : Int) < (m : Int) + 1 := by omega
     have i2 : (m : Int) + 1 < n := by omega
     have i3 : (m : Int) < n := by omega
     have i4 : ((m : Int) + 1).toNat = m + 1 := by omega
     have hcall := HO.out.less wr _ (m + 1) m x y HA.out HXP.out HYP.out
     have l0 : wr.cell? ⟨gb, 0, none⟩ = some (.func (.func 86) #[] E.lb) := (a0_ HX.out 0).trans rfl
     have i5 : (m : Int) + 1 - 1 = (m : Int) := by omega
     have i6 : IntKind.i64.wrap ((m : Int) + 1 - 1) = (m : Int) := by rw [IntKind.wrap_i64]; omega
     push_cast at hcall
     by_cases hlt2 : E.key x < E.key y
     ·rw [decide_eq_true hlt2] at hcall
      have HLT := m_ hlt2
      have HC := m_ hcall
      clear hlt2 hcall
      go_wp2_with (go_at_call 86; refine HC.out.mono ?_; rintro e w4 ⟨rfl, hb4⟩; have HA4 := m_ (HA.out.below hb4); have HG4 := m_ (e5_ HG.out hb4); have HX4 := m_ (a1_ HX.out hb4); clear hb4; have l1 : w4.cell? ⟨gb, 1, none⟩ = some (.func (.func E.sf) #[] E.sb) := (a0_ HX4.out 1).trans rfl)
      obtain ⟨W', hrun, hrw, hgr⟩ := HO.out.swap w4 _ (m + 1) m x y HA4.out HXP.out HYP.out
      rw [HZS.out] at hrw
      push_cast at hrun
      have HR5 := m_ hrw
      have HG5 := m_ (b4_ HG4.out hgr)
      have HX5 := m_ (grown_box HX4.out hgr hne)
      clear hrw hgr
      try rw [hrun, Oper.upon_value]
      try clear hrun
      go_wp2
      go_roundg m
      case rel => exact ⟨m, by omega, by omega, rfl, ⟨rfl⟩, ⟨fun z hz => by
       rw [HDR.out] at hz
       rcases List.mem_cons.1 hz with rfl | hz
       ·exact HLT.out
       ·exact HD.out z (by rw [show m + 1 - a = m - a + 1 by omega]; exact hz)⟩, HR5, HG5, HX5⟩
      case measure => have := HQ.out; omega
     ·rw [decide_eq_false hlt2] at hcall
      have HLT := m_ hlt2
      have HC := m_ hcall
      clear hlt2 hcall
      go_wp2_with (go_at_call 86; refine HC.out.mono ?_; rintro e w4 ⟨rfl, hb4⟩; have HA4 := m_ (HA.out.below hb4); have HG4 := m_ (e5_ HG.out hb4); have HX4 := m_ (a1_ HX.out hb4); clear hb4)
      have hdone : X ++ (isort E.key (xs.take (p + 1 - a)) ++ xs.drop (p + 1 - a)) = X ++ zAt L x rest (m + 1 - a) := by
       have hd := HD.out
       rw [show m + 1 - a = m - a + 1 by omega] at hd ⊢
       rw [HPI.out.2, HST.out, HRE.out, insK_at E.key x L (m - a + 1) (fun z hz => by
        rw [HTK.out] at hz
        have hp := HSRT.out
        rw [← List.take_append_drop (m - a) L, List.pairwise_append] at hp
        rcases List.mem_append.1 hz with hz | hz
        ·have := hp.2.2 z hz y (by rw [HDR.out]; simp)
         have := HLT.out
         omega
        ·obtain rfl := List.mem_singleton.1 hz
         have := HLT.out
         omega) hd]
       simp [zAt]
      rw [← hdone] at HA4
      clear hdone
      go_roundw
      case rel => exact ⟨p + 1, by omega, by omega, by go_num, HA4, HG4, HX4⟩
      case measure => simp [intOf]; omega
  ·have hlt' : ¬ (p : Int) < b := by omega
   obtain rfl : p = b := by omega
   have hpc : p - a = c := by have := HXL.out; omega
   rw [hpc] at HA
   go_wp2
   go_end0
   exact ⟨rfl, HA.out, HG.out⟩
set_option maxHeartbeats 4000000 in
theorem insertF_none (E : SE) (a b : Nat) (hb : b ≤ a + 1) (ha : a ≤ 4611686018427387904) (w : World) :
  Calls Try.prog 131 #[.agg #[.func (.func 86) #[] E.lb, .func (.func E.sf) #[] E.sb], .int .i64 a, .int .i64 b] w fun e w' => e = .returned (.tuple #[]) ∧ Below w.heap.size w w' := by
 have hu165 := Try.underlying165
 go_enter Try.func131, Try.ntmps131
 go_wp2_with (first | ((with_reducible refine a3_ (N := 3) rfl ?_); refine box_event ?hg (N := 3) ?hd (cs := #[.func (.func 86) #[] E.lb, .func (.func E.sf) #[] E.sb]) (t := 165) ?hr ?_; (case hd => rfl); (case hg => rfl); (case hr => first | (go_simp; done) | (go_simp; rfl)); intro gb hgb wb hxb hbb; have HBB := m_ hbb; clear hgb hxb hbb))
 refine wp_loop_rounds 1 ?_
 rw [rounds_succ]
 have e1 : ¬ (a : Int) + 1 < (b : Int) := by omega
 try go_wp2
 go_end0
 exact ⟨rfl, HBB.out⟩
theorem insertF_part (E : SE) (O : E.Ok) (a b c : Nat) (X xs : List S51) (w : World) (hr : E.RW w (X ++ xs)) (ha : a = X.length) (hb : b = a + c) (hc : c ≤ xs.length) :
  Calls Try.prog 131 #[.agg #[.func (.func 86) #[] E.lb, .func (.func E.sf) #[] E.sb], .int .i64 a, .int .i64 b] w fun e w' => e = .returned (.tuple #[]) ∧ E.RW w' (X ++ (isort E.key (xs.take c) ++ xs.drop c)) ∧ w.grownBy w' (some E.g) := by
 by_cases h2 : 2 ≤ c
 ·exact insertF_gen E O a b c X xs w hr ha hb hc h2
 ·have hl := hr.len
  have hn := O.nb
  rw [List.length_append] at hl
  refine (insertF_none E a b (by omega) (by omega) w).mono ?_
  rintro e w' ⟨rfl, hbl⟩
  rw [isort_one E.key (xs.take c) Z12, List.take_append_drop]
  exact ⟨rfl, hr.below hbl, e4_ hbl⟩
end Go.Proofs.Ytckhjehibjdjdaa.P
namespace Go.Proofs.Ytckhjehibjdjdaa.P
section
variable {α : Type} (key : α → Int)
def sp (bs : Nat) : Nat → List α → List α
 | 0, _ => []
 | k + 1, l => isort key (l.take bs) ++ sp bs k (l.drop bs)
def sc (bs : Nat) (l : List α) : List α := sp key bs (l.length / bs) l ++ isort key (l.drop (bs * (l.length / bs)))
theorem isort_len (l : List α) : (isort key l).length = l.length := (isort_perm key l).length_eq
theorem sp_len (bs : Nat) : ∀ (k : Nat) (l : List α), bs * k ≤ l.length → (sp key bs k l).length = bs * k
 | 0, _, _ => by simp [sp]
 | k + 1, l, h => by
  rw [Nat.mul_succ] at h ⊢
  rw [sp, List.length_append, isort_len, List.length_take, sp_len bs k (l.drop bs) (by rw [List.length_drop]; omega)]
  omega
theorem sp_snoc (bs : Nat) : ∀ (k : Nat) (l : List α), sp key bs (k + 1) l = sp key bs k l ++ isort key ((l.drop (bs * k)).take bs)
 | 0, l => by simp [sp]
 | k + 1, l => by
  have e : (l.drop bs).drop (bs * k) = l.drop (bs * (k + 1)) := by rw [List.drop_drop]; congr 1; rw [Nat.mul_succ]; omega
  rw [sp, sp_snoc bs k (l.drop bs), sp, e, List.append_assoc]
theorem sc_small (bs : Nat) (l : List α) (h0 : 0 < bs) (h : l.length ≤ bs) : sc key bs l = isort key l := by
 unfold sc
 by_cases e : l.length = bs
 ·rw [e, Nat.div_self h0, sp, sp, List.take_of_length_le (by omega), List.drop_eq_nil_of_le (by omega)]
  simp [isort]
 ·rw [Nat.div_eq_of_lt (by omega)]; simp [sp]
theorem sc_cons (bs : Nat) (l : List α) (h0 : 0 < bs) (h : bs ≤ l.length) : sc key bs l = isort key (l.take bs) ++ sc key bs (l.drop bs) := by
 have e : l.length / bs = (l.drop bs).length / bs + 1 := by
  rw [List.length_drop]
  have : l.length = (l.length - bs) + bs := by omega
  rw [this, Nat.add_div_right _ h0]; simp
 have e2 : l.drop (bs * ((l.drop bs).length / bs + 1)) = (l.drop bs).drop (bs * ((l.drop bs).length / bs)) := by
  rw [List.drop_drop]; congr 1; rw [Nat.mul_succ]; omega
 unfold sc
 rw [e, sp, List.append_assoc, e2]
theorem sc_two (bs : Nat) (l : List α) (h0 : 0 < bs) (h : 2 * bs ≤ l.length) : sc key bs l = isort key (l.take bs) ++ (isort key ((l.drop bs).take bs) ++ sc key bs (l.drop (2 * bs))) := by
 rw [sc_cons key bs l h0 (by omega), sc_cons key bs (l.drop bs) h0 (by rw [List.length_drop]; omega), List.drop_drop, show bs + bs = 2 * bs by omega]
theorem take_two (bs : Nat) (l : List α) : l.take (2 * bs) = l.take bs ++ (l.drop bs).take bs := by
 rw [show 2 * bs = bs + bs by omega, List.take_add]
theorem sc_part (bs : Nat) (l : List α) (h0 : 0 < bs) (h1 : bs ≤ l.length) (h2 : l.length < 2 * bs) : sc key bs l = isort key (l.take bs) ++ isort key (l.drop bs) := by
 rw [sc_cons key bs l h0 h1, sc_small key bs (l.drop bs) h0 (by rw [List.length_drop]; omega)]
end
end Go.Proofs.Ytckhjehibjdjdaa.P
namespace Go.Proofs.Ytckhjehibjdjdaa.P
open Go.RowKit Go.Shelf Go.Proofs.YtckhjehibjdjdaaW.PrintWords Go.Proofs.YtckhjehibjdjdaaW.PrintLast Go.Proofs.YtckhjehibjdjdaaW.PrintMore
attribute [local go_sem] Oper.semAt_some
set_option maxHeartbeats 16000000 in
set_option maxRecDepth 100000 in
theorem stableF (E : SE) (O : E.Ok) (xs : List S51) (w : World) (hr : E.RW w xs) :
  Calls Try.prog 110 #[.agg #[.func (.func 86) #[] E.lb, .func (.func E.sf) #[] E.sb], .int .i64 E.n] w fun e w' => e = .returned (.tuple #[]) ∧ E.RW w' (isort E.key xs) ∧ w.grownBy w' (some E.g) := by
 have hu165 := Try.underlying165
 have HO := m_ O
 have hgw : E.g < w.heap.size := Nat.lt_of_lt_of_le O.gb hr.grown.size
 have hn := O.nb
 have hxl := hr.len.symm
 obtain ⟨n, hnE⟩ : ∃ n, E.n = n := ⟨_, rfl⟩
 rw [hnE] at hxl hn ⊢
 have HNE := m_ hnE
 clear hnE O
 have HR := m_ hr
 have HXL := m_ hxl
 clear hr hxl
 go_enter Try.func110, Try.ntmps110
 go_wp2_with (first | ((with_reducible refine a3_ (N := 2) rfl ?_); refine box_event ?hg (N := 2) ?hd (cs := #[.func (.func 86) #[] E.lb, .func (.func E.sf) #[] E.sb]) (t := 165) ?hr ?_; (case hd => rfl); (case hg => rfl); (case hr => first | (go_simp; done) | (go_simp; rfl)); intro gb hgb wb hxb hbb; have HXB := m_ hxb; have HRB := m_ (HR.out.below hbb); have HGB := m_ (e4_ (g := E.g) hbb); have hne : gb ≠ E.g := (by omega); clear hgb hxb hbb HR))
 go_loopw [5, 6] (fun v5 v6 wr => ∃ (i a b : Nat), v5 = .int .i64 (a : Int) ∧ v6 = .int .i64 (b : Int) ∧ A_ (a = 20 * i ∧ b = 20 * i + 20) ∧ a ≤ n ∧ A_ (E.RW wr (sp E.key 20 i xs ++ xs.drop (20 * i))) ∧ A_ (w.grownBy wr (some E.g)) ∧ A_ (wr.heap[gb]? = some (.cells #[.func (.func 86) #[] E.lb, .func (.func E.sf) #[] E.sb] 165 (0, 0)))) (fun v5 _ _ => n - (intOf v5).toNat)
 case atStart => exact ⟨0, 0, 20, rfl, rfl, ⟨by omega⟩, Nat.zero_le _, ⟨by simpa [sp] using HRB.out⟩, HGB, HXB⟩
 case round =>
  clear HRB HGB HXB
  obtain ⟨i, a, b, rfl, rfl, HI, han, HA, HG, HX⟩ := hrel
  by_cases hlt : b ≤ n
  ·have hlt' : (b : Int) ≤ n := by omega
   have HC := m_ (insertF_part E HO.out a b 20 (sp E.key 20 i xs) (xs.drop (20 * i)) wr HA.out (by rw [sp_len E.key 20 i xs (by have := HI.out; have := HXL.out; omega)]; exact HI.out.1) (by have := HI.out; omega) Z10)
   have HE := m_ (show sp E.key 20 i xs ++ (isort E.key ((xs.drop (20 * i)).take 20) ++ (xs.drop (20 * i)).drop 20) = sp E.key 20 (i + 1) xs ++ xs.drop (20 * (i + 1)) from by
    rw [sp_snoc, List.append_assoc, List.drop_drop, Nat.mul_succ])
   clear HA
   have hcz0 : wr.cell? ⟨gb, 0, none⟩ = some (.func (.func 86) #[] E.lb) := (a0_ HX.out 0).trans rfl
   have hcz1 : wr.cell? ⟨gb, 1, none⟩ = some (.func (.func E.sf) #[] E.sb) := (a0_ HX.out 1).trans rfl
   have hfz0 := a2_ HX.out 0
   have hfz1 := a2_ HX.out 1
   go_wp2_with (go_at_call 131; refine HC.out.mono ?_; rintro e w5 ⟨rfl, hr5, hg5⟩; rw [HE.out] at hr5; have HR5 := m_ hr5; have HG5 := m_ (b4_ HG.out hg5); have HX5 := m_ (grown_box HX.out hg5 hne); clear hr5 hg5 hcz0 hcz1 hfz0 hfz1)
   go_roundw
   case rel => exact ⟨i + 1, b, b + 20, rfl, by go_num, ⟨by have := HI.out; omega⟩, hlt, HR5, HG5, HX5⟩
   case measure => simp [intOf]; have := HI.out; omega
  ·have hlt' : ¬ (b : Int) ≤ n := by omega
   have hdiv : n / 20 = i := by have := HI.out; omega
   have hC := insertF_part E HO.out a n (n - a) (sp E.key 20 i xs) (xs.drop (20 * i)) wr HA.out (by rw [sp_len E.key 20 i xs (by have := HI.out; have := HXL.out; omega)]; exact HI.out.1) (by omega) Z10
   have HE := m_ (show sp E.key 20 i xs ++ (isort E.key ((xs.drop (20 * i)).take (n - a)) ++ (xs.drop (20 * i)).drop (n - a)) = sc E.key 20 xs from by
    unfold sc
    rw [← HXL.out, hdiv, List.take_of_length_le Z10, show (xs.drop (20 * i)).drop (n - a) = [] from List.drop_eq_nil_of_le Z10, List.append_nil])
   have HC := m_ hC
   clear HA hC hdiv
   have hcz0 : wr.cell? ⟨gb, 0, none⟩ = some (.func (.func 86) #[] E.lb) := (a0_ HX.out 0).trans rfl
   have hcz1 : wr.cell? ⟨gb, 1, none⟩ = some (.func (.func E.sf) #[] E.sb) := (a0_ HX.out 1).trans rfl
   have hfz0 := a2_ HX.out 0
   have hfz1 := a2_ HX.out 1
   go_wp2_with (go_at_call 131; refine HC.out.mono ?_; rintro e w5 ⟨rfl, hr5, hg5⟩; rw [HE.out] at hr5; have HR5 := m_ hr5; have HG5 := m_ (b4_ HG.out hg5); have HX5 := m_ (grown_box HX.out hg5 hne); clear hr5 hg5 hcz0 hcz1 hfz0 hfz1)
   clear HC HE HG HX HI hlt hlt' han
   go_loopw [4, 5, 6, 7] (fun v4 v5 v6 v7 wr => ∃ bs : Nat, v4 = .int .i64 (bs : Int) ∧ 20 ≤ bs ∧ bs ≤ 200000000000 ∧ A_ (E.RW wr (sc E.key bs xs)) ∧ A_ (w.grownBy wr (some E.g)) ∧ A_ (wr.heap[gb]? = some (.cells #[.func (.func 86) #[] E.lb, .func (.func E.sf) #[] E.sb] 165 (0, 0)))) (fun v4 _ _ _ _ => n - (intOf v4).toNat)
   case atStart => exact ⟨20, rfl, by omega, by omega, HR5, HG5, HX5⟩
   case round =>
    clear HR5 HG5 HX5
    obtain ⟨bs, rfl, hb20, hbM, HA, HG, HX⟩ := hrel
    by_cases hbn : bs < n
    ·have hbn' : (bs : Int) < n := by omega
     go_wp2
     obtain ⟨wo, hwo⟩ : ∃ wo : World, wo = wr := ⟨_, rfl⟩
     subst hwo
     go_loopw [5, 6] (fun v5 v6 wr => ∃ (i a b : Nat), v5 = .int .i64 (a : Int) ∧ v6 = .int .i64 (b : Int) ∧ A_ (a = 2 * bs * i ∧ b = 2 * bs * i + 2 * bs) ∧ a ≤ n ∧ b ≤ n + 2 * bs ∧ A_ (E.RW wr (sp E.key (2 * bs) i xs ++ sc E.key bs (xs.drop (2 * bs * i)))) ∧ A_ (w.grownBy wr (some E.g)) ∧ A_ (wr.heap[gb]? = some (.cells #[.func (.func 86) #[] E.lb, .func (.func E.sf) #[] E.sb] 165 (0, 0)))) (fun v5 _ _ => n - (intOf v5).toNat)
     case atStart => exact ⟨0, 0, 2 * bs, rfl, by go_num, ⟨by omega⟩, Nat.zero_le _, by omega, ⟨by simpa [sp] using HA.out⟩, HG, HX⟩
     case round =>
      clear HA HG HX
      obtain ⟨i, a, b, rfl, rfl, HI, han, hbb, HA, HG, HX⟩ := hrel
      have hspl : (sp E.key (2 * bs) i xs).length = a := by rw [sp_len E.key (2 * bs) i xs (by have := HI.out; have := HXL.out; omega)]; exact HI.out.1.symm
      by_cases hlt : b ≤ n
      ·have hlt' : (b : Int) ≤ n := by omega
       have hll : 2 * bs ≤ (xs.drop (2 * bs * i)).length := by rw [List.length_drop]; have := HI.out; have := HXL.out; omega
       have h2 := sc_two E.key bs (xs.drop (2 * bs * i)) (by omega) hll
       have hAr := HA.out
       rw [h2] at hAr
       have l1 : (isort E.key ((xs.drop (2 * bs * i)).take bs)).length = bs := by rw [isort_len, List.length_take]; omega
       have l2 : (isort E.key (((xs.drop (2 * bs * i)).drop bs).take bs)).length = bs := by rw [isort_len, List.length_take, List.length_drop]; omega
       have HC := m_ (symMergeF_any E HO.out _ a (a + bs) b _ _ _ _ wr rfl hAr hspl.symm (by omega) (by have := HI.out; omega) (by omega) (by omega) (isort_sorted E.key _) (isort_sorted E.key _))
       have HE := m_ (show sp E.key (2 * bs) i xs ++ (mrg E.key (isort E.key ((xs.drop (2 * bs * i)).take bs)) (isort E.key (((xs.drop (2 * bs * i)).drop bs).take bs)) ++ sc E.key bs ((xs.drop (2 * bs * i)).drop (2 * bs))) = sp E.key (2 * bs) (i + 1) xs ++ sc E.key bs (xs.drop (2 * bs * (i + 1))) from by
        rw [← isort_append, ← take_two, sp_snoc, List.append_assoc, List.drop_drop, Nat.mul_succ])
       have e2 : IntKind.i64.wrap ((a : Int) + (bs : Int)) = ((a + bs : Nat) : Int) := by rw [IntKind.wrap_i64]; omega
       have e3 : IntKind.i64.wrap ((a + bs : Nat) : Int) = ((a + bs : Nat) : Int) := by rw [IntKind.wrap_i64]; omega
       clear HA hAr l1 l2 h2 hll hspl
       have hcz0 : wr.cell? ⟨gb, 0, none⟩ = some (.func (.func 86) #[] E.lb) := (a0_ HX.out 0).trans rfl
       have hcz1 : wr.cell? ⟨gb, 1, none⟩ = some (.func (.func E.sf) #[] E.sb) := (a0_ HX.out 1).trans rfl
       have hfz0 := a2_ HX.out 0
       have hfz1 := a2_ HX.out 1
       go_wp2_with (go_at_call 132; refine HC.out.mono ?_; rintro e w5 ⟨rfl, hr5, hg5⟩; rw [HE.out] at hr5; have HR5 := m_ hr5; have HG5 := m_ (b4_ HG.out hg5); have HX5 := m_ (grown_box HX.out hg5 hne); clear hr5 hg5 hcz0 hcz1 hfz0 hfz1)
       go_roundw
       case rel => exact ⟨i + 1, b, b + 2 * bs, rfl, by first | go_num | exact int_i64 (by omega), ⟨by have := HI.out; rw [Nat.mul_succ]; omega⟩, hlt, by omega, HR5, HG5, HX5⟩
       case measure => simp [intOf]; have := HI.out; omega
      ·have hlt' : ¬ (b : Int) ≤ n := by omega
       have hll : (xs.drop (2 * bs * i)).length = n - a ∧ n - a < 2 * bs := by rw [List.length_drop]; have := HI.out; have := HXL.out; omega
       have hdiv : n / (2 * bs) = i := by
        have h1 := HI.out
        exact Nat.div_eq_of_lt_le (by rw [Nat.mul_comm]; omega) (by rw [Nat.mul_comm, Nat.mul_succ]; omega)
       have HSC := m_ (show sc E.key (2 * bs) xs = sp E.key (2 * bs) i xs ++ isort E.key (xs.drop (2 * bs * i)) from by unfold sc; rw [← HXL.out, hdiv])
       by_cases hm : a + bs < n
       ·have hm' : (a : Int) + (bs : Int) < n := by omega
        have hm2 : ((a + bs : Nat) : Int) < n := by omega
        have h2 := sc_part E.key bs (xs.drop (2 * bs * i)) (by omega) (by omega) (by omega)
        have hAr := HA.out
        rw [h2, ← List.append_nil (isort E.key ((xs.drop (2 * bs * i)).drop bs))] at hAr
        have l1 : (isort E.key ((xs.drop (2 * bs * i)).take bs)).length = bs := by rw [isort_len, List.length_take]; omega
        have l2 : (isort E.key ((xs.drop (2 * bs * i)).drop bs)).length = n - a - bs := by rw [isort_len, List.length_drop]; omega
        have HC := m_ (symMergeF_any E HO.out _ a (a + bs) n _ _ _ _ wr rfl hAr hspl.symm (by omega) (by omega) (by omega) (by omega) (isort_sorted E.key _) (isort_sorted E.key _))
        have HE := m_ (show sp E.key (2 * bs) i xs ++ (mrg E.key (isort E.key ((xs.drop (2 * bs * i)).take bs)) (isort E.key ((xs.drop (2 * bs * i)).drop bs)) ++ []) = sc E.key (2 * bs) xs from by
         rw [← isort_append, List.take_append_drop, List.append_nil, HSC.out])
        have e2 : IntKind.i64.wrap ((a : Int) + (bs : Int)) = ((a + bs : Nat) : Int) := by rw [IntKind.wrap_i64]; omega
        have e3 : IntKind.i64.wrap ((a + bs : Nat) : Int) = ((a + bs : Nat) : Int) := by rw [IntKind.wrap_i64]; omega
        clear HA hAr l1 l2 h2 hll hspl hdiv
        have hcz0 : wr.cell? ⟨gb, 0, none⟩ = some (.func (.func 86) #[] E.lb) := (a0_ HX.out 0).trans rfl
        have hcz1 : wr.cell? ⟨gb, 1, none⟩ = some (.func (.func E.sf) #[] E.sb) := (a0_ HX.out 1).trans rfl
        have hfz0 := a2_ HX.out 0
        have hfz1 := a2_ HX.out 1
        go_wp2_with (go_at_call 132; refine HC.out.mono ?_; rintro e w5 ⟨rfl, hr5, hg5⟩; rw [HE.out] at hr5; have HR5 := m_ hr5; have HG5 := m_ (b4_ HG.out hg5); have HX5 := m_ (grown_box HX.out hg5 hne); clear hr5 hg5 hcz0 hcz1 hfz0 hfz1)
        go_roundw
        case rel => exact ⟨2 * bs, by first | go_num | exact int_i64 (by omega), by omega, by omega, HR5, HG5, HX5⟩
        case measure => simp [intOf]; omega
       ·have hm' : ¬ (a : Int) + (bs : Int) < n := by omega
        have hAr := HA.out
        rw [sc_small E.key bs (xs.drop (2 * bs * i)) (by omega) (by omega), ← HSC.out] at hAr
        have HR5 := m_ hAr
        clear HA hAr hll hspl hdiv
        go_wp2
        go_roundw
        case rel => exact ⟨2 * bs, by first | go_num | exact int_i64 (by omega), by omega, by omega, HR5, HG, HX⟩
        case measure => simp [intOf]; omega
    ·have hbn' : ¬ (bs : Int) < n := by omega
     have hfin := HA.out
     rw [sc_small E.key bs xs (by omega) (by have := HXL.out; omega)] at hfin
     have HF := m_ hfin
     clear hfin HA
     go_wp2
     go_end0
     exact ⟨rfl, HF.out, HG.out⟩
def SlotsOk (W : World) (ok : Nat → Prop) (x : HV) : Prop := x.2.2.1 = x.1.f4.length ∧ x.1.f4.length ≤ x.2.2.2 ∧ Kd.F k52 W ok x.2.1 x.1.f4.length x.1.f4
theorem holds_of {W : World} {A : Option Addr} {ends : List S41} (h : Kd.C k41 W A ends.length ends) :
  ∃ ps : List HV, ps.map (fun x => x.1) = ends ∧ Kd.C kh W A ps.length ps ∧ ∀ x ∈ ps, SlotsOk W (fun k => k < W.heap.size) x := by
 rcases Nat.eq_zero_or_pos ends.length with h0 | h0
 ·have : ends = [] := List.eq_nil_of_length_eq_zero h0
  subst this
  exact ⟨[], rfl, ⟨rfl, by simp, fun h => absurd h (Nat.lt_irrefl 0)⟩, fun x hx => by cases hx⟩
 obtain ⟨_, hmax, hr⟩ := h
 obtain ⟨ad, rfl, hcc⟩ := hr h0
 have hex : ∀ j : Fin ends.length, ∃ p : Option Addr × Nat, (∀ i u, (hc (ends[j], p.1, (ends[j]).f4.length, p.2))[i]? = some u → W.cell? (ad.add (j * 5 + i)) = some u) ∧ (ends[j]).f4.length ≤ p.2 ∧ k52.C W p.1 (ends[j]).f4.length (ends[j]).f4 := by
  intro j
  obtain ⟨c, hl, hk, hcell⟩ := hcc j.val ends[j] (List.getElem?_eq_getElem j.isLt)
  obtain ⟨A4, c4, rfl, l4, g4⟩ := k41_open hk
  exact ⟨(A4, c4), hcell, l4, g4⟩
 obtain ⟨f, hf⟩ := Classical.axiomOfChoice hex
 refine ⟨List.ofFn fun j : Fin ends.length => (ends[j], (f j).1, (ends[j]).f4.length, (f j).2), ?_, ⟨rfl, by rw [List.length_ofFn]; exact hmax, fun _ => ⟨ad, rfl, fun j p hj => ?_⟩⟩, fun x hx => ?_⟩
 ·apply List.ext_getElem
  ·simp
  ·intro i h1 h2; simp
 ·have hj' : j < ends.length := by have := (List.getElem?_eq_some_iff.1 hj).1; rwa [List.length_ofFn] at this
  rw [List.getElem?_eq_getElem (by rw [List.length_ofFn]; exact hj'), List.getElem_ofFn] at hj
  cases hj
  exact ⟨_, rfl, rfl, (hf ⟨j, hj'⟩).1⟩
 ·obtain ⟨i, hi, rfl⟩ := List.mem_iff_getElem.1 hx
  rw [List.getElem_ofFn]
  rw [List.length_ofFn] at hi
  exact ⟨rfl, (hf ⟨i, hi⟩).2.1, Kd.C_F k52_heap (hf ⟨i, hi⟩).2.2⟩
set_option maxHeartbeats 4000000 in
set_option maxRecDepth 100000 in
theorem clone70_any (A0 : Option Addr) (c0 : Nat) (l0 : List HV) (w : World) (hr0 : Kd.C kh w A0 l0.length l0) (hl : l0.length < 1000000) :
  Calls Try.prog 70 #[.slice A0 l0.length c0] w fun e w' => ∃ v0_ : Value, e = .returned v0_ ∧ Kd.R kh 41 w' w.heap.size (fun _ => True) v0_ l0 ∧ Below w.heap.size w w' := by
 have hu25 := Try.underlying25
 have q25 : ∀ (w : World) (a : Option Addr) (n c n' c' : Nat), (binOp .eql 25 (.slice a n c) (.slice none n' c')).run Try.prog w = .ok (.bool a.isNone) w := fun w a n c n' c' => Lib.run_eql_slice_nil w _ _ a n c n' c' Try.underlying25
 have HR := m_ hr0
 have HL := m_ hl
 cases A0 with
 | none =>
  have h0 : l0 = [] := by
   rcases Nat.eq_zero_or_pos l0.length with h | h
   ·exact List.eq_nil_of_length_eq_zero h
   ·obtain ⟨ad, hA, _⟩ := hr0.2.2 h
    cases hA
  subst h0
  clear hr0 hl
  go_enter Try.func70, Try.ntmps70
  go_wp2
  all_goals go_ret
  all_goals exact ⟨_, rfl, Kd.R_nil _ _ _ _ _, Below.refl _ _⟩
 | some ad =>
  clear hr0 hl
  go_enter Try.func70, Try.ntmps70
  go_wp2_with (first | ((with_reducible refine a3_ (N := 5) rfl ?_); refine Kd.R_lit kh _ 41 ?hg (N := 5) ?hd (xs := ([] : List HV)) (inner := []) (ok := fun _ => True) (okp := fun _ => True) ?hr ?hp (fun _ hk => hk) trivial (Below.refl _ _) (Nat.le_refl _) (by simp) ?_; (case hd => rfl); (case hg => rfl); (case hr => first | (go_simp; done) | (go_simp; rfl)); (case hp => exact (Reps.none _ _)); intro v5 w5 ho5 hb hg_ hnew_; have HO5 := m_ ho5; have HB5 := m_ hb; clear hg_ hnew_ ho5 hb) | (refine Kd.R_append_rows kh (w0 := w) w.heap.size rfl (.tmp 5) (.tmp 6) 25 41 (.agg #[(.int .i64 0), (.int .i64 0), (.int .i64 0), (.bool false), (.slice none 0 0)]) 56 rfl Try.underlying25 info41 rfl (by decide) (by omega) v5 [] l0 _ _ _ (fun _ => True) (fun _ => False) rfl rfl HO5.out (Kd.C_below HR.out HB5.out) (fun _ _ h => h) (fun _ h => h.elim) (fun _ _ => trivial) HB5.out (b7_ HB5.out) (by have := HL.out; simp; omega) ?_; intro v7 w7 ho hb hg hat; have HO7 := m_ ho; have HB7 := m_ hb; clear ho hb hg hat))
  all_goals go_ret
  all_goals exact ⟨_, rfl, HO7.out, HB7.out⟩
theorem clone70_n (A0 : Option Addr) (c0 n : Nat) (l0 : List HV) (w : World) (hn : l0.length = n) (hr0 : Kd.C kh w A0 l0.length l0) (hl : l0.length < 1000000) :
  Calls Try.prog 70 #[.slice A0 n c0] w fun e w' => ∃ v0_ : Value, e = .returned v0_ ∧ Kd.R kh 41 w' w.heap.size (fun _ => True) v0_ l0 ∧ Below w.heap.size w w' := by
 subst hn
 exact clone70_any A0 c0 l0 w hr0 hl
def blkOf (A : Option Addr) (z : Nat) : Nat := match A with | some a => a.block | none => z
theorem blkOf_base {A : Option Addr} {n cap base : Nat} {xs : List HV} {w : World} {ok : Nat → Prop} (hr : Kd.R kh 41 w base ok (.slice A n cap) xs) (hb : base ≤ w.heap.size) : base ≤ blkOf A w.heap.size := by
 cases A with
 | none => exact hb
 | some a => exact Kd.R_base hr a.block (by simp [Value.ownBlock])
end Go.Proofs.Ytckhjehibjdjdaa.P
namespace Go.Proofs.Ytckhjehibjdjdaa.P
open Go.RowKit Go.Shelf Go.Proofs.YtckhjehibjdjdaaW.PrintWords Go.Proofs.YtckhjehibjdjdaaW.PrintLast Go.Proofs.YtckhjehibjdjdaaW.PrintMore
open Go.Proofs.Ytckhjehibjdjdaa.Bits
attribute [local go_sem] Oper.semAt_some
structure KP (w W : World) (S : Nat → Prop) : Prop where
 kept : Kept w W S
 os : W.os = w.os
 tape : W.tape = w.tape
 output : W.output = w.output
theorem KP.refl (w : World) (S : Nat → Prop) : KP w w S := ⟨Kept.refl _ _, rfl, rfl, rfl⟩
theorem KP.below {w W W' : World} {S : Nat → Prop} (h : KP w W S) (hb : Below W.heap.size W W') : KP w W' S := ⟨h.kept.below hb, hb.os.trans h.os, hb.tape.trans h.tape, hb.output.trans h.output⟩
theorem KP.set {w W : World} {S : Nat → Prop} (h : KP w W S) {g j : Nat} (hs : S g ∨ w.heap.size ≤ g) (u : Value) : KP w (W.setCell ⟨g, j, none⟩ u) S := ⟨h.kept.setCell hs u, h.os, h.tape, h.output⟩
theorem KP.drew {w W : World} {S : Nat → Prop} (h : KP w W S) : KP w W.drew S := ⟨h.kept.drew, h.os, h.tape, h.output⟩
def addU (same : Bool) (a : Int × Int) (s : S52) : Int × Int := if same = true then (wrap64 (a.1 + popI s.f1), wrap64 (a.2 + s.f2)) else a
def addL (same : Bool) (a : Int × Int) (l : List S52) : Int × Int := l.foldl (addU same) a
theorem addL_step (same : Bool) (a : Int × Int) (l : List S52) (j : Nat) (h : j < l.length) : addL same a (l.take (j + 1)) = addU same (addL same a (l.take j)) (a5_ l (j : Int)) := by
 have e : a5_ l (j : Int) = l[j] := by simp [a5_, List.getD_eq_getElem?_getD, List.getElem?_eq_getElem h]
 unfold addL
 rw [List.take_succ_eq_append_getElem h, List.foldl_append, e]; rfl
def maskOk (s : S52) : Bool := decide (0 ≤ s.f1) && decide (s.f1 < 18446744073709551616)
set_option maxHeartbeats 8000000 in
set_option maxRecDepth 100000 in
theorem end_any (gv gw gl : Nat) (x : HV) (view : List S51) (Av : Option Addr) (cv : Nat) (wq wm s0 s1 s2 s3 lg lc : Int) (v' : List S51) (e' : Int) (w : World)
  (hv : w.heap[gv]? = some (.cells #[.slice Av view.length cv] 22 (0, 0))) (hw : w.heap[gw]? = some (.cells #[.int .i64 wq, .int .i64 wm, .int .i64 s0, .int .i64 s1, .int .i64 s2, .int .i64 s3] 29 (0, 0)))
  (hl : w.heap[gl]? = some (.cells #[.int .i64 lg, .int .i64 lc] 24 (0, 0))) (hvw : gv ≠ gw) (hvl : gv ≠ gl) (hwl : gw ≠ gl)
  (hF : Kd.F k51 w (fun k => k ≠ gv ∧ k ≠ gl) Av view.length view) (hc : view.length ≤ cv) (hS : SlotsOk w (fun k => k ≠ gv ∧ k ≠ gl) x) (hm : ∀ s ∈ x.1.f4, maskOk s = true) (hmore : pack_More.f view x.1.f4 = some (v', e')) :
  Calls Try.prog 74 #[.agg #[.int .i64 x.1.f0, .int .i64 x.1.f1, .int .i64 x.1.f2, .bool x.1.f3, .slice x.2.1 x.2.2.1 x.2.2.2], .pointer (some ⟨gv, 0, none⟩), .pointer (some ⟨gw, 0, none⟩), .pointer (some ⟨gl, 0, none⟩)] w fun e w' => e = .returned (.tuple #[]) ∧ KP w w' (fun k => k = gv ∨ k = gl) ∧
   (∃ Av' cv', w'.heap[gv]? = some (.cells #[.slice Av' v'.length cv'] 22 (0, 0)) ∧ v'.length ≤ cv' ∧ Kd.F k51 w' (fun k => k ≠ gv ∧ k ≠ gl) Av' v'.length v') ∧
   w'.heap[gl]? = some (.cells #[.int .i64 (addL (decide (x.1.f1 = wq)) (lg, lc) x.1.f4).1, .int .i64 (addL (decide (x.1.f1 = wq)) (lg, lc) x.1.f4).2] 24 (0, 0)) := by
 have hu41 := Try.underlying41
 have hu52 := Try.underlying52
 have hu24 := Try.underlying24
 have hu29 := Try.underlying29
 obtain ⟨⟨x0, x1, x2, x3, sl⟩, As, ns, cs⟩ := x
 obtain ⟨hn, hcs, hFs⟩ := hS
 simp only at hn hcs hFs hm hmore ⊢
 subst hn
 obtain ⟨same, hsm0⟩ : ∃ b : Bool, decide (x1 = wq) = b := ⟨_, rfl⟩
 rw [hsm0]
 have HSM := m_ hsm0
 clear hsm0
 have gvl := c6_ hv
 have gwl := c6_ hw
 have gll := c6_ hl
 have HV0 := m_ hv
 have HW0 := m_ hw
 have HL0 := m_ hl
 have HF := m_ hF
 have HFS := m_ hFs
 have HM := m_ hm
 have HC := m_ hc
 have HCS := m_ hcs
 have HMO := m_ hmore
 clear hv hw hl hF hFs hm hc hcs hmore
 go_enter Try.func74, Try.ntmps74
 go_wp2_with (first | ((with_reducible refine a3_ (N := 4) rfl ?_); refine bx 4 #[.int .i64 x0, .int .i64 x1, .int .i64 x2, .bool x3, .slice As sl.length cs] 41 ?_; intro g4 hg4 w4 hx4 hb4; have HX4 := m_ hx4; have HB4 := m_ hb4; have n1 : gv ≠ g4 := (by omega); have n2 : gw ≠ g4 := (by omega); have n3 : gl ≠ g4 := (by omega); have a0 := (a0_ (a1_ HV0.out hb4) 0).trans rfl; have a1 : w4.cell? ⟨g4, 4, none⟩ = some (.slice As sl.length cs) := (a0_ hx4 4).trans rfl; clear hg4 hx4 hb4) | (go_at_call 52; refine (pack_More.calls Av cv view As cs sl v' e' _ (Kd.F_now (Kd.F_below HF.out HB4.out)) HC.out (Kd.F_now (Kd.F_below HFS.out HB4.out)) HCS.out HMO.out).mono ?_; rintro e w5 ⟨v5, rfl, ho5, hb5⟩; have hb45 := b0_ HB4.out hb5; obtain ⟨A5, c5, rfl, hc5, _⟩ := Kd.R_reads ho5; have HO5 := m_ ho5; have HB5 := m_ hb45; have HX5 := m_ (a1_ HX4.out hb5); have HC5 := m_ hc5; have HS4 := m_ HB4.out.size; have b0 := (a0_ (a1_ HV0.out hb45) 0).trans rfl; have b1 := a2_ (a1_ HV0.out hb45) 0; have b2 : w5.cell? ⟨g4, 4, none⟩ = some (.slice As sl.length cs) := (a0_ HX5.out 4).trans rfl; clear a0 a1 hb45 ho5 hb5 hc5))
 have HK6 := (KP.below (KP.refl w (fun k => k = gv ∨ k = gl)) HB5.out).set (j := 0) (g := gv) (Or.inl (Or.inl rfl)) (.slice A5 v'.length c5)
 have HV6 : (w5.setCell ⟨gv, 0, none⟩ (.slice A5 v'.length c5)).heap[gv]? = some (.cells #[.slice A5 v'.length c5] 22 (0, 0)) := blk_set (a1_ HV0.out HB5.out) 0 (.slice A5 v'.length c5)
 have HW6 := c7_ (a1_ HW0.out HB5.out) (p := ⟨gv, 0, none⟩) (fun e => hvw e.symm) (.slice A5 v'.length c5)
 have HL6 := c7_ (a1_ HL0.out HB5.out) (p := ⟨gv, 0, none⟩) (fun e => hvl e.symm) (.slice A5 v'.length c5)
 have HX6 := c7_ HX5.out (p := ⟨gv, 0, none⟩) (fun e => n1 e.symm) (.slice A5 v'.length c5)
 have HFS6 := Kd.F_far (Kd.F_below HFS.out HB5.out) (p := ⟨gv, 0, none⟩) (fun k hk => hk.1) (.slice A5 v'.length c5)
 have HF6 := Kd.F_far (Kd.F_mono (ok' := fun k => k ≠ gv ∧ k ≠ gl) (Kd.R_F (Kd.R_bound HO5.out)) (fun k hk => by have := hk.2.1; have := HS4.out; exact ⟨by omega, by omega⟩)) (p := ⟨gv, 0, none⟩) (fun k hk => hk.1) (.slice A5 v'.length c5)
 replace HK6 := m_ HK6
 replace HV6 := m_ HV6
 replace HW6 := m_ HW6
 replace HL6 := m_ HL6
 replace HX6 := m_ HX6
 replace HFS6 := m_ HFS6
 replace HF6 := m_ HF6
 clear b0 b1 b2 HO5 HB5 HX5 HX4 HB4
 generalize w5.setCell ⟨gv, 0, none⟩ (.slice A5 v'.length c5) = w6 at *
 go_loopw [17] (fun v17 wr => ∃ j : Nat, j ≤ sl.length ∧ v17 = .int .i64 (j : Int) ∧ A_ (KP w wr (fun k => k = gv ∨ k = gl)) ∧ A_ (wr.heap[gv]? = some (.cells #[.slice A5 v'.length c5] 22 (0, 0))) ∧ A_ (wr.heap[gw]? = some (.cells #[.int .i64 wq, .int .i64 wm, .int .i64 s0, .int .i64 s1, .int .i64 s2, .int .i64 s3] 29 (0, 0))) ∧ A_ (wr.heap[gl]? = some (.cells #[.int .i64 (addL same (lg, lc) (sl.take j)).1, .int .i64 (addL same (lg, lc) (sl.take j)).2] 24 (0, 0))) ∧ A_ (wr.heap[g4]? = some (.cells #[.int .i64 x0, .int .i64 x1, .int .i64 x2, .bool x3, .slice As sl.length cs] 41 (0, 0))) ∧ A_ (Kd.F k52 wr (fun k => k ≠ gv ∧ k ≠ gl) As sl.length sl) ∧ A_ (Kd.F k51 wr (fun k => k ≠ gv ∧ k ≠ gl) A5 v'.length v')) (fun v17 _ => sl.length - (intOf v17).toNat)
 case atStart => exact ⟨0, Nat.zero_le _, rfl, HK6, HV6, HW6, HL6, HX6, HFS6, HF6⟩
 case round =>
  clear HK6 HV6 HW6 HL6 HX6 HFS6 HF6
  obtain ⟨j, hj, rfl, HK, HV, HW, HL, HX, HFS, HFV⟩ := hrel
  have q0 : wr.cell? ⟨g4, 1, none⟩ = some (.int .i64 x1) := (a0_ HX.out 1).trans rfl
  have q1 : wr.cell? ⟨gw, 0, none⟩ = some (.int .i64 wq) := (a0_ HW.out 0).trans rfl
  have hlm := Kd.F_max HFS.out
  by_cases hlt : j < sl.length
  ·have h0 : 0 ≤ (j : Int) := by omega
   have h1' : (j : Int) < sl.length := by omega
   obtain ⟨ad1, ee, y0, y1, y2, y3⟩ := at_T52 (Kd.F_now HFS.out) (j : Int) h0 h1'
   cases ee
   simp only [Int.toNat_natCast] at y0 y1 y2 y3
   have hstep := addL_step same (lg, lc) sl j hlt
   have hmk := HM.out (a5_ sl (j : Int)) (by simp [a5_, List.getD_eq_getElem?_getD, List.getElem?_eq_getElem hlt])
   generalize a5_ sl (j : Int) = s at *
   generalize addL same (lg, lc) (sl.take j) = acc at *
   obtain ⟨⟨t0, t1⟩, sm, sc⟩ := s
   simp only [maskOk, Bool.and_eq_true, decide_eq_true_eq] at hmk
   have HMK := m_ hmk
   have HST := m_ hstep
   clear hmk hstep
   simp only at y0 y1 y2 y3
   have hKa := HK.out.below (b5_ (Below.refl _ _) (.cells #[.int .i64 t0, .int .i64 t1, .int .u64 sm, .int .i64 sc] 52))
   have hVa := b9_ HV.out (.cells #[.int .i64 t0, .int .i64 t1, .int .u64 sm, .int .i64 sc] 52)
   have hWa := b9_ HW.out (.cells #[.int .i64 t0, .int .i64 t1, .int .u64 sm, .int .i64 sc] 52)
   have hLa := b9_ HL.out (.cells #[.int .i64 t0, .int .i64 t1, .int .u64 sm, .int .i64 sc] 52)
   have hXa := b9_ HX.out (.cells #[.int .i64 t0, .int .i64 t1, .int .u64 sm, .int .i64 sc] 52)
   have hFSa := Kd.F_alloc HFS.out (.cells #[.int .i64 t0, .int .i64 t1, .int .u64 sm, .int .i64 sc] 52)
   have hFVa := Kd.F_alloc HFV.out (.cells #[.int .i64 t0, .int .i64 t1, .int .u64 sm, .int .i64 sc] 52)
   have hBa := heap_alloc_new wr (.cells #[.int .i64 t0, .int .i64 t1, .int .u64 sm, .int .i64 sc] 52)
   have n5 : gl ≠ wr.heap.size := by have := c6_ HL.out; omega
   have n6 : gv ≠ wr.heap.size := by have := c6_ HV.out; omega
   have hKA := m_ hKa
   have hVA := m_ hVa
   have hWA := m_ hWa
   have hLA := m_ hLa
   have hXA := m_ hXa
   have hFSA := m_ hFSa
   have hFVA := m_ hFVa
   have hBA := m_ hBa
   have qa0 : (wr.alloc (.cells #[.int .i64 t0, .int .i64 t1, .int .u64 sm, .int .i64 sc] 52)).cell? ⟨g4, 1, none⟩ = some (.int .i64 x1) := (a0_ hXa 1).trans rfl
   have qa1 : (wr.alloc (.cells #[.int .i64 t0, .int .i64 t1, .int .u64 sm, .int .i64 sc] 52)).cell? ⟨gw, 0, none⟩ = some (.int .i64 wq) := (a0_ hWa 0).trans rfl
   clear hKa hVa hWa hLa hXa hFSa hFVa hBa HK HV HW HL HX HFS HFV
   by_cases hq : x1 = wq
   ·have bq : (x1 == wq) = true := by simpa using hq
    have hsm : same = true := by rw [← HSM.out]; simpa using hq
    clear HSM
    subst hsm
    clear hq
    go_wp2
    clear qa0 qa1
    generalize wr.alloc (.cells #[.int .i64 t0, .int .i64 t1, .int .u64 sm, .int .i64 sc] 52) = wa at *
    have l0 : wa.cell? ⟨gl, 0, none⟩ = some (.int .i64 acc.1) := (a0_ hLA.out 0).trans rfl
    have b2 : wa.cell? ⟨wr.heap.size, 1 + 1, none⟩ = some (.int .u64 sm) := (a0_ hBA.out 2).trans rfl
    go_still_tail 7, (by kernel_rfl)
    still_call ((count_any _ HMK.out.1 HMK.out.2 _))
    repeat still_step
    refine wpStill_nil ?_
    change wpList _ _ _ _ _ wa.drew
    clear l0 b2
    have l0 : wa.drew.cell? ⟨gl, 0, none⟩ = some (.int .i64 acc.1) := (a0_ hLA.out 0).trans rfl
    have z0 : wa.drew.frozen? ⟨gl, 0, none⟩ = false := a2_ hLA.out 0
    have z1 : wa.frozen? ⟨gl, 1, none⟩ = false := a2_ hLA.out 1
    have l1 : wa.cell? ⟨gl, 1, none⟩ = some (.int .i64 acc.2) := (a0_ hLA.out 1).trans rfl
    have b3 : wa.cell? ⟨wr.heap.size, 3, none⟩ = some (.int .i64 sc) := (a0_ hBA.out 3).trans rfl
    go_wp2
    go_roundw
    case rel => exact ⟨j + 1, by omega, by go_num, ⟨((hKA.out.set (g := gl) (j := 0) (Or.inl (Or.inr rfl)) _).set (g := gl) (j := 1) (Or.inl (Or.inr rfl)) _).drew⟩,
     ⟨c7_ (c7_ hVA.out (p := ⟨gl, 0, none⟩) hvl _) (p := ⟨gl, 1, none⟩) hvl _⟩, ⟨c7_ (c7_ hWA.out (p := ⟨gl, 0, none⟩) hwl _) (p := ⟨gl, 1, none⟩) hwl _⟩,
     ⟨by rw [HST.out]; exact blk_set (blk_set hLA.out 0 _) 1 _⟩, ⟨c7_ (c7_ hXA.out (p := ⟨gl, 0, none⟩) (fun e => n3 e.symm) _) (p := ⟨gl, 1, none⟩) (fun e => n3 e.symm) _⟩,
     ⟨Kd.F_drew (Kd.F_far (Kd.F_far hFSA.out (p := ⟨gl, 0, none⟩) (fun k hk => hk.2) _) (p := ⟨gl, 1, none⟩) (fun k hk => hk.2) _)⟩, ⟨Kd.F_drew (Kd.F_far (Kd.F_far hFVA.out (p := ⟨gl, 0, none⟩) (fun k hk => hk.2) _) (p := ⟨gl, 1, none⟩) (fun k hk => hk.2) _)⟩⟩
    case measure => simp [intOf]; omega
   ·have bq : (x1 == wq) = false := by simpa using hq
    have hsm : same = false := by rw [← HSM.out]; simpa using hq
    clear HSM
    subst hsm
    clear hq
    go_wp2
    go_roundw
    case rel => exact ⟨j + 1, by omega, by go_num, hKA, hVA, hWA, ⟨by rw [HST.out]; exact hLA.out⟩, hXA, hFSA, hFVA⟩
    case measure => simp [intOf]; omega
  ·obtain rfl : j = sl.length := by omega
   go_wp2
   go_end0
   refine ⟨rfl, HK.out, ⟨A5, c5, HV.out, HC5.out, HFV.out⟩, ?_⟩
   have := HL.out
   rw [List.take_length] at this
   exact this
end Go.Proofs.Ytckhjehibjdjdaa.P
namespace Go.Proofs.Ytckhjehibjdjdaa.P
open Go.RowKit Go.Proofs.YtckhjehibjdjdaaW.PrintWords Go.Proofs.YtckhjehibjdjdaaW.PrintLast Go.Proofs.YtckhjehibjdjdaaW.PrintMore
attribute [local go_sem] max2_int min2_int max_two min_two max_three min_three max_four min_four
def pack_Room.l0 : Nat → Int → List (S51) → Int → Int → Int → Int → Int → Int → Option (Int)
 | 0, _, _, _, _, _, _, _, _ => none
 | k + 1, x5, x8, x9, x10, x240000, x240001, x240002, x240003 => if x10 < x9 then (if 0 ≤ x10 then (if x10 < (x8.length : Int) then ((shape_Fits.f x240000 x240001 x240002 x240003 ((a4_ x8 x10).f0.f0) ((a4_ x8 x10).f0.f1) ((a4_ x8 x10).f1) ((a4_ x8 x10).f2)).bind fun t242 => (pack_Room.l0 k (wrap64 (x5 + t242)) x8 x9 (wrap64 (x10 + 1)) x240000 x240001 x240002 x240003)) else (none)) else (none)) else (some x5)
def pack_Room.f (k : Nat) (l0 : List (S51)) (a1_0 a1_1 a1_2 a1_3 : Int) : Option (Int) := pack_Room.l0 k 0 l0 (l0.length : Int) 0 a1_0 a1_1 a1_2 a1_3
set_option maxHeartbeats 8000000 in
set_option maxRecDepth 100000 in
theorem pack_Room.calls (k : Nat) (A0 : Option Addr) (c0 : Nat) (l0 : List (S51)) (a1_0 a1_1 a1_2 a1_3 r : Int) (w : World) (hr0 : Kd.C k51 w A0 l0.length l0) (hc0 : l0.length ≤ c0) (h : pack_Room.f k l0 a1_0 a1_1 a1_2 a1_3 = some r) :
  Calls Try.prog 50 #[.slice A0 l0.length c0, .agg #[.int .i64 a1_0, .int .i64 a1_1, .int .i64 a1_2, .int .i64 a1_3]] w fun e w' => e = .returned (.int .i64 r) ∧ Below w.heap.size w w' := by
 have hu27 := Try.underlying27
 have hu51 := Try.underlying51
 have HR0 := m_ hr0
 have HC0 := m_ hc0
 clear hr0 hc0
 have HB := m_ (Below.refl w.heap.size w)
 have H := h
 unfold pack_Room.f at H
 clear h
 have H' := m_ H
 clear H
 go_enter Try.func50, Try.ntmps50
 go_wp2_with (first | ((with_reducible refine a3_ (N := 3) rfl ?_); refine bx 3 #[.int .i64 a1_0, .int .i64 a1_1, .int .i64 a1_2, .int .i64 a1_3] 27 ?_; intro gb239 hg w3 hbox hb; have BK239 := m_ (hbox); have GW239 := ge_ hg; have GE239 := ge_ hg; replace HB := hs_ hb; clear hb hbox hg))
 go_loopg [5, 10] k (fun kq v5 v10 w' => ∃ (x5_1 : Int) (x10_1 : Int), v5 = .int .i64 x5_1 ∧ v10 = .int .i64 x10_1 ∧ A_ (pack_Room.l0 kq x5_1 l0 (l0.length : Int) x10_1 a1_0 a1_1 a1_2 a1_3 = some r) ∧ A_ (kq ≤ k) ∧ A_ (w'.heap[gb239]? = some (.cells #[.int .i64 a1_0, .int .i64 a1_1, .int .i64 a1_2, .int .i64 a1_3] 27 (0, 0))) ∧ A_ (Below w.heap.size w w'))
 case atStart => exact ⟨(0), (0), Z1, Z1, H', ⟨Nat.le_refl _⟩, ⟨bo_ BK239⟩, ⟨hb_⟩⟩
 case round =>
  clear H'
  try clear p2
  obtain ⟨x5_1, x10_1, rfl, rfl, HA, HK1, BK239, HB⟩ := hrel
  cases gk with
  | zero => exact absurd HA.out (by simp [pack_Room.l0])
  | succ k1 =>
   have H := HA.out
   clear HA
   simp only [pack_Room.l0] at H
   by_cases c4 : x10_1 < (l0.length : Int)
   ·rw [if_pos c4] at H
    have c4b0 : decide (x10_1 < (l0.length : Int)) = true := decide_eq_true c4
    clear c4
    by_cases c5 : 0 ≤ x10_1
    ·rw [if_pos c5] at H
     have c5b0 : decide (0 ≤ x10_1) = true := decide_eq_true c5
     clear c5
     by_cases c6 : x10_1 < (l0.length : Int)
     ·rw [if_pos c6] at H
      have c6b0 : decide (x10_1 < (l0.length : Int)) = true := decide_eq_true c6
      clear c6
      replace H := Option.bind_eq_some_iff.mp H
      obtain ⟨t242, A70, H⟩ := H
      try dsimp only at H
      have A7 := m_ A70
      clear A70
      have H' := m_ H
      clear H
      have p240 : 0 ≤ (x10_1 : Int) := of_decide_eq_true Z4
      have q240 : x10_1 < (l0.length : Int) := of_decide_eq_true Z4
      obtain ⟨ad240, e240, hx240_0, hx240_1, hx240_2, hx240_3⟩ := at_T51 (Kd.C_below HR0.out HB.out) x10_1 p240 q240
      cases e240
      replace p240 := eq_true p240
      replace q240 := eq_true q240
      go_wp2_with (first | ((with_reducible refine a3_ (N := 7) rfl ?_); refine bx 7 #[.int .i64 0, .int .i64 0, .int .u64 0, .int .i64 0] 51 ?_; intro gb241 hg w8 hbox hb; have BK241 := m_ (hbox); have GW241 := ge_ hg; have GE241 := ge_ hg; have NB239_241 := nl_ BK239 hg; have NB241_239 := nr_ BK239 hg; replace BK239 := bk_ BK239 hb; replace HB := hs_ hb; clear hb hbox hg; have hnb9 := NB241_239.out; have hnc9 := NB239_241.out; obtain ⟨hcz10_0, hcz10_1, hcz10_2, hcz10_3, hfz10_0, hfz10_1, hfz10_2, hfz10_3⟩ := bz4_ BK241; obtain ⟨hcz11_0, hcz11_1, hcz11_2, hcz11_3, hfz11_0, hfz11_1, hfz11_2, hfz11_3⟩ := bz4_ BK239) | ((with_reducible refine b3_ (f := 87) rfl ?_); refine goesL_ (some 17) rfl rfl Try.func87 (by kernel_rfl) rfl #[.agg #[.int .i64 a1_0, .int .i64 a1_1, .int .i64 a1_2, .int .i64 a1_3], .agg #[.int .i64 ((a4_ l0 x10_1).f0.f0), .int .i64 ((a4_ l0 x10_1).f0.f1), .int .u64 ((a4_ l0 x10_1).f1), .int .i64 ((a4_ l0 x10_1).f2)]] rfl Z0 ?_; (with_reducible refine (shape_Fits.calls a1_0 a1_1 a1_2 a1_3 ((a4_ l0 x10_1).f0.f0) ((a4_ l0 x10_1).f0.f1) ((a4_ l0 x10_1).f1) ((a4_ l0 x10_1).f2) t242 _ A7.out).mono ?_); rintro e w12 ⟨rfl, hb⟩; refine ⟨_, rfl, ?_⟩; replace BK239 := m_ (a1_ (g := gb239) (o := .cells #[.int .i64 a1_0, .int .i64 a1_1, .int .i64 a1_2, .int .i64 a1_3] 27 (0, 0)) (bt_ BK239) hb); replace BK241 := m_ (a1_ (g := gb241) (o := .cells #[.int .i64 ((a4_ l0 x10_1).f0.f0), .int .i64 ((a4_ l0 x10_1).f0.f1), .int .u64 ((a4_ l0 x10_1).f1), .int .i64 ((a4_ l0 x10_1).f2)] 51 (0, 0)) (bt_ BK241) hb); replace HB := hs_ hb; (try clear hb); (try clear hb2); (try clear hk); (try clear hi)))
      go_roundg k1
      case measure => have := HK1.out; omega
      case rel => exact ⟨(wrap64 (x5_1 + t242)), (wrap64 (x10_1 + 1)), Z1, Z1, H', ⟨by have := HK1.out; omega⟩, ⟨bo_ BK239⟩, ⟨hb_⟩⟩
     ·rw [if_neg c6] at H
      exact absurd H (by simp)
    ·rw [if_neg c5] at H
     exact absurd H (by simp)
   ·rw [if_neg c4] at H
    have c4b0 : decide (x10_1 < (l0.length : Int)) = false := decide_eq_false c4
    clear c4
    obtain rfl := Option.some.inj H
    go_wp2
    go_ret
    exact ⟨by first | rfl | (simp [b2_, b1_] <;> rfl) | (simp [*, b2_, b1_] <;> rfl), hb_⟩
def promise_right.f (a0_0 a0_1 a0_2 a0_3 a0_4 a0_5 : Int) : Option (Bool) := (shape_Check.f a0_2 a0_3 a0_4 a0_5).bind fun t244 => (if t244 = 0 then (if a0_1 ≥ 1 then (some (decide (a0_1 ≤ 16))) else (some false)) else (some false))
set_option maxHeartbeats 8000000 in
set_option maxRecDepth 100000 in
theorem promise_right.calls (a0_0 a0_1 a0_2 a0_3 a0_4 a0_5 : Int) (r : Bool) (w : World) (h : promise_right.f a0_0 a0_1 a0_2 a0_3 a0_4 a0_5 = some r) :
  Calls Try.prog 68 #[.agg #[.int .i64 a0_0, .int .i64 a0_1, .int .i64 a0_2, .int .i64 a0_3, .int .i64 a0_4, .int .i64 a0_5]] w fun e w' => e = .returned (.bool r) ∧ Below w.heap.size w w' := by
 have hu29 := Try.underlying29
 have hu27 := Try.underlying27
 have HB := m_ (Below.refl w.heap.size w)
 have H := h
 unfold promise_right.f at H
 clear h
 replace H := Option.bind_eq_some_iff.mp H
 obtain ⟨t244, A20, H⟩ := H
 try dsimp only at H
 have A2 := m_ A20
 clear A20
 by_cases c3 : t244 = 0
 ·rw [if_pos c3] at H
  have c3b0 : (t244 == 0) = true := beq_iff_eq.mpr c3
  have c3b1 : (t244 != 0) = false := bne_eq_false_iff_eq.mpr c3
  clear c3
  by_cases c4 : a0_1 ≥ 1
  ·rw [if_pos c4] at H
   have c4b0 : decide (1 ≤ a0_1) = true := decide_eq_true c4
   clear c4
   obtain rfl := Option.some.inj H
   go_enter Try.func68, Try.ntmps68
   go_wp2_with (first | ((with_reducible refine a3_ (N := 1) rfl ?_); refine bx 1 #[.int .i64 a0_0, .int .i64 a0_1, .int .i64 a0_2, .int .i64 a0_3, .int .i64 a0_4, .int .i64 a0_5] 29 ?_; intro gb243 hg w5 hbox hb; have BK243 := m_ (hbox); have GW243 := ge_ hg; have GE243 := ge_ hg; replace HB := hs_ hb; clear hb hbox hg; obtain ⟨hcz6_0, hcz6_1, hcz6_2, hcz6_3, hcz6_4, hcz6_5, hfz6_0, hfz6_1, hfz6_2, hfz6_3, hfz6_4, hfz6_5⟩ := bz6_ BK243) | ((with_reducible refine b3_ (f := 83) rfl ?_); refine goesL_ (some 5) rfl rfl Try.func83 (by kernel_rfl) rfl #[.agg #[.int .i64 a0_2, .int .i64 a0_3, .int .i64 a0_4, .int .i64 a0_5]] rfl Z0 ?_; (with_reducible refine (shape_Check.calls a0_2 a0_3 a0_4 a0_5 t244 _ A2.out).mono ?_); rintro e w7 ⟨rfl, hb⟩; refine ⟨_, rfl, ?_⟩; replace BK243 := bk_ BK243 hb; replace HB := hs_ hb; (try clear hb); (try clear hb2); (try clear hk); (try clear hi); obtain ⟨hcz8_0, hcz8_1, hcz8_2, hcz8_3, hcz8_4, hcz8_5, hfz8_0, hfz8_1, hfz8_2, hfz8_3, hfz8_4, hfz8_5⟩ := bz6_ BK243))
   go_ret
   exact ⟨by first | rfl | (simp [b2_, b1_] <;> rfl) | (simp [*, b2_, b1_] <;> rfl), hb_⟩
  ·rw [if_neg c4] at H
   have c4b0 : decide (1 ≤ a0_1) = false := decide_eq_false c4
   clear c4
   obtain rfl := Option.some.inj H
   go_enter Try.func68, Try.ntmps68
   go_wp2_with (first | ((with_reducible refine a3_ (N := 1) rfl ?_); refine bx 1 #[.int .i64 a0_0, .int .i64 a0_1, .int .i64 a0_2, .int .i64 a0_3, .int .i64 a0_4, .int .i64 a0_5] 29 ?_; intro gb243 hg w9 hbox hb; have BK243 := m_ (hbox); have GW243 := ge_ hg; have GE243 := ge_ hg; replace HB := hs_ hb; clear hb hbox hg; obtain ⟨hcz10_0, hcz10_1, hcz10_2, hcz10_3, hcz10_4, hcz10_5, hfz10_0, hfz10_1, hfz10_2, hfz10_3, hfz10_4, hfz10_5⟩ := bz6_ BK243) | ((with_reducible refine b3_ (f := 83) rfl ?_); refine goesL_ (some 5) rfl rfl Try.func83 (by kernel_rfl) rfl #[.agg #[.int .i64 a0_2, .int .i64 a0_3, .int .i64 a0_4, .int .i64 a0_5]] rfl Z0 ?_; (with_reducible refine (shape_Check.calls a0_2 a0_3 a0_4 a0_5 t244 _ A2.out).mono ?_); rintro e w11 ⟨rfl, hb⟩; refine ⟨_, rfl, ?_⟩; replace BK243 := bk_ BK243 hb; replace HB := hs_ hb; (try clear hb); (try clear hb2); (try clear hk); (try clear hi); obtain ⟨hcz12_0, hcz12_1, hcz12_2, hcz12_3, hcz12_4, hcz12_5, hfz12_0, hfz12_1, hfz12_2, hfz12_3, hfz12_4, hfz12_5⟩ := bz6_ BK243))
   go_ret
   exact ⟨by first | rfl | (simp [b2_, b1_] <;> rfl) | (simp [*, b2_, b1_] <;> rfl), hb_⟩
 ·rw [if_neg c3] at H
  have c3b0 : (t244 == 0) = false := beq_eq_false_iff_ne.mpr c3
  have c3b1 : (t244 != 0) = true := bne_iff_ne.mpr c3
  obtain rfl := Option.some.inj H
  go_enter Try.func68, Try.ntmps68
  go_wp2_with (first | ((with_reducible refine a3_ (N := 1) rfl ?_); refine bx 1 #[.int .i64 a0_0, .int .i64 a0_1, .int .i64 a0_2, .int .i64 a0_3, .int .i64 a0_4, .int .i64 a0_5] 29 ?_; intro gb243 hg w13 hbox hb; have BK243 := m_ (hbox); have GW243 := ge_ hg; have GE243 := ge_ hg; replace HB := hs_ hb; clear hb hbox hg; obtain ⟨hcz14_0, hcz14_1, hcz14_2, hcz14_3, hcz14_4, hcz14_5, hfz14_0, hfz14_1, hfz14_2, hfz14_3, hfz14_4, hfz14_5⟩ := bz6_ BK243) | ((with_reducible refine b3_ (f := 83) rfl ?_); refine goesL_ (some 5) rfl rfl Try.func83 (by kernel_rfl) rfl #[.agg #[.int .i64 a0_2, .int .i64 a0_3, .int .i64 a0_4, .int .i64 a0_5]] rfl Z0 ?_; (with_reducible refine (shape_Check.calls a0_2 a0_3 a0_4 a0_5 t244 _ A2.out).mono ?_); rintro e w15 ⟨rfl, hb⟩; refine ⟨_, rfl, ?_⟩; replace BK243 := bk_ BK243 hb; replace HB := hs_ hb; (try clear hb); (try clear hb2); (try clear hk); (try clear hi)))
  go_ret
  exact ⟨by first | rfl | (simp [b2_, b1_] <;> rfl) | (simp [*, b2_, b1_] <;> rfl), hb_⟩
def shape_Units.f (a0_0 a0_1 a0_2 a0_3 a1 : Int) : Option (Int × Int × Int) := (shape_Check.f a0_0 a0_1 a0_2 a0_3).bind fun t247 => (if t247 = 0 then (if a1 < 0 then (some (0, 0, 1)) else (if a1 > 16 then (some (0, 0, 1)) else (some (wrap64 (a0_0 * a1), wrap64 (a0_1 * a1), 0)))) else (some (0, 0, 1)))
set_option maxHeartbeats 8000000 in
set_option maxRecDepth 100000 in
theorem shape_Units.calls (a0_0 a0_1 a0_2 a0_3 a1 r1 r2 r3 : Int) (w : World) (h : shape_Units.f a0_0 a0_1 a0_2 a0_3 a1 = some (r1, r2, r3)) :
  Calls Try.prog 76 #[.agg #[.int .i64 a0_0, .int .i64 a0_1, .int .i64 a0_2, .int .i64 a0_3], .int .i64 a1] w fun e w' => e = .returned (.tuple #[.agg #[.int .i64 r1, .int .i64 r2], .int .i64 r3]) ∧ Below w.heap.size w w' := by
 have hu27 := Try.underlying27
 have hu24 := Try.underlying24
 have HB := m_ (Below.refl w.heap.size w)
 have H := h
 unfold shape_Units.f at H
 clear h
 replace H := Option.bind_eq_some_iff.mp H
 obtain ⟨t247, A30, H⟩ := H
 try dsimp only at H
 have A3 := m_ A30
 clear A30
 by_cases c4 : t247 = 0
 ·rw [if_pos c4] at H
  have c4b0 : (t247 == 0) = true := beq_iff_eq.mpr c4
  have c4b1 : (t247 != 0) = false := bne_eq_false_iff_eq.mpr c4
  clear c4
  by_cases c5 : a1 < 0
  ·rw [if_pos c5] at H
   have c5b0 : decide (a1 < 0) = true := decide_eq_true c5
   clear c5
   simp only [Option.some.injEq, Prod.mk.injEq] at H
   obtain ⟨rfl, rfl, rfl⟩ := H
   go_enter Try.func76, Try.ntmps76
   go_wp2_with (first | ((with_reducible refine a3_ (N := 2) rfl ?_); refine bx 2 #[.int .i64 a0_0, .int .i64 a0_1, .int .i64 a0_2, .int .i64 a0_3] 27 ?_; intro gb245 hg w6 hbox hb; have BK245 := m_ (hbox); have GW245 := ge_ hg; have GE245 := ge_ hg; replace HB := hs_ hb; clear hb hbox hg) | ((with_reducible refine a3_ (N := 4) rfl ?_); refine bx 4 #[.int .i64 0, .int .i64 0] 24 ?_; intro gb246 hg w7 hbox hb; have BK246 := m_ (hbox); have GW246 := ge_ hg; have GE246 := ge_ hg; have NB245_246 := nl_ BK245 hg; have NB246_245 := nr_ BK245 hg; replace BK245 := bk_ BK245 hb; replace HB := hs_ hb; clear hb hbox hg; have hnb8 := NB245_246.out; have hnc8 := NB246_245.out; obtain ⟨hcz9_0, hcz9_1, hcz9_2, hcz9_3, hfz9_0, hfz9_1, hfz9_2, hfz9_3⟩ := bz4_ BK245) | ((with_reducible refine b3_ (f := 83) rfl ?_); refine goesL_ (some 7) rfl rfl Try.func83 (by kernel_rfl) rfl #[.agg #[.int .i64 a0_0, .int .i64 a0_1, .int .i64 a0_2, .int .i64 a0_3]] rfl Z0 ?_; (with_reducible refine (shape_Check.calls a0_0 a0_1 a0_2 a0_3 t247 _ A3.out).mono ?_); rintro e w10 ⟨rfl, hb⟩; refine ⟨_, rfl, ?_⟩; replace BK245 := bk_ BK245 hb; replace BK246 := bk_ BK246 hb; replace HB := hs_ hb; (try clear hb); (try clear hb2); (try clear hk); (try clear hi); obtain ⟨hcz11_0, hcz11_1, hfz11_0, hfz11_1⟩ := bz2_ BK246))
   refine bodyPost_ret (results_ct rfl _ _ gb246 24 #[.int .i64 0, .int .i64 0] (0, 0) _ rfl (bt_ BK246) Try.underlying24 rfl (by kernel_rfl)) rfl ?_
   exact ⟨by first | rfl | (simp [b2_, b1_] <;> rfl) | (simp [*, b2_, b1_] <;> rfl), hb_⟩
  ·rw [if_neg c5] at H
   have c5b0 : decide (a1 < 0) = false := decide_eq_false c5
   clear c5
   by_cases c12 : a1 > 16
   ·rw [if_pos c12] at H
    have c12b0 : decide (16 < a1) = true := decide_eq_true c12
    clear c12
    simp only [Option.some.injEq, Prod.mk.injEq] at H
    obtain ⟨rfl, rfl, rfl⟩ := H
    go_enter Try.func76, Try.ntmps76
    go_wp2_with (first | ((with_reducible refine a3_ (N := 2) rfl ?_); refine bx 2 #[.int .i64 a0_0, .int .i64 a0_1, .int .i64 a0_2, .int .i64 a0_3] 27 ?_; intro gb245 hg w13 hbox hb; have BK245 := m_ (hbox); have GW245 := ge_ hg; have GE245 := ge_ hg; replace HB := hs_ hb; clear hb hbox hg) | ((with_reducible refine a3_ (N := 4) rfl ?_); refine bx 4 #[.int .i64 0, .int .i64 0] 24 ?_; intro gb246 hg w14 hbox hb; have BK246 := m_ (hbox); have GW246 := ge_ hg; have GE246 := ge_ hg; have NB245_246 := nl_ BK245 hg; have NB246_245 := nr_ BK245 hg; replace BK245 := bk_ BK245 hb; replace HB := hs_ hb; clear hb hbox hg; have hnb15 := NB245_246.out; have hnc15 := NB246_245.out; obtain ⟨hcz16_0, hcz16_1, hcz16_2, hcz16_3, hfz16_0, hfz16_1, hfz16_2, hfz16_3⟩ := bz4_ BK245) | ((with_reducible refine b3_ (f := 83) rfl ?_); refine goesL_ (some 7) rfl rfl Try.func83 (by kernel_rfl) rfl #[.agg #[.int .i64 a0_0, .int .i64 a0_1, .int .i64 a0_2, .int .i64 a0_3]] rfl Z0 ?_; (with_reducible refine (shape_Check.calls a0_0 a0_1 a0_2 a0_3 t247 _ A3.out).mono ?_); rintro e w17 ⟨rfl, hb⟩; refine ⟨_, rfl, ?_⟩; replace BK245 := bk_ BK245 hb; replace BK246 := bk_ BK246 hb; replace HB := hs_ hb; (try clear hb); (try clear hb2); (try clear hk); (try clear hi); obtain ⟨hcz18_0, hcz18_1, hfz18_0, hfz18_1⟩ := bz2_ BK246))
    refine bodyPost_ret (results_ct rfl _ _ gb246 24 #[.int .i64 0, .int .i64 0] (0, 0) _ rfl (bt_ BK246) Try.underlying24 rfl (by kernel_rfl)) rfl ?_
    exact ⟨by first | rfl | (simp [b2_, b1_] <;> rfl) | (simp [*, b2_, b1_] <;> rfl), hb_⟩
   ·rw [if_neg c12] at H
    have c12b0 : decide (16 < a1) = false := decide_eq_false c12
    clear c12
    simp only [Option.some.injEq, Prod.mk.injEq] at H
    obtain ⟨rfl, rfl, rfl⟩ := H
    go_enter Try.func76, Try.ntmps76
    go_wp2_with (first | ((with_reducible refine a3_ (N := 2) rfl ?_); refine bx 2 #[.int .i64 a0_0, .int .i64 a0_1, .int .i64 a0_2, .int .i64 a0_3] 27 ?_; intro gb245 hg w19 hbox hb; have BK245 := m_ (hbox); have GW245 := ge_ hg; have GE245 := ge_ hg; replace HB := hs_ hb; clear hb hbox hg) | ((with_reducible refine a3_ (N := 4) rfl ?_); refine bx 4 #[.int .i64 0, .int .i64 0] 24 ?_; intro gb246 hg w20 hbox hb; have BK246 := m_ (hbox); have GW246 := ge_ hg; have GE246 := ge_ hg; have NB245_246 := nl_ BK245 hg; have NB246_245 := nr_ BK245 hg; replace BK245 := bk_ BK245 hb; replace HB := hs_ hb; clear hb hbox hg; have hnb21 := NB245_246.out; have hnc21 := NB246_245.out; obtain ⟨hcz22_0, hcz22_1, hcz22_2, hcz22_3, hfz22_0, hfz22_1, hfz22_2, hfz22_3⟩ := bz4_ BK245) | ((with_reducible refine b3_ (f := 83) rfl ?_); refine goesL_ (some 7) rfl rfl Try.func83 (by kernel_rfl) rfl #[.agg #[.int .i64 a0_0, .int .i64 a0_1, .int .i64 a0_2, .int .i64 a0_3]] rfl Z0 ?_; (with_reducible refine (shape_Check.calls a0_0 a0_1 a0_2 a0_3 t247 _ A3.out).mono ?_); rintro e w23 ⟨rfl, hb⟩; refine ⟨_, rfl, ?_⟩; replace BK245 := bk_ BK245 hb; replace BK246 := bk_ BK246 hb; replace HB := hs_ hb; (try clear hb); (try clear hb2); (try clear hk); (try clear hi); obtain ⟨hcz24_0, hcz24_1, hcz24_2, hcz24_3, hfz24_0, hfz24_1, hfz24_2, hfz24_3⟩ := bz4_ BK245; obtain ⟨hcz25_0, hcz25_1, hfz25_0, hfz25_1⟩ := bz2_ BK246))
    refine bodyPost_ret (results_ct rfl _ _ gb246 24 #[.int .i64 (wrap64 (a0_0 * a1)), .int .i64 (wrap64 (a0_1 * a1))] (0, 0) _ rfl (bt_ BK246) Try.underlying24 rfl (by kernel_rfl)) rfl ?_
    exact ⟨by first | rfl | (simp [b2_, b1_] <;> rfl) | (simp [*, b2_, b1_] <;> rfl), hb_⟩
 ·rw [if_neg c4] at H
  have c4b0 : (t247 == 0) = false := beq_eq_false_iff_ne.mpr c4
  have c4b1 : (t247 != 0) = true := bne_iff_ne.mpr c4
  simp only [Option.some.injEq, Prod.mk.injEq] at H
  obtain ⟨rfl, rfl, rfl⟩ := H
  go_enter Try.func76, Try.ntmps76
  go_wp2_with (first | ((with_reducible refine a3_ (N := 2) rfl ?_); refine bx 2 #[.int .i64 a0_0, .int .i64 a0_1, .int .i64 a0_2, .int .i64 a0_3] 27 ?_; intro gb245 hg w26 hbox hb; have BK245 := m_ (hbox); have GW245 := ge_ hg; have GE245 := ge_ hg; replace HB := hs_ hb; clear hb hbox hg) | ((with_reducible refine a3_ (N := 4) rfl ?_); refine bx 4 #[.int .i64 0, .int .i64 0] 24 ?_; intro gb246 hg w27 hbox hb; have BK246 := m_ (hbox); have GW246 := ge_ hg; have GE246 := ge_ hg; have NB245_246 := nl_ BK245 hg; have NB246_245 := nr_ BK245 hg; replace BK245 := bk_ BK245 hb; replace HB := hs_ hb; clear hb hbox hg; have hnb28 := NB245_246.out; have hnc28 := NB246_245.out; obtain ⟨hcz29_0, hcz29_1, hcz29_2, hcz29_3, hfz29_0, hfz29_1, hfz29_2, hfz29_3⟩ := bz4_ BK245) | ((with_reducible refine b3_ (f := 83) rfl ?_); refine goesL_ (some 7) rfl rfl Try.func83 (by kernel_rfl) rfl #[.agg #[.int .i64 a0_0, .int .i64 a0_1, .int .i64 a0_2, .int .i64 a0_3]] rfl Z0 ?_; (with_reducible refine (shape_Check.calls a0_0 a0_1 a0_2 a0_3 t247 _ A3.out).mono ?_); rintro e w30 ⟨rfl, hb⟩; refine ⟨_, rfl, ?_⟩; replace BK245 := bk_ BK245 hb; replace BK246 := bk_ BK246 hb; replace HB := hs_ hb; (try clear hb); (try clear hb2); (try clear hk); (try clear hi); obtain ⟨hcz31_0, hcz31_1, hfz31_0, hfz31_1⟩ := bz2_ BK246))
  refine bodyPost_ret (results_ct rfl _ _ gb246 24 #[.int .i64 0, .int .i64 0] (0, 0) _ rfl (bt_ BK246) Try.underlying24 rfl (by kernel_rfl)) rfl ?_
  exact ⟨by first | rfl | (simp [b2_, b1_] <;> rfl) | (simp [*, b2_, b1_] <;> rfl), hb_⟩
def promise_Fits.f (k : Nat) (l0 : List (S51)) (a1_0 a1_1 a2_0 a2_1 a2_2 a2_3 a2_4 a2_5 : Int) : Option (Bool) := (promise_right.f a2_0 a2_1 a2_2 a2_3 a2_4 a2_5).bind fun t250 => (if t250 = true then ((shape_Units.f a2_2 a2_3 a2_4 a2_5 a2_1).bind fun bt251 => (if bt251.1 ≤ a1_0 then (if bt251.2.1 ≤ a1_1 then ((pack_Room.f k l0 a2_2 a2_3 a2_4 a2_5).bind fun t255 => (some (decide (t255 ≥ a2_1)))) else (some false)) else (some false))) else (some false))
def promise_Fits.T4 : Bool × List (List Nat × List Nat) := (true, [([], []), ([0], [0]), ([], []), ([2], [2]), ([1, 3], [1, 3]), ([4], [4]), ([5], [5]), ([6, 5], [5, 6]), ([5], [5]), ([8, 5], [5, 8]), ([7, 9, 5], [5, 7, 9]), ([5, 10], [5, 10]), ([11, 5], [11]), ([12], [12]), ([12], [12]), ([14, 12], [12, 14]), ([13, 15, 12, 12], [12, 13, 15]), ([12], [12]), ([17, 12], [12, 17]), ([16, 18, 12], [12, 16, 18]), ([12, 19], [12, 19]), ([20, 16, 0, 1, 2, 3, 4, 5, 6, 7, 8, 9, 10, 11, 12, 13, 14, 15, 16, 17, 18, 19, 20], [20])])
def promise_Fits.B4 : List Nat := [0, 1, 0, 4, 15, 31, 63, 127, 63, 319, 1023, 2047, 4095, 8191, 8191, 24575, 65535, 8191, 139263, 524287, 1048575, 2097151]
theorem promise_Fits.tab4 : rtab .any (opsOf Try.f29 4) = promise_Fits.T4 := by kernel_rfl
theorem promise_Fits.bits4 : waitsOk promise_Fits.T4.2 promise_Fits.B4 = true := by kernel_rfl
set_option maxHeartbeats 8000000 in
set_option maxRecDepth 100000 in
theorem promise_Fits.calls (k : Nat) (A0 : Option Addr) (c0 : Nat) (l0 : List (S51)) (a1_0 a1_1 a2_0 a2_1 a2_2 a2_3 a2_4 a2_5 : Int) (r : Bool) (w : World) (hr0 : Kd.C k51 w A0 l0.length l0) (hc0 : l0.length ≤ c0) (h : promise_Fits.f k l0 a1_0 a1_1 a2_0 a2_1 a2_2 a2_3 a2_4 a2_5 = some r) :
  Calls Try.prog 29 #[.slice A0 l0.length c0, .agg #[.int .i64 a1_0, .int .i64 a1_1], .agg #[.int .i64 a2_0, .int .i64 a2_1, .int .i64 a2_2, .int .i64 a2_3, .int .i64 a2_4, .int .i64 a2_5]] w fun e w' => e = .returned (.bool r) ∧ Below w.heap.size w w' := by
 have hu24 := Try.underlying24
 have hu29 := Try.underlying29
 have hu27 := Try.underlying27
 have HR0 := m_ hr0
 have HC0 := m_ hc0
 clear hr0 hc0
 have HB := m_ (Below.refl w.heap.size w)
 have H := h
 unfold promise_Fits.f at H
 clear h
 replace H := Option.bind_eq_some_iff.mp H
 obtain ⟨t250, A40, H⟩ := H
 try dsimp only at H
 have A4 := m_ A40
 clear A40
 by_cases c5 : t250 = true
 ·subst c5
  have H1 : ((shape_Units.f a2_2 a2_3 a2_4 a2_5 a2_1).bind fun bt251 => (if bt251.1 ≤ a1_0 then (if bt251.2.1 ≤ a1_1 then ((pack_Room.f k l0 a2_2 a2_3 a2_4 a2_5).bind fun t255 => (some (decide (t255 ≥ a2_1)))) else (some false)) else (some false))) = some r := by rw [if_pos rfl] at H; exact H
  clear H
  have H := H1
  clear H1
  replace H := Option.bind_eq_some_iff.mp H
  obtain ⟨⟨t251, t252, t253⟩, A60, H⟩ := H
  try dsimp only at H
  have A6 := m_ A60
  clear A60
  by_cases c7 : t251 ≤ a1_0
  ·rw [if_pos c7] at H
   have c7b0 : decide (t251 ≤ a1_0) = true := decide_eq_true c7
   clear c7
   by_cases c8 : t252 ≤ a1_1
   ·rw [if_pos c8] at H
    have c8b0 : decide (t252 ≤ a1_1) = true := decide_eq_true c8
    clear c8
    replace H := Option.bind_eq_some_iff.mp H
    obtain ⟨t255, A90, H⟩ := H
    try dsimp only at H
    have A9 := m_ A90
    clear A90
    obtain rfl := Option.some.inj H
    go_enter Try.func29, Try.ntmps29
    try go_wp2_with (first | ((with_reducible refine a3_ (N := 4) rfl ?_); refine bx 4 #[.int .i64 a1_0, .int .i64 a1_1] 24 ?_; intro gb248 hg w10 hbox hb; have BK248 := m_ (hbox); have GW248 := ge_ hg; have GE248 := ge_ hg; replace HB := hs_ hb; clear hb hbox hg) | ((with_reducible refine a3_ (N := 5) rfl ?_); refine bx 5 #[.int .i64 a2_0, .int .i64 a2_1, .int .i64 a2_2, .int .i64 a2_3, .int .i64 a2_4, .int .i64 a2_5] 29 ?_; intro gb249 hg w11 hbox hb; have BK249 := m_ (hbox); have GW249 := ge_ hg; have GE249 := ge_ hg; have NB248_249 := nl_ BK248 hg; have NB249_248 := nr_ BK248 hg; replace BK248 := bk_ BK248 hb; replace HB := hs_ hb; clear hb hbox hg; have hnb12 := NB249_248.out; have hnc12 := NB248_249.out; obtain ⟨hcz13_0, hcz13_1, hcz13_2, hcz13_3, hcz13_4, hcz13_5, hfz13_0, hfz13_1, hfz13_2, hfz13_3, hfz13_4, hfz13_5⟩ := bz6_ BK249) | ((with_reducible refine b3_ (f := 68) rfl ?_); refine goesL_ (some 10) rfl rfl Try.func68 (by kernel_rfl) rfl #[.agg #[.int .i64 a2_0, .int .i64 a2_1, .int .i64 a2_2, .int .i64 a2_3, .int .i64 a2_4, .int .i64 a2_5]] rfl Z0 ?_; (with_reducible refine (promise_right.calls a2_0 a2_1 a2_2 a2_3 a2_4 a2_5 true _ A4.out).mono ?_); rintro e w14 ⟨rfl, hb⟩; refine ⟨_, rfl, ?_⟩; replace BK248 := bk_ BK248 hb; replace BK249 := bk_ BK249 hb; replace HB := hs_ hb; (try clear hb); (try clear hb2); (try clear hk); (try clear hi); obtain ⟨hcz15_0, hcz15_1, hcz15_2, hcz15_3, hcz15_4, hcz15_5, hfz15_0, hfz15_1, hfz15_2, hfz15_3, hfz15_4, hfz15_5⟩ := bz6_ BK249) | ((with_reducible refine b3_ (f := 76) rfl ?_); refine goesL_ (some 17) rfl rfl Try.func76 (by kernel_rfl) rfl #[.agg #[.int .i64 a2_2, .int .i64 a2_3, .int .i64 a2_4, .int .i64 a2_5], .int .i64 a2_1] rfl Z0 ?_; (with_reducible refine (shape_Units.calls a2_2 a2_3 a2_4 a2_5 a2_1 t251 t252 t253 _ A6.out).mono ?_); rintro e w16 ⟨rfl, hb⟩; refine ⟨_, rfl, ?_⟩; replace BK248 := bk_ BK248 hb; replace BK249 := bk_ BK249 hb; replace HB := hs_ hb; (try clear hb); (try clear hb2); (try clear hk); (try clear hi)) | ((with_reducible refine a3_ (N := 7) rfl ?_); refine bx 7 #[.int .i64 0, .int .i64 0] 24 ?_; intro gb254 hg w17 hbox hb; have BK254 := m_ (hbox); have GW254 := ge_ hg; have GE254 := ge_ hg; have NB248_254 := nl_ BK248 hg; have NB254_248 := nr_ BK248 hg; have NB249_254 := nl_ BK249 hg; have NB254_249 := nr_ BK249 hg; replace BK248 := bk_ BK248 hb; replace BK249 := bk_ BK249 hb; replace HB := hs_ hb; clear hb hbox hg; have hnb18 := NB254_248.out; have hnc18 := NB248_254.out; have hnb19 := NB254_249.out; have hnc19 := NB249_254.out; obtain ⟨hcz20_0, hcz20_1, hfz20_0, hfz20_1⟩ := bz2_ BK254))
    have n0_ : A_ (((w17.setCell ⟨gb254, 0, none⟩ (.int .i64 t251)).setCell ⟨gb254, 1, none⟩ (.int .i64 t252)).heap[gb248]? = some (.cells #[.int .i64 a1_0, .int .i64 a1_1] 24 (0, 0))) := ⟨bs_⟩
    have n1_ : A_ (((w17.setCell ⟨gb254, 0, none⟩ (.int .i64 t251)).setCell ⟨gb254, 1, none⟩ (.int .i64 t252)).heap[gb249]? = some (.cells #[.int .i64 a2_0, .int .i64 a2_1, .int .i64 a2_2, .int .i64 a2_3, .int .i64 a2_4, .int .i64 a2_5] 29 (0, 0))) := ⟨bs_⟩
    have n2_ : A_ (((w17.setCell ⟨gb254, 0, none⟩ (.int .i64 t251)).setCell ⟨gb254, 1, none⟩ (.int .i64 t252)).heap[gb254]? = some (.cells #[.int .i64 t251, .int .i64 t252] 24 (0, 0))) := ⟨bs_⟩
    have n3_ : A_ (Below w.heap.size w ((w17.setCell ⟨gb254, 0, none⟩ (.int .i64 t251)).setCell ⟨gb254, 1, none⟩ (.int .i64 t252))) := ⟨hb_⟩
    (try clear BK248)
    (try clear BK249)
    (try clear BK254)
    (try clear HB)
    generalize ((w17.setCell ⟨gb254, 0, none⟩ (.int .i64 t251)).setCell ⟨gb254, 1, none⟩ (.int .i64 t252)) = w21 at n0_ n1_ n2_ n3_ ⊢
    have BK248 := n0_
    have BK249 := n1_
    have BK254 := n2_
    have HB := n3_
    clear n0_ n1_ n2_ n3_
    replace BK248 := m_ (d7_ BK248.out)
    replace BK249 := m_ (d7_ BK249.out)
    replace BK254 := m_ (d7_ BK254.out)
    replace HB := m_ (b8_ HB.out)
    refine start_ (n := 22) (S := fun w' => w'.cell? ⟨gb254, 0, none⟩ = some (.int .i64 t251) ∧ w'.cell? ⟨gb254, 1, none⟩ = some (.int .i64 t252) ∧ w'.cell? ⟨gb248, 0, none⟩ = some (.int .i64 a1_0) ∧ w'.cell? ⟨gb248, 1, none⟩ = some (.int .i64 a1_1) ∧ w'.cell? ⟨gb249, 0, none⟩ = some (.int .i64 a2_0) ∧ w'.cell? ⟨gb249, 1, none⟩ = some (.int .i64 a2_1) ∧ w'.cell? ⟨gb249, 2, none⟩ = some (.int .i64 a2_2) ∧ w'.cell? ⟨gb249, 3, none⟩ = some (.int .i64 a2_3) ∧ w'.cell? ⟨gb249, 4, none⟩ = some (.int .i64 a2_4) ∧ w'.cell? ⟨gb249, 5, none⟩ = some (.int .i64 a2_5)) (ds := []) (bm 22 0) (by kernel_rfl) rfl rfl ⟨(a0_ BK254.out 0).trans rfl, (a0_ BK254.out 1).trans rfl, (a0_ BK248.out 0).trans rfl, (a0_ BK248.out 1).trans rfl, (a0_ BK249.out 0).trans rfl, (a0_ BK249.out 1).trans rfl, (a0_ BK249.out 2).trans rfl, (a0_ BK249.out 3).trans rfl, (a0_ BK249.out 4).trans rfl, (a0_ BK249.out 5).trans rfl⟩ (fun hHeld => ?_); refine with_tabW promise_Fits.tab4 promise_Fits.bits4 (fun HT_ HW_ => ?_)
    generalize w21.drew = w22 at BK248 BK249 BK254 HB hHeld ⊢
    refine pu 0 (some 20) (bm 22 1) ?_
    refine pu 2 (some 22) (bm 22 5) ?_
    refine tk 1 (some 21) (bm 22 7) ?_
    refine tk 3 (some 23) (bm 22 15) ?_
    refine pu 4 (some 24) (bm 22 31) ?_
    refine pu 5 (some 25) (bm 22 63) ?_
    refine pu 6 (some 26) (bm 22 127) ?_
    refine pu 8 (some 28) (bm 22 383) ?_
    refine tk 7 (some 27) (bm 22 511) ?_
    refine tk 9 (some 29) (bm 22 1023) ?_
    refine pu 10 (some 30) (bm 22 2047) ?_
    refine pu 11 (some 31) (bm 22 4095) ?_
    refine pu 12 (some 32) (bm 22 8191) ?_
    refine pu 13 (some 33) (bm 22 16383) ?_
    refine pu 14 (some 34) (bm 22 32767) ?_
    refine pu 17 (some 37) (bm 22 163839) ?_
    refine tk 15 (some 35) (bm 22 196607) ?_
    refine tk 18 (some 38) (bm 22 458751) ?_
    refine one_ (i := 16) (N := some 36) (bm 22 524287) rfl rfl (one_of HT_.out (by kernel_rfl)) (by decide) (fun K hK => ?_)
    refine goes_ Try.func50 (by kernel_rfl) rfl #[.slice A0 l0.length c0, .agg #[.int .i64 a2_2, .int .i64 a2_3, .int .i64 a2_4, .int .i64 a2_5]] (by rfl) rfl rfl Z0 ?_
    with_reducible refine (pack_Room.calls k _ _ l0 a2_2 a2_3 a2_4 a2_5 t255 _ ?side1 ?side2 A9.out).mono ?_
    (case side1 => exact cs_ HR0)
    (case side2 => exact HC0.out)
    rintro e w23 ⟨rfl, hb⟩
    refine ⟨_, rfl, ?_⟩
    replace BK248 := bk_ BK248 hb
    replace BK249 := bk_ BK249 hb
    replace BK254 := bk_ BK254 hb
    replace HB := hs_ hb
    (try clear hb)
    (try clear hb2)
    (try clear hk)
    (try clear hi)
    refine hK.out _ _ kc_ (fun hHeld => ?_)
    clear hK K
    refine norm_ (a' := ?_) ?_ ?_
    rotate_left
    ·show Act.put _ (some 36) _ = _
     simp only [Act.put, List.setIfInBounds_toArray, List.set_cons_zero, List.set_cons_succ, i64_w, i32_w]
     rfl
    refine pu 19 (some 39) (bm 22 1048575) ?_
    refine pu 20 (some 40) (bm 22 2097151) ?_
    refine pu 21 (some 6) (bm 22 4194303) ?_
    refine done_ (done_of HT_.out (by kernel_rfl)) ?_
    try go_wp2
    go_ret
    exact ⟨by first | rfl | (simp [b2_, b1_] <;> rfl) | (simp [*, b2_, b1_] <;> rfl), hb_⟩
   ·rw [if_neg c8] at H
    have c8b0 : decide (t252 ≤ a1_1) = false := decide_eq_false c8
    clear c8
    obtain rfl := Option.some.inj H
    go_enter Try.func29, Try.ntmps29
    try go_wp2_with (first | ((with_reducible refine a3_ (N := 4) rfl ?_); refine bx 4 #[.int .i64 a1_0, .int .i64 a1_1] 24 ?_; intro gb248 hg w24 hbox hb; have BK248 := m_ (hbox); have GW248 := ge_ hg; have GE248 := ge_ hg; replace HB := hs_ hb; clear hb hbox hg) | ((with_reducible refine a3_ (N := 5) rfl ?_); refine bx 5 #[.int .i64 a2_0, .int .i64 a2_1, .int .i64 a2_2, .int .i64 a2_3, .int .i64 a2_4, .int .i64 a2_5] 29 ?_; intro gb249 hg w25 hbox hb; have BK249 := m_ (hbox); have GW249 := ge_ hg; have GE249 := ge_ hg; have NB248_249 := nl_ BK248 hg; have NB249_248 := nr_ BK248 hg; replace BK248 := bk_ BK248 hb; replace HB := hs_ hb; clear hb hbox hg; have hnb26 := NB249_248.out; have hnc26 := NB248_249.out; obtain ⟨hcz27_0, hcz27_1, hcz27_2, hcz27_3, hcz27_4, hcz27_5, hfz27_0, hfz27_1, hfz27_2, hfz27_3, hfz27_4, hfz27_5⟩ := bz6_ BK249) | ((with_reducible refine b3_ (f := 68) rfl ?_); refine goesL_ (some 10) rfl rfl Try.func68 (by kernel_rfl) rfl #[.agg #[.int .i64 a2_0, .int .i64 a2_1, .int .i64 a2_2, .int .i64 a2_3, .int .i64 a2_4, .int .i64 a2_5]] rfl Z0 ?_; (with_reducible refine (promise_right.calls a2_0 a2_1 a2_2 a2_3 a2_4 a2_5 true _ A4.out).mono ?_); rintro e w28 ⟨rfl, hb⟩; refine ⟨_, rfl, ?_⟩; replace BK248 := bk_ BK248 hb; replace BK249 := bk_ BK249 hb; replace HB := hs_ hb; (try clear hb); (try clear hb2); (try clear hk); (try clear hi); obtain ⟨hcz29_0, hcz29_1, hcz29_2, hcz29_3, hcz29_4, hcz29_5, hfz29_0, hfz29_1, hfz29_2, hfz29_3, hfz29_4, hfz29_5⟩ := bz6_ BK249) | ((with_reducible refine b3_ (f := 76) rfl ?_); refine goesL_ (some 17) rfl rfl Try.func76 (by kernel_rfl) rfl #[.agg #[.int .i64 a2_2, .int .i64 a2_3, .int .i64 a2_4, .int .i64 a2_5], .int .i64 a2_1] rfl Z0 ?_; (with_reducible refine (shape_Units.calls a2_2 a2_3 a2_4 a2_5 a2_1 t251 t252 t253 _ A6.out).mono ?_); rintro e w30 ⟨rfl, hb⟩; refine ⟨_, rfl, ?_⟩; replace BK248 := bk_ BK248 hb; replace BK249 := bk_ BK249 hb; replace HB := hs_ hb; (try clear hb); (try clear hb2); (try clear hk); (try clear hi)) | ((with_reducible refine a3_ (N := 7) rfl ?_); refine bx 7 #[.int .i64 0, .int .i64 0] 24 ?_; intro gb254 hg w31 hbox hb; have BK254 := m_ (hbox); have GW254 := ge_ hg; have GE254 := ge_ hg; have NB248_254 := nl_ BK248 hg; have NB254_248 := nr_ BK248 hg; have NB249_254 := nl_ BK249 hg; have NB254_249 := nr_ BK249 hg; replace BK248 := bk_ BK248 hb; replace BK249 := bk_ BK249 hb; replace HB := hs_ hb; clear hb hbox hg; have hnb32 := NB254_248.out; have hnc32 := NB248_254.out; have hnb33 := NB254_249.out; have hnc33 := NB249_254.out; obtain ⟨hcz34_0, hcz34_1, hfz34_0, hfz34_1⟩ := bz2_ BK254))
    have n0_ : A_ (((w31.setCell ⟨gb254, 0, none⟩ (.int .i64 t251)).setCell ⟨gb254, 1, none⟩ (.int .i64 t252)).heap[gb248]? = some (.cells #[.int .i64 a1_0, .int .i64 a1_1] 24 (0, 0))) := ⟨bs_⟩
    have n1_ : A_ (((w31.setCell ⟨gb254, 0, none⟩ (.int .i64 t251)).setCell ⟨gb254, 1, none⟩ (.int .i64 t252)).heap[gb249]? = some (.cells #[.int .i64 a2_0, .int .i64 a2_1, .int .i64 a2_2, .int .i64 a2_3, .int .i64 a2_4, .int .i64 a2_5] 29 (0, 0))) := ⟨bs_⟩
    have n2_ : A_ (((w31.setCell ⟨gb254, 0, none⟩ (.int .i64 t251)).setCell ⟨gb254, 1, none⟩ (.int .i64 t252)).heap[gb254]? = some (.cells #[.int .i64 t251, .int .i64 t252] 24 (0, 0))) := ⟨bs_⟩
    have n3_ : A_ (Below w.heap.size w ((w31.setCell ⟨gb254, 0, none⟩ (.int .i64 t251)).setCell ⟨gb254, 1, none⟩ (.int .i64 t252))) := ⟨hb_⟩
    (try clear BK248)
    (try clear BK249)
    (try clear BK254)
    (try clear HB)
    generalize ((w31.setCell ⟨gb254, 0, none⟩ (.int .i64 t251)).setCell ⟨gb254, 1, none⟩ (.int .i64 t252)) = w35 at n0_ n1_ n2_ n3_ ⊢
    have BK248 := n0_
    have BK249 := n1_
    have BK254 := n2_
    have HB := n3_
    clear n0_ n1_ n2_ n3_
    replace BK248 := m_ (d7_ BK248.out)
    replace BK249 := m_ (d7_ BK249.out)
    replace BK254 := m_ (d7_ BK254.out)
    replace HB := m_ (b8_ HB.out)
    refine start_ (n := 22) (S := fun w' => w'.cell? ⟨gb254, 0, none⟩ = some (.int .i64 t251) ∧ w'.cell? ⟨gb254, 1, none⟩ = some (.int .i64 t252) ∧ w'.cell? ⟨gb248, 0, none⟩ = some (.int .i64 a1_0) ∧ w'.cell? ⟨gb248, 1, none⟩ = some (.int .i64 a1_1)) (ds := []) (bm 22 0) (by kernel_rfl) rfl rfl ⟨(a0_ BK254.out 0).trans rfl, (a0_ BK254.out 1).trans rfl, (a0_ BK248.out 0).trans rfl, (a0_ BK248.out 1).trans rfl⟩ (fun hHeld => ?_); refine with_tabW promise_Fits.tab4 promise_Fits.bits4 (fun HT_ HW_ => ?_)
    generalize w35.drew = w36 at BK248 BK249 BK254 HB hHeld ⊢
    refine pu 0 (some 20) (bm 22 1) ?_
    refine pu 2 (some 22) (bm 22 5) ?_
    refine tk 1 (some 21) (bm 22 7) ?_
    refine tk 3 (some 23) (bm 22 15) ?_
    refine pu 4 (some 24) (bm 22 31) ?_
    refine pu 5 (some 25) (bm 22 63) ?_
    refine pu 6 (some 26) (bm 22 127) ?_
    refine pu 8 (some 28) (bm 22 383) ?_
    refine tk 7 (some 27) (bm 22 511) ?_
    refine tk 9 (some 29) (bm 22 1023) ?_
    refine pu 10 (some 30) (bm 22 2047) ?_
    refine pu 11 (some 31) (bm 22 4095) ?_
    refine pu 12 (some 32) (bm 22 8191) ?_
    refine pv 13 (some 33) (bm 22 16383) ?_
    refine pv 14 (some 34) (bm 22 32767) ?_
    refine pv 15 (some 35) (bm 22 65535) ?_
    refine pv 16 (some 36) (bm 22 131071) ?_
    refine pv 17 (some 37) (bm 22 262143) ?_
    refine pv 18 (some 38) (bm 22 524287) ?_
    refine pv 19 (some 39) (bm 22 1048575) ?_
    refine pu 20 (some 40) (bm 22 2097151) ?_
    refine pu 21 (some 6) (bm 22 4194303) ?_
    refine done_ (done_of HT_.out (by kernel_rfl)) ?_
    try go_wp2
    go_ret
    exact ⟨by first | rfl | (simp [b2_, b1_] <;> rfl) | (simp [*, b2_, b1_] <;> rfl), hb_⟩
  ·rw [if_neg c7] at H
   have c7b0 : decide (t251 ≤ a1_0) = false := decide_eq_false c7
   clear c7
   obtain rfl := Option.some.inj H
   go_enter Try.func29, Try.ntmps29
   try go_wp2_with (first | ((with_reducible refine a3_ (N := 4) rfl ?_); refine bx 4 #[.int .i64 a1_0, .int .i64 a1_1] 24 ?_; intro gb248 hg w37 hbox hb; have BK248 := m_ (hbox); have GW248 := ge_ hg; have GE248 := ge_ hg; replace HB := hs_ hb; clear hb hbox hg) | ((with_reducible refine a3_ (N := 5) rfl ?_); refine bx 5 #[.int .i64 a2_0, .int .i64 a2_1, .int .i64 a2_2, .int .i64 a2_3, .int .i64 a2_4, .int .i64 a2_5] 29 ?_; intro gb249 hg w38 hbox hb; have BK249 := m_ (hbox); have GW249 := ge_ hg; have GE249 := ge_ hg; have NB248_249 := nl_ BK248 hg; have NB249_248 := nr_ BK248 hg; replace BK248 := bk_ BK248 hb; replace HB := hs_ hb; clear hb hbox hg; have hnb39 := NB249_248.out; have hnc39 := NB248_249.out; obtain ⟨hcz40_0, hcz40_1, hcz40_2, hcz40_3, hcz40_4, hcz40_5, hfz40_0, hfz40_1, hfz40_2, hfz40_3, hfz40_4, hfz40_5⟩ := bz6_ BK249) | ((with_reducible refine b3_ (f := 68) rfl ?_); refine goesL_ (some 10) rfl rfl Try.func68 (by kernel_rfl) rfl #[.agg #[.int .i64 a2_0, .int .i64 a2_1, .int .i64 a2_2, .int .i64 a2_3, .int .i64 a2_4, .int .i64 a2_5]] rfl Z0 ?_; (with_reducible refine (promise_right.calls a2_0 a2_1 a2_2 a2_3 a2_4 a2_5 true _ A4.out).mono ?_); rintro e w41 ⟨rfl, hb⟩; refine ⟨_, rfl, ?_⟩; replace BK248 := bk_ BK248 hb; replace BK249 := bk_ BK249 hb; replace HB := hs_ hb; (try clear hb); (try clear hb2); (try clear hk); (try clear hi); obtain ⟨hcz42_0, hcz42_1, hcz42_2, hcz42_3, hcz42_4, hcz42_5, hfz42_0, hfz42_1, hfz42_2, hfz42_3, hfz42_4, hfz42_5⟩ := bz6_ BK249) | ((with_reducible refine b3_ (f := 76) rfl ?_); refine goesL_ (some 17) rfl rfl Try.func76 (by kernel_rfl) rfl #[.agg #[.int .i64 a2_2, .int .i64 a2_3, .int .i64 a2_4, .int .i64 a2_5], .int .i64 a2_1] rfl Z0 ?_; (with_reducible refine (shape_Units.calls a2_2 a2_3 a2_4 a2_5 a2_1 t251 t252 t253 _ A6.out).mono ?_); rintro e w43 ⟨rfl, hb⟩; refine ⟨_, rfl, ?_⟩; replace BK248 := bk_ BK248 hb; replace BK249 := bk_ BK249 hb; replace HB := hs_ hb; (try clear hb); (try clear hb2); (try clear hk); (try clear hi)) | ((with_reducible refine a3_ (N := 7) rfl ?_); refine bx 7 #[.int .i64 0, .int .i64 0] 24 ?_; intro gb254 hg w44 hbox hb; have BK254 := m_ (hbox); have GW254 := ge_ hg; have GE254 := ge_ hg; have NB248_254 := nl_ BK248 hg; have NB254_248 := nr_ BK248 hg; have NB249_254 := nl_ BK249 hg; have NB254_249 := nr_ BK249 hg; replace BK248 := bk_ BK248 hb; replace BK249 := bk_ BK249 hb; replace HB := hs_ hb; clear hb hbox hg; have hnb45 := NB254_248.out; have hnc45 := NB248_254.out; have hnb46 := NB254_249.out; have hnc46 := NB249_254.out; obtain ⟨hcz47_0, hcz47_1, hfz47_0, hfz47_1⟩ := bz2_ BK254))
   have n0_ : A_ (((w44.setCell ⟨gb254, 0, none⟩ (.int .i64 t251)).setCell ⟨gb254, 1, none⟩ (.int .i64 t252)).heap[gb248]? = some (.cells #[.int .i64 a1_0, .int .i64 a1_1] 24 (0, 0))) := ⟨bs_⟩
   have n1_ : A_ (((w44.setCell ⟨gb254, 0, none⟩ (.int .i64 t251)).setCell ⟨gb254, 1, none⟩ (.int .i64 t252)).heap[gb249]? = some (.cells #[.int .i64 a2_0, .int .i64 a2_1, .int .i64 a2_2, .int .i64 a2_3, .int .i64 a2_4, .int .i64 a2_5] 29 (0, 0))) := ⟨bs_⟩
   have n2_ : A_ (((w44.setCell ⟨gb254, 0, none⟩ (.int .i64 t251)).setCell ⟨gb254, 1, none⟩ (.int .i64 t252)).heap[gb254]? = some (.cells #[.int .i64 t251, .int .i64 t252] 24 (0, 0))) := ⟨bs_⟩
   have n3_ : A_ (Below w.heap.size w ((w44.setCell ⟨gb254, 0, none⟩ (.int .i64 t251)).setCell ⟨gb254, 1, none⟩ (.int .i64 t252))) := ⟨hb_⟩
   (try clear BK248)
   (try clear BK249)
   (try clear BK254)
   (try clear HB)
   generalize ((w44.setCell ⟨gb254, 0, none⟩ (.int .i64 t251)).setCell ⟨gb254, 1, none⟩ (.int .i64 t252)) = w48 at n0_ n1_ n2_ n3_ ⊢
   have BK248 := n0_
   have BK249 := n1_
   have BK254 := n2_
   have HB := n3_
   clear n0_ n1_ n2_ n3_
   replace BK248 := m_ (d7_ BK248.out)
   replace BK249 := m_ (d7_ BK249.out)
   replace BK254 := m_ (d7_ BK254.out)
   replace HB := m_ (b8_ HB.out)
   refine start_ (n := 22) (S := fun w' => w'.cell? ⟨gb254, 0, none⟩ = some (.int .i64 t251) ∧ w'.cell? ⟨gb254, 1, none⟩ = some (.int .i64 t252) ∧ w'.cell? ⟨gb248, 0, none⟩ = some (.int .i64 a1_0) ∧ w'.cell? ⟨gb248, 1, none⟩ = some (.int .i64 a1_1)) (ds := []) (bm 22 0) (by kernel_rfl) rfl rfl ⟨(a0_ BK254.out 0).trans rfl, (a0_ BK254.out 1).trans rfl, (a0_ BK248.out 0).trans rfl, (a0_ BK248.out 1).trans rfl⟩ (fun hHeld => ?_); refine with_tabW promise_Fits.tab4 promise_Fits.bits4 (fun HT_ HW_ => ?_)
   generalize w48.drew = w49 at BK248 BK249 BK254 HB hHeld ⊢
   refine pu 0 (some 20) (bm 22 1) ?_
   refine pu 2 (some 22) (bm 22 5) ?_
   refine tk 1 (some 21) (bm 22 7) ?_
   refine tk 3 (some 23) (bm 22 15) ?_
   refine pu 4 (some 24) (bm 22 31) ?_
   refine pu 5 (some 25) (bm 22 63) ?_
   refine pv 6 (some 26) (bm 22 127) ?_
   refine pv 7 (some 27) (bm 22 255) ?_
   refine pv 8 (some 28) (bm 22 511) ?_
   refine pv 9 (some 29) (bm 22 1023) ?_
   refine pv 10 (some 30) (bm 22 2047) ?_
   refine pu 11 (some 31) (bm 22 4095) ?_
   refine pu 12 (some 32) (bm 22 8191) ?_
   refine pv 13 (some 33) (bm 22 16383) ?_
   refine pv 14 (some 34) (bm 22 32767) ?_
   refine pv 15 (some 35) (bm 22 65535) ?_
   refine pv 16 (some 36) (bm 22 131071) ?_
   refine pv 17 (some 37) (bm 22 262143) ?_
   refine pv 18 (some 38) (bm 22 524287) ?_
   refine pv 19 (some 39) (bm 22 1048575) ?_
   refine pu 20 (some 40) (bm 22 2097151) ?_
   refine pu 21 (some 6) (bm 22 4194303) ?_
   refine done_ (done_of HT_.out (by kernel_rfl)) ?_
   try go_wp2
   go_ret
   exact ⟨by first | rfl | (simp [b2_, b1_] <;> rfl) | (simp [*, b2_, b1_] <;> rfl), hb_⟩
 ·replace c5 := Bool.eq_false_iff.mpr c5
  subst c5
  have H1 : (some false) = some r := by rw [if_neg (show ¬ (false = true) by decide)] at H; exact H
  clear H
  have H := H1
  clear H1
  obtain rfl := Option.some.inj H
  go_enter Try.func29, Try.ntmps29
  go_wp2_with (first | ((with_reducible refine a3_ (N := 4) rfl ?_); refine bx 4 #[.int .i64 a1_0, .int .i64 a1_1] 24 ?_; intro gb248 hg w50 hbox hb; have BK248 := m_ (hbox); have GW248 := ge_ hg; have GE248 := ge_ hg; replace HB := hs_ hb; clear hb hbox hg) | ((with_reducible refine a3_ (N := 5) rfl ?_); refine bx 5 #[.int .i64 a2_0, .int .i64 a2_1, .int .i64 a2_2, .int .i64 a2_3, .int .i64 a2_4, .int .i64 a2_5] 29 ?_; intro gb249 hg w51 hbox hb; have BK249 := m_ (hbox); have GW249 := ge_ hg; have GE249 := ge_ hg; have NB248_249 := nl_ BK248 hg; have NB249_248 := nr_ BK248 hg; replace BK248 := bk_ BK248 hb; replace HB := hs_ hb; clear hb hbox hg; have hnb52 := NB249_248.out; have hnc52 := NB248_249.out; obtain ⟨hcz53_0, hcz53_1, hcz53_2, hcz53_3, hcz53_4, hcz53_5, hfz53_0, hfz53_1, hfz53_2, hfz53_3, hfz53_4, hfz53_5⟩ := bz6_ BK249) | ((with_reducible refine b3_ (f := 68) rfl ?_); refine goesL_ (some 10) rfl rfl Try.func68 (by kernel_rfl) rfl #[.agg #[.int .i64 a2_0, .int .i64 a2_1, .int .i64 a2_2, .int .i64 a2_3, .int .i64 a2_4, .int .i64 a2_5]] rfl Z0 ?_; (with_reducible refine (promise_right.calls a2_0 a2_1 a2_2 a2_3 a2_4 a2_5 false _ A4.out).mono ?_); rintro e w54 ⟨rfl, hb⟩; refine ⟨_, rfl, ?_⟩; replace BK248 := bk_ BK248 hb; replace BK249 := bk_ BK249 hb; replace HB := hs_ hb; (try clear hb); (try clear hb2); (try clear hk); (try clear hi)))
  go_ret
  exact ⟨by first | rfl | (simp [b2_, b1_] <;> rfl) | (simp [*, b2_, b1_] <;> rfl), hb_⟩
def promise_all.l0 : Nat → List (S52) → List (S41) → Int → Int → Option ((List (S52)))
 | 0, _, _, _, _ => none
 | k + 1, x3, x6, x7, x8 => if x8 < x7 then (if 0 ≤ x8 then (if x8 < (x6.length : Int) then (if x3.length + ((a8_ x6 x8).f4).length < 4398046511104 then (promise_all.l0 k (x3 ++ ((a8_ x6 x8).f4)) x6 x7 (wrap64 (x8 + 1))) else (none)) else (none)) else (none)) else (some x3)
def promise_all.f (k : Nat) (l0 : List (S41)) : Option ((List (S52))) := promise_all.l0 k ([] : List (S52)) l0 (l0.length : Int) 0
set_option maxHeartbeats 8000000 in
set_option maxRecDepth 100000 in
theorem promise_all.calls (k : Nat) (A0 : Option Addr) (c0 : Nat) (l0 : List (S41)) (r : List (S52)) (w : World) (hr0 : Kd.C k41 w A0 l0.length l0) (hc0 : l0.length ≤ c0) (h : promise_all.f k l0 = some r) :
  Calls Try.prog 69 #[.slice A0 l0.length c0] w fun e w' => ∃ v0_ : Value, e = .returned (v0_) ∧ Kd.R k52 52 w' w.heap.size (fun _ => True) v0_ r ∧ Below w.heap.size w w' := by
 have hu41 := Try.underlying41
 have HR0 := m_ hr0
 have HC0 := m_ hc0
 clear hr0 hc0
 have HB := m_ (Below.refl w.heap.size w)
 have H := h
 unfold promise_all.f at H
 clear h
 have H' := m_ H
 clear H
 go_enter Try.func69, Try.ntmps69
 go_wp2
 go_loopg [3, 8] k (fun kq v3 v8 w' => ∃ (x3_1 : List (S52)) (x8_1 : Int), v8 = .int .i64 x8_1 ∧ A_ (promise_all.l0 kq x3_1 l0 (l0.length : Int) x8_1 = some r) ∧ A_ (kq ≤ k) ∧ A_ (Kd.R k52 52 w' w.heap.size (fun _ => True) v3 x3_1) ∧ A_ (Below w.heap.size w w'))
 case atStart => exact ⟨(([] : List (S52))), (0), Z1, H', ⟨Nat.le_refl _⟩, ⟨by first | exact Kd.R_nil _ _ _ _ _ | exact Kd.N_nil _ _ _ _ _ | exact Kd.V_nil _ _ _ _ _ | exact Kd.Q_nil _ _ _ _ _ | exact Kd.S_nil _ _ _ _ _⟩, ⟨hb_⟩⟩
 case round =>
  clear H'
  obtain ⟨x3_1, x8_1, rfl, HA, HK1, HO_3, HB⟩ := hrel
  cases gk with
  | zero => exact absurd HA.out (by simp [promise_all.l0])
  | succ k1 =>
   have H := HA.out
   clear HA
   simp only [promise_all.l0] at H
   by_cases c2 : x8_1 < (l0.length : Int)
   ·rw [if_pos c2] at H
    have c2b0 : decide (x8_1 < (l0.length : Int)) = true := decide_eq_true c2
    clear c2
    by_cases c3 : 0 ≤ x8_1
    ·rw [if_pos c3] at H
     have c3b0 : decide (0 ≤ x8_1) = true := decide_eq_true c3
     clear c3
     by_cases c4 : x8_1 < (l0.length : Int)
     ·rw [if_pos c4] at H
      have c4b0 : decide (x8_1 < (l0.length : Int)) = true := decide_eq_true c4
      clear c4
      by_cases c5 : x3_1.length + ((a8_ l0 x8_1).f4).length < 4398046511104
      ·rw [if_pos c5] at H
       have LMc5 := m_ c5
       clear c5
       obtain ⟨y833, hy833⟩ : ∃ y_ : List (S52), y_ = (x3_1 ++ ((a8_ l0 x8_1).f4)) := ⟨_, rfl⟩
       replace H : (promise_all.l0 k1 y833 l0 (l0.length : Int) (wrap64 (x8_1 + 1))) = some r := by first | (rw [hy833]; with_reducible exact H) | (have H2_ := (Option.bind_some _ _).symm.trans H; rw [hy833]; with_reducible exact H2_) | (have H2_ := (Option.bind_some _ _).symm.trans H; with_reducible exact H2_) | with_reducible exact H | (rw [hy833]; exact H) | exact H
       have Ny833 := m_ hy833
       clear hy833
       have H' := m_ H
       clear H
       have p831 : 0 ≤ (x8_1 : Int) := of_decide_eq_true Z4
       have q831 : x8_1 < (l0.length : Int) := of_decide_eq_true Z4
       obtain ⟨ad831, A831_4, c831_4, e831, hx831_0, hx831_1, hx831_2, hx831_3, hx831_4, hl831_4, hi831_4⟩ := at_T41 HR0.out x8_1 p831 q831
       cases e831
       replace hx831_0 := cx_ hx831_0
       replace hx831_1 := cx_ hx831_1
       replace hx831_2 := cx_ hx831_2
       replace hx831_3 := cx_ hx831_3
       replace hx831_4 := cx_ hx831_4
       have HR831_4 := m_ hi831_4
       have HC831_4 := m_ hl831_4
       clear hi831_4 hl831_4
       replace p831 := eq_true p831
       replace q831 := eq_true q831
       go_wp2_with (first | ((with_reducible refine a3_ (N := 5) rfl ?_); refine bx 5 #[.int .i64 0, .int .i64 0, .int .i64 0, .bool false, .slice none 0 0] 41 ?_; intro gb832 hg w6 hbox hb; have BK832 := m_ (hbox); have GW832 := ge_ hg; have GE832 := ge_ hg; replace HO_3 := m_ (Kd.R_below (by (with_reducible repeat (first | apply Kd.R_alloc | apply Kd.R_drewN | apply Kd.R_drew)); exact HO_3.out) hb); replace HB := hs_ hb; clear hb hbox hg; obtain ⟨hcz7_0, hcz7_1, hcz7_2, hcz7_3, hcz7_4, hfz7_0, hfz7_1, hfz7_2, hfz7_3, hfz7_4⟩ := bz5_ BK832) | ((with_reducible refine gate_builtin (b := .append) (xs := #[.tmp 12, .tmp 14]) rfl ?_); at_builtin; refine Kd.R_append_rows k52 (w0 := w) w.heap.size rfl (.tmp 12) (.tmp 14) 39 52 (.agg #[(.int .i64 0), (.int .i64 0), (.int .u64 0), (.int .i64 0)]) 32 rfl Try.underlying39 info52 rfl (by decide) (by omega) u3 x3_1 ((a8_ l0 x8_1).f4) _ _ _ (fun _ => True) (fun _ => False) rfl rfl ?aO ?aR (fun _ _ h => h) (fun _ h => h.elim) ?aF ?aB ?aS ?aL ?_; (case aR => exact Kd.C_below HR831_4.out hb_); (case aB => exact hb_); (case aF => exact (fun _ _ => trivial)); (case aO => exact (by (with_reducible repeat (first | apply Kd.R_alloc | apply Kd.R_drewN | apply Kd.R_drew)); exact Kd.R_mono (Kd.R_far (p := ⟨gb832, 4, none⟩) (Kd.R_far (p := ⟨gb832, 3, none⟩) (Kd.R_far (p := ⟨gb832, 2, none⟩) (Kd.R_far (p := ⟨gb832, 1, none⟩) (Kd.R_far (p := ⟨gb832, 0, none⟩) (Kd.R_types HO_3.out BK832.out (by decide)) (fun _ hk => hk.2) (.int .i64 ((a8_ l0 x8_1).f0))) (fun _ hk => hk.2) (.int .i64 ((a8_ l0 x8_1).f1))) (fun _ hk => hk.2) (.int .i64 ((a8_ l0 x8_1).f2))) (fun _ hk => hk.2) (.bool ((a8_ l0 x8_1).f3))) (fun _ hk => hk.2) (.slice A831_4 ((a8_ l0 x8_1).f4).length c831_4)) (fun _ hk => trivial))); (case aS => exact (b7_ hb_)); (case aL => have := LMc5.out; omega); intro v834 w8 ho hb hg hat; rw [← Ny833.out] at ho; have HO835 := m_ (ho); replace BK832 := m_ (d9_ (g := gb832) (o := .cells #[.int .i64 ((a8_ l0 x8_1).f0), .int .i64 ((a8_ l0 x8_1).f1), .int .i64 ((a8_ l0 x8_1).f2), .bool ((a8_ l0 x8_1).f3), .slice A831_4 ((a8_ l0 x8_1).f4).length c831_4] 41 (0, 0)) (bt_ BK832) hg (Kd.R_ne HO_3.out BK832.out (by decide))); replace HB := m_ (hb); clear HO_3; clear ho hb hg hat))
       go_roundg k1
       case measure => have := HK1.out; omega
       case rel => exact ⟨(y833), (wrap64 (x8_1 + 1)), Z1, H', ⟨by have := HK1.out; omega⟩, ⟨by (with_reducible repeat (first | apply Kd.R_alloc | apply Kd.R_drewN | apply Kd.R_drew)); exact HO835.out⟩, ⟨hb_⟩⟩
      ·rw [if_neg c5] at H
       exact absurd H (by simp)
     ·rw [if_neg c4] at H
      exact absurd H (by simp)
    ·rw [if_neg c3] at H
     exact absurd H (by simp)
   ·rw [if_neg c2] at H
    have c2b0 : decide (x8_1 < (l0.length : Int)) = false := decide_eq_false c2
    clear c2
    obtain rfl := Option.some.inj H
    go_wp2
    go_ret
    exact ⟨_, by first | rfl | (simp [b2_, b1_] <;> rfl) | (simp [*, b2_, b1_] <;> rfl), by (with_reducible repeat (first | apply Kd.R_alloc | apply Kd.R_drewN | apply Kd.R_drew)); exact HO_3.out, hb_⟩
end Go.Proofs.Ytckhjehibjdjdaa.P
namespace Go.Proofs.Ytckhjehibjdjdaa.P
open Go.RowKit Go.Proofs.YtckhjehibjdjdaaW.PrintWords
open Go.Proofs.Ytckhjehibjdjdaa.Bits Go.Proofs.Ytckhjehibjdjdaa.Mp
theorem w_id {x : Int} (h : -9223372036854775808 ≤ x ∧ x ≤ 9223372036854775807) : wrap64 x = x := by unfold wrap64; omega
theorem rd51' (l : List S51) (i : Nat) (h : i < l.length) : a4_ l (i : Int) = l[i] := by
 simp [a4_, List.getD_eq_getElem?_getD, List.getElem?_eq_getElem h]
theorem rd52' (l : List S52) (i : Nat) (h : i < l.length) : a5_ l (i : Int) = l[i] := by
 simp [a5_, List.getD_eq_getElem?_getD, List.getElem?_eq_getElem h]
theorem rd41' (l : List S41) (i : Nat) (h : i < l.length) : a8_ l (i : Int) = l[i] := by
 simp [a8_, List.getD_eq_getElem?_getD, List.getElem?_eq_getElem h]
def freeOk (f : S51) : Bool := decide (0 ≤ f.f1) && decide (f.f1 < 18446744073709551616) && w64B f.f2
theorem eachI_nn {a b : Int} (ha : 0 ≤ a) (hb : 0 ≤ b) : 0 ≤ eachI a b := by
 unfold eachI; split
 ·omega
 ·exact Int.ediv_nonneg ha hb
theorem fitV_bd (g c mn mx m cp : Int) : 0 ≤ fitV g c mn mx m cp ∧ fitV g c mn mx m cp ≤ 16 := by
 unfold fitV
 split
 ·rename_i h
  have hg := h.1
  simp only [c9_, Bool.and_eq_true, decide_eq_true_eq] at hg
  have h1 := eachI_nn (popI_bd m).1 (show 0 ≤ g by omega)
  have h2 := eachI_nn h.2 (show 0 ≤ c by omega)
  unfold fitN
  omega
 ·omega
def roomS (g c mn mx : Int) (view : List S51) : Int := (view.map fun f => fitV g c mn mx f.f1 f.f2).sum
theorem room_l (g c mn mx : Int) (n : Nat) : ∀ (k : Nat) (view : List S51) (s : Int) (i : Nat), view.length ≤ 4398046511104 → (∀ f ∈ view, freeOk f = true) → i ≤ view.length → view.length - i = n → n + 1 ≤ k → 0 ≤ s → s ≤ 16 * i →
  pack_Room.l0 k s view (view.length : Int) (i : Int) g c mn mx = some (s + roomS g c mn mx (view.drop i)) := by
 induction n with
 | zero =>
  intro k view s i hl hv hi hn hk h0 hs
  obtain ⟨k, rfl⟩ : ∃ m, k = m + 1 := ⟨k - 1, by omega⟩
  rw [pack_Room.l0, if_neg (by omega), List.drop_eq_nil_of_le (by omega)]
  simp [roomS]
 | succ n ih =>
  intro k view s i hl hv hi hn hk h0 hs
  obtain ⟨k, rfl⟩ : ∃ m, k = m + 1 := ⟨k - 1, by omega⟩
  have hil : i < view.length := by omega
  have hf := hv _ (List.getElem_mem hil)
  simp only [freeOk, w64B, Bool.and_eq_true, decide_eq_true_eq] at hf
  have hb := fitV_bd g c mn mx (view[i]).f1 (view[i]).f2
  have e1 : (i : Int) + 1 = ((i + 1 : Nat) : Int) := by omega
  have hfit : shape_Fits.f g c mn mx (view[i]).f0.f0 (view[i]).f0.f1 (view[i]).f1 (view[i]).f2 = some (fitV g c mn mx (view[i]).f1 (view[i]).f2) := by
   unfold shape_Fits.f; rw [if_pos ⟨hf.1.1, hf.1.2, hf.2.2⟩]
  rw [pack_Room.l0, if_pos (by omega), if_pos (by omega), if_pos (by omega), rd51' view i hil, hfit, Option.bind_some, w_id (by omega), w_id (by omega), e1,
   ih k view _ (i + 1) hl hv (by omega) (by omega) (by omega) (by omega) (by omega), List.drop_eq_getElem_cons hil]
  simp only [roomS, List.map_cons, List.sum_cons]
  congr 1
  omega
theorem room_eq (k : Nat) (view : List S51) (g c mn mx : Int) (hk : view.length + 1 ≤ k) (hl : view.length ≤ 4398046511104) (hv : ∀ f ∈ view, freeOk f = true) :
  pack_Room.f k view g c mn mx = some (roomS g c mn mx view) := by
 have := room_l g c mn mx view.length k view 0 0 hl hv (by omega) (by omega) hk (by omega) (by omega)
 rw [List.drop_zero] at this
 unfold pack_Room.f
 rw [show ((0 : Nat) : Int) = 0 from rfl] at this
 rw [this]; simp
def rightB (m g c mn mx : Int) : Bool := c9_ g c mn mx && decide (1 ≤ m) && decide (m ≤ 16)
theorem right_eq (q m g c mn mx : Int) : promise_right.f q m g c mn mx = some (rightB m g c mn mx) := by
 unfold promise_right.f shape_Check.f rightB
 by_cases h : c9_ g c mn mx = true
 ·rw [if_pos h, Option.bind_some, if_pos rfl, h]
  by_cases h1 : 1 ≤ m
  ·rw [if_pos (by omega), decide_eq_true h1]; simp
  ·rw [if_neg (by omega), decide_eq_false h1]; simp
 ·rw [if_neg h, Option.bind_some, if_neg (by decide)]
  simp [h]
def fitsB (view : List S51) (lg lc m g c mn mx : Int) : Bool := rightB m g c mn mx && decide (g * m ≤ lg) && decide (c * m ≤ lc) && decide (m ≤ roomS g c mn mx view)
theorem mul_bd {a b A B : Int} (ha : 0 ≤ a) (hA : a ≤ A) (hb : 0 ≤ b) (hB : b ≤ B) : 0 ≤ a * b ∧ a * b ≤ A * B :=
 ⟨Int.mul_nonneg ha hb, Int.mul_le_mul hA hB hb (by omega)⟩
theorem fits_eq (k : Nat) (view : List S51) (lg lc q m g c mn mx : Int) (hk : view.length + 1 ≤ k) (hl : view.length ≤ 4398046511104) (hv : ∀ f ∈ view, freeOk f = true) :
  promise_Fits.f k view lg lc q m g c mn mx = some (fitsB view lg lc m g c mn mx) := by
 unfold promise_Fits.f fitsB
 rw [right_eq, Option.bind_some]
 by_cases hr : rightB m g c mn mx = true
 ·have hr' := hr
  simp only [rightB, Bool.and_eq_true, decide_eq_true_eq] at hr'
  have hg := hr'.1.1
  have hg' := hg
  simp only [c9_, Bool.and_eq_true, decide_eq_true_eq] at hg'
  have b1 := mul_bd (a := g) (b := m) (A := 16) (B := 16) (by omega) (by omega) (by omega) (by omega)
  have b2 := mul_bd (a := c) (b := m) (A := 1024) (B := 16) (by omega) (by omega) (by omega) (by omega)
  have hu : shape_Units.f g c mn mx m = some (g * m, c * m, 0) := by
   unfold shape_Units.f shape_Check.f
   rw [if_pos hg, Option.bind_some, if_pos rfl, if_neg (by omega), if_neg (by omega), w_id (by omega), w_id (by omega)]
  rw [if_pos hr, hu, Option.bind_some, hr]
  simp only [Bool.true_and]
  by_cases h1 : g * m ≤ lg
  ·rw [if_pos h1, decide_eq_true h1]
   by_cases h2 : c * m ≤ lc
   ·rw [if_pos h2, decide_eq_true h2, room_eq k view g c mn mx hk hl hv, Option.bind_some]
    simp
   ·rw [if_neg h2, decide_eq_false h2]; simp
  ·rw [if_neg h1, decide_eq_false h1]; simp
 ·rw [if_neg hr]
  simp [hr]
theorem all_l (n : Nat) : ∀ (k : Nat) (ends : List S41) (acc : List S52) (i : Nat), ends.length ≤ 1000000 → i ≤ ends.length → ends.length - i = n → n + 1 ≤ k → acc.length + ((ends.drop i).flatMap fun h => h.f4).length < 4398046511104 →
  promise_all.l0 k acc ends (ends.length : Int) (i : Int) = some (acc ++ (ends.drop i).flatMap fun h => h.f4) := by
 induction n with
 | zero =>
  intro k ends acc i hl hi hn hk hs
  obtain ⟨k, rfl⟩ : ∃ m, k = m + 1 := ⟨k - 1, by omega⟩
  rw [promise_all.l0, if_neg (by omega), List.drop_eq_nil_of_le (by omega)]
  simp
 | succ n ih =>
  intro k ends acc i hl hi hn hk hs
  obtain ⟨k, rfl⟩ : ∃ m, k = m + 1 := ⟨k - 1, by omega⟩
  have hil : i < ends.length := by omega
  have e1 : (i : Int) + 1 = ((i + 1 : Nat) : Int) := by omega
  rw [List.drop_eq_getElem_cons hil] at hs ⊢
  simp only [List.flatMap_cons, List.length_append] at hs
  rw [promise_all.l0, if_pos (by omega), if_pos (by omega), if_pos (by omega), rd41' ends i hil, if_pos (by omega), w_id (by omega), e1, ih k ends _ (i + 1) hl (by omega) (by omega) (by omega) (by rw [List.length_append]; omega)]
  rw [List.flatMap_cons, List.append_assoc]
theorem all_eq (k : Nat) (ends : List S41) (hk : ends.length + 1 ≤ k) (hl : ends.length ≤ 1000000) (hs : (ends.flatMap fun h => h.f4).length < 4398046511104) : promise_all.f k ends = some (ends.flatMap fun h => h.f4) := by
 have := all_l ends.length k ends [] 0 hl (by omega) (by omega) hk (by simpa using hs)
 rw [List.drop_zero] at this
 unfold promise_all.f
 exact this
def goE (q m g c mn mx : Int) : List S41 → Int → List S51 → Int × Int → Int
 | [], t, view, left => if fitsB view left.1 left.2 m g c mn mx = true then t else 1073741825
 | h :: l, t, view, left =>
  if h.f2 > t then
   if fitsB view left.1 left.2 m g c mn mx = true then t
   else if h.f2 ≥ 1073741825 then 1073741825
   else goE q m g c mn mx l h.f2 (turned51 moreE moreF view h.f4).1 (addL (decide (h.f1 = q)) left h.f4)
  else goE q m g c mn mx l t (turned51 moreE moreF view h.f4).1 (addL (decide (h.f1 = q)) left h.f4)
def skey41 (h : S41) : Int := h.f2
def earliestB (now : Int) (view : List S51) (lg lc : Int) (ends : List S41) (q m g c mn mx : Int) : Int × Int :=
 if now < 0 ∨ now > 1073741824 ∨ rightB m g c mn mx = false then (0, 1)
 else if (turned51 moreE moreF view (ends.flatMap fun h => h.f4)).2 ≠ 0 then (0, (turned51 moreE moreF view (ends.flatMap fun h => h.f4)).2)
 else (goE q m g c mn mx (isort skey41 ends) now view (lg, lc), 0)
def okE (view : List S51) (ends : List S41) : Bool := decide (ends.length ≤ 1000) && spotsOk view (ends.flatMap fun h => h.f4) && view.all freeOk && (ends.flatMap fun h => h.f4).all maskOk && decide ((ends.flatMap fun h => h.f4).length < 4000000000)
def promise_Earliest.f (now : Int) (view : List S51) (lg lc : Int) (ends : List S41) (q m g c mn mx : Int) : Option (Int × Int) := if okE view ends = true then some (earliestB now view lg lc ends q m g c mn mx) else none
theorem or_u64 {a b : Int} (ha : 0 ≤ a ∧ a < 18446744073709551616) (hb : 0 ≤ b ∧ b < 18446744073709551616) : 0 ≤ Go.bits .or .u64 a b ∧ Go.bits .or .u64 a b < 18446744073709551616 := by
 obtain ⟨x, rfl⟩ := Int.eq_ofNat_of_zero_le ha.1
 obtain ⟨y, rfl⟩ := Int.eq_ofNat_of_zero_le hb.1
 rw [bits_or_u64_nat x y (by omega) (by omega)]
 have := Nat.or_lt_two_pow (x := x) (y := y) (n := 64) (by omega) (by omega)
 omega
theorem w64_wrap (x : Int) : w64B (wrap64 x) = true := by unfold w64B wrap64; simp; omega
def viewOk (view : List S51) : Prop := view.length < 4398046511104 ∧ (∀ f ∈ view, freeOk f = true) ∧ ∀ f ∈ view, (w64B f.f0.f0 && w64B f.f0.f1) = true
theorem moreF_ok {f : S51} {s : S52} (hf : freeOk f = true) (hs : maskOk s = true) : freeOk (moreF f s) = true := by
 simp only [freeOk, maskOk, Bool.and_eq_true, decide_eq_true_eq] at *
 have := or_u64 hf.1 hs
 exact ⟨this, w64_wrap _⟩
theorem turned_ok (ix : Int → Int → Option Int) : ∀ (slots : List S52) (out : List S51), viewOk out → (∀ s ∈ slots, maskOk s = true) → (∀ a b k, ix a b = some k → 0 ≤ k ∧ k < out.length) → viewOk (turnedL moreE moreF ix out slots).1
 | [], out, h, _, _ => h
 | s :: ss, out, h, hs, hix => by
  have h0 : viewOk [] := ⟨by simp, by simp, by simp⟩
  rw [turnedL]
  split
  ·exact h0
  ·cases hk : ix s.f0.f0 s.f0.f1 with
   | none => exact h0
   | some k =>
    simp only
    split
    ·have hkb := hix _ _ _ hk
     obtain ⟨kn, rfl⟩ := Int.eq_ofNat_of_zero_le hkb.1
     have hkl : kn < out.length := by omega
     rw [Int.toNat_natCast, rd51' out kn hkl]
     have hm := List.getElem_mem hkl
     refine turned_ok ix ss _ ⟨by rw [List.length_set]; exact h.1, fun f hf => ?_, fun f hf => ?_⟩ (fun x hx => hs x (by simp [hx])) (fun a b k hh => by rw [List.length_set]; exact hix a b k hh)
     ·rcases List.mem_or_eq_of_mem_set hf with hf | rfl
      ·exact h.2.1 f hf
      ·exact moreF_ok (h.2.1 _ hm) (hs s (by simp))
     ·rcases List.mem_or_eq_of_mem_set hf with hf | rfl
      ·exact h.2.2 f hf
      ·exact h.2.2 out[kn] hm
    ·exact h0
theorem turned51_ok {view : List S51} {slots : List S52} (h : viewOk view) (hs : ∀ s ∈ slots, maskOk s = true) : viewOk (turned51 moreE moreF view slots).1 :=
 turned_ok _ slots view h hs (fun a b k hh => ixS_bd view view.length a b k hh)
theorem more_eq {view : List S51} {slots : List S52} (h : viewOk view) (hs : ∀ s ∈ slots, (w64B s.f0.f0 && w64B s.f0.f1) = true) : pack_More.f view slots = some (turned51 moreE moreF view slots) := by
 unfold pack_More.f
 rw [if_pos]
 unfold spotsOk
 rw [decide_eq_true h.1, List.all_eq_true.2 h.2.2, List.all_eq_true.2 hs]; rfl
end Go.Proofs.Ytckhjehibjdjdaa.P
namespace Go.Proofs.Ytckhjehibjdjdaa.P
open Go.RowKit Go.Shelf Go.Proofs.YtckhjehibjdjdaaW.PrintWords Go.Proofs.YtckhjehibjdjdaaW.PrintLast Go.Proofs.YtckhjehibjdjdaaW.PrintMore
attribute [local go_sem] Oper.semAt_some
def enc51 (x : S51) : List Value := [.int .i64 x.f0.f0, .int .i64 x.f0.f1, .int .u64 x.f1, .int .i64 x.f2]
theorem row51 {W : World} {base g n cap i : Nat} {ok : Nat → Prop} {xs : List S51} {x : S51} (h : Kd.R k51 51 W base ok (.slice (some ⟨g, 0, none⟩) n cap) xs) (hx : xs[i]? = some x) :
  W.cell? ⟨g, i * 4, none⟩ = some (.int .i64 x.f0.f0) ∧ W.cell? ⟨g, i * 4 + 1, none⟩ = some (.int .i64 x.f0.f1) ∧ W.cell? ⟨g, i * 4 + 2, none⟩ = some (.int .u64 x.f1) ∧ W.cell? ⟨g, i * 4 + 3, none⟩ = some (.int .i64 x.f2) := by
 obtain ⟨hn, _, hC⟩ := Kd.R_reads' h
 have hi : i < xs.length := (List.getElem?_eq_some_iff.1 hx).1
 obtain ⟨ad, e0, hc⟩ := hC.2.2 (by omega)
 cases e0
 obtain ⟨c, hl, hK, hcell⟩ := hc i x hx
 obtain rfl := k51_open hK
 have hsz : k51.sz = 4 := rfl
 rw [hsz] at hcell
 simp only [e2_, Nat.zero_add] at hcell
 exact ⟨hcell 0 _ rfl, hcell 1 _ rfl, hcell 2 _ rfl, hcell 3 _ rfl⟩
theorem put51 {W : World} {base g n cap : Nat} {ok : Nat → Prop} {xs : List S51} (h : Kd.R k51 51 W base ok (.slice (some ⟨g, 0, none⟩) n cap) xs) (i : Nat) (hi : i < n) (x : S51) :
  Kd.R k51 51 (W.setCells g (i * 4) (enc51 x)) base ok (.slice (some ⟨g, 0, none⟩) n cap) (xs.set i x) ∧ W.grownBy (W.setCells g (i * 4) (enc51 x)) (some g) := by
 obtain ⟨hn, _, hC⟩ := Kd.R_reads' h
 have hsz : k51.sz = 4 := rfl
 obtain ⟨c0, c1, c2, c3⟩ := row51 h (List.getElem?_eq_getElem (show i < xs.length by omega))
 have := Kd.R_seg h (i : Int) (by omega) (by omega) (c := enc51 xs[i]) (seg := enc51 x) (j := 0) rfl (by
  intro j u hu
  rw [Int.toNat_natCast, hsz]
  match j, hu with
  | 0, hu => cases hu; exact c0
  | 1, hu => cases hu; exact c1
  | 2, hu => cases hu; exact c2
  | 3, hu => cases hu; exact c3
  | j + 4, hu => simp [enc51] at hu) (by rw [hsz]; simp [enc51]) (x' := x) (okp := fun _ => False) (by
   have := k51_mkM W base (fun _ => False) x
   simpa [enc51] using this) (fun _ h => h.elim)
 rw [Int.toNat_natCast, hsz, Nat.add_zero] at this
 exact this
def T86 : Bool × List (List Nat × List Nat) := (true, [([], []), ([], []), ([], []), ([1, 2], [1, 2]), ([3], [3]), ([0, 4], [0, 4]), ([], []), ([], []), ([], []), ([7, 8], [7, 8]), ([9], [9]), ([6, 10, 5], [6, 10]), ([5, 11, 11], [5, 11]), ([12], [12]), ([13, 12, 0, 1, 2, 3, 4, 5, 6, 7, 8, 9, 10, 11, 12, 13], [13])])
def B86 : List Nat := [0, 0, 0, 6, 14, 31, 0, 0, 0, 384, 896, 2047, 4095, 8191, 16383]
theorem tab86 : rtab .any (opsOf Try.f86 1) = T86 := by kernel_rfl
theorem bits86 : waitsOk T86.2 B86 = true := by kernel_rfl
set_option maxHeartbeats 8000000 in
set_option maxRecDepth 100000 in
theorem lessPlace (base : Nat) (ok : Nat → Prop) (g gs gl n c i j : Nat) (s0_ s1_ s2_ s3_ : Int) (xs : List S51) (x y : S51) (W : World) (hgs : W.heap[gs]? = some (.cells #[.int .i64 s0_, .int .i64 s1_, .int .i64 s2_, .int .i64 s3_] 27 (0, 0))) (hgl : W.heap[gl]? = some (.cells #[.slice (some ⟨g, 0, none⟩) n c] 22 (0, 0)))
  (hrw : Kd.R k51 51 W base ok (.slice (some ⟨g, 0, none⟩) n c) xs) (hx : xs[i]? = some x) (hy : xs[j]? = some y) (hn : n ≤ 1000000) (fx : freeOk x = true) (fy : freeOk y = true) :
  Calls Try.prog 86 #[.int .i64 i, .int .i64 j, .pointer (some ⟨gs, 0, none⟩), .pointer (some ⟨gl, 0, none⟩)] W fun e w' => e = .returned (.bool (decide (fitV s0_ s1_ s2_ s3_ x.f1 x.f2 > fitV s0_ s1_ s2_ s3_ y.f1 y.f2))) ∧ Below W.heap.size W w' := by
 have hu27 := Try.underlying27
 have hu22 := Try.underlying22
 have hu51 := Try.underlying51
 have hl := (Kd.R_reads' hrw).1
 have hib : i < xs.length := (List.getElem?_eq_some_iff.1 hx).1
 have hjb : j < xs.length := (List.getElem?_eq_some_iff.1 hy).1
 have i0 : (i : Int) < n := by omega
 have j0 : (j : Int) < n := by omega
 have fx' : 0 ≤ x.f1 ∧ x.f1 < 18446744073709551616 ∧ x.f2 ≤ 9223372036854775807 := by simp only [freeOk, w64B, Bool.and_eq_true, decide_eq_true_eq] at fx; omega
 have fy' : 0 ≤ y.f1 ∧ y.f1 < 18446744073709551616 ∧ y.f2 ≤ 9223372036854775807 := by simp only [freeOk, w64B, Bool.and_eq_true, decide_eq_true_eq] at fy; omega
 have HFX := m_ (show shape_Fits.f s0_ s1_ s2_ s3_ x.f0.f0 x.f0.f1 x.f1 x.f2 = some (fitV s0_ s1_ s2_ s3_ x.f1 x.f2) from if_pos fx')
 have HFY := m_ (show shape_Fits.f s0_ s1_ s2_ s3_ y.f0.f0 y.f0.f1 y.f1 y.f2 = some (fitV s0_ s1_ s2_ s3_ y.f1 y.f2) from if_pos fy')
 have HGS := m_ (show W.drew.heap[gs]? = _ from hgs)
 have HGL := m_ (show W.drew.heap[gl]? = _ from hgl)
 have HRW := m_ (Kd.R_drew hrw)
 have HX := m_ hx
 have HY := m_ hy
 have HB := m_ (b8_ (Below.refl W.heap.size W))
 have HT_ := m_ tab86
 have HW_ := m_ bits86
 clear hgs hgl hrw hx hy fx fy fx' fy' hib hjb hl
 go_enter Try.func86, Try.ntmps86
 go_wp2
 refine start_ (n := 15) (S := fun w' => w'.cell? ⟨gs, 0, none⟩ = some (.int .i64 s0_) ∧ w'.cell? ⟨gs, 1, none⟩ = some (.int .i64 s1_) ∧ w'.cell? ⟨gs, 2, none⟩ = some (.int .i64 s2_) ∧ w'.cell? ⟨gs, 3, none⟩ = some (.int .i64 s3_) ∧ w'.cell? ⟨gl, 0, none⟩ = some (.slice (some ⟨g, 0, none⟩) n c) ∧ w'.cell? ⟨g, i * 4, none⟩ = some (.int .i64 x.f0.f0) ∧ w'.cell? ⟨g, i * 4 + 1, none⟩ = some (.int .i64 x.f0.f1) ∧ w'.cell? ⟨g, i * 4 + 2, none⟩ = some (.int .u64 x.f1) ∧ w'.cell? ⟨g, i * 4 + 3, none⟩ = some (.int .i64 x.f2) ∧ w'.cell? ⟨g, j * 4, none⟩ = some (.int .i64 y.f0.f0) ∧ w'.cell? ⟨g, j * 4 + 1, none⟩ = some (.int .i64 y.f0.f1) ∧ w'.cell? ⟨g, j * 4 + 2, none⟩ = some (.int .u64 y.f1) ∧ w'.cell? ⟨g, j * 4 + 3, none⟩ = some (.int .i64 y.f2)) (ds := []) (bm 15 0) (by kernel_rfl) rfl rfl ⟨(a0_ HGS.out 0).trans rfl, (a0_ HGS.out 1).trans rfl, (a0_ HGS.out 2).trans rfl, (a0_ HGS.out 3).trans rfl, (a0_ HGL.out 0).trans rfl, (row51 HRW.out HX.out).1, (row51 HRW.out HX.out).2.1, (row51 HRW.out HX.out).2.2.1, (row51 HRW.out HX.out).2.2.2, (row51 HRW.out HY.out).1, (row51 HRW.out HY.out).2.1, (row51 HRW.out HY.out).2.2.1, (row51 HRW.out HY.out).2.2.2⟩ (fun hHeld => ?_)
 generalize W.drew = w0 at HGS HGL HRW HB hHeld ⊢
 refine tk 0 (some 7) (bm 15 1) ?_
 refine tk 1 (some 8) (bm 15 3) ?_
 refine pu 2 (some 9) (bm 15 7) ?_
 refine pu 3 (some 10) (bm 15 15) ?_
 refine tk 4 (some 11) (bm 15 31) ?_
 refine tk 6 (some 13) (bm 15 95) ?_
 refine tk 7 (some 14) (bm 15 223) ?_
 refine pu 8 (some 15) (bm 15 479) ?_
 refine pu 9 (some 16) (bm 15 991) ?_
 refine tk 10 (some 17) (bm 15 2015) ?_
 refine one_ (i := 5) (N := some 12) (bm 15 2047) rfl rfl (one_of HT_.out (by kernel_rfl)) (by decide) (fun K hK => ?_)
 refine goes_ Try.func87 (by kernel_rfl) rfl #[.agg #[.int .i64 s0_, .int .i64 s1_, .int .i64 s2_, .int .i64 s3_], .agg #[.int .i64 x.f0.f0, .int .i64 x.f0.f1, .int .u64 x.f1, .int .i64 x.f2]] (by rfl) rfl rfl Z11 ?_
 refine (shape_Fits.calls s0_ s1_ s2_ s3_ x.f0.f0 x.f0.f1 x.f1 x.f2 _ _ HFX.out).mono ?_
 rintro e w1 ⟨rfl, hb⟩
 refine ⟨_, rfl, ?_⟩
 replace HGS := m_ (a1_ HGS.out hb)
 replace HGL := m_ (a1_ HGL.out hb)
 replace HRW := m_ (Kd.R_below HRW.out hb)
 replace HB := m_ (b0_ HB.out hb)
 clear hb
 refine hK.out _ _ ⟨(a0_ HGS.out 0).trans rfl, (a0_ HGS.out 1).trans rfl, (a0_ HGS.out 2).trans rfl, (a0_ HGS.out 3).trans rfl, (a0_ HGL.out 0).trans rfl, (row51 HRW.out HX.out).1, (row51 HRW.out HX.out).2.1, (row51 HRW.out HX.out).2.2.1, (row51 HRW.out HX.out).2.2.2, (row51 HRW.out HY.out).1, (row51 HRW.out HY.out).2.1, (row51 HRW.out HY.out).2.2.1, (row51 HRW.out HY.out).2.2.2⟩ (fun hHeld => ?_)
 clear hK K
 refine norm_ (a' := ?_) ?_ ?_
 rotate_left
 ·show Act.put _ (some 12) _ = _
  simp only [Act.put, List.setIfInBounds_toArray, List.set_cons_zero, List.set_cons_succ, i64_w, i32_w]
  rfl
 refine one_ (i := 11) (N := some 18) (bm 15 4095) rfl rfl (one_of HT_.out (by kernel_rfl)) (by decide) (fun K hK => ?_)
 refine goes_ Try.func87 (by kernel_rfl) rfl #[.agg #[.int .i64 s0_, .int .i64 s1_, .int .i64 s2_, .int .i64 s3_], .agg #[.int .i64 y.f0.f0, .int .i64 y.f0.f1, .int .u64 y.f1, .int .i64 y.f2]] (by rfl) rfl rfl Z11 ?_
 refine (shape_Fits.calls s0_ s1_ s2_ s3_ y.f0.f0 y.f0.f1 y.f1 y.f2 _ _ HFY.out).mono ?_
 rintro e w2 ⟨rfl, hb⟩
 refine ⟨_, rfl, ?_⟩
 replace HGS := m_ (a1_ HGS.out hb)
 replace HGL := m_ (a1_ HGL.out hb)
 replace HRW := m_ (Kd.R_below HRW.out hb)
 replace HB := m_ (b0_ HB.out hb)
 clear hb
 refine hK.out _ _ ⟨(a0_ HGS.out 0).trans rfl, (a0_ HGS.out 1).trans rfl, (a0_ HGS.out 2).trans rfl, (a0_ HGS.out 3).trans rfl, (a0_ HGL.out 0).trans rfl, (row51 HRW.out HX.out).1, (row51 HRW.out HX.out).2.1, (row51 HRW.out HX.out).2.2.1, (row51 HRW.out HX.out).2.2.2, (row51 HRW.out HY.out).1, (row51 HRW.out HY.out).2.1, (row51 HRW.out HY.out).2.2.1, (row51 HRW.out HY.out).2.2.2⟩ (fun hHeld => ?_)
 clear hK K
 refine norm_ (a' := ?_) ?_ ?_
 rotate_left
 ·show Act.put _ (some 18) _ = _
  simp only [Act.put, List.setIfInBounds_toArray, List.set_cons_zero, List.set_cons_succ, i64_w, i32_w]
  rfl
 refine one_ (i := 12) (N := some 19) (bm 15 8191) rfl rfl (one_of HT_.out (by kernel_rfl)) (by decide) (fun K hK => ?_)
 refine goes_ Try.func73 (by kernel_rfl) rfl #[.int .i64 (fitV s0_ s1_ s2_ s3_ x.f1 x.f2), .int .i64 (fitV s0_ s1_ s2_ s3_ y.f1 y.f2)] (by rfl) rfl rfl Z11 ?_
 refine (cmp_any _ _ _).mono ?_
 rintro e w9 ⟨rfl, rfl⟩
 refine ⟨_, rfl, ?_⟩
 refine hK.out _ _ ⟨(a0_ HGS.out 0).trans rfl, (a0_ HGS.out 1).trans rfl, (a0_ HGS.out 2).trans rfl, (a0_ HGS.out 3).trans rfl, (a0_ HGL.out 0).trans rfl, (row51 HRW.out HX.out).1, (row51 HRW.out HX.out).2.1, (row51 HRW.out HX.out).2.2.1, (row51 HRW.out HX.out).2.2.2, (row51 HRW.out HY.out).1, (row51 HRW.out HY.out).2.1, (row51 HRW.out HY.out).2.2.1, (row51 HRW.out HY.out).2.2.2⟩ (fun hHeld => ?_)
 clear hK K
 refine norm_ (a' := ?_) ?_ ?_
 rotate_left
 ·show Act.put _ (some 19) _ = _
  simp only [Act.put, List.setIfInBounds_toArray, List.set_cons_zero, List.set_cons_succ, i64_w, i32_w]
  rfl
 refine pu 13 (some 20) (bm 15 16383) ?_
 refine pu 14 (some 6) (bm 15 32767) ?_
 refine done_ (done_of HT_.out (by kernel_rfl)) ?_
 go_wp2
 go_ret
 refine ⟨?_, HB.out⟩
 generalize fitV s0_ s1_ s2_ s3_ x.f1 x.f2 = a
 generalize fitV s0_ s1_ s2_ s3_ y.f1 y.f2 = b
 have : decide (0 < cmpI a b) = decide (b < a) := by
  unfold cmpI
  by_cases h : a < b
  ·rw [if_pos h, decide_eq_false (by omega), decide_eq_false (by omega)]
  ·rw [if_neg h]
   by_cases h2 : a = b
   ·subst h2; simp
   ·split <;> simp <;> omega
 simp [this]
end Go.Proofs.Ytckhjehibjdjdaa.P
namespace Go.Proofs.Ytckhjehibjdjdaa.P
open Go.RowKit Go.Shelf Go.Lib Go.Proofs.YtckhjehibjdjdaaW.PrintWords Go.Proofs.YtckhjehibjdjdaaW.PrintLast Go.Proofs.YtckhjehibjdjdaaW.PrintMore
attribute [local go_sem] Oper.semAt_some
noncomputable def freeT : TypeInfo := (Try.prog.info? 22).get (by kernel_rfl)
noncomputable def freeE : TypeInfo := (Try.prog.info? 51).get (by kernel_rfl)
theorem freeT_is : Try.prog.info? 22 = some freeT := by kernel_rfl
theorem freeE_is : Try.prog.info? 51 = some freeE := by kernel_rfl
theorem freeT_desc : freeT.desc = .slice 51 := by kernel_rfl
theorem freeE_size : freeE.size = 4 := by kernel_rfl
theorem free_swapper (n : Nat) (h2 : 2 ≤ n) : swapperK n freeE 25 = 9 := by
 have a : freeE.hasPointers = false := by kernel_rfl
 have b : freeE.bytes = 32 := by kernel_rfl
 have c : (n == 0) = false := by simp; omega
 have d : (n == 1) = false := by simp; omega
 simp [swapperK, a, b, c, d]
theorem swap_free (E : SE) (hsf : E.sf = 130) (hsb : E.sb = #[.slice (some ⟨E.g, 0, none⟩) E.n E.cap, typeHandle Try.prog 51]) (W : World) (xs : List S51) (i j : Nat) (x y : S51) (hr : E.RW W xs) (hx : xs[i]? = some x) (hy : xs[j]? = some y) :
  ∃ W', (callFunc E.sf (#[.int .i64 i, .int .i64 j] ++ E.sb)).run Try.prog W = .ok (.value (.tuple #[])) W' ∧ E.RW W' ((xs.set i y).set j x) ∧ W.grownBy W' (some E.g) := by
 have hl := hr.len
 have hi : i < xs.length := (List.getElem?_eq_some_iff.1 hx).1
 have hj : j < xs.length := (List.getElem?_eq_some_iff.1 hy).1
 have hx' := fun args W => run_callFunc_extern (P := Try.prog) Try.func130 (by kernel_rfl) (by kernel_rfl) (by kernel_rfl) (e := Extern.ReflectliteSwapper.swap false) (by kernel_rfl) args W
 obtain ⟨x0, x1, x2, x3⟩ := row51 hr.row hx
 obtain ⟨y0, y1, y2, y3⟩ := row51 hr.row hy
 obtain ⟨g', cap', cur, hv, _, _, hh⟩ := own51 hr.row (by omega)
 injection hv with ha _ _
 injection ha with ha
 injection ha with ha
 rw [← ha] at hh
 have hrun := run_swap_cells (P := Try.prog) false 51 freeE freeE_is (fun _ => by kernel_rfl) E.g 0 E.n E.cap i j (by omega) (by omega) (enc51 x) (enc51 y) freeE_size.symm freeE_size.symm (by intro v hv; simp [enc51] at hv; rcases hv with rfl | rfl | rfl | rfl <;> rfl) (by intro v hv; simp [enc51] at hv; rcases hv with rfl | rfl | rfl | rfl <;> rfl) W
  (by
   intro k v hk
   rw [freeE_size, Nat.zero_add]
   match k, hk with
   | 0, hk => cases hk; exact x0
   | 1, hk => cases hk; exact x1
   | 2, hk => cases hk; exact x2
   | 3, hk => cases hk; exact x3
   | k + 4, hk => simp [enc51] at hk)
  (by
   intro k v hk
   rw [freeE_size, Nat.zero_add]
   match k, hk with
   | 0, hk => cases hk; exact y0
   | 1, hk => cases hk; exact y1
   | 2, hk => cases hk; exact y2
   | 3, hk => cases hk; exact y3
   | k + 4, hk => simp [enc51] at hk)
  (fun k _ => a2_ hh _) (fun k _ => a2_ hh _)
 rw [freeE_size, Nat.zero_add, Nat.zero_add] at hrun
 have p1 := put51 hr.row i (by omega) y
 have p2 := put51 p1.1 j (by omega) x
 refine ⟨_, ?_, ⟨b4_ hr.grown (b4_ p1.2 p2.2), p2.1, fun f hf => ?_⟩, b4_ p1.2 p2.2⟩
 ·rw [hsf, hsb, show (#[Value.int .i64 (i : Int), Value.int .i64 (j : Int)] ++ #[Value.slice (some ⟨E.g, 0, none⟩) E.n E.cap, typeHandle Try.prog 51]) = #[.int .i64 i, .int .i64 j, .slice (some ⟨E.g, 0, none⟩) E.n E.cap, typeHandle Try.prog 51] from rfl, hx', hrun]
  rfl
 ·rcases List.mem_or_eq_of_mem_set hf with hf | rfl
  ·rcases List.mem_or_eq_of_mem_set hf with hf | rfl
   ·exact hr.mem f hf
   ·exact hr.mem _ (List.mem_of_getElem? hy)
  ·exact hr.mem _ (List.mem_of_getElem? hx)
noncomputable def stableW (p : Option Addr) (n c : Nat) (w : World) : World :=
 (w.alloc (.cells #[.slice p n c] 22)).alloc (.cells #[.pointer (some ⟨Try.prog.globals.size, 22, none⟩), .pointer (some ⟨w.heap.size, 0, none⟩), .int .u64 151] 159)
theorem stableW_below (p : Option Addr) (n c : Nat) (w : World) : Below w.heap.size w (stableW p n c w) := b5_ (b5_ (Below.refl _ _) _) _
set_option maxHeartbeats 4000000 in
set_option maxRecDepth 100000 in
theorem sliceStable_of (p : Option Addr) (n c f : Nat) (hn : n < 4611686018427387904) (hf : Try.prog.funcs.findIdx? (·.name == "internal/reflectlite" ++ ".Swapper$" ++ toString (swapperK n freeE 25)) = some f) (lb B : Array Value) (hB : B = if swapperK n freeE 25 ≤ 2 then (#[] : Array Value) else #[.slice p n c, typeHandle Try.prog 51]) (w : World) (R : World → Prop)
  (hp : Calls Try.prog 110 #[.agg #[.func (.func 86) #[] lb, .func (.func f) #[] B], .int .i64 n] (stableW p n c w) fun e w' => e = .returned (.tuple #[]) ∧ R w') :
  Calls Try.prog 85 #[.iface 22 (.slice p n c), .func (.func 86) #[] lb] w fun e w' => e = .returned (.tuple #[]) ∧ R w' := by
 have hv := run_valueOf_slice (P := Try.prog) 22 51 freeT freeT_is freeT_desc p n c w
 have hs := fun w => run_swapper_slice (P := Try.prog) 22 51 freeT freeE freeT_is freeT_desc freeE_is 25 (fun _ => by kernel_rfl) p n c f hf w
 have hl := fun a w ha => run_valueLen_slice (P := Try.prog) 22 51 freeT freeT_is freeT_desc (by kernel_rfl) a p n c w ha
 rw [← hB] at hs
 unfold stableW at hp
 simp only [typeHandle] at hv hl
 have hg0 : Try.prog.globals.size = 0 := by kernel_rfl
 rw [hg0] at hv hp
 simp only [hg0] at hl
 have hu22 := Try.underlying22
 have hu159 := Try.underlying159
 have hu165 := Try.underlying165
 have HP := m_ hp
 clear hp hB hf
 go_enter Try.func85, Try.ntmps85
 go_wp2
 rw [run_callFunc_extern Try.func108 (by kernel_rfl) (by kernel_rfl) (by kernel_rfl) (e := fun args => Extern.ReflectliteValue.unpack (args.getD 0 (.tuple #[]))) (by kernel_rfl),
  show Sem.run Try.prog ((fun args : Array Value => Extern.ReflectliteValue.unpack (args.getD 0 (.tuple #[]))) #[.iface 22 (.slice p n c)]) w = _ from hv]
 simp only [Result.andThen]
 rw [Oper.upon_value]
 go_wp2
 rw [run_callFunc_extern Try.func109 (by kernel_rfl) (by kernel_rfl) (by kernel_rfl) (e := Extern.ReflectliteSwapper.swapper "internal/reflectlite" (Extern.ReflectliteValue.valueError "Swapper")) (by kernel_rfl), hs]
 simp only [Result.andThen]
 rw [Oper.upon_value]
 go_wp2
 rw [run_callFunc_extern Try.func111 (by kernel_rfl) (by kernel_rfl) (by kernel_rfl) (e := Extern.ReflectliteValue.method (Extern.ReflectliteValue.valueError "reflectlite.Value.Len" 0) Extern.ReflectliteValue.len) (by kernel_rfl),
  hl _ _ (by simp)]
 simp only [Result.andThen]
 rw [Oper.upon_value]
 go_wp2_with (go_at_call 110; refine HP.out.mono ?_; rintro e w' ⟨rfl, hR⟩)
 go_end0
 exact ⟨rfl, hR⟩
def fkey (s0 s1 s2 s3 : Int) (f : S51) : Int := - fitV s0 s1 s2 s3 f.f1 f.f2
theorem sortPlace (base : Nat) (ok : Nat → Prop) (g gs gl n c : Nat) (s0 s1 s2 s3 : Int) (xs : List S51) (w : World) (hgs : w.heap[gs]? = some (.cells #[.int .i64 s0, .int .i64 s1, .int .i64 s2, .int .i64 s3] 27 (0, 0))) (hgl : w.heap[gl]? = some (.cells #[.slice (some ⟨g, 0, none⟩) n c] 22 (0, 0)))
  (hrw : Kd.R k51 51 w base ok (.slice (some ⟨g, 0, none⟩) n c) xs) (h2 : 2 ≤ n) (hn : n ≤ 1000000) (hf : ∀ f ∈ xs, freeOk f = true) (hs : gs ≠ g) (hl : gl ≠ g) (hg : g < w.heap.size) :
  Calls Try.prog 85 #[.iface 22 (.slice (some ⟨g, 0, none⟩) n c), .func (.func 86) #[] #[.pointer (some ⟨gs, 0, none⟩), .pointer (some ⟨gl, 0, none⟩)]] w fun e w' => e = .returned (.tuple #[]) ∧ Kd.R k51 51 w' base ok (.slice (some ⟨g, 0, none⟩) n c) (isort (fkey s0 s1 s2 s3) xs) ∧ w.grownBy w' (some g) := by
 have hk := free_swapper n h2
 refine sliceStable_of (some ⟨g, 0, none⟩) n c 130 (by omega) (by rw [hk]; kernel_rfl) _ #[.slice (some ⟨g, 0, none⟩) n c, typeHandle Try.prog 51] (by rw [hk]; rfl) w _ ?_
 have hb := stableW_below (some ⟨g, 0, none⟩) n c w
 let E : SE := ⟨w, base, ok, g, n, c, fkey s0 s1 s2 s3, fun f => freeOk f = true, #[.pointer (some ⟨gs, 0, none⟩), .pointer (some ⟨gl, 0, none⟩)], 130, #[.slice (some ⟨g, 0, none⟩) n c, typeHandle Try.prog 51]⟩
 have O : E.Ok := by
  refine ⟨fun W xs' i j x y hr hx hy => ?_, fun W xs' i j x y hr hx hy => swap_free E rfl rfl W xs' i j x y hr hx hy, hg, hn⟩
  have h1 := lessPlace base ok g gs gl n c i j s0 s1 s2 s3 xs' x y W (grown_box hgs hr.grown hs) (grown_box hgl hr.grown hl) hr.row hx hy hn (hr.mem x (List.mem_of_getElem? hx)) (hr.mem y (List.mem_of_getElem? hy))
  refine h1.mono ?_
  rintro e w' ⟨rfl, hb⟩
  refine ⟨?_, hb⟩
  show _ = Ending.returned (.bool (decide (fkey s0 s1 s2 s3 x < fkey s0 s1 s2 s3 y)))
  unfold fkey
  generalize fitV s0 s1 s2 s3 x.f1 x.f2 = a
  generalize fitV s0 s1 s2 s3 y.f1 y.f2 = b
  have : decide (a > b) = decide (-a < -b) := by rw [Bool.eq_iff_iff]; simp only [decide_eq_true_eq]; omega
  rw [this]
 have hR0 : E.RW w xs := ⟨d6_ _ _, hrw, hf⟩
 have hS := stableF E O xs _ (hR0.below hb)
 refine hS.mono ?_
 rintro e w' ⟨rfl, hr, hgr⟩
 exact ⟨rfl, hr.row, b4_ (e4_ hb) hgr⟩
set_option maxHeartbeats 4000000 in
set_option maxRecDepth 100000 in
theorem stable_tiny (lb sb : Array Value) (f n : Nat) (hn : n ≤ 1) (w : World) :
  Calls Try.prog 110 #[.agg #[.func (.func 86) #[] lb, .func (.func f) #[] sb], .int .i64 n] w fun e w' => e = .returned (.tuple #[]) ∧ Below w.heap.size w w' := by
 have hu165 := Try.underlying165
 have HC := m_ (fun W => insertF_none ⟨w, 0, fun _ => True, 0, n, 0, fun _ => 0, fun _ => True, lb, f, sb⟩ 0 n (by omega) (by omega) W)
 go_enter Try.func110, Try.ntmps110
 go_wp2_with (first | ((with_reducible refine a3_ (N := 2) rfl ?_); refine box_event ?hg (N := 2) ?hd (cs := #[.func (.func 86) #[] lb, .func (.func f) #[] sb]) (t := 165) ?hr ?_; (case hd => rfl); (case hg => rfl); (case hr => first | (go_simp; done) | (go_simp; rfl)); intro gb hgb wb hxb hbb; have HXB := m_ hxb; have HBB := m_ hbb; clear hgb hxb hbb))
 refine wp_loop_rounds 1 ?_
 rw [rounds_succ]
 have e1 : ¬ (20 : Int) ≤ (n : Int) := by omega
 obtain ⟨hcz0, hcz1, hfz0, hfz1⟩ := bz2_ HXB
 go_wp2_with (go_at_call 131; refine (HC.out _).mono ?_; rintro e w5 ⟨rfl, hb5⟩; have HB5 := m_ (b0_ HBB.out hb5); clear hb5)
 refine wp_loop_rounds 1 ?_
 rw [rounds_succ]
 have e2 : ¬ (20 : Int) < (n : Int) := by omega
 go_wp2
 go_end0
 exact ⟨rfl, HB5.out⟩
theorem sortPlace_tiny (p : Option Addr) (n c : Nat) (hn : n ≤ 1) (lb : Array Value) (w : World) :
  Calls Try.prog 85 #[.iface 22 (.slice p n c), .func (.func 86) #[] lb] w fun e w' => e = .returned (.tuple #[]) ∧ Below w.heap.size w w' := by
 have hb := stableW_below p n c w
 have go : ∀ f : Nat, Try.prog.funcs.findIdx? (·.name == "internal/reflectlite" ++ ".Swapper$" ++ toString (swapperK n freeE 25)) = some f → Calls Try.prog 85 #[.iface 22 (.slice p n c), .func (.func 86) #[] lb] w fun e w' => e = .returned (.tuple #[]) ∧ Below w.heap.size w w' := fun f hf => by
  refine sliceStable_of p n c f (by omega) hf lb _ rfl w _ ?_
  exact (stable_tiny lb _ f n hn _).mono fun e w' ⟨he, h⟩ => ⟨he, b0_ hb h⟩
 rcases Nat.le_one_iff_eq_zero_or_eq_one.1 hn with rfl | rfl
 ·exact go 122 (by kernel_rfl)
 ·exact go 123 (by kernel_rfl)
end Go.Proofs.Ytckhjehibjdjdaa.P
namespace Go.Proofs.Ytckhjehibjdjdaa.P
open Go.RowKit Go.Proofs.YtckhjehibjdjdaaW.PrintWords Go.Proofs.YtckhjehibjdjdaaW.PrintLast Go.Proofs.YtckhjehibjdjdaaW.PrintMore
attribute [local go_sem] max2_int min2_int max_two min_two max_three min_three max_four min_four
def shape_Piece.f (a0_0 a0_1 a0_2 a0_3 a1_0 a1_1 a1_2 a1_3 : Int) : Option (Int × Int × Int × Int × Int × Int × Int × Int × Int) := (shape_Check.f a0_0 a0_1 a0_2 a0_3).bind fun t840 => (if t840 = 0 then ((shape_Fits.f a0_0 a0_1 a0_2 a0_3 a1_0 a1_1 a1_2 a1_3).bind fun t841 => (if t841 = 0 then (some (0, 0, 0, 0, 0, 0, 0, 0, 7)) else ((mask_Lowest.f a1_2 a0_0).bind fun bt842 => (some (a1_0, a1_1, bt842.1, a0_1, a1_0, a1_1, Go.bits .andNot .u64 a1_2 bt842.1, wrap64 (a1_3 - a0_1), 0))))) else (some (0, 0, 0, 0, 0, 0, 0, 0, t840)))
def shape_Piece.T7 : Bool × List (List Nat × List Nat) := (true, [([], []), ([0], [0]), ([], []), ([], []), ([3], [3]), ([1, 2, 4], [1, 2, 4]), ([], []), ([6], [6]), ([], []), ([8], [8]), ([], []), ([9, 10], [9, 10]), ([], []), ([12], [12]), ([], []), ([14], [14]), ([13, 15], [13, 15]), ([7, 11, 16], [7, 11, 16]), ([5, 0, 1, 2, 3, 4, 5], [5]), ([17, 18, 0, 1, 2, 3, 4, 5, 6, 7, 8, 9, 10, 11, 12, 13, 14, 15, 16, 17, 18], [17]), ([19, 0, 1, 2, 3, 4, 5, 6, 7, 8, 9, 10, 11, 12, 13, 14, 15, 16, 17, 18, 19], [])])
def shape_Piece.B7 : List Nat := [0, 1, 0, 0, 8, 31, 0, 64, 0, 256, 0, 1792, 0, 4096, 0, 16384, 61440, 131008, 63, 524287, 1048575]
theorem shape_Piece.tab7 : rtab .any (opsOf Try.f88 7) = shape_Piece.T7 := by kernel_rfl
theorem shape_Piece.bits7 : waitsOk shape_Piece.T7.2 shape_Piece.B7 = true := by kernel_rfl
set_option maxHeartbeats 8000000 in
set_option maxRecDepth 100000 in
theorem shape_Piece.calls (a0_0 a0_1 a0_2 a0_3 a1_0 a1_1 a1_2 a1_3 r1 r2 r3 r4 r5 r6 r7 r8 r9 : Int) (w : World) (h : shape_Piece.f a0_0 a0_1 a0_2 a0_3 a1_0 a1_1 a1_2 a1_3 = some (r1, r2, r3, r4, r5, r6, r7, r8, r9)) :
  Calls Try.prog 88 #[.agg #[.int .i64 a0_0, .int .i64 a0_1, .int .i64 a0_2, .int .i64 a0_3], .agg #[.int .i64 a1_0, .int .i64 a1_1, .int .u64 a1_2, .int .i64 a1_3]] w fun e w' => e = .returned (.tuple #[.agg #[.int .i64 r1, .int .i64 r2, .int .u64 r3, .int .i64 r4], .agg #[.int .i64 r5, .int .i64 r6, .int .u64 r7, .int .i64 r8], .int .i64 r9]) ∧ Below w.heap.size w w' := by
 have hu27 := Try.underlying27
 have hu51 := Try.underlying51
 have hu52 := Try.underlying52
 have hu48 := Try.underlying48
 have HB := m_ (Below.refl w.heap.size w)
 have H := h
 unfold shape_Piece.f at H
 clear h
 replace H := Option.bind_eq_some_iff.mp H
 obtain ⟨t840, A30, H⟩ := H
 try dsimp only at H
 have A3 := m_ A30
 clear A30
 by_cases c4 : t840 = 0
 ·rw [if_pos c4] at H
  have c4b0 : (t840 == 0) = true := beq_iff_eq.mpr c4
  have c4b1 : (t840 != 0) = false := bne_eq_false_iff_eq.mpr c4
  clear c4
  replace H := Option.bind_eq_some_iff.mp H
  obtain ⟨t841, A50, H⟩ := H
  try dsimp only at H
  have A5 := m_ A50
  clear A50
  by_cases c6 : t841 = 0
  ·rw [if_pos c6] at H
   have c6b0 : (t841 == 0) = true := beq_iff_eq.mpr c6
   have c6b1 : (t841 != 0) = false := bne_eq_false_iff_eq.mpr c6
   clear c6
   simp only [Option.some.injEq, Prod.mk.injEq] at H
   obtain ⟨rfl, rfl, rfl, rfl, rfl, rfl, rfl, rfl, rfl⟩ := H
   go_enter Try.func88, Try.ntmps88
   go_wp2_with (first | ((with_reducible refine a3_ (N := 2) rfl ?_); refine bx 2 #[.int .i64 a0_0, .int .i64 a0_1, .int .i64 a0_2, .int .i64 a0_3] 27 ?_; intro gb836 hg w7 hbox hb; have BK836 := m_ (hbox); have GW836 := ge_ hg; have GE836 := ge_ hg; replace HB := hs_ hb; clear hb hbox hg) | ((with_reducible refine a3_ (N := 3) rfl ?_); refine bx 3 #[.int .i64 a1_0, .int .i64 a1_1, .int .u64 a1_2, .int .i64 a1_3] 51 ?_; intro gb837 hg w8 hbox hb; have BK837 := m_ (hbox); have GW837 := ge_ hg; have GE837 := ge_ hg; have NB836_837 := nl_ BK836 hg; have NB837_836 := nr_ BK836 hg; replace BK836 := bk_ BK836 hb; replace HB := hs_ hb; clear hb hbox hg) | ((with_reducible refine a3_ (N := 4) rfl ?_); refine bx 4 #[.int .i64 0, .int .i64 0, .int .u64 0, .int .i64 0] 52 ?_; intro gb838 hg w9 hbox hb; have BK838 := m_ (hbox); have GW838 := ge_ hg; have GE838 := ge_ hg; have NB836_838 := nl_ BK836 hg; have NB838_836 := nr_ BK836 hg; have NB837_838 := nl_ BK837 hg; have NB838_837 := nr_ BK837 hg; replace BK836 := bk_ BK836 hb; replace BK837 := bk_ BK837 hb; replace HB := hs_ hb; clear hb hbox hg) | ((with_reducible refine a3_ (N := 5) rfl ?_); refine bx 5 #[.int .i64 0, .int .i64 0, .int .u64 0, .int .i64 0] 51 ?_; intro gb839 hg w10 hbox hb; have BK839 := m_ (hbox); have GW839 := ge_ hg; have GE839 := ge_ hg; have NB836_839 := nl_ BK836 hg; have NB839_836 := nr_ BK836 hg; have NB837_839 := nl_ BK837 hg; have NB839_837 := nr_ BK837 hg; have NB838_839 := nl_ BK838 hg; have NB839_838 := nr_ BK838 hg; replace BK836 := bk_ BK836 hb; replace BK837 := bk_ BK837 hb; replace BK838 := bk_ BK838 hb; replace HB := hs_ hb; clear hb hbox hg; have hnb11 := NB836_837.out; have hnc11 := NB837_836.out; have hnb12 := NB836_838.out; have hnc12 := NB838_836.out; have hnb13 := NB836_839.out; have hnc13 := NB839_836.out; obtain ⟨hcz14_0, hcz14_1, hcz14_2, hcz14_3, hfz14_0, hfz14_1, hfz14_2, hfz14_3⟩ := bz4_ BK836) | ((with_reducible refine b3_ (f := 83) rfl ?_); refine goesL_ (some 11) rfl rfl Try.func83 (by kernel_rfl) rfl #[.agg #[.int .i64 a0_0, .int .i64 a0_1, .int .i64 a0_2, .int .i64 a0_3]] rfl Z0 ?_; (with_reducible refine (shape_Check.calls a0_0 a0_1 a0_2 a0_3 t840 _ A3.out).mono ?_); rintro e w15 ⟨rfl, hb⟩; refine ⟨_, rfl, ?_⟩; replace BK836 := bk_ BK836 hb; replace BK837 := bk_ BK837 hb; replace BK838 := bk_ BK838 hb; replace BK839 := bk_ BK839 hb; replace HB := hs_ hb; (try clear hb); (try clear hb2); (try clear hk); (try clear hi); obtain ⟨hcz16_0, hcz16_1, hcz16_2, hcz16_3, hfz16_0, hfz16_1, hfz16_2, hfz16_3⟩ := bz4_ BK836; have hnb17 := NB837_838.out; have hnc17 := NB838_837.out; have hnb18 := NB837_839.out; have hnc18 := NB839_837.out; obtain ⟨hcz19_0, hcz19_1, hcz19_2, hcz19_3, hfz19_0, hfz19_1, hfz19_2, hfz19_3⟩ := bz4_ BK837) | ((with_reducible refine b3_ (f := 87) rfl ?_); refine goesL_ (some 19) rfl rfl Try.func87 (by kernel_rfl) rfl #[.agg #[.int .i64 a0_0, .int .i64 a0_1, .int .i64 a0_2, .int .i64 a0_3], .agg #[.int .i64 a1_0, .int .i64 a1_1, .int .u64 a1_2, .int .i64 a1_3]] rfl Z0 ?_; (with_reducible refine (shape_Fits.calls a0_0 a0_1 a0_2 a0_3 a1_0 a1_1 a1_2 a1_3 t841 _ A5.out).mono ?_); rintro e w20 ⟨rfl, hb⟩; refine ⟨_, rfl, ?_⟩; replace BK836 := bk_ BK836 hb; replace BK837 := bk_ BK837 hb; replace BK838 := bk_ BK838 hb; replace BK839 := bk_ BK839 hb; replace HB := hs_ hb; (try clear hb); (try clear hb2); (try clear hk); (try clear hi); have hnb21 := NB838_839.out; have hnc21 := NB839_838.out; obtain ⟨hcz22_0, hcz22_1, hcz22_2, hcz22_3, hfz22_0, hfz22_1, hfz22_2, hfz22_3⟩ := bz4_ BK838; obtain ⟨hcz23_0, hcz23_1, hcz23_2, hcz23_3, hfz23_0, hfz23_1, hfz23_2, hfz23_3⟩ := bz4_ BK839))
   refine bodyPost_ret (results_list (rs := [.cell 4 52, .cell 5 51, .tmp 6]) rfl (by simp) (.cell gb838 52 #[.int .i64 0, .int .i64 0, .int .u64 0, .int .i64 0] (0, 0) _ rfl (bt_ BK838) Try.underlying52 rfl (by kernel_rfl) (.cell gb839 51 #[.int .i64 0, .int .i64 0, .int .u64 0, .int .i64 0] (0, 0) _ rfl (bt_ BK839) Try.underlying51 rfl (by kernel_rfl) (.tmp .nil)))) rfl ?_
   exact ⟨by first | rfl | (simp [b2_, b1_] <;> rfl) | (simp [*, b2_, b1_] <;> rfl), hb_⟩
  ·rw [if_neg c6] at H
   have c6b0 : (t841 == 0) = false := beq_eq_false_iff_ne.mpr c6
   have c6b1 : (t841 != 0) = true := bne_iff_ne.mpr c6
   replace H := Option.bind_eq_some_iff.mp H
   obtain ⟨⟨t842, t843⟩, A240, H⟩ := H
   try dsimp only at H
   have A24 := m_ A240
   clear A240
   simp only [Option.some.injEq, Prod.mk.injEq] at H
   obtain ⟨rfl, rfl, rfl, rfl, rfl, rfl, rfl, rfl, rfl⟩ := H
   go_enter Try.func88, Try.ntmps88
   try go_wp2_with (first | ((with_reducible refine a3_ (N := 2) rfl ?_); refine bx 2 #[.int .i64 a0_0, .int .i64 a0_1, .int .i64 a0_2, .int .i64 a0_3] 27 ?_; intro gb836 hg w25 hbox hb; have BK836 := m_ (hbox); have GW836 := ge_ hg; have GE836 := ge_ hg; replace HB := hs_ hb; clear hb hbox hg) | ((with_reducible refine a3_ (N := 3) rfl ?_); refine bx 3 #[.int .i64 a1_0, .int .i64 a1_1, .int .u64 a1_2, .int .i64 a1_3] 51 ?_; intro gb837 hg w26 hbox hb; have BK837 := m_ (hbox); have GW837 := ge_ hg; have GE837 := ge_ hg; have NB836_837 := nl_ BK836 hg; have NB837_836 := nr_ BK836 hg; replace BK836 := bk_ BK836 hb; replace HB := hs_ hb; clear hb hbox hg) | ((with_reducible refine a3_ (N := 4) rfl ?_); refine bx 4 #[.int .i64 0, .int .i64 0, .int .u64 0, .int .i64 0] 52 ?_; intro gb838 hg w27 hbox hb; have BK838 := m_ (hbox); have GW838 := ge_ hg; have GE838 := ge_ hg; have NB836_838 := nl_ BK836 hg; have NB838_836 := nr_ BK836 hg; have NB837_838 := nl_ BK837 hg; have NB838_837 := nr_ BK837 hg; replace BK836 := bk_ BK836 hb; replace BK837 := bk_ BK837 hb; replace HB := hs_ hb; clear hb hbox hg) | ((with_reducible refine a3_ (N := 5) rfl ?_); refine bx 5 #[.int .i64 0, .int .i64 0, .int .u64 0, .int .i64 0] 51 ?_; intro gb839 hg w28 hbox hb; have BK839 := m_ (hbox); have GW839 := ge_ hg; have GE839 := ge_ hg; have NB836_839 := nl_ BK836 hg; have NB839_836 := nr_ BK836 hg; have NB837_839 := nl_ BK837 hg; have NB839_837 := nr_ BK837 hg; have NB838_839 := nl_ BK838 hg; have NB839_838 := nr_ BK838 hg; replace BK836 := bk_ BK836 hb; replace BK837 := bk_ BK837 hb; replace BK838 := bk_ BK838 hb; replace HB := hs_ hb; clear hb hbox hg; have hnb29 := NB836_837.out; have hnc29 := NB837_836.out; have hnb30 := NB836_838.out; have hnc30 := NB838_836.out; have hnb31 := NB836_839.out; have hnc31 := NB839_836.out; obtain ⟨hcz32_0, hcz32_1, hcz32_2, hcz32_3, hfz32_0, hfz32_1, hfz32_2, hfz32_3⟩ := bz4_ BK836) | ((with_reducible refine b3_ (f := 83) rfl ?_); refine goesL_ (some 11) rfl rfl Try.func83 (by kernel_rfl) rfl #[.agg #[.int .i64 a0_0, .int .i64 a0_1, .int .i64 a0_2, .int .i64 a0_3]] rfl Z0 ?_; (with_reducible refine (shape_Check.calls a0_0 a0_1 a0_2 a0_3 t840 _ A3.out).mono ?_); rintro e w33 ⟨rfl, hb⟩; refine ⟨_, rfl, ?_⟩; replace BK836 := bk_ BK836 hb; replace BK837 := bk_ BK837 hb; replace BK838 := bk_ BK838 hb; replace BK839 := bk_ BK839 hb; replace HB := hs_ hb; (try clear hb); (try clear hb2); (try clear hk); (try clear hi); obtain ⟨hcz34_0, hcz34_1, hcz34_2, hcz34_3, hfz34_0, hfz34_1, hfz34_2, hfz34_3⟩ := bz4_ BK836; have hnb35 := NB837_838.out; have hnc35 := NB838_837.out; have hnb36 := NB837_839.out; have hnc36 := NB839_837.out; obtain ⟨hcz37_0, hcz37_1, hcz37_2, hcz37_3, hfz37_0, hfz37_1, hfz37_2, hfz37_3⟩ := bz4_ BK837) | ((with_reducible refine b3_ (f := 87) rfl ?_); refine goesL_ (some 19) rfl rfl Try.func87 (by kernel_rfl) rfl #[.agg #[.int .i64 a0_0, .int .i64 a0_1, .int .i64 a0_2, .int .i64 a0_3], .agg #[.int .i64 a1_0, .int .i64 a1_1, .int .u64 a1_2, .int .i64 a1_3]] rfl Z0 ?_; (with_reducible refine (shape_Fits.calls a0_0 a0_1 a0_2 a0_3 a1_0 a1_1 a1_2 a1_3 t841 _ A5.out).mono ?_); rintro e w38 ⟨rfl, hb⟩; refine ⟨_, rfl, ?_⟩; replace BK836 := bk_ BK836 hb; replace BK837 := bk_ BK837 hb; replace BK838 := bk_ BK838 hb; replace BK839 := bk_ BK839 hb; replace HB := hs_ hb; (try clear hb); (try clear hb2); (try clear hk); (try clear hi); obtain ⟨hcz39_0, hcz39_1, hcz39_2, hcz39_3, hfz39_0, hfz39_1, hfz39_2, hfz39_3⟩ := bz4_ BK837; obtain ⟨hcz40_0, hcz40_1, hcz40_2, hcz40_3, hfz40_0, hfz40_1, hfz40_2, hfz40_3⟩ := bz4_ BK836) | ((with_reducible refine b3_ (f := 114) rfl ?_); refine goesL_ (some 28) rfl rfl Try.func114 (by kernel_rfl) rfl #[.int .u64 a1_2, .int .i64 a0_0] rfl Z0 ?_; (with_reducible refine (mask_Lowest.calls a1_2 a0_0 t842 t843 _ A24.out).mono ?_); rintro e w41 ⟨rfl, hb⟩; refine ⟨_, rfl, ?_⟩; replace BK836 := bk_ BK836 hb; replace BK837 := bk_ BK837 hb; replace BK838 := bk_ BK838 hb; replace BK839 := bk_ BK839 hb; replace HB := hs_ hb; (try clear hb); (try clear hb2); (try clear hk); (try clear hi)))
   replace BK836 := m_ (d7_ BK836.out)
   replace BK837 := m_ (d7_ BK837.out)
   replace BK838 := m_ (d7_ BK838.out)
   replace BK839 := m_ (d7_ BK839.out)
   replace HB := m_ (b8_ HB.out)
   refine start_ (n := 21) (S := fun w' => w'.cell? ⟨gb837, 0, none⟩ = some (.int .i64 a1_0) ∧ w'.cell? ⟨gb837, 1, none⟩ = some (.int .i64 a1_1) ∧ w'.cell? ⟨gb837, 2, none⟩ = some (.int .u64 a1_2) ∧ w'.cell? ⟨gb837, 3, none⟩ = some (.int .i64 a1_3) ∧ w'.cell? ⟨gb836, 0, none⟩ = some (.int .i64 a0_0) ∧ w'.cell? ⟨gb836, 1, none⟩ = some (.int .i64 a0_1) ∧ w'.cell? ⟨gb836, 2, none⟩ = some (.int .i64 a0_2) ∧ w'.cell? ⟨gb836, 3, none⟩ = some (.int .i64 a0_3)) (ds := []) (bm 21 0) (by kernel_rfl) rfl rfl ⟨(a0_ BK837.out 0).trans rfl, (a0_ BK837.out 1).trans rfl, (a0_ BK837.out 2).trans rfl, (a0_ BK837.out 3).trans rfl, (a0_ BK836.out 0).trans rfl, (a0_ BK836.out 1).trans rfl, (a0_ BK836.out 2).trans rfl, (a0_ BK836.out 3).trans rfl⟩ (fun hHeld => ?_); refine with_tabW shape_Piece.tab7 shape_Piece.bits7 (fun HT_ HW_ => ?_)
   generalize w41.drew = w42 at BK836 BK837 BK838 BK839 HB hHeld ⊢
   refine pu 0 (some 31) (bm 21 1) ?_
   refine pu 2 (some 33) (bm 21 5) ?_
   refine pu 3 (some 34) (bm 21 13) ?_
   refine pu 6 (some 37) (bm 21 77) ?_
   refine pu 8 (some 39) (bm 21 333) ?_
   refine pu 10 (some 41) (bm 21 1357) ?_
   refine pu 12 (some 43) (bm 21 5453) ?_
   refine pu 14 (some 45) (bm 21 21837) ?_
   refine tk 1 (some 32) (bm 21 21839) ?_
   refine tk 4 (some 35) (bm 21 21855) ?_
   refine pu 5 (some 36) (bm 21 21887) ?_
   refine tk 7 (some 38) (bm 21 22015) ?_
   refine tk 9 (some 40) (bm 21 22527) ?_
   refine pu 11 (some 42) (bm 21 24575) ?_
   refine tk 13 (some 44) (bm 21 32767) ?_
   refine tk 15 (some 46) (bm 21 65535) ?_
   refine pu 16 (some 47) (bm 21 131071) ?_
   refine pu 17 (some 48) (bm 21 262143) ?_
   refine one_ (i := 18) (N := none) (bm 21 524287) rfl rfl (one_of HT_.out (by kernel_rfl)) (by decide) (fun K hK => ?_)
   have hs43 : w42.cell? ⟨gb838, 0, none⟩ = some (.int .i64 0) := (a0_ BK838.out 0).trans rfl
   have hfs43 := a2_ BK838.out 0
   have hns43_0 := NB836_838.out
   have hns43_1 := NB837_838.out
   have hns43_3 := NB839_838.out
   have hms43_0 := NB838_836.out
   have hms43_1 := NB838_837.out
   have hms43_3 := NB838_839.out
   have hs44 : w42.cell? ⟨gb838, 1, none⟩ = some (.int .i64 0) := (a0_ BK838.out 1).trans rfl
   have hfs44 := a2_ BK838.out 1
   have hns44_0 := NB836_838.out
   have hns44_1 := NB837_838.out
   have hns44_3 := NB839_838.out
   have hms44_0 := NB838_836.out
   have hms44_1 := NB838_837.out
   have hms44_3 := NB838_839.out
   have hs45 : w42.cell? ⟨gb838, 2, none⟩ = some (.int .u64 0) := (a0_ BK838.out 2).trans rfl
   have hfs45 := a2_ BK838.out 2
   have hns45_0 := NB836_838.out
   have hns45_1 := NB837_838.out
   have hns45_3 := NB839_838.out
   have hms45_0 := NB838_836.out
   have hms45_1 := NB838_837.out
   have hms45_3 := NB838_839.out
   have hs46 : w42.cell? ⟨gb838, 3, none⟩ = some (.int .i64 0) := (a0_ BK838.out 3).trans rfl
   have hfs46 := a2_ BK838.out 3
   have hns46_0 := NB836_838.out
   have hns46_1 := NB837_838.out
   have hns46_3 := NB839_838.out
   have hms46_0 := NB838_836.out
   have hms46_1 := NB838_837.out
   have hms46_3 := NB838_839.out
   refine skip_ (w1 := ?_) (by rfl) rfl ?_ ?_
   rotate_left
   ·go_simp
    rfl
   refine hK.out _ _ ⟨((c5_ (p := ⟨gb838, _, none⟩) NB837_838.out _).trans (((c5_ (p := ⟨gb838, _, none⟩) NB837_838.out _).trans (((c5_ (p := ⟨gb838, _, none⟩) NB837_838.out _).trans (((c5_ (p := ⟨gb838, _, none⟩) NB837_838.out _).trans (hHeld.1)))))))), ((c5_ (p := ⟨gb838, _, none⟩) NB837_838.out _).trans (((c5_ (p := ⟨gb838, _, none⟩) NB837_838.out _).trans (((c5_ (p := ⟨gb838, _, none⟩) NB837_838.out _).trans (((c5_ (p := ⟨gb838, _, none⟩) NB837_838.out _).trans (hHeld.2.1)))))))), ((c5_ (p := ⟨gb838, _, none⟩) NB837_838.out _).trans (((c5_ (p := ⟨gb838, _, none⟩) NB837_838.out _).trans (((c5_ (p := ⟨gb838, _, none⟩) NB837_838.out _).trans (((c5_ (p := ⟨gb838, _, none⟩) NB837_838.out _).trans (hHeld.2.2.1)))))))), ((c5_ (p := ⟨gb838, _, none⟩) NB837_838.out _).trans (((c5_ (p := ⟨gb838, _, none⟩) NB837_838.out _).trans (((c5_ (p := ⟨gb838, _, none⟩) NB837_838.out _).trans (((c5_ (p := ⟨gb838, _, none⟩) NB837_838.out _).trans (hHeld.2.2.2.1)))))))), ((c5_ (p := ⟨gb838, _, none⟩) NB836_838.out _).trans (((c5_ (p := ⟨gb838, _, none⟩) NB836_838.out _).trans (((c5_ (p := ⟨gb838, _, none⟩) NB836_838.out _).trans (((c5_ (p := ⟨gb838, _, none⟩) NB836_838.out _).trans (hHeld.2.2.2.2.1)))))))), ((c5_ (p := ⟨gb838, _, none⟩) NB836_838.out _).trans (((c5_ (p := ⟨gb838, _, none⟩) NB836_838.out _).trans (((c5_ (p := ⟨gb838, _, none⟩) NB836_838.out _).trans (((c5_ (p := ⟨gb838, _, none⟩) NB836_838.out _).trans (hHeld.2.2.2.2.2.1)))))))), ((c5_ (p := ⟨gb838, _, none⟩) NB836_838.out _).trans (((c5_ (p := ⟨gb838, _, none⟩) NB836_838.out _).trans (((c5_ (p := ⟨gb838, _, none⟩) NB836_838.out _).trans (((c5_ (p := ⟨gb838, _, none⟩) NB836_838.out _).trans (hHeld.2.2.2.2.2.2.1)))))))), ((c5_ (p := ⟨gb838, _, none⟩) NB836_838.out _).trans (((c5_ (p := ⟨gb838, _, none⟩) NB836_838.out _).trans (((c5_ (p := ⟨gb838, _, none⟩) NB836_838.out _).trans (((c5_ (p := ⟨gb838, _, none⟩) NB836_838.out _).trans (hHeld.2.2.2.2.2.2.2))))))))⟩ (fun hHeld => ?_)
   clear hK K
   refine one_ (i := 19) (N := none) (bm 21 1048575) rfl rfl (one_of HT_.out (by kernel_rfl)) (by decide) (fun K hK => ?_)
   have hs47 : w42.cell? ⟨gb839, 0, none⟩ = some (.int .i64 0) := (a0_ BK839.out 0).trans rfl
   have hfs47 := a2_ BK839.out 0
   have hns47_0 := NB836_839.out
   have hns47_1 := NB837_839.out
   have hns47_2 := NB838_839.out
   have hms47_0 := NB839_836.out
   have hms47_1 := NB839_837.out
   have hms47_2 := NB839_838.out
   have hs48 : w42.cell? ⟨gb839, 1, none⟩ = some (.int .i64 0) := (a0_ BK839.out 1).trans rfl
   have hfs48 := a2_ BK839.out 1
   have hns48_0 := NB836_839.out
   have hns48_1 := NB837_839.out
   have hns48_2 := NB838_839.out
   have hms48_0 := NB839_836.out
   have hms48_1 := NB839_837.out
   have hms48_2 := NB839_838.out
   have hs49 : w42.cell? ⟨gb839, 2, none⟩ = some (.int .u64 0) := (a0_ BK839.out 2).trans rfl
   have hfs49 := a2_ BK839.out 2
   have hns49_0 := NB836_839.out
   have hns49_1 := NB837_839.out
   have hns49_2 := NB838_839.out
   have hms49_0 := NB839_836.out
   have hms49_1 := NB839_837.out
   have hms49_2 := NB839_838.out
   have hs50 : w42.cell? ⟨gb839, 3, none⟩ = some (.int .i64 0) := (a0_ BK839.out 3).trans rfl
   have hfs50 := a2_ BK839.out 3
   have hns50_0 := NB836_839.out
   have hns50_1 := NB837_839.out
   have hns50_2 := NB838_839.out
   have hms50_0 := NB839_836.out
   have hms50_1 := NB839_837.out
   have hms50_2 := NB839_838.out
   refine skip_ (w1 := ?_) (by rfl) rfl ?_ ?_
   rotate_left
   ·go_simp
    rfl
   refine hK.out _ _ ⟨((c5_ (p := ⟨gb839, _, none⟩) NB837_839.out _).trans (((c5_ (p := ⟨gb839, _, none⟩) NB837_839.out _).trans (((c5_ (p := ⟨gb839, _, none⟩) NB837_839.out _).trans (((c5_ (p := ⟨gb839, _, none⟩) NB837_839.out _).trans (hHeld.1)))))))), ((c5_ (p := ⟨gb839, _, none⟩) NB837_839.out _).trans (((c5_ (p := ⟨gb839, _, none⟩) NB837_839.out _).trans (((c5_ (p := ⟨gb839, _, none⟩) NB837_839.out _).trans (((c5_ (p := ⟨gb839, _, none⟩) NB837_839.out _).trans (hHeld.2.1)))))))), ((c5_ (p := ⟨gb839, _, none⟩) NB837_839.out _).trans (((c5_ (p := ⟨gb839, _, none⟩) NB837_839.out _).trans (((c5_ (p := ⟨gb839, _, none⟩) NB837_839.out _).trans (((c5_ (p := ⟨gb839, _, none⟩) NB837_839.out _).trans (hHeld.2.2.1)))))))), ((c5_ (p := ⟨gb839, _, none⟩) NB837_839.out _).trans (((c5_ (p := ⟨gb839, _, none⟩) NB837_839.out _).trans (((c5_ (p := ⟨gb839, _, none⟩) NB837_839.out _).trans (((c5_ (p := ⟨gb839, _, none⟩) NB837_839.out _).trans (hHeld.2.2.2.1)))))))), ((c5_ (p := ⟨gb839, _, none⟩) NB836_839.out _).trans (((c5_ (p := ⟨gb839, _, none⟩) NB836_839.out _).trans (((c5_ (p := ⟨gb839, _, none⟩) NB836_839.out _).trans (((c5_ (p := ⟨gb839, _, none⟩) NB836_839.out _).trans (hHeld.2.2.2.2.1)))))))), ((c5_ (p := ⟨gb839, _, none⟩) NB836_839.out _).trans (((c5_ (p := ⟨gb839, _, none⟩) NB836_839.out _).trans (((c5_ (p := ⟨gb839, _, none⟩) NB836_839.out _).trans (((c5_ (p := ⟨gb839, _, none⟩) NB836_839.out _).trans (hHeld.2.2.2.2.2.1)))))))), ((c5_ (p := ⟨gb839, _, none⟩) NB836_839.out _).trans (((c5_ (p := ⟨gb839, _, none⟩) NB836_839.out _).trans (((c5_ (p := ⟨gb839, _, none⟩) NB836_839.out _).trans (((c5_ (p := ⟨gb839, _, none⟩) NB836_839.out _).trans (hHeld.2.2.2.2.2.2.1)))))))), ((c5_ (p := ⟨gb839, _, none⟩) NB836_839.out _).trans (((c5_ (p := ⟨gb839, _, none⟩) NB836_839.out _).trans (((c5_ (p := ⟨gb839, _, none⟩) NB836_839.out _).trans (((c5_ (p := ⟨gb839, _, none⟩) NB836_839.out _).trans (hHeld.2.2.2.2.2.2.2))))))))⟩ (fun hHeld => ?_)
   clear hK K
   refine pu 20 (some 6) (bm 21 2097151) ?_
   refine done_ (done_of HT_.out (by kernel_rfl)) ?_
   try go_wp2
   refine bodyPost_ret (results_list (rs := [.cell 4 52, .cell 5 51, .tmp 6]) rfl (by simp) (.cell gb838 52 #[.int .i64 a1_0, .int .i64 a1_1, .int .u64 t842, .int .i64 a0_1] (0, 0) _ rfl (bt_ BK838) Try.underlying52 rfl (by kernel_rfl) (.cell gb839 51 #[.int .i64 a1_0, .int .i64 a1_1, .int .u64 (Go.bits .andNot .u64 a1_2 t842), .int .i64 (wrap64 (a1_3 - a0_1))] (0, 0) _ rfl (bt_ BK839) Try.underlying51 rfl (by kernel_rfl) (.tmp .nil)))) rfl ?_
   exact ⟨by first | rfl | (simp [b2_, b1_] <;> rfl) | (simp [*, b2_, b1_] <;> rfl), hb_⟩
 ·rw [if_neg c4] at H
  have c4b0 : (t840 == 0) = false := beq_eq_false_iff_ne.mpr c4
  have c4b1 : (t840 != 0) = true := bne_iff_ne.mpr c4
  simp only [Option.some.injEq, Prod.mk.injEq] at H
  obtain ⟨rfl, rfl, rfl, rfl, rfl, rfl, rfl, rfl, rfl⟩ := H
  go_enter Try.func88, Try.ntmps88
  go_wp2_with (first | ((with_reducible refine a3_ (N := 2) rfl ?_); refine bx 2 #[.int .i64 a0_0, .int .i64 a0_1, .int .i64 a0_2, .int .i64 a0_3] 27 ?_; intro gb836 hg w51 hbox hb; have BK836 := m_ (hbox); have GW836 := ge_ hg; have GE836 := ge_ hg; replace HB := hs_ hb; clear hb hbox hg) | ((with_reducible refine a3_ (N := 3) rfl ?_); refine bx 3 #[.int .i64 a1_0, .int .i64 a1_1, .int .u64 a1_2, .int .i64 a1_3] 51 ?_; intro gb837 hg w52 hbox hb; have BK837 := m_ (hbox); have GW837 := ge_ hg; have GE837 := ge_ hg; have NB836_837 := nl_ BK836 hg; have NB837_836 := nr_ BK836 hg; replace BK836 := bk_ BK836 hb; replace HB := hs_ hb; clear hb hbox hg) | ((with_reducible refine a3_ (N := 4) rfl ?_); refine bx 4 #[.int .i64 0, .int .i64 0, .int .u64 0, .int .i64 0] 52 ?_; intro gb838 hg w53 hbox hb; have BK838 := m_ (hbox); have GW838 := ge_ hg; have GE838 := ge_ hg; have NB836_838 := nl_ BK836 hg; have NB838_836 := nr_ BK836 hg; have NB837_838 := nl_ BK837 hg; have NB838_837 := nr_ BK837 hg; replace BK836 := bk_ BK836 hb; replace BK837 := bk_ BK837 hb; replace HB := hs_ hb; clear hb hbox hg) | ((with_reducible refine a3_ (N := 5) rfl ?_); refine bx 5 #[.int .i64 0, .int .i64 0, .int .u64 0, .int .i64 0] 51 ?_; intro gb839 hg w54 hbox hb; have BK839 := m_ (hbox); have GW839 := ge_ hg; have GE839 := ge_ hg; have NB836_839 := nl_ BK836 hg; have NB839_836 := nr_ BK836 hg; have NB837_839 := nl_ BK837 hg; have NB839_837 := nr_ BK837 hg; have NB838_839 := nl_ BK838 hg; have NB839_838 := nr_ BK838 hg; replace BK836 := bk_ BK836 hb; replace BK837 := bk_ BK837 hb; replace BK838 := bk_ BK838 hb; replace HB := hs_ hb; clear hb hbox hg; have hnb55 := NB836_837.out; have hnc55 := NB837_836.out; have hnb56 := NB836_838.out; have hnc56 := NB838_836.out; have hnb57 := NB836_839.out; have hnc57 := NB839_836.out; obtain ⟨hcz58_0, hcz58_1, hcz58_2, hcz58_3, hfz58_0, hfz58_1, hfz58_2, hfz58_3⟩ := bz4_ BK836) | ((with_reducible refine b3_ (f := 83) rfl ?_); refine goesL_ (some 11) rfl rfl Try.func83 (by kernel_rfl) rfl #[.agg #[.int .i64 a0_0, .int .i64 a0_1, .int .i64 a0_2, .int .i64 a0_3]] rfl Z0 ?_; (with_reducible refine (shape_Check.calls a0_0 a0_1 a0_2 a0_3 t840 _ A3.out).mono ?_); rintro e w59 ⟨rfl, hb⟩; refine ⟨_, rfl, ?_⟩; replace BK836 := bk_ BK836 hb; replace BK837 := bk_ BK837 hb; replace BK838 := bk_ BK838 hb; replace BK839 := bk_ BK839 hb; replace HB := hs_ hb; (try clear hb); (try clear hb2); (try clear hk); (try clear hi); have hnb60 := NB838_837.out; have hnc60 := NB837_838.out; have hnb61 := NB838_839.out; have hnc61 := NB839_838.out; obtain ⟨hcz62_0, hcz62_1, hcz62_2, hcz62_3, hfz62_0, hfz62_1, hfz62_2, hfz62_3⟩ := bz4_ BK838; have hnb63 := NB839_837.out; have hnc63 := NB837_839.out; obtain ⟨hcz64_0, hcz64_1, hcz64_2, hcz64_3, hfz64_0, hfz64_1, hfz64_2, hfz64_3⟩ := bz4_ BK839))
  refine bodyPost_ret (results_list (rs := [.cell 4 52, .cell 5 51, .tmp 6]) rfl (by simp) (.cell gb838 52 #[.int .i64 0, .int .i64 0, .int .u64 0, .int .i64 0] (0, 0) _ rfl (bt_ BK838) Try.underlying52 rfl (by kernel_rfl) (.cell gb839 51 #[.int .i64 0, .int .i64 0, .int .u64 0, .int .i64 0] (0, 0) _ rfl (bt_ BK839) Try.underlying51 rfl (by kernel_rfl) (.tmp .nil)))) rfl ?_
  exact ⟨by first | rfl | (simp [b2_, b1_] <;> rfl) | (simp [*, b2_, b1_] <;> rfl), hb_⟩
end Go.Proofs.Ytckhjehibjdjdaa.P
namespace Go.Proofs.Ytckhjehibjdjdaa.P
open Go.RowKit Go.Shelf Go.Lib Go.Proofs.YtckhjehibjdjdaaW.PrintWords Go.Proofs.YtckhjehibjdjdaaW.PrintLast Go.Proofs.YtckhjehibjdjdaaW.PrintMore
open Go.Proofs.Ytckhjehibjdjdaa.Bits
attribute [local go_sem] Oper.semAt_some
theorem sortAny (base : Nat) (ok : Nat → Prop) (v : Value) (gs gl : Nat) (s0 s1 s2 s3 : Int) (xs : List S51) (w : World) (hgs : w.heap[gs]? = some (.cells #[.int .i64 s0, .int .i64 s1, .int .i64 s2, .int .i64 s3] 27 (0, 0))) (hgl : w.heap[gl]? = some (.cells #[v] 22 (0, 0)))
  (hrw : Kd.R k51 51 w base ok v xs) (hn : xs.length ≤ 1000000) (hf : ∀ f ∈ xs, freeOk f = true) :
  Calls Try.prog 85 #[.iface 22 v, .func (.func 86) #[] #[.pointer (some ⟨gs, 0, none⟩), .pointer (some ⟨gl, 0, none⟩)]] w fun e w' => e = .returned (.tuple #[]) ∧ Kd.R k51 51 w' base ok v (isort (fkey s0 s1 s2 s3) xs) ∧ w.grownBy w' v.ownBlock := by
 by_cases h2 : 2 ≤ xs.length
 ·obtain ⟨g, c, cur, hv, _, _, hh⟩ := own51 hrw (by omega)
  subst hv
  have h1 : gs ≠ g := blk_ne hgs hh (by decide)
  have h3 : gl ≠ g := blk_ne hgl hh (by decide)
  have := sortPlace base ok g gs gl xs.length c s0 s1 s2 s3 xs w hgs hgl hrw h2 hn hf h1 h3 (c6_ hh)
  refine this.mono ?_
  rintro e w' ⟨he, hr, hg⟩
  exact ⟨he, hr, by simpa [Value.ownBlock] using hg⟩
 ·obtain ⟨A, c, rfl⟩ := Kd.R_slice hrw
  refine (sortPlace_tiny A xs.length c (by omega) _ w).mono ?_
  rintro e w' ⟨he, hb⟩
  rw [isort_one (fkey s0 s1 s2 s3) xs (by omega)]
  exact ⟨he, Kd.R_below hrw hb, ⟨hb.os, hb.tape, hb.output, hb.size, fun k hk _ => hb.block k hk⟩⟩
def pieceL (s0 s1 : Int) (f : S51) : S52 := ⟨f.f0, lowI f.f1 s0, s1⟩
def leftF (s0 s1 : Int) (f : S51) : S51 := ⟨f.f0, Go.bits .andNot .u64 f.f1 (lowI f.f1 s0), wrap64 (f.f2 - s1)⟩
def cutL (s0 s1 s2 s3 : Int) (m : Nat) : Nat → S51 → List S52 → List S52
 | 0, _, out => out
 | k + 1, f, out => if out.length < m ∧ fitV s0 s1 s2 s3 f.f1 f.f2 ≠ 0 then cutL s0 s1 s2 s3 m k (leftF s0 s1 f) (out ++ [pieceL s0 s1 f]) else out
def placeL (s0 s1 s2 s3 : Int) (m : Nat) (l : List S51) : List S52 := l.foldl (fun out f => cutL s0 s1 s2 s3 m 17 f out) []
theorem cutL_le (s0 s1 s2 s3 : Int) (m : Nat) : ∀ (k : Nat) (f : S51) (out : List S52), out.length ≤ m → (cutL s0 s1 s2 s3 m k f out).length ≤ m
 | 0, _, out, h => h
 | k + 1, f, out, h => by
  rw [cutL]
  split
  ·rename_i hc; exact cutL_le s0 s1 s2 s3 m k _ _ (by simp; omega)
  ·exact h
theorem placeL_le (s0 s1 s2 s3 : Int) (m : Nat) (l : List S51) : (placeL s0 s1 s2 s3 m l).length ≤ m := by
 have : ∀ (l : List S51) (out : List S52), out.length ≤ m → (l.foldl (fun out f => cutL s0 s1 s2 s3 m 17 f out) out).length ≤ m := by
  intro l
  induction l with
  | nil => intro out h; exact h
  | cons x l ih => intro out h; exact ih _ (cutL_le s0 s1 s2 s3 m 17 x out h)
 exact this l [] (by simp)
theorem placeL_take (s0 s1 s2 s3 : Int) (m : Nat) (l : List S51) (i : Nat) (h : i < l.length) : placeL s0 s1 s2 s3 m (l.take (i + 1)) = cutL s0 s1 s2 s3 m 17 l[i] (placeL s0 s1 s2 s3 m (l.take i)) := by
 unfold placeL
 rw [List.take_succ_eq_append_getElem h, List.foldl_append]; rfl
def placeOk (view : List S51) : Bool := view.all freeOk && decide (view.length ≤ 1000000)
def placeB (view : List S51) (s0 s1 s2 s3 m : Int) : List S52 × Int :=
 if c9_ s0 s1 s2 s3 = true ∧ 1 ≤ m ∧ m ≤ 16 then
  (if (placeL s0 s1 s2 s3 m.toNat (isort (fkey s0 s1 s2 s3) view)).length < m.toNat then ([], 7) else (placeL s0 s1 s2 s3 m.toNat (isort (fkey s0 s1 s2 s3) view), 0))
 else ([], 1)
theorem good_out0 {g c mn mx : Int} (h : c9_ g c mn mx = true) : 0 ≤ g ∧ g ≤ 16 ∧ 0 ≤ c ∧ c ≤ 1024 := by
 simp only [c9_, Bool.and_eq_true, decide_eq_true_eq] at h
 omega
def pack_Place.f (l0 : List (S51)) (a1_0 a1_1 a1_2 a1_3 a2 : Int) : Option ((List (S52)) × Int) := if placeOk l0 = true then some (placeB l0 a1_0 a1_1 a1_2 a1_3 a2) else none
theorem put4 {W : World} {g : Nat} {t : TypeId} {a b c d a' b' c' d' : Value} (h : W.heap[g]? = some (.cells #[a, b, c, d] t (0, 0))) :
  ((((W.setCell ⟨g, 0, none⟩ a').setCell ⟨g, 1, none⟩ b').setCell ⟨g, 2, none⟩ c').setCell ⟨g, 3, none⟩ d').heap[g]? = some (.cells #[a', b', c', d'] t (0, 0)) := d4_ (d4_ (d4_ (d4_ h 0 _ rfl) 1 _ rfl) 2 _ rfl) 3 _ rfl
theorem grown4 (W : World) (g : Nat) {a' b' c' d' : Value} : W.grownBy ((((W.setCell ⟨g, 0, none⟩ a').setCell ⟨g, 1, none⟩ b').setCell ⟨g, 2, none⟩ c').setCell ⟨g, 3, none⟩ d') (some g) := grown_set (grown_set (grown_set (grown_set (d6_ W (some g)))))
theorem k4c {W : World} {g : Nat} {t : TypeId} {a b c d : Value} (h : A_ (W.heap[g]? = some (.cells #[a, b, c, d] t (0, 0)))) : W.cell? ⟨g, 0, none⟩ = some a ∧ W.cell? ⟨g, 1, none⟩ = some b ∧ W.cell? ⟨g, 2, none⟩ = some c ∧ W.cell? ⟨g, 3, none⟩ = some d := ⟨a0_ h.out 0, a0_ h.out 1, a0_ h.out 2, a0_ h.out 3⟩
theorem far4 {W : World} {g k : Nat} {t : TypeId} {cs : Array Value} {a' b' c' d' : Value} (h : W.heap[k]? = some (.cells cs t (0, 0))) (hne : k ≠ g) :
  ((((W.setCell ⟨g, 0, none⟩ a').setCell ⟨g, 1, none⟩ b').setCell ⟨g, 2, none⟩ c').setCell ⟨g, 3, none⟩ d').heap[k]? = some (.cells cs t (0, 0)) := c7_ (c7_ (c7_ (c7_ h hne _) hne _) hne _) hne _
theorem below4 {w W : World} {g : Nat} {a' b' c' d' : Value} (h : Below w.heap.size w W) (hg : w.heap.size ≤ g) :
  Below w.heap.size w ((((W.setCell ⟨g, 0, none⟩ a').setCell ⟨g, 1, none⟩ b').setCell ⟨g, 2, none⟩ c').setCell ⟨g, 3, none⟩ d') := b6_ (b6_ (b6_ (b6_ h hg) hg) hg) hg
theorem fit_pop {s0 s1 s2 s3 : Int} {f : S51} (hg : c9_ s0 s1 s2 s3 = true) (hf : freeOk f = true) (h : fitV s0 s1 s2 s3 f.f1 f.f2 ≠ 0) : ¬ popI f.f1 < s0 := fun hp => by
 have hb := good_out0 hg
 have h0 := (popI_bd f.f1).1
 apply h
 unfold fitV
 split
 ·rename_i hc
  unfold fitN
  have e1 : eachI (popI f.f1) s0 = 0 := by
   unfold eachI
   rw [if_neg (by omega)]
   exact Int.ediv_eq_zero_of_lt h0 hp
  have e2 : 0 ≤ eachI f.f2 s1 := by
   unfold eachI
   split
   ·decide
   ·exact Int.ediv_nonneg hc.2 hb.2.2.1
  rw [e1]
  omega
 ·rfl
theorem freeOk0 {f : S51} (hf : freeOk f = true) : 0 ≤ f.f1 ∧ f.f1 < 18446744073709551616 ∧ f.f2 ≤ 9223372036854775807 := by
 simp only [freeOk, w64B, Bool.and_eq_true, decide_eq_true_eq] at hf; omega
theorem piece_no {s0 s1 s2 s3 : Int} (f : S51) (hg : c9_ s0 s1 s2 s3 = true) (hf : freeOk f = true) (h : fitV s0 s1 s2 s3 f.f1 f.f2 = 0) : shape_Piece.f s0 s1 s2 s3 f.f0.f0 f.f0.f1 f.f1 f.f2 = some (0, 0, 0, 0, 0, 0, 0, 0, 7) := by
 unfold shape_Piece.f shape_Check.f shape_Fits.f
 rw [if_pos hg, Option.bind_some, if_pos rfl, if_pos (freeOk0 hf), Option.bind_some, if_pos h]
theorem piece_yes {s0 s1 s2 s3 : Int} (f : S51) (hg : c9_ s0 s1 s2 s3 = true) (hf : freeOk f = true) (h : fitV s0 s1 s2 s3 f.f1 f.f2 ≠ 0) : shape_Piece.f s0 s1 s2 s3 f.f0.f0 f.f0.f1 f.f1 f.f2 = some (f.f0.f0, f.f0.f1, lowI f.f1 s0, s1, f.f0.f0, f.f0.f1, Go.bits .andNot .u64 f.f1 (lowI f.f1 s0), wrap64 (f.f2 - s1), 0) := by
 have hp := fit_pop hg hf h
 have h0 := freeOk0 hf
 have hb := good_out0 hg
 have e : mask_Lowest.f f.f1 s0 = some (lowI f.f1 s0, 0) := by
  unfold mask_Lowest.f
  rw [if_pos ⟨h0.1, h0.2.1⟩, if_neg (by omega), if_neg hp]
 unfold shape_Piece.f shape_Check.f shape_Fits.f
 rw [if_pos hg, Option.bind_some, if_pos rfl, if_pos h0, Option.bind_some, if_neg h, e, Option.bind_some]
theorem leftF_ok (s0 s1 : Int) {f : S51} (hf : freeOk f = true) : freeOk (leftF s0 s1 f) = true := by
 have e : Go.bits .andNot .u64 f.f1 (lowI f.f1 s0) = ((BitVec.ofInt 64 f.f1 &&& ~~~ BitVec.ofInt 64 (lowI f.f1 s0)).toNat : Int) := by
  show IntKind.u64.wrap ((BitVec.ofInt 64 f.f1 &&& ~~~ BitVec.ofInt 64 (lowI f.f1 s0)).toNat : Int) = _
  rw [wrapN, Nat.mod_eq_of_lt (BitVec.isLt _)]
 have h1 := (BitVec.ofInt 64 f.f1 &&& ~~~ BitVec.ofInt 64 (lowI f.f1 s0)).isLt
 unfold leftF freeOk
 simp only
 rw [e, decide_eq_true (by omega), decide_eq_true (by omega)]
 exact w64_wrap _
def T46 : Bool × List (List Nat × List Nat) := (true, [([], []), ([], []), ([1], [1]), ([0, 2], [0, 2]), ([], []), ([3, 3, 0, 1, 2, 3], [0, 3]), ([4, 5, 0, 1, 2, 3, 4, 5], [4])])
def B46 : List Nat := [0, 0, 2, 7, 0, 15, 63]
theorem tab46 : rtab .any (opsOf Try.f46 12) = T46 := by kernel_rfl
theorem bits46 : waitsOk T46.2 B46 = true := by kernel_rfl
set_option maxHeartbeats 16000000 in
set_option maxRecDepth 100000 in
theorem place_any (A0 : Option Addr) (c0 : Nat) (l0 : List S51) (s0 s1 s2 s3 : Int) (m : Nat) (w : World) (hr0 : Kd.C k51 w A0 l0.length l0) (hc0 : l0.length ≤ c0) (hf : ∀ f ∈ l0, freeOk f = true) (hl : l0.length ≤ 1000000) (hg : c9_ s0 s1 s2 s3 = true) (hm1 : 1 ≤ m) (hm : m ≤ 16) :
  Calls Try.prog 46 #[.slice A0 l0.length c0, .agg #[.int .i64 s0, .int .i64 s1, .int .i64 s2, .int .i64 s3], .int .i64 (m : Int)] w fun e w' => ∃ v0_ : Value, e = .returned (.tuple #[v0_, .int .i64 (placeB l0 s0 s1 s2 s3 (m : Int)).2]) ∧ Kd.R k52 52 w' w.heap.size (fun _ => True) v0_ (placeB l0 s0 s1 s2 s3 (m : Int)).1 ∧ Below w.heap.size w w' := by
 have hu27 := Try.underlying27
 have hu22 := Try.underlying22
 have hu51 := Try.underlying51
 have hu39 := Try.underlying39
 have hu52 := Try.underlying52
 have HCHK := m_ (show shape_Check.f s0 s1 s2 s3 = some 0 from by unfold shape_Check.f; rw [if_pos hg])
 have HGD := m_ hg
 have HR0 := m_ hr0
 have HC0 := m_ hc0
 have HF := m_ hf
 obtain ⟨L, hL⟩ : ∃ L, L = isort (fkey s0 s1 s2 s3) l0 := ⟨_, rfl⟩
 have hLl : L.length = l0.length := by rw [hL]; exact (isort_perm _ _).length_eq
 have HLF := m_ (show ∀ f ∈ L, freeOk f = true from fun f h => hf f (by rw [hL] at h; exact (isort_perm (fkey s0 s1 s2 s3) l0).mem_iff.1 h))
 have hpB : placeB l0 s0 s1 s2 s3 (m : Int) = if (placeL s0 s1 s2 s3 m L).length < m then ([], 7) else (placeL s0 s1 s2 s3 m L, 0) := by
  unfold placeB
  rw [if_pos ⟨hg, by omega, by omega⟩, Int.toNat_natCast, hL]
 have HL := m_ hL
 generalize placeB l0 s0 s1 s2 s3 (m : Int) = pB at *
 have HPB := m_ hpB
 have q1 : ¬ (m : Int) < 1 := by omega
 have q2 : ¬ (16 : Int) < (m : Int) := by omega
 have hgd : c9_ s0 s1 s2 s3 = true := hg
 clear hr0 hc0 hf hg hL hpB
 go_enter Try.func46, Try.ntmps46
 go_wp2_with (first | ((with_reducible refine a3_ (N := 4) rfl ?_); refine bx 4 #[.int .i64 s0, .int .i64 s1, .int .i64 s2, .int .i64 s3] 27 ?_; intro gs hggs w1 hxgs hbgs; have HGS := m_ hxgs; have HB := m_ hbgs; clear hggs hxgs hbgs; obtain ⟨e0, e1, e2, e3⟩ := k4c HGS) | (go_at_call 83; refine (shape_Check.calls s0 s1 s2 s3 0 _ HCHK.out).mono ?_; rintro e w2 ⟨rfl, hb⟩; replace HGS := m_ (a1_ HGS.out hb); replace HB := m_ (b0_ HB.out hb); clear hb; obtain ⟨e0, e1, e2, e3⟩ := k4c HGS) | (go_at_call 84; refine (clone84_any A0 c0 l0 _ (Kd.C_below HR0.out HB.out) HC0.out (by omega)).mono ?_; rintro e w5 ⟨v5, rfl, hr5, hb5⟩; obtain ⟨A5, c5, rfl⟩ := Kd.R_slice hr5; have hbs := b7_ HB.out; replace HGS := m_ (a1_ HGS.out hb5); replace HB := m_ (b0_ HB.out hb5); have HR5 := m_ (Kd.R_lower hr5 hbs); clear hb5 hr5 hbs) | (go_at_call 85; have hb6 := b5_ (Below.refl w5.heap.size w5) (.cells #[.slice A5 l0.length c5] 22); have hr6 := Kd.R_below HR5.out hb6; have hs6 := a1_ HGS.out hb6; have hl6 := blk_new w5 (.cells #[.slice A5 l0.length c5] 22); refine (sortAny _ _ _ gs w5.heap.size s0 s1 s2 s3 l0 _ hs6 hl6 hr6 hl HF.out).mono ?_; rintro e w7 ⟨rfl, hr7, hg7⟩; have HRW := m_ hr7; have hgs7 := d9_ hs6 hg7 (Kd.R_ne hr6 hs6 (by decide)); have hgl7 := d9_ hl6 hg7 (Kd.R_ne hr6 hl6 (by decide)); replace HB := m_ (pw_below_grown (b0_ HB.out hb6) _ (b7_ (b0_ HB.out hb6)) hg7 (Kd.R_base hr6)); replace HGS := m_ hgs7; have HGL := m_ hgl7; clear hb6 hr6 hs6 hl6 hr7 hg7 hgs7 hgl7; have hz0 : w7.cell? ⟨w5.heap.size, 0, none⟩ = some (.slice A5 l0.length c5) := (a0_ HGL.out 0).trans rfl))
 rw [← HL.out] at HRW
 go_loopw [9, 34] (fun v9 v34 wr => ∃ (i : Nat) (vo : Value), i ≤ l0.length ∧ v34 = .int .i64 (i : Int) ∧ v9 = vo ∧ A_ (Kd.R k52 52 wr w.heap.size (fun _ => True) vo (placeL s0 s1 s2 s3 m (L.take i))) ∧ A_ (Kd.R k51 51 wr w.heap.size (fun _ => True) (.slice A5 l0.length c5) L) ∧ A_ (wr.heap[gs]? = some (.cells #[.int .i64 s0, .int .i64 s1, .int .i64 s2, .int .i64 s3] 27 (0, 0))) ∧ A_ (Below w.heap.size w wr)) (fun _ v34 _ => l0.length - (intOf v34).toNat)
 case atStart => exact ⟨0, _, Nat.zero_le _, rfl, rfl, ⟨Kd.R_nil _ _ _ _ _⟩, HRW, HGS, HB⟩
 case round =>
  clear HRW HGS HB HGL hz0 HR5
  obtain ⟨i, vo, hi, rfl, rfl, HO, HRW, HGS, HB⟩ := hrel
  by_cases hlt : i < l0.length
  ·have hlt' : (i : Int) < l0.length := by omega
   have hiL : i < L.length := by omega
   obtain ⟨x, hx⟩ : ∃ x, L[i]? = some x := ⟨_, List.getElem?_eq_getElem hiL⟩
   have HST := m_ (show placeL s0 s1 s2 s3 m (L.take (i + 1)) = cutL s0 s1 s2 s3 m 17 x (placeL s0 s1 s2 s3 m (L.take i)) from by
    rw [placeL_take _ _ _ _ _ _ _ hiL]; congr 1; rw [List.getElem?_eq_getElem hiL] at hx; injection hx)
   have HXO := m_ (HLF.out x (List.mem_of_getElem? hx))
   have hlen := placeL_le s0 s1 s2 s3 m (L.take i)
   obtain ⟨g5, c5', cur5, hv5, _, _, hh5⟩ := own51 HRW.out (by omega)
   injection hv5 with ha5 hn5 hc5
   subst ha5
   clear hn5 hc5
   obtain ⟨x0, x1, x2, x3⟩ := row51 (n := l0.length) HRW.out hx
   clear hh5 hx hiL
   generalize placeL s0 s1 s2 s3 m (L.take i) = out0 at *
   obtain ⟨goal, hgoal⟩ : ∃ g, g = placeL s0 s1 s2 s3 m (L.take (i + 1)) := ⟨_, rfl⟩
   have HGO := m_ hgoal
   replace HST := HST.out
   rw [← hgoal] at HST
   replace HST := m_ HST
   clear hgoal
   have HLL := m_ hLl
   have HGDD := m_ hgd
   clear hLl hgd
   go_wp2_with (first | ((with_reducible refine a3_ (N := 11) rfl ?_); refine bx 11 #[.int .i64 0, .int .i64 0, .int .u64 0, .int .i64 0] 51 ?_; intro gf hggf wf hxgf hbgf; have N5 := m_ (show gf ≠ g5 from by have := Kd.R_lt HRW.out g5 rfl; omega); have hb0 := HB.out; have HXF := m_ (put4 (a' := .int .i64 x.f0.f0) (b' := .int .i64 x.f0.f1) (c' := .int .u64 x.f1) (d' := .int .i64 x.f2) hxgf); have hb4 := below4 (a' := .int .i64 x.f0.f0) (b' := .int .i64 x.f0.f1) (c' := .int .u64 x.f1) (d' := .int .i64 x.f2) hbgf (Nat.le_of_eq hggf.symm); replace HO := m_ (Kd.R_below HO.out hb4); replace HRW := m_ (Kd.R_below HRW.out hb4); replace HGS := m_ (a1_ HGS.out hb4); replace HB := m_ (b0_ HB.out hb4); have hgfw : w.heap.size ≤ gf := Nat.le_trans (b7_ hb0) (Nat.le_of_eq hggf.symm); obtain ⟨c0_, c1_, c2_, c3_⟩ := k4c ⟨hxgf⟩; have z0_ := a2_ hxgf 0; have z1_ := a2_ hxgf 1; have z2_ := a2_ hxgf 2; have z3_ := a2_ hxgf 3; clear hb4 hbgf hb0 hggf hxgf))
   have hLl := HLL.out
   have hgd := HGDD.out
   clear x0 x1 x2 x3 c0_ c1_ c2_ c3_ z0_ z1_ z2_ z3_
   go_loopg [9] 17 (fun kq v9 w2 => ∃ (vo : Value) (f : S51) (out : List S52), v9 = vo ∧ m ≤ out.length + kq ∧ out.length ≤ m ∧ A_ (freeOk f = true) ∧ A_ (cutL s0 s1 s2 s3 m kq f out = goal) ∧ A_ (Kd.R k52 52 w2 w.heap.size (fun _ => True) vo out) ∧ A_ (w2.heap[gf]? = some (.cells #[.int .i64 f.f0.f0, .int .i64 f.f0.f1, .int .u64 f.f1, .int .i64 f.f2] 51 (0, 0))) ∧ A_ (Kd.R k51 51 w2 w.heap.size (fun _ => True) (.slice (some ⟨g5, 0, none⟩) l0.length c5) L) ∧ A_ (w2.heap[gs]? = some (.cells #[.int .i64 s0, .int .i64 s1, .int .i64 s2, .int .i64 s3] 27 (0, 0))) ∧ A_ (Below w.heap.size w w2))
   case atStart => exact ⟨_, x, out0, rfl, by omega, hlen, HXO, ⟨HST.out.symm⟩, HO, HXF, HRW, HGS, HB⟩
   case round =>
    clear HXO HST HO HXF HRW HGS HB hlen
    obtain ⟨vo, f, out, rfl, hfu, hlen, HFO, HCU, HO, HXF, HRW, HGS, HB⟩ := hrel
    obtain ⟨Ao, co, rfl⟩ := Kd.R_slice HO.out
    have HGF := m_ (show w.heap.size ≤ gf from hgfw)
    by_cases hlm : out.length < m
    ·have hlm' : (out.length : Int) < (m : Int) := by omega
     obtain ⟨k', hk'⟩ : ∃ k', gk = k' + 1 := ⟨gk - 1, by omega⟩
     rw [hk'] at HCU hfu
     have HKK := m_ hk'
     clear hk'
     obtain ⟨e0, e1, e2, e3⟩ := k4c HGS
     obtain ⟨f0, f1, f2, f3⟩ := k4c HXF
     by_cases hfit : fitV s0 s1 s2 s3 f.f1 f.f2 = 0
     ·have HPC := m_ (piece_no f hgd HFO.out hfit)
      have HEQ := m_ (show out = goal from by rw [← HCU.out, cutL, if_neg (fun h => h.2 hfit)])
      clear hfit hLl hgd
      go_wp2_with (first | (go_at_call 88; refine (shape_Piece.calls s0 s1 s2 s3 f.f0.f0 f.f0.f1 f.f1 f.f2 0 0 0 0 0 0 0 0 7 _ HPC.out).mono ?_; rintro e wp ⟨rfl, hb⟩; replace HXF := m_ (a1_ HXF.out hb); replace HGS := m_ (a1_ HGS.out hb); replace HRW := m_ (Kd.R_below HRW.out hb); replace HO := m_ (Kd.R_below HO.out hb); replace HB := m_ (b0_ HB.out hb); clear hb) | ((with_reducible refine a3_ (N := 12) rfl ?_); refine bx 12 #[.int .i64 0, .int .i64 0, .int .u64 0, .int .i64 0] 52 ?_; intro g12 hgg12 wa hxg12 hbg12; have HX12 := m_ hxg12; have HP := m_ hbg12; have hg12w : wp.heap.size ≤ g12 := Nat.le_of_eq hgg12.symm; have N12 := m_ (show some g12 ≠ (.slice Ao out.length co : Value).ownBlock from fun h => by have := Kd.R_lt HO.out g12 h.symm; omega); clear hgg12 hxg12 hbg12) | ((with_reducible refine a3_ (N := 13) rfl ?_); refine bx 13 #[.int .i64 0, .int .i64 0, .int .u64 0, .int .i64 0] 51 ?_; intro g13 hgg13 wb hxg13 hbg13; have HX13 := m_ hxg13; have N1213 := m_ (show g12 ≠ g13 from by have := c6_ HX12.out; omega); replace HX12 := m_ (a1_ HX12.out hbg13); have hg13w : wp.heap.size ≤ g13 := (by have := b7_ HP.out; omega); replace HP := m_ (b0_ HP.out hbg13); clear hgg13 hxg13 hbg13; obtain ⟨c0_, c1_, c2_, c3_⟩ := k4c HX12; have z0_ := a2_ HX12.out 0; have z1_ := a2_ HX12.out 1; have z2_ := a2_ HX12.out 2; have z3_ := a2_ HX12.out 3; obtain ⟨d0_, d1_, d2_, d3_⟩ := k4c HX13; have y0_ := a2_ HX13.out 0; have y1_ := a2_ HX13.out 1; have y2_ := a2_ HX13.out 2; have y3_ := a2_ HX13.out 3; have n1_ := N1213.out; have n2_ := N1213.out.symm))
      go_roundw
      case rel => exact ⟨i + 1, _, by omega, by go_num, rfl, ⟨by rw [← HGO.out, ← HEQ.out]; exact Kd.R_below HO.out (below4 (below4 HP.out hg12w) hg13w)⟩, ⟨Kd.R_below HRW.out (below4 (below4 HP.out hg12w) hg13w)⟩, ⟨a1_ HGS.out (below4 (below4 HP.out hg12w) hg13w)⟩, ⟨b0_ HB.out (below4 (below4 HP.out hg12w) hg13w)⟩⟩
      case measure => simp [intOf]; omega
     ·have HPC := m_ (piece_yes f hgd HFO.out hfit)
      have HEQ := m_ (show cutL s0 s1 s2 s3 m k' (leftF s0 s1 f) (out ++ [pieceL s0 s1 f]) = goal from by rw [← HCU.out, cutL, if_pos ⟨hlm, hfit⟩])
      have HFL := m_ (leftF_ok s0 s1 HFO.out)
      clear hfit hLl hgd
      go_wp2_with (first | (go_at_call 88; refine (shape_Piece.calls s0 s1 s2 s3 f.f0.f0 f.f0.f1 f.f1 f.f2 f.f0.f0 f.f0.f1 (lowI f.f1 s0) s1 f.f0.f0 f.f0.f1 (Go.bits .andNot .u64 f.f1 (lowI f.f1 s0)) (wrap64 (f.f2 - s1)) 0 _ HPC.out).mono ?_; rintro e wp ⟨rfl, hb⟩; replace HXF := m_ (a1_ HXF.out hb); replace HGS := m_ (a1_ HGS.out hb); replace HRW := m_ (Kd.R_below HRW.out hb); replace HO := m_ (Kd.R_below HO.out hb); replace HB := m_ (b0_ HB.out hb); clear hb) | ((with_reducible refine a3_ (N := 12) rfl ?_); refine bx 12 #[.int .i64 0, .int .i64 0, .int .u64 0, .int .i64 0] 52 ?_; intro g12 hgg12 wa hxg12 hbg12; have HX12 := m_ hxg12; have HP := m_ hbg12; have hg12w : wp.heap.size ≤ g12 := Nat.le_of_eq hgg12.symm; have N12 := m_ (show some g12 ≠ (.slice Ao out.length co : Value).ownBlock from fun h => by have := Kd.R_lt HO.out g12 h.symm; omega); clear hgg12 hxg12 hbg12) | ((with_reducible refine a3_ (N := 13) rfl ?_); refine bx 13 #[.int .i64 0, .int .i64 0, .int .u64 0, .int .i64 0] 51 ?_; intro g13 hgg13 wb hxg13 hbg13; have HX13 := m_ hxg13; have N1213 := m_ (show g12 ≠ g13 from by have := c6_ HX12.out; omega); replace HX12 := m_ (a1_ HX12.out hbg13); have hg13w : wp.heap.size ≤ g13 := (by have := b7_ HP.out; omega); replace HP := m_ (b0_ HP.out hbg13); clear hgg13 hxg13 hbg13; obtain ⟨c0_, c1_, c2_, c3_⟩ := k4c HX12; have z0_ := a2_ HX12.out 0; have z1_ := a2_ HX12.out 1; have z2_ := a2_ HX12.out 2; have z3_ := a2_ HX12.out 3; obtain ⟨d0_, d1_, d2_, d3_⟩ := k4c HX13; have y0_ := a2_ HX13.out 0; have y1_ := a2_ HX13.out 1; have y2_ := a2_ HX13.out 2; have y3_ := a2_ HX13.out 3; have n1_ := N1213.out; have n2_ := N1213.out.symm))
      have hP8 := b8_ (below4 (a' := .int .i64 (f.f0.f0)) (b' := .int .i64 (f.f0.f1)) (c' := .int .u64 (Go.bits .andNot .u64 f.f1 (lowI f.f1 s0))) (d' := .int .i64 (wrap64 (f.f2 - s1))) (below4 (a' := .int .i64 (f.f0.f0)) (b' := .int .i64 (f.f0.f1)) (c' := .int .u64 (lowI f.f1 s0)) (d' := .int .i64 (s1)) HP.out hg12w) hg13w)
      have hx12 := d7_ (far4 (a' := .int .i64 (f.f0.f0)) (b' := .int .i64 (f.f0.f1)) (c' := .int .u64 (Go.bits .andNot .u64 f.f1 (lowI f.f1 s0))) (d' := .int .i64 (wrap64 (f.f2 - s1))) (put4 (a' := .int .i64 (f.f0.f0)) (b' := .int .i64 (f.f0.f1)) (c' := .int .u64 (lowI f.f1 s0)) (d' := .int .i64 (s1)) HX12.out) N1213.out)
      have hx13 := d7_ (put4 (a' := .int .i64 (f.f0.f0)) (b' := .int .i64 (f.f0.f1)) (c' := .int .u64 (Go.bits .andNot .u64 f.f1 (lowI f.f1 s0))) (d' := .int .i64 (wrap64 (f.f2 - s1))) (far4 (a' := .int .i64 (f.f0.f0)) (b' := .int .i64 (f.f0.f1)) (c' := .int .u64 (lowI f.f1 s0)) (d' := .int .i64 (s1)) HX13.out N1213.out.symm))
      replace HXF := m_ (a1_ HXF.out hP8)
      replace HGS := m_ (a1_ HGS.out hP8)
      replace HRW := m_ (Kd.R_below HRW.out hP8)
      replace HO := m_ (Kd.R_below HO.out hP8)
      replace HB := m_ (b0_ HB.out hP8)
      replace HX12 := m_ hx12
      replace HX13 := m_ hx13
      have HT_ := m_ tab46
      have HW_ := m_ bits46
      clear hP8 hx12 hx13 HP c0_ c1_ c2_ c3_ z0_ z1_ z2_ z3_ d0_ d1_ d2_ d3_ y0_ y1_ y2_ y3_ n1_ n2_
      refine start_ (n := 7) (S := fun w' => w'.cell? ⟨g12, 0, none⟩ = some (.int .i64 (f.f0.f0)) ∧ w'.cell? ⟨g12, 1, none⟩ = some (.int .i64 (f.f0.f1)) ∧ w'.cell? ⟨g12, 2, none⟩ = some (.int .u64 (lowI f.f1 s0)) ∧ w'.cell? ⟨g12, 3, none⟩ = some (.int .i64 (s1)) ∧ w'.cell? ⟨g13, 0, none⟩ = some (.int .i64 (f.f0.f0)) ∧ w'.cell? ⟨g13, 1, none⟩ = some (.int .i64 (f.f0.f1)) ∧ w'.cell? ⟨g13, 2, none⟩ = some (.int .u64 (Go.bits .andNot .u64 f.f1 (lowI f.f1 s0))) ∧ w'.cell? ⟨g13, 3, none⟩ = some (.int .i64 (wrap64 (f.f2 - s1)))) (ds := [6]) (bm 7 0) (by kernel_rfl) rfl rfl ⟨(a0_ HX12.out 0).trans rfl, (a0_ HX12.out 1).trans rfl, (a0_ HX12.out 2).trans rfl, (a0_ HX12.out 3).trans rfl, (a0_ HX13.out 0).trans rfl, (a0_ HX13.out 1).trans rfl, (a0_ HX13.out 2).trans rfl, (a0_ HX13.out 3).trans rfl⟩ (fun hHeld => ?_)
      generalize World.drew _ = wq0 at HX12 HX13 HXF HGS HRW HB HO hHeld ⊢
      refine pu 0 (some 51) (bm 7 1) ?_
      refine tk 1 (some 52) (bm 7 3) ?_
      refine tk 4 (some 55) (bm 7 19) ?_
      refine one_ (i := 2) (N := some 53) (bm 7 23) rfl rfl (one_of HT_.out (by kernel_rfl)) (by decide) (fun K hK => ?_)
      refine value_ (w1 := ?_) (v := ?_) (by rfl) rfl ?_ ?_
      rotate_left 2
      ·go_simp
       constructor
       ·rfl
       ·rfl
      refine hK.out _ _ ⟨(a0_ (b9_ HX12.out _) 0).trans rfl, (a0_ (b9_ HX12.out _) 1).trans rfl, (a0_ (b9_ HX12.out _) 2).trans rfl, (a0_ (b9_ HX12.out _) 3).trans rfl, (a0_ (b9_ HX13.out _) 0).trans rfl, (a0_ (b9_ HX13.out _) 1).trans rfl, (a0_ (b9_ HX13.out _) 2).trans rfl, (a0_ (b9_ HX13.out _) 3).trans rfl⟩ (fun hHeld => ?_)
      clear hK K
      refine norm_ (a' := ?_) ?_ ?_
      rotate_left
      ·show Act.put _ (some 53) _ = _
       simp only [Act.put, List.setIfInBounds_toArray, List.set_cons_zero, List.set_cons_succ, i64_w, i32_w]
       rfl
      refine one_ (i := 3) (N := some 54) (bm 7 31) rfl rfl (one_of HT_.out (by kernel_rfl)) (by decide) (fun K hK => ?_)
      refine Kd.R_append_step k52 (w0 := w) w.heap.size (by rfl) (.tmp 51) (.tmp 53) 39 52 (.agg #[(.int .i64 0), (.int .i64 0), (.int .u64 0), (.int .i64 0)]) 32 rfl Try.underlying39 info52 rfl (by decide) (by omega) (.slice Ao out.length co) out (pieceL s0 s1 f) [.int .i64 (f.f0.f0), .int .i64 (f.f0.f1), .int .u64 (lowI f.f1 s0), .int .i64 (s1)] (fun _ => True) (fun _ => False) rfl rfl (k52_mkM _ _ _ (pieceL s0 s1 f)) (fun _ hk => hk.elim) (fun _ _ => trivial) HO.out HB.out (b7_ HB.out) (by omega) ?_
      intro v54 wn ho hb hg hat
      have hx12 := d9_ HX12.out hg (N12.out)
      have hx13 := d9_ HX13.out hg (Kd.R_ne HO.out HX13.out (by decide))
      replace HXF := m_ (d9_ HXF.out hg (Kd.R_ne HO.out HXF.out (by decide)))
      replace HGS := m_ (d9_ HGS.out hg (Kd.R_ne HO.out HGS.out (by decide)))
      replace HRW := m_ (Kd.R_over' HRW.out (Kd.R_typed HO.out) (by decide) hg)
      replace HX12 := m_ hx12
      replace HX13 := m_ hx13
      replace HB := m_ hb
      replace HO := m_ ho
      clear ho hb hg hat hx12 hx13 N12
      refine hK.out _ _ kc_ (fun hHeld => ?_)
      clear hK K
      refine norm_ (a' := ?_) ?_ ?_
      rotate_left
      ·show Act.put _ (some 54) _ = _
       simp only [Act.put, List.setIfInBounds_toArray, List.set_cons_zero, List.set_cons_succ, i64_w, i32_w]
       rfl
      refine pu 5 (some 9) (bm 7 63) ?_
      refine last_ (i := 6) (N := none) (bm 7 127) rfl rfl (one_of HT_.out (by kernel_rfl)) (by decide) (fun K hK => ?_)
      have hz0 := a2_ HXF.out 0
      have hz1 := a2_ HXF.out 1
      have hz2 := a2_ HXF.out 2
      have hz3 := a2_ HXF.out 3
      have hc0 := a0_ HXF.out 0
      have hc1 := a0_ HXF.out 1
      have hc2 := a0_ HXF.out 2
      have hc3 := a0_ HXF.out 3
      refine skip_ (w1 := ?_) (by rfl) rfl ?_ ?_
      rotate_left
      ·go_simp
       rfl
      refine hK.out _ _ ?_
      clear hK K hz0 hz1 hz2 hz3 hc0 hc1 hc2 hc3
      refine done_ (done_of HT_.out (by kernel_rfl)) ?_
      go_wp2
      go_roundg k'
      case rel => exact ⟨_, leftF s0 s1 f, out ++ [pieceL s0 s1 f], rfl, by simp; omega, by simp; omega, HFL, HEQ, ⟨Kd.R_grown2 HO.out rfl (grown4 wn gf) (fun k hk => by injection hk with hk; subst hk; exact Kd.R_ne HO.out HXF.out (by decide))⟩, ⟨put4 HXF.out⟩, ⟨Kd.R_grown2 HRW.out rfl (grown4 wn gf) (fun k hk => by injection hk with hk; subst hk; exact fun e => N5.out (by simpa [Value.ownBlock] using e))⟩, ⟨far4 HGS.out (blk_ne HGS.out HXF.out (by decide))⟩, ⟨below4 HB.out HGF.out⟩⟩
      case measure => have := HKK.out; omega
    ·have hlm' : ¬ (out.length : Int) < (m : Int) := by omega
     have HEQ := m_ (show out = goal from by
      rw [← HCU.out]
      cases gk with
      | zero => rfl
      | succ k => rw [cutL, if_neg (fun h => hlm h.1)])
     clear hLl hgd
     go_wp2
     go_roundw
     case rel => exact ⟨i + 1, _, by omega, by go_num, rfl, ⟨by rw [← HGO.out, ← HEQ.out]; exact HO.out⟩, HRW, HGS, HB⟩
     case measure => simp [intOf]; omega
  ·obtain rfl : i = l0.length := by omega
   have htk : L.take l0.length = L := List.take_of_length_le (by omega)
   rw [htk] at HO
   have hpb0 := HPB.out
   clear HPB
   generalize placeL s0 s1 s2 s3 m L = out at *
   have HPB := m_ hpb0
   clear hpb0 htk
   obtain ⟨Ao, co, rfl⟩ := Kd.R_slice HO.out
   by_cases hlm : out.length < m
   ·have hlm' : (out.length : Int) < (m : Int) := by omega
    have hpb := HPB.out
    rw [if_pos hlm] at hpb
    subst hpb
    go_wp2
    go_ret2
    exact ⟨_, rfl, Kd.R_nil _ _ _ _ _, HB.out⟩
   ·have hlm' : ¬ (out.length : Int) < (m : Int) := by omega
    have hpb := HPB.out
    rw [if_neg hlm] at hpb
    subst hpb
    go_wp2
    go_ret2
    exact ⟨_, rfl, HO.out, HB.out⟩
set_option maxHeartbeats 8000000 in
set_option maxRecDepth 100000 in
theorem place_bad (A0 : Option Addr) (c0 n0 : Nat) (s0 s1 s2 s3 m : Int) (w : World) (hb : ¬ (c9_ s0 s1 s2 s3 = true ∧ 1 ≤ m ∧ m ≤ 16)) :
  Calls Try.prog 46 #[.slice A0 n0 c0, .agg #[.int .i64 s0, .int .i64 s1, .int .i64 s2, .int .i64 s3], .int .i64 m] w fun e w' => ∃ v0_ : Value, e = .returned (.tuple #[v0_, .int .i64 1]) ∧ Kd.R k52 52 w' w.heap.size (fun _ => True) v0_ [] ∧ Below w.heap.size w w' := by
 have hu27 := Try.underlying27
 by_cases hg : c9_ s0 s1 s2 s3 = true
 ·have HCHK := m_ (show shape_Check.f s0 s1 s2 s3 = some 0 from by unfold shape_Check.f; rw [if_pos hg])
  have hm : ¬ (1 ≤ m ∧ m ≤ 16) := fun h => hb ⟨hg, h⟩
  clear hb hg
  by_cases h1 : m < 1
  ·have q1 : decide (m < 1) = true := by simp; omega
   clear hm
   go_enter Try.func46, Try.ntmps46
   go_wp2_with (first | ((with_reducible refine a3_ (N := 4) rfl ?_); refine bx 4 #[.int .i64 s0, .int .i64 s1, .int .i64 s2, .int .i64 s3] 27 ?_; intro gs hggs w1 hxgs hbgs; have HGS := m_ hxgs; have HB := m_ hbgs; clear hggs hxgs hbgs; obtain ⟨e0, e1, e2, e3⟩ := k4c HGS) | (go_at_call 83; refine (shape_Check.calls s0 s1 s2 s3 0 _ HCHK.out).mono ?_; rintro e w2 ⟨rfl, hb⟩; replace HB := m_ (b0_ HB.out hb); clear hb))
   go_ret2
   exact ⟨_, rfl, Kd.R_nil _ _ _ _ _, HB.out⟩
  ·have q1 : decide (m < 1) = false := by simp; omega
   have q2 : decide (16 < m) = true := by simp; omega
   clear hm
   go_enter Try.func46, Try.ntmps46
   go_wp2_with (first | ((with_reducible refine a3_ (N := 4) rfl ?_); refine bx 4 #[.int .i64 s0, .int .i64 s1, .int .i64 s2, .int .i64 s3] 27 ?_; intro gs hggs w1 hxgs hbgs; have HGS := m_ hxgs; have HB := m_ hbgs; clear hggs hxgs hbgs; obtain ⟨e0, e1, e2, e3⟩ := k4c HGS) | (go_at_call 83; refine (shape_Check.calls s0 s1 s2 s3 0 _ HCHK.out).mono ?_; rintro e w2 ⟨rfl, hb⟩; replace HB := m_ (b0_ HB.out hb); clear hb))
   go_ret2
   exact ⟨_, rfl, Kd.R_nil _ _ _ _ _, HB.out⟩
 ·have HCHK := m_ (show shape_Check.f s0 s1 s2 s3 = some 1 from by unfold shape_Check.f; rw [if_neg hg])
  clear hb hg
  go_enter Try.func46, Try.ntmps46
  go_wp2_with (first | ((with_reducible refine a3_ (N := 4) rfl ?_); refine bx 4 #[.int .i64 s0, .int .i64 s1, .int .i64 s2, .int .i64 s3] 27 ?_; intro gs hggs w1 hxgs hbgs; have HGS := m_ hxgs; have HB := m_ hbgs; clear hggs hxgs hbgs; obtain ⟨e0, e1, e2, e3⟩ := k4c HGS) | (go_at_call 83; refine (shape_Check.calls s0 s1 s2 s3 1 _ HCHK.out).mono ?_; rintro e w2 ⟨rfl, hb⟩; replace HB := m_ (b0_ HB.out hb); clear hb))
  go_ret2
  exact ⟨_, rfl, Kd.R_nil _ _ _ _ _, HB.out⟩
theorem pack_Place.calls (A0 : Option Addr) (c0 : Nat) (l0 : List (S51)) (a1_0 a1_1 a1_2 a1_3 a2 : Int) (r1 : List (S52)) (r2 : Int) (w : World) (hr0 : Kd.C k51 w A0 l0.length l0) (hc0 : l0.length ≤ c0) (h : pack_Place.f l0 a1_0 a1_1 a1_2 a1_3 a2 = some (r1, r2)) :
  Calls Try.prog 46 #[.slice A0 l0.length c0, .agg #[.int .i64 a1_0, .int .i64 a1_1, .int .i64 a1_2, .int .i64 a1_3], .int .i64 a2] w fun e w' => ∃ v0_ : Value, e = .returned (.tuple #[v0_, .int .i64 r2]) ∧ Kd.R k52 52 w' w.heap.size (fun _ => True) v0_ r1 ∧ Below w.heap.size w w' := by
 unfold pack_Place.f at h
 by_cases hok : placeOk l0 = true
 case neg => rw [if_neg hok] at h; cases h
 rw [if_pos hok] at h
 injection h with h
 unfold placeOk at hok
 simp only [Bool.and_eq_true, List.all_eq_true, decide_eq_true_eq] at hok
 by_cases hb : c9_ a1_0 a1_1 a1_2 a1_3 = true ∧ 1 ≤ a2 ∧ a2 ≤ 16
 ·obtain ⟨m, rfl⟩ := Int.eq_ofNat_of_zero_le (show 0 ≤ a2 by omega)
  have := place_any A0 c0 l0 a1_0 a1_1 a1_2 a1_3 m w hr0 hc0 hok.1 hok.2 hb.1 (by omega) (by omega)
  rw [h] at this
  exact this
 ·unfold placeB at h
  rw [if_neg hb] at h
  injection h with h1 h2
  subst h1 h2
  exact place_bad A0 c0 l0.length a1_0 a1_1 a1_2 a1_3 a2 w hb
end Go.Proofs.Ytckhjehibjdjdaa.P
namespace Go.Proofs.Ytckhjehibjdjdaa.P
open Go.RowKit Go.Proofs.YtckhjehibjdjdaaW.PrintWords Go.Proofs.YtckhjehibjdjdaaW.PrintLast Go.Proofs.YtckhjehibjdjdaaW.PrintMore
attribute [local go_sem] max2_int min2_int max_two min_two max_three min_three max_four min_four
def ensembleref01_Has.l0 : Nat → Int → Int → Int → Option (Bool)
 | 0, _, _, _ => none
 | k + 1, x0, x1, x5 => if x5 < x1 then (ensembleref01_Has.l0 k (IntKind.u64.wrap (Int.tdiv x0 2)) x1 (wrap64 (x5 + 1))) else (if x1 ≥ 0 then (if x1 < 64 then (some ((Int.tmod x0 2) == 1)) else (some false)) else (some false))
def ensembleref01_Has.f (k : Nat) (a0 a1 : Int) : Option (Bool) := ensembleref01_Has.l0 k a0 a1 0
set_option maxHeartbeats 8000000 in
set_option maxRecDepth 100000 in
theorem ensembleref01_Has.calls (k : Nat) (a0 a1 : Int) (r : Bool) (w : World) (h : ensembleref01_Has.f k a0 a1 = some r) :
  Calls Try.prog 106 #[.int .u64 a0, .int .i64 a1] w fun e w' => e = .returned (.bool r) ∧ Drawn0 w w' := by
 have H := h
 unfold ensembleref01_Has.f at H
 clear h
 have H' := m_ H
 clear H
 go_enter Try.func106, Try.ntmps106
 go_wp2
 go_loopg [0, 5] k (fun kq v0 v5 w' => ∃ (x0_1 : Int) (x5_1 : Int), v0 = .int .u64 x0_1 ∧ v5 = .int .i64 x5_1 ∧ A_ (ensembleref01_Has.l0 kq x0_1 a1 x5_1 = some r) ∧ A_ (kq ≤ k) ∧ Drawn0 w w')
 case atStart => exact ⟨(a0), (0), Z1, Z1, H', ⟨Nat.le_refl _⟩, by repeat (first | exact Drawn0.refl _ | apply Drawn0.step)⟩
 case round =>
  clear H'
  try clear c1
  try clear p2
  obtain ⟨x0_1, x5_1, rfl, rfl, HA, HK1, ⟨m1, rfl⟩⟩ := hrel
  cases gk with
  | zero => exact absurd HA.out (by simp [ensembleref01_Has.l0])
  | succ k1 =>
   have H := HA.out
   clear HA
   simp only [ensembleref01_Has.l0] at H
   by_cases c3 : x5_1 < a1
   ·rw [if_pos c3] at H
    have c3b0 : decide (x5_1 < a1) = true := decide_eq_true c3
    clear c3
    have H' := m_ H
    clear H
    go_wp2
    go_roundg k1
    case measure => have := HK1.out; omega
    case rel => exact ⟨(IntKind.u64.wrap (Int.tdiv x0_1 2)), (wrap64 (x5_1 + 1)), Z1, Z1, H', ⟨by have := HK1.out; omega⟩, by repeat (first | exact Drawn0.refl _ | apply Drawn0.step)⟩
   ·rw [if_neg c3] at H
    have c3b0 : decide (x5_1 < a1) = false := decide_eq_false c3
    clear c3
    by_cases c4 : a1 ≥ 0
    ·rw [if_pos c4] at H
     have c4b0 : decide (0 ≤ a1) = true := decide_eq_true c4
     clear c4
     by_cases c5 : a1 < 64
     ·rw [if_pos c5] at H
      have c5b0 : decide (a1 < 64) = true := decide_eq_true c5
      clear c5
      obtain rfl := Option.some.inj H
      go_wp2
      go_ret
      exact ⟨by first | rfl | (simp; done) | (simp [*]; done), by repeat (first | exact Drawn0.refl _ | apply Drawn0.step)⟩
     ·rw [if_neg c5] at H
      have c5b0 : decide (a1 < 64) = false := decide_eq_false c5
      clear c5
      obtain rfl := Option.some.inj H
      go_wp2
      go_ret
      exact ⟨by first | rfl | (simp; done) | (simp [*]; done), by repeat (first | exact Drawn0.refl _ | apply Drawn0.step)⟩
    ·rw [if_neg c4] at H
     have c4b0 : decide (0 ≤ a1) = false := decide_eq_false c4
     clear c4
     obtain rfl := Option.some.inj H
     go_wp2
     go_ret
     exact ⟨by first | rfl | (simp; done) | (simp [*]; done), by repeat (first | exact Drawn0.refl _ | apply Drawn0.step)⟩
def ensembleref01_Units.l0 : Nat → Int → List Int → Int → Option (List Int)
 | 0, _, _, _ => none
 | k + 1, x0, x3, x4 => if x4 < 64 then ((ensembleref01_Has.f k x0 x4).bind fun t134 => (if t134 = true then (if x3.length < 17592186044416 then (ensembleref01_Units.l0 k x0 (x3 ++ [x4]) (wrap64 (x4 + 1))) else (none)) else (ensembleref01_Units.l0 k x0 x3 (wrap64 (x4 + 1))))) else (some x3)
def ensembleref01_Units.f (k : Nat) (a0 : Int) : Option (List Int) := ensembleref01_Units.l0 k a0 ([] : List Int) 0
set_option maxHeartbeats 8000000 in
set_option maxRecDepth 100000 in
theorem ensembleref01_Units.calls (k : Nat) (a0 : Int) (r : List Int) (w : World) (h : ensembleref01_Units.f k a0 = some r) :
  Calls Try.prog 82 #[.int .u64 a0] w fun e w' => ∃ v0_ : Value, e = .returned (v0_) ∧ Kd.R (Kd.int .i64) 3 w' w.heap.size (fun _ => True) v0_ r ∧ Below w.heap.size w w' := by
 have HB := m_ (Below.refl w.heap.size w)
 have H := h
 unfold ensembleref01_Units.f at H
 clear h
 have H' := m_ H
 clear H
 go_enter Try.func82, Try.ntmps82
 go_wp2
 go_loopg [3, 4] k (fun kq v3 v4 w' => ∃ (x3_1 : List Int) (x4_1 : Int), v4 = .int .i64 x4_1 ∧ A_ (ensembleref01_Units.l0 kq a0 x3_1 x4_1 = some r) ∧ A_ (kq ≤ k) ∧ A_ (Kd.R (Kd.int .i64) 3 w' w.heap.size (fun _ => True) v3 x3_1) ∧ A_ (Below w.heap.size w w'))
 case atStart => exact ⟨(([] : List Int)), (0), Z1, H', ⟨Nat.le_refl _⟩, ⟨by first | exact Kd.R_nil _ _ _ _ _ | exact Kd.N_nil _ _ _ _ _ | exact Kd.V_nil _ _ _ _ _ | exact Kd.Q_nil _ _ _ _ _ | exact Kd.S_nil _ _ _ _ _⟩, ⟨hb_⟩⟩
 case round =>
  clear H'
  obtain ⟨x3_1, x4_1, rfl, HA, HK1, HO_3, HB⟩ := hrel
  cases gk with
  | zero => exact absurd HA.out (by simp [ensembleref01_Units.l0])
  | succ k1 =>
   have H := HA.out
   clear HA
   simp only [ensembleref01_Units.l0] at H
   by_cases c2 : x4_1 < 64
   ·rw [if_pos c2] at H
    have c2b0 : decide (x4_1 < 64) = true := decide_eq_true c2
    clear c2
    replace H := Option.bind_eq_some_iff.mp H
    obtain ⟨t134, A30, H⟩ := H
    try dsimp only at H
    have A3 := m_ A30
    clear A30
    by_cases c4 : t134 = true
    ·subst c4
     have H1 : (if x3_1.length < 17592186044416 then (ensembleref01_Units.l0 k1 a0 (x3_1 ++ [x4_1]) (wrap64 (x4_1 + 1))) else (none)) = some r := by rw [if_pos rfl] at H; exact H
     clear H
     have H := H1
     clear H1
     by_cases c5 : x3_1.length < 17592186044416
     ·rw [if_pos c5] at H
      have LMc5 := m_ c5
      clear c5
      obtain ⟨y135, hy135⟩ : ∃ y_ : List Int, y_ = (x3_1 ++ [x4_1]) := ⟨_, rfl⟩
      replace H : (ensembleref01_Units.l0 k1 a0 y135 (wrap64 (x4_1 + 1))) = some r := by first | (rw [hy135]; with_reducible exact H) | (have H2_ := (Option.bind_some _ _).symm.trans H; rw [hy135]; with_reducible exact H2_) | (have H2_ := (Option.bind_some _ _).symm.trans H; with_reducible exact H2_) | with_reducible exact H | (rw [hy135]; exact H) | exact H
      have Ny135 := m_ hy135
      clear hy135
      have H' := m_ H
      clear H
      go_wp2_with (first | ((with_reducible refine b3_ (f := 106) rfl ?_); refine goesL_ (some 11) rfl rfl Try.func106 (by kernel_rfl) rfl #[.int .u64 a0, .int .i64 x4_1] rfl Z0 ?_; (with_reducible refine (ensembleref01_Has.calls k1 a0 x4_1 true _ A3.out).mono ?_); rintro e w' ⟨rfl, ⟨nd, rfl⟩⟩; refine ⟨_, rfl, ?_⟩) | ((with_reducible refine gate_builtin (b := .append) (xs := #[.tmp 12, .tmp 14]) rfl ?_); at_builtin; refine Kd.R_append (Kd.int .i64) (w0 := w) w.heap.size rfl (.tmp 12) (.tmp 14) 71 3 (.int .i64 0) 8 rfl Try.underlying71 info3 rfl (by decide) (by omega) u3 x3_1 x4_1 [.int .i64 x4_1] (fun _ => True) (fun _ => False) rfl rfl ?aP (fun _ hk => hk.elim) ?aF ?aO ?aB ?aS ?aL ?_; (case aP => exact rfl); (case aB => exact hb_); (case aF => exact (fun _ _ => trivial)); (case aO => exact (by (with_reducible repeat (first | apply Kd.R_alloc | apply Kd.R_drewN | apply Kd.R_drew)); exact HO_3.out)); (case aS => exact (b7_ hb_)); (case aL => have := LMc5.out; omega); intro v136 w6 ho hb hg hat; rw [← Ny135.out] at ho; have HO137 := m_ (ho); replace HB := m_ (hb); clear HO_3; clear ho hb hg hat))
      go_roundg k1
      case measure => have := HK1.out; omega
      case rel => exact ⟨(y135), (wrap64 (x4_1 + 1)), Z1, H', ⟨by have := HK1.out; omega⟩, ⟨by (with_reducible repeat (first | apply Kd.R_alloc | apply Kd.R_drewN | apply Kd.R_drew)); exact HO137.out⟩, ⟨hb_⟩⟩
     ·rw [if_neg c5] at H
      exact absurd H (by simp)
    ·replace c4 := Bool.eq_false_iff.mpr c4
     subst c4
     have H1 : (ensembleref01_Units.l0 k1 a0 x3_1 (wrap64 (x4_1 + 1))) = some r := by rw [if_neg (show ¬ (false = true) by decide)] at H; exact H
     clear H
     have H := H1
     clear H1
     have H' := m_ H
     clear H
     go_wp2_with (first | ((with_reducible refine b3_ (f := 106) rfl ?_); refine goesL_ (some 11) rfl rfl Try.func106 (by kernel_rfl) rfl #[.int .u64 a0, .int .i64 x4_1] rfl Z0 ?_; (with_reducible refine (ensembleref01_Has.calls k1 a0 x4_1 false _ A3.out).mono ?_); rintro e w' ⟨rfl, ⟨nd, rfl⟩⟩; refine ⟨_, rfl, ?_⟩))
     go_roundg k1
     case measure => have := HK1.out; omega
     case rel => exact ⟨(x3_1), (wrap64 (x4_1 + 1)), Z1, H', ⟨by have := HK1.out; omega⟩, ⟨by (with_reducible repeat (first | apply Kd.R_alloc | apply Kd.R_drewN | apply Kd.R_drew)); exact HO_3.out⟩, ⟨hb_⟩⟩
   ·rw [if_neg c2] at H
    have c2b0 : decide (x4_1 < 64) = false := decide_eq_false c2
    clear c2
    obtain rfl := Option.some.inj H
    go_wp2
    go_ret
    exact ⟨_, by first | rfl | (simp [b2_, b1_] <;> rfl) | (simp [*, b2_, b1_] <;> rfl), by (with_reducible repeat (first | apply Kd.R_alloc | apply Kd.R_drewN | apply Kd.R_drew)); exact HO_3.out, hb_⟩
def ensembleref01_bit.l0 : Nat → Int → Int → Int → Option (Int)
 | 0, _, _, _ => none
 | k + 1, x0, x3, x4 => if x4 < x0 then (ensembleref01_bit.l0 k x0 (IntKind.u64.wrap (x3 * 2)) (wrap64 (x4 + 1))) else (some x3)
def ensembleref01_bit.f (k : Nat) (a0 : Int) : Option (Int) := ensembleref01_bit.l0 k a0 1 0
set_option maxHeartbeats 8000000 in
set_option maxRecDepth 100000 in
theorem ensembleref01_bit.calls (k : Nat) (a0 r : Int) (w : World) (h : ensembleref01_bit.f k a0 = some r) :
  Calls Try.prog 134 #[.int .i64 a0] w fun e w' => e = .returned (.int .u64 r) ∧ Drawn0 w w' := by
 have H := h
 unfold ensembleref01_bit.f at H
 clear h
 have H' := m_ H
 clear H
 go_enter Try.func134, Try.ntmps134
 go_wp2
 go_loopg [3, 4] k (fun kq v3 v4 w' => ∃ (x3_1 : Int) (x4_1 : Int), v3 = .int .u64 x3_1 ∧ v4 = .int .i64 x4_1 ∧ A_ (ensembleref01_bit.l0 kq a0 x3_1 x4_1 = some r) ∧ A_ (kq ≤ k) ∧ Drawn0 w w')
 case atStart => exact ⟨(1), (0), Z1, Z1, H', ⟨Nat.le_refl _⟩, by repeat (first | exact Drawn0.refl _ | apply Drawn0.step)⟩
 case round =>
  clear H'
  try clear c1
  obtain ⟨x3_1, x4_1, rfl, rfl, HA, HK1, ⟨m1, rfl⟩⟩ := hrel
  cases gk with
  | zero => exact absurd HA.out (by simp [ensembleref01_bit.l0])
  | succ k1 =>
   have H := HA.out
   clear HA
   simp only [ensembleref01_bit.l0] at H
   by_cases c2 : x4_1 < a0
   ·rw [if_pos c2] at H
    have c2b0 : decide (x4_1 < a0) = true := decide_eq_true c2
    clear c2
    have H' := m_ H
    clear H
    go_wp2
    go_roundg k1
    case measure => have := HK1.out; omega
    case rel => exact ⟨(IntKind.u64.wrap (x3_1 * 2)), (wrap64 (x4_1 + 1)), Z1, Z1, H', ⟨by have := HK1.out; omega⟩, by repeat (first | exact Drawn0.refl _ | apply Drawn0.step)⟩
   ·rw [if_neg c2] at H
    have c2b0 : decide (x4_1 < a0) = false := decide_eq_false c2
    clear c2
    obtain rfl := Option.some.inj H
    go_wp2
    go_ret
    exact ⟨by first | rfl | (simp; done) | (simp [*]; done), by repeat (first | exact Drawn0.refl _ | apply Drawn0.step)⟩
def ensembleref01_Lowest.l0 : Nat → Int → List Int → Int → Int → Option (Int × Int)
 | 0, _, _, _, _ => none
 | k + 1, x1, x6, x7, x8 => if x8 < x1 then (if 0 ≤ x8 then (if x8 < (x6.length : Int) then ((ensembleref01_bit.f k (rd x6 x8)).bind fun t142 => (ensembleref01_Lowest.l0 k x1 x6 (IntKind.u64.wrap (x7 + t142)) (wrap64 (x8 + 1)))) else (none)) else (none)) else (some (x7, 0))
def ensembleref01_Lowest.f (k : Nat) (a0 a1 : Int) : Option (Int × Int) := if a1 < 0 then (some (0, 1)) else ((ensembleref01_Units.f k a0).bind fun t138 => (if a1 > (t138.length : Int) then (some (0, 2)) else (ensembleref01_Lowest.l0 k a1 t138 0 0)))
set_option maxHeartbeats 8000000 in
set_option maxRecDepth 100000 in
theorem ensembleref01_Lowest.calls (k : Nat) (a0 a1 r1 r2 : Int) (w : World) (h : ensembleref01_Lowest.f k a0 a1 = some (r1, r2)) :
  Calls Try.prog 115 #[.int .u64 a0, .int .i64 a1] w fun e w' => e = .returned (.tuple #[.int .u64 r1, .int .i64 r2]) ∧ Below w.heap.size w w' := by
 have HB := m_ (Below.refl w.heap.size w)
 have H := h
 unfold ensembleref01_Lowest.f at H
 clear h
 by_cases c3 : a1 < 0
 ·rw [if_pos c3] at H
  have c3b0 : decide (a1 < 0) = true := decide_eq_true c3
  clear c3
  simp only [Option.some.injEq, Prod.mk.injEq] at H
  obtain ⟨rfl, rfl⟩ := H
  go_enter Try.func115, Try.ntmps115
  go_wp2
  go_ret2
  exact ⟨by first | rfl | (simp [b2_, b1_] <;> rfl) | (simp [*, b2_, b1_] <;> rfl), hb_⟩
 ·rw [if_neg c3] at H
  have c3b0 : decide (a1 < 0) = false := decide_eq_false c3
  clear c3
  replace H := Option.bind_eq_some_iff.mp H
  obtain ⟨t138, A40, H⟩ := H
  try dsimp only at H
  have A4 := m_ A40
  clear A40
  by_cases c5 : a1 > (t138.length : Int)
  ·rw [if_pos c5] at H
   have c5b0 : decide ((t138.length : Int) < a1) = true := decide_eq_true c5
   clear c5
   simp only [Option.some.injEq, Prod.mk.injEq] at H
   obtain ⟨rfl, rfl⟩ := H
   go_enter Try.func115, Try.ntmps115
   go_wp2_with (first | ((with_reducible refine b3_ (f := 82) rfl ?_); refine goesL_ (some 12) rfl rfl Try.func82 (by kernel_rfl) rfl #[.int .u64 a0] rfl Z0 ?_; (with_reducible refine (ensembleref01_Units.calls k a0 t138 _ A4.out).mono ?_); rintro e w6 ⟨v139, rfl, ho0, hb⟩; refine ⟨_, rfl, ?_⟩; have HO140 := m_ (Kd.R_lower ho0 (b7_ hb_)); replace HB := hs_ hb; (try clear hb); (try clear hb2); (try clear hk); (try clear hi); (try clear ho0); obtain ⟨Ao7, co7, eo7⟩ := Kd.R_slice HO140.out; subst eo7))
   go_ret2
   exact ⟨by first | rfl | (simp [b2_, b1_] <;> rfl) | (simp [*, b2_, b1_] <;> rfl), hb_⟩
  ·rw [if_neg c5] at H
   have c5b0 : decide ((t138.length : Int) < a1) = false := decide_eq_false c5
   clear c5
   have H' := m_ H
   clear H
   go_enter Try.func115, Try.ntmps115
   go_wp2_with (first | ((with_reducible refine b3_ (f := 82) rfl ?_); refine goesL_ (some 12) rfl rfl Try.func82 (by kernel_rfl) rfl #[.int .u64 a0] rfl Z0 ?_; (with_reducible refine (ensembleref01_Units.calls k a0 t138 _ A4.out).mono ?_); rintro e w8 ⟨v139, rfl, ho0, hb⟩; refine ⟨_, rfl, ?_⟩; have HO140 := m_ (Kd.R_lower ho0 (b7_ hb_)); replace HB := hs_ hb; (try clear hb); (try clear hb2); (try clear hk); (try clear hi); (try clear ho0); obtain ⟨Ao9, co9, eo9⟩ := Kd.R_slice HO140.out; subst eo9))
   go_loopg [7, 8] k (fun kq v7 v8 w' => ∃ (x7_1 : Int) (x8_1 : Int), v7 = .int .u64 x7_1 ∧ v8 = .int .i64 x8_1 ∧ A_ (ensembleref01_Lowest.l0 kq a1 t138 x7_1 x8_1 = some (r1, r2)) ∧ A_ (kq ≤ k) ∧ A_ (Kd.R (Kd.int .i64) 3 w' w.heap.size (fun _ => True) (.slice Ao9 t138.length co9) t138) ∧ A_ (Below w.heap.size w w'))
   case atStart => exact ⟨(0), (0), Z1, Z1, H', ⟨Nat.le_refl _⟩, ⟨by (with_reducible repeat (first | apply Kd.R_alloc | apply Kd.R_drewN | apply Kd.R_drew)); exact HO140.out⟩, ⟨hb_⟩⟩
   case round =>
    clear H'
    try clear c1
    try clear p2
    try clear c3
    try clear c3b0
    try clear c5
    try clear c5b0
    try clear c8
    obtain ⟨x7_1, x8_1, rfl, rfl, HA, HK1, HO_6, HB⟩ := hrel
    cases gk with
    | zero => exact absurd HA.out (by simp [ensembleref01_Lowest.l0])
    | succ k1 =>
     have H := HA.out
     clear HA
     simp only [ensembleref01_Lowest.l0] at H
     by_cases c10 : x8_1 < a1
     ·rw [if_pos c10] at H
      have c10b0 : decide (x8_1 < a1) = true := decide_eq_true c10
      clear c10
      by_cases c11 : 0 ≤ x8_1
      ·rw [if_pos c11] at H
       have c11b0 : decide (0 ≤ x8_1) = true := decide_eq_true c11
       clear c11
       by_cases c12 : x8_1 < (t138.length : Int)
       ·rw [if_pos c12] at H
        have c12b0 : decide (x8_1 < (t138.length : Int)) = true := decide_eq_true c12
        clear c12
        replace H := Option.bind_eq_some_iff.mp H
        obtain ⟨t142, A130, H⟩ := H
        try dsimp only at H
        have A13 := m_ A130
        clear A130
        have H' := m_ H
        clear H
        have p141 : 0 ≤ (x8_1 : Int) := of_decide_eq_true Z4
        have q141 : x8_1 < (t138.length : Int) := of_decide_eq_true Z4
        obtain ⟨ad141, e141, hx141_0⟩ := Kd.at_int (Kd.R_reads' HO_6.out).2.2 x8_1 p141 q141
        cases e141
        replace p141 := eq_true p141
        replace q141 := eq_true q141
        go_wp2_with (first | ((with_reducible refine b3_ (f := 134) rfl ?_); refine goesL_ (some 27) rfl rfl Try.func134 (by kernel_rfl) rfl #[.int .i64 (rd t138 x8_1)] rfl Z0 ?_; (with_reducible refine (ensembleref01_bit.calls k1 (rd t138 x8_1) t142 _ A13.out).mono ?_); rintro e w' ⟨rfl, ⟨nd, rfl⟩⟩; refine ⟨_, rfl, ?_⟩))
        go_roundg k1
        case measure => have := HK1.out; omega
        case rel => exact ⟨(IntKind.u64.wrap (x7_1 + t142)), (wrap64 (x8_1 + 1)), Z1, Z1, H', ⟨by have := HK1.out; omega⟩, ⟨by (with_reducible repeat (first | apply Kd.R_alloc | apply Kd.R_drewN | apply Kd.R_drew)); exact HO_6.out⟩, ⟨hb_⟩⟩
       ·rw [if_neg c12] at H
        exact absurd H (by simp)
      ·rw [if_neg c11] at H
       exact absurd H (by simp)
     ·rw [if_neg c10] at H
      have c10b0 : decide (x8_1 < a1) = false := decide_eq_false c10
      clear c10
      simp only [Option.some.injEq, Prod.mk.injEq] at H
      obtain ⟨rfl, rfl⟩ := H
      go_wp2
      go_ret2
      exact ⟨by first | rfl | (simp [b2_, b1_] <;> rfl) | (simp [*, b2_, b1_] <;> rfl), hb_⟩
end Go.Proofs.Ytckhjehibjdjdaa.P
