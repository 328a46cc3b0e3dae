/- FillLate: part 2 of the walk and of the plain law that it comes to. No condition. -/
import Derived.Test.YtckhjehibjdjdaaZFillLate1
import Derived.ArgAppend
import Derived.Below
import Derived.BigQuiet
import Derived.BigRegion
import Derived.Carry
import Derived.Deep.AppendLies
import Derived.Deep.CutBlock
import Derived.Deep.DeepCutAuto
import Derived.Deep.Draws
import Derived.Deep.LoopGhost
import Derived.Deep.OwnRows
import Derived.Deep.QuietTactic
import Derived.Deep.RegionHeld3
import Derived.DeepKeys3
import Derived.KernelRfl
import Derived.Laws.Bits64
import Derived.Laws.Bits64b
import Derived.Laws.BitsLemmas
import Derived.Laws.BytesArg
import Derived.Laws.IdiomCopy
import Derived.Laws.MakeOwn
import Derived.Laws.OwnMore
import Derived.Laws.Rows
import Derived.Laws.Slices
import Derived.Lib.AppendStr
import Derived.Lib.ConvBytes
import Derived.Lib.SliceRun
import Derived.LoopIn
import Derived.LoopN
import Derived.LoopNIn
import Derived.Maps.AppendAt
import Derived.Maps.Keyed
import Derived.Maps.Own
import Derived.Maps.OwnOps
import Derived.Maps.OwnSet
import Derived.Maps.Views
import Derived.OrdersHeld
import Derived.Outline
import Derived.OwnWalk
import Derived.OwnWalkIn
import Derived.RangeFuncBound
import Derived.RangeFuncBox
import Derived.RangeFuncCalls
import Derived.RangeFuncFrom
import Derived.RangeFuncLeaves
import Derived.RowKit
import Derived.RowKit3
import Derived.Shelf.Abstract
import Derived.Shelf.RegionOpen
import Derived.StillTailTactics
import Derived.Tactics
import Derived.TacticsInMore
import Derived.WalkKit
import Derived.WideLaws
namespace Go.Proofs.Ytckhjehibjdjdaa.P
open Go.RowKit Go.Shelf Go.Proofs.YtckhjehibjdjdaaW.PrintWords Go.Proofs.YtckhjehibjdjdaaW.PrintLast Go.Proofs.YtckhjehibjdjdaaW.PrintMore
attribute [local go_sem] Oper.semAt_some
set_option linter.unusedVariables false
set_option linter.unusedSimpArgs false
theorem row_at2 {X U R : List HV} {h a : Nat} (ha : a = X.length) (h1 : a ≤ h) (h2 : h - a < U.length) : (X ++ (U ++ R))[h]? = some U[h - a] := by
 rw [List.getElem?_append_right (by omega), show h - X.length = h - a by omega, List.getElem?_append_left h2, List.getElem?_eq_getElem h2]
theorem srt_take2 {U : List HV} (hU : Srt hkey U) {k : Nat} (hk : k < U.length) {v : HV} (h : ¬ hkey v < hkey U[k]) : ∀ y ∈ U.take (k + 1), hkey y ≤ hkey v := fun y hy => by
 obtain ⟨j, hj, rfl⟩ := List.mem_iff_getElem.1 hy
 rw [List.length_take] at hj
 rw [List.getElem_take]
 by_cases e : j = k
 ·subst e; omega
 ·have := List.pairwise_iff_getElem.1 hU j k (by omega) hk (by omega)
  omega
theorem srt_drop2 {U : List HV} (hU : Srt hkey U) {k : Nat} (hk : k < U.length) {v : HV} (h : hkey v < hkey U[k]) : ∀ y ∈ U.drop k, hkey v < hkey y := fun y hy => by
 obtain ⟨j, hj, rfl⟩ := List.mem_iff_getElem.1 hy
 rw [List.length_drop] at hj
 rw [List.getElem_drop]
 by_cases e : j = 0
 ·subst e; simp only [Nat.add_zero]; exact h
 ·have := List.pairwise_iff_getElem.1 hU k (k + j) hk (by omega) (by omega)
  omega
theorem bub2 (X B : List HV) (y v : HV) (R : List HV) : ((X ++ ((B ++ [y]) ++ (v :: R))).set (X.length + B.length + 1) y).set (X.length + B.length) v = X ++ (B ++ (v :: (y :: R))) := by
 rw [List.append_assoc, List.set_append_right _ _ (by omega), List.set_append_right _ _ (by omega), List.set_append_right _ _ (by omega), List.set_append_right _ _ (by omega), show X.length + B.length - X.length - B.length = 0 by omega, show X.length + B.length + 1 - X.length - B.length = 1 by omega]
 simp
theorem snoc_of {α : Type} (l : List α) (h : 0 < l.length) : ∃ l' y, l = l' ++ [y] := by
 have hne : l ≠ [] := fun e => by rw [e] at h; simp at h
 exact ⟨l.dropLast, l.getLast hne, (List.dropLast_concat_getLast hne).symm⟩
set_option maxHeartbeats 8000000 in
set_option maxRecDepth 100000 in
theorem symMerge_right (g n cap base a m b : Nat) (ok : Nat → Prop) (X U Z : List HV) (v : HV) (w : World) (hr : Kd.R kh 41 w base ok (.slice (some ⟨g, 0, none⟩) n cap) (X ++ (U ++ (v :: Z)))) (ha : a = X.length) (hm : m = X.length + U.length) (hb : b = X.length + U.length + 1) (hU1 : 1 < U.length) (hU : Srt hkey U) (hn : n ≤ 1000000000000) (hok : ∀ k, ok k → k < w.heap.size) :
  Calls Try.prog 121 #[.slice (some ⟨g, 0, none⟩) n cap, .int .i64 a, .int .i64 m, .int .i64 b, .func (.func 72) #[] #[]] w fun e w' => e = .returned (.tuple #[]) ∧ Kd.R kh 41 w' base ok (.slice (some ⟨g, 0, none⟩) n cap) (X ++ (mrg hkey U [v] ++ Z)) ∧ w.grownBy w' (some g) := by
 have hu41 := Try.underlying41
 have HR := Aside0.mk hr
 have HOK := Aside0.mk hok
 have HUS := Aside0.mk hU
 have hxl := (Kd.R_reads' hr).1
 simp only [List.length_append, List.length_cons] at hxl
 have bm : a < n ∧ m < n ∧ b ≤ n ∧ a ≤ m := by omega
 obtain ⟨b1, b2, b3, b4⟩ := bm
 have hma : ((m : Int) - (a : Int) == 1) = false := by simp; omega
 have hbm : ((b : Int) - (m : Int) == 1) = true := by simp; omega
 have HM := Aside0.mk (And.intro (show m = a + U.length by omega) hxl)
 have HAL := Aside0.mk ha
 clear hr hok hU hxl hm ha hb hU1
 go_enter Try.func121, Try.ntmps121
 go_wp2
 go_loopw [14, 15] (fun v14 v15 wr => ∃ (i j : Nat), v14 = .int .i64 (i : Int) ∧ v15 = .int .i64 (j : Int) ∧ a ≤ i ∧ i ≤ j ∧ j ≤ m ∧ Aside0 (∀ y ∈ U.take (i - a), hkey y ≤ hkey v) ∧ Aside0 (∀ y ∈ U.drop (j - a), hkey v < hkey y) ∧
  Aside0 (Kd.R kh 41 wr base ok (.slice (some ⟨g, 0, none⟩) n cap) (X ++ (U ++ (v :: Z)))) ∧ Aside0 (w.grownBy wr (some g))) (fun v14 v15 _ => (intOf v15).toNat - (intOf v14).toNat)
 case atStart => exact ⟨a, m, rfl, rfl, Nat.le_refl _, b4, Nat.le_refl _, ⟨by simp⟩, ⟨by rw [List.drop_eq_nil_of_le (by have := HM.out; omega)]; simp⟩, HR, ⟨grown_refl _ _⟩⟩
 case round =>
  clear HR
  obtain ⟨i, j, rfl, rfl, hi, hij, hj, HT, HD, HA, HG⟩ := hrel
  by_cases hlt : i < j
  ·have hlt' : (i : Int) < j := by omega
   obtain ⟨h, hh⟩ : ∃ h, h = (i + j) / 2 := ⟨_, rfl⟩
   have hh1 : i ≤ h ∧ h < j := by omega
   have h3 : h - a < U.length := by have := HM.out; omega
   have hry := row_at2 (R := v :: Z) HAL.out (Nat.le_trans hi hh1.1) h3
   have hrv : (X ++ (U ++ (v :: Z)))[m]? = some v := by rw [List.getElem?_append_right (by have := HAL.out; omega), List.getElem?_append_right (by have := HAL.out; have := HM.out; omega), show m - X.length - U.length = 0 by have := HAL.out; have := HM.out; omega]; rfl
   have hgy := at_kh HA.out h U[h - a] hry
   have hgv := at_kh HA.out m v hrv
   have ST := Aside0.mk (fun hl => srt_take2 HUS.out h3 (v := v) hl)
   have SD := Aside0.mk (fun hl => srt_drop2 HUS.out h3 (v := v) hl)
   generalize U[h - a] = y at *
   obtain ⟨y0, y1, y2, y3, y4⟩ := hgy
   obtain ⟨x0, x1, x2, x3, x4⟩ := hgv
   have HHH := Aside0.mk hh
   have c0 : (0 : Int) ≤ (i : Int) + (j : Int) := by omega
   have c1 : (i : Int) + (j : Int) ≤ 2000000000000 := by omega
   have i0 : (0 : Int) ≤ ((i : Int) + (j : Int)) / 2 := by omega
   have i1 : ((i : Int) + (j : Int)) / 2 < n := by omega
   have i2 : (((i : Int) + (j : Int)) / 2).toNat = h := by omega
   have i3 : (m : Int) < n := by omega
   have hh2 : (i ≤ h ∧ h < j) := hh1
   clear hry hrv hh hh1
   go_wp2
   go_still_tail 9, (by kernel_rfl)
   change wpList _ _ _ _ _ wr.drew
   have hAd := Kd.R_drew HA.out
   have hGd := grown_drew HG.out
   clear x0 x1 x2 x3 x4 y0 y1 y2 y3 y4
   generalize wr.drew = w3 at *
   have HA3 := Aside0.mk hAd
   have HG3 := Aside0.mk hGd
   clear hAd hGd HA HG
   have hcl := cmpI_lt v.1.f2 y.1.f2
   by_cases hlt2 : hkey v < hkey y
   ·rw [decide_eq_true (show v.1.f2 < y.1.f2 from hlt2)] at hcl
    have HSD := Aside0.mk (SD.out (by omega))
    clear hlt2 ST SD
    go_wp2_with (go_at_call 72; refine (cmpH_any v y _).mono ?_; rintro e w4 ⟨rfl, hb4⟩; have HA4 := Aside0.mk (Kd.R_below HA3.out hb4); have HG4 := Aside0.mk (grown_below HG3.out hb4); clear hb4)
    go_roundw
    case rel => exact ⟨i, h, rfl, int_i64 (by have := HHH.out; omega), hi, by omega, by omega, HT, HSD, HA4, HG4⟩
    case measure => simp [intOf]; omega
   ·rw [decide_eq_false (show ¬ v.1.f2 < y.1.f2 from hlt2)] at hcl
    have HST := Aside0.mk (ST.out (by omega))
    clear hlt2 ST SD
    go_wp2_with (go_at_call 72; refine (cmpH_any v y _).mono ?_; rintro e w4 ⟨rfl, hb4⟩; have HA4 := Aside0.mk (Kd.R_below HA3.out hb4); have HG4 := Aside0.mk (grown_below HG3.out hb4); clear hb4)
    go_roundw
    case rel => exact ⟨h + 1, j, int_i64 (by have := HHH.out; omega), rfl, by omega, by omega, hj, ⟨by rw [show h + 1 - a = h - a + 1 by omega]; exact HST.out⟩, HD, HA4, HG4⟩
    case measure => simp [intOf]; omega
  ·obtain rfl : i = j := by omega
   have hV1 : U.take (i - a) ++ U.drop (i - a) = U := List.take_append_drop _ U
   have hml : mrg hkey U [v] = U.take (i - a) ++ v :: U.drop (i - a) := by
    have := mrg_one_right hkey v (U.take (i - a)) (U.drop (i - a)) HT.out HD.out
    rw [hV1] at this
    exact this
   have HAa := HA.out
   rw [← hV1] at HAa
   have hlA : (U.take (i - a)).length = i - a := by rw [List.length_take]; have := HM.out; omega
   have hlB : (U.drop (i - a)).length = m - i := by rw [List.length_drop]; have := HM.out; omega
   have HA2 := Aside0.mk HAa
   have HLA := Aside0.mk (And.intro hlA hlB)
   have HML := Aside0.mk hml
   generalize U.take (i - a) = A at *
   generalize U.drop (i - a) = B at *
   obtain ⟨XA, hXA⟩ : ∃ XA, XA = X ++ A := ⟨_, rfl⟩
   have HLX := Aside0.mk (show XA.length = i from by rw [hXA, List.length_append]; have := HAL.out; omega)
   have HXA := Aside0.mk hXA
   clear HT HD HA HAa hlA hlB hV1 hml HUS hXA
   go_wp2
   obtain ⟨wo, hwo⟩ : ∃ wo : World, wo = wr := ⟨_, rfl⟩
   subst hwo
   go_loopw [17] (fun v17 w2 => ∃ (k : Nat) (B1 B2 : List HV), v17 = .int .i64 (k : Int) ∧ i ≤ k ∧ k ≤ m ∧ Aside0 (B1.length = k - i) ∧ Aside0 (B1 ++ B2 = B) ∧ Aside0 (Kd.R kh 41 w2 base ok (.slice (some ⟨g, 0, none⟩) n cap) (XA ++ (B1 ++ (v :: (B2 ++ Z))))) ∧ Aside0 (w.grownBy w2 (some g))) (fun v17 _ => (intOf v17).toNat - i)
   case atStart => exact ⟨m, B, [], rfl, by omega, Nat.le_refl _, ⟨by have := HLA.out; omega⟩, ⟨by simp⟩, ⟨by have := HA2.out; rw [HXA.out]; simpa using this⟩, HG⟩
   case round =>
    clear HA2 HG
    obtain ⟨k, B1, B2, rfl, hk, hki, HL1, HAA, HA, HG⟩ := hrel
    by_cases hk2 : i < k
    ·obtain ⟨B', y, hB'⟩ := snoc_of B1 Z7
     subst hB'
     have hlt' : (i : Int) < (k : Int) := by omega
     have hX := HAL.out
     have hL1 := HL1.out
     rw [List.length_append, List.length_singleton] at hL1
     have hLX := HLX.out
     have hpos : XA.length + B'.length + 1 = k := by omega
     have hrv : (XA ++ ((B' ++ [y]) ++ (v :: (B2 ++ Z))))[k]? = some v := by rw [List.getElem?_append_right (by omega), List.getElem?_append_right (by simp only [List.length_append, List.length_singleton]; omega), show k - XA.length - (B' ++ [y]).length = 0 by simp only [List.length_append, List.length_singleton]; omega]; rfl
     have hry : (XA ++ ((B' ++ [y]) ++ (v :: (B2 ++ Z))))[k - 1]? = some y := by rw [List.append_assoc, List.getElem?_append_right (by omega), List.getElem?_append_right (by omega), show k - 1 - XA.length - B'.length = 0 by omega]; rfl
     obtain ⟨x0, x1, x2, x3, x4⟩ := at_kh HA.out k v hrv
     obtain ⟨y0, y1, y2, y3, y4⟩ := at_kh HA.out (k - 1) y hry
     obtain ⟨k', hk'⟩ : ∃ k', k = k' + 1 := ⟨k - 1, by omega⟩
     subst hk'
     rw [Nat.add_sub_cancel] at y0 y1 y2 y3 y4
     obtain ⟨g', cap', cur, hv, _, _, hh⟩ := ownh HA.out (by simp only [List.length_append, List.length_cons]; omega)
     injection hv with ha hn1 hc1
     injection ha with ha
     injection ha with ha
     subst ha
     clear hn1 hc1 hrv hry
     have z0 := blk_frozen hh (k' * 5)
     have z1 := blk_frozen hh (k' * 5 + 1)
     have z2 := blk_frozen hh (k' * 5 + 2)
     have z3 := blk_frozen hh (k' * 5 + 3)
     have z4 := blk_frozen hh (k' * 5 + 4)
     have v0 := blk_frozen hh ((k' + 1) * 5)
     have v1 := blk_frozen hh ((k' + 1) * 5 + 1)
     have v2 := blk_frozen hh ((k' + 1) * 5 + 2)
     have v3 := blk_frozen hh ((k' + 1) * 5 + 3)
     have v4 := blk_frozen hh ((k' + 1) * 5 + 4)
     clear hh
     have p1 := put_kh HA.out (k' + 1) (by omega) y
     have p2 := put_kh p1.1 k' (by omega) v
     have hR5 := Kd.R_drew p2.1
     have hG5 := grown_drew (grown_grown (grown_grown HG.out p1.2) p2.2)
     have hbub := bub2 XA B' y v (B2 ++ Z)
     rw [show XA.length + B'.length = k' by omega] at hbub
     rw [hbub] at hR5
     simp only [hc, World.setCells, Nat.add_assoc, Nat.reduceAdd] at hR5 hG5
     have HR5 := Aside0.mk hR5
     have HG5 := Aside0.mk hG5
     have HL5 := Aside0.mk (show B'.length = k' - i from by omega)
     have HA5 := Aside0.mk (show B' ++ (y :: B2) = B from by rw [← HAA.out]; simp)
     clear hR5 hG5 p1 p2 hbub hX hL1 hLX hpos HL1 HAA HA HG
     have e1 : IntKind.i64.wrap ((k' : Int) + 1 - 1) = (k' : Int) := by rw [IntKind.wrap_i64]; omega
     have i0 : (0 : Int) ≤ (k' : Int) + 1 := by omega
     have i1 : (k' : Int) + 1 < n := by omega
     have i2 : (k' : Int) < n := by omega
     have i4 : ((k' : Int) + 1).toNat = k' + 1 := by omega
     have i5 : (k' : Int) + 1 - 1 = (k' : Int) := by omega
     go_wp2
     go_region
     revert HR5 HG5
     generalize World.drew _ = w5
     intro HR5 HG5
     go_wp2
     go_roundw
     case rel => exact ⟨k', B', y :: B2, by first | rfl | exact int_i64 (by omega), by omega, by omega, HL5, HA5, HR5, HG5⟩
     case measure => simp [intOf]; omega
    ·obtain rfl : i = k := by omega
     have hlt' : ¬ (i : Int) < (i : Int) := by omega
     have hB1 : B1 = [] := List.eq_nil_of_length_eq_zero Z7
     subst hB1
     have hAA := HAA.out
     rw [List.nil_append] at hAA
     have hfin := HA.out
     rw [hAA, HXA.out] at hfin
     have HF := Aside0.mk (show Kd.R kh 41 wr base ok (.slice (some ⟨g, 0, none⟩) n cap) (X ++ ((A ++ v :: B) ++ Z)) from by simpa using hfin)
     clear hAA hfin HAA HL1
     go_wp2
     first | go_end0 | refine bodyPost_ret (results_none rfl _ _ _) rfl ?_
     exact ⟨rfl, by rw [HML.out]; exact HF.out, HG.out⟩
end Go.Proofs.Ytckhjehibjdjdaa.P
namespace Go.Proofs.Ytckhjehibjdjdaa.P
open Go.RowKit Go.Shelf Go.Proofs.YtckhjehibjdjdaaW.PrintWords Go.Proofs.YtckhjehibjdjdaaW.PrintLast Go.Proofs.YtckhjehibjdjdaaW.PrintMore
attribute [local go_sem] Oper.semAt_some
set_option linter.unusedVariables false
set_option linter.unusedSimpArgs false
theorem srt_le {V : List HV} (hV : Srt hkey V) {i j : Nat} {x y : HV} (hij : i ≤ j) (hx : V[i]? = some x) (hy : V[j]? = some y) : hkey x ≤ hkey y := by
 obtain ⟨hi, rfl⟩ := List.getElem?_eq_some_iff.1 hx
 obtain ⟨hj, rfl⟩ := List.getElem?_eq_some_iff.1 hy
 by_cases e : i = j
 ·subst e; exact Int.le_refl _
 ·exact List.pairwise_iff_getElem.1 hV i j hi hj (by omega)
theorem split12 {U V : List HV} (hU : Srt hkey U) (hV : Srt hkey V) {p q : Nat} (hp : p ≤ U.length) (h : p = 0 ∨ V.length ≤ q ∨ ∀ x y, U[p - 1]? = some x → V[q]? = some y → hkey x ≤ hkey y) : ∀ x ∈ U.take p, ∀ y ∈ V.drop q, hkey x ≤ hkey y := fun x hx y hy => by
 obtain ⟨i, hi, rfl⟩ := List.mem_iff_getElem.1 hx
 obtain ⟨j, hj, rfl⟩ := List.mem_iff_getElem.1 hy
 rw [List.length_take] at hi
 rw [List.length_drop] at hj
 rw [List.getElem_take, List.getElem_drop]
 rcases h with h | h | h
 ·omega
 ·omega
 ·have h1 := srt_le hU (i := i) (j := p - 1) (by omega) (List.getElem?_eq_getElem (by omega)) (List.getElem?_eq_getElem (by omega))
  have h2 := srt_le hV (i := q) (j := q + j) (by omega) (List.getElem?_eq_getElem (by omega)) (List.getElem?_eq_getElem (by omega))
  have h3 := h _ _ (List.getElem?_eq_getElem (show p - 1 < U.length by omega)) (List.getElem?_eq_getElem (show q < V.length by omega))
  omega
theorem split21 {U V : List HV} (hU : Srt hkey U) (hV : Srt hkey V) {p q : Nat} (hq : q ≤ V.length) (h : U.length ≤ p ∨ q = 0 ∨ ∀ x y, U[p]? = some x → V[q - 1]? = some y → hkey y < hkey x) : ∀ x ∈ U.drop p, ∀ y ∈ V.take q, hkey y < hkey x := fun x hx y hy => by
 obtain ⟨i, hi, rfl⟩ := List.mem_iff_getElem.1 hx
 obtain ⟨j, hj, rfl⟩ := List.mem_iff_getElem.1 hy
 rw [List.length_drop] at hi
 rw [List.length_take] at hj
 rw [List.getElem_take, List.getElem_drop]
 rcases h with h | h | h
 ·omega
 ·omega
 ·have h1 := srt_le hU (i := p) (j := p + i) (by omega) (List.getElem?_eq_getElem (by omega)) (List.getElem?_eq_getElem (by omega))
  have h2 := srt_le hV (i := j) (j := q - 1) (by omega) (List.getElem?_eq_getElem (by omega)) (List.getElem?_eq_getElem (by omega))
  have h3 := h _ _ (List.getElem?_eq_getElem (show p < U.length by omega)) (List.getElem?_eq_getElem (show q - 1 < V.length by omega))
  omega
def SymC (sz : Nat) : Prop := ∀ (g n cap base a m b : Nat) (ok : Nat → Prop) (X U V Z : List HV) (w : World), U.length + V.length = sz → Kd.R kh 41 w base ok (.slice (some ⟨g, 0, none⟩) n cap) (X ++ (U ++ (V ++ Z))) → a = X.length → m = X.length + U.length → b = X.length + U.length + V.length → 0 < U.length → 0 < V.length → Srt hkey U → Srt hkey V → n ≤ 1000000000000 → (∀ k, ok k → k < w.heap.size) →
  Calls Try.prog 121 #[.slice (some ⟨g, 0, none⟩) n cap, .int .i64 a, .int .i64 m, .int .i64 b, .func (.func 72) #[] #[]] w fun e w' => e = .returned (.tuple #[]) ∧ Kd.R kh 41 w' base ok (.slice (some ⟨g, 0, none⟩) n cap) (X ++ (mrg hkey U V ++ Z)) ∧ w.grownBy w' (some g)
set_option maxHeartbeats 16000000 in
set_option maxRecDepth 100000 in
theorem symMerge_gen (sz : Nat) (IH : ∀ s, s < sz → SymC s) (g n cap base a m b : Nat) (ok : Nat → Prop) (X U V Z : List HV) (w : World) (hsz : U.length + V.length = sz) (hr : Kd.R kh 41 w base ok (.slice (some ⟨g, 0, none⟩) n cap) (X ++ (U ++ (V ++ Z)))) (ha : a = X.length) (hm : m = X.length + U.length) (hb : b = X.length + U.length + V.length) (hU2 : 1 < U.length) (hV2 : 1 < V.length) (hU : Srt hkey U) (hV : Srt hkey V) (hn : n ≤ 1000000000000) (hok : ∀ k, ok k → k < w.heap.size) :
  Calls Try.prog 121 #[.slice (some ⟨g, 0, none⟩) n cap, .int .i64 a, .int .i64 m, .int .i64 b, .func (.func 72) #[] #[]] w fun e w' => e = .returned (.tuple #[]) ∧ Kd.R kh 41 w' base ok (.slice (some ⟨g, 0, none⟩) n cap) (X ++ (mrg hkey U V ++ Z)) ∧ w.grownBy w' (some g) := by
 have hu41 := Try.underlying41
 have HR := Aside0.mk hr
 have HOK := Aside0.mk hok
 have HS := Aside0.mk (And.intro hU hV)
 have HIH := Aside0.mk IH
 have hxl := (Kd.R_reads' hr).1
 simp only [List.length_append] at hxl
 obtain ⟨mid, hmid⟩ : ∃ mid, mid = (a + b) / 2 := ⟨_, rfl⟩
 have bm : a + 1 < m ∧ m + 1 < b ∧ b ≤ n ∧ a < mid ∧ mid < b ∧ 2 * mid ≤ a + b ∧ a + b ≤ 2 * mid + 1 := by omega
 obtain ⟨b1, b2, b3, b4, b5, b6, b7⟩ := bm
 obtain ⟨lo, hi, hlh⟩ : ∃ lo hi : Nat, (mid < m ∧ lo + b = mid + m ∧ hi = mid) ∨ (¬ mid < m ∧ lo = a ∧ hi = m) := by
  by_cases h : mid < m
  ·exact ⟨mid + m - b, mid, .inl ⟨h, by omega, rfl⟩⟩
  ·exact ⟨a, m, .inr ⟨h, rfl, rfl⟩⟩
 have bl : a ≤ lo ∧ lo ≤ hi ∧ hi ≤ m ∧ hi ≤ mid ∧ mid + m ≤ lo + b := by omega
 obtain ⟨l1, l2, l3, l4, l5⟩ := bl
 have HLH := Aside0.mk hlh
 have hma : ((m : Int) - (a : Int) == 1) = false := by simp; omega
 have hbm : ((b : Int) - (m : Int) == 1) = false := by simp; omega
 have hmd : ((a : Int) + (b : Int)) / 2 = (mid : Int) := by omega
 have HLN := Aside0.mk (show X.length = a ∧ U.length = m - a ∧ V.length = b - m ∧ U.length + V.length = sz from by omega)
 clear hr hok hU hV hxl hm ha hb hU2 hV2 IH hsz hmid
 rcases hlh with ⟨q1, q2, q3⟩ | ⟨q1, q2, q3⟩
 ·have t1 : decide ((mid : Int) < (m : Int)) = true := by simp; omega
  have t2 : (mid : Int) + (m : Int) - (b : Int) = (lo : Int) := by omega
  have t3 : (mid : Int) < (m : Int) := by omega
  subst q3
  clear q2 t1
  go_enter Try.func121, Try.ntmps121
  go_wp2
  go_loopw [20, 21] (fun v20 v21 wr => ∃ (s r : Nat), v20 = .int .i64 (s : Int) ∧ v21 = .int .i64 (r : Int) ∧ lo ≤ s ∧ s ≤ r ∧ r ≤ hi ∧ Aside0 (∀ c x y, lo ≤ c → c < s → U[c - a]? = some x → V[hi + m - 1 - c - m]? = some y → hkey x ≤ hkey y) ∧ Aside0 (∀ c x y, r ≤ c → c < hi → U[c - a]? = some x → V[hi + m - 1 - c - m]? = some y → hkey y < hkey x) ∧
   Aside0 (Kd.R kh 41 wr base ok (.slice (some ⟨g, 0, none⟩) n cap) (X ++ (U ++ (V ++ Z)))) ∧ Aside0 (w.grownBy wr (some g))) (fun v20 v21 _ => (intOf v21).toNat - (intOf v20).toNat)
  case atStart => exact ⟨lo, hi, rfl, rfl, Nat.le_refl _, l2, Nat.le_refl _, ⟨fun c x y h1 h2 => by omega⟩, ⟨fun c x y h1 h2 => by omega⟩, HR, ⟨grown_refl _ _⟩⟩
  case round =>
   clear HR
   obtain ⟨s, r, rfl, rfl, hls, hsr, hrh, HT, HD, HA, HG⟩ := hrel
   by_cases hlt : s < r
   ·have hlt' : (s : Int) < r := by omega
    obtain ⟨c, hc⟩ : ∃ c, c = (s + r) / 2 := ⟨_, rfl⟩
    have hc1 : s ≤ c ∧ c < r := by omega
    obtain ⟨hc2, hc3⟩ := hc1
    obtain ⟨d, hd⟩ : ∃ d, d = hi + m - 1 - c := ⟨_, rfl⟩
    have hd1 : m ≤ d ∧ d < b := by omega
    have hxu : U[c - a]? = some _ := List.getElem?_eq_getElem (show c - a < U.length by have := HLN.out; omega)
    have hyv : V[d - m]? = some _ := List.getElem?_eq_getElem (show d - m < V.length by have := HLN.out; omega)
    generalize U[c - a]'_ = x at *
    generalize V[d - m]'_ = y at *
    have hrx : (X ++ (U ++ (V ++ Z)))[c]? = some x := by rw [List.getElem?_append_right Z10, List.getElem?_append_left Z10, show c - X.length = c - a by have := HLN.out; omega]; exact hxu
    have hry : (X ++ (U ++ (V ++ Z)))[d]? = some y := by rw [List.getElem?_append_right Z10, List.getElem?_append_right Z10, List.getElem?_append_left Z10, show d - X.length - U.length = d - m by have := HLN.out; omega]; exact hyv
    obtain ⟨x0, x1, x2, x3, x4⟩ := at_kh HA.out c x hrx
    obtain ⟨y0, y1, y2, y3, y4⟩ := at_kh HA.out d y hry
    have HXU := Aside0.mk hxu
    have HYV := Aside0.mk hyv
    have HDD := Aside0.mk hd
    have hcc : ((s : Int) + (r : Int)) / 2 = (c : Int) := by omega
    have hdd : (hi : Int) + (m : Int) - 1 - (c : Int) = (d : Int) := by omega
    have hdw : IntKind.i64.wrap ((hi : Int) + (m : Int) - 1 - (c : Int)) = (d : Int) := by rw [IntKind.wrap_i64]; omega
    have hdw2 : IntKind.i64.wrap (d : Int) = (d : Int) := by rw [IntKind.wrap_i64]; omega
    have j0 : (c : Int) < n := by omega
    have j1 : (d : Int) < n := by omega
    have c0 : (0 : Int) ≤ (s : Int) + (r : Int) := by omega
    have c1 : (s : Int) + (r : Int) ≤ 2000000000000 := by omega
    clear hxu hyv hrx hry hd hc
    go_wp2
    go_still_tail 11, (by kernel_rfl)
    change wpList _ _ _ _ _ wr.drew
    have hAd := Kd.R_drew HA.out
    have hGd := grown_drew HG.out
    clear x0 x1 x2 x3 x4 y0 y1 y2 y3 y4
    generalize wr.drew = w3 at *
    have HA3 := Aside0.mk hAd
    have HG3 := Aside0.mk hGd
    clear hAd hGd HA HG
    have hcl := cmpI_lt y.1.f2 x.1.f2
    by_cases hlt2 : hkey y < hkey x
    ·rw [decide_eq_true (show y.1.f2 < x.1.f2 from hlt2)] at hcl
     have HLT := Aside0.mk hlt2
     clear hlt2
     go_wp2_with (go_at_call 72; refine (cmpH_any y x _).mono ?_; rintro e w4 ⟨rfl, hb4⟩; have HA4 := Aside0.mk (Kd.R_below HA3.out hb4); have HG4 := Aside0.mk (grown_below HG3.out hb4); clear hb4)
     go_roundw
     case rel => exact ⟨s, c, rfl, by first | rfl | exact int_i64 (by omega), hls, hc2, by omega, HT, ⟨fun c' x' y' h1 h2 h3 h4 => by
      by_cases e : r ≤ c'
      ·exact HD.out c' x' y' e h2 h3 h4
      ·have k1 := srt_le HS.out.1 (i := c - a) (j := c' - a) (by omega) HXU.out h3
       have k2 := srt_le HS.out.2 (i := hi + m - 1 - c' - m) (j := d - m) (by have := HDD.out; omega) h4 HYV.out
       have := HLT.out
       omega⟩, HA4, HG4⟩
     case measure => simp [intOf]; omega
    ·rw [decide_eq_false (show ¬ y.1.f2 < x.1.f2 from hlt2)] at hcl
     have HLT := Aside0.mk (show hkey x ≤ hkey y by omega)
     clear hlt2
     go_wp2_with (go_at_call 72; refine (cmpH_any y x _).mono ?_; rintro e w4 ⟨rfl, hb4⟩; have HA4 := Aside0.mk (Kd.R_below HA3.out hb4); have HG4 := Aside0.mk (grown_below HG3.out hb4); clear hb4)
     go_roundw
     case rel => exact ⟨c + 1, r, by first | exact int_i64 (by omega) | go_num, rfl, by omega, by omega, hrh, ⟨fun c' x' y' h1 h2 h3 h4 => by
      by_cases e : c' < s
      ·exact HT.out c' x' y' h1 e h3 h4
      ·have k1 := srt_le HS.out.1 (i := c' - a) (j := c - a) (by omega) h3 HXU.out
       have k2 := srt_le HS.out.2 (i := d - m) (j := hi + m - 1 - c' - m) (by have := HDD.out; omega) HYV.out h4
       have := HLT.out
       omega⟩, HD, HA4, HG4⟩
     case measure => simp [intOf]; omega
   ·obtain rfl : s = r := by omega
    obtain ⟨e, he⟩ : ∃ e, e = hi + m - s := ⟨_, rfl⟩
    have he1 : m ≤ e ∧ e ≤ b ∧ e + s = hi + m := by omega
    obtain ⟨e1, e2, e3⟩ := he1
    have h12 := split12 HS.out.1 HS.out.2 (p := s - a) (q := e - m) Z10 (by
     by_cases h1 : s = a
     ·exact .inl (by omega)
     ·by_cases h2 : e = b
      ·exact .inr (.inl Z10)
      ·exact .inr (.inr fun x y hx hy => HT.out (s - 1) x y (by have := HLH.out; omega) (by omega) (by rw [show s - 1 - a = s - a - 1 by omega]; exact hx) (by rw [show hi + m - 1 - (s - 1) - m = e - m by omega]; exact hy)))
    have h21 := split21 HS.out.1 HS.out.2 (p := s - a) (q := e - m) Z10 (by
     by_cases h1 : s = m
     ·exact .inl Z10
     ·by_cases h2 : e = m
      ·exact .inr (.inl (by omega))
      ·exact .inr (.inr fun x y hx hy => HD.out s x y (by omega) (by have := HLH.out; omega) hx (by rw [show hi + m - 1 - s - m = e - m - 1 by omega]; exact hy)))
    have hU1 : U.take (s - a) ++ U.drop (s - a) = U := List.take_append_drop _ U
    have hV1 : V.take (e - m) ++ V.drop (e - m) = V := List.take_append_drop _ V
    have hml := mrg_split hkey _ _ _ _ h12 h21
    rw [hU1, hV1] at hml
    have hS1 : Srt hkey (U.take (s - a)) ∧ Srt hkey (U.drop (s - a)) ∧ Srt hkey (V.take (e - m)) ∧ Srt hkey (V.drop (e - m)) := ⟨HS.out.1.sublist (List.take_sublist _ _), HS.out.1.sublist (List.drop_sublist _ _), HS.out.2.sublist (List.take_sublist _ _), HS.out.2.sublist (List.drop_sublist _ _)⟩
    have hl1 : (U.take (s - a)).length = s - a ∧ (U.drop (s - a)).length = m - s ∧ (V.take (e - m)).length = e - m ∧ (V.drop (e - m)).length = b - e := by
     rw [List.length_take, List.length_drop, List.length_take, List.length_drop]; have := HLN.out; omega
    have hA0 := HA.out
    rw [← hU1, ← hV1] at hA0
    have HML := Aside0.mk hml
    generalize U.take (s - a) = U1 at *
    generalize U.drop (s - a) = U2 at *
    generalize V.take (e - m) = V1 at *
    generalize V.drop (e - m) = V2 at *
    have HS1 := Aside0.mk hS1
    have HL1 := Aside0.mk hl1
    have HA0 := Aside0.mk (show Kd.R kh 41 wr base ok (.slice (some ⟨g, 0, none⟩) n cap) (X ++ (U1 ++ (U2 ++ (V1 ++ (V2 ++ Z))))) from by simpa using hA0)
    have hok1 : ∀ k, ok k → k < wr.heap.size := fun k hk => Nat.lt_of_lt_of_le (HOK.out k hk) HG.out.size
    have HOK1 := Aside0.mk hok1
    have hen : (hi : Int) + (m : Int) - (s : Int) = (e : Int) := by omega
    have hbnd : a ≤ s ∧ s ≤ m ∧ s ≤ hi := by omega
    obtain ⟨n1, n2, n3⟩ := hbnd
    clear h12 h21 hU1 hV1 hml hS1 hl1 hA0 HA HT HD hok1 he
    have hcs : (a < s ∧ m < e ∧ s < m ∧ e < b) ∨ (a < s ∧ m < e ∧ s < m ∧ b ≤ e) ∨ (a < s ∧ m < e ∧ m ≤ s ∧ e < b) ∨ (a < s ∧ e ≤ m ∧ s < m ∧ e < b) ∨ (a < s ∧ e ≤ m ∧ m ≤ s ∧ e < b) ∨ (s ≤ a ∧ m < e ∧ s < m ∧ e < b) ∨ (s ≤ a ∧ m < e ∧ s < m ∧ b ≤ e) := by omega
    rcases hcs with ⟨k1, k2, k3, k4⟩ | ⟨k1, k2, k3, k4⟩ | ⟨k1, k2, k3, k4⟩ | ⟨k1, k2, k3, k4⟩ | ⟨k1, k2, k3, k4⟩ | ⟨k1, k2, k3, k4⟩ | ⟨k1, k2, k3, k4⟩
    ·have z1 : (s : Int) < (m : Int) := by omega
     have z2 : (m : Int) < (e : Int) := by omega
     have z3 : (a : Int) < (s : Int) := by omega
     have z4 : (s : Int) < (hi : Int) := by omega
     have z5 : (hi : Int) < (e : Int) := by omega
     have z6 : (e : Int) < (b : Int) := by omega
     have HRB := Aside0.mk (show Kd.R kh 41 wr base ok (.slice (some ⟨g, 0, none⟩) n cap) ((X ++ U1) ++ (U2 ++ (V1 ++ (V2 ++ Z)))) from by simpa using HA0.out)
     go_wp2_with (go_at_call 136; refine (rotate_any g n cap base s m e ok (X ++ U1) U2 V1 (V2 ++ Z) wr HRB.out Z5 Z5 Z5 Z7 Z7 hn HOK1.out).mono ?_; rintro e' w5 ⟨rfl, hr5, hg5⟩; have HR5 := Aside0.mk (show Kd.R kh 41 w5 base ok (.slice (some ⟨g, 0, none⟩) n cap) (X ++ (U1 ++ (V1 ++ (U2 ++ (V2 ++ Z))))) from by simpa using hr5); have HG5 := Aside0.mk (grown_grown HG.out hg5); have HOK5 := Aside0.mk (fun k hk => Nat.lt_of_lt_of_le (HOK1.out k hk) hg5.size); clear hr5 hg5)
     refine (HIH.out (U1.length + V1.length) Z18 g n cap base a s hi ok X U1 V1 (U2 ++ (V2 ++ Z)) w5 rfl HR5.out Z10 Z17 Z17 Z7 Z7 HS1.out.1 HS1.out.2.2.1 hn HOK5.out).mono ?_
     rintro e' w6 ⟨rfl, hr6, hg6⟩
     have HR6 := Aside0.mk hr6
     have HG6 := Aside0.mk (grown_grown HG5.out hg6)
     have HOK6 := Aside0.mk (fun k hk => Nat.lt_of_lt_of_le (HOK5.out k hk) hg6.size)
     clear hr6 hg6
     go_wp2_with fail
     have HML1 := Aside0.mk (show (X ++ mrg hkey U1 V1).length = hi from by rw [List.length_append, mrg_length]; have := HLN.out; have := HL1.out; omega)
     have HR7 := Aside0.mk (show Kd.R kh 41 w6 base ok (.slice (some ⟨g, 0, none⟩) n cap) ((X ++ mrg hkey U1 V1) ++ (U2 ++ (V2 ++ Z))) from by rw [List.append_assoc]; exact HR6.out)
     refine (HIH.out (U2.length + V2.length) Z18 g n cap base hi e b ok (X ++ mrg hkey U1 V1) U2 V2 Z w6 rfl HR7.out (by have := HML1.out; omega) Z16 Z16 Z7 Z7 HS1.out.2.1 HS1.out.2.2.2 hn HOK6.out).mono ?_
     rintro e' w7 ⟨rfl, hr7, hg7⟩
     have HR8 := Aside0.mk hr7
     have HG8 := Aside0.mk (grown_grown HG6.out hg7)
     clear hr7 hg7
     go_wp2_with fail
     go_end0
     exact ⟨rfl, by rw [HML.out]; have := HR8.out; simpa using this, HG8.out⟩
    ·have z1 : (s : Int) < (m : Int) := by omega
     have z2 : (m : Int) < (e : Int) := by omega
     have z3 : (a : Int) < (s : Int) := by omega
     have z4 : (s : Int) < (hi : Int) := by omega
     have z5 : (hi : Int) < (e : Int) := by omega
     have z6 : decide ((e : Int) < (b : Int)) = false := by simp; omega
     have HRB := Aside0.mk (show Kd.R kh 41 wr base ok (.slice (some ⟨g, 0, none⟩) n cap) ((X ++ U1) ++ (U2 ++ (V1 ++ (V2 ++ Z)))) from by simpa using HA0.out)
     go_wp2_with (go_at_call 136; refine (rotate_any g n cap base s m e ok (X ++ U1) U2 V1 (V2 ++ Z) wr HRB.out Z5 Z5 Z5 Z7 Z7 hn HOK1.out).mono ?_; rintro e' w5 ⟨rfl, hr5, hg5⟩; have HR5 := Aside0.mk (show Kd.R kh 41 w5 base ok (.slice (some ⟨g, 0, none⟩) n cap) (X ++ (U1 ++ (V1 ++ (U2 ++ (V2 ++ Z))))) from by simpa using hr5); have HG5 := Aside0.mk (grown_grown HG.out hg5); have HOK5 := Aside0.mk (fun k hk => Nat.lt_of_lt_of_le (HOK1.out k hk) hg5.size); clear hr5 hg5)
     refine (HIH.out (U1.length + V1.length) Z18 g n cap base a s hi ok X U1 V1 (U2 ++ (V2 ++ Z)) w5 rfl HR5.out Z10 Z17 Z17 Z7 Z7 HS1.out.1 HS1.out.2.2.1 hn HOK5.out).mono ?_
     rintro e' w6 ⟨rfl, hr6, hg6⟩
     have HR6 := Aside0.mk hr6
     have HG6 := Aside0.mk (grown_grown HG5.out hg6)
     have HOK6 := Aside0.mk (fun k hk => Nat.lt_of_lt_of_le (HOK5.out k hk) hg6.size)
     clear hr6 hg6
     go_wp2_with fail
     have HML1 := Aside0.mk (show (X ++ mrg hkey U1 V1).length = hi from by rw [List.length_append, mrg_length]; have := HLN.out; have := HL1.out; omega)
     have HR7 := Aside0.mk (show Kd.R kh 41 w6 base ok (.slice (some ⟨g, 0, none⟩) n cap) ((X ++ mrg hkey U1 V1) ++ (U2 ++ (V2 ++ Z))) from by rw [List.append_assoc]; exact HR6.out)
     have hem : V2 = [] := List.eq_nil_of_length_eq_zero Z7
     have HR8 := Aside0.mk (show Kd.R kh 41 w6 base ok (.slice (some ⟨g, 0, none⟩) n cap) ((X ++ mrg hkey U1 V1) ++ (mrg hkey U2 V2 ++ Z)) from by have := HR7.out; rw [hem] at this ⊢; rw [mrg_nil_right]; simpa using this)
     have HG8 := HG6
     clear hem
     go_end0
     exact ⟨rfl, by rw [HML.out]; have := HR8.out; simpa using this, HG8.out⟩
    ·exfalso; omega
    ·have z1 : (s : Int) < (m : Int) := by omega
     have z2 : decide ((m : Int) < (e : Int)) = false := by simp; omega
     have z3 : (a : Int) < (s : Int) := by omega
     have z4 : decide ((s : Int) < (hi : Int)) = false := by simp; omega
     have z5 : (hi : Int) < (e : Int) := by omega
     have z6 : (e : Int) < (b : Int) := by omega
     have hem : V1 = [] := List.eq_nil_of_length_eq_zero Z7
     have HR5 := Aside0.mk (show Kd.R kh 41 wr base ok (.slice (some ⟨g, 0, none⟩) n cap) (X ++ (U1 ++ (V1 ++ (U2 ++ (V2 ++ Z))))) from by have := HA0.out; rw [hem] at this ⊢; simpa using this)
     have HG5 := HG
     have HOK5 := HOK1
     clear hem
     go_wp2_with fail
     have hem : V1 = [] := List.eq_nil_of_length_eq_zero Z7
     have HR6 := Aside0.mk (show Kd.R kh 41 wr base ok (.slice (some ⟨g, 0, none⟩) n cap) (X ++ (mrg hkey U1 V1 ++ (U2 ++ (V2 ++ Z)))) from by have := HR5.out; rw [hem] at this ⊢; rw [mrg_nil_right]; simpa using this)
     have HG6 := HG5
     have HOK6 := HOK5
     clear hem
     have HML1 := Aside0.mk (show (X ++ mrg hkey U1 V1).length = hi from by rw [List.length_append, mrg_length]; have := HLN.out; have := HL1.out; omega)
     have HR7 := Aside0.mk (show Kd.R kh 41 wr base ok (.slice (some ⟨g, 0, none⟩) n cap) ((X ++ mrg hkey U1 V1) ++ (U2 ++ (V2 ++ Z))) from by rw [List.append_assoc]; exact HR6.out)
     refine (HIH.out (U2.length + V2.length) Z18 g n cap base hi e b ok (X ++ mrg hkey U1 V1) U2 V2 Z wr rfl HR7.out (by have := HML1.out; omega) Z16 Z16 Z7 Z7 HS1.out.2.1 HS1.out.2.2.2 hn HOK6.out).mono ?_
     rintro e' w7 ⟨rfl, hr7, hg7⟩
     have HR8 := Aside0.mk hr7
     have HG8 := Aside0.mk (grown_grown HG6.out hg7)
     clear hr7 hg7
     go_wp2_with fail
     go_end0
     exact ⟨rfl, by rw [HML.out]; have := HR8.out; simpa using this, HG8.out⟩
    ·exfalso; omega
    ·exfalso; omega
    ·have z1 : (s : Int) < (m : Int) := by omega
     have z2 : (m : Int) < (e : Int) := by omega
     have z3 : decide ((a : Int) < (s : Int)) = false := by simp; omega
     have z4 : (s : Int) < (hi : Int) := by omega
     have z5 : (hi : Int) < (e : Int) := by omega
     have z6 : decide ((e : Int) < (b : Int)) = false := by simp; omega
     have HRB := Aside0.mk (show Kd.R kh 41 wr base ok (.slice (some ⟨g, 0, none⟩) n cap) ((X ++ U1) ++ (U2 ++ (V1 ++ (V2 ++ Z)))) from by simpa using HA0.out)
     go_wp2_with (go_at_call 136; refine (rotate_any g n cap base s m e ok (X ++ U1) U2 V1 (V2 ++ Z) wr HRB.out Z5 Z5 Z5 Z7 Z7 hn HOK1.out).mono ?_; rintro e' w5 ⟨rfl, hr5, hg5⟩; have HR5 := Aside0.mk (show Kd.R kh 41 w5 base ok (.slice (some ⟨g, 0, none⟩) n cap) (X ++ (U1 ++ (V1 ++ (U2 ++ (V2 ++ Z))))) from by simpa using hr5); have HG5 := Aside0.mk (grown_grown HG.out hg5); have HOK5 := Aside0.mk (fun k hk => Nat.lt_of_lt_of_le (HOK1.out k hk) hg5.size); clear hr5 hg5)
     have hem : U1 = [] := List.eq_nil_of_length_eq_zero Z7
     have HR6 := Aside0.mk (show Kd.R kh 41 w5 base ok (.slice (some ⟨g, 0, none⟩) n cap) (X ++ (mrg hkey U1 V1 ++ (U2 ++ (V2 ++ Z)))) from by have := HR5.out; rw [hem] at this ⊢; rw [mrg_nil_left]; simpa using this)
     have HG6 := HG5
     have HOK6 := HOK5
     clear hem
     have HML1 := Aside0.mk (show (X ++ mrg hkey U1 V1).length = hi from by rw [List.length_append, mrg_length]; have := HLN.out; have := HL1.out; omega)
     have HR7 := Aside0.mk (show Kd.R kh 41 w5 base ok (.slice (some ⟨g, 0, none⟩) n cap) ((X ++ mrg hkey U1 V1) ++ (U2 ++ (V2 ++ Z))) from by rw [List.append_assoc]; exact HR6.out)
     have hem : V2 = [] := List.eq_nil_of_length_eq_zero Z7
     have HR8 := Aside0.mk (show Kd.R kh 41 w5 base ok (.slice (some ⟨g, 0, none⟩) n cap) ((X ++ mrg hkey U1 V1) ++ (mrg hkey U2 V2 ++ Z)) from by have := HR7.out; rw [hem] at this ⊢; rw [mrg_nil_right]; simpa using this)
     have HG8 := HG6
     clear hem
     go_end0
     exact ⟨rfl, by rw [HML.out]; have := HR8.out; simpa using this, HG8.out⟩
 ·have t1 : decide ((mid : Int) < (m : Int)) = false := by simp; omega
  subst q2 q3
  go_enter Try.func121, Try.ntmps121
  go_wp2
  go_loopw [20, 21] (fun v20 v21 wr => ∃ (s r : Nat), v20 = .int .i64 (s : Int) ∧ v21 = .int .i64 (r : Int) ∧ lo ≤ s ∧ s ≤ r ∧ r ≤ hi ∧ Aside0 (∀ c x y, lo ≤ c → c < s → U[c - lo]? = some x → V[mid + hi - 1 - c - hi]? = some y → hkey x ≤ hkey y) ∧ Aside0 (∀ c x y, r ≤ c → c < hi → U[c - lo]? = some x → V[mid + hi - 1 - c - hi]? = some y → hkey y < hkey x) ∧
   Aside0 (Kd.R kh 41 wr base ok (.slice (some ⟨g, 0, none⟩) n cap) (X ++ (U ++ (V ++ Z)))) ∧ Aside0 (w.grownBy wr (some g))) (fun v20 v21 _ => (intOf v21).toNat - (intOf v20).toNat)
  case atStart => exact ⟨lo, hi, rfl, rfl, Nat.le_refl _, l2, Nat.le_refl _, ⟨fun c x y h1 h2 => by omega⟩, ⟨fun c x y h1 h2 => by omega⟩, HR, ⟨grown_refl _ _⟩⟩
  case round =>
   clear HR
   obtain ⟨s, r, rfl, rfl, hls, hsr, hrh, HT, HD, HA, HG⟩ := hrel
   by_cases hlt : s < r
   ·have hlt' : (s : Int) < r := by omega
    obtain ⟨c, hc⟩ : ∃ c, c = (s + r) / 2 := ⟨_, rfl⟩
    have hc1 : s ≤ c ∧ c < r := by omega
    obtain ⟨hc2, hc3⟩ := hc1
    obtain ⟨d, hd⟩ : ∃ d, d = mid + hi - 1 - c := ⟨_, rfl⟩
    have hd1 : hi ≤ d ∧ d < b := by omega
    have hxu : U[c - lo]? = some _ := List.getElem?_eq_getElem (show c - lo < U.length by have := HLN.out; omega)
    have hyv : V[d - hi]? = some _ := List.getElem?_eq_getElem (show d - hi < V.length by have := HLN.out; omega)
    generalize U[c - lo]'_ = x at *
    generalize V[d - hi]'_ = y at *
    have hrx : (X ++ (U ++ (V ++ Z)))[c]? = some x := by rw [List.getElem?_append_right Z10, List.getElem?_append_left Z10, show c - X.length = c - lo by have := HLN.out; omega]; exact hxu
    have hry : (X ++ (U ++ (V ++ Z)))[d]? = some y := by rw [List.getElem?_append_right Z10, List.getElem?_append_right Z10, List.getElem?_append_left Z10, show d - X.length - U.length = d - hi by have := HLN.out; omega]; exact hyv
    obtain ⟨x0, x1, x2, x3, x4⟩ := at_kh HA.out c x hrx
    obtain ⟨y0, y1, y2, y3, y4⟩ := at_kh HA.out d y hry
    have HXU := Aside0.mk hxu
    have HYV := Aside0.mk hyv
    have HDD := Aside0.mk hd
    have hcc : ((s : Int) + (r : Int)) / 2 = (c : Int) := by omega
    have hdd : (mid : Int) + (hi : Int) - 1 - (c : Int) = (d : Int) := by omega
    have hdw : IntKind.i64.wrap ((mid : Int) + (hi : Int) - 1 - (c : Int)) = (d : Int) := by rw [IntKind.wrap_i64]; omega
    have hdw2 : IntKind.i64.wrap (d : Int) = (d : Int) := by rw [IntKind.wrap_i64]; omega
    have j0 : (c : Int) < n := by omega
    have j1 : (d : Int) < n := by omega
    have c0 : (0 : Int) ≤ (s : Int) + (r : Int) := by omega
    have c1 : (s : Int) + (r : Int) ≤ 2000000000000 := by omega
    clear hxu hyv hrx hry hd hc
    go_wp2
    go_still_tail 11, (by kernel_rfl)
    change wpList _ _ _ _ _ wr.drew
    have hAd := Kd.R_drew HA.out
    have hGd := grown_drew HG.out
    clear x0 x1 x2 x3 x4 y0 y1 y2 y3 y4
    generalize wr.drew = w3 at *
    have HA3 := Aside0.mk hAd
    have HG3 := Aside0.mk hGd
    clear hAd hGd HA HG
    have hcl := cmpI_lt y.1.f2 x.1.f2
    by_cases hlt2 : hkey y < hkey x
    ·rw [decide_eq_true (show y.1.f2 < x.1.f2 from hlt2)] at hcl
     have HLT := Aside0.mk hlt2
     clear hlt2
     go_wp2_with (go_at_call 72; refine (cmpH_any y x _).mono ?_; rintro e w4 ⟨rfl, hb4⟩; have HA4 := Aside0.mk (Kd.R_below HA3.out hb4); have HG4 := Aside0.mk (grown_below HG3.out hb4); clear hb4)
     go_roundw
     case rel => exact ⟨s, c, rfl, by first | rfl | exact int_i64 (by omega), hls, hc2, by omega, HT, ⟨fun c' x' y' h1 h2 h3 h4 => by
      by_cases e : r ≤ c'
      ·exact HD.out c' x' y' e h2 h3 h4
      ·have k1 := srt_le HS.out.1 (i := c - lo) (j := c' - lo) (by omega) HXU.out h3
       have k2 := srt_le HS.out.2 (i := mid + hi - 1 - c' - hi) (j := d - hi) (by have := HDD.out; omega) h4 HYV.out
       have := HLT.out
       omega⟩, HA4, HG4⟩
     case measure => simp [intOf]; omega
    ·rw [decide_eq_false (show ¬ y.1.f2 < x.1.f2 from hlt2)] at hcl
     have HLT := Aside0.mk (show hkey x ≤ hkey y by omega)
     clear hlt2
     go_wp2_with (go_at_call 72; refine (cmpH_any y x _).mono ?_; rintro e w4 ⟨rfl, hb4⟩; have HA4 := Aside0.mk (Kd.R_below HA3.out hb4); have HG4 := Aside0.mk (grown_below HG3.out hb4); clear hb4)
     go_roundw
     case rel => exact ⟨c + 1, r, by first | exact int_i64 (by omega) | go_num, rfl, by omega, by omega, hrh, ⟨fun c' x' y' h1 h2 h3 h4 => by
      by_cases e : c' < s
      ·exact HT.out c' x' y' h1 e h3 h4
      ·have k1 := srt_le HS.out.1 (i := c' - lo) (j := c - lo) (by omega) h3 HXU.out
       have k2 := srt_le HS.out.2 (i := d - hi) (j := mid + hi - 1 - c' - hi) (by have := HDD.out; omega) HYV.out h4
       have := HLT.out
       omega⟩, HD, HA4, HG4⟩
     case measure => simp [intOf]; omega
   ·obtain rfl : s = r := by omega
    obtain ⟨e, he⟩ : ∃ e, e = mid + hi - s := ⟨_, rfl⟩
    have he1 : hi ≤ e ∧ e ≤ b ∧ e + s = mid + hi := by omega
    obtain ⟨e1, e2, e3⟩ := he1
    have h12 := split12 HS.out.1 HS.out.2 (p := s - lo) (q := e - hi) Z10 (by
     by_cases h1 : s = lo
     ·exact .inl (by omega)
     ·by_cases h2 : e = b
      ·exact .inr (.inl Z10)
      ·exact .inr (.inr fun x y hx hy => HT.out (s - 1) x y (by have := HLH.out; omega) (by omega) (by rw [show s - 1 - lo = s - lo - 1 by omega]; exact hx) (by rw [show mid + hi - 1 - (s - 1) - hi = e - hi by omega]; exact hy)))
    have h21 := split21 HS.out.1 HS.out.2 (p := s - lo) (q := e - hi) Z10 (by
     by_cases h1 : s = hi
     ·exact .inl Z10
     ·by_cases h2 : e = hi
      ·exact .inr (.inl (by omega))
      ·exact .inr (.inr fun x y hx hy => HD.out s x y (by omega) (by have := HLH.out; omega) hx (by rw [show mid + hi - 1 - s - hi = e - hi - 1 by omega]; exact hy)))
    have hU1 : U.take (s - lo) ++ U.drop (s - lo) = U := List.take_append_drop _ U
    have hV1 : V.take (e - hi) ++ V.drop (e - hi) = V := List.take_append_drop _ V
    have hml := mrg_split hkey _ _ _ _ h12 h21
    rw [hU1, hV1] at hml
    have hS1 : Srt hkey (U.take (s - lo)) ∧ Srt hkey (U.drop (s - lo)) ∧ Srt hkey (V.take (e - hi)) ∧ Srt hkey (V.drop (e - hi)) := ⟨HS.out.1.sublist (List.take_sublist _ _), HS.out.1.sublist (List.drop_sublist _ _), HS.out.2.sublist (List.take_sublist _ _), HS.out.2.sublist (List.drop_sublist _ _)⟩
    have hl1 : (U.take (s - lo)).length = s - lo ∧ (U.drop (s - lo)).length = hi - s ∧ (V.take (e - hi)).length = e - hi ∧ (V.drop (e - hi)).length = b - e := by
     rw [List.length_take, List.length_drop, List.length_take, List.length_drop]; have := HLN.out; omega
    have hA0 := HA.out
    rw [← hU1, ← hV1] at hA0
    have HML := Aside0.mk hml
    generalize U.take (s - lo) = U1 at *
    generalize U.drop (s - lo) = U2 at *
    generalize V.take (e - hi) = V1 at *
    generalize V.drop (e - hi) = V2 at *
    have HS1 := Aside0.mk hS1
    have HL1 := Aside0.mk hl1
    have HA0 := Aside0.mk (show Kd.R kh 41 wr base ok (.slice (some ⟨g, 0, none⟩) n cap) (X ++ (U1 ++ (U2 ++ (V1 ++ (V2 ++ Z))))) from by simpa using hA0)
    have hok1 : ∀ k, ok k → k < wr.heap.size := fun k hk => Nat.lt_of_lt_of_le (HOK.out k hk) HG.out.size
    have HOK1 := Aside0.mk hok1
    have hen : (mid : Int) + (hi : Int) - (s : Int) = (e : Int) := by omega
    have hbnd : lo ≤ s ∧ s ≤ hi ∧ s ≤ mid := by omega
    obtain ⟨n1, n2, n3⟩ := hbnd
    clear h12 h21 hU1 hV1 hml hS1 hl1 hA0 HA HT HD hok1 he
    have hcs : (lo < s ∧ hi < e ∧ s < hi ∧ e < b) ∨ (lo < s ∧ hi < e ∧ s < hi ∧ b ≤ e) ∨ (lo < s ∧ hi < e ∧ hi ≤ s ∧ e < b) ∨ (lo < s ∧ e ≤ hi ∧ s < hi ∧ e < b) ∨ (lo < s ∧ e ≤ hi ∧ hi ≤ s ∧ e < b) ∨ (s ≤ lo ∧ hi < e ∧ s < hi ∧ e < b) ∨ (s ≤ lo ∧ hi < e ∧ s < hi ∧ b ≤ e) := by omega
    rcases hcs with ⟨k1, k2, k3, k4⟩ | ⟨k1, k2, k3, k4⟩ | ⟨k1, k2, k3, k4⟩ | ⟨k1, k2, k3, k4⟩ | ⟨k1, k2, k3, k4⟩ | ⟨k1, k2, k3, k4⟩ | ⟨k1, k2, k3, k4⟩
    ·have z1 : (s : Int) < (hi : Int) := by omega
     have z2 : (hi : Int) < (e : Int) := by omega
     have z3 : (lo : Int) < (s : Int) := by omega
     have z4 : (s : Int) < (mid : Int) := by omega
     have z5 : (mid : Int) < (e : Int) := by omega
     have z6 : (e : Int) < (b : Int) := by omega
     have HRB := Aside0.mk (show Kd.R kh 41 wr base ok (.slice (some ⟨g, 0, none⟩) n cap) ((X ++ U1) ++ (U2 ++ (V1 ++ (V2 ++ Z)))) from by simpa using HA0.out)
     go_wp2_with (go_at_call 136; refine (rotate_any g n cap base s hi e ok (X ++ U1) U2 V1 (V2 ++ Z) wr HRB.out Z5 Z5 Z5 Z7 Z7 hn HOK1.out).mono ?_; rintro e' w5 ⟨rfl, hr5, hg5⟩; have HR5 := Aside0.mk (show Kd.R kh 41 w5 base ok (.slice (some ⟨g, 0, none⟩) n cap) (X ++ (U1 ++ (V1 ++ (U2 ++ (V2 ++ Z))))) from by simpa using hr5); have HG5 := Aside0.mk (grown_grown HG.out hg5); have HOK5 := Aside0.mk (fun k hk => Nat.lt_of_lt_of_le (HOK1.out k hk) hg5.size); clear hr5 hg5)
     refine (HIH.out (U1.length + V1.length) Z18 g n cap base lo s mid ok X U1 V1 (U2 ++ (V2 ++ Z)) w5 rfl HR5.out Z10 Z17 Z17 Z7 Z7 HS1.out.1 HS1.out.2.2.1 hn HOK5.out).mono ?_
     rintro e' w6 ⟨rfl, hr6, hg6⟩
     have HR6 := Aside0.mk hr6
     have HG6 := Aside0.mk (grown_grown HG5.out hg6)
     have HOK6 := Aside0.mk (fun k hk => Nat.lt_of_lt_of_le (HOK5.out k hk) hg6.size)
     clear hr6 hg6
     go_wp2_with fail
     have HML1 := Aside0.mk (show (X ++ mrg hkey U1 V1).length = mid from by rw [List.length_append, mrg_length]; have := HLN.out; have := HL1.out; omega)
     have HR7 := Aside0.mk (show Kd.R kh 41 w6 base ok (.slice (some ⟨g, 0, none⟩) n cap) ((X ++ mrg hkey U1 V1) ++ (U2 ++ (V2 ++ Z))) from by rw [List.append_assoc]; exact HR6.out)
     refine (HIH.out (U2.length + V2.length) Z18 g n cap base mid e b ok (X ++ mrg hkey U1 V1) U2 V2 Z w6 rfl HR7.out (by have := HML1.out; omega) Z16 Z16 Z7 Z7 HS1.out.2.1 HS1.out.2.2.2 hn HOK6.out).mono ?_
     rintro e' w7 ⟨rfl, hr7, hg7⟩
     have HR8 := Aside0.mk hr7
     have HG8 := Aside0.mk (grown_grown HG6.out hg7)
     clear hr7 hg7
     go_wp2_with fail
     go_end0
     exact ⟨rfl, by rw [HML.out]; have := HR8.out; simpa using this, HG8.out⟩
    ·exfalso; omega
    ·have z1 : decide ((s : Int) < (hi : Int)) = false := by simp; omega
     have z2 : (hi : Int) < (e : Int) := by omega
     have z3 : (lo : Int) < (s : Int) := by omega
     have z4 : (s : Int) < (mid : Int) := by omega
     have z5 : decide ((mid : Int) < (e : Int)) = false := by simp; omega
     have z6 : (e : Int) < (b : Int) := by omega
     have hem : U2 = [] := List.eq_nil_of_length_eq_zero Z7
     have HR5 := Aside0.mk (show Kd.R kh 41 wr base ok (.slice (some ⟨g, 0, none⟩) n cap) (X ++ (U1 ++ (V1 ++ (U2 ++ (V2 ++ Z))))) from by have := HA0.out; rw [hem] at this ⊢; simpa using this)
     have HG5 := HG
     have HOK5 := HOK1
     clear hem
     go_wp2_with fail
     refine (HIH.out (U1.length + V1.length) Z18 g n cap base lo s mid ok X U1 V1 (U2 ++ (V2 ++ Z)) wr rfl HR5.out Z10 Z17 Z17 Z7 Z7 HS1.out.1 HS1.out.2.2.1 hn HOK5.out).mono ?_
     rintro e' w6 ⟨rfl, hr6, hg6⟩
     have HR6 := Aside0.mk hr6
     have HG6 := Aside0.mk (grown_grown HG5.out hg6)
     have HOK6 := Aside0.mk (fun k hk => Nat.lt_of_lt_of_le (HOK5.out k hk) hg6.size)
     clear hr6 hg6
     go_wp2_with fail
     have HML1 := Aside0.mk (show (X ++ mrg hkey U1 V1).length = mid from by rw [List.length_append, mrg_length]; have := HLN.out; have := HL1.out; omega)
     have HR7 := Aside0.mk (show Kd.R kh 41 w6 base ok (.slice (some ⟨g, 0, none⟩) n cap) ((X ++ mrg hkey U1 V1) ++ (U2 ++ (V2 ++ Z))) from by rw [List.append_assoc]; exact HR6.out)
     have hem : U2 = [] := List.eq_nil_of_length_eq_zero Z7
     have HR8 := Aside0.mk (show Kd.R kh 41 w6 base ok (.slice (some ⟨g, 0, none⟩) n cap) ((X ++ mrg hkey U1 V1) ++ (mrg hkey U2 V2 ++ Z)) from by have := HR7.out; rw [hem] at this ⊢; rw [mrg_nil_left]; simpa using this)
     have HG8 := HG6
     clear hem
     go_end0
     exact ⟨rfl, by rw [HML.out]; have := HR8.out; simpa using this, HG8.out⟩
    ·exfalso; omega
    ·have z1 : decide ((s : Int) < (hi : Int)) = false := by simp; omega
     have z2 : decide ((hi : Int) < (e : Int)) = false := by simp; omega
     have z3 : (lo : Int) < (s : Int) := by omega
     have z4 : decide ((s : Int) < (mid : Int)) = false := by simp; omega
     have z5 : decide ((mid : Int) < (e : Int)) = false := by simp; omega
     have z6 : (e : Int) < (b : Int) := by omega
     have hem : U2 = [] := List.eq_nil_of_length_eq_zero Z7
     have HR5 := Aside0.mk (show Kd.R kh 41 wr base ok (.slice (some ⟨g, 0, none⟩) n cap) (X ++ (U1 ++ (V1 ++ (U2 ++ (V2 ++ Z))))) from by have := HA0.out; rw [hem] at this ⊢; simpa using this)
     have HG5 := HG
     have HOK5 := HOK1
     clear hem
     go_wp2_with fail
     have hem : V1 = [] := List.eq_nil_of_length_eq_zero Z7
     have HR6 := Aside0.mk (show Kd.R kh 41 wr base ok (.slice (some ⟨g, 0, none⟩) n cap) (X ++ (mrg hkey U1 V1 ++ (U2 ++ (V2 ++ Z)))) from by have := HR5.out; rw [hem] at this ⊢; rw [mrg_nil_right]; simpa using this)
     have HG6 := HG5
     have HOK6 := HOK5
     clear hem
     have HML1 := Aside0.mk (show (X ++ mrg hkey U1 V1).length = mid from by rw [List.length_append, mrg_length]; have := HLN.out; have := HL1.out; omega)
     have HR7 := Aside0.mk (show Kd.R kh 41 wr base ok (.slice (some ⟨g, 0, none⟩) n cap) ((X ++ mrg hkey U1 V1) ++ (U2 ++ (V2 ++ Z))) from by rw [List.append_assoc]; exact HR6.out)
     have hem : U2 = [] := List.eq_nil_of_length_eq_zero Z7
     have HR8 := Aside0.mk (show Kd.R kh 41 wr base ok (.slice (some ⟨g, 0, none⟩) n cap) ((X ++ mrg hkey U1 V1) ++ (mrg hkey U2 V2 ++ Z)) from by have := HR7.out; rw [hem] at this ⊢; rw [mrg_nil_left]; simpa using this)
     have HG8 := HG6
     clear hem
     go_end0
     exact ⟨rfl, by rw [HML.out]; have := HR8.out; simpa using this, HG8.out⟩
    ·have z1 : (s : Int) < (hi : Int) := by omega
     have z2 : (hi : Int) < (e : Int) := by omega
     have z3 : decide ((lo : Int) < (s : Int)) = false := by simp; omega
     have z4 : (s : Int) < (mid : Int) := by omega
     have z5 : (mid : Int) < (e : Int) := by omega
     have z6 : (e : Int) < (b : Int) := by omega
     have HRB := Aside0.mk (show Kd.R kh 41 wr base ok (.slice (some ⟨g, 0, none⟩) n cap) ((X ++ U1) ++ (U2 ++ (V1 ++ (V2 ++ Z)))) from by simpa using HA0.out)
     go_wp2_with (go_at_call 136; refine (rotate_any g n cap base s hi e ok (X ++ U1) U2 V1 (V2 ++ Z) wr HRB.out Z5 Z5 Z5 Z7 Z7 hn HOK1.out).mono ?_; rintro e' w5 ⟨rfl, hr5, hg5⟩; have HR5 := Aside0.mk (show Kd.R kh 41 w5 base ok (.slice (some ⟨g, 0, none⟩) n cap) (X ++ (U1 ++ (V1 ++ (U2 ++ (V2 ++ Z))))) from by simpa using hr5); have HG5 := Aside0.mk (grown_grown HG.out hg5); have HOK5 := Aside0.mk (fun k hk => Nat.lt_of_lt_of_le (HOK1.out k hk) hg5.size); clear hr5 hg5)
     have hem : U1 = [] := List.eq_nil_of_length_eq_zero Z7
     have HR6 := Aside0.mk (show Kd.R kh 41 w5 base ok (.slice (some ⟨g, 0, none⟩) n cap) (X ++ (mrg hkey U1 V1 ++ (U2 ++ (V2 ++ Z)))) from by have := HR5.out; rw [hem] at this ⊢; rw [mrg_nil_left]; simpa using this)
     have HG6 := HG5
     have HOK6 := HOK5
     clear hem
     have HML1 := Aside0.mk (show (X ++ mrg hkey U1 V1).length = mid from by rw [List.length_append, mrg_length]; have := HLN.out; have := HL1.out; omega)
     have HR7 := Aside0.mk (show Kd.R kh 41 w5 base ok (.slice (some ⟨g, 0, none⟩) n cap) ((X ++ mrg hkey U1 V1) ++ (U2 ++ (V2 ++ Z))) from by rw [List.append_assoc]; exact HR6.out)
     refine (HIH.out (U2.length + V2.length) Z18 g n cap base mid e b ok (X ++ mrg hkey U1 V1) U2 V2 Z w5 rfl HR7.out (by have := HML1.out; omega) Z16 Z16 Z7 Z7 HS1.out.2.1 HS1.out.2.2.2 hn HOK6.out).mono ?_
     rintro e' w7 ⟨rfl, hr7, hg7⟩
     have HR8 := Aside0.mk hr7
     have HG8 := Aside0.mk (grown_grown HG6.out hg7)
     clear hr7 hg7
     go_wp2_with fail
     go_end0
     exact ⟨rfl, by rw [HML.out]; have := HR8.out; simpa using this, HG8.out⟩
    ·have z1 : (s : Int) < (hi : Int) := by omega
     have z2 : (hi : Int) < (e : Int) := by omega
     have z3 : decide ((lo : Int) < (s : Int)) = false := by simp; omega
     have z4 : (s : Int) < (mid : Int) := by omega
     have z5 : (mid : Int) < (e : Int) := by omega
     have z6 : decide ((e : Int) < (b : Int)) = false := by simp; omega
     have HRB := Aside0.mk (show Kd.R kh 41 wr base ok (.slice (some ⟨g, 0, none⟩) n cap) ((X ++ U1) ++ (U2 ++ (V1 ++ (V2 ++ Z)))) from by simpa using HA0.out)
     go_wp2_with (go_at_call 136; refine (rotate_any g n cap base s hi e ok (X ++ U1) U2 V1 (V2 ++ Z) wr HRB.out Z5 Z5 Z5 Z7 Z7 hn HOK1.out).mono ?_; rintro e' w5 ⟨rfl, hr5, hg5⟩; have HR5 := Aside0.mk (show Kd.R kh 41 w5 base ok (.slice (some ⟨g, 0, none⟩) n cap) (X ++ (U1 ++ (V1 ++ (U2 ++ (V2 ++ Z))))) from by simpa using hr5); have HG5 := Aside0.mk (grown_grown HG.out hg5); have HOK5 := Aside0.mk (fun k hk => Nat.lt_of_lt_of_le (HOK1.out k hk) hg5.size); clear hr5 hg5)
     have hem : U1 = [] := List.eq_nil_of_length_eq_zero Z7
     have HR6 := Aside0.mk (show Kd.R kh 41 w5 base ok (.slice (some ⟨g, 0, none⟩) n cap) (X ++ (mrg hkey U1 V1 ++ (U2 ++ (V2 ++ Z)))) from by have := HR5.out; rw [hem] at this ⊢; rw [mrg_nil_left]; simpa using this)
     have HG6 := HG5
     have HOK6 := HOK5
     clear hem
     have HML1 := Aside0.mk (show (X ++ mrg hkey U1 V1).length = mid from by rw [List.length_append, mrg_length]; have := HLN.out; have := HL1.out; omega)
     have HR7 := Aside0.mk (show Kd.R kh 41 w5 base ok (.slice (some ⟨g, 0, none⟩) n cap) ((X ++ mrg hkey U1 V1) ++ (U2 ++ (V2 ++ Z))) from by rw [List.append_assoc]; exact HR6.out)
     have hem : V2 = [] := List.eq_nil_of_length_eq_zero Z7
     have HR8 := Aside0.mk (show Kd.R kh 41 w5 base ok (.slice (some ⟨g, 0, none⟩) n cap) ((X ++ mrg hkey U1 V1) ++ (mrg hkey U2 V2 ++ Z)) from by have := HR7.out; rw [hem] at this ⊢; rw [mrg_nil_right]; simpa using this)
     have HG8 := HG6
     clear hem
     go_end0
     exact ⟨rfl, by rw [HML.out]; have := HR8.out; simpa using this, HG8.out⟩
theorem symMerge_any : ∀ sz, SymC sz := fun sz => by
 induction sz using Nat.strongRecOn with
 | ind sz IH =>
  intro g n cap base a m b ok X U V Z w hsz hr ha hm hb hU0 hV0 hU hV hn hok
  by_cases h1 : U.length = 1
  ·obtain ⟨u, rfl⟩ := List.length_eq_one_iff.1 h1
   exact symMerge_left g n cap base a m b ok X V Z u w hr ha (by simpa using hm) (by simpa using hb) hV hn hok
  ·by_cases h2 : V.length = 1
   ·obtain ⟨v, rfl⟩ := List.length_eq_one_iff.1 h2
    exact symMerge_right g n cap base a m b ok X U Z v w hr ha hm (by simpa using hb) (by omega) hU hn hok
   ·exact symMerge_gen sz IH g n cap base a m b ok X U V Z w hsz hr ha hm hb (by omega) (by omega) hU hV hn hok
end Go.Proofs.Ytckhjehibjdjdaa.P
namespace Go.Proofs.Ytckhjehibjdjdaa.P
open Go.RowKit Go.Shelf Go.Proofs.YtckhjehibjdjdaaW.PrintWords Go.Proofs.YtckhjehibjdjdaaW.PrintLast Go.Proofs.YtckhjehibjdjdaaW.PrintMore
attribute [local go_sem] Oper.semAt_some
set_option linter.unusedVariables false
set_option linter.unusedSimpArgs false
theorem pre_get (X l : List HV) {a i : Nat} (ha : a = X.length) (h : a ≤ i) : (X ++ l)[i]? = l[i - a]? := by
 rw [List.getElem?_append_right (by omega), ha]
theorem pre_set (X l : List HV) {a i : Nat} (ha : a = X.length) (h : a ≤ i) (v : HV) : (X ++ l).set i v = X ++ l.set (i - a) v := by
 rw [List.set_append_right _ _ (by omega), ha]
set_option maxHeartbeats 8000000 in
set_option maxRecDepth 100000 in
theorem insert_gen (g n cap base a b c : Nat) (ok : Nat → Prop) (X xs : List (HV)) (w : World) (hr : Kd.R kh 41 w base ok (.slice (some ⟨g, 0, none⟩) n cap) (X ++ xs)) (ha : a = X.length) (hb : b = a + c) (hc : c ≤ xs.length) (hn : n ≤ 1000000000000) (h2 : 2 ≤ c) (hok : ∀ k, ok k → k < w.heap.size) :
  Calls Try.prog 120 #[.slice (some ⟨g, 0, none⟩) n cap, .int .i64 a, .int .i64 b, .func (.func 72) #[] #[]] w fun e w' => e = .returned (.tuple #[]) ∧ Kd.R kh 41 w' base ok (.slice (some ⟨g, 0, none⟩) n cap) (X ++ (isort hkey (xs.take c) ++ xs.drop c)) ∧ w.grownBy w' (some g) := by
 have hu41 := Try.underlying41
 have HR := Aside0.mk hr
 have hxl := (Kd.R_reads' hr).1
 rw [List.length_append] at hxl
 have bb : a + 2 ≤ b ∧ b ≤ n := by omega
 obtain ⟨bb1, bb2⟩ := bb
 have HXL := Aside0.mk (show X.length = a ∧ a + xs.length = n ∧ b = a + c ∧ c ≤ xs.length from by omega)
 clear hr hxl ha hb hc h2
 go_enter Try.func120, Try.ntmps120
 go_wp2
 go_loopw [8] (fun v8 wr => ∃ p : Nat, a + 1 ≤ p ∧ p ≤ b ∧ v8 = .int .i64 (p : Int) ∧ Aside0 (Kd.R kh 41 wr base ok (.slice (some ⟨g, 0, none⟩) n cap) (X ++ (isort hkey (xs.take (p - a)) ++ xs.drop (p - a)))) ∧ Aside0 (w.grownBy wr (some g))) (fun v8 _ => b - (intOf v8).toNat)
 case atStart => exact ⟨a + 1, Nat.le_refl _, by omega, by go_num, ⟨by
  have : isort hkey (xs.take (a + 1 - a)) ++ xs.drop (a + 1 - a) = xs := by
   rw [show a + 1 - a = 1 by omega]
   cases xs with
   | nil => rfl
   | cons x xs => simp [isort, insK]
  rw [this]; exact HR.out⟩, ⟨grown_refl _ _⟩⟩
 case round =>
  obtain ⟨p, hi1, hib, rfl, HA, HG⟩ := hrel
  by_cases hlt : p < b
  ·have hlt' : (p : Int) < b := by omega
   obtain ⟨i, hpi⟩ : ∃ i, i = p - a := ⟨_, rfl⟩
   have hix : i < xs.length := by have := HXL.out; omega
   have hLl : (isort hkey (xs.take i)).length = i := by rw [(isort_perm hkey _).length_eq, List.length_take]; omega
   have hz : isort hkey (xs.take i) ++ xs.drop i = zAt (isort hkey (xs.take i)) xs[i] (xs.drop (i + 1)) i := by
    unfold zAt
    have t1 : (isort hkey (xs.take i)).take i = isort hkey (xs.take i) := List.take_of_length_le (by omega)
    have t2 : (isort hkey (xs.take i)).drop i = [] := List.drop_eq_nil_of_le (by omega)
    rw [t1, t2, List.nil_append, List.drop_eq_getElem_cons hix]
   have hstep := isort_take hkey xs i hix
   have hsrt := isort_sorted hkey (xs.take i)
   rw [← hpi, hz] at HA
   have hrl : (xs.drop (i + 1)).length = xs.length - (i + 1) := List.length_drop
   clear hz
   have HST := Aside0.mk hstep
   have HPI := Aside0.mk (And.intro hpi (show p + 1 - a = i + 1 by omega))
   clear hstep
   generalize hL : isort hkey (xs.take i) = L at *
   generalize hx : xs[i] = x at *
   generalize hre : xs.drop (i + 1) = rest at *
   have HSRT := Aside0.mk hsrt
   have HRE := Aside0.mk hre
   have HLL := Aside0.mk (show L.length = i ∧ a + i + 1 + rest.length = n ∧ i + a = p from by have := HXL.out; omega)
   clear hsrt hL hx hre hpi hLl hrl
   go_wp2
   obtain ⟨wo, hwo⟩ : ∃ wo : World, wo = wr := ⟨_, rfl⟩
   subst hwo
   go_loopg [9] p (fun kq v9 w2 => ∃ q : Nat, a ≤ q ∧ q ≤ p ∧ v9 = .int .i64 (q : Int) ∧ Aside0 (kq = q) ∧ Aside0 (∀ y ∈ L.drop (q - a), hkey x < hkey y) ∧ Aside0 (Kd.R kh 41 w2 base ok (.slice (some ⟨g, 0, none⟩) n cap) (X ++ zAt L x rest (q - a))) ∧ Aside0 (w.grownBy w2 (some g)))
   case atStart => exact ⟨p, by omega, Nat.le_refl _, rfl, ⟨rfl⟩, ⟨fun y hy => by rw [List.drop_eq_nil_of_le (by have := HLL.out; omega)] at hy; cases hy⟩, ⟨by rw [← HPI.out.1]; exact HA.out⟩, HG⟩
   case round =>
    clear HA HG
    obtain ⟨q, hqa, hj, rfl, HQ, HD, HA, HG⟩ := hrel
    by_cases hq0 : q ≤ a
    ·have hqe : q - a = 0 := by omega
     have hdone : X ++ (isort hkey (xs.take (p + 1 - a)) ++ xs.drop (p + 1 - a)) = X ++ zAt L x rest (q - a) := by
      have hd := HD.out
      rw [hqe] at hd ⊢
      rw [HPI.out.2, HST.out, HRE.out, insK_at hkey x L 0 (by simp) hd]
      simp [zAt]
     rw [← hdone] at HA
     have hd1 : decide ((a : Int) < (q : Int)) = false := by simp; omega
     have hd2 : decide (a < q) = false := by simp; omega
     clear hdone hqe
     go_wp2
     go_quiet (fail)
     go_wp2
     go_roundw
     case rel => exact ⟨p + 1, by omega, by omega, by go_num, HA, ⟨grown_below HG.out (pw_below_drewN (Below.refl _ _) _)⟩⟩
     case measure => simp [intOf]; omega
    ·obtain ⟨m, rfl⟩ : ∃ m, q = m + 1 := ⟨q - 1, by omega⟩
     have hm : m - a < L.length := by have := HLL.out; omega
     have hxp : (X ++ zAt L x rest (m + 1 - a))[m + 1]? = some x := by
      rw [pre_get X _ HXL.out.1.symm (by omega)]; exact zAt_get L x rest (m + 1 - a) (by omega)
     have hyp : (X ++ zAt L x rest (m + 1 - a))[m]? = some L[m - a] := by
      rw [pre_get X _ HXL.out.1.symm (by omega), show m + 1 - a = m - a + 1 by omega]; exact zAt_get1 L x rest (m - a) hm
     obtain ⟨x0, x1, x2, x3, x4⟩ := at_kh HA.out (m + 1) x hxp
     obtain ⟨y0, y1, y2, y3, y4⟩ := at_kh HA.out m L[m - a] hyp
     have hzs : ((X ++ zAt L x rest (m + 1 - a)).set (m + 1) L[m - a]).set m x = X ++ zAt L x rest (m - a) := by
      rw [pre_set X _ HXL.out.1.symm (by omega), pre_set X _ HXL.out.1.symm (by omega), show m + 1 - a = m - a + 1 by omega, zAt_step L x rest (m - a) hm]
     have hd := List.drop_eq_getElem_cons hm
     have ht := List.take_succ_eq_append_getElem hm
     generalize L[m - a] = y at *
     have HZS := Aside0.mk hzs
     have HXP := Aside0.mk hxp
     have HYP := Aside0.mk hyp
     have HDR := Aside0.mk hd
     have HTK := Aside0.mk ht
     clear hzs hd ht hxp hyp
     have e1 : IntKind.i64.wrap (m : Int) = (m : Int) := by rw [IntKind.wrap_i64]; omega
     have i0 : (0 : Int) ≤ (m : Int) + 1 := by omega
     have i1 : (a : Int) < (m : Int) + 1 := by omega
     have i2 : (m : Int) + 1 < n := by omega
     have i3 : (m : Int) < n := by omega
     have i4 : ((m : Int) + 1).toNat = m + 1 := by omega
     go_wp2
     go_still_tail 14, (by kernel_rfl)
     change wpList _ _ _ _ _ wr.drew
     have hAd := Kd.R_drew HA.out
     have hGd := grown_drew HG.out
     clear x0 x1 x2 x3 x4 y0 y1 y2 y3 y4
     generalize wr.drew = w3 at *
     have HA3 := Aside0.mk hAd
     have HG3 := Aside0.mk hGd
     clear hAd hGd HA HG
     by_cases hlt2 : hkey x < hkey y
     ·have hcmp : cmpI x.1.f2 y.1.f2 = -1 := by unfold hkey at hlt2; unfold cmpI; rw [if_pos hlt2]
      have HLT := Aside0.mk hlt2
      clear hlt2
      go_wp2_with (go_at_call 72; refine (cmpH_any x y _).mono ?_; rintro e w4 ⟨rfl, hb4⟩; rw [hcmp]; have HA4 := Aside0.mk (Kd.R_below HA3.out hb4); have HG4 := Aside0.mk (grown_below HG3.out hb4); clear hb4)
      obtain ⟨x0, x1, x2, x3, x4⟩ := at_kh HA4.out (m + 1) x HXP.out
      obtain ⟨y0, y1, y2, y3, y4⟩ := at_kh HA4.out m y HYP.out
      obtain ⟨g', cap', cur, hv, _, _, hh⟩ := ownh HA4.out (by rw [List.length_append, zAt_len _ _ _ _ (by omega)]; omega)
      injection hv with ha hn1 hc1
      injection ha with ha
      injection ha with ha
      subst ha
      clear hn1 hc1
      have z0 := blk_frozen hh ((m + 1) * 5)
      have z1 := blk_frozen hh ((m + 1) * 5 + 1)
      have z2 := blk_frozen hh ((m + 1) * 5 + 2)
      have z3 := blk_frozen hh ((m + 1) * 5 + 3)
      have z4 := blk_frozen hh ((m + 1) * 5 + 4)
      have v0 := blk_frozen hh (m * 5)
      have v1 := blk_frozen hh (m * 5 + 1)
      have v2 := blk_frozen hh (m * 5 + 2)
      have v3 := blk_frozen hh (m * 5 + 3)
      have v4 := blk_frozen hh (m * 5 + 4)
      clear hh
      have p1 := put_kh HA4.out (m + 1) (by omega) y
      have p2 := put_kh p1.1 m (by omega) x
      have hR5 := Kd.R_drew p2.1
      have hG5 := grown_drew (grown_grown (grown_grown HG4.out p1.2) p2.2)
      rw [HZS.out] at hR5
      simp only [hc, World.setCells, Nat.add_assoc, Nat.reduceAdd] at hR5 hG5
      have HR5 := Aside0.mk hR5
      have HG5 := Aside0.mk hG5
      clear hR5 hG5 p1 p2
      go_region
      revert HR5 HG5
      generalize World.drew _ = w5
      intro HR5 HG5
      go_wp2
      go_roundg m
      case rel => exact ⟨m, by omega, by omega, rfl, ⟨rfl⟩, ⟨fun z hz => by
       rw [HDR.out] at hz
       rcases List.mem_cons.1 hz with rfl | hz
       ·exact HLT.out
       ·exact HD.out z (by rw [show m + 1 - a = m - a + 1 by omega]; exact hz)⟩, HR5, HG5⟩
      case measure => have := HQ.out; omega
     ·have hcmp : decide (cmpI x.1.f2 y.1.f2 < 0) = false := by
       unfold hkey at hlt2; unfold cmpI; rw [if_neg hlt2]; split <;> simp
      have HLT := Aside0.mk hlt2
      clear hlt2
      go_wp2_with (go_at_call 72; refine (cmpH_any x y _).mono ?_; rintro e w4 ⟨rfl, hb4⟩; have HA4 := Aside0.mk (Kd.R_below HA3.out hb4); have HG4 := Aside0.mk (grown_below HG3.out hb4); clear hb4)
      have hdone : X ++ (isort hkey (xs.take (p + 1 - a)) ++ xs.drop (p + 1 - a)) = X ++ zAt L x rest (m + 1 - a) := by
       have hd := HD.out
       rw [show m + 1 - a = m - a + 1 by omega] at hd ⊢
       rw [HPI.out.2, HST.out, HRE.out, insK_at hkey x L (m - a + 1) (fun z hz => by
        rw [HTK.out] at hz
        have hp := HSRT.out
        rw [← List.take_append_drop (m - a) L, List.pairwise_append] at hp
        rcases List.mem_append.1 hz with hz | hz
        ·have := hp.2.2 z hz y (by rw [HDR.out]; simp)
         have := HLT.out
         omega
        ·obtain rfl := List.mem_singleton.1 hz
         have := HLT.out
         omega) hd]
       simp [zAt]
      rw [← hdone] at HA4
      clear hdone
      go_roundw
      case rel => exact ⟨p + 1, by omega, by omega, by go_num, HA4, HG4⟩
      case measure => simp [intOf]; omega
  ·have hlt' : ¬ (p : Int) < b := by omega
   obtain rfl : p = b := by omega
   have hpc : p - a = c := by have := HXL.out; omega
   rw [hpc] at HA
   go_wp2
   go_end0
   exact ⟨rfl, HA.out, HG.out⟩
end Go.Proofs.Ytckhjehibjdjdaa.P
namespace Go.Proofs.Ytckhjehibjdjdaa.P
set_option linter.unusedVariables false
set_option linter.unusedSimpArgs false
section
variable {α : Type} (key : α → Int)
def sp (bs : Nat) : Nat → List α → List α
 | 0, _ => []
 | k + 1, l => isort key (l.take bs) ++ sp bs k (l.drop bs)
def sc (bs : Nat) (l : List α) : List α := sp key bs (l.length / bs) l ++ isort key (l.drop (bs * (l.length / bs)))
theorem isort_len (l : List α) : (isort key l).length = l.length := (isort_perm key l).length_eq
theorem sp_len (bs : Nat) : ∀ (k : Nat) (l : List α), bs * k ≤ l.length → (sp key bs k l).length = bs * k
 | 0, _, _ => by simp [sp]
 | k + 1, l, h => by
  rw [Nat.mul_succ] at h ⊢
  rw [sp, List.length_append, isort_len, List.length_take, sp_len bs k (l.drop bs) (by rw [List.length_drop]; omega)]
  omega
theorem sp_snoc (bs : Nat) : ∀ (k : Nat) (l : List α), sp key bs (k + 1) l = sp key bs k l ++ isort key ((l.drop (bs * k)).take bs)
 | 0, l => by simp [sp]
 | k + 1, l => by
  have e : (l.drop bs).drop (bs * k) = l.drop (bs * (k + 1)) := by rw [List.drop_drop]; congr 1; rw [Nat.mul_succ]; omega
  rw [sp, sp_snoc bs k (l.drop bs), sp, e, List.append_assoc]
theorem sc_small (bs : Nat) (l : List α) (h0 : 0 < bs) (h : l.length ≤ bs) : sc key bs l = isort key l := by
 unfold sc
 by_cases e : l.length = bs
 ·rw [e, Nat.div_self h0, sp, sp, List.take_of_length_le (by omega), List.drop_eq_nil_of_le (by omega)]
  simp [isort]
 ·rw [Nat.div_eq_of_lt (by omega)]; simp [sp]
theorem sc_cons (bs : Nat) (l : List α) (h0 : 0 < bs) (h : bs ≤ l.length) : sc key bs l = isort key (l.take bs) ++ sc key bs (l.drop bs) := by
 have e : l.length / bs = (l.drop bs).length / bs + 1 := by
  rw [List.length_drop]
  have : l.length = (l.length - bs) + bs := by omega
  rw [this, Nat.add_div_right _ h0]; simp
 have e2 : l.drop (bs * ((l.drop bs).length / bs + 1)) = (l.drop bs).drop (bs * ((l.drop bs).length / bs)) := by
  rw [List.drop_drop]; congr 1; rw [Nat.mul_succ]; omega
 unfold sc
 rw [e, sp, List.append_assoc, e2]
theorem sc_two (bs : Nat) (l : List α) (h0 : 0 < bs) (h : 2 * bs ≤ l.length) : sc key bs l = isort key (l.take bs) ++ (isort key ((l.drop bs).take bs) ++ sc key bs (l.drop (2 * bs))) := by
 rw [sc_cons key bs l h0 (by omega), sc_cons key bs (l.drop bs) h0 (by rw [List.length_drop]; omega), List.drop_drop, show bs + bs = 2 * bs by omega]
theorem take_two (bs : Nat) (l : List α) : l.take (2 * bs) = l.take bs ++ (l.drop bs).take bs := by
 rw [show 2 * bs = bs + bs by omega, List.take_add]
theorem sc_part (bs : Nat) (l : List α) (h0 : 0 < bs) (h1 : bs ≤ l.length) (h2 : l.length < 2 * bs) : sc key bs l = isort key (l.take bs) ++ isort key (l.drop bs) := by
 rw [sc_cons key bs l h0 h1, sc_small key bs (l.drop bs) h0 (by rw [List.length_drop]; omega)]
end
end Go.Proofs.Ytckhjehibjdjdaa.P
namespace Go.Proofs.Ytckhjehibjdjdaa.P
open Go.RowKit Go.Shelf Go.Proofs.YtckhjehibjdjdaaW.PrintWords Go.Proofs.YtckhjehibjdjdaaW.PrintLast Go.Proofs.YtckhjehibjdjdaaW.PrintMore
attribute [local go_sem] Oper.semAt_some
set_option linter.unusedVariables false
set_option linter.unusedSimpArgs false
theorem insert_part (g n cap base a b c : Nat) (ok : Nat → Prop) (X xs : List (HV)) (w : World) (hr : Kd.R kh 41 w base ok (.slice (some ⟨g, 0, none⟩) n cap) (X ++ xs)) (ha : a = X.length) (hb : b = a + c) (hc : c ≤ xs.length) (hn : n ≤ 1000000000000) (hok : ∀ k, ok k → k < w.heap.size) :
  Calls Try.prog 120 #[.slice (some ⟨g, 0, none⟩) n cap, .int .i64 a, .int .i64 b, .func (.func 72) #[] #[]] w fun e w' => e = .returned (.tuple #[]) ∧ Kd.R kh 41 w' base ok (.slice (some ⟨g, 0, none⟩) n cap) (X ++ (isort hkey (xs.take c) ++ xs.drop c)) ∧ w.grownBy w' (some g) := by
 by_cases h2 : 2 ≤ c
 ·exact insert_gen g n cap base a b c ok X xs w hr ha hb hc hn h2 hok
 ·have hl := (Kd.R_reads' hr).1
  rw [List.length_append] at hl
  refine (insert_none (.slice (some ⟨g, 0, none⟩) n cap) a b (by omega) (by omega) w).mono ?_
  rintro e w' ⟨rfl, rfl⟩
  rw [isort_one hkey (xs.take c) (by rw [List.length_take]; omega), List.take_append_drop]
  exact ⟨rfl, hr, grown_refl _ _⟩
set_option maxHeartbeats 16000000 in
set_option maxRecDepth 100000 in
theorem stable_gen (g n cap base : Nat) (ok : Nat → Prop) (xs : List HV) (w : World) (hr : Kd.R kh 41 w base ok (.slice (some ⟨g, 0, none⟩) n cap) xs) (hn : n ≤ 100000000000) (hok : ∀ k, ok k → k < w.heap.size) :
  Calls Try.prog 103 #[.slice (some ⟨g, 0, none⟩) n cap, .int .i64 n, .func (.func 72) #[] #[]] w fun e w' => e = .returned (.tuple #[]) ∧ Kd.R kh 41 w' base ok (.slice (some ⟨g, 0, none⟩) n cap) (isort hkey xs) ∧ w.grownBy w' (some g) := by
 have hxl := (Kd.R_reads' hr).1
 have HR := Aside0.mk hr
 have HOK := Aside0.mk hok
 have HXL := Aside0.mk hxl
 clear hr hok hxl
 go_enter Try.func103, Try.ntmps103
 go_wp2
 go_loopw [7, 8] (fun v7 v8 wr => ∃ (i a b : Nat), v7 = .int .i64 (a : Int) ∧ v8 = .int .i64 (b : Int) ∧ Aside0 (a = 20 * i ∧ b = 20 * i + 20) ∧ a ≤ n ∧ Aside0 (Kd.R kh 41 wr base ok (.slice (some ⟨g, 0, none⟩) n cap) (sp hkey 20 i xs ++ xs.drop (20 * i))) ∧ Aside0 (w.grownBy wr (some g))) (fun v7 _ _ => n - (intOf v7).toNat)
 case atStart => exact ⟨0, 0, 20, rfl, rfl, ⟨by omega⟩, Nat.zero_le _, ⟨by simpa [sp] using HR.out⟩, ⟨grown_refl _ _⟩⟩
 case round =>
  clear HR
  obtain ⟨i, a, b, rfl, rfl, HI, han, HA, HG⟩ := hrel
  have hok1 : ∀ k, ok k → k < wr.heap.size := fun k hk => Nat.lt_of_lt_of_le (HOK.out k hk) HG.out.size
  by_cases hlt : b ≤ n
  ·have hlt' : (b : Int) ≤ n := by omega
   have HC := Aside0.mk (insert_part g n cap base a b 20 ok (sp hkey 20 i xs) (xs.drop (20 * i)) wr HA.out (by rw [sp_len hkey 20 i xs (by have := HI.out; have := HXL.out; omega)]; exact HI.out.1) (by have := HI.out; omega) (by rw [List.length_drop]; have := HI.out; have := HXL.out; omega) (by omega) hok1)
   have HE := Aside0.mk (show sp hkey 20 i xs ++ (isort hkey ((xs.drop (20 * i)).take 20) ++ (xs.drop (20 * i)).drop 20) = sp hkey 20 (i + 1) xs ++ xs.drop (20 * (i + 1)) from by
    rw [sp_snoc, List.append_assoc, List.drop_drop, Nat.mul_succ])
   clear hok1 HA
   go_wp2_with (go_at_call 120; refine HC.out.mono ?_; rintro e w5 ⟨rfl, hr5, hg5⟩; rw [HE.out] at hr5; have HR5 := Aside0.mk hr5; have HG5 := Aside0.mk (grown_grown HG.out hg5); clear hr5 hg5)
   go_roundw
   case rel => exact ⟨i + 1, b, b + 20, rfl, by go_num, ⟨by have := HI.out; omega⟩, hlt, HR5, HG5⟩
   case measure => simp [intOf]; have := HI.out; omega
  ·have hlt' : ¬ (b : Int) ≤ n := by omega
   have hdiv : n / 20 = i := by have := HI.out; omega
   have hC := insert_part g n cap base a n (n - a) ok (sp hkey 20 i xs) (xs.drop (20 * i)) wr HA.out (by rw [sp_len hkey 20 i xs (by have := HI.out; have := HXL.out; omega)]; exact HI.out.1) (by omega) (by rw [List.length_drop]; have := HI.out; have := HXL.out; omega) (by omega) hok1
   have HE := Aside0.mk (show sp hkey 20 i xs ++ (isort hkey ((xs.drop (20 * i)).take (n - a)) ++ (xs.drop (20 * i)).drop (n - a)) = sc hkey 20 xs from by
    unfold sc
    rw [← HXL.out, hdiv, List.take_of_length_le (by rw [List.length_drop]; have := HI.out; have := HXL.out; omega), show (xs.drop (20 * i)).drop (n - a) = [] from List.drop_eq_nil_of_le (by rw [List.length_drop]; have := HI.out; have := HXL.out; omega), List.append_nil])
   have HC := Aside0.mk hC
   clear hok1 HA hC hdiv
   go_wp2_with (go_at_call 120; refine HC.out.mono ?_; rintro e w5 ⟨rfl, hr5, hg5⟩; rw [HE.out] at hr5; have HR5 := Aside0.mk hr5; have HG5 := Aside0.mk (grown_grown HG.out hg5); clear hr5 hg5)
   clear HC HE HG HI hlt hlt' han
   go_loopw [6, 7, 8, 9] (fun v6 v7 v8 v9 wr => ∃ bs : Nat, v6 = .int .i64 (bs : Int) ∧ 20 ≤ bs ∧ bs ≤ 200000000000 ∧ Aside0 (Kd.R kh 41 wr base ok (.slice (some ⟨g, 0, none⟩) n cap) (sc hkey bs xs)) ∧ Aside0 (w.grownBy wr (some g))) (fun v6 _ _ _ _ => n - (intOf v6).toNat)
   case atStart => exact ⟨20, rfl, by omega, by omega, HR5, HG5⟩
   case round =>
    clear HR5 HG5
    obtain ⟨bs, rfl, hb20, hbM, HA, HG⟩ := hrel
    by_cases hbn : bs < n
    ·have hbn' : (bs : Int) < n := by omega
     go_wp2
     obtain ⟨wo, hwo⟩ : ∃ wo : World, wo = wr := ⟨_, rfl⟩
     subst hwo
     go_loopw [7, 8] (fun v7 v8 wr => ∃ (i a b : Nat), v7 = .int .i64 (a : Int) ∧ v8 = .int .i64 (b : Int) ∧ Aside0 (a = 2 * bs * i ∧ b = 2 * bs * i + 2 * bs) ∧ a ≤ n ∧ b ≤ n + 2 * bs ∧ Aside0 (Kd.R kh 41 wr base ok (.slice (some ⟨g, 0, none⟩) n cap) (sp hkey (2 * bs) i xs ++ sc hkey bs (xs.drop (2 * bs * i)))) ∧ Aside0 (w.grownBy wr (some g))) (fun v7 _ _ => n - (intOf v7).toNat)
     case atStart => exact ⟨0, 0, 2 * bs, rfl, by go_num, ⟨by omega⟩, Nat.zero_le _, by omega, ⟨by simpa [sp] using HA.out⟩, HG⟩
     case round =>
      clear HA HG
      obtain ⟨i, a, b, rfl, rfl, HI, han, hbb, HA, HG⟩ := hrel
      have hok1 : ∀ k, ok k → k < wr.heap.size := fun k hk => Nat.lt_of_lt_of_le (HOK.out k hk) HG.out.size
      have hspl : (sp hkey (2 * bs) i xs).length = a := by rw [sp_len hkey (2 * bs) i xs (by have := HI.out; have := HXL.out; omega)]; exact HI.out.1.symm
      by_cases hlt : b ≤ n
      ·have hlt' : (b : Int) ≤ n := by omega
       have hll : 2 * bs ≤ (xs.drop (2 * bs * i)).length := by rw [List.length_drop]; have := HI.out; have := HXL.out; omega
       have h2 := sc_two hkey bs (xs.drop (2 * bs * i)) (by omega) hll
       have hAr := HA.out
       rw [h2] at hAr
       have l1 : (isort hkey ((xs.drop (2 * bs * i)).take bs)).length = bs := by rw [isort_len, List.length_take]; omega
       have l2 : (isort hkey (((xs.drop (2 * bs * i)).drop bs).take bs)).length = bs := by rw [isort_len, List.length_take, List.length_drop]; omega
       have HC := Aside0.mk (symMerge_any _ g n cap base a (a + bs) b ok _ _ _ _ wr rfl hAr hspl.symm (by omega) (by have := HI.out; omega) (by omega) (by omega) (isort_sorted hkey _) (isort_sorted hkey _) (by omega) hok1)
       have HE := Aside0.mk (show sp hkey (2 * bs) i xs ++ (mrg hkey (isort hkey ((xs.drop (2 * bs * i)).take bs)) (isort hkey (((xs.drop (2 * bs * i)).drop bs).take bs)) ++ sc hkey bs ((xs.drop (2 * bs * i)).drop (2 * bs))) = sp hkey (2 * bs) (i + 1) xs ++ sc hkey bs (xs.drop (2 * bs * (i + 1))) from by
        rw [← isort_append, ← take_two, sp_snoc, List.append_assoc, List.drop_drop, Nat.mul_succ])
       have e2 : IntKind.i64.wrap ((a : Int) + (bs : Int)) = ((a + bs : Nat) : Int) := by rw [IntKind.wrap_i64]; omega
       have e3 : IntKind.i64.wrap ((a + bs : Nat) : Int) = ((a + bs : Nat) : Int) := by rw [IntKind.wrap_i64]; omega
       clear hok1 HA hAr l1 l2 h2 hll hspl
       go_wp2_with (go_at_call 121; refine HC.out.mono ?_; rintro e w5 ⟨rfl, hr5, hg5⟩; rw [HE.out] at hr5; have HR5 := Aside0.mk hr5; have HG5 := Aside0.mk (grown_grown HG.out hg5); clear hr5 hg5)
       go_roundw
       case rel => exact ⟨i + 1, b, b + 2 * bs, rfl, by first | go_num | exact int_i64 (by omega), ⟨by have := HI.out; rw [Nat.mul_succ]; omega⟩, hlt, by omega, HR5, HG5⟩
       case measure => simp [intOf]; have := HI.out; omega
      ·have hlt' : ¬ (b : Int) ≤ n := by omega
       have hll : (xs.drop (2 * bs * i)).length = n - a ∧ n - a < 2 * bs := by rw [List.length_drop]; have := HI.out; have := HXL.out; omega
       have hdiv : n / (2 * bs) = i := by
        have h1 := HI.out
        exact Nat.div_eq_of_lt_le (by rw [Nat.mul_comm]; omega) (by rw [Nat.mul_comm, Nat.mul_succ]; omega)
       have HSC := Aside0.mk (show sc hkey (2 * bs) xs = sp hkey (2 * bs) i xs ++ isort hkey (xs.drop (2 * bs * i)) from by unfold sc; rw [← HXL.out, hdiv])
       by_cases hm : a + bs < n
       ·have hm' : (a : Int) + (bs : Int) < n := by omega
        have hm2 : ((a + bs : Nat) : Int) < n := by omega
        have h2 := sc_part hkey bs (xs.drop (2 * bs * i)) (by omega) (by omega) (by omega)
        have hAr := HA.out
        rw [h2, ← List.append_nil (isort hkey ((xs.drop (2 * bs * i)).drop bs))] at hAr
        have l1 : (isort hkey ((xs.drop (2 * bs * i)).take bs)).length = bs := by rw [isort_len, List.length_take]; omega
        have l2 : (isort hkey ((xs.drop (2 * bs * i)).drop bs)).length = n - a - bs := by rw [isort_len, List.length_drop]; omega
        have HC := Aside0.mk (symMerge_any _ g n cap base a (a + bs) n ok _ _ _ _ wr rfl hAr hspl.symm (by omega) (by omega) (by omega) (by omega) (isort_sorted hkey _) (isort_sorted hkey _) (by omega) hok1)
        have HE := Aside0.mk (show sp hkey (2 * bs) i xs ++ (mrg hkey (isort hkey ((xs.drop (2 * bs * i)).take bs)) (isort hkey ((xs.drop (2 * bs * i)).drop bs)) ++ []) = sc hkey (2 * bs) xs from by
         rw [← isort_append, List.take_append_drop, List.append_nil, HSC.out])
        have e2 : IntKind.i64.wrap ((a : Int) + (bs : Int)) = ((a + bs : Nat) : Int) := by rw [IntKind.wrap_i64]; omega
        have e3 : IntKind.i64.wrap ((a + bs : Nat) : Int) = ((a + bs : Nat) : Int) := by rw [IntKind.wrap_i64]; omega
        clear hok1 HA hAr l1 l2 h2 hll hspl hdiv
        go_wp2_with (go_at_call 121; refine HC.out.mono ?_; rintro e w5 ⟨rfl, hr5, hg5⟩; rw [HE.out] at hr5; have HR5 := Aside0.mk hr5; have HG5 := Aside0.mk (grown_grown HG.out hg5); clear hr5 hg5)
        go_roundw
        case rel => exact ⟨2 * bs, by first | go_num | exact int_i64 (by omega), by omega, by omega, HR5, HG5⟩
        case measure => simp [intOf]; omega
       ·have hm' : ¬ (a : Int) + (bs : Int) < n := by omega
        have hAr := HA.out
        rw [sc_small hkey bs (xs.drop (2 * bs * i)) (by omega) (by omega), ← HSC.out] at hAr
        have HR5 := Aside0.mk hAr
        clear hok1 HA hAr hll hspl hdiv
        go_wp2
        go_roundw
        case rel => exact ⟨2 * bs, by first | go_num | exact int_i64 (by omega), by omega, by omega, HR5, HG⟩
        case measure => simp [intOf]; omega
    ·have hbn' : ¬ (bs : Int) < n := by omega
     have hfin := HA.out
     rw [sc_small hkey bs xs (by omega) (by have := HXL.out; omega)] at hfin
     have HF := Aside0.mk hfin
     clear hfin HA
     go_wp2
     go_end0
     exact ⟨rfl, HF.out, HG.out⟩
end Go.Proofs.Ytckhjehibjdjdaa.P
namespace Go.Proofs.Ytckhjehibjdjdaa.P
open Go.RowKit Go.Shelf Go.Proofs.YtckhjehibjdjdaaW.PrintWords Go.Proofs.YtckhjehibjdjdaaW.PrintLast Go.Proofs.YtckhjehibjdjdaaW.PrintMore
attribute [local go_sem] Oper.semAt_some
set_option linter.unusedVariables false
set_option linter.unusedSimpArgs false
theorem stable_big (A : Option Addr) (n cap base : Nat) (ok : Nat → Prop) (xs : List HV) (w : World) (hr : Kd.R kh 41 w base ok (.slice A n cap) xs) (hn : n ≤ 100000000000) (hok : ∀ k, ok k → k < w.heap.size) (g : Nat) (hg : ∀ a, A = some a → a.block = g) :
  Calls Try.prog 103 #[.slice A n cap, .int .i64 n, .func (.func 72) #[] #[]] w fun e w' => e = .returned (.tuple #[]) ∧ Kd.R kh 41 w' base ok (.slice A n cap) (isort hkey xs) ∧ w.grownBy w' (some g) := by
 by_cases h2 : n ≤ 20
 ·exact stable_any A n cap base ok xs w hr h2 hok g hg
 ·have hl := (Kd.R_reads' hr).1
  obtain ⟨g', cap', cur, hv, _, _, _⟩ := ownh hr (by omega)
  injection hv with ha hn1 hc1
  subst ha
  obtain rfl : g' = g := hg _ rfl
  exact stable_gen g' n cap base ok xs w hr hn hok
set_option maxHeartbeats 8000000 in
set_option maxRecDepth 100000 in
theorem sort_big (A : Option Addr) (n cap base : Nat) (ok : Nat → Prop) (xs : List HV) (w : World) (hr : Kd.R kh 41 w base ok (.slice A n cap) xs) (hn : n ≤ 100000000000) (hok : ∀ k, ok k → k < w.heap.size) (g : Nat) (hg : ∀ a, A = some a → a.block = g) :
  Calls Try.prog 71 #[.slice A n cap, .func (.func 72) #[] #[]] w fun e w' => e = .returned (.tuple #[]) ∧ Kd.R kh 41 w' base ok (.slice A n cap) (isort hkey xs) ∧ w.grownBy w' (some g) := by
 have HI := Aside0.mk (stable_big A n cap base ok xs w hr hn hok g hg)
 clear hr hok hg
 go_enter Try.func71, Try.ntmps71
 go_wp2_with (go_at_call 103; refine HI.out.mono ?_; rintro e w1 ⟨rfl, hr1, hg1⟩; have HR1 := Aside0.mk hr1; have HG1 := Aside0.mk hg1; clear hr1 hg1)
 go_end0
 exact ⟨rfl, HR1.out, HG1.out⟩
end Go.Proofs.Ytckhjehibjdjdaa.P
namespace Go.Proofs.Ytckhjehibjdjdaa.P
open Go.RowKit Go.Shelf Go.Proofs.YtckhjehibjdjdaaW.PrintWords Go.Proofs.YtckhjehibjdjdaaW.PrintLast Go.Proofs.YtckhjehibjdjdaaW.PrintMore
attribute [local go_sem] Oper.semAt_some
set_option linter.unusedVariables false
set_option linter.unusedSimpArgs false
theorem sort_n2 (A : Option Addr) (n cap base : Nat) (xs : List HV) (w : World) (hr : Kd.R kh 41 w base (fun _ => True) (.slice A n cap) xs) (hn : n ≤ 100000) :
  Calls Try.prog 71 #[.slice A n cap, .func (.func 72) #[] #[]] w fun e w' => e = .returned (.tuple #[]) ∧ Kd.R kh 41 w' base (fun k => base ≤ k ∧ k < w.heap.size) (.slice A n cap) (isort hkey xs) ∧ w.grownBy w' (some (blkOf A w.heap.size)) :=
 sort_big A n cap base _ xs w (Kd.R_mono (Kd.R_bound hr) (fun k hk => ⟨hk.2.1, hk.2.2.1⟩)) (Nat.le_trans hn (by decide)) (fun k hk => hk.2) (blkOf A w.heap.size) (fun a ha => by rw [ha]; rfl)
theorem KP.under {w W W' : World} {S : Nat → Prop} (h : KP W W' S) (hb : Below w.heap.size w W) (hs : ∀ k, S k → w.heap.size ≤ k) : Below w.heap.size w W' :=
 ⟨h.os.trans hb.os, h.tape.trans hb.tape, h.output.trans hb.output, Nat.le_trans hb.size h.kept.1, fun k hk => (h.kept.2 k (Nat.lt_of_lt_of_le hk hb.size) (fun hh => by have := hs k hh; omega)).trans (hb.block k hk)⟩
theorem KP.trans {w W W' : World} {S : Nat → Prop} (h : KP w W S) (h' : KP W W' S) : KP w W' S :=
 ⟨⟨Nat.le_trans h.kept.1 h'.kept.1, fun i hi hs => (h'.kept.2 i (Nat.lt_of_lt_of_le hi h.kept.1) hs).trans (h.kept.2 i hi hs)⟩, h'.os.trans h.os, h'.tape.trans h.tape, h'.output.trans h.output⟩
set_option maxHeartbeats 8000000 in
set_option maxRecDepth 100000 in
theorem early_any (now : Int) (A1 : Option Addr) (c1 : Nat) (l1 : List S51) (lg lc : Int) (A3 : Option Addr) (c3 : Nat) (l3 : List S41) (q m g c mn mx : Int) (w : World) (hr1 : Kd.C k51 w A1 l1.length l1) (hc1 : l1.length ≤ c1) (hr3 : Kd.C k41 w A3 l3.length l3) (hc3 : l3.length ≤ c3)
  (hn : l3.length ≤ 1000) (hv : viewOk l1) (hs : ∀ s ∈ l3.flatMap (fun h => h.f4), maskOk s = true ∧ (w64B s.f0.f0 && w64B s.f0.f1) = true) (hlen : (l3.flatMap fun h => h.f4).length < 4000000000) :
  Calls Try.prog 27 #[.int .i64 now, .slice A1 l1.length c1, .agg #[.int .i64 lg, .int .i64 lc], .slice A3 l3.length c3, .agg #[.int .i64 q, .int .i64 m, .int .i64 g, .int .i64 c, .int .i64 mn, .int .i64 mx]] w fun e w' => e = .returned (.tuple #[.int .i64 (earliestB now l1 lg lc l3 q m g c mn mx).1, .int .i64 (earliestB now l1 lg lc l3 q m g c mn mx).2]) ∧ Below w.heap.size w w' := by
 have hu22 := Try.underlying22
 have hu24 := Try.underlying24
 have hu25 := Try.underlying25
 have hu29 := Try.underlying29
 have hu41 := Try.underlying41
 have HR1 := Aside0.mk hr1
 have HR3 := Aside0.mk hr3
 have HC1 := Aside0.mk hc1
 have HC3 := Aside0.mk hc3
 have HN := Aside0.mk hn
 have HVO := Aside0.mk hv
 have HS := Aside0.mk hs
 have HLEN := Aside0.mk hlen
 have HRT := Aside0.mk (fun w => promise_right.calls q m g c mn mx _ w (right_eq q m g c mn mx))
 clear hr1 hr3 hc1 hc3 hn hv hs hlen
 by_cases hbad : now < 0 ∨ now > 1073741824 ∨ rightB m g c mn mx = false
 ·have HE : earliestB now l1 lg lc l3 q m g c mn mx = (0, 1) := by unfold earliestB; rw [if_pos hbad]
  rw [HE]
  clear HE
  have hRT0 := right_eq q m g c mn mx
  by_cases h0 : now < 0
  ·have d0 : decide (now < 0) = true := by simpa using h0
   clear h0 hbad hRT0
   go_enter Try.func27, Try.ntmps27
   go_wp2_with (first | ((with_reducible refine gate_dst (N := 6) rfl ?_); refine bx 6 #[.slice A1 l1.length c1] 22 ?_; intro gv hgv w1 hx1 hb1; have wgv : w.heap.size ≤ gv := (by omega); have hgv2 := blk_lt hx1; have HX1 := Aside0.mk hx1; have HB1 := Aside0.mk hb1; clear hx1 hb1) | ((with_reducible refine gate_dst (N := 7) rfl ?_); refine bx 7 #[.int .i64 lg, .int .i64 lc] 24 ?_; intro gl hgl w2 hx2 hb2; have wgl : w.heap.size ≤ gl := (by have := HB1.out.size; omega); have hgl2 := blk_lt hx2; have HX1b := Aside0.mk (blk_below HX1.out hb2); have HX2 := Aside0.mk hx2; have HB2 := Aside0.mk (below_step HB1.out hb2); have hs2 := hb2.size; have nvl : gv ≠ gl := (by omega); clear hx2 hb2) | ((with_reducible refine gate_dst (N := 9) rfl ?_); refine bx 9 #[.int .i64 q, .int .i64 m, .int .i64 g, .int .i64 c, .int .i64 mn, .int .i64 mx] 29 ?_; intro gw hgw w3 hx3 hb3; have HX1c := Aside0.mk (blk_below HX1b.out hb3); have HX2b := Aside0.mk (blk_below HX2.out hb3); have HX3 := Aside0.mk hx3; have HB3 := Aside0.mk (below_step HB2.out hb3); have nvw : gv ≠ gw := (by omega); have nlw : gl ≠ gw := (by omega); have f0 : w3.cell? ⟨gw, 0, none⟩ = some (.int .i64 q) := (blk_cell hx3 0).trans rfl; have f1 : w3.cell? ⟨gw, 1, none⟩ = some (.int .i64 m) := (blk_cell hx3 1).trans rfl; have f2 : w3.cell? ⟨gw, 2, none⟩ = some (.int .i64 g) := (blk_cell hx3 2).trans rfl; have f3 : w3.cell? ⟨gw, 3, none⟩ = some (.int .i64 c) := (blk_cell hx3 3).trans rfl; have f4 : w3.cell? ⟨gw, 4, none⟩ = some (.int .i64 mn) := (blk_cell hx3 4).trans rfl; have f5 : w3.cell? ⟨gw, 5, none⟩ = some (.int .i64 mx) := (blk_cell hx3 5).trans rfl; clear hx3 hb3 hgv hgl hgw hgv2 hgl2 hs2 HX1 HX1b HX2 HB1 HB2) | (go_at_call 68; refine (HRT.out _).mono ?_; rintro e w4 ⟨rfl, hb4⟩; have HX4v := Aside0.mk (blk_below HX1c.out hb4); have HX4l := Aside0.mk (blk_below HX2b.out hb4); have HX4w := Aside0.mk (blk_below HX3.out hb4); have HB4 := Aside0.mk (below_step HB3.out hb4); clear hb4 f0 f1 f2 f3 f4 f5 HX1c HX2b HX3 HB3))
   all_goals go_ret2
   all_goals exact ⟨rfl, HB3.out⟩
  ·have d0 : decide (now < 0) = false := by simpa using h0
   by_cases h1 : now > 1073741824
   ·have d1 : decide (1073741824 < now) = true := by simpa using h1
    clear h0 h1 hbad hRT0
    go_enter Try.func27, Try.ntmps27
    go_wp2_with (first | ((with_reducible refine gate_dst (N := 6) rfl ?_); refine bx 6 #[.slice A1 l1.length c1] 22 ?_; intro gv hgv w1 hx1 hb1; have wgv : w.heap.size ≤ gv := (by omega); have hgv2 := blk_lt hx1; have HX1 := Aside0.mk hx1; have HB1 := Aside0.mk hb1; clear hx1 hb1) | ((with_reducible refine gate_dst (N := 7) rfl ?_); refine bx 7 #[.int .i64 lg, .int .i64 lc] 24 ?_; intro gl hgl w2 hx2 hb2; have wgl : w.heap.size ≤ gl := (by have := HB1.out.size; omega); have hgl2 := blk_lt hx2; have HX1b := Aside0.mk (blk_below HX1.out hb2); have HX2 := Aside0.mk hx2; have HB2 := Aside0.mk (below_step HB1.out hb2); have hs2 := hb2.size; have nvl : gv ≠ gl := (by omega); clear hx2 hb2) | ((with_reducible refine gate_dst (N := 9) rfl ?_); refine bx 9 #[.int .i64 q, .int .i64 m, .int .i64 g, .int .i64 c, .int .i64 mn, .int .i64 mx] 29 ?_; intro gw hgw w3 hx3 hb3; have HX1c := Aside0.mk (blk_below HX1b.out hb3); have HX2b := Aside0.mk (blk_below HX2.out hb3); have HX3 := Aside0.mk hx3; have HB3 := Aside0.mk (below_step HB2.out hb3); have nvw : gv ≠ gw := (by omega); have nlw : gl ≠ gw := (by omega); have f0 : w3.cell? ⟨gw, 0, none⟩ = some (.int .i64 q) := (blk_cell hx3 0).trans rfl; have f1 : w3.cell? ⟨gw, 1, none⟩ = some (.int .i64 m) := (blk_cell hx3 1).trans rfl; have f2 : w3.cell? ⟨gw, 2, none⟩ = some (.int .i64 g) := (blk_cell hx3 2).trans rfl; have f3 : w3.cell? ⟨gw, 3, none⟩ = some (.int .i64 c) := (blk_cell hx3 3).trans rfl; have f4 : w3.cell? ⟨gw, 4, none⟩ = some (.int .i64 mn) := (blk_cell hx3 4).trans rfl; have f5 : w3.cell? ⟨gw, 5, none⟩ = some (.int .i64 mx) := (blk_cell hx3 5).trans rfl; clear hx3 hb3 hgv hgl hgw hgv2 hgl2 hs2 HX1 HX1b HX2 HB1 HB2) | (go_at_call 68; refine (HRT.out _).mono ?_; rintro e w4 ⟨rfl, hb4⟩; have HX4v := Aside0.mk (blk_below HX1c.out hb4); have HX4l := Aside0.mk (blk_below HX2b.out hb4); have HX4w := Aside0.mk (blk_below HX3.out hb4); have HB4 := Aside0.mk (below_step HB3.out hb4); clear hb4 f0 f1 f2 f3 f4 f5 HX1c HX2b HX3 HB3))
    all_goals go_ret2
    all_goals exact ⟨rfl, HB3.out⟩
   ·have d1 : decide (1073741824 < now) = false := by simpa using h1
    have hr : rightB m g c mn mx = false := by
     rcases hbad with h | h | h
     ·exact absurd h h0
     ·exact absurd h h1
     ·exact h
    rw [hr] at HRT
    clear h0 h1 hbad hRT0 hr
    go_enter Try.func27, Try.ntmps27
    go_wp2_with (first | ((with_reducible refine gate_dst (N := 6) rfl ?_); refine bx 6 #[.slice A1 l1.length c1] 22 ?_; intro gv hgv w1 hx1 hb1; have wgv : w.heap.size ≤ gv := (by omega); have hgv2 := blk_lt hx1; have HX1 := Aside0.mk hx1; have HB1 := Aside0.mk hb1; clear hx1 hb1) | ((with_reducible refine gate_dst (N := 7) rfl ?_); refine bx 7 #[.int .i64 lg, .int .i64 lc] 24 ?_; intro gl hgl w2 hx2 hb2; have wgl : w.heap.size ≤ gl := (by have := HB1.out.size; omega); have hgl2 := blk_lt hx2; have HX1b := Aside0.mk (blk_below HX1.out hb2); have HX2 := Aside0.mk hx2; have HB2 := Aside0.mk (below_step HB1.out hb2); have hs2 := hb2.size; have nvl : gv ≠ gl := (by omega); clear hx2 hb2) | ((with_reducible refine gate_dst (N := 9) rfl ?_); refine bx 9 #[.int .i64 q, .int .i64 m, .int .i64 g, .int .i64 c, .int .i64 mn, .int .i64 mx] 29 ?_; intro gw hgw w3 hx3 hb3; have HX1c := Aside0.mk (blk_below HX1b.out hb3); have HX2b := Aside0.mk (blk_below HX2.out hb3); have HX3 := Aside0.mk hx3; have HB3 := Aside0.mk (below_step HB2.out hb3); have nvw : gv ≠ gw := (by omega); have nlw : gl ≠ gw := (by omega); have f0 : w3.cell? ⟨gw, 0, none⟩ = some (.int .i64 q) := (blk_cell hx3 0).trans rfl; have f1 : w3.cell? ⟨gw, 1, none⟩ = some (.int .i64 m) := (blk_cell hx3 1).trans rfl; have f2 : w3.cell? ⟨gw, 2, none⟩ = some (.int .i64 g) := (blk_cell hx3 2).trans rfl; have f3 : w3.cell? ⟨gw, 3, none⟩ = some (.int .i64 c) := (blk_cell hx3 3).trans rfl; have f4 : w3.cell? ⟨gw, 4, none⟩ = some (.int .i64 mn) := (blk_cell hx3 4).trans rfl; have f5 : w3.cell? ⟨gw, 5, none⟩ = some (.int .i64 mx) := (blk_cell hx3 5).trans rfl; clear hx3 hb3 hgv hgl hgw hgv2 hgl2 hs2 HX1 HX1b HX2 HB1 HB2) | (go_at_call 68; refine (HRT.out _).mono ?_; rintro e w4 ⟨rfl, hb4⟩; have HX4v := Aside0.mk (blk_below HX1c.out hb4); have HX4l := Aside0.mk (blk_below HX2b.out hb4); have HX4w := Aside0.mk (blk_below HX3.out hb4); have HB4 := Aside0.mk (below_step HB3.out hb4); clear hb4 f0 f1 f2 f3 f4 f5 HX1c HX2b HX3 HB3))
    all_goals go_ret2
    all_goals exact ⟨rfl, HB4.out⟩
 ·have hn0 : ¬ now < 0 := fun h => hbad (.inl h)
  have hn1 : ¬ now > 1073741824 := fun h => hbad (.inr (.inl h))
  have hrt : rightB m g c mn mx = true := by
   cases h : rightB m g c mn mx with
   | true => rfl
   | false => exact absurd (.inr (.inr h)) hbad
  have HE : earliestB now l1 lg lc l3 q m g c mn mx = (if (turned51 moreE moreF l1 (l3.flatMap fun h => h.f4)).2 ≠ 0 then (0, (turned51 moreE moreF l1 (l3.flatMap fun h => h.f4)).2)
   else (goE q m g c mn mx (isort skey41 l3) now l1 (lg, lc), 0)) := by unfold earliestB; rw [if_neg hbad]
  rw [HE]
  rw [hrt] at HRT
  have hm0 := more_eq HVO.out (fun s hs => (HS.out s hs).2)
  have ha0 := all_eq (l3.length + 1) l3 (Nat.le_refl _) (by have := HN.out; omega) (by have := HLEN.out; omega)
  generalize hall : l3.flatMap (fun h => h.f4) = al at *
  generalize hmr : turned51 moreE moreF l1 al = mr at *
  obtain ⟨mv, me⟩ := mr
  have HM := Aside0.mk hm0
  have HA := Aside0.mk ha0
  have HALL := Aside0.mk hall
  clear hm0 ha0 hmr hall
  obtain ⟨ps, hmap, hpC, hsl⟩ := holds_of HR3.out
  have hpl : ps.length = l3.length := by rw [← hmap, List.length_map]
  have hsm : (isort hkey ps).map (fun x => x.1) = isort skey41 l3 := by
   have := isort_map skey41 (fun x : HV => x.1) ps []
   rw [hmap] at this
   exact this
  have HMAP := Aside0.mk hmap
  have HPC := Aside0.mk hpC
  have HSL := Aside0.mk hsl
  have HPL := Aside0.mk hpl
  have hwl : wrap64 ((ps.length : Int) + 1) = (ps.length : Int) + 1 := w_id (by have := HN.out; omega)
  rw [← hsm]
  have hperm := isort_perm hkey ps
  obtain ⟨SP, hSP⟩ : ∃ SP, isort hkey ps = SP := ⟨_, rfl⟩
  rw [hSP] at hperm ⊢
  have HSPE := Aside0.mk hSP
  have HPERM := Aside0.mk hperm
  clear hmap hpC hsl hpl hsm hSP hperm
  have d0 : decide (now < 0) = false := by simpa using hn0
  have d1 : decide (1073741824 < now) = false := by simpa using hn1
  clear HE hbad hrt hn0 hn1
  go_enter Try.func27, Try.ntmps27
  go_wp2_with (first | ((with_reducible refine gate_dst (N := 6) rfl ?_); refine bx 6 #[.slice A1 l1.length c1] 22 ?_; intro gv hgv w1 hx1 hb1; have wgv : w.heap.size ≤ gv := (by omega); have hgv2 := blk_lt hx1; have HX1 := Aside0.mk hx1; have HB1 := Aside0.mk hb1; clear hx1 hb1) | ((with_reducible refine gate_dst (N := 7) rfl ?_); refine bx 7 #[.int .i64 lg, .int .i64 lc] 24 ?_; intro gl hgl w2 hx2 hb2; have wgl : w.heap.size ≤ gl := (by have := HB1.out.size; omega); have hgl2 := blk_lt hx2; have HX1b := Aside0.mk (blk_below HX1.out hb2); have HX2 := Aside0.mk hx2; have HB2 := Aside0.mk (below_step HB1.out hb2); have hs2 := hb2.size; have nvl : gv ≠ gl := (by omega); clear hx2 hb2) | ((with_reducible refine gate_dst (N := 9) rfl ?_); refine bx 9 #[.int .i64 q, .int .i64 m, .int .i64 g, .int .i64 c, .int .i64 mn, .int .i64 mx] 29 ?_; intro gw hgw w3 hx3 hb3; have HX1c := Aside0.mk (blk_below HX1b.out hb3); have HX2b := Aside0.mk (blk_below HX2.out hb3); have HX3 := Aside0.mk hx3; have HB3 := Aside0.mk (below_step HB2.out hb3); have nvw : gv ≠ gw := (by omega); have nlw : gl ≠ gw := (by omega); have f0 : w3.cell? ⟨gw, 0, none⟩ = some (.int .i64 q) := (blk_cell hx3 0).trans rfl; have f1 : w3.cell? ⟨gw, 1, none⟩ = some (.int .i64 m) := (blk_cell hx3 1).trans rfl; have f2 : w3.cell? ⟨gw, 2, none⟩ = some (.int .i64 g) := (blk_cell hx3 2).trans rfl; have f3 : w3.cell? ⟨gw, 3, none⟩ = some (.int .i64 c) := (blk_cell hx3 3).trans rfl; have f4 : w3.cell? ⟨gw, 4, none⟩ = some (.int .i64 mn) := (blk_cell hx3 4).trans rfl; have f5 : w3.cell? ⟨gw, 5, none⟩ = some (.int .i64 mx) := (blk_cell hx3 5).trans rfl; clear hx3 hb3 hgv hgl hgw hgv2 hgl2 hs2 HX1 HX1b HX2 HB1 HB2) | (go_at_call 68; refine (HRT.out _).mono ?_; rintro e w4 ⟨rfl, hb4⟩; have HX4v := Aside0.mk (blk_below HX1c.out hb4); have HX4l := Aside0.mk (blk_below HX2b.out hb4); have HX4w := Aside0.mk (blk_below HX3.out hb4); have HB4 := Aside0.mk (below_step HB3.out hb4); clear hb4 f0 f1 f2 f3 f4 f5 HX1c HX2b HX3 HB3))
  have k4 : w4.cell? ⟨gv, 0, none⟩ = some (.slice A1 l1.length c1) := (blk_cell HX4v.out 0).trans rfl
  go_region_held3 (fun w' => w'.cell? ⟨gv, 0, none⟩ = some (.slice A1 l1.length c1)) (first | exact k4 | assumption) (first | (go_at_call 69; refine (promise_all.calls (l3.length + 1) A3 c3 l3 _ _ (Kd.C_below HR3.out (below_drew1 HB4.out)) HC3.out HA.out).mono ?_; rintro e w5 ⟨v5, rfl, ho5, hb5⟩; obtain ⟨A5, c5, rfl, hc5, hr5⟩ := Kd.R_reads ho5; have k5 : w5.cell? ⟨gv, 0, none⟩ = some (.slice A1 l1.length c1) := pw_cell_below hb5 k4; have HB5 := Aside0.mk (below_step (below_drew1 (Below.refl w4.heap.size w4)) hb5); have HR5 := Aside0.mk (And.intro hc5 hr5); clear ho5 hb5 hc5 hr5) | (go_at_call 52; refine (pack_More.calls A1 c1 l1 A5 c5 al mv me _ (Kd.C_below HR1.out (below_step HB4.out HB5.out)) HC1.out HR5.out.2 HR5.out.1 HM.out).mono ?_; rintro e w6 ⟨v6, rfl, ho6, hb6⟩; have k6 : w6.cell? ⟨gv, 0, none⟩ = some (.slice A1 l1.length c1) := pw_cell_below hb6 k5; have HB6 := Aside0.mk (below_step HB5.out hb6); clear ho6 hb6))
  clear k4 k5 k6
  by_cases hme : me = 0
  ·subst hme
   go_wp2_with (first | (go_at_call 70; refine (clone70_n A3 c3 l3.length ps _ HPL.out (Kd.C_below HPC.out (below_step HB4.out HB6.out)) (by have := HPL.out; have := HN.out; omega)).mono ?_; rintro e w7 ⟨v7, rfl, ho7, hb7⟩; obtain ⟨A7, c7, rfl, hc7, _⟩ := Kd.R_reads ho7; have HO7 := Aside0.mk ho7; have HB7 := Aside0.mk hb7; clear ho7 hb7 hc7) | (go_at_call 71; refine (sort_n2 A7 ps.length c7 w6.heap.size ps _ HO7.out (by have := HPL.out; have := HN.out; omega)).mono ?_; rintro e w8 ⟨rfl, ho8, hg8⟩; rw [HSPE.out] at ho8; have HO8 := Aside0.mk ho8; have HG8 := Aside0.mk hg8; clear ho8 hg8))
   have hB6 := below_step HB4.out HB6.out
   have hB7 := below_step hB6 HB7.out
   have hbb := blkOf_base HO7.out HB7.out.size
   have hs46 := HB6.out.size
   have gv4 := blk_lt HX4v.out
   have gl4 := blk_lt HX4l.out
   have gw4 := blk_lt HX4w.out
   have hB8 : Below w.heap.size w w8 := hB7.grown HG8.out hB7.size (fun k e => by cases e; have := HB4.out.size; omega)
   have hmv : ∀ k, k < w4.heap.size → w8.heap[k]? = w4.heap[k]? := fun k hk => by
    rw [HG8.out.block k (by have := HB7.out.size; omega) (fun e => by cases e; omega), HB7.out.block k (by omega), HB6.out.block k hk]
   have HXv := Aside0.mk ((hmv gv gv4).trans HX4v.out)
   have HXl := Aside0.mk ((hmv gl gl4).trans HX4l.out)
   have HXw := Aside0.mk ((hmv gw gw4).trans HX4w.out)
   have HFv := Aside0.mk (Kd.F_mono (ok' := fun k => k ≠ gv ∧ k ≠ gl) (Foot.step (Kd.C_F k51_heap HR1.out) (fun k hk _ => hB8.block k hk)) (fun k hk => ⟨by omega, by omega⟩))
   have HSO := Aside0.mk (fun (x : HV) (hx : x ∈ SP) => (show SlotsOk w8 (fun k => k ≠ gv ∧ k ≠ gl) x from
    let h0 := HSL.out x (HPERM.out.mem_iff.1 hx)
    ⟨h0.1, h0.2.1, Kd.F_mono (Foot.step h0.2.2 (fun k hk _ => hB8.block k hk)) (fun k hk => ⟨by omega, by omega⟩)⟩))
   have HMK := Aside0.mk (fun (x : HV) (hx : x ∈ SP) (s : S52) (hs : s ∈ x.1.f4) => HS.out s (by
    rw [← HALL.out]
    refine List.mem_flatMap.2 ⟨x.1, ?_, hs⟩
    rw [← HMAP.out]
    exact List.mem_map.2 ⟨x, HPERM.out.mem_iff.1 hx, rfl⟩))
   have HLS := Aside0.mk (HPERM.out.length_eq)
   have HPN := Aside0.mk (show ps.length ≤ 1000 by have := HPL.out; have := HN.out; omega)
   have HB8 := Aside0.mk hB8
   have HBS := Aside0.mk (show gv < w6.heap.size ∧ gl < w6.heap.size ∧ gw < w6.heap.size by omega)
   clear hB6 hB7 hbb hs46 gv4 gl4 gw4 hB8 hmv HO7 HB7 HG8 HX4v HX4l HX4w
   rw [hwl]
   go_loopw [48, 16] (fun v48 v16 wr => ∃ (k : Nat) (t : Int) (view : List S51) (left : Int × Int) (Av : Option Addr) (cv : Nat), k ≤ SP.length ∧ v48 = .int .i64 (k : Int) ∧ v16 = .int .i64 t ∧
    Aside0 (goE q m g c mn mx (SP.map (fun x => x.1)) now l1 (lg, lc) = goE q m g c mn mx ((SP.drop k).map (fun x => x.1)) t view left) ∧
    Aside0 (wr.heap[gv]? = some (.cells #[.slice Av view.length cv] 22 (0, 0))) ∧ Aside0 (wr.heap[gl]? = some (.cells #[.int .i64 left.1, .int .i64 left.2] 24 (0, 0))) ∧ Aside0 (wr.heap[gw]? = some (.cells #[.int .i64 q, .int .i64 m, .int .i64 g, .int .i64 c, .int .i64 mn, .int .i64 mx] 29 (0, 0))) ∧
    Aside0 (Kd.F k51 wr (fun k => k ≠ gv ∧ k ≠ gl) Av view.length view) ∧ Aside0 (view.length ≤ cv) ∧ Aside0 (viewOk view) ∧ Aside0 (∀ x ∈ SP, SlotsOk wr (fun k => k ≠ gv ∧ k ≠ gl) x) ∧
    Aside0 (Kd.R kh 41 wr w6.heap.size (fun k => w6.heap.size ≤ k) (.slice A7 ps.length c7) SP) ∧ Aside0 (Below w.heap.size w wr)) (fun v48 _ _ => SP.length + 1 - (intOf v48).toNat)
   case atStart => exact ⟨0, now, l1, (lg, lc), A1, c1, Nat.zero_le _, rfl, rfl, ⟨rfl⟩, HXv, HXl, HXw, HFv, HC1, HVO, HSO, ⟨Kd.R_mono HO8.out (fun _ hk => hk.1)⟩, HB8⟩
   case round =>
    clear HXv HXl HXw HFv HSO HO8 HB8
    obtain ⟨k, t, view, ⟨lg', lc'⟩, Av, cv, hk, rfl, rfl, HG, HXV, HXL, HXW, HFV, HCV, HVW, HSP, HRW, HBW⟩ := hrel
    have hspl : SP.length = ps.length := HLS.out
    have hpn := HPN.out
    have HFit := fits_eq (view.length + 1) view lg' lc' q m g c mn mx (Nat.le_refl _) (by have := HVW.out.1; omega) HVW.out.2.1
    have HCF := Aside0.mk (promise_Fits.calls (view.length + 1) Av cv view lg' lc' q m g c mn mx _ wr (Kd.F_now HFV.out) HCV.out HFit)
    have fv : wr.cell? ⟨gv, 0, none⟩ = some (.slice Av view.length cv) := (blk_cell HXV.out 0).trans rfl
    have fl0 : wr.cell? ⟨gl, 0, none⟩ = some (.int .i64 lg') := (blk_cell HXL.out 0).trans rfl
    have fl1 : wr.cell? ⟨gl, 1, none⟩ = some (.int .i64 lc') := (blk_cell HXL.out 1).trans rfl
    have fw0 : wr.cell? ⟨gw, 0, none⟩ = some (.int .i64 q) := (blk_cell HXW.out 0).trans rfl
    have fw1 : wr.cell? ⟨gw, 1, none⟩ = some (.int .i64 m) := (blk_cell HXW.out 1).trans rfl
    have fw2 : wr.cell? ⟨gw, 2, none⟩ = some (.int .i64 g) := (blk_cell HXW.out 2).trans rfl
    have fw3 : wr.cell? ⟨gw, 3, none⟩ = some (.int .i64 c) := (blk_cell HXW.out 3).trans rfl
    have fw4 : wr.cell? ⟨gw, 4, none⟩ = some (.int .i64 mn) := (blk_cell HXW.out 4).trans rfl
    have fw5 : wr.cell? ⟨gw, 5, none⟩ = some (.int .i64 mx) := (blk_cell HXW.out 5).trans rfl
    clear HFit
    by_cases hkn : k = SP.length
    ·have h1 : (k : Int) < (ps.length : Int) + 1 := by omega
     have h2 : ((k : Int) == (ps.length : Int)) = true := by simp; omega
     rw [List.drop_eq_nil_of_le (by omega)] at HG
     simp only [List.map_nil, goE] at HG
     cases hf : fitsB view lg' lc' m g c mn mx with
     | true =>
      rw [hf] at HCF
      rw [hf, if_pos rfl] at HG
      clear hf hkn
      go_wp2_with (go_at_call 29; refine HCF.out.mono ?_; rintro e w9 ⟨rfl, hb9⟩; have HB9 := Aside0.mk (below_step HBW.out hb9); clear hb9)
      all_goals go_ret2
      all_goals exact ⟨by rw [HG.out]; rfl, HB9.out⟩
     | false =>
      rw [hf] at HCF
      rw [hf, if_neg (by decide)] at HG
      clear hf hkn
      go_wp2_with (go_at_call 29; refine HCF.out.mono ?_; rintro e w9 ⟨rfl, hb9⟩; have HB9 := Aside0.mk (below_step HBW.out hb9); clear hb9)
      all_goals go_ret2
      all_goals exact ⟨by rw [HG.out]; rfl, HB9.out⟩
    ·have hkl : k < SP.length := by omega
     have h1 : (k : Int) < (ps.length : Int) + 1 := by omega
     have h2 : ((k : Int) == (ps.length : Int)) = false := by simp; omega
     have h3 : (k : Int) < (ps.length : Int) := by omega
     have h4 : (0 : Int) ≤ (k : Int) := by omega
     obtain ⟨g7, cap7, cur7, hv7, hok7, _, hh7⟩ := ownh HRW.out (by omega)
     injection hv7 with ha7 hn7 hc7
     subst ha7
     clear hn7 hc7
     have hget := List.getElem?_eq_getElem hkl
     obtain ⟨y0, y1, y2, y3, y4⟩ := at_kh HRW.out k SP[k] hget
     have hSx := HSP.out SP[k] (List.getElem_mem hkl)
     have hMx := HMK.out SP[k] (List.getElem_mem hkl)
     rw [List.drop_eq_getElem_cons hkl, List.map_cons, goE] at HG
     generalize SP[k] = x at *
     have HSX := Aside0.mk hSx
     have HMX := Aside0.mk hMx
     clear hget hSx hMx hkn
     have hmv1 := more_eq HVW.out (fun s hs => (HMX.out s hs).2)
     have hvok := turned51_ok HVW.out (fun s hs => (HMX.out s hs).1)
     generalize turned51 moreE moreF view x.1.f4 = mr2 at *
     obtain ⟨v2, e2⟩ := mr2
     have HMV := Aside0.mk hmv1
     have HVOK := Aside0.mk hvok
     clear hmv1 hvok
     have hwk : ∀ k, (k = gv ∨ k = gl) → w.heap.size ≤ k := fun k hk => by rcases hk with rfl | rfl <;> omega
     by_cases hgt : x.1.f2 > t
     ·have b3 : decide (t < x.1.f2) = true := by simpa using hgt
      rw [if_pos hgt] at HG
      clear hgt
      cases hf : fitsB view lg' lc' m g c mn mx with
      | true =>
       rw [hf] at HCF
       rw [hf, if_pos rfl] at HG
       clear hf
       go_wp2_with (go_at_call 29; refine HCF.out.mono ?_; rintro e w9 ⟨rfl, hb9⟩; have HB9 := Aside0.mk (below_step HBW.out hb9); clear hb9)
       all_goals go_ret2
       all_goals exact ⟨by rw [HG.out]; rfl, HB9.out⟩
      | false =>
       rw [hf] at HCF
       rw [hf, if_neg (by decide)] at HG
       clear hf
       by_cases hge : x.1.f2 ≥ 1073741825
       ·have b4 : decide ((1073741825 : Int) ≤ x.1.f2) = true := by simpa using hge
        rw [if_pos hge] at HG
        clear hge
        go_wp2_with (go_at_call 29; refine HCF.out.mono ?_; rintro e w9 ⟨rfl, hb9⟩; have z2 := pw_cell_below hb9 y2; have HB9 := Aside0.mk (below_step HBW.out hb9); clear hb9)
        all_goals go_ret2
        all_goals exact ⟨by rw [HG.out]; rfl, HB9.out⟩
       ·have b4 : decide ((1073741825 : Int) ≤ x.1.f2) = false := by simpa using hge
        rw [if_neg hge] at HG
        clear hge
        go_wp2_with (first | (go_at_call 29; refine HCF.out.mono ?_; rintro e w8b ⟨rfl, hb8⟩; have z0 := pw_cell_below hb8 y0; have z1 := pw_cell_below hb8 y1; have z2 := pw_cell_below hb8 y2; have z3 := pw_cell_below hb8 y3; have z4 := pw_cell_below hb8 y4; have HK8 := Aside0.mk (KP.below (KP.refl wr (fun k => k = gv ∨ k = gl)) hb8); have HXV8 := Aside0.mk (blk_below HXV.out hb8); have HXW8 := Aside0.mk (blk_below HXW.out hb8); have HXL8 := Aside0.mk (blk_below HXL.out hb8); have HFV8 := Aside0.mk (Kd.F_below HFV.out hb8); have HSX8 := Aside0.mk (show SlotsOk w8b (fun k => k ≠ gv ∧ k ≠ gl) x from ⟨HSX.out.1, HSX.out.2.1, Kd.F_below HSX.out.2.2 hb8⟩); clear hb8) | (go_at_call 74; refine (end_any gv gw gl x view Av cv q m g c mn mx lg' lc' v2 e2 w8b HXV8.out HXW8.out HXL8.out nvw nvl (fun e => nlw e.symm) HFV8.out HCV.out HSX8.out (fun s hs => (HMX.out s hs).1) HMV.out).mono ?_; rintro e w9 ⟨rfl, hk9, ⟨A9, c9, hv9, hc9, hf9⟩, hl9⟩; have HK9b := Aside0.mk hk9; have HV9 := Aside0.mk hv9; have HC9 := Aside0.mk hc9; have HF9 := Aside0.mk hf9; have HL9 := Aside0.mk hl9; clear hk9 hv9 hc9 hf9 hl9))
        have HK9 := Aside0.mk (HK8.out.trans HK9b.out)
        have HB9 := Aside0.mk (HK9.out.under HBW.out hwk)
        have HW9 := Aside0.mk (blk_kept HXW.out HK9.out.kept (fun h => by rcases h with h | h; exact nvw h.symm; exact nlw h.symm))
        have HS9 := Aside0.mk (fun (z : HV) (hz : z ∈ SP) => (show SlotsOk w9 (fun k => k ≠ gv ∧ k ≠ gl) z from ⟨(HSP.out z hz).1, (HSP.out z hz).2.1, Kd.F_kept (HSP.out z hz).2.2 HK9.out.kept (fun k hk hs => by rcases hs with h | h; exact hk.1 h; exact hk.2 h)⟩))
        have HR9 := Aside0.mk (Kd.R_kept HRW.out HK9.out.kept (fun k hk hs => by have := HBS.out; rcases hs with h | h <;> omega))
        go_roundw
        case rel => exact ⟨k + 1, x.1.f2, v2, _, A9, c9, by omega, by go_num, rfl, HG, HV9, HL9, HW9, HF9, HC9, HVOK, HS9, HR9, HB9⟩
        case measure => simp [intOf]; omega
     ·have b3 : decide (t < x.1.f2) = false := by simpa using hgt
      rw [if_neg hgt] at HG
      clear hgt
      go_wp2_with (first | (go_at_call 74; refine (end_any gv gw gl x view Av cv q m g c mn mx lg' lc' v2 e2 wr HXV.out HXW.out HXL.out nvw nvl (fun e => nlw e.symm) HFV.out HCV.out HSX.out (fun s hs => (HMX.out s hs).1) HMV.out).mono ?_; rintro e w9 ⟨rfl, hk9, ⟨A9, c9, hv9, hc9, hf9⟩, hl9⟩; have HK9 := Aside0.mk hk9; have HV9 := Aside0.mk hv9; have HC9 := Aside0.mk hc9; have HF9 := Aside0.mk hf9; have HL9 := Aside0.mk hl9; clear hk9 hv9 hc9 hf9 hl9))
      have HB9 := Aside0.mk (HK9.out.under HBW.out hwk)
      have HW9 := Aside0.mk (blk_kept HXW.out HK9.out.kept (fun h => by rcases h with h | h; exact nvw h.symm; exact nlw h.symm))
      have HS9 := Aside0.mk (fun (z : HV) (hz : z ∈ SP) => (show SlotsOk w9 (fun k => k ≠ gv ∧ k ≠ gl) z from ⟨(HSP.out z hz).1, (HSP.out z hz).2.1, Kd.F_kept (HSP.out z hz).2.2 HK9.out.kept (fun k hk hs => by rcases hs with h | h; exact hk.1 h; exact hk.2 h)⟩))
      have HR9 := Aside0.mk (Kd.R_kept HRW.out HK9.out.kept (fun k hk hs => by have := HBS.out; rcases hs with h | h <;> omega))
      go_roundw
      case rel => exact ⟨k + 1, t, v2, _, A9, c9, by omega, by go_num, rfl, HG, HV9, HL9, HW9, HF9, HC9, HVOK, HS9, HR9, HB9⟩
      case measure => simp [intOf]; omega
  ·have bme : (me == 0) = false := by simpa using hme
   go_wp2
   go_ret2
   exact ⟨by simp [hme], below_step HB4.out HB6.out⟩
theorem okE_out {view : List S51} {ends : List S41} (h : okE view ends = true) : ends.length ≤ 1000 ∧ viewOk view ∧ (∀ s ∈ ends.flatMap (fun h => h.f4), maskOk s = true ∧ (w64B s.f0.f0 && w64B s.f0.f1) = true) ∧ (ends.flatMap fun h => h.f4).length < 4000000000 := by
 unfold okE spotsOk at h
 rw [Bool.and_eq_true, Bool.and_eq_true, Bool.and_eq_true, Bool.and_eq_true, Bool.and_eq_true, Bool.and_eq_true] at h
 obtain ⟨⟨⟨⟨h1, ⟨h2, h3⟩, h4⟩, h5⟩, h6⟩, h7⟩ := h
 exact ⟨of_decide_eq_true h1, ⟨of_decide_eq_true h2, fun f hf => List.all_eq_true.1 h5 f hf, fun f hf => List.all_eq_true.1 h3 f hf⟩, fun s hs => ⟨List.all_eq_true.1 h6 s hs, List.all_eq_true.1 h4 s hs⟩, of_decide_eq_true h7⟩
theorem promise_Earliest.calls (a0 : Int) (A1 : Option Addr) (c1 : Nat) (l1 : List (S51)) (a2_0 : Int) (a2_1 : Int) (A3 : Option Addr) (c3 : Nat) (l3 : List (S41)) (a4_0 : Int) (a4_1 : Int) (a4_2 : Int) (a4_3 : Int) (a4_4 : Int) (a4_5 : Int) (r1 : Int) (r2 : Int) (w : World) (hr1 : Kd.C k51 w A1 l1.length l1) (hc1 : l1.length ≤ c1) (hr3 : Kd.C k41 w A3 l3.length l3) (hc3 : l3.length ≤ c3) (h : promise_Earliest.f a0 l1 a2_0 a2_1 l3 a4_0 a4_1 a4_2 a4_3 a4_4 a4_5 = some (r1, r2)) :
  Calls Try.prog 27 #[.int .i64 a0, .slice A1 l1.length c1, .agg #[.int .i64 a2_0, .int .i64 a2_1], .slice A3 l3.length c3, .agg #[.int .i64 a4_0, .int .i64 a4_1, .int .i64 a4_2, .int .i64 a4_3, .int .i64 a4_4, .int .i64 a4_5]] w fun e w' => e = .returned (.tuple #[.int .i64 r1, .int .i64 r2]) ∧ Below w.heap.size w w' := by
 unfold promise_Earliest.f at h
 by_cases ho : okE l1 l3 = true
 ·rw [if_pos ho] at h
  obtain ⟨h1, h2, h3, h4⟩ := okE_out ho
  have e := Option.some.inj h
  have e1 : r1 = (earliestB a0 l1 a2_0 a2_1 l3 a4_0 a4_1 a4_2 a4_3 a4_4 a4_5).1 := by rw [e]
  have e2 : r2 = (earliestB a0 l1 a2_0 a2_1 l3 a4_0 a4_1 a4_2 a4_3 a4_4 a4_5).2 := by rw [e]
  rw [e1, e2]
  exact early_any a0 A1 c1 l1 a2_0 a2_1 A3 c3 l3 a4_0 a4_1 a4_2 a4_3 a4_4 a4_5 w hr1 hc1 hr3 hc3 h1 h2 h3 h4
 ·rw [if_neg ho] at h; cases h
end Go.Proofs.Ytckhjehibjdjdaa.P
namespace Go.Proofs.Ytckhjehibjdjdaa.P
open Go.RowKit Go.Shelf Go.Proofs.YtckhjehibjdjdaaW.PrintWords Go.Proofs.YtckhjehibjdjdaaW.PrintLast Go.Proofs.YtckhjehibjdjdaaW.PrintMore
attribute [local go_sem] Oper.semAt_some
set_option linter.unusedVariables false
set_option linter.unusedSimpArgs false
def api_Hold.f (l0 : List (S41)) : Option ((List (S41))) := if l0.length < 1000000 then some l0 else none
set_option maxHeartbeats 4000000 in
set_option maxRecDepth 100000 in
theorem cloneN (okF : Nat → Prop) (A0 : Option Addr) (c0 : Nat) (l0 : List S41) (w : World) (hr0 : Kd.F k41 w okF A0 l0.length l0) (hok : ∀ k, okF k → k < w.heap.size) (hl : l0.length < 1000000) :
  Calls Try.prog 70 #[.slice A0 l0.length c0] w fun e w' => ∃ v0_ : Value, e = .returned v0_ ∧ Kd.N k41 41 w' w.heap.size (fun k => okF k ∨ w.heap.size ≤ k) v0_ l0 ∧ Below w.heap.size w w' := by
 have hu25 := Try.underlying25
 have q25 : ∀ (w : World) (a : Option Addr) (n c n' c' : Nat), (binOp .eql 25 (.slice a n c) (.slice none n' c')).run Try.prog w = .ok (.bool a.isNone) w := fun w a n c n' c' => Lib.run_eql_slice_nil w _ _ a n c n' c' Try.underlying25
 have HR := Aside0.mk hr0
 have HL := Aside0.mk hl
 have HK := Aside0.mk hok
 cases A0 with
 | none =>
  have h0 : l0 = [] := by
   rcases Nat.eq_zero_or_pos l0.length with h | h
   ·exact List.eq_nil_of_length_eq_zero h
   ·obtain ⟨ad, hA, _⟩ := (Kd.F_now hr0).2.2 h
    cases hA
  subst h0
  clear hr0 hl hok
  go_enter Try.func70, Try.ntmps70
  go_wp2
  all_goals go_ret
  all_goals exact ⟨_, rfl, Kd.N_nil _ _ _ _ _, Below.refl _ _⟩
 | some ad =>
  clear hr0 hl hok
  go_enter Try.func70, Try.ntmps70
  go_wp2_with (first | ((with_reducible refine gate_dst (N := 5) rfl ?_); refine Kd.N_lit k41 _ 41 ?hg (N' := 5) ?hd (xs := ([] : List S41)) (inner := []) (ok := fun k => w.heap.size ≤ k) (okp := fun _ => False) ?hr ?hp (fun _ hk => hk.elim) (Nat.le_refl _) (Below.refl _ _) (Nat.le_refl _) (by simp) ?_; (case hd => rfl); (case hg => rfl); (case hr => first | (go_simp; done) | (go_simp; rfl)); (case hp => exact (Reps.none _ _)); intro v5 w5 ho5 hb hg_ hnew_; have HO5 := Aside0.mk ho5; have HB5 := Aside0.mk hb; have HN5 := Aside0.mk hnew_; clear hg_ hnew_ ho5 hb) | (refine Kd.N_append_rows k41 (w0 := w) w.heap.size rfl (.tmp 5) (.tmp 6) 25 41 (.agg #[(.int .i64 0), (.int .i64 0), (.int .i64 0), (.bool false), (.slice none 0 0)]) 56 rfl Try.underlying25 info41 rfl (by decide) (by omega) v5 [] l0 _ _ _ (fun k => okF k ∨ w.heap.size ≤ k) okF rfl rfl (Kd.N_mono HO5.out (fun _ hk => .inr hk)) (Foot.step HR.out (fun k hk hlt => HB5.out.block k hlt)) (fun k hk => ⟨.inl hk, fun e => by obtain ⟨b, hb, hle⟩ := HN5.out; have := HK.out k hk; rw [hb] at e; injection e with e; omega⟩) (fun k hk => .inr (Nat.le_trans (below_size HB5.out) hk)) HB5.out (below_size HB5.out) (by have := HL.out; simp; omega) ?_; intro v7 w7 ho hb hg hat; have HO7 := Aside0.mk ho; have HB7 := Aside0.mk hb; clear ho hb hg hat))
  all_goals go_ret
  all_goals exact ⟨_, rfl, HO7.out, HB7.out⟩
theorem api_Hold.callsF (okF : Nat → Prop) (A0 : Option Addr) (c0 : Nat) (l0 : List (S41)) (r : List (S41)) (w : World) (hr0 : Kd.F k41 w okF A0 l0.length l0) (hok : ∀ k, okF k → k < w.heap.size) (h : api_Hold.f l0 = some r) :
  Calls Try.prog 70 #[.slice A0 l0.length c0] w fun e w' => ∃ v0_ : Value, e = .returned (v0_) ∧ Kd.N k41 41 w' w.heap.size (fun k => okF k ∨ w.heap.size ≤ k) v0_ r ∧ Below w.heap.size w w' := by
 unfold api_Hold.f at h
 by_cases hl : l0.length < 1000000
 ·rw [if_pos hl] at h
  cases h
  exact cloneN okF A0 c0 l0 w hr0 hok hl
 ·rw [if_neg hl] at h; cases h
end Go.Proofs.Ytckhjehibjdjdaa.P
namespace Go.Proofs.Ytckhjehibjdjdaa.P
open Go.RowKit Go.Shelf Go.Proofs.YtckhjehibjdjdaaW.PrintWords Go.Proofs.YtckhjehibjdjdaaW.PrintLast Go.Proofs.YtckhjehibjdjdaaW.PrintMore
open Go.Proofs.Ytckhjehibjdjdaa.Bits
attribute [local go_sem] Oper.semAt_some
set_option linter.unusedVariables false
set_option linter.unusedSimpArgs false
def subU (a : Int × Int) (s : S52) : Int × Int := (wrap64 (a.1 - popI s.f1), wrap64 (a.2 - s.f2))
def subL (a : Int × Int) (l : List S52) : Int × Int := l.foldl subU a
theorem subL_step (a : Int × Int) (l : List S52) (j : Nat) (h : j < l.length) : subL a (l.take (j + 1)) = subU (subL a (l.take j)) (rd_T52 l (j : Int)) := by
 have e : rd_T52 l (j : Int) = l[j] := by simp [rd_T52, List.getD_eq_getElem?_getD, List.getElem?_eq_getElem h]
 unfold subL
 rw [List.take_succ_eq_append_getElem h, List.foldl_append, e]; rfl
set_option maxHeartbeats 8000000 in
set_option maxRecDepth 100000 in
theorem take1 (gl : Nat) (t0 t1 sm sc lg lc : Int) (w : World) (hl : w.heap[gl]? = some (.cells #[.int .i64 lg, .int .i64 lc] 24 (0, 0))) (hm : 0 ≤ sm ∧ sm < 18446744073709551616) :
  Calls Try.prog 107 #[.agg #[.int .i64 t0, .int .i64 t1, .int .u64 sm, .int .i64 sc], .pointer (some ⟨gl, 0, none⟩)] w fun e w' => e = .returned (.tuple #[]) ∧ KP w w' (fun k => k = gl) ∧
   w'.heap[gl]? = some (.cells #[.int .i64 (wrap64 (lg - popI sm)), .int .i64 (wrap64 (lc - sc))] 24 (0, 0)) := by
 have hu52 := Try.underlying52
 have hu24 := Try.underlying24
 have gll := blk_lt hl
 have HL0 := Aside0.mk hl
 have HMK := Aside0.mk hm
 clear hl hm
 go_enter Try.func107, Try.ntmps107
 go_wp2_with (first | ((with_reducible refine gate_dst (N := 2) rfl ?_); refine bx 2 #[.int .i64 t0, .int .i64 t1, .int .u64 sm, .int .i64 sc] 52 ?_; intro g4 hg4 w4 hx4 hb4; have HX4 := Aside0.mk hx4; have HB4 := Aside0.mk hb4; have n3 : gl ≠ g4 := (by omega); have HL4 := Aside0.mk (blk_below HL0.out hb4); have l0 : w4.cell? ⟨gl, 0, none⟩ = some (.int .i64 lg) := (blk_cell (blk_below HL0.out hb4) 0).trans rfl; have b2 : w4.cell? ⟨g4, 1 + 1, none⟩ = some (.int .u64 sm) := (blk_cell hx4 2).trans rfl; clear hg4 hx4 hb4))
 go_still_tail 7, (by kernel_rfl)
 still_call ((count_any _ HMK.out.1 HMK.out.2 _))
 repeat still_step
 refine wpStill_nil ?_
 change wpList _ _ _ _ _ w4.drew
 clear l0 b2
 have l0 : w4.drew.cell? ⟨gl, 0, none⟩ = some (.int .i64 lg) := (blk_cell HL4.out 0).trans rfl
 have z0 : w4.drew.frozen? ⟨gl, 0, none⟩ = false := blk_frozen HL4.out 0
 have z1 : w4.frozen? ⟨gl, 1, none⟩ = false := blk_frozen HL4.out 1
 have l1 : w4.cell? ⟨gl, 1, none⟩ = some (.int .i64 lc) := (blk_cell HL4.out 1).trans rfl
 have b3 : w4.cell? ⟨g4, 3, none⟩ = some (.int .i64 sc) := (blk_cell HX4.out 3).trans rfl
 go_wp2
 go_end0
 exact ⟨rfl, (((KP.below (KP.refl w (fun k => k = gl)) HB4.out).set (g := gl) (j := 0) (Or.inl rfl) _).set (g := gl) (j := 1) (Or.inl rfl) _).drew, blk_set (blk_set HL4.out 0 _) 1 _⟩
def maskAll (l : List S52) : Bool := l.all maskOk && decide (l.length < 1000000000)
def fill_take.f (a0_0 : Int) (a0_1 : Int) (l1 : List (S52)) : Option (Int × Int) := if maskAll l1 = true then some (subL (a0_0, a0_1) l1) else none
set_option maxHeartbeats 8000000 in
set_option maxRecDepth 100000 in
theorem take_any (a0_0 : Int) (a0_1 : Int) (A1 : Option Addr) (c1 : Nat) (l1 : List (S52)) (w : World) (hr1 : Kd.C k52 w A1 l1.length l1) (hm : ∀ s ∈ l1, maskOk s = true) (hl : l1.length < 1000000000) :
  Calls Try.prog 81 #[.agg #[.int .i64 a0_0, .int .i64 a0_1], .slice A1 l1.length c1] w fun e w' => e = .returned (.agg #[.int .i64 (subL (a0_0, a0_1) l1).1, .int .i64 (subL (a0_0, a0_1) l1).2]) ∧ Below w.heap.size w w' := by
 have hu52 := Try.underlying52
 have hu24 := Try.underlying24
 have HR := Aside0.mk hr1
 have HM := Aside0.mk hm
 have HL := Aside0.mk hl
 clear hr1 hm hl
 go_enter Try.func81, Try.ntmps81
 go_wp2_with (first | ((with_reducible refine gate_dst (N := 2) rfl ?_); refine bx 2 #[.int .i64 a0_0, .int .i64 a0_1] 24 ?_; intro gb hgb wb hxb hbb; have HXB := Aside0.mk hxb; have HBB := Aside0.mk hbb; have hgb2 : w.heap.size ≤ gb := (by omega); clear hgb hxb hbb))
 have hB1 := below_alloc HBB.out (.cells #[.int .i64 0, .int .i64 0] 24)
 have hG1 := blk_alloc HXB.out (.cells #[.int .i64 0, .int .i64 0] 24)
 have hR1 := heap_alloc_new wb (.cells #[.int .i64 0, .int .i64 0] 24)
 have hne : wb.heap.size ≠ gb := by have := blk_lt HXB.out; omega
 have hrs : w.heap.size ≤ wb.heap.size := HBB.out.size
 have HB1 := Aside0.mk hB1
 have HG1 := Aside0.mk hG1
 have HR1 := Aside0.mk hR1
 obtain ⟨gr, hgr⟩ : ∃ gr, gr = wb.heap.size := ⟨_, rfl⟩
 rw [← hgr] at HR1 hne hrs ⊢
 clear hB1 hG1 hR1 hgr HXB HBB
 go_loopw [11] (fun v11 wr => ∃ j : Nat, j ≤ l1.length ∧ v11 = .int .i64 (j : Int) ∧ Aside0 (Below w.heap.size w wr) ∧ Aside0 (wr.heap[gb]? = some (.cells #[.int .i64 (subL (a0_0, a0_1) (l1.take j)).1, .int .i64 (subL (a0_0, a0_1) (l1.take j)).2] 24 (0, 0))) ∧ Aside0 (wr.heap[gr]? = some (.cells #[.int .i64 0, .int .i64 0] 24 (0, 0)))) (fun v11 _ => l1.length - (intOf v11).toNat)
 case atStart => exact ⟨0, Nat.zero_le _, rfl, HB1, HG1, HR1⟩
 case round =>
  clear HB1 HG1 HR1
  obtain ⟨j, hj, rfl, HB, HG, HE⟩ := hrel
  have hC := Kd.C_below HR.out HB.out
  have hlm := HL.out
  by_cases hlt : j < l1.length
  ·have h0 : 0 ≤ (j : Int) := by omega
   have h1' : (j : Int) < l1.length := by omega
   obtain ⟨ad1, ee, y0, y1, y2, y3⟩ := at_T52 hC (j : Int) h0 h1'
   cases ee
   simp only [Int.toNat_natCast] at y0 y1 y2 y3
   have hstep := subL_step (a0_0, a0_1) l1 j hlt
   have hmk := HM.out (rd_T52 l1 (j : Int)) (by simp [rd_T52, List.getD_eq_getElem?_getD, List.getElem?_eq_getElem hlt])
   generalize rd_T52 l1 (j : Int) = s at *
   generalize subL (a0_0, a0_1) (l1.take j) = acc at *
   obtain ⟨⟨t0, t1⟩, sm, sc⟩ := s
   simp only [maskOk, Bool.and_eq_true, decide_eq_true_eq] at hmk
   have HMK := Aside0.mk hmk
   have HST := Aside0.mk hstep
   clear hmk hstep hC
   simp only at y0 y1 y2 y3
   have HBA := Aside0.mk (below_alloc HB.out (.cells #[.int .i64 t0, .int .i64 t1, .int .u64 sm, .int .i64 sc] 52))
   have HGA := Aside0.mk (blk_alloc HG.out (.cells #[.int .i64 t0, .int .i64 t1, .int .u64 sm, .int .i64 sc] 52))
   have HEA := Aside0.mk (blk_alloc HE.out (.cells #[.int .i64 t0, .int .i64 t1, .int .u64 sm, .int .i64 sc] 52))
   clear HB HG HE
   go_wp2_with (go_at_call 107; refine (take1 gb t0 t1 sm sc acc.1 acc.2 _ HGA.out HMK.out).mono ?_; rintro e w5 ⟨rfl, hk5, hg5⟩; have HB5 := Aside0.mk (hk5.under HBA.out (fun k hk => by omega)); have HG5 := Aside0.mk hg5; have HE5 := Aside0.mk ((hk5.kept.2 gr (blk_lt HEA.out) hne).trans HEA.out); clear hk5 hg5)
   go_roundw
   case rel => exact ⟨j + 1, by omega, by go_num, HB5, ⟨by rw [HST.out]; exact HG5.out⟩, HE5⟩
   case measure => simp [intOf]; omega
  ·obtain rfl : j = l1.length := by omega
   have hg := HG.out
   rw [List.take_length] at hg
   have p0 : wr.cell? ⟨gb, 0, none⟩ = some (.int .i64 (subL (a0_0, a0_1) l1).1) := (blk_cell hg 0).trans rfl
   have p1 : wr.cell? ⟨gb, 1, none⟩ = some (.int .i64 (subL (a0_0, a0_1) l1).2) := (blk_cell hg 1).trans rfl
   have e0 : wr.cell? ⟨gr, 0, none⟩ = some (.int .i64 0) := (blk_cell HE.out 0).trans rfl
   have e1 : wr.cell? ⟨gr, 1, none⟩ = some (.int .i64 0) := (blk_cell HE.out 1).trans rfl
   have z0 := blk_frozen HE.out 0
   have z1 := blk_frozen HE.out 1
   clear hg hC
   go_wp2
   refine bodyPost_ret (results_cell_row rfl _ _ gr 24 #[.int .i64 (subL (a0_0, a0_1) l1).1, .int .i64 (subL (a0_0, a0_1) l1).2] (0, 0) _ rfl (blk_set (blk_set HE.out 0 _) 1 _) Try.underlying24 rfl rfl) rfl ?_
   exact ⟨rfl, below_set (below_set HB.out hrs) hrs⟩
theorem fill_take.calls (a0_0 : Int) (a0_1 : Int) (A1 : Option Addr) (c1 : Nat) (l1 : List (S52)) (r1 : Int) (r2 : Int) (w : World) (hr1 : Kd.C k52 w A1 l1.length l1) (hc1 : l1.length ≤ c1) (h : fill_take.f a0_0 a0_1 l1 = some (r1, r2)) :
  Calls Try.prog 81 #[.agg #[.int .i64 a0_0, .int .i64 a0_1], .slice A1 l1.length c1] w fun e w' => e = .returned (.agg #[.int .i64 r1, .int .i64 r2]) ∧ Below w.heap.size w w' := by
 unfold fill_take.f at h
 by_cases ho : maskAll l1 = true
 ·rw [if_pos ho] at h
  unfold maskAll at ho
  rw [Bool.and_eq_true] at ho
  have e := Option.some.inj h
  have e1 : r1 = (subL (a0_0, a0_1) l1).1 := by rw [e]
  have e2 : r2 = (subL (a0_0, a0_1) l1).2 := by rw [e]
  rw [e1, e2]
  exact take_any a0_0 a0_1 A1 c1 l1 w hr1 (fun s hs => List.all_eq_true.1 ho.1 s hs) (of_decide_eq_true ho.2)
 ·rw [if_neg ho] at h; cases h
end Go.Proofs.Ytckhjehibjdjdaa.P
namespace Go.Proofs.Ytckhjehibjdjdaa.P
open Go.RowKit Go.Proofs.YtckhjehibjdjdaaW.PrintWords Go.Proofs.YtckhjehibjdjdaaW.PrintLast Go.Proofs.YtckhjehibjdjdaaW.PrintMore
attribute [local go_sem] max2_int min2_int max_two min_two max_three min_three max_four min_four
set_option linter.unusedVariables false
set_option linter.unusedSimpArgs false
def fill_After.f (a0 : Int) (l1 : List (S51)) (a2_0 : Int) (a2_1 : Int) (l3 : List (S41)) (a4_0 : Int) (a4_1 : Int) (a4_2 : Int) (a4_3 : Int) (a4_4 : Int) (a4_5 : Int) (a5_0 : Int) (a5_1 : Int) (a5_2 : Int) (a5_3 : Bool) (l5_4 : List (S52)) : Option (Int × Int) := (pack_Less.f l1 l5_4).bind fun bt329 => (if bt329.2 = 0 then (if a5_1 = a4_0 then ((fill_take.f a2_0 a2_1 l5_4).bind fun bt333 => ((api_Hold.f l3).bind fun t335 => ((some (([(⟨a5_0, a5_1, a5_2, a5_3, l5_4⟩ : S41)] : List (S41)) : List (S41))).bind fun y338 => (if t335.length + y338.length < 2513169434916 then ((promise_Earliest.f a0 bt329.1 bt333.1 bt333.2 (t335 ++ y338) a4_0 a4_1 a4_2 a4_3 a4_4 a4_5).bind fun bt344 => (some (bt344.1, bt344.2))) else (none))))) else ((api_Hold.f l3).bind fun t346 => ((some (([(⟨a5_0, a5_1, a5_2, a5_3, l5_4⟩ : S41)] : List (S41)) : List (S41))).bind fun y349 => (if t346.length + y349.length < 2513169434916 then ((promise_Earliest.f a0 bt329.1 a2_0 a2_1 (t346 ++ y349) a4_0 a4_1 a4_2 a4_3 a4_4 a4_5).bind fun bt355 => (some (bt355.1, bt355.2))) else (none))))) else (some (0, bt329.2)))
def fill_After.T6 : Bool × List (List Nat × List Nat) := (true, [([], []), ([], []), ([], []), ([], []), ([3], [3]), ([], []), ([5], [5]), ([4, 6, 4], [4, 6]), ([], []), ([0, 1, 2, 7, 8, 7], [0, 1, 2, 7, 8]), ([9], [9]), ([9], [9]), ([10, 9, 0, 1, 2, 3, 4, 5, 6, 7, 8, 9, 10, 11], [10]), ([11, 12, 0, 1, 2, 3, 4, 5, 6, 7, 8, 9, 10, 11, 12], [11])])
def fill_After.B6 : List Nat := [0, 0, 0, 0, 8, 0, 32, 120, 0, 511, 1023, 1023, 4095, 8191]
theorem fill_After.tab6 : rtab .any (opsOf Try.f39 6) = fill_After.T6 := by kernel_rfl
theorem fill_After.bits6 : waitsOk fill_After.T6.2 fill_After.B6 = true := by kernel_rfl
set_option maxHeartbeats 8000000 in
set_option maxRecDepth 100000 in
theorem fill_After.callsV (a0 : Int) (A1 : Option Addr) (c1 : Nat) (l1 : List (S51)) (a2_0 : Int) (a2_1 : Int) (A3 : Option Addr) (c3 : Nat) (l3 : List (S41)) (a4_0 : Int) (a4_1 : Int) (a4_2 : Int) (a4_3 : Int) (a4_4 : Int) (a4_5 : Int) (a5_0 : Int) (a5_1 : Int) (a5_2 : Int) (a5_3 : Bool) (P5_4_ : Nat → Prop) (A5_4 : Option Addr) (c5_4 : Nat) (l5_4 : List (S52)) (r1 : Int) (r2 : Int) (w : World) (hr1 : Kd.C k51 w A1 l1.length l1) (hc1 : l1.length ≤ c1) (hr3 : Kd.C k41 w A3 l3.length l3) (hc3 : l3.length ≤ c3) (hs5_4 : Kd.V k52 52 w w.heap.size (fun k_ => P5_4_ k_) (.slice A5_4 l5_4.length c5_4) l5_4) (h : fill_After.f a0 l1 a2_0 a2_1 l3 a4_0 a4_1 a4_2 a4_3 a4_4 a4_5 a5_0 a5_1 a5_2 a5_3 l5_4 = some (r1, r2)) :
  Calls Try.prog 39 #[.int .i64 a0, .slice A1 l1.length c1, .agg #[.int .i64 a2_0, .int .i64 a2_1], .slice A3 l3.length c3, .agg #[.int .i64 a4_0, .int .i64 a4_1, .int .i64 a4_2, .int .i64 a4_3, .int .i64 a4_4, .int .i64 a4_5], .agg #[.int .i64 a5_0, .int .i64 a5_1, .int .i64 a5_2, .bool a5_3, .slice A5_4 l5_4.length c5_4]] w fun e w' => e = .returned (.tuple #[.int .i64 r1, .int .i64 r2]) ∧ Below w.heap.size w w' := by
 have hu24 := Try.underlying24
 have hu29 := Try.underlying29
 have hu41 := Try.underlying41
 have HR1 := Aside0.mk hr1
 have HC1 := Aside0.mk hc1
 clear hr1 hc1
 have HR3 := Aside0.mk hr3
 have HC3 := Aside0.mk hc3
 clear hr3 hc3
 replace hs5_4 := Kd.V_mono (ok' := fun _ => True) hs5_4 (fun _ _ => trivial)
 clear P5_4_
 obtain ⟨P5_4_, hP5⟩ : ∃ P : Nat → Prop, P = fun _ => True := ⟨_, rfl⟩
 have HP5 := Aside0.mk (show ∀ k, P5_4_ k from fun k => by rw [hP5]; trivial)
 replace hs5_4 := Kd.V_mono (ok' := fun k_ => P5_4_ k_) hs5_4 (fun k _ => HP5.out k)
 clear hP5
 have HO5_4 := Aside0.mk (show Kd.V k52 52 w w.heap.size (fun k_ => (P5_4_ k_ ∨ w.heap.size ≤ k_)) (.slice A5_4 l5_4.length c5_4) l5_4 from Kd.V_mono hs5_4 (fun k_ hk => .inl hk))
 have HB := Aside0.mk (Below.refl w.heap.size w)
 have H : ((pack_Less.f l1 l5_4).bind fun bt329 => (if bt329.2 = 0 then (if a5_1 = a4_0 then ((fill_take.f a2_0 a2_1 l5_4).bind fun bt333 => ((api_Hold.f l3).bind fun t335 => ((some (([(⟨a5_0, a5_1, a5_2, a5_3, l5_4⟩ : S41)] : List (S41)) : List (S41))).bind fun y338 => (if t335.length + y338.length < 2513169434916 then ((promise_Earliest.f a0 bt329.1 bt333.1 bt333.2 (t335 ++ y338) a4_0 a4_1 a4_2 a4_3 a4_4 a4_5).bind fun bt344 => (some (bt344.1, bt344.2))) else (none))))) else ((api_Hold.f l3).bind fun t346 => ((some (([(⟨a5_0, a5_1, a5_2, a5_3, l5_4⟩ : S41)] : List (S41)) : List (S41))).bind fun y349 => (if t346.length + y349.length < 2513169434916 then ((promise_Earliest.f a0 bt329.1 a2_0 a2_1 (t346 ++ y349) a4_0 a4_1 a4_2 a4_3 a4_4 a4_5).bind fun bt355 => (some (bt355.1, bt355.2))) else (none))))) else (some (0, bt329.2)))) = some (r1, r2) := h
 clear h
 replace H := Option.bind_eq_some_iff.mp H
 obtain ⟨⟨t329, t330⟩, A70, H⟩ := H
 replace H : (if t330 = 0 then (if a5_1 = a4_0 then ((fill_take.f a2_0 a2_1 l5_4).bind fun bt333 => ((api_Hold.f l3).bind fun t335 => ((some (([(⟨a5_0, a5_1, a5_2, a5_3, l5_4⟩ : S41)] : List (S41)) : List (S41))).bind fun y338 => (if t335.length + y338.length < 2513169434916 then ((promise_Earliest.f a0 t329 bt333.1 bt333.2 (t335 ++ y338) a4_0 a4_1 a4_2 a4_3 a4_4 a4_5).bind fun bt344 => (some (bt344.1, bt344.2))) else (none))))) else ((api_Hold.f l3).bind fun t346 => ((some (([(⟨a5_0, a5_1, a5_2, a5_3, l5_4⟩ : S41)] : List (S41)) : List (S41))).bind fun y349 => (if t346.length + y349.length < 2513169434916 then ((promise_Earliest.f a0 t329 a2_0 a2_1 (t346 ++ y349) a4_0 a4_1 a4_2 a4_3 a4_4 a4_5).bind fun bt355 => (some (bt355.1, bt355.2))) else (none))))) else (some (0, t330))) = some (r1, r2) := H
 have A7 := Aside0.mk A70
 clear A70
 by_cases c8 : t330 = 0
 ·rw [if_pos c8] at H
  have c8b0 : (t330 == 0) = true := beq_iff_eq.mpr c8
  have c8b1 : (t330 != 0) = false := bne_eq_false_iff_eq.mpr c8
  clear c8
  by_cases c9 : a5_1 = a4_0
  ·rw [if_pos c9] at H
   have c9b0 : (a5_1 == a4_0) = true := beq_iff_eq.mpr c9
   have c9b1 : (a5_1 != a4_0) = false := bne_eq_false_iff_eq.mpr c9
   clear c9
   replace H := Option.bind_eq_some_iff.mp H
   obtain ⟨⟨t333, t334⟩, A100, H⟩ := H
   replace H : ((api_Hold.f l3).bind fun t335 => ((some (([(⟨a5_0, a5_1, a5_2, a5_3, l5_4⟩ : S41)] : List (S41)) : List (S41))).bind fun y338 => (if t335.length + y338.length < 2513169434916 then ((promise_Earliest.f a0 t329 t333 t334 (t335 ++ y338) a4_0 a4_1 a4_2 a4_3 a4_4 a4_5).bind fun bt344 => (some (bt344.1, bt344.2))) else (none)))) = some (r1, r2) := H
   have A10 := Aside0.mk A100
   clear A100
   replace H := Option.bind_eq_some_iff.mp H
   obtain ⟨t335, A110, H⟩ := H
   replace H : ((some (([(⟨a5_0, a5_1, a5_2, a5_3, l5_4⟩ : S41)] : List (S41)) : List (S41))).bind fun y338 => (if t335.length + y338.length < 2513169434916 then ((promise_Earliest.f a0 t329 t333 t334 (t335 ++ y338) a4_0 a4_1 a4_2 a4_3 a4_4 a4_5).bind fun bt344 => (some (bt344.1, bt344.2))) else (none))) = some (r1, r2) := H
   have A11 := Aside0.mk A110
   clear A110
   obtain ⟨y338, hy338⟩ : ∃ y_ : List (S41), y_ = (([(⟨a5_0, a5_1, a5_2, a5_3, l5_4⟩ : S41)] : List (S41))) := ⟨_, rfl⟩
   replace H : (if t335.length + y338.length < 2513169434916 then ((promise_Earliest.f a0 t329 t333 t334 (t335 ++ y338) a4_0 a4_1 a4_2 a4_3 a4_4 a4_5).bind fun bt344 => (some (bt344.1, bt344.2))) else (none)) = some (r1, r2) := by first | (rw [hy338]; with_reducible exact H) | (have H2_ := (Option.bind_some _ _).symm.trans H; rw [hy338]; with_reducible exact H2_) | (have H2_ := (Option.bind_some _ _).symm.trans H; with_reducible exact H2_) | with_reducible exact H | (rw [hy338]; exact H) | exact H
   have Ny338 := Aside0.mk hy338
   clear hy338
   by_cases c12 : t335.length + y338.length < 2513169434916
   ·rw [if_pos c12] at H
    have LMc12 := Aside0.mk c12
    clear c12
    obtain ⟨y341, hy341⟩ : ∃ y_ : List (S41), y_ = (t335 ++ y338) := ⟨_, rfl⟩
    replace H : ((promise_Earliest.f a0 t329 t333 t334 y341 a4_0 a4_1 a4_2 a4_3 a4_4 a4_5).bind fun bt344 => (some (bt344.1, bt344.2))) = some (r1, r2) := by first | (rw [hy341]; with_reducible exact H) | (have H2_ := (Option.bind_some _ _).symm.trans H; rw [hy341]; with_reducible exact H2_) | (have H2_ := (Option.bind_some _ _).symm.trans H; with_reducible exact H2_) | with_reducible exact H | (rw [hy341]; exact H) | exact H
    have Ny341 := Aside0.mk hy341
    clear hy341
    replace H := Option.bind_eq_some_iff.mp H
    obtain ⟨⟨t344, t345⟩, A130, H⟩ := H
    replace H : (some (t344, t345)) = some (r1, r2) := H
    have A13 := Aside0.mk A130
    clear A130
    simp only [Option.some.injEq, Prod.mk.injEq] at H
    obtain ⟨rfl, rfl⟩ := H
    go_enter Try.func39, Try.ntmps39
    try go_wp2_with (first | ((with_reducible refine gate_dst (N := 8) rfl ?_); refine bx 8 #[.int .i64 a2_0, .int .i64 a2_1] 24 ?_; intro gb326 hg w14 hbox hb; have BK326 := Aside0.mk (hbox); have GW326 := ge_ hg; have GE326 := ge_ hg; replace HO5_4 := Aside0.mk (Kd.V_below (Kd.V_elderB Z2 gb326 (Nat.le_of_eq hg.symm)) hb); replace HB := hs_ hb; clear hb hbox hg) | ((with_reducible refine gate_dst (N := 10) rfl ?_); refine bx 10 #[.int .i64 a4_0, .int .i64 a4_1, .int .i64 a4_2, .int .i64 a4_3, .int .i64 a4_4, .int .i64 a4_5] 29 ?_; intro gb327 hg w15 hbox hb; have BK327 := Aside0.mk (hbox); have GW327 := ge_ hg; have GE327 := ge_ hg; have NB326_327 := nl_ BK326 hg; have NB327_326 := nr_ BK326 hg; replace HO5_4 := Aside0.mk (Kd.V_below (Kd.V_elderB Z2 gb327 (Nat.le_of_eq hg.symm)) hb); replace BK326 := bk_ BK326 hb; replace HB := hs_ hb; clear hb hbox hg) | ((with_reducible refine gate_dst (N := 11) rfl ?_); refine bx 11 #[.int .i64 a5_0, .int .i64 a5_1, .int .i64 a5_2, .bool a5_3, .slice A5_4 l5_4.length c5_4] 41 ?_; intro gb328 hg w16 hbox hb; have BK328 := Aside0.mk (hbox); have GW328 := ge_ hg; have GE328 := ge_ hg; have NB326_328 := nl_ BK326 hg; have NB328_326 := nr_ BK326 hg; have NB327_328 := nl_ BK327 hg; have NB328_327 := nr_ BK327 hg; replace HO5_4 := Aside0.mk (Kd.V_below (Kd.V_elderB Z2 gb328 (Nat.le_of_eq hg.symm)) hb); replace BK326 := bk_ BK326 hb; replace BK327 := bk_ BK327 hb; replace HB := hs_ hb; clear hb hbox hg; have hnb17 := NB328_326.out; have hnc17 := NB326_328.out; have hnb18 := NB328_327.out; have hnc18 := NB327_328.out; obtain ⟨hcz19_0, hcz19_1, hcz19_2, hcz19_3, hcz19_4, hfz19_0, hfz19_1, hfz19_2, hfz19_3, hfz19_4⟩ := bz5_ BK328) | ((with_reducible refine gate_callee (f := 51) rfl ?_); refine goesL_ (some 20) rfl rfl Try.func51 (by kernel_rfl) rfl #[.slice A1 l1.length c1, .slice A5_4 l5_4.length c5_4] rfl Z0 ?_; (with_reducible refine (pack_Less.calls _ _ l1 _ _ l5_4 t329 t330 _ ?side1 ?side2 ?side3 ?side4 A7.out).mono ?_); (case side1 => exact cs_ HR1); (case side2 => exact HC1.out); (case side3 => repeat (first | exact (Kd.V_reads' HO5_4.out).2.2 | (with_reducible refine Kd.C_alloc ?_ _) | (with_reducible refine Kd.C_drewN ?_ _) | (with_reducible refine Kd.C_drew ?_))); (case side4 => exact (Kd.V_reads' HO5_4.out).2.1); rintro e w20 ⟨v331, rfl, ho0, hb⟩; refine ⟨_, rfl, ?_⟩; have HO332 := Aside0.mk (Kd.R_lower (Kd.R_newM (M := fun k_ => (w.heap.size ≤ k_)) ho0 (below_size hb_) (fun k_ h_ => h_)) (below_size hb_)); replace HO5_4 := Aside0.mk (Kd.V_elder' Z2 (Kd.R_base ho0) hb); replace BK326 := bk_ BK326 hb; replace BK327 := bk_ BK327 hb; replace BK328 := bk_ BK328 hb; replace HB := hs_ hb; (try clear hb); (try clear hb2); (try clear hk); (try clear hi); (try clear ho0); obtain ⟨hcz21_0, hcz21_1, hcz21_2, hcz21_3, hcz21_4, hfz21_0, hfz21_1, hfz21_2, hfz21_3, hfz21_4⟩ := bz5_ BK328; have hnb22 := NB327_326.out; have hnc22 := NB326_327.out; obtain ⟨hcz23_0, hcz23_1, hcz23_2, hcz23_3, hcz23_4, hcz23_5, hfz23_0, hfz23_1, hfz23_2, hfz23_3, hfz23_4, hfz23_5⟩ := bz6_ BK327; obtain ⟨hcz24_0, hcz24_1, hfz24_0, hfz24_1⟩ := bz2_ BK326) | ((with_reducible refine gate_callee (f := 81) rfl ?_); refine goesL_ (some 34) rfl rfl Try.func81 (by kernel_rfl) rfl #[.agg #[.int .i64 a2_0, .int .i64 a2_1], .slice A5_4 l5_4.length c5_4] rfl Z0 ?_; (with_reducible refine (fill_take.calls a2_0 a2_1 _ _ l5_4 t333 t334 _ ?side1 ?side2 A10.out).mono ?_); (case side1 => repeat (first | exact (Kd.V_reads' HO5_4.out).2.2 | (with_reducible refine Kd.C_alloc ?_ _) | (with_reducible refine Kd.C_drewN ?_ _) | (with_reducible refine Kd.C_drew ?_))); (case side2 => exact (Kd.V_reads' HO5_4.out).2.1); rintro e w25 ⟨rfl, hb⟩; refine ⟨_, rfl, ?_⟩; replace HO5_4 := Aside0.mk (Kd.V_below Z2 hb); replace HO332 := Aside0.mk (Kd.R_below Z1 hb); replace BK326 := bk_ BK326 hb; replace BK327 := bk_ BK327 hb; replace BK328 := bk_ BK328 hb; replace HB := hs_ hb; (try clear hb); (try clear hb2); (try clear hk); (try clear hi); obtain ⟨hcz26_0, hcz26_1, hfz26_0, hfz26_1⟩ := bz2_ BK326; obtain ⟨Ao27, co27, eo27⟩ := Kd.R_slice HO332.out; subst eo27))
    have n0_ : Aside0 (Kd.V k52 52 ((w25.setCell ⟨gb326, 0, none⟩ (.int .i64 t333)).setCell ⟨gb326, 1, none⟩ (.int .i64 t334)) w.heap.size (fun k_ => (P5_4_ k_ ∨ w.heap.size ≤ k_) ∧ some k_ ≠ (.slice Ao27 t329.length co27 : Value).ownBlock ∧ k_ ≠ gb326 ∧ k_ ≠ gb327 ∧ k_ ≠ gb328) (.slice A5_4 l5_4.length c5_4) l5_4) := ⟨by (with_reducible repeat (first | apply Kd.V_alloc | apply Kd.V_drewN | apply Kd.V_drew)); exact Kd.V_mono (Kd.V_far (p := ⟨gb326, 1, none⟩) (Kd.V_far (p := ⟨gb326, 0, none⟩) (Kd.V_mono HO5_4.out (fun k_ hk => (⟨hk, hk.1.1.1.2⟩ : _ ∧ k_ ≠ gb326))) (fun _ hk => hk.2) (.int .i64 t333)) (fun _ hk => hk.2) (.int .i64 t334)) (fun _ hk => ⟨hk.1.1.1.1.1, ⟨hk.1.2, ⟨hk.1.1.1.1.2, ⟨hk.1.1.1.2, hk.1.1.2⟩⟩⟩⟩)⟩
    have n1_ : Aside0 (Kd.R k51 51 ((w25.setCell ⟨gb326, 0, none⟩ (.int .i64 t333)).setCell ⟨gb326, 1, none⟩ (.int .i64 t334)) w.heap.size (fun k_ => (w.heap.size ≤ k_)) (.slice Ao27 t329.length co27) t329) := ⟨by (with_reducible repeat (first | apply Kd.R_alloc | apply Kd.R_drewN | apply Kd.R_drew)); exact Kd.R_mono (Kd.R_far (p := ⟨gb326, 1, none⟩) (Kd.R_far (p := ⟨gb326, 0, none⟩) (Kd.R_types HO332.out BK326.out (by decide)) (fun _ hk => hk.2) (.int .i64 t333)) (fun _ hk => hk.2) (.int .i64 t334)) (fun _ hk => hk.1.1)⟩
    have n2_ : Aside0 (((w25.setCell ⟨gb326, 0, none⟩ (.int .i64 t333)).setCell ⟨gb326, 1, none⟩ (.int .i64 t334)).heap[gb326]? = some (.cells #[.int .i64 t333, .int .i64 t334] 24 (0, 0))) := ⟨bs_⟩
    have n3_ : Aside0 (((w25.setCell ⟨gb326, 0, none⟩ (.int .i64 t333)).setCell ⟨gb326, 1, none⟩ (.int .i64 t334)).heap[gb327]? = some (.cells #[.int .i64 a4_0, .int .i64 a4_1, .int .i64 a4_2, .int .i64 a4_3, .int .i64 a4_4, .int .i64 a4_5] 29 (0, 0))) := ⟨bs_⟩
    have n4_ : Aside0 (((w25.setCell ⟨gb326, 0, none⟩ (.int .i64 t333)).setCell ⟨gb326, 1, none⟩ (.int .i64 t334)).heap[gb328]? = some (.cells #[.int .i64 a5_0, .int .i64 a5_1, .int .i64 a5_2, .bool a5_3, .slice A5_4 l5_4.length c5_4] 41 (0, 0))) := ⟨bs_⟩
    have n5_ : Aside0 (Below w.heap.size w ((w25.setCell ⟨gb326, 0, none⟩ (.int .i64 t333)).setCell ⟨gb326, 1, none⟩ (.int .i64 t334))) := ⟨hb_⟩
    (try clear HO5_4)
    (try clear HO332)
    (try clear BK326)
    (try clear BK327)
    (try clear BK328)
    (try clear HB)
    generalize ((w25.setCell ⟨gb326, 0, none⟩ (.int .i64 t333)).setCell ⟨gb326, 1, none⟩ (.int .i64 t334)) = w28 at n0_ n1_ n2_ n3_ n4_ n5_ ⊢
    have HO5_4 := n0_
    have HO332 := n1_
    have BK326 := n2_
    have BK327 := n3_
    have BK328 := n4_
    have HB := n5_
    clear n0_ n1_ n2_ n3_ n4_ n5_
    replace HO5_4 := Aside0.mk (Kd.V_drew HO5_4.out)
    replace HO332 := Aside0.mk (Kd.R_drew HO332.out)
    replace BK326 := Aside0.mk (blk_drew BK326.out)
    replace BK327 := Aside0.mk (blk_drew BK327.out)
    replace BK328 := Aside0.mk (blk_drew BK328.out)
    replace HB := Aside0.mk (below_drew1 HB.out)
    refine start_ (n := 14) (S := fun w' => w'.cell? ⟨gb326, 0, none⟩ = some (.int .i64 t333) ∧ w'.cell? ⟨gb326, 1, none⟩ = some (.int .i64 t334) ∧ w'.cell? ⟨gb328, 0, none⟩ = some (.int .i64 a5_0) ∧ w'.cell? ⟨gb328, 1, none⟩ = some (.int .i64 a5_1) ∧ w'.cell? ⟨gb328, 2, none⟩ = some (.int .i64 a5_2) ∧ w'.cell? ⟨gb328, 3, none⟩ = some (.bool a5_3) ∧ w'.cell? ⟨gb328, 4, none⟩ = some (.slice A5_4 l5_4.length c5_4) ∧ w'.cell? ⟨gb327, 0, none⟩ = some (.int .i64 a4_0) ∧ w'.cell? ⟨gb327, 1, none⟩ = some (.int .i64 a4_1) ∧ w'.cell? ⟨gb327, 2, none⟩ = some (.int .i64 a4_2) ∧ w'.cell? ⟨gb327, 3, none⟩ = some (.int .i64 a4_3) ∧ w'.cell? ⟨gb327, 4, none⟩ = some (.int .i64 a4_4) ∧ w'.cell? ⟨gb327, 5, none⟩ = some (.int .i64 a4_5)) (ds := []) (bm 14 0) (by kernel_rfl) rfl rfl ⟨(blk_cell BK326.out 0).trans rfl, (blk_cell BK326.out 1).trans rfl, (blk_cell BK328.out 0).trans rfl, (blk_cell BK328.out 1).trans rfl, (blk_cell BK328.out 2).trans rfl, (blk_cell BK328.out 3).trans rfl, (blk_cell BK328.out 4).trans rfl, (blk_cell BK327.out 0).trans rfl, (blk_cell BK327.out 1).trans rfl, (blk_cell BK327.out 2).trans rfl, (blk_cell BK327.out 3).trans rfl, (blk_cell BK327.out 4).trans rfl, (blk_cell BK327.out 5).trans rfl⟩ (fun hHeld => ?_); refine with_tabW fill_After.tab6 fill_After.bits6 (fun HT_ HW_ => ?_)
    generalize w28.drew = w29 at HO5_4 HO332 BK326 BK327 BK328 HB hHeld ⊢
    refine pu 0 (some 35) (bm 14 1) ?_
    refine pu 1 (some 36) (bm 14 3) ?_
    refine pu 3 (some 38) (bm 14 11) ?_
    refine tk13 2 (some 37) (bm 14 15) ?_
    refine tk13 5 (some 40) (bm 14 47) ?_
    refine tk13 8 (some 43) (bm 14 303) ?_
    refine join_ (σ := Value × Value) 6 (bm 14 383) (fun s_ => [(39, s_.1), (41, s_.2)]) (fun s_ w' => (w'.cell? ⟨gb326, 0, none⟩ = some (.int .i64 t333) ∧ w'.cell? ⟨gb326, 1, none⟩ = some (.int .i64 t334) ∧ w'.cell? ⟨gb328, 0, none⟩ = some (.int .i64 a5_0) ∧ w'.cell? ⟨gb328, 1, none⟩ = some (.int .i64 a5_1) ∧ w'.cell? ⟨gb328, 2, none⟩ = some (.int .i64 a5_2) ∧ w'.cell? ⟨gb328, 3, none⟩ = some (.bool a5_3) ∧ w'.cell? ⟨gb328, 4, none⟩ = some (.slice A5_4 l5_4.length c5_4) ∧ w'.cell? ⟨gb327, 0, none⟩ = some (.int .i64 a4_0) ∧ w'.cell? ⟨gb327, 1, none⟩ = some (.int .i64 a4_1) ∧ w'.cell? ⟨gb327, 2, none⟩ = some (.int .i64 a4_2) ∧ w'.cell? ⟨gb327, 3, none⟩ = some (.int .i64 a4_3) ∧ w'.cell? ⟨gb327, 4, none⟩ = some (.int .i64 a4_4) ∧ w'.cell? ⟨gb327, 5, none⟩ = some (.int .i64 a4_5)) ∧ (Kd.R k51 51 w' w.heap.size (fun k_ => (w.heap.size ≤ k_)) (.slice Ao27 t329.length co27) t329) ∧ (Kd.N k41 41 w' w.heap.size (fun k_ => (P5_4_ k_ ∨ w.heap.size ≤ k_) ∧ some k_ ≠ (.slice Ao27 t329.length co27 : Value).ownBlock ∧ some k_ ≠ (s_.2 : Value).ownBlock ∧ k_ ≠ gb326 ∧ k_ ≠ gb327 ∧ k_ ≠ gb328) s_.1 t335) ∧ (Kd.N k41 41 w' w.heap.size (fun k_ => (P5_4_ k_ ∨ w.heap.size ≤ k_) ∧ some k_ ≠ (.slice Ao27 t329.length co27 : Value).ownBlock ∧ some k_ ≠ (s_.1 : Value).ownBlock ∧ k_ ≠ gb326 ∧ k_ ≠ gb327 ∧ k_ ≠ gb328) s_.2 y338) ∧ (Kd.V k52 52 w' w.heap.size (fun k_ => (P5_4_ k_ ∨ w.heap.size ≤ k_) ∧ some k_ ≠ (.slice Ao27 t329.length co27 : Value).ownBlock ∧ some k_ ≠ (s_.1 : Value).ownBlock ∧ some k_ ≠ (s_.2 : Value).ownBlock ∧ k_ ≠ gb326 ∧ k_ ≠ gb327 ∧ k_ ≠ gb328) (.slice A5_4 l5_4.length c5_4) l5_4) ∧ (w'.heap[gb326]? = some (.cells #[.int .i64 t333, .int .i64 t334] 24 (0, 0))) ∧ (w'.heap[gb327]? = some (.cells #[.int .i64 a4_0, .int .i64 a4_1, .int .i64 a4_2, .int .i64 a4_3, .int .i64 a4_4, .int .i64 a4_5] 29 (0, 0))) ∧ (w'.heap[gb328]? = some (.cells #[.int .i64 a5_0, .int .i64 a5_1, .int .i64 a5_2, .bool a5_3, .slice A5_4 l5_4.length c5_4] 41 (0, 0))) ∧ (Below w.heap.size w w')) ?_ ?_
    rotate_left
    ·intro hCont
     refine two_ (i := 4) (j := 6) (Ni := some 39) (Nj := some 41) (bm 14 319) (bm 14 367) rfl rfl rfl rfl (two_of HT_.out (by kernel_rfl)) (by decide) (by decide) (fun K hK => ?_) (fun K hK => ?_)
     ·skip
      refine goes_ Try.func70 (by kernel_rfl) rfl #[.slice A3 l3.length c3] (by rfl) rfl rfl Z0 ?_
      with_reducible refine (api_Hold.callsF (fun k => k < w.heap.size) _ _ l3 t335 _ ?side1 ?side2 A11.out).mono ?_
      (case side1 => exact Foot.step (Kd.C_F k41_heap HR3.out) (fun k hk _ => (show Below w.heap.size w _ from hb_).block k hk))
      (case side2 => exact fun k hk => Nat.lt_of_lt_of_le hk (below_size hb_))
      rintro e w30 ⟨v336, rfl, ho0, hb⟩
      refine ⟨_, rfl, ?_⟩
      have HO337 := Aside0.mk (Kd.N_lower (Kd.N_mono (ok' := fun k_ => (P5_4_ k_ ∨ w.heap.size ≤ k_) ∧ some k_ ≠ (.slice Ao27 t329.length co27 : Value).ownBlock ∧ k_ ≠ gb326 ∧ k_ ≠ gb327 ∧ k_ ≠ gb328) ho0 (fun k_ hk_ => hk_.elim (fun h_ => ⟨.inl (HP5.out k_), (fun e_ => by have := Kd.R_base HO332.out k_ e_.symm; omega), (by have := GE326.out; omega), (by have := GE327.out; omega), (by have := GE328.out; omega)⟩) (fun h_ => ⟨(.inr (Nat.le_trans (below_size hb_) h_)), (Kd.fresh' (Kd.R_lt Z1) k_ h_), (Kd.freshB (g := gb326) (o := .cells #[.int .i64 t333, .int .i64 t334] 24 (0, 0)) (bo_ BK326) k_ h_), (Kd.freshB (g := gb327) (o := .cells #[.int .i64 a4_0, .int .i64 a4_1, .int .i64 a4_2, .int .i64 a4_3, .int .i64 a4_4, .int .i64 a4_5] 29 (0, 0)) (bo_ BK327) k_ h_), (Kd.freshB (g := gb328) (o := .cells #[.int .i64 a5_0, .int .i64 a5_1, .int .i64 a5_2, .bool a5_3, .slice A5_4 l5_4.length c5_4] 41 (0, 0)) (bo_ BK328) k_ h_)⟩))) (below_size hb_))
      replace HO5_4 := Aside0.mk (Kd.V_elder' Z2 (Kd.N_base ho0) hb)
      replace HO332 := Aside0.mk (Kd.R_below Z1 hb)
      replace BK326 := bk_ BK326 hb
      replace BK327 := bk_ BK327 hb
      replace BK328 := bk_ BK328 hb
      replace HB := hs_ hb
      (try clear hb)
      (try clear hb2)
      (try clear hk)
      (try clear hi)
      (try clear ho0)
      refine hK.out _ _ kc_ (fun hHeld => ?_)
      clear hK K
      refine norm_ (a' := ?_) ?_ ?_
      rotate_left
      ·show Act.put _ (some 39) _ = _
       simp only [Act.put, List.setIfInBounds_toArray, List.set_cons_zero, List.set_cons_succ, i64_w, i32_w]
       rfl
      refine one_ (i := 6) (N := some 41) (bm 14 383) rfl rfl (one_of HT_.out (by kernel_rfl)) (by decide) (fun K hK => ?_)
      refine Kd.N_lit_step k41 _ 41 ?hg (N' := 41) ?hd (xs := ([(⟨a5_0, a5_1, a5_2, a5_3, l5_4⟩ : S41)] : List (S41))) (inner := [.int .i64 a5_0, .int .i64 a5_1, .int .i64 a5_2, .bool a5_3, .slice A5_4 l5_4.length c5_4]) (ok := (fun k_ => (P5_4_ k_ ∨ w.heap.size ≤ k_) ∧ some k_ ≠ (.slice Ao27 t329.length co27 : Value).ownBlock ∧ some k_ ≠ (v336 : Value).ownBlock ∧ k_ ≠ gb326 ∧ k_ ≠ gb327 ∧ k_ ≠ gb328)) (okp := (fun k_ => (P5_4_ k_ ∨ w.heap.size ≤ k_) ∧ some k_ ≠ (.slice Ao27 t329.length co27 : Value).ownBlock ∧ some k_ ≠ (v336 : Value).ownBlock ∧ k_ ≠ gb326 ∧ k_ ≠ gb327 ∧ k_ ≠ gb328)) ?hr ?hp (fun _ hk => hk) ((show ∀ k_, w30.heap.size ≤ k_ → (fun k_ => (P5_4_ k_ ∨ w.heap.size ≤ k_) ∧ some k_ ≠ (.slice Ao27 t329.length co27 : Value).ownBlock ∧ some k_ ≠ (v336 : Value).ownBlock ∧ k_ ≠ gb326 ∧ k_ ≠ gb327 ∧ k_ ≠ gb328) k_ from fun k_ hk => ⟨(.inr (Nat.le_trans (below_size hb_) hk)), Kd.fresh' (Kd.R_lt Z1) k_ hk, Kd.fresh' (Kd.N_lt Z6) k_ hk, Kd.freshB (g := gb326) (o := .cells #[.int .i64 t333, .int .i64 t334] 24 (0, 0)) (bo_ BK326) k_ hk, Kd.freshB (g := gb327) (o := .cells #[.int .i64 a4_0, .int .i64 a4_1, .int .i64 a4_2, .int .i64 a4_3, .int .i64 a4_4, .int .i64 a4_5] 29 (0, 0)) (bo_ BK327) k_ hk, Kd.freshB (g := gb328) (o := .cells #[.int .i64 a5_0, .int .i64 a5_1, .int .i64 a5_2, .bool a5_3, .slice A5_4 l5_4.length c5_4] 41 (0, 0)) (bo_ BK328) k_ hk⟩) _ (Nat.le_refl _)) (Below.refl _ _) (Nat.le_refl _) (by simp) ?_; (case hd => rfl); (case hg => rfl); (case hr => first | (go_simp; done) | (go_simp; rfl)); (case hp => exact (Reps.c5 (show Kd.FK k41 _ _ (⟨a5_0, a5_1, a5_2, a5_3, l5_4⟩ : S41) [.int .i64 a5_0, .int .i64 a5_1, .int .i64 a5_2, .bool a5_3, .slice A5_4 l5_4.length c5_4] from (k41_mkF _ _ (⟨a5_0, a5_1, a5_2, a5_3, l5_4⟩ : S41) (Kd.V_reads' (Kd.V_mono (ok' := (fun k_ => (P5_4_ k_ ∨ w.heap.size ≤ k_) ∧ some k_ ≠ (.slice Ao27 t329.length co27 : Value).ownBlock ∧ some k_ ≠ (v336 : Value).ownBlock ∧ k_ ≠ gb326 ∧ k_ ≠ gb327 ∧ k_ ≠ gb328)) (HO5_4.out) (fun k_ hk => ⟨hk.1.1, ⟨hk.1.2.1, ⟨hk.2, ⟨hk.1.2.2.1, ⟨hk.1.2.2.2.1, hk.1.2.2.2.2⟩⟩⟩⟩⟩))).2.1 (Kd.V_F (Kd.V_mono (ok' := (fun k_ => (P5_4_ k_ ∨ w.heap.size ≤ k_) ∧ some k_ ≠ (.slice Ao27 t329.length co27 : Value).ownBlock ∧ some k_ ≠ (v336 : Value).ownBlock ∧ k_ ≠ gb326 ∧ k_ ≠ gb327 ∧ k_ ≠ gb328)) (HO5_4.out) (fun k_ hk => ⟨hk.1.1, ⟨hk.1.2.1, ⟨hk.2, ⟨hk.1.2.2.1, ⟨hk.1.2.2.2.1, hk.1.2.2.2.2⟩⟩⟩⟩⟩))))) (Reps.none _ _)))
      intro v339 w31 ho32 hb hg_ hnew_
      clear hg_ hnew_
      (first | rw [← Ny338.out] at ho32 | (simp only [Int.reduceToNat] at ho32; rw [← Ny338.out] at ho32))
      have HO340 := Aside0.mk (Kd.N_lower ho32 (below_size hb_))
      replace HO5_4 := Aside0.mk (Kd.V_elder' Z2 (Kd.N_base ho32) hb)
      replace HO332 := Aside0.mk (Kd.R_below Z1 hb)
      replace HO337 := Aside0.mk (Kd.N_elder' Z6 (Kd.N_base ho32) hb)
      replace BK326 := bk_ BK326 hb
      replace BK327 := bk_ BK327 hb
      replace BK328 := bk_ BK328 hb
      replace HB := hs_ hb
      clear hb ho32
      refine hK.out _ _ kc_ (fun hHeld => ?_)
      clear hK K
      refine norm_ (a' := ?_) ?_ ?_
      rotate_left
      ·show Act.put _ (some 41) _ = _
       simp only [Act.put, List.setIfInBounds_toArray, List.set_cons_zero, List.set_cons_succ, i64_w, i32_w]
       rfl
      exact norm_ Z15 (hCont (v336, v339) _ ⟨hHeld, Z1, (by (with_reducible repeat (first | apply Kd.N_alloc | apply Kd.N_drewN | apply Kd.N_drew)); exact Kd.N_mono HO337.out (fun _ hk => ⟨hk.1.1, ⟨hk.1.2.1, ⟨hk.2, ⟨hk.1.2.2.1, ⟨hk.1.2.2.2.1, hk.1.2.2.2.2⟩⟩⟩⟩⟩)), Z14, (by (with_reducible repeat (first | apply Kd.V_alloc | apply Kd.V_drewN | apply Kd.V_drew)); exact Kd.V_mono HO5_4.out (fun _ hk => ⟨hk.1.1.1, ⟨hk.1.1.2.1, ⟨hk.1.2, ⟨hk.2, ⟨hk.1.1.2.2.1, ⟨hk.1.1.2.2.2.1, hk.1.1.2.2.2.2⟩⟩⟩⟩⟩⟩)), (bo_ BK326), (bo_ BK327), (bo_ BK328), hb_⟩)
     ·skip
      refine Kd.N_lit_step k41 _ 41 ?hg (N' := 41) ?hd (xs := ([(⟨a5_0, a5_1, a5_2, a5_3, l5_4⟩ : S41)] : List (S41))) (inner := [.int .i64 a5_0, .int .i64 a5_1, .int .i64 a5_2, .bool a5_3, .slice A5_4 l5_4.length c5_4]) (ok := (fun k_ => (P5_4_ k_ ∨ w.heap.size ≤ k_) ∧ some k_ ≠ (.slice Ao27 t329.length co27 : Value).ownBlock ∧ k_ ≠ gb326 ∧ k_ ≠ gb327 ∧ k_ ≠ gb328)) (okp := (fun k_ => (P5_4_ k_ ∨ w.heap.size ≤ k_) ∧ some k_ ≠ (.slice Ao27 t329.length co27 : Value).ownBlock ∧ k_ ≠ gb326 ∧ k_ ≠ gb327 ∧ k_ ≠ gb328)) ?hr ?hp (fun _ hk => hk) ((show ∀ k_, w29.heap.size ≤ k_ → (fun k_ => (P5_4_ k_ ∨ w.heap.size ≤ k_) ∧ some k_ ≠ (.slice Ao27 t329.length co27 : Value).ownBlock ∧ k_ ≠ gb326 ∧ k_ ≠ gb327 ∧ k_ ≠ gb328) k_ from fun k_ hk => ⟨(.inr (Nat.le_trans (below_size hb_) hk)), Kd.fresh' (Kd.R_lt Z1) k_ hk, Kd.freshB (g := gb326) (o := .cells #[.int .i64 t333, .int .i64 t334] 24 (0, 0)) (bo_ BK326) k_ hk, Kd.freshB (g := gb327) (o := .cells #[.int .i64 a4_0, .int .i64 a4_1, .int .i64 a4_2, .int .i64 a4_3, .int .i64 a4_4, .int .i64 a4_5] 29 (0, 0)) (bo_ BK327) k_ hk, Kd.freshB (g := gb328) (o := .cells #[.int .i64 a5_0, .int .i64 a5_1, .int .i64 a5_2, .bool a5_3, .slice A5_4 l5_4.length c5_4] 41 (0, 0)) (bo_ BK328) k_ hk⟩) _ (Nat.le_refl _)) (Below.refl _ _) (Nat.le_refl _) (by simp) ?_; (case hd => rfl); (case hg => rfl); (case hr => first | (go_simp; done) | (go_simp; rfl)); (case hp => exact (Reps.c5 (show Kd.FK k41 _ _ (⟨a5_0, a5_1, a5_2, a5_3, l5_4⟩ : S41) [.int .i64 a5_0, .int .i64 a5_1, .int .i64 a5_2, .bool a5_3, .slice A5_4 l5_4.length c5_4] from (k41_mkF _ _ (⟨a5_0, a5_1, a5_2, a5_3, l5_4⟩ : S41) (Kd.V_reads' (Kd.V_mono (ok' := (fun k_ => (P5_4_ k_ ∨ w.heap.size ≤ k_) ∧ some k_ ≠ (.slice Ao27 t329.length co27 : Value).ownBlock ∧ k_ ≠ gb326 ∧ k_ ≠ gb327 ∧ k_ ≠ gb328)) (HO5_4.out) (fun k_ hk => ⟨hk.1, ⟨hk.2.1, ⟨hk.2.2.1, ⟨hk.2.2.2.1, hk.2.2.2.2⟩⟩⟩⟩))).2.1 (Kd.V_F (Kd.V_mono (ok' := (fun k_ => (P5_4_ k_ ∨ w.heap.size ≤ k_) ∧ some k_ ≠ (.slice Ao27 t329.length co27 : Value).ownBlock ∧ k_ ≠ gb326 ∧ k_ ≠ gb327 ∧ k_ ≠ gb328)) (HO5_4.out) (fun k_ hk => ⟨hk.1, ⟨hk.2.1, ⟨hk.2.2.1, ⟨hk.2.2.2.1, hk.2.2.2.2⟩⟩⟩⟩))))) (Reps.none _ _)))
      intro v339 w30 ho31 hb hg_ hnew_
      clear hg_ hnew_
      (first | rw [← Ny338.out] at ho31 | (simp only [Int.reduceToNat] at ho31; rw [← Ny338.out] at ho31))
      have HO340 := Aside0.mk (Kd.N_lower ho31 (below_size hb_))
      replace HO5_4 := Aside0.mk (Kd.V_elder' Z2 (Kd.N_base ho31) hb)
      replace HO332 := Aside0.mk (Kd.R_below Z1 hb)
      replace BK326 := bk_ BK326 hb
      replace BK327 := bk_ BK327 hb
      replace BK328 := bk_ BK328 hb
      replace HB := hs_ hb
      clear hb ho31
      refine hK.out _ _ kc_ (fun hHeld => ?_)
      clear hK K
      refine norm_ (a' := ?_) ?_ ?_
      rotate_left
      ·show Act.put _ (some 41) _ = _
       simp only [Act.put, List.setIfInBounds_toArray, List.set_cons_zero, List.set_cons_succ, i64_w, i32_w]
       rfl
      refine one_ (i := 4) (N := some 39) (bm 14 383) rfl rfl (one_of HT_.out (by kernel_rfl)) (by decide) (fun K hK => ?_)
      refine goes_ Try.func70 (by kernel_rfl) rfl #[.slice A3 l3.length c3] (by rfl) rfl rfl Z0 ?_
      with_reducible refine (api_Hold.callsF (fun k => k < w.heap.size) _ _ l3 t335 _ ?side1 ?side2 A11.out).mono ?_
      (case side1 => exact Foot.step (Kd.C_F k41_heap HR3.out) (fun k hk _ => (show Below w.heap.size w _ from hb_).block k hk))
      (case side2 => exact fun k hk => Nat.lt_of_lt_of_le hk (below_size hb_))
      rintro e w32 ⟨v336, rfl, ho0, hb⟩
      refine ⟨_, rfl, ?_⟩
      have HO337 := Aside0.mk (Kd.N_lower (Kd.N_mono (ok' := fun k_ => (P5_4_ k_ ∨ w.heap.size ≤ k_) ∧ some k_ ≠ (.slice Ao27 t329.length co27 : Value).ownBlock ∧ some k_ ≠ (v339 : Value).ownBlock ∧ k_ ≠ gb326 ∧ k_ ≠ gb327 ∧ k_ ≠ gb328) ho0 (fun k_ hk_ => hk_.elim (fun h_ => ⟨.inl (HP5.out k_), (fun e_ => by have := Kd.R_base HO332.out k_ e_.symm; omega), (fun e_ => by have := Kd.N_base HO340.out k_ e_.symm; omega), (by have := GE326.out; omega), (by have := GE327.out; omega), (by have := GE328.out; omega)⟩) (fun h_ => ⟨(.inr (Nat.le_trans (below_size hb_) h_)), (Kd.fresh' (Kd.R_lt Z1) k_ h_), (Kd.fresh' (Kd.N_lt Z14) k_ h_), (Kd.freshB (g := gb326) (o := .cells #[.int .i64 t333, .int .i64 t334] 24 (0, 0)) (bo_ BK326) k_ h_), (Kd.freshB (g := gb327) (o := .cells #[.int .i64 a4_0, .int .i64 a4_1, .int .i64 a4_2, .int .i64 a4_3, .int .i64 a4_4, .int .i64 a4_5] 29 (0, 0)) (bo_ BK327) k_ h_), (Kd.freshB (g := gb328) (o := .cells #[.int .i64 a5_0, .int .i64 a5_1, .int .i64 a5_2, .bool a5_3, .slice A5_4 l5_4.length c5_4] 41 (0, 0)) (bo_ BK328) k_ h_)⟩))) (below_size hb_))
      replace HO5_4 := Aside0.mk (Kd.V_elder' Z2 (Kd.N_base ho0) hb)
      replace HO332 := Aside0.mk (Kd.R_below Z1 hb)
      replace HO340 := Aside0.mk (Kd.N_elder' Z14 (Kd.N_base ho0) hb)
      replace BK326 := bk_ BK326 hb
      replace BK327 := bk_ BK327 hb
      replace BK328 := bk_ BK328 hb
      replace HB := hs_ hb
      (try clear hb)
      (try clear hb2)
      (try clear hk)
      (try clear hi)
      (try clear ho0)
      refine hK.out _ _ kc_ (fun hHeld => ?_)
      clear hK K
      refine norm_ (a' := ?_) ?_ ?_
      rotate_left
      ·show Act.put _ (some 39) _ = _
       simp only [Act.put, List.setIfInBounds_toArray, List.set_cons_zero, List.set_cons_succ, i64_w, i32_w]
       rfl
      exact norm_ Z15 (hCont (v336, v339) _ ⟨hHeld, Z1, Z6, (by (with_reducible repeat (first | apply Kd.N_alloc | apply Kd.N_drewN | apply Kd.N_drew)); exact Kd.N_mono HO340.out (fun _ hk => ⟨hk.1.1, ⟨hk.1.2.1, ⟨hk.2, ⟨hk.1.2.2.1, ⟨hk.1.2.2.2.1, hk.1.2.2.2.2⟩⟩⟩⟩⟩)), (by (with_reducible repeat (first | apply Kd.V_alloc | apply Kd.V_drewN | apply Kd.V_drew)); exact Kd.V_mono HO5_4.out (fun _ hk => ⟨hk.1.1.1, ⟨hk.1.1.2.1, ⟨hk.2, ⟨hk.1.2, ⟨hk.1.1.2.2.1, ⟨hk.1.1.2.2.2.1, hk.1.1.2.2.2.2⟩⟩⟩⟩⟩⟩)), (bo_ BK326), (bo_ BK327), (bo_ BK328), hb_⟩)
    rintro ⟨v336, v339⟩ w33 ⟨hS_, h0_, h1_, h2_, h3_, h4_, h5_, h6_, h7_⟩
    have n0_ : Aside0 (Kd.R k51 51 w33 w.heap.size (fun k_ => (w.heap.size ≤ k_)) (.slice Ao27 t329.length co27) t329) := ⟨h0_⟩
    have n1_ : Aside0 (Kd.N k41 41 w33 w.heap.size (fun k_ => (P5_4_ k_ ∨ w.heap.size ≤ k_) ∧ some k_ ≠ (.slice Ao27 t329.length co27 : Value).ownBlock ∧ some k_ ≠ (v339 : Value).ownBlock ∧ k_ ≠ gb326 ∧ k_ ≠ gb327 ∧ k_ ≠ gb328) v336 t335) := ⟨h1_⟩
    have n2_ : Aside0 (Kd.N k41 41 w33 w.heap.size (fun k_ => (P5_4_ k_ ∨ w.heap.size ≤ k_) ∧ some k_ ≠ (.slice Ao27 t329.length co27 : Value).ownBlock ∧ some k_ ≠ (v336 : Value).ownBlock ∧ k_ ≠ gb326 ∧ k_ ≠ gb327 ∧ k_ ≠ gb328) v339 y338) := ⟨h2_⟩
    have n3_ : Aside0 (Kd.V k52 52 w33 w.heap.size (fun k_ => (P5_4_ k_ ∨ w.heap.size ≤ k_) ∧ some k_ ≠ (.slice Ao27 t329.length co27 : Value).ownBlock ∧ some k_ ≠ (v336 : Value).ownBlock ∧ some k_ ≠ (v339 : Value).ownBlock ∧ k_ ≠ gb326 ∧ k_ ≠ gb327 ∧ k_ ≠ gb328) (.slice A5_4 l5_4.length c5_4) l5_4) := ⟨h3_⟩
    have n4_ : Aside0 (w33.heap[gb326]? = some (.cells #[.int .i64 t333, .int .i64 t334] 24 (0, 0))) := ⟨h4_⟩
    have n5_ : Aside0 (w33.heap[gb327]? = some (.cells #[.int .i64 a4_0, .int .i64 a4_1, .int .i64 a4_2, .int .i64 a4_3, .int .i64 a4_4, .int .i64 a4_5] 29 (0, 0))) := ⟨h5_⟩
    have n6_ : Aside0 (w33.heap[gb328]? = some (.cells #[.int .i64 a5_0, .int .i64 a5_1, .int .i64 a5_2, .bool a5_3, .slice A5_4 l5_4.length c5_4] 41 (0, 0))) := ⟨h6_⟩
    have n7_ : Aside0 (Below w.heap.size w w33) := ⟨h7_⟩
    clear HO5_4
    clear HO332
    clear BK326
    clear BK327
    clear BK328
    clear HB
    clear h0_ h1_ h2_ h3_ h4_ h5_ h6_ h7_
    have HO332 := n0_
    have HO337 := n1_
    have HO340 := n2_
    have HO5_4 := n3_
    have BK326 := n4_
    have BK327 := n5_
    have BK328 := n6_
    have HB := n7_
    clear n0_ n1_ n2_ n3_ n4_ n5_ n6_ n7_
    have hHeld : w33.cell? ⟨gb326, 0, none⟩ = some (.int .i64 t333) ∧ w33.cell? ⟨gb326, 1, none⟩ = some (.int .i64 t334) ∧ w33.cell? ⟨gb328, 0, none⟩ = some (.int .i64 a5_0) ∧ w33.cell? ⟨gb328, 1, none⟩ = some (.int .i64 a5_1) ∧ w33.cell? ⟨gb328, 2, none⟩ = some (.int .i64 a5_2) ∧ w33.cell? ⟨gb328, 3, none⟩ = some (.bool a5_3) ∧ w33.cell? ⟨gb328, 4, none⟩ = some (.slice A5_4 l5_4.length c5_4) ∧ w33.cell? ⟨gb327, 0, none⟩ = some (.int .i64 a4_0) ∧ w33.cell? ⟨gb327, 1, none⟩ = some (.int .i64 a4_1) ∧ w33.cell? ⟨gb327, 2, none⟩ = some (.int .i64 a4_2) ∧ w33.cell? ⟨gb327, 3, none⟩ = some (.int .i64 a4_3) ∧ w33.cell? ⟨gb327, 4, none⟩ = some (.int .i64 a4_4) ∧ w33.cell? ⟨gb327, 5, none⟩ = some (.int .i64 a4_5) := hS_
    obtain ⟨Ao35, co35, eo35⟩ := Kd.N_slice HO340.out
    (first | subst eo35 | (injection eo35 with f1_ f2_ f3_; have f4_ := f1_.symm; have f5_ := f3_.symm; clear f1_ f2_ f3_; subst f4_; subst f5_))
    refine norm_ (a' := ?_) ?_ ?_
    rotate_left
    ·simp only [putAll, Act.put, List.setIfInBounds_toArray, List.set_cons_zero, List.set_cons_succ]
     rfl
    refine one_ (i := 7) (N := some 42) (bm 14 511) rfl rfl (one_of HT_.out (by kernel_rfl)) (by decide) (fun K hK => ?_)
    refine Kd.N_append_rows_step k41 (w0 := w) w.heap.size (by rfl) (.tmp 39) (.tmp 41) 25 41 (.agg #[(.int .i64 0), (.int .i64 0), (.int .i64 0), (.bool false), (.slice none 0 0)]) 56 rfl Try.underlying25 info41 rfl (by decide) (by omega) v336 t335 y338 _ _ _ (fun k_ => (P5_4_ k_ ∨ w.heap.size ≤ k_) ∧ some k_ ≠ (.slice Ao27 t329.length co27 : Value).ownBlock ∧ k_ ≠ gb326 ∧ k_ ≠ gb327 ∧ k_ ≠ gb328) (fun k_ => ((fun k_ => (P5_4_ k_ ∨ w.heap.size ≤ k_) ∧ some k_ ≠ (.slice Ao27 t329.length co27 : Value).ownBlock ∧ k_ ≠ gb326 ∧ k_ ≠ gb327 ∧ k_ ≠ gb328)) k_ ∧ some k_ ≠ (v336 : Value).ownBlock) rfl rfl ?aO ?aR (fun _ hk => hk) ?aF ?aB ?aS ?aL ?_
    (case aR => exact (by skip; exact Kd.N_F (Kd.N_mono (ok' := (fun k_ => ((fun k_ => (P5_4_ k_ ∨ w.heap.size ≤ k_) ∧ some k_ ≠ (.slice Ao27 t329.length co27 : Value).ownBlock ∧ k_ ≠ gb326 ∧ k_ ≠ gb327 ∧ k_ ≠ gb328)) k_ ∧ some k_ ≠ (v336 : Value).ownBlock)) (HO340.out) (fun k_ hk => ⟨⟨hk.1, ⟨hk.2.1, ⟨hk.2.2.2.1, ⟨hk.2.2.2.2.1, hk.2.2.2.2.2⟩⟩⟩⟩, hk.2.2.1⟩))))
    (case aB => exact hb_)
    (case aF => exact (fun k_ hk => ⟨(.inr (Nat.le_trans (below_size hb_) hk)), Kd.fresh' (Kd.R_lt Z1) k_ hk, Kd.freshB (g := gb326) (o := .cells #[.int .i64 t333, .int .i64 t334] 24 (0, 0)) (bo_ BK326) k_ hk, Kd.freshB (g := gb327) (o := .cells #[.int .i64 a4_0, .int .i64 a4_1, .int .i64 a4_2, .int .i64 a4_3, .int .i64 a4_4, .int .i64 a4_5] 29 (0, 0)) (bo_ BK327) k_ hk, Kd.freshB (g := gb328) (o := .cells #[.int .i64 a5_0, .int .i64 a5_1, .int .i64 a5_2, .bool a5_3, .slice A5_4 l5_4.length c5_4] 41 (0, 0)) (bo_ BK328) k_ hk⟩))
    (case aO => exact (by (with_reducible repeat (first | apply Kd.N_alloc | apply Kd.N_drewN | apply Kd.N_drew)); exact Kd.N_mono HO337.out (fun _ hk => ⟨hk.1, ⟨hk.2.1, ⟨hk.2.2.2.1, ⟨hk.2.2.2.2.1, hk.2.2.2.2.2⟩⟩⟩⟩)))
    (case aS => exact (below_size hb_))
    (case aL => have := LMc12.out; omega)
    intro v342 w34 ho hb hg hat
    rw [← Ny341.out] at ho
    have HO343 := Aside0.mk (ho)
    replace HO5_4 := Aside0.mk (Kd.V_afterv (ok := (fun k_ => (P5_4_ k_ ∨ w.heap.size ≤ k_) ∧ some k_ ≠ (.slice Ao27 t329.length co27 : Value).ownBlock ∧ some k_ ≠ (.slice Ao35 y338.length co35 : Value).ownBlock ∧ k_ ≠ gb326 ∧ k_ ≠ gb327 ∧ k_ ≠ gb328)) (by (with_reducible repeat (first | apply Kd.V_alloc | apply Kd.V_drewN | apply Kd.V_drew)); exact Kd.V_mono HO5_4.out (fun _ hk => ⟨⟨hk.1, ⟨hk.2.1, ⟨hk.2.2.2.1, ⟨hk.2.2.2.2.1, ⟨hk.2.2.2.2.2.1, hk.2.2.2.2.2.2⟩⟩⟩⟩⟩, hk.2.2.1⟩)) hg hat)
    replace BK326 := Aside0.mk (blk_grown (g := gb326) (o := .cells #[.int .i64 t333, .int .i64 t334] 24 (0, 0)) (bo_ BK326) hg (Kd.N_ne HO337.out BK326.out (by decide)))
    replace BK327 := Aside0.mk (blk_grown (g := gb327) (o := .cells #[.int .i64 a4_0, .int .i64 a4_1, .int .i64 a4_2, .int .i64 a4_3, .int .i64 a4_4, .int .i64 a4_5] 29 (0, 0)) (bo_ BK327) hg (Kd.N_ne HO337.out BK327.out (by decide)))
    replace BK328 := Aside0.mk (blk_grown (g := gb328) (o := .cells #[.int .i64 a5_0, .int .i64 a5_1, .int .i64 a5_2, .bool a5_3, .slice A5_4 l5_4.length c5_4] 41 (0, 0)) (bo_ BK328) hg (Kd.N_away HO337.out (fun _ hk => hk.2.2.2.2.2)))
    replace HO332 := Aside0.mk (Kd.R_over' Z1 (Kd.N_typed Z6) (by decide) hg)
    replace HO340 := Aside0.mk (Kd.N_afterv (ok := (fun k_ => (P5_4_ k_ ∨ w.heap.size ≤ k_) ∧ some k_ ≠ (.slice Ao27 t329.length co27 : Value).ownBlock ∧ k_ ≠ gb326 ∧ k_ ≠ gb327 ∧ k_ ≠ gb328)) (by (with_reducible repeat (first | apply Kd.N_alloc | apply Kd.N_drewN | apply Kd.N_drew)); exact Kd.N_mono HO340.out (fun _ hk => ⟨⟨hk.1, ⟨hk.2.1, ⟨hk.2.2.2.1, ⟨hk.2.2.2.2.1, hk.2.2.2.2.2⟩⟩⟩⟩, hk.2.2.1⟩)) hg hat)
    replace HB := Aside0.mk (hb)
    clear HO337
    clear ho hb hg hat
    obtain ⟨Ao36, co36, eo36⟩ := Kd.N_slice HO343.out
    (first | subst eo36 | (injection eo36 with f1_ f2_ f3_; have f4_ := f1_.symm; have f5_ := f3_.symm; clear f1_ f2_ f3_; subst f4_; subst f5_))
    refine hK.out _ _ kc_ (fun hHeld => ?_)
    clear hK K
    refine norm_ (a' := ?_) ?_ ?_
    rotate_left
    ·show Act.put _ (some 42) _ = _
     simp only [Act.put, List.setIfInBounds_toArray, List.set_cons_zero, List.set_cons_succ, i64_w, i32_w]
     rfl
    refine one_ (i := 9) (N := some 44) (bm 14 1023) rfl rfl (one_of HT_.out (by kernel_rfl)) (by decide) (fun K hK => ?_)
    refine goes_ Try.func27 (by kernel_rfl) rfl #[.int .i64 a0, .slice Ao27 t329.length co27, .agg #[.int .i64 t333, .int .i64 t334], .slice Ao36 y341.length co36, .agg #[.int .i64 a4_0, .int .i64 a4_1, .int .i64 a4_2, .int .i64 a4_3, .int .i64 a4_4, .int .i64 a4_5]] (by rfl) rfl rfl Z0 ?_
    with_reducible refine (promise_Earliest.calls a0 _ _ t329 t333 t334 _ _ y341 a4_0 a4_1 a4_2 a4_3 a4_4 a4_5 t344 t345 _ ?side1 ?side2 ?side3 ?side4 A13.out).mono ?_
    (case side1 => repeat (first | exact (Kd.R_reads' HO332.out).2.2 | (with_reducible refine Kd.C_alloc ?_ _) | (with_reducible refine Kd.C_drewN ?_ _) | (with_reducible refine Kd.C_drew ?_)))
    (case side2 => exact (Kd.R_reads' HO332.out).2.1)
    (case side3 => repeat (first | exact (Kd.N_reads' HO343.out).2.2 | (with_reducible refine Kd.C_alloc ?_ _) | (with_reducible refine Kd.C_drewN ?_ _) | (with_reducible refine Kd.C_drew ?_)))
    (case side4 => exact (Kd.N_reads' HO343.out).2.1)
    rintro e w37 ⟨rfl, hb⟩
    refine ⟨_, rfl, ?_⟩
    replace HO5_4 := Aside0.mk (Kd.V_below Z2 hb)
    replace HO332 := Aside0.mk (Kd.R_below Z1 hb)
    replace HO340 := Aside0.mk (Kd.N_below Z14 hb)
    replace HO343 := Aside0.mk (Kd.N_below (by (with_reducible repeat (first | apply Kd.N_alloc | apply Kd.N_drewN | apply Kd.N_drew)); exact HO343.out) hb)
    replace BK326 := bk_ BK326 hb
    replace BK327 := bk_ BK327 hb
    replace BK328 := bk_ BK328 hb
    replace HB := hs_ hb
    (try clear hb)
    (try clear hb2)
    (try clear hk)
    (try clear hi)
    refine hK.out _ _ kc_ (fun hHeld => ?_)
    clear hK K
    refine norm_ (a' := ?_) ?_ ?_
    rotate_left
    ·show Act.put _ (some 44) _ = _
     simp only [Act.put, List.setIfInBounds_toArray, List.set_cons_zero, List.set_cons_succ, i64_w, i32_w]
     rfl
    refine pu 10 (some 45) (bm 14 2047) ?_
    refine pu 11 (some 46) (bm 14 4095) ?_
    refine pu 12 (some 12) (bm 14 8191) ?_
    refine pu 13 (some 13) (bm 14 16383) ?_
    refine done_ (done_of HT_.out (by kernel_rfl)) ?_
    try go_wp2
    go_ret2
    exact ⟨by first | rfl | (simp [errW_none, errW_some] <;> rfl) | (simp [*, errW_none, errW_some] <;> rfl), hb_⟩
   ·rw [if_neg c12] at H
    exact absurd H (by simp)
  ·rw [if_neg c9] at H
   have c9b0 : (a5_1 == a4_0) = false := beq_eq_false_iff_ne.mpr c9
   have c9b1 : (a5_1 != a4_0) = true := bne_iff_ne.mpr c9
   replace H := Option.bind_eq_some_iff.mp H
   obtain ⟨t346, A380, H⟩ := H
   replace H : ((some (([(⟨a5_0, a5_1, a5_2, a5_3, l5_4⟩ : S41)] : List (S41)) : List (S41))).bind fun y349 => (if t346.length + y349.length < 2513169434916 then ((promise_Earliest.f a0 t329 a2_0 a2_1 (t346 ++ y349) a4_0 a4_1 a4_2 a4_3 a4_4 a4_5).bind fun bt355 => (some (bt355.1, bt355.2))) else (none))) = some (r1, r2) := H
   have A38 := Aside0.mk A380
   clear A380
   obtain ⟨y349, hy349⟩ : ∃ y_ : List (S41), y_ = (([(⟨a5_0, a5_1, a5_2, a5_3, l5_4⟩ : S41)] : List (S41))) := ⟨_, rfl⟩
   replace H : (if t346.length + y349.length < 2513169434916 then ((promise_Earliest.f a0 t329 a2_0 a2_1 (t346 ++ y349) a4_0 a4_1 a4_2 a4_3 a4_4 a4_5).bind fun bt355 => (some (bt355.1, bt355.2))) else (none)) = some (r1, r2) := by first | (rw [hy349]; with_reducible exact H) | (have H2_ := (Option.bind_some _ _).symm.trans H; rw [hy349]; with_reducible exact H2_) | (have H2_ := (Option.bind_some _ _).symm.trans H; with_reducible exact H2_) | with_reducible exact H | (rw [hy349]; exact H) | exact H
   have Ny349 := Aside0.mk hy349
   clear hy349
   by_cases c39 : t346.length + y349.length < 2513169434916
   ·rw [if_pos c39] at H
    have LMc39 := Aside0.mk c39
    clear c39
    obtain ⟨y352, hy352⟩ : ∃ y_ : List (S41), y_ = (t346 ++ y349) := ⟨_, rfl⟩
    replace H : ((promise_Earliest.f a0 t329 a2_0 a2_1 y352 a4_0 a4_1 a4_2 a4_3 a4_4 a4_5).bind fun bt355 => (some (bt355.1, bt355.2))) = some (r1, r2) := by first | (rw [hy352]; with_reducible exact H) | (have H2_ := (Option.bind_some _ _).symm.trans H; rw [hy352]; with_reducible exact H2_) | (have H2_ := (Option.bind_some _ _).symm.trans H; with_reducible exact H2_) | with_reducible exact H | (rw [hy352]; exact H) | exact H
    have Ny352 := Aside0.mk hy352
    clear hy352
    replace H := Option.bind_eq_some_iff.mp H
    obtain ⟨⟨t355, t356⟩, A400, H⟩ := H
    replace H : (some (t355, t356)) = some (r1, r2) := H
    have A40 := Aside0.mk A400
    clear A400
    simp only [Option.some.injEq, Prod.mk.injEq] at H
    obtain ⟨rfl, rfl⟩ := H
    go_enter Try.func39, Try.ntmps39
    try go_wp2_with (first | ((with_reducible refine gate_dst (N := 8) rfl ?_); refine bx 8 #[.int .i64 a2_0, .int .i64 a2_1] 24 ?_; intro gb326 hg w41 hbox hb; have BK326 := Aside0.mk (hbox); have GW326 := ge_ hg; have GE326 := ge_ hg; replace HO5_4 := Aside0.mk (Kd.V_below (Kd.V_elderB Z2 gb326 (Nat.le_of_eq hg.symm)) hb); replace HB := hs_ hb; clear hb hbox hg) | ((with_reducible refine gate_dst (N := 10) rfl ?_); refine bx 10 #[.int .i64 a4_0, .int .i64 a4_1, .int .i64 a4_2, .int .i64 a4_3, .int .i64 a4_4, .int .i64 a4_5] 29 ?_; intro gb327 hg w42 hbox hb; have BK327 := Aside0.mk (hbox); have GW327 := ge_ hg; have GE327 := ge_ hg; have NB326_327 := nl_ BK326 hg; have NB327_326 := nr_ BK326 hg; replace HO5_4 := Aside0.mk (Kd.V_below (Kd.V_elderB Z2 gb327 (Nat.le_of_eq hg.symm)) hb); replace BK326 := bk_ BK326 hb; replace HB := hs_ hb; clear hb hbox hg) | ((with_reducible refine gate_dst (N := 11) rfl ?_); refine bx 11 #[.int .i64 a5_0, .int .i64 a5_1, .int .i64 a5_2, .bool a5_3, .slice A5_4 l5_4.length c5_4] 41 ?_; intro gb328 hg w43 hbox hb; have BK328 := Aside0.mk (hbox); have GW328 := ge_ hg; have GE328 := ge_ hg; have NB326_328 := nl_ BK326 hg; have NB328_326 := nr_ BK326 hg; have NB327_328 := nl_ BK327 hg; have NB328_327 := nr_ BK327 hg; replace HO5_4 := Aside0.mk (Kd.V_below (Kd.V_elderB Z2 gb328 (Nat.le_of_eq hg.symm)) hb); replace BK326 := bk_ BK326 hb; replace BK327 := bk_ BK327 hb; replace HB := hs_ hb; clear hb hbox hg; have hnb44 := NB328_326.out; have hnc44 := NB326_328.out; have hnb45 := NB328_327.out; have hnc45 := NB327_328.out; obtain ⟨hcz46_0, hcz46_1, hcz46_2, hcz46_3, hcz46_4, hfz46_0, hfz46_1, hfz46_2, hfz46_3, hfz46_4⟩ := bz5_ BK328) | ((with_reducible refine gate_callee (f := 51) rfl ?_); refine goesL_ (some 20) rfl rfl Try.func51 (by kernel_rfl) rfl #[.slice A1 l1.length c1, .slice A5_4 l5_4.length c5_4] rfl Z0 ?_; (with_reducible refine (pack_Less.calls _ _ l1 _ _ l5_4 t329 t330 _ ?side1 ?side2 ?side3 ?side4 A7.out).mono ?_); (case side1 => exact cs_ HR1); (case side2 => exact HC1.out); (case side3 => repeat (first | exact (Kd.V_reads' HO5_4.out).2.2 | (with_reducible refine Kd.C_alloc ?_ _) | (with_reducible refine Kd.C_drewN ?_ _) | (with_reducible refine Kd.C_drew ?_))); (case side4 => exact (Kd.V_reads' HO5_4.out).2.1); rintro e w47 ⟨v331, rfl, ho0, hb⟩; refine ⟨_, rfl, ?_⟩; have HO332 := Aside0.mk (Kd.R_lower (Kd.R_newM (M := fun k_ => (w.heap.size ≤ k_)) ho0 (below_size hb_) (fun k_ h_ => h_)) (below_size hb_)); replace HO5_4 := Aside0.mk (Kd.V_elder' Z2 (Kd.R_base ho0) hb); replace BK326 := bk_ BK326 hb; replace BK327 := bk_ BK327 hb; replace BK328 := bk_ BK328 hb; replace HB := hs_ hb; (try clear hb); (try clear hb2); (try clear hk); (try clear hi); (try clear ho0); obtain ⟨hcz48_0, hcz48_1, hcz48_2, hcz48_3, hcz48_4, hfz48_0, hfz48_1, hfz48_2, hfz48_3, hfz48_4⟩ := bz5_ BK328; have hnb49 := NB327_326.out; have hnc49 := NB326_327.out; obtain ⟨hcz50_0, hcz50_1, hcz50_2, hcz50_3, hcz50_4, hcz50_5, hfz50_0, hfz50_1, hfz50_2, hfz50_3, hfz50_4, hfz50_5⟩ := bz6_ BK327; obtain ⟨Ao51, co51, eo51⟩ := Kd.R_slice HO332.out; subst eo51))
    replace HO5_4 := Aside0.mk (Kd.V_drew HO5_4.out)
    replace HO332 := Aside0.mk (Kd.R_drew HO332.out)
    replace BK326 := Aside0.mk (blk_drew BK326.out)
    replace BK327 := Aside0.mk (blk_drew BK327.out)
    replace BK328 := Aside0.mk (blk_drew BK328.out)
    replace HB := Aside0.mk (below_drew1 HB.out)
    refine start_ (n := 14) (S := fun w' => w'.cell? ⟨gb326, 0, none⟩ = some (.int .i64 a2_0) ∧ w'.cell? ⟨gb326, 1, none⟩ = some (.int .i64 a2_1) ∧ w'.cell? ⟨gb328, 0, none⟩ = some (.int .i64 a5_0) ∧ w'.cell? ⟨gb328, 1, none⟩ = some (.int .i64 a5_1) ∧ w'.cell? ⟨gb328, 2, none⟩ = some (.int .i64 a5_2) ∧ w'.cell? ⟨gb328, 3, none⟩ = some (.bool a5_3) ∧ w'.cell? ⟨gb328, 4, none⟩ = some (.slice A5_4 l5_4.length c5_4) ∧ w'.cell? ⟨gb327, 0, none⟩ = some (.int .i64 a4_0) ∧ w'.cell? ⟨gb327, 1, none⟩ = some (.int .i64 a4_1) ∧ w'.cell? ⟨gb327, 2, none⟩ = some (.int .i64 a4_2) ∧ w'.cell? ⟨gb327, 3, none⟩ = some (.int .i64 a4_3) ∧ w'.cell? ⟨gb327, 4, none⟩ = some (.int .i64 a4_4) ∧ w'.cell? ⟨gb327, 5, none⟩ = some (.int .i64 a4_5)) (ds := []) (bm 14 0) (by kernel_rfl) rfl rfl ⟨(blk_cell BK326.out 0).trans rfl, (blk_cell BK326.out 1).trans rfl, (blk_cell BK328.out 0).trans rfl, (blk_cell BK328.out 1).trans rfl, (blk_cell BK328.out 2).trans rfl, (blk_cell BK328.out 3).trans rfl, (blk_cell BK328.out 4).trans rfl, (blk_cell BK327.out 0).trans rfl, (blk_cell BK327.out 1).trans rfl, (blk_cell BK327.out 2).trans rfl, (blk_cell BK327.out 3).trans rfl, (blk_cell BK327.out 4).trans rfl, (blk_cell BK327.out 5).trans rfl⟩ (fun hHeld => ?_); refine with_tabW fill_After.tab6 fill_After.bits6 (fun HT_ HW_ => ?_)
    generalize w47.drew = w52 at HO5_4 HO332 BK326 BK327 BK328 HB hHeld ⊢
    refine pu 0 (some 35) (bm 14 1) ?_
    refine pu 1 (some 36) (bm 14 3) ?_
    refine pu 3 (some 38) (bm 14 11) ?_
    refine tk13 2 (some 37) (bm 14 15) ?_
    refine tk13 5 (some 40) (bm 14 47) ?_
    refine tk13 8 (some 43) (bm 14 303) ?_
    refine join_ (σ := Value × Value) 6 (bm 14 383) (fun s_ => [(39, s_.1), (41, s_.2)]) (fun s_ w' => (w'.cell? ⟨gb326, 0, none⟩ = some (.int .i64 a2_0) ∧ w'.cell? ⟨gb326, 1, none⟩ = some (.int .i64 a2_1) ∧ w'.cell? ⟨gb328, 0, none⟩ = some (.int .i64 a5_0) ∧ w'.cell? ⟨gb328, 1, none⟩ = some (.int .i64 a5_1) ∧ w'.cell? ⟨gb328, 2, none⟩ = some (.int .i64 a5_2) ∧ w'.cell? ⟨gb328, 3, none⟩ = some (.bool a5_3) ∧ w'.cell? ⟨gb328, 4, none⟩ = some (.slice A5_4 l5_4.length c5_4) ∧ w'.cell? ⟨gb327, 0, none⟩ = some (.int .i64 a4_0) ∧ w'.cell? ⟨gb327, 1, none⟩ = some (.int .i64 a4_1) ∧ w'.cell? ⟨gb327, 2, none⟩ = some (.int .i64 a4_2) ∧ w'.cell? ⟨gb327, 3, none⟩ = some (.int .i64 a4_3) ∧ w'.cell? ⟨gb327, 4, none⟩ = some (.int .i64 a4_4) ∧ w'.cell? ⟨gb327, 5, none⟩ = some (.int .i64 a4_5)) ∧ (Kd.R k51 51 w' w.heap.size (fun k_ => (w.heap.size ≤ k_)) (.slice Ao51 t329.length co51) t329) ∧ (Kd.N k41 41 w' w.heap.size (fun k_ => (P5_4_ k_ ∨ w.heap.size ≤ k_) ∧ some k_ ≠ (.slice Ao51 t329.length co51 : Value).ownBlock ∧ some k_ ≠ (s_.2 : Value).ownBlock ∧ k_ ≠ gb326 ∧ k_ ≠ gb327 ∧ k_ ≠ gb328) s_.1 t346) ∧ (Kd.N k41 41 w' w.heap.size (fun k_ => (P5_4_ k_ ∨ w.heap.size ≤ k_) ∧ some k_ ≠ (.slice Ao51 t329.length co51 : Value).ownBlock ∧ some k_ ≠ (s_.1 : Value).ownBlock ∧ k_ ≠ gb326 ∧ k_ ≠ gb327 ∧ k_ ≠ gb328) s_.2 y349) ∧ (Kd.V k52 52 w' w.heap.size (fun k_ => (P5_4_ k_ ∨ w.heap.size ≤ k_) ∧ some k_ ≠ (.slice Ao51 t329.length co51 : Value).ownBlock ∧ some k_ ≠ (s_.1 : Value).ownBlock ∧ some k_ ≠ (s_.2 : Value).ownBlock ∧ k_ ≠ gb326 ∧ k_ ≠ gb327 ∧ k_ ≠ gb328) (.slice A5_4 l5_4.length c5_4) l5_4) ∧ (w'.heap[gb326]? = some (.cells #[.int .i64 a2_0, .int .i64 a2_1] 24 (0, 0))) ∧ (w'.heap[gb327]? = some (.cells #[.int .i64 a4_0, .int .i64 a4_1, .int .i64 a4_2, .int .i64 a4_3, .int .i64 a4_4, .int .i64 a4_5] 29 (0, 0))) ∧ (w'.heap[gb328]? = some (.cells #[.int .i64 a5_0, .int .i64 a5_1, .int .i64 a5_2, .bool a5_3, .slice A5_4 l5_4.length c5_4] 41 (0, 0))) ∧ (Below w.heap.size w w')) ?_ ?_
    rotate_left
    ·intro hCont
     refine two_ (i := 4) (j := 6) (Ni := some 39) (Nj := some 41) (bm 14 319) (bm 14 367) rfl rfl rfl rfl (two_of HT_.out (by kernel_rfl)) (by decide) (by decide) (fun K hK => ?_) (fun K hK => ?_)
     ·skip
      refine goes_ Try.func70 (by kernel_rfl) rfl #[.slice A3 l3.length c3] (by rfl) rfl rfl Z0 ?_
      with_reducible refine (api_Hold.callsF (fun k => k < w.heap.size) _ _ l3 t346 _ ?side1 ?side2 A38.out).mono ?_
      (case side1 => exact Foot.step (Kd.C_F k41_heap HR3.out) (fun k hk _ => (show Below w.heap.size w _ from hb_).block k hk))
      (case side2 => exact fun k hk => Nat.lt_of_lt_of_le hk (below_size hb_))
      rintro e w53 ⟨v347, rfl, ho0, hb⟩
      refine ⟨_, rfl, ?_⟩
      have HO348 := Aside0.mk (Kd.N_lower (Kd.N_mono (ok' := fun k_ => (P5_4_ k_ ∨ w.heap.size ≤ k_) ∧ some k_ ≠ (.slice Ao51 t329.length co51 : Value).ownBlock ∧ k_ ≠ gb326 ∧ k_ ≠ gb327 ∧ k_ ≠ gb328) ho0 (fun k_ hk_ => hk_.elim (fun h_ => ⟨.inl (HP5.out k_), (fun e_ => by have := Kd.R_base HO332.out k_ e_.symm; omega), (by have := GE326.out; omega), (by have := GE327.out; omega), (by have := GE328.out; omega)⟩) (fun h_ => ⟨(.inr (Nat.le_trans (below_size hb_) h_)), (Kd.fresh' (Kd.R_lt Z1) k_ h_), (Kd.freshB (g := gb326) (o := .cells #[.int .i64 a2_0, .int .i64 a2_1] 24 (0, 0)) (bo_ BK326) k_ h_), (Kd.freshB (g := gb327) (o := .cells #[.int .i64 a4_0, .int .i64 a4_1, .int .i64 a4_2, .int .i64 a4_3, .int .i64 a4_4, .int .i64 a4_5] 29 (0, 0)) (bo_ BK327) k_ h_), (Kd.freshB (g := gb328) (o := .cells #[.int .i64 a5_0, .int .i64 a5_1, .int .i64 a5_2, .bool a5_3, .slice A5_4 l5_4.length c5_4] 41 (0, 0)) (bo_ BK328) k_ h_)⟩))) (below_size hb_))
      replace HO5_4 := Aside0.mk (Kd.V_elder' Z2 (Kd.N_base ho0) hb)
      replace HO332 := Aside0.mk (Kd.R_below Z1 hb)
      replace BK326 := bk_ BK326 hb
      replace BK327 := bk_ BK327 hb
      replace BK328 := bk_ BK328 hb
      replace HB := hs_ hb
      (try clear hb)
      (try clear hb2)
      (try clear hk)
      (try clear hi)
      (try clear ho0)
      refine hK.out _ _ kc_ (fun hHeld => ?_)
      clear hK K
      refine norm_ (a' := ?_) ?_ ?_
      rotate_left
      ·show Act.put _ (some 39) _ = _
       simp only [Act.put, List.setIfInBounds_toArray, List.set_cons_zero, List.set_cons_succ, i64_w, i32_w]
       rfl
      refine one_ (i := 6) (N := some 41) (bm 14 383) rfl rfl (one_of HT_.out (by kernel_rfl)) (by decide) (fun K hK => ?_)
      refine Kd.N_lit_step k41 _ 41 ?hg (N' := 41) ?hd (xs := ([(⟨a5_0, a5_1, a5_2, a5_3, l5_4⟩ : S41)] : List (S41))) (inner := [.int .i64 a5_0, .int .i64 a5_1, .int .i64 a5_2, .bool a5_3, .slice A5_4 l5_4.length c5_4]) (ok := (fun k_ => (P5_4_ k_ ∨ w.heap.size ≤ k_) ∧ some k_ ≠ (.slice Ao51 t329.length co51 : Value).ownBlock ∧ some k_ ≠ (v347 : Value).ownBlock ∧ k_ ≠ gb326 ∧ k_ ≠ gb327 ∧ k_ ≠ gb328)) (okp := (fun k_ => (P5_4_ k_ ∨ w.heap.size ≤ k_) ∧ some k_ ≠ (.slice Ao51 t329.length co51 : Value).ownBlock ∧ some k_ ≠ (v347 : Value).ownBlock ∧ k_ ≠ gb326 ∧ k_ ≠ gb327 ∧ k_ ≠ gb328)) ?hr ?hp (fun _ hk => hk) ((show ∀ k_, w53.heap.size ≤ k_ → (fun k_ => (P5_4_ k_ ∨ w.heap.size ≤ k_) ∧ some k_ ≠ (.slice Ao51 t329.length co51 : Value).ownBlock ∧ some k_ ≠ (v347 : Value).ownBlock ∧ k_ ≠ gb326 ∧ k_ ≠ gb327 ∧ k_ ≠ gb328) k_ from fun k_ hk => ⟨(.inr (Nat.le_trans (below_size hb_) hk)), Kd.fresh' (Kd.R_lt Z1) k_ hk, Kd.fresh' (Kd.N_lt Z13) k_ hk, Kd.freshB (g := gb326) (o := .cells #[.int .i64 a2_0, .int .i64 a2_1] 24 (0, 0)) (bo_ BK326) k_ hk, Kd.freshB (g := gb327) (o := .cells #[.int .i64 a4_0, .int .i64 a4_1, .int .i64 a4_2, .int .i64 a4_3, .int .i64 a4_4, .int .i64 a4_5] 29 (0, 0)) (bo_ BK327) k_ hk, Kd.freshB (g := gb328) (o := .cells #[.int .i64 a5_0, .int .i64 a5_1, .int .i64 a5_2, .bool a5_3, .slice A5_4 l5_4.length c5_4] 41 (0, 0)) (bo_ BK328) k_ hk⟩) _ (Nat.le_refl _)) (Below.refl _ _) (Nat.le_refl _) (by simp) ?_; (case hd => rfl); (case hg => rfl); (case hr => first | (go_simp; done) | (go_simp; rfl)); (case hp => exact (Reps.c5 (show Kd.FK k41 _ _ (⟨a5_0, a5_1, a5_2, a5_3, l5_4⟩ : S41) [.int .i64 a5_0, .int .i64 a5_1, .int .i64 a5_2, .bool a5_3, .slice A5_4 l5_4.length c5_4] from (k41_mkF _ _ (⟨a5_0, a5_1, a5_2, a5_3, l5_4⟩ : S41) (Kd.V_reads' (Kd.V_mono (ok' := (fun k_ => (P5_4_ k_ ∨ w.heap.size ≤ k_) ∧ some k_ ≠ (.slice Ao51 t329.length co51 : Value).ownBlock ∧ some k_ ≠ (v347 : Value).ownBlock ∧ k_ ≠ gb326 ∧ k_ ≠ gb327 ∧ k_ ≠ gb328)) (HO5_4.out) (fun k_ hk => ⟨hk.1.1.1.1.1, ⟨hk.1.2, ⟨hk.2, ⟨hk.1.1.1.1.2, ⟨hk.1.1.1.2, hk.1.1.2⟩⟩⟩⟩⟩))).2.1 (Kd.V_F (Kd.V_mono (ok' := (fun k_ => (P5_4_ k_ ∨ w.heap.size ≤ k_) ∧ some k_ ≠ (.slice Ao51 t329.length co51 : Value).ownBlock ∧ some k_ ≠ (v347 : Value).ownBlock ∧ k_ ≠ gb326 ∧ k_ ≠ gb327 ∧ k_ ≠ gb328)) (HO5_4.out) (fun k_ hk => ⟨hk.1.1.1.1.1, ⟨hk.1.2, ⟨hk.2, ⟨hk.1.1.1.1.2, ⟨hk.1.1.1.2, hk.1.1.2⟩⟩⟩⟩⟩))))) (Reps.none _ _)))
      intro v350 w54 ho55 hb hg_ hnew_
      clear hg_ hnew_
      (first | rw [← Ny349.out] at ho55 | (simp only [Int.reduceToNat] at ho55; rw [← Ny349.out] at ho55))
      have HO351 := Aside0.mk (Kd.N_lower ho55 (below_size hb_))
      replace HO5_4 := Aside0.mk (Kd.V_elder' Z2 (Kd.N_base ho55) hb)
      replace HO332 := Aside0.mk (Kd.R_below Z1 hb)
      replace HO348 := Aside0.mk (Kd.N_elder' Z13 (Kd.N_base ho55) hb)
      replace BK326 := bk_ BK326 hb
      replace BK327 := bk_ BK327 hb
      replace BK328 := bk_ BK328 hb
      replace HB := hs_ hb
      clear hb ho55
      refine hK.out _ _ kc_ (fun hHeld => ?_)
      clear hK K
      refine norm_ (a' := ?_) ?_ ?_
      rotate_left
      ·show Act.put _ (some 41) _ = _
       simp only [Act.put, List.setIfInBounds_toArray, List.set_cons_zero, List.set_cons_succ, i64_w, i32_w]
       rfl
      exact norm_ Z15 (hCont (v347, v350) _ ⟨hHeld, (by (with_reducible repeat (first | apply Kd.R_alloc | apply Kd.R_drewN | apply Kd.R_drew)); exact Kd.R_mono HO332.out (fun _ hk => hk.1)), (by (with_reducible repeat (first | apply Kd.N_alloc | apply Kd.N_drewN | apply Kd.N_drew)); exact Kd.N_mono HO348.out (fun _ hk => ⟨hk.1.1, ⟨hk.1.2.1, ⟨hk.2, ⟨hk.1.2.2.1, ⟨hk.1.2.2.2.1, hk.1.2.2.2.2⟩⟩⟩⟩⟩)), Z12, (by (with_reducible repeat (first | apply Kd.V_alloc | apply Kd.V_drewN | apply Kd.V_drew)); exact Kd.V_mono HO5_4.out (fun _ hk => ⟨hk.1.1.1.1.1.1, ⟨hk.1.1.2, ⟨hk.1.2, ⟨hk.2, ⟨hk.1.1.1.1.1.2, ⟨hk.1.1.1.1.2, hk.1.1.1.2⟩⟩⟩⟩⟩⟩)), (bo_ BK326), (bo_ BK327), (bo_ BK328), hb_⟩)
     ·skip
      refine Kd.N_lit_step k41 _ 41 ?hg (N' := 41) ?hd (xs := ([(⟨a5_0, a5_1, a5_2, a5_3, l5_4⟩ : S41)] : List (S41))) (inner := [.int .i64 a5_0, .int .i64 a5_1, .int .i64 a5_2, .bool a5_3, .slice A5_4 l5_4.length c5_4]) (ok := (fun k_ => (P5_4_ k_ ∨ w.heap.size ≤ k_) ∧ some k_ ≠ (.slice Ao51 t329.length co51 : Value).ownBlock ∧ k_ ≠ gb326 ∧ k_ ≠ gb327 ∧ k_ ≠ gb328)) (okp := (fun k_ => (P5_4_ k_ ∨ w.heap.size ≤ k_) ∧ some k_ ≠ (.slice Ao51 t329.length co51 : Value).ownBlock ∧ k_ ≠ gb326 ∧ k_ ≠ gb327 ∧ k_ ≠ gb328)) ?hr ?hp (fun _ hk => hk) ((show ∀ k_, w52.heap.size ≤ k_ → (fun k_ => (P5_4_ k_ ∨ w.heap.size ≤ k_) ∧ some k_ ≠ (.slice Ao51 t329.length co51 : Value).ownBlock ∧ k_ ≠ gb326 ∧ k_ ≠ gb327 ∧ k_ ≠ gb328) k_ from fun k_ hk => ⟨(.inr (Nat.le_trans (below_size hb_) hk)), Kd.fresh' (Kd.R_lt Z1) k_ hk, Kd.freshB (g := gb326) (o := .cells #[.int .i64 a2_0, .int .i64 a2_1] 24 (0, 0)) (bo_ BK326) k_ hk, Kd.freshB (g := gb327) (o := .cells #[.int .i64 a4_0, .int .i64 a4_1, .int .i64 a4_2, .int .i64 a4_3, .int .i64 a4_4, .int .i64 a4_5] 29 (0, 0)) (bo_ BK327) k_ hk, Kd.freshB (g := gb328) (o := .cells #[.int .i64 a5_0, .int .i64 a5_1, .int .i64 a5_2, .bool a5_3, .slice A5_4 l5_4.length c5_4] 41 (0, 0)) (bo_ BK328) k_ hk⟩) _ (Nat.le_refl _)) (Below.refl _ _) (Nat.le_refl _) (by simp) ?_; (case hd => rfl); (case hg => rfl); (case hr => first | (go_simp; done) | (go_simp; rfl)); (case hp => exact (Reps.c5 (show Kd.FK k41 _ _ (⟨a5_0, a5_1, a5_2, a5_3, l5_4⟩ : S41) [.int .i64 a5_0, .int .i64 a5_1, .int .i64 a5_2, .bool a5_3, .slice A5_4 l5_4.length c5_4] from (k41_mkF _ _ (⟨a5_0, a5_1, a5_2, a5_3, l5_4⟩ : S41) (Kd.V_reads' (Kd.V_mono (ok' := (fun k_ => (P5_4_ k_ ∨ w.heap.size ≤ k_) ∧ some k_ ≠ (.slice Ao51 t329.length co51 : Value).ownBlock ∧ k_ ≠ gb326 ∧ k_ ≠ gb327 ∧ k_ ≠ gb328)) (HO5_4.out) (fun k_ hk => ⟨hk.1.1.1.1, ⟨hk.2, ⟨hk.1.1.1.2, ⟨hk.1.1.2, hk.1.2⟩⟩⟩⟩))).2.1 (Kd.V_F (Kd.V_mono (ok' := (fun k_ => (P5_4_ k_ ∨ w.heap.size ≤ k_) ∧ some k_ ≠ (.slice Ao51 t329.length co51 : Value).ownBlock ∧ k_ ≠ gb326 ∧ k_ ≠ gb327 ∧ k_ ≠ gb328)) (HO5_4.out) (fun k_ hk => ⟨hk.1.1.1.1, ⟨hk.2, ⟨hk.1.1.1.2, ⟨hk.1.1.2, hk.1.2⟩⟩⟩⟩))))) (Reps.none _ _)))
      intro v350 w53 ho54 hb hg_ hnew_
      clear hg_ hnew_
      (first | rw [← Ny349.out] at ho54 | (simp only [Int.reduceToNat] at ho54; rw [← Ny349.out] at ho54))
      have HO351 := Aside0.mk (Kd.N_lower ho54 (below_size hb_))
      replace HO5_4 := Aside0.mk (Kd.V_elder' Z2 (Kd.N_base ho54) hb)
      replace HO332 := Aside0.mk (Kd.R_below Z1 hb)
      replace BK326 := bk_ BK326 hb
      replace BK327 := bk_ BK327 hb
      replace BK328 := bk_ BK328 hb
      replace HB := hs_ hb
      clear hb ho54
      refine hK.out _ _ kc_ (fun hHeld => ?_)
      clear hK K
      refine norm_ (a' := ?_) ?_ ?_
      rotate_left
      ·show Act.put _ (some 41) _ = _
       simp only [Act.put, List.setIfInBounds_toArray, List.set_cons_zero, List.set_cons_succ, i64_w, i32_w]
       rfl
      refine one_ (i := 4) (N := some 39) (bm 14 383) rfl rfl (one_of HT_.out (by kernel_rfl)) (by decide) (fun K hK => ?_)
      refine goes_ Try.func70 (by kernel_rfl) rfl #[.slice A3 l3.length c3] (by rfl) rfl rfl Z0 ?_
      with_reducible refine (api_Hold.callsF (fun k => k < w.heap.size) _ _ l3 t346 _ ?side1 ?side2 A38.out).mono ?_
      (case side1 => exact Foot.step (Kd.C_F k41_heap HR3.out) (fun k hk _ => (show Below w.heap.size w _ from hb_).block k hk))
      (case side2 => exact fun k hk => Nat.lt_of_lt_of_le hk (below_size hb_))
      rintro e w55 ⟨v347, rfl, ho0, hb⟩
      refine ⟨_, rfl, ?_⟩
      have HO348 := Aside0.mk (Kd.N_lower (Kd.N_mono (ok' := fun k_ => (P5_4_ k_ ∨ w.heap.size ≤ k_) ∧ some k_ ≠ (.slice Ao51 t329.length co51 : Value).ownBlock ∧ some k_ ≠ (v350 : Value).ownBlock ∧ k_ ≠ gb326 ∧ k_ ≠ gb327 ∧ k_ ≠ gb328) ho0 (fun k_ hk_ => hk_.elim (fun h_ => ⟨.inl (HP5.out k_), (fun e_ => by have := Kd.R_base HO332.out k_ e_.symm; omega), (fun e_ => by have := Kd.N_base HO351.out k_ e_.symm; omega), (by have := GE326.out; omega), (by have := GE327.out; omega), (by have := GE328.out; omega)⟩) (fun h_ => ⟨(.inr (Nat.le_trans (below_size hb_) h_)), (Kd.fresh' (Kd.R_lt Z1) k_ h_), (Kd.fresh' (Kd.N_lt Z12) k_ h_), (Kd.freshB (g := gb326) (o := .cells #[.int .i64 a2_0, .int .i64 a2_1] 24 (0, 0)) (bo_ BK326) k_ h_), (Kd.freshB (g := gb327) (o := .cells #[.int .i64 a4_0, .int .i64 a4_1, .int .i64 a4_2, .int .i64 a4_3, .int .i64 a4_4, .int .i64 a4_5] 29 (0, 0)) (bo_ BK327) k_ h_), (Kd.freshB (g := gb328) (o := .cells #[.int .i64 a5_0, .int .i64 a5_1, .int .i64 a5_2, .bool a5_3, .slice A5_4 l5_4.length c5_4] 41 (0, 0)) (bo_ BK328) k_ h_)⟩))) (below_size hb_))
      replace HO5_4 := Aside0.mk (Kd.V_elder' Z2 (Kd.N_base ho0) hb)
      replace HO332 := Aside0.mk (Kd.R_below Z1 hb)
      replace HO351 := Aside0.mk (Kd.N_elder' Z12 (Kd.N_base ho0) hb)
      replace BK326 := bk_ BK326 hb
      replace BK327 := bk_ BK327 hb
      replace BK328 := bk_ BK328 hb
      replace HB := hs_ hb
      (try clear hb)
      (try clear hb2)
      (try clear hk)
      (try clear hi)
      (try clear ho0)
      refine hK.out _ _ kc_ (fun hHeld => ?_)
      clear hK K
      refine norm_ (a' := ?_) ?_ ?_
      rotate_left
      ·show Act.put _ (some 39) _ = _
       simp only [Act.put, List.setIfInBounds_toArray, List.set_cons_zero, List.set_cons_succ, i64_w, i32_w]
       rfl
      exact norm_ Z15 (hCont (v347, v350) _ ⟨hHeld, (by (with_reducible repeat (first | apply Kd.R_alloc | apply Kd.R_drewN | apply Kd.R_drew)); exact Kd.R_mono HO332.out (fun _ hk => hk.1)), Z13, (by (with_reducible repeat (first | apply Kd.N_alloc | apply Kd.N_drewN | apply Kd.N_drew)); exact Kd.N_mono HO351.out (fun _ hk => ⟨hk.1.1, ⟨hk.1.2.1, ⟨hk.2, ⟨hk.1.2.2.1, ⟨hk.1.2.2.2.1, hk.1.2.2.2.2⟩⟩⟩⟩⟩)), (by (with_reducible repeat (first | apply Kd.V_alloc | apply Kd.V_drewN | apply Kd.V_drew)); exact Kd.V_mono HO5_4.out (fun _ hk => ⟨hk.1.1.1.1.1.1, ⟨hk.1.1.2, ⟨hk.2, ⟨hk.1.2, ⟨hk.1.1.1.1.1.2, ⟨hk.1.1.1.1.2, hk.1.1.1.2⟩⟩⟩⟩⟩⟩)), (bo_ BK326), (bo_ BK327), (bo_ BK328), hb_⟩)
    rintro ⟨v347, v350⟩ w56 ⟨hS_, h0_, h1_, h2_, h3_, h4_, h5_, h6_, h7_⟩
    have n0_ : Aside0 (Kd.R k51 51 w56 w.heap.size (fun k_ => (w.heap.size ≤ k_)) (.slice Ao51 t329.length co51) t329) := ⟨h0_⟩
    have n1_ : Aside0 (Kd.N k41 41 w56 w.heap.size (fun k_ => (P5_4_ k_ ∨ w.heap.size ≤ k_) ∧ some k_ ≠ (.slice Ao51 t329.length co51 : Value).ownBlock ∧ some k_ ≠ (v350 : Value).ownBlock ∧ k_ ≠ gb326 ∧ k_ ≠ gb327 ∧ k_ ≠ gb328) v347 t346) := ⟨h1_⟩
    have n2_ : Aside0 (Kd.N k41 41 w56 w.heap.size (fun k_ => (P5_4_ k_ ∨ w.heap.size ≤ k_) ∧ some k_ ≠ (.slice Ao51 t329.length co51 : Value).ownBlock ∧ some k_ ≠ (v347 : Value).ownBlock ∧ k_ ≠ gb326 ∧ k_ ≠ gb327 ∧ k_ ≠ gb328) v350 y349) := ⟨h2_⟩
    have n3_ : Aside0 (Kd.V k52 52 w56 w.heap.size (fun k_ => (P5_4_ k_ ∨ w.heap.size ≤ k_) ∧ some k_ ≠ (.slice Ao51 t329.length co51 : Value).ownBlock ∧ some k_ ≠ (v347 : Value).ownBlock ∧ some k_ ≠ (v350 : Value).ownBlock ∧ k_ ≠ gb326 ∧ k_ ≠ gb327 ∧ k_ ≠ gb328) (.slice A5_4 l5_4.length c5_4) l5_4) := ⟨h3_⟩
    have n4_ : Aside0 (w56.heap[gb326]? = some (.cells #[.int .i64 a2_0, .int .i64 a2_1] 24 (0, 0))) := ⟨h4_⟩
    have n5_ : Aside0 (w56.heap[gb327]? = some (.cells #[.int .i64 a4_0, .int .i64 a4_1, .int .i64 a4_2, .int .i64 a4_3, .int .i64 a4_4, .int .i64 a4_5] 29 (0, 0))) := ⟨h5_⟩
    have n6_ : Aside0 (w56.heap[gb328]? = some (.cells #[.int .i64 a5_0, .int .i64 a5_1, .int .i64 a5_2, .bool a5_3, .slice A5_4 l5_4.length c5_4] 41 (0, 0))) := ⟨h6_⟩
    have n7_ : Aside0 (Below w.heap.size w w56) := ⟨h7_⟩
    clear HO5_4
    clear HO332
    clear BK326
    clear BK327
    clear BK328
    clear HB
    clear h0_ h1_ h2_ h3_ h4_ h5_ h6_ h7_
    have HO332 := n0_
    have HO348 := n1_
    have HO351 := n2_
    have HO5_4 := n3_
    have BK326 := n4_
    have BK327 := n5_
    have BK328 := n6_
    have HB := n7_
    clear n0_ n1_ n2_ n3_ n4_ n5_ n6_ n7_
    have hHeld : w56.cell? ⟨gb326, 0, none⟩ = some (.int .i64 a2_0) ∧ w56.cell? ⟨gb326, 1, none⟩ = some (.int .i64 a2_1) ∧ w56.cell? ⟨gb328, 0, none⟩ = some (.int .i64 a5_0) ∧ w56.cell? ⟨gb328, 1, none⟩ = some (.int .i64 a5_1) ∧ w56.cell? ⟨gb328, 2, none⟩ = some (.int .i64 a5_2) ∧ w56.cell? ⟨gb328, 3, none⟩ = some (.bool a5_3) ∧ w56.cell? ⟨gb328, 4, none⟩ = some (.slice A5_4 l5_4.length c5_4) ∧ w56.cell? ⟨gb327, 0, none⟩ = some (.int .i64 a4_0) ∧ w56.cell? ⟨gb327, 1, none⟩ = some (.int .i64 a4_1) ∧ w56.cell? ⟨gb327, 2, none⟩ = some (.int .i64 a4_2) ∧ w56.cell? ⟨gb327, 3, none⟩ = some (.int .i64 a4_3) ∧ w56.cell? ⟨gb327, 4, none⟩ = some (.int .i64 a4_4) ∧ w56.cell? ⟨gb327, 5, none⟩ = some (.int .i64 a4_5) := hS_
    obtain ⟨Ao58, co58, eo58⟩ := Kd.N_slice HO351.out
    (first | subst eo58 | (injection eo58 with f1_ f2_ f3_; have f4_ := f1_.symm; have f5_ := f3_.symm; clear f1_ f2_ f3_; subst f4_; subst f5_))
    refine norm_ (a' := ?_) ?_ ?_
    rotate_left
    ·simp only [putAll, Act.put, List.setIfInBounds_toArray, List.set_cons_zero, List.set_cons_succ]
     rfl
    refine one_ (i := 7) (N := some 42) (bm 14 511) rfl rfl (one_of HT_.out (by kernel_rfl)) (by decide) (fun K hK => ?_)
    refine Kd.N_append_rows_step k41 (w0 := w) w.heap.size (by rfl) (.tmp 39) (.tmp 41) 25 41 (.agg #[(.int .i64 0), (.int .i64 0), (.int .i64 0), (.bool false), (.slice none 0 0)]) 56 rfl Try.underlying25 info41 rfl (by decide) (by omega) v347 t346 y349 _ _ _ (fun k_ => (P5_4_ k_ ∨ w.heap.size ≤ k_) ∧ some k_ ≠ (.slice Ao51 t329.length co51 : Value).ownBlock ∧ k_ ≠ gb326 ∧ k_ ≠ gb327 ∧ k_ ≠ gb328) (fun k_ => ((fun k_ => (P5_4_ k_ ∨ w.heap.size ≤ k_) ∧ some k_ ≠ (.slice Ao51 t329.length co51 : Value).ownBlock ∧ k_ ≠ gb326 ∧ k_ ≠ gb327 ∧ k_ ≠ gb328)) k_ ∧ some k_ ≠ (v347 : Value).ownBlock) rfl rfl ?aO ?aR (fun _ hk => hk) ?aF ?aB ?aS ?aL ?_
    (case aR => exact (by skip; exact Kd.N_F (Kd.N_mono (ok' := (fun k_ => ((fun k_ => (P5_4_ k_ ∨ w.heap.size ≤ k_) ∧ some k_ ≠ (.slice Ao51 t329.length co51 : Value).ownBlock ∧ k_ ≠ gb326 ∧ k_ ≠ gb327 ∧ k_ ≠ gb328)) k_ ∧ some k_ ≠ (v347 : Value).ownBlock)) (HO351.out) (fun k_ hk => ⟨⟨hk.1, ⟨hk.2.1, ⟨hk.2.2.2.1, ⟨hk.2.2.2.2.1, hk.2.2.2.2.2⟩⟩⟩⟩, hk.2.2.1⟩))))
    (case aB => exact hb_)
    (case aF => exact (fun k_ hk => ⟨(.inr (Nat.le_trans (below_size hb_) hk)), Kd.fresh' (Kd.R_lt Z1) k_ hk, Kd.freshB (g := gb326) (o := .cells #[.int .i64 a2_0, .int .i64 a2_1] 24 (0, 0)) (bo_ BK326) k_ hk, Kd.freshB (g := gb327) (o := .cells #[.int .i64 a4_0, .int .i64 a4_1, .int .i64 a4_2, .int .i64 a4_3, .int .i64 a4_4, .int .i64 a4_5] 29 (0, 0)) (bo_ BK327) k_ hk, Kd.freshB (g := gb328) (o := .cells #[.int .i64 a5_0, .int .i64 a5_1, .int .i64 a5_2, .bool a5_3, .slice A5_4 l5_4.length c5_4] 41 (0, 0)) (bo_ BK328) k_ hk⟩))
    (case aO => exact (by (with_reducible repeat (first | apply Kd.N_alloc | apply Kd.N_drewN | apply Kd.N_drew)); exact Kd.N_mono HO348.out (fun _ hk => ⟨hk.1, ⟨hk.2.1, ⟨hk.2.2.2.1, ⟨hk.2.2.2.2.1, hk.2.2.2.2.2⟩⟩⟩⟩)))
    (case aS => exact (below_size hb_))
    (case aL => have := LMc39.out; omega)
    intro v353 w57 ho hb hg hat
    rw [← Ny352.out] at ho
    have HO354 := Aside0.mk (ho)
    replace HO5_4 := Aside0.mk (Kd.V_afterv (ok := (fun k_ => (P5_4_ k_ ∨ w.heap.size ≤ k_) ∧ some k_ ≠ (.slice Ao51 t329.length co51 : Value).ownBlock ∧ some k_ ≠ (.slice Ao58 y349.length co58 : Value).ownBlock ∧ k_ ≠ gb326 ∧ k_ ≠ gb327 ∧ k_ ≠ gb328)) (by (with_reducible repeat (first | apply Kd.V_alloc | apply Kd.V_drewN | apply Kd.V_drew)); exact Kd.V_mono HO5_4.out (fun _ hk => ⟨⟨hk.1, ⟨hk.2.1, ⟨hk.2.2.2.1, ⟨hk.2.2.2.2.1, ⟨hk.2.2.2.2.2.1, hk.2.2.2.2.2.2⟩⟩⟩⟩⟩, hk.2.2.1⟩)) hg hat)
    replace BK326 := Aside0.mk (blk_grown (g := gb326) (o := .cells #[.int .i64 a2_0, .int .i64 a2_1] 24 (0, 0)) (bo_ BK326) hg (Kd.N_ne HO348.out BK326.out (by decide)))
    replace BK327 := Aside0.mk (blk_grown (g := gb327) (o := .cells #[.int .i64 a4_0, .int .i64 a4_1, .int .i64 a4_2, .int .i64 a4_3, .int .i64 a4_4, .int .i64 a4_5] 29 (0, 0)) (bo_ BK327) hg (Kd.N_ne HO348.out BK327.out (by decide)))
    replace BK328 := Aside0.mk (blk_grown (g := gb328) (o := .cells #[.int .i64 a5_0, .int .i64 a5_1, .int .i64 a5_2, .bool a5_3, .slice A5_4 l5_4.length c5_4] 41 (0, 0)) (bo_ BK328) hg (Kd.N_away HO348.out (fun _ hk => hk.2.2.2.2.2)))
    replace HO332 := Aside0.mk (Kd.R_over' Z1 (Kd.N_typed Z13) (by decide) hg)
    replace HO351 := Aside0.mk (Kd.N_afterv (ok := (fun k_ => (P5_4_ k_ ∨ w.heap.size ≤ k_) ∧ some k_ ≠ (.slice Ao51 t329.length co51 : Value).ownBlock ∧ k_ ≠ gb326 ∧ k_ ≠ gb327 ∧ k_ ≠ gb328)) (by (with_reducible repeat (first | apply Kd.N_alloc | apply Kd.N_drewN | apply Kd.N_drew)); exact Kd.N_mono HO351.out (fun _ hk => ⟨⟨hk.1, ⟨hk.2.1, ⟨hk.2.2.2.1, ⟨hk.2.2.2.2.1, hk.2.2.2.2.2⟩⟩⟩⟩, hk.2.2.1⟩)) hg hat)
    replace HB := Aside0.mk (hb)
    clear HO348
    clear ho hb hg hat
    obtain ⟨Ao59, co59, eo59⟩ := Kd.N_slice HO354.out
    (first | subst eo59 | (injection eo59 with f1_ f2_ f3_; have f4_ := f1_.symm; have f5_ := f3_.symm; clear f1_ f2_ f3_; subst f4_; subst f5_))
    refine hK.out _ _ kc_ (fun hHeld => ?_)
    clear hK K
    refine norm_ (a' := ?_) ?_ ?_
    rotate_left
    ·show Act.put _ (some 42) _ = _
     simp only [Act.put, List.setIfInBounds_toArray, List.set_cons_zero, List.set_cons_succ, i64_w, i32_w]
     rfl
    refine one_ (i := 9) (N := some 44) (bm 14 1023) rfl rfl (one_of HT_.out (by kernel_rfl)) (by decide) (fun K hK => ?_)
    refine goes_ Try.func27 (by kernel_rfl) rfl #[.int .i64 a0, .slice Ao51 t329.length co51, .agg #[.int .i64 a2_0, .int .i64 a2_1], .slice Ao59 y352.length co59, .agg #[.int .i64 a4_0, .int .i64 a4_1, .int .i64 a4_2, .int .i64 a4_3, .int .i64 a4_4, .int .i64 a4_5]] (by rfl) rfl rfl Z0 ?_
    with_reducible refine (promise_Earliest.calls a0 _ _ t329 a2_0 a2_1 _ _ y352 a4_0 a4_1 a4_2 a4_3 a4_4 a4_5 t355 t356 _ ?side1 ?side2 ?side3 ?side4 A40.out).mono ?_
    (case side1 => repeat (first | exact (Kd.R_reads' HO332.out).2.2 | (with_reducible refine Kd.C_alloc ?_ _) | (with_reducible refine Kd.C_drewN ?_ _) | (with_reducible refine Kd.C_drew ?_)))
    (case side2 => exact (Kd.R_reads' HO332.out).2.1)
    (case side3 => repeat (first | exact (Kd.N_reads' HO354.out).2.2 | (with_reducible refine Kd.C_alloc ?_ _) | (with_reducible refine Kd.C_drewN ?_ _) | (with_reducible refine Kd.C_drew ?_)))
    (case side4 => exact (Kd.N_reads' HO354.out).2.1)
    rintro e w60 ⟨rfl, hb⟩
    refine ⟨_, rfl, ?_⟩
    replace HO5_4 := Aside0.mk (Kd.V_below Z2 hb)
    replace HO332 := Aside0.mk (Kd.R_below Z1 hb)
    replace HO351 := Aside0.mk (Kd.N_below Z12 hb)
    replace HO354 := Aside0.mk (Kd.N_below (by (with_reducible repeat (first | apply Kd.N_alloc | apply Kd.N_drewN | apply Kd.N_drew)); exact HO354.out) hb)
    replace BK326 := bk_ BK326 hb
    replace BK327 := bk_ BK327 hb
    replace BK328 := bk_ BK328 hb
    replace HB := hs_ hb
    (try clear hb)
    (try clear hb2)
    (try clear hk)
    (try clear hi)
    refine hK.out _ _ kc_ (fun hHeld => ?_)
    clear hK K
    refine norm_ (a' := ?_) ?_ ?_
    rotate_left
    ·show Act.put _ (some 44) _ = _
     simp only [Act.put, List.setIfInBounds_toArray, List.set_cons_zero, List.set_cons_succ, i64_w, i32_w]
     rfl
    refine pu 10 (some 45) (bm 14 2047) ?_
    refine pu 11 (some 46) (bm 14 4095) ?_
    refine pu 12 (some 12) (bm 14 8191) ?_
    refine pu 13 (some 13) (bm 14 16383) ?_
    refine done_ (done_of HT_.out (by kernel_rfl)) ?_
    try go_wp2
    go_ret2
    exact ⟨by first | rfl | (simp [errW_none, errW_some] <;> rfl) | (simp [*, errW_none, errW_some] <;> rfl), hb_⟩
   ·rw [if_neg c39] at H
    exact absurd H (by simp)
 ·rw [if_neg c8] at H
  have c8b0 : (t330 == 0) = false := beq_eq_false_iff_ne.mpr c8
  have c8b1 : (t330 != 0) = true := bne_iff_ne.mpr c8
  simp only [Option.some.injEq, Prod.mk.injEq] at H
  obtain ⟨rfl, rfl⟩ := H
  go_enter Try.func39, Try.ntmps39
  go_wp2_with (first | ((with_reducible refine gate_dst (N := 8) rfl ?_); refine bx 8 #[.int .i64 a2_0, .int .i64 a2_1] 24 ?_; intro gb326 hg w61 hbox hb; have BK326 := Aside0.mk (hbox); have GW326 := ge_ hg; have GE326 := ge_ hg; replace HO5_4 := Aside0.mk (Kd.V_below (Kd.V_elderB Z2 gb326 (Nat.le_of_eq hg.symm)) hb); replace HB := hs_ hb; clear hb hbox hg) | ((with_reducible refine gate_dst (N := 10) rfl ?_); refine bx 10 #[.int .i64 a4_0, .int .i64 a4_1, .int .i64 a4_2, .int .i64 a4_3, .int .i64 a4_4, .int .i64 a4_5] 29 ?_; intro gb327 hg w62 hbox hb; have BK327 := Aside0.mk (hbox); have GW327 := ge_ hg; have GE327 := ge_ hg; have NB326_327 := nl_ BK326 hg; have NB327_326 := nr_ BK326 hg; replace HO5_4 := Aside0.mk (Kd.V_below (Kd.V_elderB Z2 gb327 (Nat.le_of_eq hg.symm)) hb); replace BK326 := bk_ BK326 hb; replace HB := hs_ hb; clear hb hbox hg) | ((with_reducible refine gate_dst (N := 11) rfl ?_); refine bx 11 #[.int .i64 a5_0, .int .i64 a5_1, .int .i64 a5_2, .bool a5_3, .slice A5_4 l5_4.length c5_4] 41 ?_; intro gb328 hg w63 hbox hb; have BK328 := Aside0.mk (hbox); have GW328 := ge_ hg; have GE328 := ge_ hg; have NB326_328 := nl_ BK326 hg; have NB328_326 := nr_ BK326 hg; have NB327_328 := nl_ BK327 hg; have NB328_327 := nr_ BK327 hg; replace HO5_4 := Aside0.mk (Kd.V_below (Kd.V_elderB Z2 gb328 (Nat.le_of_eq hg.symm)) hb); replace BK326 := bk_ BK326 hb; replace BK327 := bk_ BK327 hb; replace HB := hs_ hb; clear hb hbox hg; have hnb64 := NB328_326.out; have hnc64 := NB326_328.out; have hnb65 := NB328_327.out; have hnc65 := NB327_328.out; obtain ⟨hcz66_0, hcz66_1, hcz66_2, hcz66_3, hcz66_4, hfz66_0, hfz66_1, hfz66_2, hfz66_3, hfz66_4⟩ := bz5_ BK328) | ((with_reducible refine gate_callee (f := 51) rfl ?_); refine goesL_ (some 20) rfl rfl Try.func51 (by kernel_rfl) rfl #[.slice A1 l1.length c1, .slice A5_4 l5_4.length c5_4] rfl Z0 ?_; (with_reducible refine (pack_Less.calls _ _ l1 _ _ l5_4 t329 t330 _ ?side1 ?side2 ?side3 ?side4 A7.out).mono ?_); (case side1 => exact cs_ HR1); (case side2 => exact HC1.out); (case side3 => repeat (first | exact (Kd.V_reads' HO5_4.out).2.2 | (with_reducible refine Kd.C_alloc ?_ _) | (with_reducible refine Kd.C_drewN ?_ _) | (with_reducible refine Kd.C_drew ?_))); (case side4 => exact (Kd.V_reads' HO5_4.out).2.1); rintro e w67 ⟨v331, rfl, ho0, hb⟩; refine ⟨_, rfl, ?_⟩; have HO332 := Aside0.mk (Kd.R_lower (Kd.R_newM (M := fun k_ => (w.heap.size ≤ k_)) ho0 (below_size hb_) (fun k_ h_ => h_)) (below_size hb_)); replace HO5_4 := Aside0.mk (Kd.V_elder' Z2 (Kd.R_base ho0) hb); replace BK326 := bk_ BK326 hb; replace BK327 := bk_ BK327 hb; replace BK328 := bk_ BK328 hb; replace HB := hs_ hb; (try clear hb); (try clear hb2); (try clear hk); (try clear hi); (try clear ho0)))
  go_ret2
  exact ⟨by first | rfl | (simp [errW_none, errW_some] <;> rfl) | (simp [*, errW_none, errW_some] <;> rfl), hb_⟩
theorem fill_After.calls (a0 : Int) (A1 : Option Addr) (c1 : Nat) (l1 : List (S51)) (a2_0 : Int) (a2_1 : Int) (A3 : Option Addr) (c3 : Nat) (l3 : List (S41)) (a4_0 : Int) (a4_1 : Int) (a4_2 : Int) (a4_3 : Int) (a4_4 : Int) (a4_5 : Int) (a5_0 : Int) (a5_1 : Int) (a5_2 : Int) (a5_3 : Bool) (A5_4 : Option Addr) (c5_4 : Nat) (l5_4 : List (S52)) (r1 : Int) (r2 : Int) (w : World) (hr1 : Kd.C k51 w A1 l1.length l1) (hc1 : l1.length ≤ c1) (hr3 : Kd.C k41 w A3 l3.length l3) (hc3 : l3.length ≤ c3) (hr5_4 : Kd.C k52 w A5_4 l5_4.length l5_4) (hc5_4 : l5_4.length ≤ c5_4) (h : fill_After.f a0 l1 a2_0 a2_1 l3 a4_0 a4_1 a4_2 a4_3 a4_4 a4_5 a5_0 a5_1 a5_2 a5_3 l5_4 = some (r1, r2)) :
  Calls Try.prog 39 #[.int .i64 a0, .slice A1 l1.length c1, .agg #[.int .i64 a2_0, .int .i64 a2_1], .slice A3 l3.length c3, .agg #[.int .i64 a4_0, .int .i64 a4_1, .int .i64 a4_2, .int .i64 a4_3, .int .i64 a4_4, .int .i64 a4_5], .agg #[.int .i64 a5_0, .int .i64 a5_1, .int .i64 a5_2, .bool a5_3, .slice A5_4 l5_4.length c5_4]] w fun e w' => e = .returned (.tuple #[.int .i64 r1, .int .i64 r2]) ∧ Below w.heap.size w w' := by
 exact fill_After.callsV a0 A1 c1 l1 a2_0 a2_1 A3 c3 l3 a4_0 a4_1 a4_2 a4_3 a4_4 a4_5 a5_0 a5_1 a5_2 a5_3 (fun k => k < w.heap.size) A5_4 c5_4 l5_4 r1 r2 w hr1 hc1 hr3 hc3 (Kd.V_mk hc5_4 (Kd.C_F k52_heap hr5_4)) h
end Go.Proofs.Ytckhjehibjdjdaa.P
namespace Go.Proofs.Ytckhjehibjdjdaa.P
open Go.RowKit Go.Proofs.YtckhjehibjdjdaaW.PrintWords Go.Proofs.YtckhjehibjdjdaaW.PrintLast Go.Proofs.YtckhjehibjdjdaaW.PrintMore
attribute [local go_sem] max2_int min2_int max_two min_two max_three min_three max_four min_four
set_option linter.unusedVariables false
set_option linter.unusedSimpArgs false
def fill_Safe.f (a0 : Int) (l1 : List (S51)) (a2_0 : Int) (a2_1 : Int) (l3 : List (S41)) (a4_0 : Int) (a4_1 : Int) (a4_2 : Int) (a4_3 : Int) (a4_4 : Int) (a4_5 : Int) (a5 : Int) (a6_0 : Int) (a6_1 : Int) (a6_2 : Int) (a6_3 : Bool) (l6_4 : List (S52)) : Option (Bool × Int) := (fill_After.f a0 l1 a2_0 a2_1 l3 a4_0 a4_1 a4_2 a4_3 a4_4 a4_5 a6_0 a6_1 a6_2 a6_3 l6_4).bind fun bt329 => (if bt329.2 = 0 then (some (decide (bt329.1 ≤ (mx a0 a5)), bt329.2)) else (some (false, bt329.2)))
set_option maxHeartbeats 8000000 in
set_option maxRecDepth 100000 in
theorem fill_Safe.calls (a0 : Int) (A1 : Option Addr) (c1 : Nat) (l1 : List (S51)) (a2_0 : Int) (a2_1 : Int) (A3 : Option Addr) (c3 : Nat) (l3 : List (S41)) (a4_0 : Int) (a4_1 : Int) (a4_2 : Int) (a4_3 : Int) (a4_4 : Int) (a4_5 : Int) (a5 : Int) (a6_0 : Int) (a6_1 : Int) (a6_2 : Int) (a6_3 : Bool) (A6_4 : Option Addr) (c6_4 : Nat) (l6_4 : List (S52)) (r1 : Bool) (r2 : Int) (w : World) (hr1 : Kd.C k51 w A1 l1.length l1) (hc1 : l1.length ≤ c1) (hr3 : Kd.C k41 w A3 l3.length l3) (hc3 : l3.length ≤ c3) (hr6_4 : Kd.C k52 w A6_4 l6_4.length l6_4) (hc6_4 : l6_4.length ≤ c6_4) (h : fill_Safe.f a0 l1 a2_0 a2_1 l3 a4_0 a4_1 a4_2 a4_3 a4_4 a4_5 a5 a6_0 a6_1 a6_2 a6_3 l6_4 = some (r1, r2)) :
  Calls Try.prog 37 #[.int .i64 a0, .slice A1 l1.length c1, .agg #[.int .i64 a2_0, .int .i64 a2_1], .slice A3 l3.length c3, .agg #[.int .i64 a4_0, .int .i64 a4_1, .int .i64 a4_2, .int .i64 a4_3, .int .i64 a4_4, .int .i64 a4_5], .int .i64 a5, .agg #[.int .i64 a6_0, .int .i64 a6_1, .int .i64 a6_2, .bool a6_3, .slice A6_4 l6_4.length c6_4]] w fun e w' => e = .returned (.tuple #[.bool r1, .int .i64 r2]) ∧ Below w.heap.size w w' := by
 have hu24 := Try.underlying24
 have hu29 := Try.underlying29
 have hu41 := Try.underlying41
 have HR1 := Aside0.mk hr1
 have HC1 := Aside0.mk hc1
 clear hr1 hc1
 have HR3 := Aside0.mk hr3
 have HC3 := Aside0.mk hc3
 clear hr3 hc3
 have HR6_4 := Aside0.mk hr6_4
 have HC6_4 := Aside0.mk hc6_4
 clear hr6_4 hc6_4
 have HB := Aside0.mk (Below.refl w.heap.size w)
 have H : ((fill_After.f a0 l1 a2_0 a2_1 l3 a4_0 a4_1 a4_2 a4_3 a4_4 a4_5 a6_0 a6_1 a6_2 a6_3 l6_4).bind fun bt329 => (if bt329.2 = 0 then (some (decide (bt329.1 ≤ (mx a0 a5)), bt329.2)) else (some (false, bt329.2)))) = some (r1, r2) := h
 clear h
 replace H := Option.bind_eq_some_iff.mp H
 obtain ⟨⟨t329, t330⟩, A80, H⟩ := H
 replace H : (if t330 = 0 then (some (decide (t329 ≤ (mx a0 a5)), t330)) else (some (false, t330))) = some (r1, r2) := H
 have A8 := Aside0.mk A80
 clear A80
 by_cases c9 : t330 = 0
 ·rw [if_pos c9] at H
  have c9b0 : (t330 == 0) = true := beq_iff_eq.mpr c9
  have c9b1 : (t330 != 0) = false := bne_eq_false_iff_eq.mpr c9
  clear c9
  obtain ⟨ji10, hji10⟩ : ∃ j_ : Int, (mx a0 a5) = j_ := ⟨_, rfl⟩
  replace H : (some (decide (t329 ≤ (ji10)), t330)) = some (r1, r2) := by first | (rw [hji10] at H; exact H) | (simp only [hji10] at H ⊢; exact H)
  (try rw [hji10] at A8)
  have hji10_ : (if a0 < a5 then a5 else a0) = ji10 := hji10
  simp only [Option.some.injEq, Prod.mk.injEq] at H
  obtain ⟨rfl, rfl⟩ := H
  go_enter Try.func37, Try.ntmps37
  go_wp2_with (first | ((with_reducible refine gate_dst (N := 9) rfl ?_); (try (refine gate_guard (by rfl) ?_; dsimp only)); refine bx 9 #[.int .i64 a2_0, .int .i64 a2_1] 24 ?_; intro gb326 hg w11 hbox hb; have BK326 := Aside0.mk (hbox); have GW326 := ge_ hg; have GE326 := ge_ hg; replace HB := hs_ hb; clear hb hbox hg) | ((with_reducible refine gate_dst (N := 11) rfl ?_); (try (refine gate_guard (by rfl) ?_; dsimp only)); refine bx 11 #[.int .i64 a4_0, .int .i64 a4_1, .int .i64 a4_2, .int .i64 a4_3, .int .i64 a4_4, .int .i64 a4_5] 29 ?_; intro gb327 hg w12 hbox hb; have BK327 := Aside0.mk (hbox); have GW327 := ge_ hg; have GE327 := ge_ hg; have NB326_327 := nl_ BK326 hg; have NB327_326 := nr_ BK326 hg; replace BK326 := bk_ BK326 hb; replace HB := hs_ hb; clear hb hbox hg) | ((with_reducible refine gate_dst (N := 13) rfl ?_); (try (refine gate_guard (by rfl) ?_; dsimp only)); refine bx 13 #[.int .i64 a6_0, .int .i64 a6_1, .int .i64 a6_2, .bool a6_3, .slice A6_4 l6_4.length c6_4] 41 ?_; intro gb328 hg w13 hbox hb; have BK328 := Aside0.mk (hbox); have GW328 := ge_ hg; have GE328 := ge_ hg; have NB326_328 := nl_ BK326 hg; have NB328_326 := nr_ BK326 hg; have NB327_328 := nl_ BK327 hg; have NB328_327 := nr_ BK327 hg; replace BK326 := bk_ BK326 hb; replace BK327 := bk_ BK327 hb; replace HB := hs_ hb; clear hb hbox hg; have hnb14 := NB326_327.out; have hnc14 := NB327_326.out; have hnb15 := NB326_328.out; have hnc15 := NB328_326.out; obtain ⟨hcz16_0, hcz16_1, hfz16_0, hfz16_1⟩ := bz2_ BK326; have hnb17 := NB327_328.out; have hnc17 := NB328_327.out; obtain ⟨hcz18_0, hcz18_1, hcz18_2, hcz18_3, hcz18_4, hcz18_5, hfz18_0, hfz18_1, hfz18_2, hfz18_3, hfz18_4, hfz18_5⟩ := bz6_ BK327; obtain ⟨hcz19_0, hcz19_1, hcz19_2, hcz19_3, hcz19_4, hfz19_0, hfz19_1, hfz19_2, hfz19_3, hfz19_4⟩ := bz5_ BK328) | ((with_reducible refine gate_callee (f := 39) rfl ?_); refine goesL_ (some 25) rfl rfl Try.func39 (by kernel_rfl) rfl #[.int .i64 a0, .slice A1 l1.length c1, .agg #[.int .i64 a2_0, .int .i64 a2_1], .slice A3 l3.length c3, .agg #[.int .i64 a4_0, .int .i64 a4_1, .int .i64 a4_2, .int .i64 a4_3, .int .i64 a4_4, .int .i64 a4_5], .agg #[.int .i64 a6_0, .int .i64 a6_1, .int .i64 a6_2, .bool a6_3, .slice A6_4 l6_4.length c6_4]] rfl Z0 ?_; (with_reducible refine (fill_After.calls a0 _ _ l1 a2_0 a2_1 _ _ l3 a4_0 a4_1 a4_2 a4_3 a4_4 a4_5 a6_0 a6_1 a6_2 a6_3 _ _ l6_4 t329 t330 _ ?side1 ?side2 ?side3 ?side4 ?side5 ?side6 A8.out).mono ?_); (case side1 => exact cs_ HR1); (case side2 => exact HC1.out); (case side3 => exact cs_ HR3); (case side4 => exact HC3.out); (case side5 => exact cs_ HR6_4); (case side6 => exact HC6_4.out); rintro e w20 ⟨rfl, hb⟩; refine ⟨_, rfl, ?_⟩; replace BK326 := bk_ BK326 hb; replace BK327 := bk_ BK327 hb; replace BK328 := bk_ BK328 hb; replace HB := hs_ hb; (try clear hb); (try clear hb2); (try clear hk); (try clear hi)))
  go_ret2
  exact ⟨by first | rfl | (simp [errW_none, errW_some] <;> rfl) | (simp only [← hji10]; first | rfl | (simp [errW_none, errW_some] <;> rfl)) | (simp [*, errW_none, errW_some] <;> rfl), hb_⟩
 ·rw [if_neg c9] at H
  have c9b0 : (t330 == 0) = false := beq_eq_false_iff_ne.mpr c9
  have c9b1 : (t330 != 0) = true := bne_iff_ne.mpr c9
  simp only [Option.some.injEq, Prod.mk.injEq] at H
  obtain ⟨rfl, rfl⟩ := H
  go_enter Try.func37, Try.ntmps37
  go_wp2_with (first | ((with_reducible refine gate_dst (N := 9) rfl ?_); (try (refine gate_guard (by rfl) ?_; dsimp only)); refine bx 9 #[.int .i64 a2_0, .int .i64 a2_1] 24 ?_; intro gb326 hg w21 hbox hb; have BK326 := Aside0.mk (hbox); have GW326 := ge_ hg; have GE326 := ge_ hg; replace HB := hs_ hb; clear hb hbox hg) | ((with_reducible refine gate_dst (N := 11) rfl ?_); (try (refine gate_guard (by rfl) ?_; dsimp only)); refine bx 11 #[.int .i64 a4_0, .int .i64 a4_1, .int .i64 a4_2, .int .i64 a4_3, .int .i64 a4_4, .int .i64 a4_5] 29 ?_; intro gb327 hg w22 hbox hb; have BK327 := Aside0.mk (hbox); have GW327 := ge_ hg; have GE327 := ge_ hg; have NB326_327 := nl_ BK326 hg; have NB327_326 := nr_ BK326 hg; replace BK326 := bk_ BK326 hb; replace HB := hs_ hb; clear hb hbox hg) | ((with_reducible refine gate_dst (N := 13) rfl ?_); (try (refine gate_guard (by rfl) ?_; dsimp only)); refine bx 13 #[.int .i64 a6_0, .int .i64 a6_1, .int .i64 a6_2, .bool a6_3, .slice A6_4 l6_4.length c6_4] 41 ?_; intro gb328 hg w23 hbox hb; have BK328 := Aside0.mk (hbox); have GW328 := ge_ hg; have GE328 := ge_ hg; have NB326_328 := nl_ BK326 hg; have NB328_326 := nr_ BK326 hg; have NB327_328 := nl_ BK327 hg; have NB328_327 := nr_ BK327 hg; replace BK326 := bk_ BK326 hb; replace BK327 := bk_ BK327 hb; replace HB := hs_ hb; clear hb hbox hg; have hnb24 := NB326_327.out; have hnc24 := NB327_326.out; have hnb25 := NB326_328.out; have hnc25 := NB328_326.out; obtain ⟨hcz26_0, hcz26_1, hfz26_0, hfz26_1⟩ := bz2_ BK326; have hnb27 := NB327_328.out; have hnc27 := NB328_327.out; obtain ⟨hcz28_0, hcz28_1, hcz28_2, hcz28_3, hcz28_4, hcz28_5, hfz28_0, hfz28_1, hfz28_2, hfz28_3, hfz28_4, hfz28_5⟩ := bz6_ BK327; obtain ⟨hcz29_0, hcz29_1, hcz29_2, hcz29_3, hcz29_4, hfz29_0, hfz29_1, hfz29_2, hfz29_3, hfz29_4⟩ := bz5_ BK328) | ((with_reducible refine gate_callee (f := 39) rfl ?_); refine goesL_ (some 25) rfl rfl Try.func39 (by kernel_rfl) rfl #[.int .i64 a0, .slice A1 l1.length c1, .agg #[.int .i64 a2_0, .int .i64 a2_1], .slice A3 l3.length c3, .agg #[.int .i64 a4_0, .int .i64 a4_1, .int .i64 a4_2, .int .i64 a4_3, .int .i64 a4_4, .int .i64 a4_5], .agg #[.int .i64 a6_0, .int .i64 a6_1, .int .i64 a6_2, .bool a6_3, .slice A6_4 l6_4.length c6_4]] rfl Z0 ?_; (with_reducible refine (fill_After.calls a0 _ _ l1 a2_0 a2_1 _ _ l3 a4_0 a4_1 a4_2 a4_3 a4_4 a4_5 a6_0 a6_1 a6_2 a6_3 _ _ l6_4 t329 t330 _ ?side1 ?side2 ?side3 ?side4 ?side5 ?side6 A8.out).mono ?_); (case side1 => exact cs_ HR1); (case side2 => exact HC1.out); (case side3 => exact cs_ HR3); (case side4 => exact HC3.out); (case side5 => exact cs_ HR6_4); (case side6 => exact HC6_4.out); rintro e w30 ⟨rfl, hb⟩; refine ⟨_, rfl, ?_⟩; replace BK326 := bk_ BK326 hb; replace BK327 := bk_ BK327 hb; replace BK328 := bk_ BK328 hb; replace HB := hs_ hb; (try clear hb); (try clear hb2); (try clear hk); (try clear hi)))
  go_ret2
  exact ⟨by first | rfl | (simp [errW_none, errW_some] <;> rfl) | (simp [*, errW_none, errW_some] <;> rfl), hb_⟩
end Go.Proofs.Ytckhjehibjdjdaa.P
namespace Go.Proofs.Ytckhjehibjdjdaa.P
open Go.RowKit Go.Proofs.YtckhjehibjdjdaaW.PrintWords Go.Proofs.YtckhjehibjdjdaaW.PrintLast Go.Proofs.YtckhjehibjdjdaaW.PrintMore
attribute [local go_sem] max2_int min2_int max_two min_two max_three min_three max_four min_four
set_option linter.unusedVariables false
set_option linter.unusedSimpArgs false
def ensemblelaw13_awake.f  : Option (Bool) := (some (([(⟨0, 0, 7, false, (([(⟨(⟨0, 0⟩ : S48), 12, 0⟩ : S52)] : List (S52)))⟩ : S41)] : List (S41)) : List (S41))).bind fun y335 => ((some (([(⟨(⟨0, 0⟩ : S48), 3, 0⟩ : S51)] : List (S51)) : List (S51))).bind fun y338 => ((fill_Safe.f 2 y338 9 0 y335 1 3 1 0 3 3 7 0 0 9 false (([(⟨(⟨0, 0⟩ : S48), 1, 0⟩ : S52)] : List (S52)))).bind fun bt345 => ((fill_Safe.f 2 y338 9 0 y335 1 3 1 0 3 3 7 0 0 9 false (([(⟨(⟨0, 0⟩ : S48), 3, 0⟩ : S52)] : List (S52)))).bind fun bt350 => ((fill_Safe.f 2 y338 9 0 y335 1 3 1 0 3 3 7 0 0 7 false (([(⟨(⟨0, 0⟩ : S48), 3, 0⟩ : S52)] : List (S52)))).bind fun bt355 => (if bt345.1 = true then (if bt350.1 = true then (some false) else (if bt355.1 = true then (if bt345.2 = 0 then (if bt350.2 = 0 then (some (bt355.2 == 0)) else (some false)) else (some false)) else (some false))) else (some false))))))
set_option maxHeartbeats 8000000 in
set_option maxRecDepth 100000 in
theorem ensemblelaw13_awake.calls  (r : Bool) (w : World) (h : ensemblelaw13_awake.f  = some r) (hr_ : r = true := by rfl) :
  Calls Try.prog 35 #[] w fun e w' => e = .returned (.bool r) ∧ Below w.heap.size w w' := by
 have hu27 := Try.underlying27
 have hu29 := Try.underlying29
 have hu52 := Try.underlying52
 have hu41 := Try.underlying41
 have hu51 := Try.underlying51
 have hu24 := Try.underlying24
 have HB := Aside0.mk (Below.refl w.heap.size w)
 have H : ((some (([(⟨0, 0, 7, false, (([(⟨(⟨0, 0⟩ : S48), 12, 0⟩ : S52)] : List (S52)))⟩ : S41)] : List (S41)) : List (S41))).bind fun y335 => ((some (([(⟨(⟨0, 0⟩ : S48), 3, 0⟩ : S51)] : List (S51)) : List (S51))).bind fun y338 => ((fill_Safe.f 2 y338 9 0 y335 1 3 1 0 3 3 7 0 0 9 false (([(⟨(⟨0, 0⟩ : S48), 1, 0⟩ : S52)] : List (S52)))).bind fun bt345 => ((fill_Safe.f 2 y338 9 0 y335 1 3 1 0 3 3 7 0 0 9 false (([(⟨(⟨0, 0⟩ : S48), 3, 0⟩ : S52)] : List (S52)))).bind fun bt350 => ((fill_Safe.f 2 y338 9 0 y335 1 3 1 0 3 3 7 0 0 7 false (([(⟨(⟨0, 0⟩ : S48), 3, 0⟩ : S52)] : List (S52)))).bind fun bt355 => (if bt345.1 = true then (if bt350.1 = true then (some false) else (if bt355.1 = true then (if bt345.2 = 0 then (if bt350.2 = 0 then (some (bt355.2 == 0)) else (some false)) else (some false)) else (some false))) else (some false))))))) = some r := h
 clear h
 obtain ⟨y332, hy332⟩ : ∃ y_ : List (S52), y_ = (([(⟨(⟨0, 0⟩ : S48), 12, 0⟩ : S52)] : List (S52))) := ⟨_, rfl⟩
 replace H : ((some (([(⟨0, 0, 7, false, y332⟩ : S41)] : List (S41)) : List (S41))).bind fun y335 => ((some (([(⟨(⟨0, 0⟩ : S48), 3, 0⟩ : S51)] : List (S51)) : List (S51))).bind fun y338 => ((fill_Safe.f 2 y338 9 0 y335 1 3 1 0 3 3 7 0 0 9 false (([(⟨(⟨0, 0⟩ : S48), 1, 0⟩ : S52)] : List (S52)))).bind fun bt345 => ((fill_Safe.f 2 y338 9 0 y335 1 3 1 0 3 3 7 0 0 9 false (([(⟨(⟨0, 0⟩ : S48), 3, 0⟩ : S52)] : List (S52)))).bind fun bt350 => ((fill_Safe.f 2 y338 9 0 y335 1 3 1 0 3 3 7 0 0 7 false (([(⟨(⟨0, 0⟩ : S48), 3, 0⟩ : S52)] : List (S52)))).bind fun bt355 => (if bt345.1 = true then (if bt350.1 = true then (some false) else (if bt355.1 = true then (if bt345.2 = 0 then (if bt350.2 = 0 then (some (bt355.2 == 0)) else (some false)) else (some false)) else (some false))) else (some false))))))) = some r := by first | (rw [hy332]; with_reducible exact H) | (have H2_ := (Option.bind_some _ _).symm.trans H; rw [hy332]; with_reducible exact H2_) | (have H2_ := (Option.bind_some _ _).symm.trans H; with_reducible exact H2_) | with_reducible exact H | (rw [hy332]; exact H) | exact H
 have Ny332 := Aside0.mk hy332
 clear hy332
 obtain ⟨y335, hy335⟩ : ∃ y_ : List (S41), y_ = (([(⟨0, 0, 7, false, y332⟩ : S41)] : List (S41))) := ⟨_, rfl⟩
 replace H : ((some (([(⟨(⟨0, 0⟩ : S48), 3, 0⟩ : S51)] : List (S51)) : List (S51))).bind fun y338 => ((fill_Safe.f 2 y338 9 0 y335 1 3 1 0 3 3 7 0 0 9 false (([(⟨(⟨0, 0⟩ : S48), 1, 0⟩ : S52)] : List (S52)))).bind fun bt345 => ((fill_Safe.f 2 y338 9 0 y335 1 3 1 0 3 3 7 0 0 9 false (([(⟨(⟨0, 0⟩ : S48), 3, 0⟩ : S52)] : List (S52)))).bind fun bt350 => ((fill_Safe.f 2 y338 9 0 y335 1 3 1 0 3 3 7 0 0 7 false (([(⟨(⟨0, 0⟩ : S48), 3, 0⟩ : S52)] : List (S52)))).bind fun bt355 => (if bt345.1 = true then (if bt350.1 = true then (some false) else (if bt355.1 = true then (if bt345.2 = 0 then (if bt350.2 = 0 then (some (bt355.2 == 0)) else (some false)) else (some false)) else (some false))) else (some false)))))) = some r := by first | (rw [hy335]; with_reducible exact H) | (have H2_ := (Option.bind_some _ _).symm.trans H; rw [hy335]; with_reducible exact H2_) | (have H2_ := (Option.bind_some _ _).symm.trans H; with_reducible exact H2_) | with_reducible exact H | (rw [hy335]; exact H) | exact H
 have Ny335 := Aside0.mk hy335
 clear hy335
 obtain ⟨y338, hy338⟩ : ∃ y_ : List (S51), y_ = (([(⟨(⟨0, 0⟩ : S48), 3, 0⟩ : S51)] : List (S51))) := ⟨_, rfl⟩
 replace H : ((fill_Safe.f 2 y338 9 0 y335 1 3 1 0 3 3 7 0 0 9 false (([(⟨(⟨0, 0⟩ : S48), 1, 0⟩ : S52)] : List (S52)))).bind fun bt345 => ((fill_Safe.f 2 y338 9 0 y335 1 3 1 0 3 3 7 0 0 9 false (([(⟨(⟨0, 0⟩ : S48), 3, 0⟩ : S52)] : List (S52)))).bind fun bt350 => ((fill_Safe.f 2 y338 9 0 y335 1 3 1 0 3 3 7 0 0 7 false (([(⟨(⟨0, 0⟩ : S48), 3, 0⟩ : S52)] : List (S52)))).bind fun bt355 => (if bt345.1 = true then (if bt350.1 = true then (some false) else (if bt355.1 = true then (if bt345.2 = 0 then (if bt350.2 = 0 then (some (bt355.2 == 0)) else (some false)) else (some false)) else (some false))) else (some false))))) = some r := by first | (rw [hy338]; with_reducible exact H) | (have H2_ := (Option.bind_some _ _).symm.trans H; rw [hy338]; with_reducible exact H2_) | (have H2_ := (Option.bind_some _ _).symm.trans H; with_reducible exact H2_) | with_reducible exact H | (rw [hy338]; exact H) | exact H
 have Ny338 := Aside0.mk hy338
 clear hy338
 obtain ⟨y342, hy342⟩ : ∃ y_ : List (S52), y_ = (([(⟨(⟨0, 0⟩ : S48), 1, 0⟩ : S52)] : List (S52))) := ⟨_, rfl⟩
 replace H : ((fill_Safe.f 2 y338 9 0 y335 1 3 1 0 3 3 7 0 0 9 false y342).bind fun bt345 => ((fill_Safe.f 2 y338 9 0 y335 1 3 1 0 3 3 7 0 0 9 false (([(⟨(⟨0, 0⟩ : S48), 3, 0⟩ : S52)] : List (S52)))).bind fun bt350 => ((fill_Safe.f 2 y338 9 0 y335 1 3 1 0 3 3 7 0 0 7 false (([(⟨(⟨0, 0⟩ : S48), 3, 0⟩ : S52)] : List (S52)))).bind fun bt355 => (if bt345.1 = true then (if bt350.1 = true then (some false) else (if bt355.1 = true then (if bt345.2 = 0 then (if bt350.2 = 0 then (some (bt355.2 == 0)) else (some false)) else (some false)) else (some false))) else (some false))))) = some r := by first | (rw [hy342]; with_reducible exact H) | (have H2_ := (Option.bind_some _ _).symm.trans H; rw [hy342]; with_reducible exact H2_) | (have H2_ := (Option.bind_some _ _).symm.trans H; with_reducible exact H2_) | with_reducible exact H | (rw [hy342]; exact H) | exact H
 have Ny342 := Aside0.mk hy342
 clear hy342
 replace H := Option.bind_eq_some_iff.mp H
 obtain ⟨⟨t345, t346⟩, A10, H⟩ := H
 replace H : ((fill_Safe.f 2 y338 9 0 y335 1 3 1 0 3 3 7 0 0 9 false (([(⟨(⟨0, 0⟩ : S48), 3, 0⟩ : S52)] : List (S52)))).bind fun bt350 => ((fill_Safe.f 2 y338 9 0 y335 1 3 1 0 3 3 7 0 0 7 false (([(⟨(⟨0, 0⟩ : S48), 3, 0⟩ : S52)] : List (S52)))).bind fun bt355 => (if t345 = true then (if bt350.1 = true then (some false) else (if bt355.1 = true then (if t346 = 0 then (if bt350.2 = 0 then (some (bt355.2 == 0)) else (some false)) else (some false)) else (some false))) else (some false)))) = some r := H
 have A1 := Aside0.mk A10
 clear A10
 obtain ⟨y347, hy347⟩ : ∃ y_ : List (S52), y_ = (([(⟨(⟨0, 0⟩ : S48), 3, 0⟩ : S52)] : List (S52))) := ⟨_, rfl⟩
 replace H : ((fill_Safe.f 2 y338 9 0 y335 1 3 1 0 3 3 7 0 0 9 false y347).bind fun bt350 => ((fill_Safe.f 2 y338 9 0 y335 1 3 1 0 3 3 7 0 0 7 false (([(⟨(⟨0, 0⟩ : S48), 3, 0⟩ : S52)] : List (S52)))).bind fun bt355 => (if t345 = true then (if bt350.1 = true then (some false) else (if bt355.1 = true then (if t346 = 0 then (if bt350.2 = 0 then (some (bt355.2 == 0)) else (some false)) else (some false)) else (some false))) else (some false)))) = some r := by first | (rw [hy347]; with_reducible exact H) | (have H2_ := (Option.bind_some _ _).symm.trans H; rw [hy347]; with_reducible exact H2_) | (have H2_ := (Option.bind_some _ _).symm.trans H; with_reducible exact H2_) | with_reducible exact H | (rw [hy347]; exact H) | exact H
 have Ny347 := Aside0.mk hy347
 clear hy347
 replace H := Option.bind_eq_some_iff.mp H
 obtain ⟨⟨t350, t351⟩, A20, H⟩ := H
 replace H : ((fill_Safe.f 2 y338 9 0 y335 1 3 1 0 3 3 7 0 0 7 false (([(⟨(⟨0, 0⟩ : S48), 3, 0⟩ : S52)] : List (S52)))).bind fun bt355 => (if t345 = true then (if t350 = true then (some false) else (if bt355.1 = true then (if t346 = 0 then (if t351 = 0 then (some (bt355.2 == 0)) else (some false)) else (some false)) else (some false))) else (some false))) = some r := H
 have A2 := Aside0.mk A20
 clear A20
 obtain ⟨y352, hy352⟩ : ∃ y_ : List (S52), y_ = (([(⟨(⟨0, 0⟩ : S48), 3, 0⟩ : S52)] : List (S52))) := ⟨_, rfl⟩
 replace H : ((fill_Safe.f 2 y338 9 0 y335 1 3 1 0 3 3 7 0 0 7 false y352).bind fun bt355 => (if t345 = true then (if t350 = true then (some false) else (if bt355.1 = true then (if t346 = 0 then (if t351 = 0 then (some (bt355.2 == 0)) else (some false)) else (some false)) else (some false))) else (some false))) = some r := by first | (rw [hy352]; with_reducible exact H) | (have H2_ := (Option.bind_some _ _).symm.trans H; rw [hy352]; with_reducible exact H2_) | (have H2_ := (Option.bind_some _ _).symm.trans H; with_reducible exact H2_) | with_reducible exact H | (rw [hy352]; exact H) | exact H
 have Ny352 := Aside0.mk hy352
 clear hy352
 replace H := Option.bind_eq_some_iff.mp H
 obtain ⟨⟨t355, t356⟩, A30, H⟩ := H
 replace H : (if t345 = true then (if t350 = true then (some false) else (if t355 = true then (if t346 = 0 then (if t351 = 0 then (some (t356 == 0)) else (some false)) else (some false)) else (some false))) else (some false)) = some r := H
 have A3 := Aside0.mk A30
 clear A30
 by_cases c4 : t345 = true
 ·subst c4
  have H1 : (if t350 = true then (some false) else (if t355 = true then (if t346 = 0 then (if t351 = 0 then (some (t356 == 0)) else (some false)) else (some false)) else (some false))) = some r := by rw [if_pos rfl] at H; exact H
  clear H
  have H := H1
  clear H1
  by_cases c5 : t350 = true
  ·subst c5
   have H1 : (some false) = some r := by rw [if_pos rfl] at H; exact H
   clear H
   have H := H1
   clear H1
   rw [hr_] at H
   cases H
  ·replace c5 := Bool.eq_false_iff.mpr c5
   subst c5
   have H1 : (if t355 = true then (if t346 = 0 then (if t351 = 0 then (some (t356 == 0)) else (some false)) else (some false)) else (some false)) = some r := by rw [if_neg (show ¬ (false = true) by decide)] at H; exact H
   clear H
   have H := H1
   clear H1
   by_cases c37 : t355 = true
   ·subst c37
    have H1 : (if t346 = 0 then (if t351 = 0 then (some (t356 == 0)) else (some false)) else (some false)) = some r := by rw [if_pos rfl] at H; exact H
    clear H
    have H := H1
    clear H1
    by_cases c38 : t346 = 0
    ·rw [if_pos c38] at H
     have c38b0 : (t346 == 0) = true := beq_iff_eq.mpr c38
     have c38b1 : (t346 != 0) = false := bne_eq_false_iff_eq.mpr c38
     clear c38
     by_cases c39 : t351 = 0
     ·rw [if_pos c39] at H
      have c39b0 : (t351 == 0) = true := beq_iff_eq.mpr c39
      have c39b1 : (t351 != 0) = false := bne_eq_false_iff_eq.mpr c39
      clear c39
      clear hr_
      obtain rfl := Option.some.inj H
      go_enter Try.func35, Try.ntmps35
      go_wp2_with (first | ((with_reducible refine gate_dst (N := 1) rfl ?_); refine bx 1 #[.int .i64 0, .int .i64 0, .int .i64 0, .int .i64 0, .int .i64 0, .int .i64 0] 29 ?_; intro gb331 hg w40 hbox hb; have BK331 := Aside0.mk (hbox); have GW331 := ge_ hg; have GE331 := ge_ hg; replace HB := hs_ hb; clear hb hbox hg; obtain ⟨hcz41_0, hcz41_1, hcz41_2, hcz41_3, hcz41_4, hcz41_5, hfz41_0, hfz41_1, hfz41_2, hfz41_3, hfz41_4, hfz41_5⟩ := bz6_ BK331) | ((with_reducible refine gate_dst (N := 14) rfl ?_); refine Kd.R_lit k52 _ 52 ?hg (N := 14) ?hd (xs := ([(⟨(⟨0, 0⟩ : S48), 12, 0⟩ : S52)] : List (S52))) (inner := [.int .i64 0, .int .i64 0, .int .u64 12, .int .i64 0]) (ok := fun _ => True) (okp := fun _ => True) ?hr ?hp (fun _ hk => hk) trivial (Below.refl _ _) (Nat.le_refl _) (by simp) ?_; (case hd => rfl); (case hg => rfl); (case hr => first | (go_simp; done) | (go_simp; rfl)); (case hp => exact (Reps.c4 (show Kd.M k52 _ _ _ (⟨(⟨0, 0⟩ : S48), 12, 0⟩ : S52) [.int .i64 0, .int .i64 0, .int .u64 12, .int .i64 0] from (k52_mkM _ _ _ (⟨(⟨0, 0⟩ : S48), 12, 0⟩ : S52) )) (Reps.none _ _))); intro v333 w42 ho43 hb hg_ hnew_; clear hg_ hnew_; (first | rw [← Ny332.out] at ho43 | (simp only [Int.reduceToNat] at ho43; rw [← Ny332.out] at ho43)); have HO334 := Aside0.mk (Kd.R_lower ho43 (below_size hb_)); replace BK331 := Aside0.mk (blk_below (g := gb331) (o := .cells #[.int .i64 1, .int .i64 3, .int .i64 1, .int .i64 0, .int .i64 3, .int .i64 3] 29 (0, 0)) (by (with_reducible repeat (first | refine blk_drewN ?_ _ | refine blk_drew ?_ | refine blk_alloc ?_ _)); refine blk_put (cs := #[.int .i64 1, .int .i64 3, .int .i64 1, .int .i64 0, .int .i64 3, .int .i64 0]) ?_ 5 _ rfl; (with_reducible repeat (first | refine blk_drewN ?_ _ | refine blk_drew ?_ | refine blk_alloc ?_ _)); refine blk_put (cs := #[.int .i64 1, .int .i64 3, .int .i64 1, .int .i64 0, .int .i64 0, .int .i64 0]) ?_ 4 _ rfl; (with_reducible repeat (first | refine blk_drewN ?_ _ | refine blk_drew ?_ | refine blk_alloc ?_ _)); refine blk_put (cs := #[.int .i64 1, .int .i64 3, .int .i64 1, .int .i64 0, .int .i64 0, .int .i64 0]) ?_ 3 _ rfl; (with_reducible repeat (first | refine blk_drewN ?_ _ | refine blk_drew ?_ | refine blk_alloc ?_ _)); refine blk_put (cs := #[.int .i64 1, .int .i64 3, .int .i64 0, .int .i64 0, .int .i64 0, .int .i64 0]) ?_ 2 _ rfl; (with_reducible repeat (first | refine blk_drewN ?_ _ | refine blk_drew ?_ | refine blk_alloc ?_ _)); refine blk_put (cs := #[.int .i64 1, .int .i64 0, .int .i64 0, .int .i64 0, .int .i64 0, .int .i64 0]) ?_ 1 _ rfl; (with_reducible repeat (first | refine blk_drewN ?_ _ | refine blk_drew ?_ | refine blk_alloc ?_ _)); refine blk_put (cs := #[.int .i64 0, .int .i64 0, .int .i64 0, .int .i64 0, .int .i64 0, .int .i64 0]) ?_ 0 _ rfl; (with_reducible repeat (first | refine blk_drewN ?_ _ | refine blk_drew ?_ | refine blk_alloc ?_ _)); exact BK331.out) hb); replace HB := hs_ hb; clear hb ho43; obtain ⟨Ao44, co44, eo44⟩ := Kd.R_slice HO334.out; subst eo44) | ((with_reducible refine gate_dst (N := 16) rfl ?_); refine Kd.N_lit k41 _ 41 ?hg (N' := 16) ?hd (xs := ([(⟨0, 0, 7, false, y332⟩ : S41)] : List (S41))) (inner := [.int .i64 0, .int .i64 0, .int .i64 7, .bool false, .slice Ao44 y332.length co44]) (ok := (fun k_ => k_ ≠ gb331)) (okp := (fun k_ => k_ ≠ gb331)) ?hr ?hp (fun _ hk => hk) ((show ∀ k_, w42.heap.size ≤ k_ → (fun k_ => k_ ≠ gb331) k_ from fun k_ hk => Kd.freshB (g := gb331) (o := .cells #[.int .i64 1, .int .i64 3, .int .i64 1, .int .i64 0, .int .i64 3, .int .i64 3] 29 (0, 0)) (bo_ BK331) k_ hk) _ (Nat.le_refl _)) (Below.refl _ _) (Nat.le_refl _) (by simp) ?_; (case hd => rfl); (case hg => rfl); (case hr => first | (go_simp; done) | (go_simp; rfl)); (case hp => exact (Reps.c5 (show Kd.FK k41 _ _ (⟨0, 0, 7, false, y332⟩ : S41) [.int .i64 0, .int .i64 0, .int .i64 7, .bool false, .slice Ao44 y332.length co44] from (k41_mkF _ _ (⟨0, 0, 7, false, y332⟩ : S41) (Kd.R_reads' (Kd.R_mono (ok' := (fun k_ => k_ ≠ gb331)) (Kd.R_types (HO334.out) BK331.out (by decide)) (fun k_ hk => hk.2))).2.1 (Kd.R_F (Kd.R_mono (ok' := (fun k_ => k_ ≠ gb331)) (Kd.R_types (HO334.out) BK331.out (by decide)) (fun k_ hk => hk.2))))) (Reps.none _ _))); intro v336 w45 ho46 hb hg_ hnew_; clear hg_ hnew_; (first | rw [← Ny335.out] at ho46 | (simp only [Int.reduceToNat] at ho46; rw [← Ny335.out] at ho46)); have HO337 := Aside0.mk (Kd.N_lower ho46 (below_size hb_)); replace BK331 := bk_ BK331 hb; replace HB := hs_ hb; clear HO334; clear hb ho46) | ((with_reducible refine gate_dst (N := 18) rfl ?_); refine Kd.R_lit k51 _ 51 ?hg (N := 18) ?hd (xs := ([(⟨(⟨0, 0⟩ : S48), 3, 0⟩ : S51)] : List (S51))) (inner := [.int .i64 0, .int .i64 0, .int .u64 3, .int .i64 0]) (ok := fun _ => True) (okp := fun _ => True) ?hr ?hp (fun _ hk => hk) trivial (Below.refl _ _) (Nat.le_refl _) (by simp) ?_; (case hd => rfl); (case hg => rfl); (case hr => first | (go_simp; done) | (go_simp; rfl)); (case hp => exact (Reps.c4 (show Kd.M k51 _ _ _ (⟨(⟨0, 0⟩ : S48), 3, 0⟩ : S51) [.int .i64 0, .int .i64 0, .int .u64 3, .int .i64 0] from (k51_mkM _ _ _ (⟨(⟨0, 0⟩ : S48), 3, 0⟩ : S51) )) (Reps.none _ _))); intro v339 w47 ho48 hb hg_ hnew_; clear hg_ hnew_; (first | rw [← Ny338.out] at ho48 | (simp only [Int.reduceToNat] at ho48; rw [← Ny338.out] at ho48)); have HO340 := Aside0.mk (Kd.R_lower ho48 (below_size hb_)); replace HO337 := Aside0.mk (Kd.N_elder' Z6 (Kd.R_base ho48) hb); replace BK331 := bk_ BK331 hb; replace HB := hs_ hb; clear hb ho48) | ((with_reducible refine gate_dst (N := 4) rfl ?_); refine bx 4 #[.int .i64 0, .int .i64 0] 24 ?_; intro gb341 hg w49 hbox hb; have BK341 := Aside0.mk (hbox); have GW341 := ge_ hg; have GE341 := ge_ hg; have NB331_341 := nl_ BK331 hg; have NB341_331 := nr_ BK331 hg; replace HO337 := Aside0.mk (Kd.N_below (Kd.N_elderB Z6 gb341 (Nat.le_of_eq hg.symm)) hb); replace HO340 := Aside0.mk (Kd.R_below Z9 hb); replace BK331 := bk_ BK331 hb; replace HB := hs_ hb; clear hb hbox hg; have hnb50 := NB341_331.out; have hnc50 := NB331_341.out; obtain ⟨hcz51_0, hcz51_1, hfz51_0, hfz51_1⟩ := bz2_ BK341; obtain ⟨hcz52_0, hcz52_1, hcz52_2, hcz52_3, hcz52_4, hcz52_5, hfz52_0, hfz52_1, hfz52_2, hfz52_3, hfz52_4, hfz52_5⟩ := bz6_ BK331) | ((with_reducible refine gate_dst (N := 26) rfl ?_); refine Kd.R_lit k52 _ 52 ?hg (N := 26) ?hd (xs := ([(⟨(⟨0, 0⟩ : S48), 1, 0⟩ : S52)] : List (S52))) (inner := [.int .i64 0, .int .i64 0, .int .u64 1, .int .i64 0]) (ok := fun _ => True) (okp := fun _ => True) ?hr ?hp (fun _ hk => hk) trivial (Below.refl _ _) (Nat.le_refl _) (by simp) ?_; (case hd => rfl); (case hg => rfl); (case hr => first | (go_simp; done) | (go_simp; rfl)); (case hp => exact (Reps.c4 (show Kd.M k52 _ _ _ (⟨(⟨0, 0⟩ : S48), 1, 0⟩ : S52) [.int .i64 0, .int .i64 0, .int .u64 1, .int .i64 0] from (k52_mkM _ _ _ (⟨(⟨0, 0⟩ : S48), 1, 0⟩ : S52) )) (Reps.none _ _))); intro v343 w53 ho54 hb hg_ hnew_; clear hg_ hnew_; (first | rw [← Ny342.out] at ho54 | (simp only [Int.reduceToNat] at ho54; rw [← Ny342.out] at ho54)); have HO344 := Aside0.mk (Kd.R_lower ho54 (below_size hb_)); replace HO337 := Aside0.mk (Kd.N_elder' (by (with_reducible repeat (first | apply Kd.N_alloc | apply Kd.N_drewN | apply Kd.N_drew)); exact (Kd.N_mono (Kd.N_far (p := ⟨gb341, 1, none⟩) (Kd.N_far (p := ⟨gb341, 0, none⟩) (Kd.N_mono HO337.out (fun k_ hk => (⟨hk, hk.2⟩ : _ ∧ k_ ≠ gb341))) (fun _ hk => hk.2) (.int .i64 9)) (fun _ hk => hk.2) (.int .i64 0)) (fun _ h_ => h_.1))) (Kd.R_base ho54) hb); replace HO340 := Aside0.mk (Kd.R_below (by (with_reducible repeat (first | apply Kd.R_alloc | apply Kd.R_drewN | apply Kd.R_drew)); exact (Kd.R_mono (Kd.R_far (p := ⟨gb341, 1, none⟩) (Kd.R_far (p := ⟨gb341, 0, none⟩) (Kd.R_types HO340.out BK341.out (by decide)) (fun _ hk => hk.2) (.int .i64 9)) (fun _ hk => hk.2) (.int .i64 0)) (fun _ h_ => h_.1))) hb); replace BK331 := Aside0.mk (blk_below (g := gb331) (o := .cells #[.int .i64 1, .int .i64 3, .int .i64 1, .int .i64 0, .int .i64 3, .int .i64 3] 29 (0, 0)) (by (with_reducible repeat (first | refine blk_drewN ?_ _ | refine blk_drew ?_ | refine blk_alloc ?_ _)); refine blk_far ?_ NB331_341.out _; (with_reducible repeat (first | refine blk_drewN ?_ _ | refine blk_drew ?_ | refine blk_alloc ?_ _)); refine blk_far ?_ NB331_341.out _; (with_reducible repeat (first | refine blk_drewN ?_ _ | refine blk_drew ?_ | refine blk_alloc ?_ _)); exact BK331.out) hb); replace BK341 := Aside0.mk (blk_below (g := gb341) (o := .cells #[.int .i64 9, .int .i64 0] 24 (0, 0)) (by (with_reducible repeat (first | refine blk_drewN ?_ _ | refine blk_drew ?_ | refine blk_alloc ?_ _)); refine blk_put (cs := #[.int .i64 9, .int .i64 0]) ?_ 1 _ rfl; (with_reducible repeat (first | refine blk_drewN ?_ _ | refine blk_drew ?_ | refine blk_alloc ?_ _)); refine blk_put (cs := #[.int .i64 0, .int .i64 0]) ?_ 0 _ rfl; (with_reducible repeat (first | refine blk_drewN ?_ _ | refine blk_drew ?_ | refine blk_alloc ?_ _)); exact BK341.out) hb); replace HB := hs_ hb; clear hb ho54; obtain ⟨Ao55, co55, eo55⟩ := Kd.R_slice HO344.out; subst eo55; obtain ⟨Ao56, co56, eo56⟩ := Kd.R_slice HO340.out; subst eo56; obtain ⟨Ao57, co57, eo57⟩ := Kd.N_slice HO337.out; subst eo57) | ((with_reducible refine gate_callee (f := 37) rfl ?_); refine goesL_ (some 28) rfl rfl Try.func37 (by kernel_rfl) rfl #[.int .i64 2, .slice Ao56 y338.length co56, .agg #[.int .i64 9, .int .i64 0], .slice Ao57 y335.length co57, .agg #[.int .i64 1, .int .i64 3, .int .i64 1, .int .i64 0, .int .i64 3, .int .i64 3], .int .i64 7, .agg #[.int .i64 0, .int .i64 0, .int .i64 9, .bool false, .slice Ao55 y342.length co55]] rfl Z0 ?_; (with_reducible refine (fill_Safe.calls 2 _ _ y338 9 0 _ _ y335 1 3 1 0 3 3 7 0 0 9 false _ _ y342 true t346 _ ?side1 ?side2 ?side3 ?side4 ?side5 ?side6 A1.out).mono ?_); (case side1 => repeat (first | exact (Kd.R_reads' HO340.out).2.2 | (with_reducible refine Kd.C_alloc ?_ _) | (with_reducible refine Kd.C_drewN ?_ _) | (with_reducible refine Kd.C_drew ?_))); (case side2 => exact (Kd.R_reads' HO340.out).2.1); (case side3 => repeat (first | exact (Kd.N_reads' HO337.out).2.2 | (with_reducible refine Kd.C_alloc ?_ _) | (with_reducible refine Kd.C_drewN ?_ _) | (with_reducible refine Kd.C_drew ?_))); (case side4 => exact (Kd.N_reads' HO337.out).2.1); (case side5 => repeat (first | exact (Kd.R_reads' HO344.out).2.2 | (with_reducible refine Kd.C_alloc ?_ _) | (with_reducible refine Kd.C_drewN ?_ _) | (with_reducible refine Kd.C_drew ?_))); (case side6 => exact (Kd.R_reads' HO344.out).2.1); rintro e w58 ⟨rfl, hb⟩; refine ⟨_, rfl, ?_⟩; replace HO337 := Aside0.mk (Kd.N_below Z6 hb); replace HO340 := Aside0.mk (Kd.R_below Z9 hb); replace HO344 := Aside0.mk (Kd.R_below Z8 hb); replace BK331 := bk_ BK331 hb; replace BK341 := bk_ BK341 hb; replace HB := hs_ hb; (try clear hb); (try clear hb2); (try clear hk); (try clear hi); obtain ⟨hcz59_0, hcz59_1, hfz59_0, hfz59_1⟩ := bz2_ BK341; obtain ⟨hcz60_0, hcz60_1, hcz60_2, hcz60_3, hcz60_4, hcz60_5, hfz60_0, hfz60_1, hfz60_2, hfz60_3, hfz60_4, hfz60_5⟩ := bz6_ BK331) | ((with_reducible refine gate_dst (N := 37) rfl ?_); refine Kd.R_lit k52 _ 52 ?hg (N := 37) ?hd (xs := ([(⟨(⟨0, 0⟩ : S48), 3, 0⟩ : S52)] : List (S52))) (inner := [.int .i64 0, .int .i64 0, .int .u64 3, .int .i64 0]) (ok := fun _ => True) (okp := fun _ => True) ?hr ?hp (fun _ hk => hk) trivial (Below.refl _ _) (Nat.le_refl _) (by simp) ?_; (case hd => rfl); (case hg => rfl); (case hr => first | (go_simp; done) | (go_simp; rfl)); (case hp => exact (Reps.c4 (show Kd.M k52 _ _ _ (⟨(⟨0, 0⟩ : S48), 3, 0⟩ : S52) [.int .i64 0, .int .i64 0, .int .u64 3, .int .i64 0] from (k52_mkM _ _ _ (⟨(⟨0, 0⟩ : S48), 3, 0⟩ : S52) )) (Reps.none _ _))); intro v348 w61 ho62 hb hg_ hnew_; clear hg_ hnew_; (first | rw [← Ny347.out] at ho62 | (simp only [Int.reduceToNat] at ho62; rw [← Ny347.out] at ho62)); have HO349 := Aside0.mk (Kd.R_lower (Kd.R_new' ho62 (Kd.R_lt Z8)) (below_size hb_)); replace HO337 := Aside0.mk (Kd.N_elder' Z6 (Kd.R_base ho62) hb); replace HO340 := Aside0.mk (Kd.R_below Z9 hb); replace HO344 := Aside0.mk (Kd.R_elder' Z8 (Kd.R_base ho62) hb); replace BK331 := bk_ BK331 hb; replace BK341 := bk_ BK341 hb; replace HB := hs_ hb; clear hb ho62; obtain ⟨Ao63, co63, eo63⟩ := Kd.R_slice HO349.out; subst eo63) | ((with_reducible refine gate_callee (f := 37) rfl ?_); refine goesL_ (some 39) rfl rfl Try.func37 (by kernel_rfl) rfl #[.int .i64 2, .slice Ao56 y338.length co56, .agg #[.int .i64 9, .int .i64 0], .slice Ao57 y335.length co57, .agg #[.int .i64 1, .int .i64 3, .int .i64 1, .int .i64 0, .int .i64 3, .int .i64 3], .int .i64 7, .agg #[.int .i64 0, .int .i64 0, .int .i64 9, .bool false, .slice Ao63 y347.length co63]] rfl Z0 ?_; (with_reducible refine (fill_Safe.calls 2 _ _ y338 9 0 _ _ y335 1 3 1 0 3 3 7 0 0 9 false _ _ y347 false t351 _ ?side1 ?side2 ?side3 ?side4 ?side5 ?side6 A2.out).mono ?_); (case side1 => repeat (first | exact (Kd.R_reads' HO340.out).2.2 | (with_reducible refine Kd.C_alloc ?_ _) | (with_reducible refine Kd.C_drewN ?_ _) | (with_reducible refine Kd.C_drew ?_))); (case side2 => exact (Kd.R_reads' HO340.out).2.1); (case side3 => repeat (first | exact (Kd.N_reads' HO337.out).2.2 | (with_reducible refine Kd.C_alloc ?_ _) | (with_reducible refine Kd.C_drewN ?_ _) | (with_reducible refine Kd.C_drew ?_))); (case side4 => exact (Kd.N_reads' HO337.out).2.1); (case side5 => repeat (first | exact (Kd.R_reads' HO349.out).2.2 | (with_reducible refine Kd.C_alloc ?_ _) | (with_reducible refine Kd.C_drewN ?_ _) | (with_reducible refine Kd.C_drew ?_))); (case side6 => exact (Kd.R_reads' HO349.out).2.1); rintro e w64 ⟨rfl, hb⟩; refine ⟨_, rfl, ?_⟩; replace HO337 := Aside0.mk (Kd.N_below Z6 hb); replace HO340 := Aside0.mk (Kd.R_below Z9 hb); replace HO344 := Aside0.mk (Kd.R_below Z8 hb); replace HO349 := Aside0.mk (Kd.R_below Z11 hb); replace BK331 := bk_ BK331 hb; replace BK341 := bk_ BK341 hb; replace HB := hs_ hb; (try clear hb); (try clear hb2); (try clear hk); (try clear hi); obtain ⟨hcz65_0, hcz65_1, hfz65_0, hfz65_1⟩ := bz2_ BK341; obtain ⟨hcz66_0, hcz66_1, hcz66_2, hcz66_3, hcz66_4, hcz66_5, hfz66_0, hfz66_1, hfz66_2, hfz66_3, hfz66_4, hfz66_5⟩ := bz6_ BK331) | ((with_reducible refine gate_dst (N := 48) rfl ?_); refine Kd.R_lit k52 _ 52 ?hg (N := 48) ?hd (xs := ([(⟨(⟨0, 0⟩ : S48), 3, 0⟩ : S52)] : List (S52))) (inner := [.int .i64 0, .int .i64 0, .int .u64 3, .int .i64 0]) (ok := fun _ => True) (okp := fun _ => True) ?hr ?hp (fun _ hk => hk) trivial (Below.refl _ _) (Nat.le_refl _) (by simp) ?_; (case hd => rfl); (case hg => rfl); (case hr => first | (go_simp; done) | (go_simp; rfl)); (case hp => exact (Reps.c4 (show Kd.M k52 _ _ _ (⟨(⟨0, 0⟩ : S48), 3, 0⟩ : S52) [.int .i64 0, .int .i64 0, .int .u64 3, .int .i64 0] from (k52_mkM _ _ _ (⟨(⟨0, 0⟩ : S48), 3, 0⟩ : S52) )) (Reps.none _ _))); intro v353 w67 ho68 hb hg_ hnew_; clear hg_ hnew_; (first | rw [← Ny352.out] at ho68 | (simp only [Int.reduceToNat] at ho68; rw [← Ny352.out] at ho68)); have HO354 := Aside0.mk (Kd.R_lower (Kd.R_new' (Kd.R_new' ho68 (Kd.R_lt Z8)) (Kd.R_lt Z11)) (below_size hb_)); replace HO337 := Aside0.mk (Kd.N_elder' Z6 (Kd.R_base ho68) hb); replace HO340 := Aside0.mk (Kd.R_below Z9 hb); replace HO344 := Aside0.mk (Kd.R_elder' Z8 (Kd.R_base ho68) hb); replace HO349 := Aside0.mk (Kd.R_elder' Z11 (Kd.R_base ho68) hb); replace BK331 := bk_ BK331 hb; replace BK341 := bk_ BK341 hb; replace HB := hs_ hb; clear hb ho68; obtain ⟨Ao69, co69, eo69⟩ := Kd.R_slice HO354.out; subst eo69) | ((with_reducible refine gate_callee (f := 37) rfl ?_); refine goesL_ (some 50) rfl rfl Try.func37 (by kernel_rfl) rfl #[.int .i64 2, .slice Ao56 y338.length co56, .agg #[.int .i64 9, .int .i64 0], .slice Ao57 y335.length co57, .agg #[.int .i64 1, .int .i64 3, .int .i64 1, .int .i64 0, .int .i64 3, .int .i64 3], .int .i64 7, .agg #[.int .i64 0, .int .i64 0, .int .i64 7, .bool false, .slice Ao69 y352.length co69]] rfl Z0 ?_; (with_reducible refine (fill_Safe.calls 2 _ _ y338 9 0 _ _ y335 1 3 1 0 3 3 7 0 0 7 false _ _ y352 true t356 _ ?side1 ?side2 ?side3 ?side4 ?side5 ?side6 A3.out).mono ?_); (case side1 => repeat (first | exact (Kd.R_reads' HO340.out).2.2 | (with_reducible refine Kd.C_alloc ?_ _) | (with_reducible refine Kd.C_drewN ?_ _) | (with_reducible refine Kd.C_drew ?_))); (case side2 => exact (Kd.R_reads' HO340.out).2.1); (case side3 => repeat (first | exact (Kd.N_reads' HO337.out).2.2 | (with_reducible refine Kd.C_alloc ?_ _) | (with_reducible refine Kd.C_drewN ?_ _) | (with_reducible refine Kd.C_drew ?_))); (case side4 => exact (Kd.N_reads' HO337.out).2.1); (case side5 => repeat (first | exact (Kd.R_reads' HO354.out).2.2 | (with_reducible refine Kd.C_alloc ?_ _) | (with_reducible refine Kd.C_drewN ?_ _) | (with_reducible refine Kd.C_drew ?_))); (case side6 => exact (Kd.R_reads' HO354.out).2.1); rintro e w70 ⟨rfl, hb⟩; refine ⟨_, rfl, ?_⟩; replace HO337 := Aside0.mk (Kd.N_below Z6 hb); replace HO340 := Aside0.mk (Kd.R_below Z9 hb); replace HO344 := Aside0.mk (Kd.R_below Z8 hb); replace HO349 := Aside0.mk (Kd.R_below Z11 hb); replace HO354 := Aside0.mk (Kd.R_below (by (with_reducible repeat (first | apply Kd.R_alloc | apply Kd.R_drewN | apply Kd.R_drew)); exact HO354.out) hb); replace BK331 := bk_ BK331 hb; replace BK341 := bk_ BK341 hb; replace HB := hs_ hb; (try clear hb); (try clear hb2); (try clear hk); (try clear hi)))
      go_ret
      exact ⟨by first | rfl | (simp [errW_none, errW_some] <;> rfl) | (simp [*, errW_none, errW_some] <;> rfl), hb_⟩
     ·rw [if_neg c39] at H
      have c39b0 : (t351 == 0) = false := beq_eq_false_iff_ne.mpr c39
      have c39b1 : (t351 != 0) = true := bne_iff_ne.mpr c39
      rw [hr_] at H
      cases H
    ·rw [if_neg c38] at H
     have c38b0 : (t346 == 0) = false := beq_eq_false_iff_ne.mpr c38
     have c38b1 : (t346 != 0) = true := bne_iff_ne.mpr c38
     rw [hr_] at H
     cases H
   ·replace c37 := Bool.eq_false_iff.mpr c37
    subst c37
    have H1 : (some false) = some r := by rw [if_neg (show ¬ (false = true) by decide)] at H; exact H
    clear H
    have H := H1
    clear H1
    rw [hr_] at H
    cases H
 ·replace c4 := Bool.eq_false_iff.mpr c4
  subst c4
  have H1 : (some false) = some r := by rw [if_neg (show ¬ (false = true) by decide)] at H; exact H
  clear H
  have H := H1
  clear H1
  rw [hr_] at H
  cases H
end Go.Proofs.Ytckhjehibjdjdaa.P
namespace Go.Proofs.Ytckhjehibjdjdaa.P
open Go.RowKit Go.Proofs.YtckhjehibjdjdaaW.PrintWords Go.Proofs.YtckhjehibjdjdaaW.PrintLast Go.Proofs.YtckhjehibjdjdaaW.PrintMore
attribute [local go_sem] max2_int min2_int max_two min_two max_three min_three max_four min_four
set_option linter.unusedVariables false
set_option linter.unusedSimpArgs false
theorem eqA48 (d : Nat) (w : World) (x0 y0 : Int) (x1 y1 : Int) :
  (Op.equalIn (d + 2) 48 (.agg #[.int .i64 x0, .int .i64 x1]) (.agg #[.int .i64 y0, .int .i64 y1])).run Try.prog w = .ok (x0 == y0 && (x1 == y1)) w := by
 refine eqA_of Try.underlying48 (by kernel_rfl) ?_
 refine eqf_cons (by rfl) (by go_simp; rfl) (by go_simp; rfl) (by go_simp) ?_
 exact eqf_last (by rfl) (by go_simp; rfl) (by go_simp; rfl) (by go_simp)
end Go.Proofs.Ytckhjehibjdjdaa.P
namespace Go.Proofs.Ytckhjehibjdjdaa.P
open Go.RowKit Go.Proofs.YtckhjehibjdjdaaW.PrintWords Go.Proofs.YtckhjehibjdjdaaW.PrintLast Go.Proofs.YtckhjehibjdjdaaW.PrintMore
attribute [local go_sem] max2_int min2_int max_two min_two max_three min_three max_four min_four
set_option linter.unusedVariables false
set_option linter.unusedSimpArgs false
attribute [local go_sem high] eqA48
def ensembleref05_find.l0 : Nat → List (S51) → Int → Int → Int → Option (Int)
 | 0, _, _, _, _ => none
 | k + 1, x0, x5, x119000, x119001 => if x5 < (x0.length : Int) then (if 0 ≤ x5 then (if (((rd_T51 x0 x5).f0.f0) == x119000 && (((rd_T51 x0 x5).f0.f1) == x119001)) = true then (some x5) else (ensembleref05_find.l0 k x0 (wrap64 (x5 + 1)) x119000 x119001)) else (none)) else (some (-1))
def ensembleref05_find.f (k : Nat) (l0 : List (S51)) (a1_0 : Int) (a1_1 : Int) : Option (Int) := ensembleref05_find.l0 k l0 0 a1_0 a1_1
set_option maxHeartbeats 8000000 in
set_option maxRecDepth 100000 in
theorem ensembleref05_find.calls (k : Nat) (A0 : Option Addr) (c0 : Nat) (l0 : List (S51)) (a1_0 : Int) (a1_1 : Int) (r : Int) (w : World) (hr0 : Kd.C k51 w A0 l0.length l0) (hc0 : l0.length ≤ c0) (h : ensembleref05_find.f k l0 a1_0 a1_1 = some r) :
  Calls Try.prog 79 #[.slice A0 l0.length c0, .agg #[.int .i64 a1_0, .int .i64 a1_1]] w fun e w' => e = .returned (.int .i64 r) ∧ Below w.heap.size w w' := by
 have hu48 := Try.underlying48
 have HR0 := Aside0.mk hr0
 have HC0 := Aside0.mk hc0
 clear hr0 hc0
 have HB := Aside0.mk (Below.refl w.heap.size w)
 have H : (ensembleref05_find.l0 k l0 0 a1_0 a1_1) = some r := h
 clear h
 have H' := Aside0.mk H
 clear H
 go_enter Try.func79, Try.ntmps79
 go_wp2_with (first | ((with_reducible refine gate_dst (N := 3) rfl ?_); refine bx 3 #[.int .i64 a1_0, .int .i64 a1_1] 48 ?_; intro gb118 hg w3 hbox hb; have BK118 := Aside0.mk (hbox); have GW118 := ge_ hg; have GE118 := ge_ hg; replace HB := hs_ hb; clear hb hbox hg))
 repeat (go_quiet (first | ((with_reducible refine gate_dst (N := 3) rfl ?_); refine bx 3 #[.int .i64 a1_0, .int .i64 a1_1] 48 ?_; intro gb118 hg w3 hbox hb; have BK118 := Aside0.mk (hbox); have GW118 := ge_ hg; have GE118 := ge_ hg; replace HB := hs_ hb; clear hb hbox hg)); try go_wp2_with (first | ((with_reducible refine gate_dst (N := 3) rfl ?_); refine bx 3 #[.int .i64 a1_0, .int .i64 a1_1] 48 ?_; intro gb118 hg w3 hbox hb; have BK118 := Aside0.mk (hbox); have GW118 := ge_ hg; have GE118 := ge_ hg; replace HB := hs_ hb; clear hb hbox hg)))
 go_loopg [5] k (fun kq v5 w' => ∃ (x5_1 : Int), v5 = .int .i64 x5_1 ∧ Aside0 (ensembleref05_find.l0 kq l0 x5_1 a1_0 a1_1 = some r) ∧ Aside0 (kq ≤ k) ∧ Aside0 (w'.heap[gb118]? = some (.cells #[.int .i64 a1_0, .int .i64 a1_1] 48 (0, 0))) ∧ Aside0 (Below w.heap.size w w'))
 case atStart => exact ⟨(0), Z4, H', ⟨Nat.le_refl _⟩, ⟨bo_ BK118⟩, ⟨hb_⟩⟩
 case round =>
  clear H'
  try clear p2
  obtain ⟨x5_1, rfl, HA, HK1, BK118, HB⟩ := hrel
  cases gk with
  | zero => exact absurd HA.out (by simp [ensembleref05_find.l0])
  | succ k1 =>
   have H := HA.out
   clear HA
   simp only [ensembleref05_find.l0] at H
   by_cases c4 : x5_1 < (l0.length : Int)
   ·rw [if_pos c4] at H
    have c4b0 : decide (x5_1 < (l0.length : Int)) = true := decide_eq_true c4
    clear c4
    by_cases c5 : 0 ≤ x5_1
    ·rw [if_pos c5] at H
     have c5b0 : decide (0 ≤ x5_1) = true := decide_eq_true c5
     clear c5
     by_cases c6 : (((rd_T51 l0 x5_1).f0.f0) == a1_0 && (((rd_T51 l0 x5_1).f0.f1) == a1_1)) = true
     ·rw [if_pos c6] at H
      have c6b0 : (((rd_T51 l0 x5_1).f0.f0) == a1_0 && (((rd_T51 l0 x5_1).f0.f1) == a1_1)) = true := c6
      (try (have c6b1 : decide (((rd_T51 l0 x5_1).f0.f0) = a1_0 && (((rd_T51 l0 x5_1).f0.f1) == a1_1)) = true := by simpa using c6))
      (try (have c6b2 : (((rd_T51 l0 x5_1).f0.f0) == a1_0 && (((rd_T51 l0 x5_1).f0.f1) == a1_1)) = true := by simpa using c6))
      clear c6
      obtain rfl := Option.some.inj H
      have p119 : 0 ≤ (x5_1 : Int) := of_decide_eq_true Z3
      have q119 : x5_1 < (l0.length : Int) := of_decide_eq_true Z3
      obtain ⟨ad119, e119, hx119_0, hx119_1, hx119_2, hx119_3⟩ := at_T51 HR0.out x5_1 p119 q119
      cases e119
      replace hx119_0 := cx_ hx119_0
      replace hx119_1 := cx_ hx119_1
      replace hx119_2 := cx_ hx119_2
      replace hx119_3 := cx_ hx119_3
      replace p119 := eq_true p119
      replace q119 := eq_true q119
      obtain ⟨hcz7_0, hcz7_1, hfz7_0, hfz7_1⟩ := bz2_ BK118
      go_wp2
      repeat (go_quiet (fail); try go_wp2)
      go_ret
      exact ⟨by first | rfl | (simp [errW_none, errW_some] <;> rfl) | (simp [*, errW_none, errW_some] <;> rfl), hb_⟩
     ·rw [if_neg c6] at H
      have c6b0 : (((rd_T51 l0 x5_1).f0.f0) == a1_0 && (((rd_T51 l0 x5_1).f0.f1) == a1_1)) = false := by simpa using c6
      (try (have c6b1 : decide (((rd_T51 l0 x5_1).f0.f0) = a1_0 && (((rd_T51 l0 x5_1).f0.f1) == a1_1)) = false := by simpa using c6))
      (try (have c6b2 : (((rd_T51 l0 x5_1).f0.f0) == a1_0 && (((rd_T51 l0 x5_1).f0.f1) == a1_1)) = false := by simpa using c6))
      (try (have c6b3 : ¬ (((rd_T51 l0 x5_1).f0.f0) = a1_0 && (((rd_T51 l0 x5_1).f0.f1) == a1_1)) := by simpa using c6))
      clear c6
      have H' := Aside0.mk H
      clear H
      have p119 : 0 ≤ (x5_1 : Int) := of_decide_eq_true Z3
      have q119 : x5_1 < (l0.length : Int) := of_decide_eq_true Z3
      obtain ⟨ad119, e119, hx119_0, hx119_1, hx119_2, hx119_3⟩ := at_T51 HR0.out x5_1 p119 q119
      cases e119
      replace hx119_0 := cx_ hx119_0
      replace hx119_1 := cx_ hx119_1
      replace hx119_2 := cx_ hx119_2
      replace hx119_3 := cx_ hx119_3
      replace p119 := eq_true p119
      replace q119 := eq_true q119
      obtain ⟨hcz8_0, hcz8_1, hfz8_0, hfz8_1⟩ := bz2_ BK118
      go_wp2
      repeat (go_quiet (fail); try go_wp2)
      go_roundg k1
      case measure => have := HK1.out; omega
      case rel => exact ⟨(wrap64 (x5_1 + 1)), Z4, H', ⟨by have := HK1.out; omega⟩, ⟨bo_ BK118⟩, ⟨hb_⟩⟩
    ·rw [if_neg c5] at H
     exact absurd H (by simp)
   ·rw [if_neg c4] at H
    have c4b0 : decide (x5_1 < (l0.length : Int)) = false := decide_eq_false c4
    clear c4
    obtain rfl := Option.some.inj H
    go_wp2
    repeat (go_quiet (fail); try go_wp2)
    go_ret
    exact ⟨by first | rfl | (simp [errW_none, errW_some] <;> rfl) | (simp [*, errW_none, errW_some] <;> rfl), hb_⟩
end Go.Proofs.Ytckhjehibjdjdaa.P
