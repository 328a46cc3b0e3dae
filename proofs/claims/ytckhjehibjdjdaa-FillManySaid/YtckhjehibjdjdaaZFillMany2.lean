/- FillMany: part 2 of the walk and of the plain law that it comes to. No condition. -/
import Derived.Test.YtckhjehibjdjdaaZFillMany1
import Derived.ArgAppend
import Derived.Below
import Derived.BigQuiet
import Derived.BigRegion
import Derived.Carry
import Derived.Deep.AppendLies
import Derived.Deep.CutBlock
import Derived.Deep.DeepCutAuto
import Derived.Deep.Draws
import Derived.Deep.LoopGhost
import Derived.Deep.OwnRows
import Derived.Deep.QuietTactic
import Derived.Deep.RegionHeld3
import Derived.DeepKeys3
import Derived.KernelRfl
import Derived.Laws.Bits64
import Derived.Laws.Bits64b
import Derived.Laws.BitsLemmas
import Derived.Laws.BytesArg
import Derived.Laws.IdiomCopy
import Derived.Laws.MakeOwn
import Derived.Laws.OwnMore
import Derived.Laws.Rows
import Derived.Laws.Slices
import Derived.Lib.AppendStr
import Derived.Lib.ConvBytes
import Derived.Lib.SliceRun
import Derived.LoopIn
import Derived.LoopN
import Derived.LoopNIn
import Derived.Maps.AppendAt
import Derived.Maps.Keyed
import Derived.Maps.Own
import Derived.Maps.OwnOps
import Derived.Maps.OwnSet
import Derived.Maps.Views
import Derived.OrdersHeld
import Derived.Outline
import Derived.OwnWalk
import Derived.OwnWalkIn
import Derived.RangeFuncBound
import Derived.RangeFuncBox
import Derived.RangeFuncCalls
import Derived.RangeFuncFrom
import Derived.RangeFuncLeaves
import Derived.RowKit
import Derived.RowKit3
import Derived.Shelf.Abstract
import Derived.Shelf.RegionOpen
import Derived.StillTailTactics
import Derived.Tactics
import Derived.TacticsInMore
import Derived.WalkKit
import Derived.WideLaws
set_option linter.unusedVariables false
set_option linter.unusedSimpArgs false
namespace Go.Proofs.Ytckhjehibjdjdaa.P
open Go.RowKit Go.Shelf Go.Proofs.YtckhjehibjdjdaaW.PrintWords Go.Proofs.YtckhjehibjdjdaaW.PrintLast Go.Proofs.YtckhjehibjdjdaaW.PrintMore
attribute [local go_sem] Oper.semAt_some
theorem srt_le {V : List HV} (hV : Srt hkey V) {i j : Nat} {x y : HV} (hij : i ≤ j) (hx : V[i]? = some x) (hy : V[j]? = some y) : hkey x ≤ hkey y := by
 obtain ⟨hi, rfl⟩ := List.getElem?_eq_some_iff.1 hx
 obtain ⟨hj, rfl⟩ := List.getElem?_eq_some_iff.1 hy
 by_cases e : i = j
 ·subst e; exact Int.le_refl _
 ·exact List.pairwise_iff_getElem.1 hV i j hi hj (by omega)
theorem split12 {U V : List HV} (hU : Srt hkey U) (hV : Srt hkey V) {p q : Nat} (hp : p ≤ U.length) (h : p = 0 ∨ V.length ≤ q ∨ ∀ x y, U[p - 1]? = some x → V[q]? = some y → hkey x ≤ hkey y) : ∀ x ∈ U.take p, ∀ y ∈ V.drop q, hkey x ≤ hkey y := fun x hx y hy => by
 obtain ⟨i, hi, rfl⟩ := List.mem_iff_getElem.1 hx
 obtain ⟨j, hj, rfl⟩ := List.mem_iff_getElem.1 hy
 rw [List.length_take] at hi
 rw [List.length_drop] at hj
 rw [List.getElem_take, List.getElem_drop]
 rcases h with h | h | h
 ·omega
 ·omega
 ·have h1 := srt_le hU (i := i) (j := p - 1) (by omega) (List.getElem?_eq_getElem (by omega)) (List.getElem?_eq_getElem (by omega))
  have h2 := srt_le hV (i := q) (j := q + j) (by omega) (List.getElem?_eq_getElem (by omega)) (List.getElem?_eq_getElem (by omega))
  have h3 := h _ _ (List.getElem?_eq_getElem (show p - 1 < U.length by omega)) (List.getElem?_eq_getElem (show q < V.length by omega))
  omega
theorem split21 {U V : List HV} (hU : Srt hkey U) (hV : Srt hkey V) {p q : Nat} (hq : q ≤ V.length) (h : U.length ≤ p ∨ q = 0 ∨ ∀ x y, U[p]? = some x → V[q - 1]? = some y → hkey y < hkey x) : ∀ x ∈ U.drop p, ∀ y ∈ V.take q, hkey y < hkey x := fun x hx y hy => by
 obtain ⟨i, hi, rfl⟩ := List.mem_iff_getElem.1 hx
 obtain ⟨j, hj, rfl⟩ := List.mem_iff_getElem.1 hy
 rw [List.length_drop] at hi
 rw [List.length_take] at hj
 rw [List.getElem_take, List.getElem_drop]
 rcases h with h | h | h
 ·omega
 ·omega
 ·have h1 := srt_le hU (i := p) (j := p + i) (by omega) (List.getElem?_eq_getElem (by omega)) (List.getElem?_eq_getElem (by omega))
  have h2 := srt_le hV (i := j) (j := q - 1) (by omega) (List.getElem?_eq_getElem (by omega)) (List.getElem?_eq_getElem (by omega))
  have h3 := h _ _ (List.getElem?_eq_getElem (show p < U.length by omega)) (List.getElem?_eq_getElem (show q - 1 < V.length by omega))
  omega
def SymC (sz : Nat) : Prop := ∀ (g n cap base a m b : Nat) (ok : Nat → Prop) (X U V Z : List HV) (w : World), U.length + V.length = sz → Kd.R kh 41 w base ok (.slice (some ⟨g, 0, none⟩) n cap) (X ++ (U ++ (V ++ Z))) → a = X.length → m = X.length + U.length → b = X.length + U.length + V.length → 0 < U.length → 0 < V.length → Srt hkey U → Srt hkey V → n ≤ 1000000000000 → (∀ k, ok k → k < w.heap.size) →
  Calls Try.prog 121 #[.slice (some ⟨g, 0, none⟩) n cap, .int .i64 a, .int .i64 m, .int .i64 b, .func (.func 72) #[] #[]] w fun e w' => e = .returned (.tuple #[]) ∧ Kd.R kh 41 w' base ok (.slice (some ⟨g, 0, none⟩) n cap) (X ++ (mrg hkey U V ++ Z)) ∧ w.grownBy w' (some g)
set_option maxHeartbeats 16000000 in
set_option maxRecDepth 100000 in
theorem symMerge_gen (sz : Nat) (IH : ∀ s, s < sz → SymC s) (g n cap base a m b : Nat) (ok : Nat → Prop) (X U V Z : List HV) (w : World) (hsz : U.length + V.length = sz) (hr : Kd.R kh 41 w base ok (.slice (some ⟨g, 0, none⟩) n cap) (X ++ (U ++ (V ++ Z)))) (ha : a = X.length) (hm : m = X.length + U.length) (hb : b = X.length + U.length + V.length) (hU2 : 1 < U.length) (hV2 : 1 < V.length) (hU : Srt hkey U) (hV : Srt hkey V) (hn : n ≤ 1000000000000) (hok : ∀ k, ok k → k < w.heap.size) :
  Calls Try.prog 121 #[.slice (some ⟨g, 0, none⟩) n cap, .int .i64 a, .int .i64 m, .int .i64 b, .func (.func 72) #[] #[]] w fun e w' => e = .returned (.tuple #[]) ∧ Kd.R kh 41 w' base ok (.slice (some ⟨g, 0, none⟩) n cap) (X ++ (mrg hkey U V ++ Z)) ∧ w.grownBy w' (some g) := by
 have hu41 := Try.underlying41
 have HR := m_ hr
 have HOK := m_ hok
 have HS := m_ (And.intro hU hV)
 have HIH := m_ IH
 have hxl := (Kd.R_reads' hr).1
 simp only [List.length_append] at hxl
 obtain ⟨mid, hmid⟩ : ∃ mid, mid = (a + b) / 2 := ⟨_, rfl⟩
 have bm : a + 1 < m ∧ m + 1 < b ∧ b ≤ n ∧ a < mid ∧ mid < b ∧ 2 * mid ≤ a + b ∧ a + b ≤ 2 * mid + 1 := by omega
 obtain ⟨b1, b2, b3, b4, b5, b6, b7⟩ := bm
 obtain ⟨lo, hi, hlh⟩ : ∃ lo hi : Nat, (mid < m ∧ lo + b = mid + m ∧ hi = mid) ∨ (¬ mid < m ∧ lo = a ∧ hi = m) := by
  by_cases h : mid < m
  ·exact ⟨mid + m - b, mid, .inl ⟨h, by omega, rfl⟩⟩
  ·exact ⟨a, m, .inr ⟨h, rfl, rfl⟩⟩
 have bl : a ≤ lo ∧ lo ≤ hi ∧ hi ≤ m ∧ hi ≤ mid ∧ mid + m ≤ lo + b := by omega
 obtain ⟨l1, l2, l3, l4, l5⟩ := bl
 have HLH := m_ hlh
 have hma : ((m : Int) - (a : Int) == 1) = false := by simp; omega
 have hbm : ((b : Int) - (m : Int) == 1) = false := by simp; omega
 have hmd : ((a : Int) + (b : Int)) / 2 = (mid : Int) := by omega
 have HLN := m_ (show X.length = a ∧ U.length = m - a ∧ V.length = b - m ∧ U.length + V.length = sz from by omega)
 clear hr hok hU hV hxl hm ha hb hU2 hV2 IH hsz hmid
 rcases hlh with ⟨q1, q2, q3⟩ | ⟨q1, q2, q3⟩
 ·have t1 : decide ((mid : Int) < (m : Int)) = true := by simp; omega
  have t2 : (mid : Int) + (m : Int) - (b : Int) = (lo : Int) := by omega
  have t3 : (mid : Int) < (m : Int) := by omega
  subst q3
  clear q2 t1
  go_enter Try.func121, Try.ntmps121
  go_wp2
  go_loopw [20, 21] (fun v20 v21 wr => ∃ (s r : Nat), v20 = .int .i64 (s : Int) ∧ v21 = .int .i64 (r : Int) ∧ lo ≤ s ∧ s ≤ r ∧ r ≤ hi ∧ A_ (∀ c x y, lo ≤ c → c < s → U[c - a]? = some x → V[hi + m - 1 - c - m]? = some y → hkey x ≤ hkey y) ∧ A_ (∀ c x y, r ≤ c → c < hi → U[c - a]? = some x → V[hi + m - 1 - c - m]? = some y → hkey y < hkey x) ∧
   A_ (Kd.R kh 41 wr base ok (.slice (some ⟨g, 0, none⟩) n cap) (X ++ (U ++ (V ++ Z)))) ∧ A_ (w.grownBy wr (some g))) (fun v20 v21 _ => (intOf v21).toNat - (intOf v20).toNat)
  case atStart => exact ⟨lo, hi, rfl, rfl, Nat.le_refl _, l2, Nat.le_refl _, ⟨fun c x y h1 h2 => by omega⟩, ⟨fun c x y h1 h2 => by omega⟩, HR, ⟨c3_ _ _⟩⟩
  case round =>
   clear HR
   obtain ⟨s, r, rfl, rfl, hls, hsr, hrh, HT, HD, HA, HG⟩ := hrel
   by_cases hlt : s < r
   ·have hlt' : (s : Int) < r := by omega
    obtain ⟨c, hc⟩ : ∃ c, c = (s + r) / 2 := ⟨_, rfl⟩
    have hc1 : s ≤ c ∧ c < r := by omega
    obtain ⟨hc2, hc3⟩ := hc1
    obtain ⟨d, hd⟩ : ∃ d, d = hi + m - 1 - c := ⟨_, rfl⟩
    have hd1 : m ≤ d ∧ d < b := by omega
    have hxu : U[c - a]? = some _ := List.getElem?_eq_getElem (show c - a < U.length by have := HLN.out; omega)
    have hyv : V[d - m]? = some _ := List.getElem?_eq_getElem (show d - m < V.length by have := HLN.out; omega)
    generalize U[c - a]'_ = x at *
    generalize V[d - m]'_ = y at *
    have hrx : (X ++ (U ++ (V ++ Z)))[c]? = some x := by rw [List.getElem?_append_right Z8, List.getElem?_append_left Z8, show c - X.length = c - a by have := HLN.out; omega]; exact hxu
    have hry : (X ++ (U ++ (V ++ Z)))[d]? = some y := by rw [List.getElem?_append_right Z8, List.getElem?_append_right Z8, List.getElem?_append_left Z8, show d - X.length - U.length = d - m by have := HLN.out; omega]; exact hyv
    obtain ⟨x0, x1, x2, x3, x4⟩ := at_kh HA.out c x hrx
    obtain ⟨y0, y1, y2, y3, y4⟩ := at_kh HA.out d y hry
    have HXU := m_ hxu
    have HYV := m_ hyv
    have HDD := m_ hd
    have hcc : ((s : Int) + (r : Int)) / 2 = (c : Int) := by omega
    have hdd : (hi : Int) + (m : Int) - 1 - (c : Int) = (d : Int) := by omega
    have hdw : IntKind.i64.wrap ((hi : Int) + (m : Int) - 1 - (c : Int)) = (d : Int) := by rw [IntKind.wrap_i64]; omega
    have hdw2 : IntKind.i64.wrap (d : Int) = (d : Int) := by rw [IntKind.wrap_i64]; omega
    have j0 : (c : Int) < n := by omega
    have j1 : (d : Int) < n := by omega
    have c0 : (0 : Int) ≤ (s : Int) + (r : Int) := by omega
    have c1 : (s : Int) + (r : Int) ≤ 2000000000000 := by omega
    clear hxu hyv hrx hry hd hc
    go_wp2
    go_still_tail 11, (by kernel_rfl)
    change wpList _ _ _ _ _ wr.drew
    have hAd := Kd.R_drew HA.out
    have hGd := grown_drew HG.out
    clear x0 x1 x2 x3 x4 y0 y1 y2 y3 y4
    generalize wr.drew = w3 at *
    have HA3 := m_ hAd
    have HG3 := m_ hGd
    clear hAd hGd HA HG
    have hcl := cmpI_lt y.1.f2 x.1.f2
    by_cases hlt2 : hkey y < hkey x
    ·rw [decide_eq_true (show y.1.f2 < x.1.f2 from hlt2)] at hcl
     have HLT := m_ hlt2
     clear hlt2
     go_wp2_with (go_at_call 72; refine (cmpH_any y x _).mono ?_; rintro e w4 ⟨rfl, hb4⟩; have HA4 := m_ (Kd.R_below HA3.out hb4); have HG4 := m_ (d2_ HG3.out hb4); clear hb4)
     go_roundw
     case rel => exact ⟨s, c, rfl, by first | rfl | exact int_i64 (by omega), hls, hc2, by omega, HT, ⟨fun c' x' y' h1 h2 h3 h4 => by
      by_cases e : r ≤ c'
      ·exact HD.out c' x' y' e h2 h3 h4
      ·have k1 := srt_le HS.out.1 (i := c - a) (j := c' - a) (by omega) HXU.out h3
       have k2 := srt_le HS.out.2 (i := hi + m - 1 - c' - m) (j := d - m) (by have := HDD.out; omega) h4 HYV.out
       have := HLT.out
       omega⟩, HA4, HG4⟩
     case measure => simp [intOf]; omega
    ·rw [decide_eq_false (show ¬ y.1.f2 < x.1.f2 from hlt2)] at hcl
     have HLT := m_ (show hkey x ≤ hkey y by omega)
     clear hlt2
     go_wp2_with (go_at_call 72; refine (cmpH_any y x _).mono ?_; rintro e w4 ⟨rfl, hb4⟩; have HA4 := m_ (Kd.R_below HA3.out hb4); have HG4 := m_ (d2_ HG3.out hb4); clear hb4)
     go_roundw
     case rel => exact ⟨c + 1, r, by first | exact int_i64 (by omega) | go_num, rfl, by omega, by omega, hrh, ⟨fun c' x' y' h1 h2 h3 h4 => by
      by_cases e : c' < s
      ·exact HT.out c' x' y' h1 e h3 h4
      ·have k1 := srt_le HS.out.1 (i := c' - a) (j := c - a) (by omega) h3 HXU.out
       have k2 := srt_le HS.out.2 (i := d - m) (j := hi + m - 1 - c' - m) (by have := HDD.out; omega) HYV.out h4
       have := HLT.out
       omega⟩, HD, HA4, HG4⟩
     case measure => simp [intOf]; omega
   ·obtain rfl : s = r := by omega
    obtain ⟨e, he⟩ : ∃ e, e = hi + m - s := ⟨_, rfl⟩
    have he1 : m ≤ e ∧ e ≤ b ∧ e + s = hi + m := by omega
    obtain ⟨e1, e2, e3⟩ := he1
    have h12 := split12 HS.out.1 HS.out.2 (p := s - a) (q := e - m) Z8 (by
     by_cases h1 : s = a
     ·exact .inl (by omega)
     ·by_cases h2 : e = b
      ·exact .inr (.inl Z8)
      ·exact .inr (.inr fun x y hx hy => HT.out (s - 1) x y (by have := HLH.out; omega) (by omega) (by rw [show s - 1 - a = s - a - 1 by omega]; exact hx) (by rw [show hi + m - 1 - (s - 1) - m = e - m by omega]; exact hy)))
    have h21 := split21 HS.out.1 HS.out.2 (p := s - a) (q := e - m) Z8 (by
     by_cases h1 : s = m
     ·exact .inl Z8
     ·by_cases h2 : e = m
      ·exact .inr (.inl (by omega))
      ·exact .inr (.inr fun x y hx hy => HD.out s x y (by omega) (by have := HLH.out; omega) hx (by rw [show hi + m - 1 - s - m = e - m - 1 by omega]; exact hy)))
    have hU1 : U.take (s - a) ++ U.drop (s - a) = U := List.take_append_drop _ U
    have hV1 : V.take (e - m) ++ V.drop (e - m) = V := List.take_append_drop _ V
    have hml := mrg_split hkey _ _ _ _ h12 h21
    rw [hU1, hV1] at hml
    have hS1 : Srt hkey (U.take (s - a)) ∧ Srt hkey (U.drop (s - a)) ∧ Srt hkey (V.take (e - m)) ∧ Srt hkey (V.drop (e - m)) := ⟨HS.out.1.sublist (List.take_sublist _ _), HS.out.1.sublist (List.drop_sublist _ _), HS.out.2.sublist (List.take_sublist _ _), HS.out.2.sublist (List.drop_sublist _ _)⟩
    have hl1 : (U.take (s - a)).length = s - a ∧ (U.drop (s - a)).length = m - s ∧ (V.take (e - m)).length = e - m ∧ (V.drop (e - m)).length = b - e := by
     rw [List.length_take, List.length_drop, List.length_take, List.length_drop]; have := HLN.out; omega
    have hA0 := HA.out
    rw [← hU1, ← hV1] at hA0
    have HML := m_ hml
    generalize U.take (s - a) = U1 at *
    generalize U.drop (s - a) = U2 at *
    generalize V.take (e - m) = V1 at *
    generalize V.drop (e - m) = V2 at *
    have HS1 := m_ hS1
    have HL1 := m_ hl1
    have HA0 := m_ (show Kd.R kh 41 wr base ok (.slice (some ⟨g, 0, none⟩) n cap) (X ++ (U1 ++ (U2 ++ (V1 ++ (V2 ++ Z))))) from by simpa using hA0)
    have hok1 : ∀ k, ok k → k < wr.heap.size := fun k hk => Nat.lt_of_lt_of_le (HOK.out k hk) HG.out.size
    have HOK1 := m_ hok1
    have hen : (hi : Int) + (m : Int) - (s : Int) = (e : Int) := by omega
    have hbnd : a ≤ s ∧ s ≤ m ∧ s ≤ hi := by omega
    obtain ⟨n1, n2, n3⟩ := hbnd
    clear h12 h21 hU1 hV1 hml hS1 hl1 hA0 HA HT HD hok1 he
    have hcs : (a < s ∧ m < e ∧ s < m ∧ e < b) ∨ (a < s ∧ m < e ∧ s < m ∧ b ≤ e) ∨ (a < s ∧ m < e ∧ m ≤ s ∧ e < b) ∨ (a < s ∧ e ≤ m ∧ s < m ∧ e < b) ∨ (a < s ∧ e ≤ m ∧ m ≤ s ∧ e < b) ∨ (s ≤ a ∧ m < e ∧ s < m ∧ e < b) ∨ (s ≤ a ∧ m < e ∧ s < m ∧ b ≤ e) := by omega
    rcases hcs with ⟨k1, k2, k3, k4⟩ | ⟨k1, k2, k3, k4⟩ | ⟨k1, k2, k3, k4⟩ | ⟨k1, k2, k3, k4⟩ | ⟨k1, k2, k3, k4⟩ | ⟨k1, k2, k3, k4⟩ | ⟨k1, k2, k3, k4⟩
    ·have z1 : (s : Int) < (m : Int) := by omega
     have z2 : (m : Int) < (e : Int) := by omega
     have z3 : (a : Int) < (s : Int) := by omega
     have z4 : (s : Int) < (hi : Int) := by omega
     have z5 : (hi : Int) < (e : Int) := by omega
     have z6 : (e : Int) < (b : Int) := by omega
     have HRB := m_ (show Kd.R kh 41 wr base ok (.slice (some ⟨g, 0, none⟩) n cap) ((X ++ U1) ++ (U2 ++ (V1 ++ (V2 ++ Z)))) from by simpa using HA0.out)
     go_wp2_with (go_at_call 136; refine (rotate_any g n cap base s m e ok (X ++ U1) U2 V1 (V2 ++ Z) wr HRB.out Z2 Z2 Z2 Z3 Z3 hn HOK1.out).mono ?_; rintro e' w5 ⟨rfl, hr5, hg5⟩; have HR5 := m_ (show Kd.R kh 41 w5 base ok (.slice (some ⟨g, 0, none⟩) n cap) (X ++ (U1 ++ (V1 ++ (U2 ++ (V2 ++ Z))))) from by simpa using hr5); have HG5 := m_ (b1_ HG.out hg5); have HOK5 := m_ (fun k hk => Nat.lt_of_lt_of_le (HOK1.out k hk) hg5.size); clear hr5 hg5)
     refine (HIH.out (U1.length + V1.length) Z12 g n cap base a s hi ok X U1 V1 (U2 ++ (V2 ++ Z)) w5 rfl HR5.out Z8 Z11 Z11 Z3 Z3 HS1.out.1 HS1.out.2.2.1 hn HOK5.out).mono ?_
     rintro e' w6 ⟨rfl, hr6, hg6⟩
     have HR6 := m_ hr6
     have HG6 := m_ (b1_ HG5.out hg6)
     have HOK6 := m_ (fun k hk => Nat.lt_of_lt_of_le (HOK5.out k hk) hg6.size)
     clear hr6 hg6
     go_wp2_with fail
     have HML1 := m_ (show (X ++ mrg hkey U1 V1).length = hi from by rw [List.length_append, mrg_length]; have := HLN.out; have := HL1.out; omega)
     have HR7 := m_ (show Kd.R kh 41 w6 base ok (.slice (some ⟨g, 0, none⟩) n cap) ((X ++ mrg hkey U1 V1) ++ (U2 ++ (V2 ++ Z))) from by rw [List.append_assoc]; exact HR6.out)
     refine (HIH.out (U2.length + V2.length) Z12 g n cap base hi e b ok (X ++ mrg hkey U1 V1) U2 V2 Z w6 rfl HR7.out (by have := HML1.out; omega) Z10 Z10 Z3 Z3 HS1.out.2.1 HS1.out.2.2.2 hn HOK6.out).mono ?_
     rintro e' w7 ⟨rfl, hr7, hg7⟩
     have HR8 := m_ hr7
     have HG8 := m_ (b1_ HG6.out hg7)
     clear hr7 hg7
     go_wp2_with fail
     go_end0
     exact ⟨rfl, by rw [HML.out]; have := HR8.out; simpa using this, HG8.out⟩
    ·have z1 : (s : Int) < (m : Int) := by omega
     have z2 : (m : Int) < (e : Int) := by omega
     have z3 : (a : Int) < (s : Int) := by omega
     have z4 : (s : Int) < (hi : Int) := by omega
     have z5 : (hi : Int) < (e : Int) := by omega
     have z6 : decide ((e : Int) < (b : Int)) = false := by simp; omega
     have HRB := m_ (show Kd.R kh 41 wr base ok (.slice (some ⟨g, 0, none⟩) n cap) ((X ++ U1) ++ (U2 ++ (V1 ++ (V2 ++ Z)))) from by simpa using HA0.out)
     go_wp2_with (go_at_call 136; refine (rotate_any g n cap base s m e ok (X ++ U1) U2 V1 (V2 ++ Z) wr HRB.out Z2 Z2 Z2 Z3 Z3 hn HOK1.out).mono ?_; rintro e' w5 ⟨rfl, hr5, hg5⟩; have HR5 := m_ (show Kd.R kh 41 w5 base ok (.slice (some ⟨g, 0, none⟩) n cap) (X ++ (U1 ++ (V1 ++ (U2 ++ (V2 ++ Z))))) from by simpa using hr5); have HG5 := m_ (b1_ HG.out hg5); have HOK5 := m_ (fun k hk => Nat.lt_of_lt_of_le (HOK1.out k hk) hg5.size); clear hr5 hg5)
     refine (HIH.out (U1.length + V1.length) Z12 g n cap base a s hi ok X U1 V1 (U2 ++ (V2 ++ Z)) w5 rfl HR5.out Z8 Z11 Z11 Z3 Z3 HS1.out.1 HS1.out.2.2.1 hn HOK5.out).mono ?_
     rintro e' w6 ⟨rfl, hr6, hg6⟩
     have HR6 := m_ hr6
     have HG6 := m_ (b1_ HG5.out hg6)
     have HOK6 := m_ (fun k hk => Nat.lt_of_lt_of_le (HOK5.out k hk) hg6.size)
     clear hr6 hg6
     go_wp2_with fail
     have HML1 := m_ (show (X ++ mrg hkey U1 V1).length = hi from by rw [List.length_append, mrg_length]; have := HLN.out; have := HL1.out; omega)
     have HR7 := m_ (show Kd.R kh 41 w6 base ok (.slice (some ⟨g, 0, none⟩) n cap) ((X ++ mrg hkey U1 V1) ++ (U2 ++ (V2 ++ Z))) from by rw [List.append_assoc]; exact HR6.out)
     have hem : V2 = [] := List.eq_nil_of_length_eq_zero Z3
     have HR8 := m_ (show Kd.R kh 41 w6 base ok (.slice (some ⟨g, 0, none⟩) n cap) ((X ++ mrg hkey U1 V1) ++ (mrg hkey U2 V2 ++ Z)) from by have := HR7.out; rw [hem] at this ⊢; rw [mrg_nil_right]; simpa using this)
     have HG8 := HG6
     clear hem
     go_end0
     exact ⟨rfl, by rw [HML.out]; have := HR8.out; simpa using this, HG8.out⟩
    ·exfalso; omega
    ·have z1 : (s : Int) < (m : Int) := by omega
     have z2 : decide ((m : Int) < (e : Int)) = false := by simp; omega
     have z3 : (a : Int) < (s : Int) := by omega
     have z4 : decide ((s : Int) < (hi : Int)) = false := by simp; omega
     have z5 : (hi : Int) < (e : Int) := by omega
     have z6 : (e : Int) < (b : Int) := by omega
     have hem : V1 = [] := List.eq_nil_of_length_eq_zero Z3
     have HR5 := m_ (show Kd.R kh 41 wr base ok (.slice (some ⟨g, 0, none⟩) n cap) (X ++ (U1 ++ (V1 ++ (U2 ++ (V2 ++ Z))))) from by have := HA0.out; rw [hem] at this ⊢; simpa using this)
     have HG5 := HG
     have HOK5 := HOK1
     clear hem
     go_wp2_with fail
     have hem : V1 = [] := List.eq_nil_of_length_eq_zero Z3
     have HR6 := m_ (show Kd.R kh 41 wr base ok (.slice (some ⟨g, 0, none⟩) n cap) (X ++ (mrg hkey U1 V1 ++ (U2 ++ (V2 ++ Z)))) from by have := HR5.out; rw [hem] at this ⊢; rw [mrg_nil_right]; simpa using this)
     have HG6 := HG5
     have HOK6 := HOK5
     clear hem
     have HML1 := m_ (show (X ++ mrg hkey U1 V1).length = hi from by rw [List.length_append, mrg_length]; have := HLN.out; have := HL1.out; omega)
     have HR7 := m_ (show Kd.R kh 41 wr base ok (.slice (some ⟨g, 0, none⟩) n cap) ((X ++ mrg hkey U1 V1) ++ (U2 ++ (V2 ++ Z))) from by rw [List.append_assoc]; exact HR6.out)
     refine (HIH.out (U2.length + V2.length) Z12 g n cap base hi e b ok (X ++ mrg hkey U1 V1) U2 V2 Z wr rfl HR7.out (by have := HML1.out; omega) Z10 Z10 Z3 Z3 HS1.out.2.1 HS1.out.2.2.2 hn HOK6.out).mono ?_
     rintro e' w7 ⟨rfl, hr7, hg7⟩
     have HR8 := m_ hr7
     have HG8 := m_ (b1_ HG6.out hg7)
     clear hr7 hg7
     go_wp2_with fail
     go_end0
     exact ⟨rfl, by rw [HML.out]; have := HR8.out; simpa using this, HG8.out⟩
    ·exfalso; omega
    ·exfalso; omega
    ·have z1 : (s : Int) < (m : Int) := by omega
     have z2 : (m : Int) < (e : Int) := by omega
     have z3 : decide ((a : Int) < (s : Int)) = false := by simp; omega
     have z4 : (s : Int) < (hi : Int) := by omega
     have z5 : (hi : Int) < (e : Int) := by omega
     have z6 : decide ((e : Int) < (b : Int)) = false := by simp; omega
     have HRB := m_ (show Kd.R kh 41 wr base ok (.slice (some ⟨g, 0, none⟩) n cap) ((X ++ U1) ++ (U2 ++ (V1 ++ (V2 ++ Z)))) from by simpa using HA0.out)
     go_wp2_with (go_at_call 136; refine (rotate_any g n cap base s m e ok (X ++ U1) U2 V1 (V2 ++ Z) wr HRB.out Z2 Z2 Z2 Z3 Z3 hn HOK1.out).mono ?_; rintro e' w5 ⟨rfl, hr5, hg5⟩; have HR5 := m_ (show Kd.R kh 41 w5 base ok (.slice (some ⟨g, 0, none⟩) n cap) (X ++ (U1 ++ (V1 ++ (U2 ++ (V2 ++ Z))))) from by simpa using hr5); have HG5 := m_ (b1_ HG.out hg5); have HOK5 := m_ (fun k hk => Nat.lt_of_lt_of_le (HOK1.out k hk) hg5.size); clear hr5 hg5)
     have hem : U1 = [] := List.eq_nil_of_length_eq_zero Z3
     have HR6 := m_ (show Kd.R kh 41 w5 base ok (.slice (some ⟨g, 0, none⟩) n cap) (X ++ (mrg hkey U1 V1 ++ (U2 ++ (V2 ++ Z)))) from by have := HR5.out; rw [hem] at this ⊢; rw [mrg_nil_left]; simpa using this)
     have HG6 := HG5
     have HOK6 := HOK5
     clear hem
     have HML1 := m_ (show (X ++ mrg hkey U1 V1).length = hi from by rw [List.length_append, mrg_length]; have := HLN.out; have := HL1.out; omega)
     have HR7 := m_ (show Kd.R kh 41 w5 base ok (.slice (some ⟨g, 0, none⟩) n cap) ((X ++ mrg hkey U1 V1) ++ (U2 ++ (V2 ++ Z))) from by rw [List.append_assoc]; exact HR6.out)
     have hem : V2 = [] := List.eq_nil_of_length_eq_zero Z3
     have HR8 := m_ (show Kd.R kh 41 w5 base ok (.slice (some ⟨g, 0, none⟩) n cap) ((X ++ mrg hkey U1 V1) ++ (mrg hkey U2 V2 ++ Z)) from by have := HR7.out; rw [hem] at this ⊢; rw [mrg_nil_right]; simpa using this)
     have HG8 := HG6
     clear hem
     go_end0
     exact ⟨rfl, by rw [HML.out]; have := HR8.out; simpa using this, HG8.out⟩
 ·have t1 : decide ((mid : Int) < (m : Int)) = false := by simp; omega
  subst q2 q3
  go_enter Try.func121, Try.ntmps121
  go_wp2
  go_loopw [20, 21] (fun v20 v21 wr => ∃ (s r : Nat), v20 = .int .i64 (s : Int) ∧ v21 = .int .i64 (r : Int) ∧ lo ≤ s ∧ s ≤ r ∧ r ≤ hi ∧ A_ (∀ c x y, lo ≤ c → c < s → U[c - lo]? = some x → V[mid + hi - 1 - c - hi]? = some y → hkey x ≤ hkey y) ∧ A_ (∀ c x y, r ≤ c → c < hi → U[c - lo]? = some x → V[mid + hi - 1 - c - hi]? = some y → hkey y < hkey x) ∧
   A_ (Kd.R kh 41 wr base ok (.slice (some ⟨g, 0, none⟩) n cap) (X ++ (U ++ (V ++ Z)))) ∧ A_ (w.grownBy wr (some g))) (fun v20 v21 _ => (intOf v21).toNat - (intOf v20).toNat)
  case atStart => exact ⟨lo, hi, rfl, rfl, Nat.le_refl _, l2, Nat.le_refl _, ⟨fun c x y h1 h2 => by omega⟩, ⟨fun c x y h1 h2 => by omega⟩, HR, ⟨c3_ _ _⟩⟩
  case round =>
   clear HR
   obtain ⟨s, r, rfl, rfl, hls, hsr, hrh, HT, HD, HA, HG⟩ := hrel
   by_cases hlt : s < r
   ·have hlt' : (s : Int) < r := by omega
    obtain ⟨c, hc⟩ : ∃ c, c = (s + r) / 2 := ⟨_, rfl⟩
    have hc1 : s ≤ c ∧ c < r := by omega
    obtain ⟨hc2, hc3⟩ := hc1
    obtain ⟨d, hd⟩ : ∃ d, d = mid + hi - 1 - c := ⟨_, rfl⟩
    have hd1 : hi ≤ d ∧ d < b := by omega
    have hxu : U[c - lo]? = some _ := List.getElem?_eq_getElem (show c - lo < U.length by have := HLN.out; omega)
    have hyv : V[d - hi]? = some _ := List.getElem?_eq_getElem (show d - hi < V.length by have := HLN.out; omega)
    generalize U[c - lo]'_ = x at *
    generalize V[d - hi]'_ = y at *
    have hrx : (X ++ (U ++ (V ++ Z)))[c]? = some x := by rw [List.getElem?_append_right Z8, List.getElem?_append_left Z8, show c - X.length = c - lo by have := HLN.out; omega]; exact hxu
    have hry : (X ++ (U ++ (V ++ Z)))[d]? = some y := by rw [List.getElem?_append_right Z8, List.getElem?_append_right Z8, List.getElem?_append_left Z8, show d - X.length - U.length = d - hi by have := HLN.out; omega]; exact hyv
    obtain ⟨x0, x1, x2, x3, x4⟩ := at_kh HA.out c x hrx
    obtain ⟨y0, y1, y2, y3, y4⟩ := at_kh HA.out d y hry
    have HXU := m_ hxu
    have HYV := m_ hyv
    have HDD := m_ hd
    have hcc : ((s : Int) + (r : Int)) / 2 = (c : Int) := by omega
    have hdd : (mid : Int) + (hi : Int) - 1 - (c : Int) = (d : Int) := by omega
    have hdw : IntKind.i64.wrap ((mid : Int) + (hi : Int) - 1 - (c : Int)) = (d : Int) := by rw [IntKind.wrap_i64]; omega
    have hdw2 : IntKind.i64.wrap (d : Int) = (d : Int) := by rw [IntKind.wrap_i64]; omega
    have j0 : (c : Int) < n := by omega
    have j1 : (d : Int) < n := by omega
    have c0 : (0 : Int) ≤ (s : Int) + (r : Int) := by omega
    have c1 : (s : Int) + (r : Int) ≤ 2000000000000 := by omega
    clear hxu hyv hrx hry hd hc
    go_wp2
    go_still_tail 11, (by kernel_rfl)
    change wpList _ _ _ _ _ wr.drew
    have hAd := Kd.R_drew HA.out
    have hGd := grown_drew HG.out
    clear x0 x1 x2 x3 x4 y0 y1 y2 y3 y4
    generalize wr.drew = w3 at *
    have HA3 := m_ hAd
    have HG3 := m_ hGd
    clear hAd hGd HA HG
    have hcl := cmpI_lt y.1.f2 x.1.f2
    by_cases hlt2 : hkey y < hkey x
    ·rw [decide_eq_true (show y.1.f2 < x.1.f2 from hlt2)] at hcl
     have HLT := m_ hlt2
     clear hlt2
     go_wp2_with (go_at_call 72; refine (cmpH_any y x _).mono ?_; rintro e w4 ⟨rfl, hb4⟩; have HA4 := m_ (Kd.R_below HA3.out hb4); have HG4 := m_ (d2_ HG3.out hb4); clear hb4)
     go_roundw
     case rel => exact ⟨s, c, rfl, by first | rfl | exact int_i64 (by omega), hls, hc2, by omega, HT, ⟨fun c' x' y' h1 h2 h3 h4 => by
      by_cases e : r ≤ c'
      ·exact HD.out c' x' y' e h2 h3 h4
      ·have k1 := srt_le HS.out.1 (i := c - lo) (j := c' - lo) (by omega) HXU.out h3
       have k2 := srt_le HS.out.2 (i := mid + hi - 1 - c' - hi) (j := d - hi) (by have := HDD.out; omega) h4 HYV.out
       have := HLT.out
       omega⟩, HA4, HG4⟩
     case measure => simp [intOf]; omega
    ·rw [decide_eq_false (show ¬ y.1.f2 < x.1.f2 from hlt2)] at hcl
     have HLT := m_ (show hkey x ≤ hkey y by omega)
     clear hlt2
     go_wp2_with (go_at_call 72; refine (cmpH_any y x _).mono ?_; rintro e w4 ⟨rfl, hb4⟩; have HA4 := m_ (Kd.R_below HA3.out hb4); have HG4 := m_ (d2_ HG3.out hb4); clear hb4)
     go_roundw
     case rel => exact ⟨c + 1, r, by first | exact int_i64 (by omega) | go_num, rfl, by omega, by omega, hrh, ⟨fun c' x' y' h1 h2 h3 h4 => by
      by_cases e : c' < s
      ·exact HT.out c' x' y' h1 e h3 h4
      ·have k1 := srt_le HS.out.1 (i := c' - lo) (j := c - lo) (by omega) h3 HXU.out
       have k2 := srt_le HS.out.2 (i := d - hi) (j := mid + hi - 1 - c' - hi) (by have := HDD.out; omega) HYV.out h4
       have := HLT.out
       omega⟩, HD, HA4, HG4⟩
     case measure => simp [intOf]; omega
   ·obtain rfl : s = r := by omega
    obtain ⟨e, he⟩ : ∃ e, e = mid + hi - s := ⟨_, rfl⟩
    have he1 : hi ≤ e ∧ e ≤ b ∧ e + s = mid + hi := by omega
    obtain ⟨e1, e2, e3⟩ := he1
    have h12 := split12 HS.out.1 HS.out.2 (p := s - lo) (q := e - hi) Z8 (by
     by_cases h1 : s = lo
     ·exact .inl (by omega)
     ·by_cases h2 : e = b
      ·exact .inr (.inl Z8)
      ·exact .inr (.inr fun x y hx hy => HT.out (s - 1) x y (by have := HLH.out; omega) (by omega) (by rw [show s - 1 - lo = s - lo - 1 by omega]; exact hx) (by rw [show mid + hi - 1 - (s - 1) - hi = e - hi by omega]; exact hy)))
    have h21 := split21 HS.out.1 HS.out.2 (p := s - lo) (q := e - hi) Z8 (by
     by_cases h1 : s = hi
     ·exact .inl Z8
     ·by_cases h2 : e = hi
      ·exact .inr (.inl (by omega))
      ·exact .inr (.inr fun x y hx hy => HD.out s x y (by omega) (by have := HLH.out; omega) hx (by rw [show mid + hi - 1 - s - hi = e - hi - 1 by omega]; exact hy)))
    have hU1 : U.take (s - lo) ++ U.drop (s - lo) = U := List.take_append_drop _ U
    have hV1 : V.take (e - hi) ++ V.drop (e - hi) = V := List.take_append_drop _ V
    have hml := mrg_split hkey _ _ _ _ h12 h21
    rw [hU1, hV1] at hml
    have hS1 : Srt hkey (U.take (s - lo)) ∧ Srt hkey (U.drop (s - lo)) ∧ Srt hkey (V.take (e - hi)) ∧ Srt hkey (V.drop (e - hi)) := ⟨HS.out.1.sublist (List.take_sublist _ _), HS.out.1.sublist (List.drop_sublist _ _), HS.out.2.sublist (List.take_sublist _ _), HS.out.2.sublist (List.drop_sublist _ _)⟩
    have hl1 : (U.take (s - lo)).length = s - lo ∧ (U.drop (s - lo)).length = hi - s ∧ (V.take (e - hi)).length = e - hi ∧ (V.drop (e - hi)).length = b - e := by
     rw [List.length_take, List.length_drop, List.length_take, List.length_drop]; have := HLN.out; omega
    have hA0 := HA.out
    rw [← hU1, ← hV1] at hA0
    have HML := m_ hml
    generalize U.take (s - lo) = U1 at *
    generalize U.drop (s - lo) = U2 at *
    generalize V.take (e - hi) = V1 at *
    generalize V.drop (e - hi) = V2 at *
    have HS1 := m_ hS1
    have HL1 := m_ hl1
    have HA0 := m_ (show Kd.R kh 41 wr base ok (.slice (some ⟨g, 0, none⟩) n cap) (X ++ (U1 ++ (U2 ++ (V1 ++ (V2 ++ Z))))) from by simpa using hA0)
    have hok1 : ∀ k, ok k → k < wr.heap.size := fun k hk => Nat.lt_of_lt_of_le (HOK.out k hk) HG.out.size
    have HOK1 := m_ hok1
    have hen : (mid : Int) + (hi : Int) - (s : Int) = (e : Int) := by omega
    have hbnd : lo ≤ s ∧ s ≤ hi ∧ s ≤ mid := by omega
    obtain ⟨n1, n2, n3⟩ := hbnd
    clear h12 h21 hU1 hV1 hml hS1 hl1 hA0 HA HT HD hok1 he
    have hcs : (lo < s ∧ hi < e ∧ s < hi ∧ e < b) ∨ (lo < s ∧ hi < e ∧ s < hi ∧ b ≤ e) ∨ (lo < s ∧ hi < e ∧ hi ≤ s ∧ e < b) ∨ (lo < s ∧ e ≤ hi ∧ s < hi ∧ e < b) ∨ (lo < s ∧ e ≤ hi ∧ hi ≤ s ∧ e < b) ∨ (s ≤ lo ∧ hi < e ∧ s < hi ∧ e < b) ∨ (s ≤ lo ∧ hi < e ∧ s < hi ∧ b ≤ e) := by omega
    rcases hcs with ⟨k1, k2, k3, k4⟩ | ⟨k1, k2, k3, k4⟩ | ⟨k1, k2, k3, k4⟩ | ⟨k1, k2, k3, k4⟩ | ⟨k1, k2, k3, k4⟩ | ⟨k1, k2, k3, k4⟩ | ⟨k1, k2, k3, k4⟩
    ·have z1 : (s : Int) < (hi : Int) := by omega
     have z2 : (hi : Int) < (e : Int) := by omega
     have z3 : (lo : Int) < (s : Int) := by omega
     have z4 : (s : Int) < (mid : Int) := by omega
     have z5 : (mid : Int) < (e : Int) := by omega
     have z6 : (e : Int) < (b : Int) := by omega
     have HRB := m_ (show Kd.R kh 41 wr base ok (.slice (some ⟨g, 0, none⟩) n cap) ((X ++ U1) ++ (U2 ++ (V1 ++ (V2 ++ Z)))) from by simpa using HA0.out)
     go_wp2_with (go_at_call 136; refine (rotate_any g n cap base s hi e ok (X ++ U1) U2 V1 (V2 ++ Z) wr HRB.out Z2 Z2 Z2 Z3 Z3 hn HOK1.out).mono ?_; rintro e' w5 ⟨rfl, hr5, hg5⟩; have HR5 := m_ (show Kd.R kh 41 w5 base ok (.slice (some ⟨g, 0, none⟩) n cap) (X ++ (U1 ++ (V1 ++ (U2 ++ (V2 ++ Z))))) from by simpa using hr5); have HG5 := m_ (b1_ HG.out hg5); have HOK5 := m_ (fun k hk => Nat.lt_of_lt_of_le (HOK1.out k hk) hg5.size); clear hr5 hg5)
     refine (HIH.out (U1.length + V1.length) Z12 g n cap base lo s mid ok X U1 V1 (U2 ++ (V2 ++ Z)) w5 rfl HR5.out Z8 Z11 Z11 Z3 Z3 HS1.out.1 HS1.out.2.2.1 hn HOK5.out).mono ?_
     rintro e' w6 ⟨rfl, hr6, hg6⟩
     have HR6 := m_ hr6
     have HG6 := m_ (b1_ HG5.out hg6)
     have HOK6 := m_ (fun k hk => Nat.lt_of_lt_of_le (HOK5.out k hk) hg6.size)
     clear hr6 hg6
     go_wp2_with fail
     have HML1 := m_ (show (X ++ mrg hkey U1 V1).length = mid from by rw [List.length_append, mrg_length]; have := HLN.out; have := HL1.out; omega)
     have HR7 := m_ (show Kd.R kh 41 w6 base ok (.slice (some ⟨g, 0, none⟩) n cap) ((X ++ mrg hkey U1 V1) ++ (U2 ++ (V2 ++ Z))) from by rw [List.append_assoc]; exact HR6.out)
     refine (HIH.out (U2.length + V2.length) Z12 g n cap base mid e b ok (X ++ mrg hkey U1 V1) U2 V2 Z w6 rfl HR7.out (by have := HML1.out; omega) Z10 Z10 Z3 Z3 HS1.out.2.1 HS1.out.2.2.2 hn HOK6.out).mono ?_
     rintro e' w7 ⟨rfl, hr7, hg7⟩
     have HR8 := m_ hr7
     have HG8 := m_ (b1_ HG6.out hg7)
     clear hr7 hg7
     go_wp2_with fail
     go_end0
     exact ⟨rfl, by rw [HML.out]; have := HR8.out; simpa using this, HG8.out⟩
    ·exfalso; omega
    ·have z1 : decide ((s : Int) < (hi : Int)) = false := by simp; omega
     have z2 : (hi : Int) < (e : Int) := by omega
     have z3 : (lo : Int) < (s : Int) := by omega
     have z4 : (s : Int) < (mid : Int) := by omega
     have z5 : decide ((mid : Int) < (e : Int)) = false := by simp; omega
     have z6 : (e : Int) < (b : Int) := by omega
     have hem : U2 = [] := List.eq_nil_of_length_eq_zero Z3
     have HR5 := m_ (show Kd.R kh 41 wr base ok (.slice (some ⟨g, 0, none⟩) n cap) (X ++ (U1 ++ (V1 ++ (U2 ++ (V2 ++ Z))))) from by have := HA0.out; rw [hem] at this ⊢; simpa using this)
     have HG5 := HG
     have HOK5 := HOK1
     clear hem
     go_wp2_with fail
     refine (HIH.out (U1.length + V1.length) Z12 g n cap base lo s mid ok X U1 V1 (U2 ++ (V2 ++ Z)) wr rfl HR5.out Z8 Z11 Z11 Z3 Z3 HS1.out.1 HS1.out.2.2.1 hn HOK5.out).mono ?_
     rintro e' w6 ⟨rfl, hr6, hg6⟩
     have HR6 := m_ hr6
     have HG6 := m_ (b1_ HG5.out hg6)
     have HOK6 := m_ (fun k hk => Nat.lt_of_lt_of_le (HOK5.out k hk) hg6.size)
     clear hr6 hg6
     go_wp2_with fail
     have HML1 := m_ (show (X ++ mrg hkey U1 V1).length = mid from by rw [List.length_append, mrg_length]; have := HLN.out; have := HL1.out; omega)
     have HR7 := m_ (show Kd.R kh 41 w6 base ok (.slice (some ⟨g, 0, none⟩) n cap) ((X ++ mrg hkey U1 V1) ++ (U2 ++ (V2 ++ Z))) from by rw [List.append_assoc]; exact HR6.out)
     have hem : U2 = [] := List.eq_nil_of_length_eq_zero Z3
     have HR8 := m_ (show Kd.R kh 41 w6 base ok (.slice (some ⟨g, 0, none⟩) n cap) ((X ++ mrg hkey U1 V1) ++ (mrg hkey U2 V2 ++ Z)) from by have := HR7.out; rw [hem] at this ⊢; rw [mrg_nil_left]; simpa using this)
     have HG8 := HG6
     clear hem
     go_end0
     exact ⟨rfl, by rw [HML.out]; have := HR8.out; simpa using this, HG8.out⟩
    ·exfalso; omega
    ·have z1 : decide ((s : Int) < (hi : Int)) = false := by simp; omega
     have z2 : decide ((hi : Int) < (e : Int)) = false := by simp; omega
     have z3 : (lo : Int) < (s : Int) := by omega
     have z4 : decide ((s : Int) < (mid : Int)) = false := by simp; omega
     have z5 : decide ((mid : Int) < (e : Int)) = false := by simp; omega
     have z6 : (e : Int) < (b : Int) := by omega
     have hem : U2 = [] := List.eq_nil_of_length_eq_zero Z3
     have HR5 := m_ (show Kd.R kh 41 wr base ok (.slice (some ⟨g, 0, none⟩) n cap) (X ++ (U1 ++ (V1 ++ (U2 ++ (V2 ++ Z))))) from by have := HA0.out; rw [hem] at this ⊢; simpa using this)
     have HG5 := HG
     have HOK5 := HOK1
     clear hem
     go_wp2_with fail
     have hem : V1 = [] := List.eq_nil_of_length_eq_zero Z3
     have HR6 := m_ (show Kd.R kh 41 wr base ok (.slice (some ⟨g, 0, none⟩) n cap) (X ++ (mrg hkey U1 V1 ++ (U2 ++ (V2 ++ Z)))) from by have := HR5.out; rw [hem] at this ⊢; rw [mrg_nil_right]; simpa using this)
     have HG6 := HG5
     have HOK6 := HOK5
     clear hem
     have HML1 := m_ (show (X ++ mrg hkey U1 V1).length = mid from by rw [List.length_append, mrg_length]; have := HLN.out; have := HL1.out; omega)
     have HR7 := m_ (show Kd.R kh 41 wr base ok (.slice (some ⟨g, 0, none⟩) n cap) ((X ++ mrg hkey U1 V1) ++ (U2 ++ (V2 ++ Z))) from by rw [List.append_assoc]; exact HR6.out)
     have hem : U2 = [] := List.eq_nil_of_length_eq_zero Z3
     have HR8 := m_ (show Kd.R kh 41 wr base ok (.slice (some ⟨g, 0, none⟩) n cap) ((X ++ mrg hkey U1 V1) ++ (mrg hkey U2 V2 ++ Z)) from by have := HR7.out; rw [hem] at this ⊢; rw [mrg_nil_left]; simpa using this)
     have HG8 := HG6
     clear hem
     go_end0
     exact ⟨rfl, by rw [HML.out]; have := HR8.out; simpa using this, HG8.out⟩
    ·have z1 : (s : Int) < (hi : Int) := by omega
     have z2 : (hi : Int) < (e : Int) := by omega
     have z3 : decide ((lo : Int) < (s : Int)) = false := by simp; omega
     have z4 : (s : Int) < (mid : Int) := by omega
     have z5 : (mid : Int) < (e : Int) := by omega
     have z6 : (e : Int) < (b : Int) := by omega
     have HRB := m_ (show Kd.R kh 41 wr base ok (.slice (some ⟨g, 0, none⟩) n cap) ((X ++ U1) ++ (U2 ++ (V1 ++ (V2 ++ Z)))) from by simpa using HA0.out)
     go_wp2_with (go_at_call 136; refine (rotate_any g n cap base s hi e ok (X ++ U1) U2 V1 (V2 ++ Z) wr HRB.out Z2 Z2 Z2 Z3 Z3 hn HOK1.out).mono ?_; rintro e' w5 ⟨rfl, hr5, hg5⟩; have HR5 := m_ (show Kd.R kh 41 w5 base ok (.slice (some ⟨g, 0, none⟩) n cap) (X ++ (U1 ++ (V1 ++ (U2 ++ (V2 ++ Z))))) from by simpa using hr5); have HG5 := m_ (b1_ HG.out hg5); have HOK5 := m_ (fun k hk => Nat.lt_of_lt_of_le (HOK1.out k hk) hg5.size); clear hr5 hg5)
     have hem : U1 = [] := List.eq_nil_of_length_eq_zero Z3
     have HR6 := m_ (show Kd.R kh 41 w5 base ok (.slice (some ⟨g, 0, none⟩) n cap) (X ++ (mrg hkey U1 V1 ++ (U2 ++ (V2 ++ Z)))) from by have := HR5.out; rw [hem] at this ⊢; rw [mrg_nil_left]; simpa using this)
     have HG6 := HG5
     have HOK6 := HOK5
     clear hem
     have HML1 := m_ (show (X ++ mrg hkey U1 V1).length = mid from by rw [List.length_append, mrg_length]; have := HLN.out; have := HL1.out; omega)
     have HR7 := m_ (show Kd.R kh 41 w5 base ok (.slice (some ⟨g, 0, none⟩) n cap) ((X ++ mrg hkey U1 V1) ++ (U2 ++ (V2 ++ Z))) from by rw [List.append_assoc]; exact HR6.out)
     refine (HIH.out (U2.length + V2.length) Z12 g n cap base mid e b ok (X ++ mrg hkey U1 V1) U2 V2 Z w5 rfl HR7.out (by have := HML1.out; omega) Z10 Z10 Z3 Z3 HS1.out.2.1 HS1.out.2.2.2 hn HOK6.out).mono ?_
     rintro e' w7 ⟨rfl, hr7, hg7⟩
     have HR8 := m_ hr7
     have HG8 := m_ (b1_ HG6.out hg7)
     clear hr7 hg7
     go_wp2_with fail
     go_end0
     exact ⟨rfl, by rw [HML.out]; have := HR8.out; simpa using this, HG8.out⟩
    ·have z1 : (s : Int) < (hi : Int) := by omega
     have z2 : (hi : Int) < (e : Int) := by omega
     have z3 : decide ((lo : Int) < (s : Int)) = false := by simp; omega
     have z4 : (s : Int) < (mid : Int) := by omega
     have z5 : (mid : Int) < (e : Int) := by omega
     have z6 : decide ((e : Int) < (b : Int)) = false := by simp; omega
     have HRB := m_ (show Kd.R kh 41 wr base ok (.slice (some ⟨g, 0, none⟩) n cap) ((X ++ U1) ++ (U2 ++ (V1 ++ (V2 ++ Z)))) from by simpa using HA0.out)
     go_wp2_with (go_at_call 136; refine (rotate_any g n cap base s hi e ok (X ++ U1) U2 V1 (V2 ++ Z) wr HRB.out Z2 Z2 Z2 Z3 Z3 hn HOK1.out).mono ?_; rintro e' w5 ⟨rfl, hr5, hg5⟩; have HR5 := m_ (show Kd.R kh 41 w5 base ok (.slice (some ⟨g, 0, none⟩) n cap) (X ++ (U1 ++ (V1 ++ (U2 ++ (V2 ++ Z))))) from by simpa using hr5); have HG5 := m_ (b1_ HG.out hg5); have HOK5 := m_ (fun k hk => Nat.lt_of_lt_of_le (HOK1.out k hk) hg5.size); clear hr5 hg5)
     have hem : U1 = [] := List.eq_nil_of_length_eq_zero Z3
     have HR6 := m_ (show Kd.R kh 41 w5 base ok (.slice (some ⟨g, 0, none⟩) n cap) (X ++ (mrg hkey U1 V1 ++ (U2 ++ (V2 ++ Z)))) from by have := HR5.out; rw [hem] at this ⊢; rw [mrg_nil_left]; simpa using this)
     have HG6 := HG5
     have HOK6 := HOK5
     clear hem
     have HML1 := m_ (show (X ++ mrg hkey U1 V1).length = mid from by rw [List.length_append, mrg_length]; have := HLN.out; have := HL1.out; omega)
     have HR7 := m_ (show Kd.R kh 41 w5 base ok (.slice (some ⟨g, 0, none⟩) n cap) ((X ++ mrg hkey U1 V1) ++ (U2 ++ (V2 ++ Z))) from by rw [List.append_assoc]; exact HR6.out)
     have hem : V2 = [] := List.eq_nil_of_length_eq_zero Z3
     have HR8 := m_ (show Kd.R kh 41 w5 base ok (.slice (some ⟨g, 0, none⟩) n cap) ((X ++ mrg hkey U1 V1) ++ (mrg hkey U2 V2 ++ Z)) from by have := HR7.out; rw [hem] at this ⊢; rw [mrg_nil_right]; simpa using this)
     have HG8 := HG6
     clear hem
     go_end0
     exact ⟨rfl, by rw [HML.out]; have := HR8.out; simpa using this, HG8.out⟩
theorem symMerge_any : ∀ sz, SymC sz := fun sz => by
 induction sz using Nat.strongRecOn with
 | ind sz IH =>
  intro g n cap base a m b ok X U V Z w hsz hr ha hm hb hU0 hV0 hU hV hn hok
  by_cases h1 : U.length = 1
  ·obtain ⟨u, rfl⟩ := List.length_eq_one_iff.1 h1
   exact symMerge_left g n cap base a m b ok X V Z u w hr ha (by simpa using hm) (by simpa using hb) hV hn hok
  ·by_cases h2 : V.length = 1
   ·obtain ⟨v, rfl⟩ := List.length_eq_one_iff.1 h2
    exact symMerge_right g n cap base a m b ok X U Z v w hr ha hm (by simpa using hb) (by omega) hU hn hok
   ·exact symMerge_gen sz IH g n cap base a m b ok X U V Z w hsz hr ha hm hb (by omega) (by omega) hU hV hn hok
theorem pre_get (X l : List HV) {a i : Nat} (ha : a = X.length) (h : a ≤ i) : (X ++ l)[i]? = l[i - a]? := by
 rw [List.getElem?_append_right (by omega), ha]
theorem pre_set (X l : List HV) {a i : Nat} (ha : a = X.length) (h : a ≤ i) (v : HV) : (X ++ l).set i v = X ++ l.set (i - a) v := by
 rw [List.set_append_right _ _ (by omega), ha]
set_option maxHeartbeats 8000000 in
set_option maxRecDepth 100000 in
theorem insert_gen (g n cap base a b c : Nat) (ok : Nat → Prop) (X xs : List (HV)) (w : World) (hr : Kd.R kh 41 w base ok (.slice (some ⟨g, 0, none⟩) n cap) (X ++ xs)) (ha : a = X.length) (hb : b = a + c) (hc : c ≤ xs.length) (hn : n ≤ 1000000000000) (h2 : 2 ≤ c) (hok : ∀ k, ok k → k < w.heap.size) :
  Calls Try.prog 120 #[.slice (some ⟨g, 0, none⟩) n cap, .int .i64 a, .int .i64 b, .func (.func 72) #[] #[]] w fun e w' => e = .returned (.tuple #[]) ∧ Kd.R kh 41 w' base ok (.slice (some ⟨g, 0, none⟩) n cap) (X ++ (isort hkey (xs.take c) ++ xs.drop c)) ∧ w.grownBy w' (some g) := by
 have hu41 := Try.underlying41
 have HR := m_ hr
 have hxl := (Kd.R_reads' hr).1
 rw [List.length_append] at hxl
 have bb : a + 2 ≤ b ∧ b ≤ n := by omega
 obtain ⟨bb1, bb2⟩ := bb
 have HXL := m_ (show X.length = a ∧ a + xs.length = n ∧ b = a + c ∧ c ≤ xs.length from by omega)
 clear hr hxl ha hb hc h2
 go_enter Try.func120, Try.ntmps120
 go_wp2
 go_loopw [8] (fun v8 wr => ∃ p : Nat, a + 1 ≤ p ∧ p ≤ b ∧ v8 = .int .i64 (p : Int) ∧ A_ (Kd.R kh 41 wr base ok (.slice (some ⟨g, 0, none⟩) n cap) (X ++ (isort hkey (xs.take (p - a)) ++ xs.drop (p - a)))) ∧ A_ (w.grownBy wr (some g))) (fun v8 _ => b - (intOf v8).toNat)
 case atStart => exact ⟨a + 1, Nat.le_refl _, by omega, by go_num, ⟨by
  have : isort hkey (xs.take (a + 1 - a)) ++ xs.drop (a + 1 - a) = xs := by
   rw [show a + 1 - a = 1 by omega]
   cases xs with
   | nil => rfl
   | cons x xs => simp [isort, insK]
  rw [this]; exact HR.out⟩, ⟨c3_ _ _⟩⟩
 case round =>
  obtain ⟨p, hi1, hib, rfl, HA, HG⟩ := hrel
  by_cases hlt : p < b
  ·have hlt' : (p : Int) < b := by omega
   obtain ⟨i, hpi⟩ : ∃ i, i = p - a := ⟨_, rfl⟩
   have hix : i < xs.length := by have := HXL.out; omega
   have hLl : (isort hkey (xs.take i)).length = i := by rw [(isort_perm hkey _).length_eq, List.length_take]; omega
   have hz : isort hkey (xs.take i) ++ xs.drop i = zAt (isort hkey (xs.take i)) xs[i] (xs.drop (i + 1)) i := by
    unfold zAt
    have t1 : (isort hkey (xs.take i)).take i = isort hkey (xs.take i) := List.take_of_length_le (by omega)
    have t2 : (isort hkey (xs.take i)).drop i = [] := List.drop_eq_nil_of_le (by omega)
    rw [t1, t2, List.nil_append, List.drop_eq_getElem_cons hix]
   have hstep := isort_take hkey xs i hix
   have hsrt := isort_sorted hkey (xs.take i)
   rw [← hpi, hz] at HA
   have hrl : (xs.drop (i + 1)).length = xs.length - (i + 1) := List.length_drop
   clear hz
   have HST := m_ hstep
   have HPI := m_ (And.intro hpi (show p + 1 - a = i + 1 by omega))
   clear hstep
   generalize hL : isort hkey (xs.take i) = L at *
   generalize hx : xs[i] = x at *
   generalize hre : xs.drop (i + 1) = rest at *
   have HSRT := m_ hsrt
   have HRE := m_ hre
   have HLL := m_ (show L.length = i ∧ a + i + 1 + rest.length = n ∧ i + a = p from by have := HXL.out; omega)
   clear hsrt hL hx hre hpi hLl hrl
   go_wp2
   obtain ⟨wo, hwo⟩ : ∃ wo : World, wo = wr := ⟨_, rfl⟩
   subst hwo
   go_loopg [9] p (fun kq v9 w2 => ∃ q : Nat, a ≤ q ∧ q ≤ p ∧ v9 = .int .i64 (q : Int) ∧ A_ (kq = q) ∧ A_ (∀ y ∈ L.drop (q - a), hkey x < hkey y) ∧ A_ (Kd.R kh 41 w2 base ok (.slice (some ⟨g, 0, none⟩) n cap) (X ++ zAt L x rest (q - a))) ∧ A_ (w.grownBy w2 (some g)))
   case atStart => exact ⟨p, by omega, Nat.le_refl _, rfl, ⟨rfl⟩, ⟨fun y hy => by rw [List.drop_eq_nil_of_le (by have := HLL.out; omega)] at hy; cases hy⟩, ⟨by rw [← HPI.out.1]; exact HA.out⟩, HG⟩
   case round =>
    clear HA HG
    obtain ⟨q, hqa, hj, rfl, HQ, HD, HA, HG⟩ := hrel
    by_cases hq0 : q ≤ a
    ·have hqe : q - a = 0 := by omega
     have hdone : X ++ (isort hkey (xs.take (p + 1 - a)) ++ xs.drop (p + 1 - a)) = X ++ zAt L x rest (q - a) := by
      have hd := HD.out
      rw [hqe] at hd ⊢
      rw [HPI.out.2, HST.out, HRE.out, insK_at hkey x L 0 (by simp) hd]
      simp [zAt]
     rw [← hdone] at HA
     have hd1 : decide ((a : Int) < (q : Int)) = false := by simp; omega
     have hd2 : decide (a < q) = false := by simp; omega
     clear hdone hqe
     go_wp2
     go_quiet (fail)
     go_wp2
     go_roundw
     case rel => exact ⟨p + 1, by omega, by omega, by go_num, HA, ⟨d2_ HG.out (c7_ (Below.refl _ _) _)⟩⟩
     case measure => simp [intOf]; omega
    ·obtain ⟨m, rfl⟩ : ∃ m, q = m + 1 := ⟨q - 1, by omega⟩
     have hm : m - a < L.length := by have := HLL.out; omega
     have hxp : (X ++ zAt L x rest (m + 1 - a))[m + 1]? = some x := by
      rw [pre_get X _ HXL.out.1.symm (by omega)]; exact zAt_get L x rest (m + 1 - a) (by omega)
     have hyp : (X ++ zAt L x rest (m + 1 - a))[m]? = some L[m - a] := by
      rw [pre_get X _ HXL.out.1.symm (by omega), show m + 1 - a = m - a + 1 by omega]; exact zAt_get1 L x rest (m - a) hm
     obtain ⟨x0, x1, x2, x3, x4⟩ := at_kh HA.out (m + 1) x hxp
     obtain ⟨y0, y1, y2, y3, y4⟩ := at_kh HA.out m L[m - a] hyp
     have hzs : ((X ++ zAt L x rest (m + 1 - a)).set (m + 1) L[m - a]).set m x = X ++ zAt L x rest (m - a) := by
      rw [pre_set X _ HXL.out.1.symm (by omega), pre_set X _ HXL.out.1.symm (by omega), show m + 1 - a = m - a + 1 by omega, zAt_step L x rest (m - a) hm]
     have hd := List.drop_eq_getElem_cons hm
     have ht := List.take_succ_eq_append_getElem hm
     generalize L[m - a] = y at *
     have HZS := m_ hzs
     have HXP := m_ hxp
     have HYP := m_ hyp
     have HDR := m_ hd
     have HTK := m_ ht
     clear hzs hd ht hxp hyp
     have e1 : IntKind.i64.wrap (m : Int) = (m : Int) := by rw [IntKind.wrap_i64]; omega
     have i0 : (0 : Int) ≤ (m : Int) + 1 := by omega
     have i1 : (a : Int) < (m : Int) + 1 := by omega
     have i2 : (m : Int) + 1 < n := by omega
     have i3 : (m : Int) < n := by omega
     have i4 : ((m : Int) + 1).toNat = m + 1 := by omega
     go_wp2
     go_still_tail 14, (by kernel_rfl)
     change wpList _ _ _ _ _ wr.drew
     have hAd := Kd.R_drew HA.out
     have hGd := grown_drew HG.out
     clear x0 x1 x2 x3 x4 y0 y1 y2 y3 y4
     generalize wr.drew = w3 at *
     have HA3 := m_ hAd
     have HG3 := m_ hGd
     clear hAd hGd HA HG
     by_cases hlt2 : hkey x < hkey y
     ·have hcmp : cmpI x.1.f2 y.1.f2 = -1 := by unfold hkey at hlt2; unfold cmpI; rw [if_pos hlt2]
      have HLT := m_ hlt2
      clear hlt2
      go_wp2_with (go_at_call 72; refine (cmpH_any x y _).mono ?_; rintro e w4 ⟨rfl, hb4⟩; rw [hcmp]; have HA4 := m_ (Kd.R_below HA3.out hb4); have HG4 := m_ (d2_ HG3.out hb4); clear hb4)
      obtain ⟨x0, x1, x2, x3, x4⟩ := at_kh HA4.out (m + 1) x HXP.out
      obtain ⟨y0, y1, y2, y3, y4⟩ := at_kh HA4.out m y HYP.out
      obtain ⟨g', cap', cur, hv, _, _, hh⟩ := ownh HA4.out (by rw [List.length_append, zAt_len _ _ _ _ (by omega)]; omega)
      injection hv with ha hn1 hc1
      injection ha with ha
      injection ha with ha
      subst ha
      clear hn1 hc1
      have z0 := a2_ hh ((m + 1) * 5)
      have z1 := a2_ hh ((m + 1) * 5 + 1)
      have z2 := a2_ hh ((m + 1) * 5 + 2)
      have z3 := a2_ hh ((m + 1) * 5 + 3)
      have z4 := a2_ hh ((m + 1) * 5 + 4)
      have v0 := a2_ hh (m * 5)
      have v1 := a2_ hh (m * 5 + 1)
      have v2 := a2_ hh (m * 5 + 2)
      have v3 := a2_ hh (m * 5 + 3)
      have v4 := a2_ hh (m * 5 + 4)
      clear hh
      have p1 := put_kh HA4.out (m + 1) (by omega) y
      have p2 := put_kh p1.1 m (by omega) x
      have hR5 := Kd.R_drew p2.1
      have hG5 := grown_drew (b1_ (b1_ HG4.out p1.2) p2.2)
      rw [HZS.out] at hR5
      simp only [hc, World.setCells, Nat.add_assoc, Nat.reduceAdd] at hR5 hG5
      have HR5 := m_ hR5
      have HG5 := m_ hG5
      clear hR5 hG5 p1 p2
      go_region
      revert HR5 HG5
      generalize World.drew _ = w5
      intro HR5 HG5
      go_wp2
      go_roundg m
      case rel => exact ⟨m, by omega, by omega, rfl, ⟨rfl⟩, ⟨fun z hz => by
       rw [HDR.out] at hz
       rcases List.mem_cons.1 hz with rfl | hz
       ·exact HLT.out
       ·exact HD.out z (by rw [show m + 1 - a = m - a + 1 by omega]; exact hz)⟩, HR5, HG5⟩
      case measure => have := HQ.out; omega
     ·have hcmp : decide (cmpI x.1.f2 y.1.f2 < 0) = false := by
       unfold hkey at hlt2; unfold cmpI; rw [if_neg hlt2]; split <;> simp
      have HLT := m_ hlt2
      clear hlt2
      go_wp2_with (go_at_call 72; refine (cmpH_any x y _).mono ?_; rintro e w4 ⟨rfl, hb4⟩; have HA4 := m_ (Kd.R_below HA3.out hb4); have HG4 := m_ (d2_ HG3.out hb4); clear hb4)
      have hdone : X ++ (isort hkey (xs.take (p + 1 - a)) ++ xs.drop (p + 1 - a)) = X ++ zAt L x rest (m + 1 - a) := by
       have hd := HD.out
       rw [show m + 1 - a = m - a + 1 by omega] at hd ⊢
       rw [HPI.out.2, HST.out, HRE.out, insK_at hkey x L (m - a + 1) (fun z hz => by
        rw [HTK.out] at hz
        have hp := HSRT.out
        rw [← List.take_append_drop (m - a) L, List.pairwise_append] at hp
        rcases List.mem_append.1 hz with hz | hz
        ·have := hp.2.2 z hz y (by rw [HDR.out]; simp)
         have := HLT.out
         omega
        ·obtain rfl := List.mem_singleton.1 hz
         have := HLT.out
         omega) hd]
       simp [zAt]
      rw [← hdone] at HA4
      clear hdone
      go_roundw
      case rel => exact ⟨p + 1, by omega, by omega, by go_num, HA4, HG4⟩
      case measure => simp [intOf]; omega
  ·have hlt' : ¬ (p : Int) < b := by omega
   obtain rfl : p = b := by omega
   have hpc : p - a = c := by have := HXL.out; omega
   rw [hpc] at HA
   go_wp2
   go_end0
   exact ⟨rfl, HA.out, HG.out⟩
end Go.Proofs.Ytckhjehibjdjdaa.P
namespace Go.Proofs.Ytckhjehibjdjdaa.P
section
variable {α : Type} (key : α → Int)
def sp (bs : Nat) : Nat → List α → List α
 | 0, _ => []
 | k + 1, l => isort key (l.take bs) ++ sp bs k (l.drop bs)
def sc (bs : Nat) (l : List α) : List α := sp key bs (l.length / bs) l ++ isort key (l.drop (bs * (l.length / bs)))
theorem isort_len (l : List α) : (isort key l).length = l.length := (isort_perm key l).length_eq
theorem sp_len (bs : Nat) : ∀ (k : Nat) (l : List α), bs * k ≤ l.length → (sp key bs k l).length = bs * k
 | 0, _, _ => by simp [sp]
 | k + 1, l, h => by
  rw [Nat.mul_succ] at h ⊢
  rw [sp, List.length_append, isort_len, List.length_take, sp_len bs k (l.drop bs) (by rw [List.length_drop]; omega)]
  omega
theorem sp_snoc (bs : Nat) : ∀ (k : Nat) (l : List α), sp key bs (k + 1) l = sp key bs k l ++ isort key ((l.drop (bs * k)).take bs)
 | 0, l => by simp [sp]
 | k + 1, l => by
  have e : (l.drop bs).drop (bs * k) = l.drop (bs * (k + 1)) := by rw [List.drop_drop]; congr 1; rw [Nat.mul_succ]; omega
  rw [sp, sp_snoc bs k (l.drop bs), sp, e, List.append_assoc]
theorem sc_small (bs : Nat) (l : List α) (h0 : 0 < bs) (h : l.length ≤ bs) : sc key bs l = isort key l := by
 unfold sc
 by_cases e : l.length = bs
 ·rw [e, Nat.div_self h0, sp, sp, List.take_of_length_le (by omega), List.drop_eq_nil_of_le (by omega)]
  simp [isort]
 ·rw [Nat.div_eq_of_lt (by omega)]; simp [sp]
theorem sc_cons (bs : Nat) (l : List α) (h0 : 0 < bs) (h : bs ≤ l.length) : sc key bs l = isort key (l.take bs) ++ sc key bs (l.drop bs) := by
 have e : l.length / bs = (l.drop bs).length / bs + 1 := by
  rw [List.length_drop]
  have : l.length = (l.length - bs) + bs := by omega
  rw [this, Nat.add_div_right _ h0]; simp
 have e2 : l.drop (bs * ((l.drop bs).length / bs + 1)) = (l.drop bs).drop (bs * ((l.drop bs).length / bs)) := by
  rw [List.drop_drop]; congr 1; rw [Nat.mul_succ]; omega
 unfold sc
 rw [e, sp, List.append_assoc, e2]
theorem sc_two (bs : Nat) (l : List α) (h0 : 0 < bs) (h : 2 * bs ≤ l.length) : sc key bs l = isort key (l.take bs) ++ (isort key ((l.drop bs).take bs) ++ sc key bs (l.drop (2 * bs))) := by
 rw [sc_cons key bs l h0 (by omega), sc_cons key bs (l.drop bs) h0 (by rw [List.length_drop]; omega), List.drop_drop, show bs + bs = 2 * bs by omega]
theorem take_two (bs : Nat) (l : List α) : l.take (2 * bs) = l.take bs ++ (l.drop bs).take bs := by
 rw [show 2 * bs = bs + bs by omega, List.take_add]
theorem sc_part (bs : Nat) (l : List α) (h0 : 0 < bs) (h1 : bs ≤ l.length) (h2 : l.length < 2 * bs) : sc key bs l = isort key (l.take bs) ++ isort key (l.drop bs) := by
 rw [sc_cons key bs l h0 h1, sc_small key bs (l.drop bs) h0 (by rw [List.length_drop]; omega)]
end
end Go.Proofs.Ytckhjehibjdjdaa.P
namespace Go.Proofs.Ytckhjehibjdjdaa.P
open Go.RowKit Go.Shelf Go.Proofs.YtckhjehibjdjdaaW.PrintWords Go.Proofs.YtckhjehibjdjdaaW.PrintLast Go.Proofs.YtckhjehibjdjdaaW.PrintMore
attribute [local go_sem] Oper.semAt_some
theorem insert_part (g n cap base a b c : Nat) (ok : Nat → Prop) (X xs : List (HV)) (w : World) (hr : Kd.R kh 41 w base ok (.slice (some ⟨g, 0, none⟩) n cap) (X ++ xs)) (ha : a = X.length) (hb : b = a + c) (hc : c ≤ xs.length) (hn : n ≤ 1000000000000) (hok : ∀ k, ok k → k < w.heap.size) :
  Calls Try.prog 120 #[.slice (some ⟨g, 0, none⟩) n cap, .int .i64 a, .int .i64 b, .func (.func 72) #[] #[]] w fun e w' => e = .returned (.tuple #[]) ∧ Kd.R kh 41 w' base ok (.slice (some ⟨g, 0, none⟩) n cap) (X ++ (isort hkey (xs.take c) ++ xs.drop c)) ∧ w.grownBy w' (some g) := by
 by_cases h2 : 2 ≤ c
 ·exact insert_gen g n cap base a b c ok X xs w hr ha hb hc hn h2 hok
 ·have hl := (Kd.R_reads' hr).1
  rw [List.length_append] at hl
  refine (insert_none (.slice (some ⟨g, 0, none⟩) n cap) a b (by omega) (by omega) w).mono ?_
  rintro e w' ⟨rfl, rfl⟩
  rw [isort_one hkey (xs.take c) (by rw [List.length_take]; omega), List.take_append_drop]
  exact ⟨rfl, hr, c3_ _ _⟩
set_option maxHeartbeats 16000000 in
set_option maxRecDepth 100000 in
theorem stable_gen (g n cap base : Nat) (ok : Nat → Prop) (xs : List HV) (w : World) (hr : Kd.R kh 41 w base ok (.slice (some ⟨g, 0, none⟩) n cap) xs) (hn : n ≤ 100000000000) (hok : ∀ k, ok k → k < w.heap.size) :
  Calls Try.prog 103 #[.slice (some ⟨g, 0, none⟩) n cap, .int .i64 n, .func (.func 72) #[] #[]] w fun e w' => e = .returned (.tuple #[]) ∧ Kd.R kh 41 w' base ok (.slice (some ⟨g, 0, none⟩) n cap) (isort hkey xs) ∧ w.grownBy w' (some g) := by
 have hxl := (Kd.R_reads' hr).1
 have HR := m_ hr
 have HOK := m_ hok
 have HXL := m_ hxl
 clear hr hok hxl
 go_enter Try.func103, Try.ntmps103
 go_wp2
 go_loopw [7, 8] (fun v7 v8 wr => ∃ (i a b : Nat), v7 = .int .i64 (a : Int) ∧ v8 = .int .i64 (b : Int) ∧ A_ (a = 20 * i ∧ b = 20 * i + 20) ∧ a ≤ n ∧ A_ (Kd.R kh 41 wr base ok (.slice (some ⟨g, 0, none⟩) n cap) (sp hkey 20 i xs ++ xs.drop (20 * i))) ∧ A_ (w.grownBy wr (some g))) (fun v7 _ _ => n - (intOf v7).toNat)
 case atStart => exact ⟨0, 0, 20, rfl, rfl, ⟨by omega⟩, Nat.zero_le _, ⟨by simpa [sp] using HR.out⟩, ⟨c3_ _ _⟩⟩
 case round =>
  clear HR
  obtain ⟨i, a, b, rfl, rfl, HI, han, HA, HG⟩ := hrel
  have hok1 : ∀ k, ok k → k < wr.heap.size := fun k hk => Nat.lt_of_lt_of_le (HOK.out k hk) HG.out.size
  by_cases hlt : b ≤ n
  ·have hlt' : (b : Int) ≤ n := by omega
   have HC := m_ (insert_part g n cap base a b 20 ok (sp hkey 20 i xs) (xs.drop (20 * i)) wr HA.out (by rw [sp_len hkey 20 i xs (by have := HI.out; have := HXL.out; omega)]; exact HI.out.1) (by have := HI.out; omega) (by rw [List.length_drop]; have := HI.out; have := HXL.out; omega) (by omega) hok1)
   have HE := m_ (show sp hkey 20 i xs ++ (isort hkey ((xs.drop (20 * i)).take 20) ++ (xs.drop (20 * i)).drop 20) = sp hkey 20 (i + 1) xs ++ xs.drop (20 * (i + 1)) from by
    rw [sp_snoc, List.append_assoc, List.drop_drop, Nat.mul_succ])
   clear hok1 HA
   go_wp2_with (go_at_call 120; refine HC.out.mono ?_; rintro e w5 ⟨rfl, hr5, hg5⟩; rw [HE.out] at hr5; have HR5 := m_ hr5; have HG5 := m_ (b1_ HG.out hg5); clear hr5 hg5)
   go_roundw
   case rel => exact ⟨i + 1, b, b + 20, rfl, by go_num, ⟨by have := HI.out; omega⟩, hlt, HR5, HG5⟩
   case measure => simp [intOf]; have := HI.out; omega
  ·have hlt' : ¬ (b : Int) ≤ n := by omega
   have hdiv : n / 20 = i := by have := HI.out; omega
   have hC := insert_part g n cap base a n (n - a) ok (sp hkey 20 i xs) (xs.drop (20 * i)) wr HA.out (by rw [sp_len hkey 20 i xs (by have := HI.out; have := HXL.out; omega)]; exact HI.out.1) (by omega) (by rw [List.length_drop]; have := HI.out; have := HXL.out; omega) (by omega) hok1
   have HE := m_ (show sp hkey 20 i xs ++ (isort hkey ((xs.drop (20 * i)).take (n - a)) ++ (xs.drop (20 * i)).drop (n - a)) = sc hkey 20 xs from by
    unfold sc
    rw [← HXL.out, hdiv, List.take_of_length_le (by rw [List.length_drop]; have := HI.out; have := HXL.out; omega), show (xs.drop (20 * i)).drop (n - a) = [] from List.drop_eq_nil_of_le (by rw [List.length_drop]; have := HI.out; have := HXL.out; omega), List.append_nil])
   have HC := m_ hC
   clear hok1 HA hC hdiv
   go_wp2_with (go_at_call 120; refine HC.out.mono ?_; rintro e w5 ⟨rfl, hr5, hg5⟩; rw [HE.out] at hr5; have HR5 := m_ hr5; have HG5 := m_ (b1_ HG.out hg5); clear hr5 hg5)
   clear HC HE HG HI hlt hlt' han
   go_loopw [6, 7, 8, 9] (fun v6 v7 v8 v9 wr => ∃ bs : Nat, v6 = .int .i64 (bs : Int) ∧ 20 ≤ bs ∧ bs ≤ 200000000000 ∧ A_ (Kd.R kh 41 wr base ok (.slice (some ⟨g, 0, none⟩) n cap) (sc hkey bs xs)) ∧ A_ (w.grownBy wr (some g))) (fun v6 _ _ _ _ => n - (intOf v6).toNat)
   case atStart => exact ⟨20, rfl, by omega, by omega, HR5, HG5⟩
   case round =>
    clear HR5 HG5
    obtain ⟨bs, rfl, hb20, hbM, HA, HG⟩ := hrel
    by_cases hbn : bs < n
    ·have hbn' : (bs : Int) < n := by omega
     go_wp2
     obtain ⟨wo, hwo⟩ : ∃ wo : World, wo = wr := ⟨_, rfl⟩
     subst hwo
     go_loopw [7, 8] (fun v7 v8 wr => ∃ (i a b : Nat), v7 = .int .i64 (a : Int) ∧ v8 = .int .i64 (b : Int) ∧ A_ (a = 2 * bs * i ∧ b = 2 * bs * i + 2 * bs) ∧ a ≤ n ∧ b ≤ n + 2 * bs ∧ A_ (Kd.R kh 41 wr base ok (.slice (some ⟨g, 0, none⟩) n cap) (sp hkey (2 * bs) i xs ++ sc hkey bs (xs.drop (2 * bs * i)))) ∧ A_ (w.grownBy wr (some g))) (fun v7 _ _ => n - (intOf v7).toNat)
     case atStart => exact ⟨0, 0, 2 * bs, rfl, by go_num, ⟨by omega⟩, Nat.zero_le _, by omega, ⟨by simpa [sp] using HA.out⟩, HG⟩
     case round =>
      clear HA HG
      obtain ⟨i, a, b, rfl, rfl, HI, han, hbb, HA, HG⟩ := hrel
      have hok1 : ∀ k, ok k → k < wr.heap.size := fun k hk => Nat.lt_of_lt_of_le (HOK.out k hk) HG.out.size
      have hspl : (sp hkey (2 * bs) i xs).length = a := by rw [sp_len hkey (2 * bs) i xs (by have := HI.out; have := HXL.out; omega)]; exact HI.out.1.symm
      by_cases hlt : b ≤ n
      ·have hlt' : (b : Int) ≤ n := by omega
       have hll : 2 * bs ≤ (xs.drop (2 * bs * i)).length := by rw [List.length_drop]; have := HI.out; have := HXL.out; omega
       have h2 := sc_two hkey bs (xs.drop (2 * bs * i)) (by omega) hll
       have hAr := HA.out
       rw [h2] at hAr
       have l1 : (isort hkey ((xs.drop (2 * bs * i)).take bs)).length = bs := by rw [isort_len, List.length_take]; omega
       have l2 : (isort hkey (((xs.drop (2 * bs * i)).drop bs).take bs)).length = bs := by rw [isort_len, List.length_take, List.length_drop]; omega
       have HC := m_ (symMerge_any _ g n cap base a (a + bs) b ok _ _ _ _ wr rfl hAr hspl.symm (by omega) (by have := HI.out; omega) (by omega) (by omega) (isort_sorted hkey _) (isort_sorted hkey _) (by omega) hok1)
       have HE := m_ (show sp hkey (2 * bs) i xs ++ (mrg hkey (isort hkey ((xs.drop (2 * bs * i)).take bs)) (isort hkey (((xs.drop (2 * bs * i)).drop bs).take bs)) ++ sc hkey bs ((xs.drop (2 * bs * i)).drop (2 * bs))) = sp hkey (2 * bs) (i + 1) xs ++ sc hkey bs (xs.drop (2 * bs * (i + 1))) from by
        rw [← isort_append, ← take_two, sp_snoc, List.append_assoc, List.drop_drop, Nat.mul_succ])
       have e2 : IntKind.i64.wrap ((a : Int) + (bs : Int)) = ((a + bs : Nat) : Int) := by rw [IntKind.wrap_i64]; omega
       have e3 : IntKind.i64.wrap ((a + bs : Nat) : Int) = ((a + bs : Nat) : Int) := by rw [IntKind.wrap_i64]; omega
       clear hok1 HA hAr l1 l2 h2 hll hspl
       go_wp2_with (go_at_call 121; refine HC.out.mono ?_; rintro e w5 ⟨rfl, hr5, hg5⟩; rw [HE.out] at hr5; have HR5 := m_ hr5; have HG5 := m_ (b1_ HG.out hg5); clear hr5 hg5)
       go_roundw
       case rel => exact ⟨i + 1, b, b + 2 * bs, rfl, by first | go_num | exact int_i64 (by omega), ⟨by have := HI.out; rw [Nat.mul_succ]; omega⟩, hlt, by omega, HR5, HG5⟩
       case measure => simp [intOf]; have := HI.out; omega
      ·have hlt' : ¬ (b : Int) ≤ n := by omega
       have hll : (xs.drop (2 * bs * i)).length = n - a ∧ n - a < 2 * bs := by rw [List.length_drop]; have := HI.out; have := HXL.out; omega
       have hdiv : n / (2 * bs) = i := by
        have h1 := HI.out
        exact Nat.div_eq_of_lt_le (by rw [Nat.mul_comm]; omega) (by rw [Nat.mul_comm, Nat.mul_succ]; omega)
       have HSC := m_ (show sc hkey (2 * bs) xs = sp hkey (2 * bs) i xs ++ isort hkey (xs.drop (2 * bs * i)) from by unfold sc; rw [← HXL.out, hdiv])
       by_cases hm : a + bs < n
       ·have hm' : (a : Int) + (bs : Int) < n := by omega
        have hm2 : ((a + bs : Nat) : Int) < n := by omega
        have h2 := sc_part hkey bs (xs.drop (2 * bs * i)) (by omega) (by omega) (by omega)
        have hAr := HA.out
        rw [h2, ← List.append_nil (isort hkey ((xs.drop (2 * bs * i)).drop bs))] at hAr
        have l1 : (isort hkey ((xs.drop (2 * bs * i)).take bs)).length = bs := by rw [isort_len, List.length_take]; omega
        have l2 : (isort hkey ((xs.drop (2 * bs * i)).drop bs)).length = n - a - bs := by rw [isort_len, List.length_drop]; omega
        have HC := m_ (symMerge_any _ g n cap base a (a + bs) n ok _ _ _ _ wr rfl hAr hspl.symm (by omega) (by omega) (by omega) (by omega) (isort_sorted hkey _) (isort_sorted hkey _) (by omega) hok1)
        have HE := m_ (show sp hkey (2 * bs) i xs ++ (mrg hkey (isort hkey ((xs.drop (2 * bs * i)).take bs)) (isort hkey ((xs.drop (2 * bs * i)).drop bs)) ++ []) = sc hkey (2 * bs) xs from by
         rw [← isort_append, List.take_append_drop, List.append_nil, HSC.out])
        have e2 : IntKind.i64.wrap ((a : Int) + (bs : Int)) = ((a + bs : Nat) : Int) := by rw [IntKind.wrap_i64]; omega
        have e3 : IntKind.i64.wrap ((a + bs : Nat) : Int) = ((a + bs : Nat) : Int) := by rw [IntKind.wrap_i64]; omega
        clear hok1 HA hAr l1 l2 h2 hll hspl hdiv
        go_wp2_with (go_at_call 121; refine HC.out.mono ?_; rintro e w5 ⟨rfl, hr5, hg5⟩; rw [HE.out] at hr5; have HR5 := m_ hr5; have HG5 := m_ (b1_ HG.out hg5); clear hr5 hg5)
        go_roundw
        case rel => exact ⟨2 * bs, by first | go_num | exact int_i64 (by omega), by omega, by omega, HR5, HG5⟩
        case measure => simp [intOf]; omega
       ·have hm' : ¬ (a : Int) + (bs : Int) < n := by omega
        have hAr := HA.out
        rw [sc_small hkey bs (xs.drop (2 * bs * i)) (by omega) (by omega), ← HSC.out] at hAr
        have HR5 := m_ hAr
        clear hok1 HA hAr hll hspl hdiv
        go_wp2
        go_roundw
        case rel => exact ⟨2 * bs, by first | go_num | exact int_i64 (by omega), by omega, by omega, HR5, HG⟩
        case measure => simp [intOf]; omega
    ·have hbn' : ¬ (bs : Int) < n := by omega
     have hfin := HA.out
     rw [sc_small hkey bs xs (by omega) (by have := HXL.out; omega)] at hfin
     have HF := m_ hfin
     clear hfin HA
     go_wp2
     go_end0
     exact ⟨rfl, HF.out, HG.out⟩
theorem stable_big (A : Option Addr) (n cap base : Nat) (ok : Nat → Prop) (xs : List HV) (w : World) (hr : Kd.R kh 41 w base ok (.slice A n cap) xs) (hn : n ≤ 100000000000) (hok : ∀ k, ok k → k < w.heap.size) (g : Nat) (hg : ∀ a, A = some a → a.block = g) :
  Calls Try.prog 103 #[.slice A n cap, .int .i64 n, .func (.func 72) #[] #[]] w fun e w' => e = .returned (.tuple #[]) ∧ Kd.R kh 41 w' base ok (.slice A n cap) (isort hkey xs) ∧ w.grownBy w' (some g) := by
 by_cases h2 : n ≤ 20
 ·exact stable_any A n cap base ok xs w hr h2 hok g hg
 ·have hl := (Kd.R_reads' hr).1
  obtain ⟨g', cap', cur, hv, _, _, _⟩ := ownh hr (by omega)
  injection hv with ha hn1 hc1
  subst ha
  obtain rfl : g' = g := hg _ rfl
  exact stable_gen g' n cap base ok xs w hr hn hok
set_option maxHeartbeats 8000000 in
set_option maxRecDepth 100000 in
theorem sort_big (A : Option Addr) (n cap base : Nat) (ok : Nat → Prop) (xs : List HV) (w : World) (hr : Kd.R kh 41 w base ok (.slice A n cap) xs) (hn : n ≤ 100000000000) (hok : ∀ k, ok k → k < w.heap.size) (g : Nat) (hg : ∀ a, A = some a → a.block = g) :
  Calls Try.prog 71 #[.slice A n cap, .func (.func 72) #[] #[]] w fun e w' => e = .returned (.tuple #[]) ∧ Kd.R kh 41 w' base ok (.slice A n cap) (isort hkey xs) ∧ w.grownBy w' (some g) := by
 have HI := m_ (stable_big A n cap base ok xs w hr hn hok g hg)
 clear hr hok hg
 go_enter Try.func71, Try.ntmps71
 go_wp2_with (go_at_call 103; refine HI.out.mono ?_; rintro e w1 ⟨rfl, hr1, hg1⟩; have HR1 := m_ hr1; have HG1 := m_ hg1; clear hr1 hg1)
 go_end0
 exact ⟨rfl, HR1.out, HG1.out⟩
theorem sort_n2 (A : Option Addr) (n cap base : Nat) (xs : List HV) (w : World) (hr : Kd.R kh 41 w base (fun _ => True) (.slice A n cap) xs) (hn : n ≤ 100000) :
  Calls Try.prog 71 #[.slice A n cap, .func (.func 72) #[] #[]] w fun e w' => e = .returned (.tuple #[]) ∧ Kd.R kh 41 w' base (fun k => base ≤ k ∧ k < w.heap.size) (.slice A n cap) (isort hkey xs) ∧ w.grownBy w' (some (blkOf A w.heap.size)) :=
 sort_big A n cap base _ xs w (Kd.R_mono (Kd.R_bound hr) (fun k hk => ⟨hk.2.1, hk.2.2.1⟩)) (Nat.le_trans hn (by decide)) (fun k hk => hk.2) (blkOf A w.heap.size) (fun a ha => by rw [ha]; rfl)
theorem KP.under {w W W' : World} {S : Nat → Prop} (h : KP W W' S) (hb : Below w.heap.size w W) (hs : ∀ k, S k → w.heap.size ≤ k) : Below w.heap.size w W' :=
 ⟨h.os.trans hb.os, h.tape.trans hb.tape, h.output.trans hb.output, Nat.le_trans hb.size h.kept.1, fun k hk => (h.kept.2 k (Nat.lt_of_lt_of_le hk hb.size) (fun hh => by have := hs k hh; omega)).trans (hb.block k hk)⟩
theorem KP.trans {w W W' : World} {S : Nat → Prop} (h : KP w W S) (h' : KP W W' S) : KP w W' S :=
 ⟨⟨Nat.le_trans h.kept.1 h'.kept.1, fun i hi hs => (h'.kept.2 i (Nat.lt_of_lt_of_le hi h.kept.1) hs).trans (h.kept.2 i hi hs)⟩, h'.os.trans h.os, h'.tape.trans h.tape, h'.output.trans h.output⟩
set_option maxHeartbeats 8000000 in
set_option maxRecDepth 100000 in
theorem early_any (now : Int) (A1 : Option Addr) (c1 : Nat) (l1 : List S51) (lg lc : Int) (A3 : Option Addr) (c3 : Nat) (l3 : List S41) (q m g c mn mx : Int) (w : World) (hr1 : Kd.C k51 w A1 l1.length l1) (hc1 : l1.length ≤ c1) (hr3 : Kd.C k41 w A3 l3.length l3) (hc3 : l3.length ≤ c3)
  (hn : l3.length ≤ 1000) (hv : viewOk l1) (hs : ∀ s ∈ l3.flatMap (fun h => h.f4), maskOk s = true ∧ (w64B s.f0.f0 && w64B s.f0.f1) = true) (hlen : (l3.flatMap fun h => h.f4).length < 4000000000) :
  Calls Try.prog 27 #[.int .i64 now, .slice A1 l1.length c1, .agg #[.int .i64 lg, .int .i64 lc], .slice A3 l3.length c3, .agg #[.int .i64 q, .int .i64 m, .int .i64 g, .int .i64 c, .int .i64 mn, .int .i64 mx]] w fun e w' => e = .returned (.tuple #[.int .i64 (earliestB now l1 lg lc l3 q m g c mn mx).1, .int .i64 (earliestB now l1 lg lc l3 q m g c mn mx).2]) ∧ Below w.heap.size w w' := by
 have hu22 := Try.underlying22
 have hu24 := Try.underlying24
 have hu25 := Try.underlying25
 have hu29 := Try.underlying29
 have hu41 := Try.underlying41
 have HR1 := m_ hr1
 have HR3 := m_ hr3
 have HC1 := m_ hc1
 have HC3 := m_ hc3
 have HN := m_ hn
 have HVO := m_ hv
 have HS := m_ hs
 have HLEN := m_ hlen
 have HRT := m_ (fun w => promise_right.calls q m g c mn mx _ w (right_eq q m g c mn mx))
 clear hr1 hr3 hc1 hc3 hn hv hs hlen
 by_cases hbad : now < 0 ∨ now > 1073741824 ∨ rightB m g c mn mx = false
 ·have HE : earliestB now l1 lg lc l3 q m g c mn mx = (0, 1) := by unfold earliestB; rw [if_pos hbad]
  rw [HE]
  clear HE
  have hRT0 := right_eq q m g c mn mx
  by_cases h0 : now < 0
  ·have d0 : decide (now < 0) = true := by simpa using h0
   clear h0 hbad hRT0
   go_enter Try.func27, Try.ntmps27
   go_wp2_with (first | ((with_reducible refine a3_ (N := 6) rfl ?_); refine bx 6 #[.slice A1 l1.length c1] 22 ?_; intro gv hgv w1 hx1 hb1; have wgv : w.heap.size ≤ gv := (by omega); have hgv2 := b7_ hx1; have HX1 := m_ hx1; have HB1 := m_ hb1; clear hx1 hb1) | ((with_reducible refine a3_ (N := 7) rfl ?_); refine bx 7 #[.int .i64 lg, .int .i64 lc] 24 ?_; intro gl hgl w2 hx2 hb2; have wgl : w.heap.size ≤ gl := (by have := HB1.out.size; omega); have hgl2 := b7_ hx2; have HX1b := m_ (a1_ HX1.out hb2); have HX2 := m_ hx2; have HB2 := m_ (a7_ HB1.out hb2); have hs2 := hb2.size; have nvl : gv ≠ gl := (by omega); clear hx2 hb2) | ((with_reducible refine a3_ (N := 9) rfl ?_); refine bx 9 #[.int .i64 q, .int .i64 m, .int .i64 g, .int .i64 c, .int .i64 mn, .int .i64 mx] 29 ?_; intro gw hgw w3 hx3 hb3; have HX1c := m_ (a1_ HX1b.out hb3); have HX2b := m_ (a1_ HX2.out hb3); have HX3 := m_ hx3; have HB3 := m_ (a7_ HB2.out hb3); have nvw : gv ≠ gw := (by omega); have nlw : gl ≠ gw := (by omega); obtain ⟨f0, f1, f2, f3, f4, f5⟩ := cz6_ ⟨hx3⟩; clear hx3 hb3 hgv hgl hgw hgv2 hgl2 hs2 HX1 HX1b HX2 HB1 HB2) | (go_at_call 68; refine (HRT.out _).mono ?_; rintro e w4 ⟨rfl, hb4⟩; have HX4v := m_ (a1_ HX1c.out hb4); have HX4l := m_ (a1_ HX2b.out hb4); have HX4w := m_ (a1_ HX3.out hb4); have HB4 := m_ (a7_ HB3.out hb4); clear hb4 f0 f1 f2 f3 f4 f5 HX1c HX2b HX3 HB3))
   all_goals go_ret2
   all_goals exact ⟨rfl, HB3.out⟩
  ·have d0 : decide (now < 0) = false := by simpa using h0
   by_cases h1 : now > 1073741824
   ·have d1 : decide (1073741824 < now) = true := by simpa using h1
    clear h0 h1 hbad hRT0
    go_enter Try.func27, Try.ntmps27
    go_wp2_with (first | ((with_reducible refine a3_ (N := 6) rfl ?_); refine bx 6 #[.slice A1 l1.length c1] 22 ?_; intro gv hgv w1 hx1 hb1; have wgv : w.heap.size ≤ gv := (by omega); have hgv2 := b7_ hx1; have HX1 := m_ hx1; have HB1 := m_ hb1; clear hx1 hb1) | ((with_reducible refine a3_ (N := 7) rfl ?_); refine bx 7 #[.int .i64 lg, .int .i64 lc] 24 ?_; intro gl hgl w2 hx2 hb2; have wgl : w.heap.size ≤ gl := (by have := HB1.out.size; omega); have hgl2 := b7_ hx2; have HX1b := m_ (a1_ HX1.out hb2); have HX2 := m_ hx2; have HB2 := m_ (a7_ HB1.out hb2); have hs2 := hb2.size; have nvl : gv ≠ gl := (by omega); clear hx2 hb2) | ((with_reducible refine a3_ (N := 9) rfl ?_); refine bx 9 #[.int .i64 q, .int .i64 m, .int .i64 g, .int .i64 c, .int .i64 mn, .int .i64 mx] 29 ?_; intro gw hgw w3 hx3 hb3; have HX1c := m_ (a1_ HX1b.out hb3); have HX2b := m_ (a1_ HX2.out hb3); have HX3 := m_ hx3; have HB3 := m_ (a7_ HB2.out hb3); have nvw : gv ≠ gw := (by omega); have nlw : gl ≠ gw := (by omega); obtain ⟨f0, f1, f2, f3, f4, f5⟩ := cz6_ ⟨hx3⟩; clear hx3 hb3 hgv hgl hgw hgv2 hgl2 hs2 HX1 HX1b HX2 HB1 HB2) | (go_at_call 68; refine (HRT.out _).mono ?_; rintro e w4 ⟨rfl, hb4⟩; have HX4v := m_ (a1_ HX1c.out hb4); have HX4l := m_ (a1_ HX2b.out hb4); have HX4w := m_ (a1_ HX3.out hb4); have HB4 := m_ (a7_ HB3.out hb4); clear hb4 f0 f1 f2 f3 f4 f5 HX1c HX2b HX3 HB3))
    all_goals go_ret2
    all_goals exact ⟨rfl, HB3.out⟩
   ·have d1 : decide (1073741824 < now) = false := by simpa using h1
    have hr : rightB m g c mn mx = false := by
     rcases hbad with h | h | h
     ·exact absurd h h0
     ·exact absurd h h1
     ·exact h
    rw [hr] at HRT
    clear h0 h1 hbad hRT0 hr
    go_enter Try.func27, Try.ntmps27
    go_wp2_with (first | ((with_reducible refine a3_ (N := 6) rfl ?_); refine bx 6 #[.slice A1 l1.length c1] 22 ?_; intro gv hgv w1 hx1 hb1; have wgv : w.heap.size ≤ gv := (by omega); have hgv2 := b7_ hx1; have HX1 := m_ hx1; have HB1 := m_ hb1; clear hx1 hb1) | ((with_reducible refine a3_ (N := 7) rfl ?_); refine bx 7 #[.int .i64 lg, .int .i64 lc] 24 ?_; intro gl hgl w2 hx2 hb2; have wgl : w.heap.size ≤ gl := (by have := HB1.out.size; omega); have hgl2 := b7_ hx2; have HX1b := m_ (a1_ HX1.out hb2); have HX2 := m_ hx2; have HB2 := m_ (a7_ HB1.out hb2); have hs2 := hb2.size; have nvl : gv ≠ gl := (by omega); clear hx2 hb2) | ((with_reducible refine a3_ (N := 9) rfl ?_); refine bx 9 #[.int .i64 q, .int .i64 m, .int .i64 g, .int .i64 c, .int .i64 mn, .int .i64 mx] 29 ?_; intro gw hgw w3 hx3 hb3; have HX1c := m_ (a1_ HX1b.out hb3); have HX2b := m_ (a1_ HX2.out hb3); have HX3 := m_ hx3; have HB3 := m_ (a7_ HB2.out hb3); have nvw : gv ≠ gw := (by omega); have nlw : gl ≠ gw := (by omega); obtain ⟨f0, f1, f2, f3, f4, f5⟩ := cz6_ ⟨hx3⟩; clear hx3 hb3 hgv hgl hgw hgv2 hgl2 hs2 HX1 HX1b HX2 HB1 HB2) | (go_at_call 68; refine (HRT.out _).mono ?_; rintro e w4 ⟨rfl, hb4⟩; have HX4v := m_ (a1_ HX1c.out hb4); have HX4l := m_ (a1_ HX2b.out hb4); have HX4w := m_ (a1_ HX3.out hb4); have HB4 := m_ (a7_ HB3.out hb4); clear hb4 f0 f1 f2 f3 f4 f5 HX1c HX2b HX3 HB3))
    all_goals go_ret2
    all_goals exact ⟨rfl, HB4.out⟩
 ·have hn0 : ¬ now < 0 := fun h => hbad (.inl h)
  have hn1 : ¬ now > 1073741824 := fun h => hbad (.inr (.inl h))
  have hrt : rightB m g c mn mx = true := by
   cases h : rightB m g c mn mx with
   | true => rfl
   | false => exact absurd (.inr (.inr h)) hbad
  have HE : earliestB now l1 lg lc l3 q m g c mn mx = (if (turned51 moreE moreF l1 (l3.flatMap fun h => h.f4)).2 ≠ 0 then (0, (turned51 moreE moreF l1 (l3.flatMap fun h => h.f4)).2)
   else (goE q m g c mn mx (isort skey41 l3) now l1 (lg, lc), 0)) := by unfold earliestB; rw [if_neg hbad]
  rw [HE]
  rw [hrt] at HRT
  have hm0 := more_eq HVO.out (fun s hs => (HS.out s hs).2)
  have ha0 := all_eq (l3.length + 1) l3 (Nat.le_refl _) (by have := HN.out; omega) (by have := HLEN.out; omega)
  generalize hall : l3.flatMap (fun h => h.f4) = al at *
  generalize hmr : turned51 moreE moreF l1 al = mr at *
  obtain ⟨mv, me⟩ := mr
  have HM := m_ hm0
  have HA := m_ ha0
  have HALL := m_ hall
  clear hm0 ha0 hmr hall
  obtain ⟨ps, hmap, hpC, hsl⟩ := holds_of HR3.out
  have hpl : ps.length = l3.length := by rw [← hmap, List.length_map]
  have hsm : (isort hkey ps).map (fun x => x.1) = isort skey41 l3 := by
   have := isort_map skey41 (fun x : HV => x.1) ps []
   rw [hmap] at this
   exact this
  have HMAP := m_ hmap
  have HPC := m_ hpC
  have HSL := m_ hsl
  have HPL := m_ hpl
  have hwl : wrap64 ((ps.length : Int) + 1) = (ps.length : Int) + 1 := w_id (by have := HN.out; omega)
  rw [← hsm]
  have hperm := isort_perm hkey ps
  obtain ⟨SP, hSP⟩ : ∃ SP, isort hkey ps = SP := ⟨_, rfl⟩
  rw [hSP] at hperm ⊢
  have HSPE := m_ hSP
  have HPERM := m_ hperm
  clear hmap hpC hsl hpl hsm hSP hperm
  have d0 : decide (now < 0) = false := by simpa using hn0
  have d1 : decide (1073741824 < now) = false := by simpa using hn1
  clear HE hbad hrt hn0 hn1
  go_enter Try.func27, Try.ntmps27
  go_wp2_with (first | ((with_reducible refine a3_ (N := 6) rfl ?_); refine bx 6 #[.slice A1 l1.length c1] 22 ?_; intro gv hgv w1 hx1 hb1; have wgv : w.heap.size ≤ gv := (by omega); have hgv2 := b7_ hx1; have HX1 := m_ hx1; have HB1 := m_ hb1; clear hx1 hb1) | ((with_reducible refine a3_ (N := 7) rfl ?_); refine bx 7 #[.int .i64 lg, .int .i64 lc] 24 ?_; intro gl hgl w2 hx2 hb2; have wgl : w.heap.size ≤ gl := (by have := HB1.out.size; omega); have hgl2 := b7_ hx2; have HX1b := m_ (a1_ HX1.out hb2); have HX2 := m_ hx2; have HB2 := m_ (a7_ HB1.out hb2); have hs2 := hb2.size; have nvl : gv ≠ gl := (by omega); clear hx2 hb2) | ((with_reducible refine a3_ (N := 9) rfl ?_); refine bx 9 #[.int .i64 q, .int .i64 m, .int .i64 g, .int .i64 c, .int .i64 mn, .int .i64 mx] 29 ?_; intro gw hgw w3 hx3 hb3; have HX1c := m_ (a1_ HX1b.out hb3); have HX2b := m_ (a1_ HX2.out hb3); have HX3 := m_ hx3; have HB3 := m_ (a7_ HB2.out hb3); have nvw : gv ≠ gw := (by omega); have nlw : gl ≠ gw := (by omega); obtain ⟨f0, f1, f2, f3, f4, f5⟩ := cz6_ ⟨hx3⟩; clear hx3 hb3 hgv hgl hgw hgv2 hgl2 hs2 HX1 HX1b HX2 HB1 HB2) | (go_at_call 68; refine (HRT.out _).mono ?_; rintro e w4 ⟨rfl, hb4⟩; have HX4v := m_ (a1_ HX1c.out hb4); have HX4l := m_ (a1_ HX2b.out hb4); have HX4w := m_ (a1_ HX3.out hb4); have HB4 := m_ (a7_ HB3.out hb4); clear hb4 f0 f1 f2 f3 f4 f5 HX1c HX2b HX3 HB3))
  have k4 : w4.cell? ⟨gv, 0, none⟩ = some (.slice A1 l1.length c1) := (a0_ HX4v.out 0).trans rfl
  go_region_held3 (fun w' => w'.cell? ⟨gv, 0, none⟩ = some (.slice A1 l1.length c1)) (first | exact k4 | assumption) (first | (go_at_call 69; refine (promise_all.calls (l3.length + 1) A3 c3 l3 _ _ (Kd.C_below HR3.out (b5_ HB4.out)) HC3.out HA.out).mono ?_; rintro e w5 ⟨v5, rfl, ho5, hb5⟩; obtain ⟨A5, c5, rfl, hc5, hr5⟩ := Kd.R_reads ho5; have k5 : w5.cell? ⟨gv, 0, none⟩ = some (.slice A1 l1.length c1) := c8_ hb5 k4; have HB5 := m_ (a7_ (b5_ (Below.refl w4.heap.size w4)) hb5); have HR5 := m_ (And.intro hc5 hr5); clear ho5 hb5 hc5 hr5) | (go_at_call 52; refine (pack_More.calls A1 c1 l1 A5 c5 al mv me _ (Kd.C_below HR1.out (a7_ HB4.out HB5.out)) HC1.out HR5.out.2 HR5.out.1 HM.out).mono ?_; rintro e w6 ⟨v6, rfl, ho6, hb6⟩; have k6 : w6.cell? ⟨gv, 0, none⟩ = some (.slice A1 l1.length c1) := c8_ hb6 k5; have HB6 := m_ (a7_ HB5.out hb6); clear ho6 hb6))
  clear k4 k5 k6
  by_cases hme : me = 0
  ·subst hme
   go_wp2_with (first | (go_at_call 70; refine (clone70_n A3 c3 l3.length ps _ HPL.out (Kd.C_below HPC.out (a7_ HB4.out HB6.out)) (by have := HPL.out; have := HN.out; omega)).mono ?_; rintro e w7 ⟨v7, rfl, ho7, hb7⟩; obtain ⟨A7, c7, rfl, hc7, _⟩ := Kd.R_reads ho7; have HO7 := m_ ho7; have HB7 := m_ hb7; clear ho7 hb7 hc7) | (go_at_call 71; refine (sort_n2 A7 ps.length c7 w6.heap.size ps _ HO7.out (by have := HPL.out; have := HN.out; omega)).mono ?_; rintro e w8 ⟨rfl, ho8, hg8⟩; rw [HSPE.out] at ho8; have HO8 := m_ ho8; have HG8 := m_ hg8; clear ho8 hg8))
   have hB6 := a7_ HB4.out HB6.out
   have hB7 := a7_ hB6 HB7.out
   have hbb := blkOf_base HO7.out HB7.out.size
   have hs46 := HB6.out.size
   have gv4 := b7_ HX4v.out
   have gl4 := b7_ HX4l.out
   have gw4 := b7_ HX4w.out
   have hB8 : Below w.heap.size w w8 := hB7.grown HG8.out hB7.size (fun k e => by cases e; have := HB4.out.size; omega)
   have hmv : ∀ k, k < w4.heap.size → w8.heap[k]? = w4.heap[k]? := fun k hk => by
    rw [HG8.out.block k (by have := HB7.out.size; omega) (fun e => by cases e; omega), HB7.out.block k (by omega), HB6.out.block k hk]
   have HXv := m_ ((hmv gv gv4).trans HX4v.out)
   have HXl := m_ ((hmv gl gl4).trans HX4l.out)
   have HXw := m_ ((hmv gw gw4).trans HX4w.out)
   have HFv := m_ (Kd.F_mono (ok' := fun k => k ≠ gv ∧ k ≠ gl) (Foot.step (Kd.C_F k51_heap HR1.out) (fun k hk _ => hB8.block k hk)) (fun k hk => ⟨by omega, by omega⟩))
   have HSO := m_ (fun (x : HV) (hx : x ∈ SP) => (show SlotsOk w8 (fun k => k ≠ gv ∧ k ≠ gl) x from
    let h0 := HSL.out x (HPERM.out.mem_iff.1 hx)
    ⟨h0.1, h0.2.1, Kd.F_mono (Foot.step h0.2.2 (fun k hk _ => hB8.block k hk)) (fun k hk => ⟨by omega, by omega⟩)⟩))
   have HMK := m_ (fun (x : HV) (hx : x ∈ SP) (s : S52) (hs : s ∈ x.1.f4) => HS.out s (by
    rw [← HALL.out]
    refine List.mem_flatMap.2 ⟨x.1, ?_, hs⟩
    rw [← HMAP.out]
    exact List.mem_map.2 ⟨x, HPERM.out.mem_iff.1 hx, rfl⟩))
   have HLS := m_ (HPERM.out.length_eq)
   have HPN := m_ (show ps.length ≤ 1000 by have := HPL.out; have := HN.out; omega)
   have HB8 := m_ hB8
   have HBS := m_ (show gv < w6.heap.size ∧ gl < w6.heap.size ∧ gw < w6.heap.size by omega)
   clear hB6 hB7 hbb hs46 gv4 gl4 gw4 hB8 hmv HO7 HB7 HG8 HX4v HX4l HX4w
   rw [hwl]
   go_loopw [48, 16] (fun v48 v16 wr => ∃ (k : Nat) (t : Int) (view : List S51) (left : Int × Int) (Av : Option Addr) (cv : Nat), k ≤ SP.length ∧ v48 = .int .i64 (k : Int) ∧ v16 = .int .i64 t ∧
    A_ (goE q m g c mn mx (SP.map (fun x => x.1)) now l1 (lg, lc) = goE q m g c mn mx ((SP.drop k).map (fun x => x.1)) t view left) ∧
    A_ (wr.heap[gv]? = some (.cells #[.slice Av view.length cv] 22 (0, 0))) ∧ A_ (wr.heap[gl]? = some (.cells #[.int .i64 left.1, .int .i64 left.2] 24 (0, 0))) ∧ A_ (wr.heap[gw]? = some (.cells #[.int .i64 q, .int .i64 m, .int .i64 g, .int .i64 c, .int .i64 mn, .int .i64 mx] 29 (0, 0))) ∧
    A_ (Kd.F k51 wr (fun k => k ≠ gv ∧ k ≠ gl) Av view.length view) ∧ A_ (view.length ≤ cv) ∧ A_ (viewOk view) ∧ A_ (∀ x ∈ SP, SlotsOk wr (fun k => k ≠ gv ∧ k ≠ gl) x) ∧
    A_ (Kd.R kh 41 wr w6.heap.size (fun k => w6.heap.size ≤ k) (.slice A7 ps.length c7) SP) ∧ A_ (Below w.heap.size w wr)) (fun v48 _ _ => SP.length + 1 - (intOf v48).toNat)
   case atStart => exact ⟨0, now, l1, (lg, lc), A1, c1, Nat.zero_le _, rfl, rfl, ⟨rfl⟩, HXv, HXl, HXw, HFv, HC1, HVO, HSO, ⟨Kd.R_mono HO8.out (fun _ hk => hk.1)⟩, HB8⟩
   case round =>
    clear HXv HXl HXw HFv HSO HO8 HB8
    obtain ⟨k, t, view, ⟨lg', lc'⟩, Av, cv, hk, rfl, rfl, HG, HXV, HXL, HXW, HFV, HCV, HVW, HSP, HRW, HBW⟩ := hrel
    have hspl : SP.length = ps.length := HLS.out
    have hpn := HPN.out
    have HFit := fits_eq (view.length + 1) view lg' lc' q m g c mn mx (Nat.le_refl _) (by have := HVW.out.1; omega) HVW.out.2.1
    have HCF := m_ (promise_Fits.calls (view.length + 1) Av cv view lg' lc' q m g c mn mx _ wr (Kd.F_now HFV.out) HCV.out HFit)
    have fv : wr.cell? ⟨gv, 0, none⟩ = some (.slice Av view.length cv) := (a0_ HXV.out 0).trans rfl
    obtain ⟨fl0, fl1⟩ := cz2_ HXL
    obtain ⟨fw0, fw1, fw2, fw3, fw4, fw5⟩ := cz6_ HXW
    clear HFit
    by_cases hkn : k = SP.length
    ·have h1 : (k : Int) < (ps.length : Int) + 1 := by omega
     have h2 : ((k : Int) == (ps.length : Int)) = true := by simp; omega
     rw [List.drop_eq_nil_of_le (by omega)] at HG
     simp only [List.map_nil, goE] at HG
     cases hf : fitsB view lg' lc' m g c mn mx with
     | true =>
      rw [hf] at HCF
      rw [hf, if_pos rfl] at HG
      clear hf hkn
      go_wp2_with (go_at_call 29; refine HCF.out.mono ?_; rintro e w9 ⟨rfl, hb9⟩; have HB9 := m_ (a7_ HBW.out hb9); clear hb9)
      all_goals go_ret2
      all_goals exact ⟨by rw [HG.out]; rfl, HB9.out⟩
     | false =>
      rw [hf] at HCF
      rw [hf, if_neg (by decide)] at HG
      clear hf hkn
      go_wp2_with (go_at_call 29; refine HCF.out.mono ?_; rintro e w9 ⟨rfl, hb9⟩; have HB9 := m_ (a7_ HBW.out hb9); clear hb9)
      all_goals go_ret2
      all_goals exact ⟨by rw [HG.out]; rfl, HB9.out⟩
    ·have hkl : k < SP.length := by omega
     have h1 : (k : Int) < (ps.length : Int) + 1 := by omega
     have h2 : ((k : Int) == (ps.length : Int)) = false := by simp; omega
     have h3 : (k : Int) < (ps.length : Int) := by omega
     have h4 : (0 : Int) ≤ (k : Int) := by omega
     obtain ⟨g7, cap7, cur7, hv7, hok7, _, hh7⟩ := ownh HRW.out (by omega)
     injection hv7 with ha7 hn7 hc7
     subst ha7
     clear hn7 hc7
     have hget := List.getElem?_eq_getElem hkl
     obtain ⟨y0, y1, y2, y3, y4⟩ := at_kh HRW.out k SP[k] hget
     have hSx := HSP.out SP[k] (List.getElem_mem hkl)
     have hMx := HMK.out SP[k] (List.getElem_mem hkl)
     rw [List.drop_eq_getElem_cons hkl, List.map_cons, goE] at HG
     generalize SP[k] = x at *
     have HSX := m_ hSx
     have HMX := m_ hMx
     clear hget hSx hMx hkn
     have hmv1 := more_eq HVW.out (fun s hs => (HMX.out s hs).2)
     have hvok := turned51_ok HVW.out (fun s hs => (HMX.out s hs).1)
     generalize turned51 moreE moreF view x.1.f4 = mr2 at *
     obtain ⟨v2, e2⟩ := mr2
     have HMV := m_ hmv1
     have HVOK := m_ hvok
     clear hmv1 hvok
     have hwk : ∀ k, (k = gv ∨ k = gl) → w.heap.size ≤ k := fun k hk => by rcases hk with rfl | rfl <;> omega
     by_cases hgt : x.1.f2 > t
     ·have b3 : decide (t < x.1.f2) = true := by simpa using hgt
      rw [if_pos hgt] at HG
      clear hgt
      cases hf : fitsB view lg' lc' m g c mn mx with
      | true =>
       rw [hf] at HCF
       rw [hf, if_pos rfl] at HG
       clear hf
       go_wp2_with (go_at_call 29; refine HCF.out.mono ?_; rintro e w9 ⟨rfl, hb9⟩; have HB9 := m_ (a7_ HBW.out hb9); clear hb9)
       all_goals go_ret2
       all_goals exact ⟨by rw [HG.out]; rfl, HB9.out⟩
      | false =>
       rw [hf] at HCF
       rw [hf, if_neg (by decide)] at HG
       clear hf
       by_cases hge : x.1.f2 ≥ 1073741825
       ·have b4 : decide ((1073741825 : Int) ≤ x.1.f2) = true := by simpa using hge
        rw [if_pos hge] at HG
        clear hge
        go_wp2_with (go_at_call 29; refine HCF.out.mono ?_; rintro e w9 ⟨rfl, hb9⟩; have z2 := c8_ hb9 y2; have HB9 := m_ (a7_ HBW.out hb9); clear hb9)
        all_goals go_ret2
        all_goals exact ⟨by rw [HG.out]; rfl, HB9.out⟩
       ·have b4 : decide ((1073741825 : Int) ≤ x.1.f2) = false := by simpa using hge
        rw [if_neg hge] at HG
        clear hge
        go_wp2_with (first | (go_at_call 29; refine HCF.out.mono ?_; rintro e w8b ⟨rfl, hb8⟩; have z0 := c8_ hb8 y0; have z1 := c8_ hb8 y1; have z2 := c8_ hb8 y2; have z3 := c8_ hb8 y3; have z4 := c8_ hb8 y4; have HK8 := m_ (KP.below (KP.refl wr (fun k => k = gv ∨ k = gl)) hb8); have HXV8 := m_ (a1_ HXV.out hb8); have HXW8 := m_ (a1_ HXW.out hb8); have HXL8 := m_ (a1_ HXL.out hb8); have HFV8 := m_ (Kd.F_below HFV.out hb8); have HSX8 := m_ (show SlotsOk w8b (fun k => k ≠ gv ∧ k ≠ gl) x from ⟨HSX.out.1, HSX.out.2.1, Kd.F_below HSX.out.2.2 hb8⟩); clear hb8) | (go_at_call 74; refine (end_any gv gw gl x view Av cv q m g c mn mx lg' lc' v2 e2 w8b HXV8.out HXW8.out HXL8.out nvw nvl (fun e => nlw e.symm) HFV8.out HCV.out HSX8.out (fun s hs => (HMX.out s hs).1) HMV.out).mono ?_; rintro e w9 ⟨rfl, hk9, ⟨A9, c9, hv9, hc9, hf9⟩, hl9⟩; have HK9b := m_ hk9; have HV9 := m_ hv9; have HC9 := m_ hc9; have HF9 := m_ hf9; have HL9 := m_ hl9; clear hk9 hv9 hc9 hf9 hl9))
        have HK9 := m_ (HK8.out.trans HK9b.out)
        have HB9 := m_ (HK9.out.under HBW.out hwk)
        have HW9 := m_ (blk_kept HXW.out HK9.out.kept (fun h => by rcases h with h | h; exact nvw h.symm; exact nlw h.symm))
        have HS9 := m_ (fun (z : HV) (hz : z ∈ SP) => (show SlotsOk w9 (fun k => k ≠ gv ∧ k ≠ gl) z from ⟨(HSP.out z hz).1, (HSP.out z hz).2.1, Kd.F_kept (HSP.out z hz).2.2 HK9.out.kept (fun k hk hs => by rcases hs with h | h; exact hk.1 h; exact hk.2 h)⟩))
        have HR9 := m_ (Kd.R_kept HRW.out HK9.out.kept (fun k hk hs => by have := HBS.out; rcases hs with h | h <;> omega))
        go_roundw
        case rel => exact ⟨k + 1, x.1.f2, v2, _, A9, c9, by omega, by go_num, rfl, HG, HV9, HL9, HW9, HF9, HC9, HVOK, HS9, HR9, HB9⟩
        case measure => simp [intOf]; omega
     ·have b3 : decide (t < x.1.f2) = false := by simpa using hgt
      rw [if_neg hgt] at HG
      clear hgt
      go_wp2_with (first | (go_at_call 74; refine (end_any gv gw gl x view Av cv q m g c mn mx lg' lc' v2 e2 wr HXV.out HXW.out HXL.out nvw nvl (fun e => nlw e.symm) HFV.out HCV.out HSX.out (fun s hs => (HMX.out s hs).1) HMV.out).mono ?_; rintro e w9 ⟨rfl, hk9, ⟨A9, c9, hv9, hc9, hf9⟩, hl9⟩; have HK9 := m_ hk9; have HV9 := m_ hv9; have HC9 := m_ hc9; have HF9 := m_ hf9; have HL9 := m_ hl9; clear hk9 hv9 hc9 hf9 hl9))
      have HB9 := m_ (HK9.out.under HBW.out hwk)
      have HW9 := m_ (blk_kept HXW.out HK9.out.kept (fun h => by rcases h with h | h; exact nvw h.symm; exact nlw h.symm))
      have HS9 := m_ (fun (z : HV) (hz : z ∈ SP) => (show SlotsOk w9 (fun k => k ≠ gv ∧ k ≠ gl) z from ⟨(HSP.out z hz).1, (HSP.out z hz).2.1, Kd.F_kept (HSP.out z hz).2.2 HK9.out.kept (fun k hk hs => by rcases hs with h | h; exact hk.1 h; exact hk.2 h)⟩))
      have HR9 := m_ (Kd.R_kept HRW.out HK9.out.kept (fun k hk hs => by have := HBS.out; rcases hs with h | h <;> omega))
      go_roundw
      case rel => exact ⟨k + 1, t, v2, _, A9, c9, by omega, by go_num, rfl, HG, HV9, HL9, HW9, HF9, HC9, HVOK, HS9, HR9, HB9⟩
      case measure => simp [intOf]; omega
  ·have bme : (me == 0) = false := by simpa using hme
   go_wp2
   go_ret2
   exact ⟨by simp [hme], a7_ HB4.out HB6.out⟩
theorem okE_out {view : List S51} {ends : List S41} (h : okE view ends = true) : ends.length ≤ 1000 ∧ viewOk view ∧ (∀ s ∈ ends.flatMap (fun h => h.f4), maskOk s = true ∧ (w64B s.f0.f0 && w64B s.f0.f1) = true) ∧ (ends.flatMap fun h => h.f4).length < 4000000000 := by
 unfold okE spotsOk at h
 rw [Bool.and_eq_true, Bool.and_eq_true, Bool.and_eq_true, Bool.and_eq_true, Bool.and_eq_true, Bool.and_eq_true] at h
 obtain ⟨⟨⟨⟨h1, ⟨h2, h3⟩, h4⟩, h5⟩, h6⟩, h7⟩ := h
 exact ⟨of_decide_eq_true h1, ⟨of_decide_eq_true h2, fun f hf => List.all_eq_true.1 h5 f hf, fun f hf => List.all_eq_true.1 h3 f hf⟩, fun s hs => ⟨List.all_eq_true.1 h6 s hs, List.all_eq_true.1 h4 s hs⟩, of_decide_eq_true h7⟩
theorem promise_Earliest.calls (a0 : Int) (A1 : Option Addr) (c1 : Nat) (l1 : List (S51)) (a2_0 a2_1 : Int) (A3 : Option Addr) (c3 : Nat) (l3 : List (S41)) (a4_0 a4_1 a4_2 a4_3 a4_4 a4_5 r1 r2 : Int) (w : World) (hr1 : Kd.C k51 w A1 l1.length l1) (hc1 : l1.length ≤ c1) (hr3 : Kd.C k41 w A3 l3.length l3) (hc3 : l3.length ≤ c3) (h : promise_Earliest.f a0 l1 a2_0 a2_1 l3 a4_0 a4_1 a4_2 a4_3 a4_4 a4_5 = some (r1, r2)) :
  Calls Try.prog 27 #[.int .i64 a0, .slice A1 l1.length c1, .agg #[.int .i64 a2_0, .int .i64 a2_1], .slice A3 l3.length c3, .agg #[.int .i64 a4_0, .int .i64 a4_1, .int .i64 a4_2, .int .i64 a4_3, .int .i64 a4_4, .int .i64 a4_5]] w fun e w' => e = .returned (.tuple #[.int .i64 r1, .int .i64 r2]) ∧ Below w.heap.size w w' := by
 unfold promise_Earliest.f at h
 by_cases ho : okE l1 l3 = true
 ·rw [if_pos ho] at h
  obtain ⟨h1, h2, h3, h4⟩ := okE_out ho
  have e := Option.some.inj h
  have e1 : r1 = (earliestB a0 l1 a2_0 a2_1 l3 a4_0 a4_1 a4_2 a4_3 a4_4 a4_5).1 := by rw [e]
  have e2 : r2 = (earliestB a0 l1 a2_0 a2_1 l3 a4_0 a4_1 a4_2 a4_3 a4_4 a4_5).2 := by rw [e]
  rw [e1, e2]
  exact early_any a0 A1 c1 l1 a2_0 a2_1 A3 c3 l3 a4_0 a4_1 a4_2 a4_3 a4_4 a4_5 w hr1 hc1 hr3 hc3 h1 h2 h3 h4
 ·rw [if_neg ho] at h; cases h
end Go.Proofs.Ytckhjehibjdjdaa.P
namespace Go.Proofs.Ytckhjehibjdjdaa.P
open Go.RowKit Go.Proofs.YtckhjehibjdjdaaW.PrintWords Go.Proofs.YtckhjehibjdjdaaW.PrintLast Go.Proofs.YtckhjehibjdjdaaW.PrintMore
attribute [local go_sem] max2_int min2_int max_two min_two max_three min_three max_four min_four
theorem eqA48 (d : Nat) (w : World) (x0 y0 x1 y1 : Int) :
  (Op.equalIn (d + 2) 48 (.agg #[.int .i64 x0, .int .i64 x1]) (.agg #[.int .i64 y0, .int .i64 y1])).run Try.prog w = .ok (x0 == y0 && (x1 == y1)) w := by
 refine eqA_of Try.underlying48 (by kernel_rfl) ?_
 refine eqf_cons (by rfl) (by go_simp; rfl) (by go_simp; rfl) (by go_simp) ?_
 exact eqf_last (by rfl) (by go_simp; rfl) (by go_simp; rfl) (by go_simp)
end Go.Proofs.Ytckhjehibjdjdaa.P
namespace Go.Proofs.Ytckhjehibjdjdaa.P
open Go.RowKit Go.Proofs.YtckhjehibjdjdaaW.PrintWords Go.Proofs.YtckhjehibjdjdaaW.PrintLast Go.Proofs.YtckhjehibjdjdaaW.PrintMore
attribute [local go_sem] max2_int min2_int max_two min_two max_three min_three max_four min_four
attribute [local go_sem high] eqA48
def ensembleref05_find.l0 : Nat → List (S51) → Int → Int → Int → Option (Int)
 | 0, _, _, _, _ => none
 | k + 1, x0, x5, x119000, x119001 => if x5 < (x0.length : Int) then (if 0 ≤ x5 then (if (((a4_ x0 x5).f0.f0) == x119000 && (((a4_ x0 x5).f0.f1) == x119001)) = true then (some x5) else (ensembleref05_find.l0 k x0 (wrap64 (x5 + 1)) x119000 x119001)) else (none)) else (some (-1))
def ensembleref05_find.f (k : Nat) (l0 : List (S51)) (a1_0 a1_1 : Int) : Option (Int) := ensembleref05_find.l0 k l0 0 a1_0 a1_1
set_option maxHeartbeats 8000000 in
set_option maxRecDepth 100000 in
theorem ensembleref05_find.calls (k : Nat) (A0 : Option Addr) (c0 : Nat) (l0 : List (S51)) (a1_0 a1_1 r : Int) (w : World) (hr0 : Kd.C k51 w A0 l0.length l0) (hc0 : l0.length ≤ c0) (h : ensembleref05_find.f k l0 a1_0 a1_1 = some r) :
  Calls Try.prog 79 #[.slice A0 l0.length c0, .agg #[.int .i64 a1_0, .int .i64 a1_1]] w fun e w' => e = .returned (.int .i64 r) ∧ Below w.heap.size w w' := by
 have hu48 := Try.underlying48
 have HR0 := m_ hr0
 have HC0 := m_ hc0
 clear hr0 hc0
 have HB := m_ (Below.refl w.heap.size w)
 have H := h
 unfold ensembleref05_find.f at H
 clear h
 have H' := m_ H
 clear H
 go_enter Try.func79, Try.ntmps79
 go_wp2_with (first | ((with_reducible refine a3_ (N := 3) rfl ?_); refine bx 3 #[.int .i64 a1_0, .int .i64 a1_1] 48 ?_; intro gb118 hg w3 hbox hb; have BK118 := m_ (hbox); have GW118 := ge_ hg; have GE118 := ge_ hg; replace HB := hs_ hb; clear hb hbox hg))
 repeat (go_quiet (first | ((with_reducible refine a3_ (N := 3) rfl ?_); refine bx 3 #[.int .i64 a1_0, .int .i64 a1_1] 48 ?_; intro gb118 hg w3 hbox hb; have BK118 := m_ (hbox); have GW118 := ge_ hg; have GE118 := ge_ hg; replace HB := hs_ hb; clear hb hbox hg)); try go_wp2_with (first | ((with_reducible refine a3_ (N := 3) rfl ?_); refine bx 3 #[.int .i64 a1_0, .int .i64 a1_1] 48 ?_; intro gb118 hg w3 hbox hb; have BK118 := m_ (hbox); have GW118 := ge_ hg; have GE118 := ge_ hg; replace HB := hs_ hb; clear hb hbox hg)))
 go_loopg [5] k (fun kq v5 w' => ∃ (x5_1 : Int), v5 = .int .i64 x5_1 ∧ A_ (ensembleref05_find.l0 kq l0 x5_1 a1_0 a1_1 = some r) ∧ A_ (kq ≤ k) ∧ A_ (w'.heap[gb118]? = some (.cells #[.int .i64 a1_0, .int .i64 a1_1] 48 (0, 0))) ∧ A_ (Below w.heap.size w w'))
 case atStart => exact ⟨(0), Z1, H', ⟨Nat.le_refl _⟩, ⟨bo_ BK118⟩, ⟨hb_⟩⟩
 case round =>
  clear H'
  try clear p2
  obtain ⟨x5_1, rfl, HA, HK1, BK118, HB⟩ := hrel
  cases gk with
  | zero => exact absurd HA.out (by simp [ensembleref05_find.l0])
  | succ k1 =>
   have H := HA.out
   clear HA
   simp only [ensembleref05_find.l0] at H
   by_cases c4 : x5_1 < (l0.length : Int)
   ·rw [if_pos c4] at H
    have c4b0 : decide (x5_1 < (l0.length : Int)) = true := decide_eq_true c4
    clear c4
    by_cases c5 : 0 ≤ x5_1
    ·rw [if_pos c5] at H
     have c5b0 : decide (0 ≤ x5_1) = true := decide_eq_true c5
     clear c5
     by_cases c6 : (((a4_ l0 x5_1).f0.f0) == a1_0 && (((a4_ l0 x5_1).f0.f1) == a1_1)) = true
     ·rw [if_pos c6] at H
      have c6b0 : (((a4_ l0 x5_1).f0.f0) == a1_0 && (((a4_ l0 x5_1).f0.f1) == a1_1)) = true := c6
      (try (have c6b1 : decide (((a4_ l0 x5_1).f0.f0) = a1_0 && (((a4_ l0 x5_1).f0.f1) == a1_1)) = true := by simpa using c6))
      (try (have c6b2 : (((a4_ l0 x5_1).f0.f0) == a1_0 && (((a4_ l0 x5_1).f0.f1) == a1_1)) = true := by simpa using c6))
      clear c6
      obtain rfl := Option.some.inj H
      have p119 : 0 ≤ (x5_1 : Int) := of_decide_eq_true Z4
      have q119 : x5_1 < (l0.length : Int) := of_decide_eq_true Z4
      obtain ⟨ad119, e119, hx119_0, hx119_1, hx119_2, hx119_3⟩ := at_T51 (Kd.C_below HR0.out HB.out) x5_1 p119 q119
      cases e119
      replace p119 := eq_true p119
      replace q119 := eq_true q119
      obtain ⟨hcz7_0, hcz7_1, hfz7_0, hfz7_1⟩ := bz2_ BK118
      go_wp2
      repeat (go_quiet (fail); try go_wp2)
      go_ret
      exact ⟨by first | rfl | (simp [a9_, a8_] <;> rfl) | (simp [*, a9_, a8_] <;> rfl), hb_⟩
     ·rw [if_neg c6] at H
      have c6b0 : (((a4_ l0 x5_1).f0.f0) == a1_0 && (((a4_ l0 x5_1).f0.f1) == a1_1)) = false := by simpa using c6
      (try (have c6b1 : decide (((a4_ l0 x5_1).f0.f0) = a1_0 && (((a4_ l0 x5_1).f0.f1) == a1_1)) = false := by simpa using c6))
      (try (have c6b2 : (((a4_ l0 x5_1).f0.f0) == a1_0 && (((a4_ l0 x5_1).f0.f1) == a1_1)) = false := by simpa using c6))
      (try (have c6b3 : ¬ (((a4_ l0 x5_1).f0.f0) = a1_0 && (((a4_ l0 x5_1).f0.f1) == a1_1)) := by simpa using c6))
      clear c6
      have H' := m_ H
      clear H
      have p119 : 0 ≤ (x5_1 : Int) := of_decide_eq_true Z4
      have q119 : x5_1 < (l0.length : Int) := of_decide_eq_true Z4
      obtain ⟨ad119, e119, hx119_0, hx119_1, hx119_2, hx119_3⟩ := at_T51 (Kd.C_below HR0.out HB.out) x5_1 p119 q119
      cases e119
      replace p119 := eq_true p119
      replace q119 := eq_true q119
      obtain ⟨hcz8_0, hcz8_1, hfz8_0, hfz8_1⟩ := bz2_ BK118
      go_wp2
      repeat (go_quiet (fail); try go_wp2)
      go_roundg k1
      case measure => have := HK1.out; omega
      case rel => exact ⟨(wrap64 (x5_1 + 1)), Z1, H', ⟨by have := HK1.out; omega⟩, ⟨bo_ BK118⟩, ⟨hb_⟩⟩
    ·rw [if_neg c5] at H
     exact absurd H (by simp)
   ·rw [if_neg c4] at H
    have c4b0 : decide (x5_1 < (l0.length : Int)) = false := decide_eq_false c4
    clear c4
    obtain rfl := Option.some.inj H
    go_wp2
    repeat (go_quiet (fail); try go_wp2)
    go_ret
    exact ⟨by first | rfl | (simp [a9_, a8_] <;> rfl) | (simp [*, a9_, a8_] <;> rfl), hb_⟩
end Go.Proofs.Ytckhjehibjdjdaa.P
namespace Go.Proofs.Ytckhjehibjdjdaa.P
open Go.RowKit Go.Proofs.YtckhjehibjdjdaaW.PrintWords Go.Proofs.YtckhjehibjdjdaaW.PrintLast Go.Proofs.YtckhjehibjdjdaaW.PrintMore
attribute [local go_sem] max2_int min2_int max_two min_two max_three min_three max_four min_four
attribute [local go_sem] cellBx frozBx
def ensembleref05_Right.l0 : Nat → List (S51) → Int → Option (Bool)
 | 0, _, _ => none
 | k + 1, x0, x3 => if x3 < (x0.length : Int) then (if 0 ≤ x3 then (if ((a4_ x0 x3).f2) < 0 then (some false) else (if ((a4_ x0 x3).f2) > 1048576 then (some false) else (if x3 ≤ (x0.length : Int) then ((ensembleref05_find.f k (x0.take (x3 : Int).toNat) ((a4_ x0 x3).f0.f0) ((a4_ x0 x3).f0.f1)).bind fun t127 => (if t127 ≥ 0 then (some false) else (ensembleref05_Right.l0 k x0 (wrap64 (x3 + 1))))) else (none)))) else (none)) else (some true)
def ensembleref05_Right.f (k : Nat) (l0 : List (S51)) : Option (Bool) := ensembleref05_Right.l0 k l0 0
theorem ensembleref05_Right.find {k n : Nat} {A : Option Addr} {c : Nat} {l : List S51} {a b r : Int} {w : World} (hl : l.length = n) (hr : Kd.C k51 w A l.length l) (hc : l.length ≤ c) (h : A_ (ensembleref05_find.f k l a b = some r)) :
  Calls Try.prog 79 #[.slice A n c, .agg #[.int .i64 a, .int .i64 b]] w fun e w' => e = .returned (.int .i64 r) ∧ Below w.heap.size w w' := by
 subst hl
 exact ensembleref05_find.calls k A c l a b r w hr hc h.out
set_option maxHeartbeats 8000000 in
set_option maxRecDepth 100000 in
theorem ensembleref05_Right.calls (k : Nat) (A0 : Option Addr) (c0 : Nat) (l0 : List (S51)) (r : Bool) (w : World) (hr0 : Kd.C k51 w A0 l0.length l0) (hc0 : l0.length ≤ c0) (h : ensembleref05_Right.f k l0 = some r) :
  Calls Try.prog 67 #[.slice A0 l0.length c0] w fun e w' => e = .returned (.bool r) ∧ Below w.heap.size w w' := by
 have hu51 := Try.underlying51
 have hu48 := Try.underlying48
 have : Be w w := ⟨Below.refl _ _⟩
 unfold ensembleref05_Right.f at h
 have H2 := m_ h
 clear h
 go_enter Try.func67, Try.ntmps67
 go_wp2
 go_loopg [3] k (fun kq v3 w' => ∃ x : Int, v3 = .int .i64 x ∧ A_ (ensembleref05_Right.l0 kq l0 x = some r) ∧ A_ (kq ≤ k) ∧ Be w w')
 case atStart => exact ⟨_, rfl, H2, ⟨Nat.le_refl _⟩, inferInstance⟩
 case round =>
 clear H2
 obtain ⟨x, rfl, HA, HK, be⟩ := hrel
 cases gk with
 | zero => exact absurd HA.out (by simp [ensembleref05_Right.l0])
 | succ k1 =>
 have hh := HA.out
 clear HA
 rw [ensembleref05_Right.l0] at hh
 by_cases c1 : x < (l0.length : Int)
 case neg =>
  rw [if_neg c1] at hh
  have q := decide_eq_false c1
  clear c1
  obtain rfl := Option.some.inj hh
  go_wp2
  go_ret
  exact ⟨rfl, Be.out⟩
 rw [if_pos c1] at hh
 by_cases c2 : 0 ≤ x
 case neg => rw [if_neg c2] at hh; cases hh
 rw [if_pos c2] at hh
 obtain ⟨ad, hea, y0, y1, _, y3⟩ := at_T51 (Kd.C_below hr0 be.out) x c2 c1
 subst hea
 generalize a4_ l0 x = s at *
 have C1 := m_ (show 0 ≤ x ∧ x < (l0.length : Int) from ⟨c2, c1⟩)
 have p1 := decide_eq_true c1
 have p2 := eq_true c2
 have p3 := eq_true c1
 have c6 : x ≤ (l0.length : Int) := by omega
 have p6 := eq_true c6
 obtain ⟨i0, hi0, _, _, _⟩ := info_parts info51
 have hcut := cut_to (P := Try.prog) 22 51 .i64 Try.underlying22 hi0 (some ad) l0.length c0 x (by omega) (by omega) hc0
 clear hi0 c1 c2
 by_cases c3 : s.f2 < 0
 case pos =>
  rw [if_pos c3] at hh
  have q3 : decide (s.f2 < 0) = true := decide_eq_true c3
  clear c3
  obtain rfl := Option.some.inj hh
  go_wp2
  go_region
  go_wp2
  go_ret
  exact ⟨rfl, Be.out⟩
 rw [if_neg c3] at hh
 have q3 : decide (s.f2 < 0) = false := decide_eq_false c3
 clear c3
 by_cases c4 : s.f2 > 1048576
 case pos =>
  rw [if_pos c4] at hh
  have q4 : decide (1048576 < s.f2) = true := decide_eq_true c4
  clear c4
  obtain rfl := Option.some.inj hh
  go_wp2
  go_region
  go_wp2
  go_ret
  exact ⟨rfl, Be.out⟩
 rw [if_neg c4] at hh
 have q4 : decide (1048576 < s.f2) = false := decide_eq_false c4
 clear c4
 rw [if_pos c6] at hh
 clear c6
 replace hh := bindS hh
 obtain ⟨t, hF, hh⟩ := hh
 have HF := m_ hF
 clear hF
 by_cases c5 : t ≥ 0
 case pos =>
  rw [if_pos c5] at hh
  have q5 : decide (0 ≤ t) = true := decide_eq_true c5
  clear c5
  obtain rfl := Option.some.inj hh
  go_wp2
  go_region_held3 (fun w' => w'.cell? (ad.add (x.toNat * 4)) = some (.int .i64 s.f0.f0) ∧ w'.cell? ⟨(ad.add (x.toNat * 4)).block, (ad.add (x.toNat * 4)).off + 1, none⟩ = some (.int .i64 s.f0.f1) ∧ w'.cell? ⟨(ad.add (x.toNat * 4)).block, (ad.add (x.toNat * 4)).off + 3, none⟩ = some (.int .i64 s.f2)) ((repeat' (refine And.intro ?_ ?_)) <;> first | assumption | exact c8_ Bl.out (by assumption)) ((go_at_call 79; refine (ensembleref05_Right.find (by rw [List.length_take]; have := C1.out; omega) (Kd.C_take (Kd.C_below hr0 Be.out) (by have := C1.out; omega)) (by rw [List.length_take]; omega) HF).mono ?_; rintro e wz ⟨rfl, hb⟩; have := Bl.mk hb; clear hb))
  go_wp2
  go_ret
  exact ⟨rfl, Be.out⟩
 rw [if_neg c5] at hh
 have q5 : decide (0 ≤ t) = false := decide_eq_false c5
 clear c5
 have H2 := m_ hh
 clear hh
 go_wp2
 go_region_held3 (fun w' => w'.cell? (ad.add (x.toNat * 4)) = some (.int .i64 s.f0.f0) ∧ w'.cell? ⟨(ad.add (x.toNat * 4)).block, (ad.add (x.toNat * 4)).off + 1, none⟩ = some (.int .i64 s.f0.f1) ∧ w'.cell? ⟨(ad.add (x.toNat * 4)).block, (ad.add (x.toNat * 4)).off + 3, none⟩ = some (.int .i64 s.f2)) ((repeat' (refine And.intro ?_ ?_)) <;> first | assumption | exact c8_ Bl.out (by assumption)) ((go_at_call 79; refine (ensembleref05_Right.find (by rw [List.length_take]; have := C1.out; omega) (Kd.C_take (Kd.C_below hr0 Be.out) (by have := C1.out; omega)) (by rw [List.length_take]; omega) HF).mono ?_; rintro e wz ⟨rfl, hb⟩; have := Bl.mk hb; clear hb))
 go_wp2
 go_roundg k1
 case measure => have := HK.out; omega
 case rel => exact ⟨_, rfl, H2, ⟨by have := HK.out; omega⟩, inferInstance⟩
end Go.Proofs.Ytckhjehibjdjdaa.P
namespace Go.Proofs.Ytckhjehibjdjdaa.P
open Go.RowKit Go.Proofs.YtckhjehibjdjdaaW.PrintWords Go.Proofs.YtckhjehibjdjdaaW.PrintLast Go.Proofs.YtckhjehibjdjdaaW.PrintMore
attribute [local go_sem] max2_int min2_int max_two min_two max_three min_three max_four min_four
mutual
def ensembleref12_Few.j0 : Nat → List (S41) → Bool → Option (Bool)
 | 0, _, _ => none
 | k + 1, x2, x40 => if x40 = true then (some false) else (ensembleref12_Few.l0 k x2 0)
def ensembleref12_Few.l0 : Nat → List (S41) → Int → Option (Bool)
 | 0, _, _ => none
 | k + 1, x2, x7 => if x7 < (x2.length : Int) then (if 0 ≤ x7 then (if (((a6_ x2 x7).f4).length : Int) > 20 then (some false) else (ensembleref12_Few.l0 k x2 (wrap64 (x7 + 1)))) else (none)) else (some true)
end
def ensembleref12_Few.f (k : Nat) (l0 : List (S51)) (a1_0 a1_1 : Int) (l2 : List (S41)) : Option (Bool) := if (l0.length : Int) > 70 then (ensembleref12_Few.j0 k l2 true) else ((ensembleref05_Right.f k l0).bind fun t129 => (if t129 = true then (if (l2.length : Int) > 20 then (ensembleref12_Few.j0 k l2 true) else (if a1_0 < (-1048576) then (ensembleref12_Few.j0 k l2 true) else (if a1_0 > 1048576 then (ensembleref12_Few.j0 k l2 true) else (if a1_1 < (-1048576) then (ensembleref12_Few.j0 k l2 true) else (ensembleref12_Few.j0 k l2 (decide (a1_1 > 1048576))))))) else (ensembleref12_Few.j0 k l2 true)))
set_option maxHeartbeats 8000000 in
set_option maxRecDepth 100000 in
theorem ensembleref12_Few.calls (k : Nat) (A0 : Option Addr) (c0 : Nat) (l0 : List (S51)) (a1_0 a1_1 : Int) (A2 : Option Addr) (c2 : Nat) (l2 : List (S41)) (r : Bool) (w : World) (hr0 : Kd.C k51 w A0 l0.length l0) (hc0 : l0.length ≤ c0) (hr2 : Kd.C k41 w A2 l2.length l2) (hc2 : l2.length ≤ c2) (h : ensembleref12_Few.f k l0 a1_0 a1_1 l2 = some r) :
  Calls Try.prog 26 #[.slice A0 l0.length c0, .agg #[.int .i64 a1_0, .int .i64 a1_1], .slice A2 l2.length c2] w fun e w' => e = .returned (.bool r) ∧ Below w.heap.size w w' := by
 have hu24 := Try.underlying24
 have HR0 := m_ hr0
 have HC0 := m_ hc0
 clear hr0 hc0
 have HR2 := m_ hr2
 have HC2 := m_ hc2
 clear hr2 hc2
 have HB := m_ (Below.refl w.heap.size w)
 have H := h
 unfold ensembleref12_Few.f at H
 clear h
 have HC4 := m_ H
 clear H
 go_enter Try.func26, Try.ntmps26
 go_upto_region 1 with (first | ((with_reducible refine a3_ (N := 4) rfl ?_); (try (refine gate_guard (by rfl) ?_; dsimp only)); refine bx 4 #[.int .i64 a1_0, .int .i64 a1_1] 24 ?_; intro gb128 hg w5 hbox hb; have BK128 := m_ (hbox); have GW128 := ge_ hg; have GE128 := ge_ hg; replace HB := hs_ hb; clear hb hbox hg))
 (try simp only [Act.put, List.setIfInBounds_toArray, List.set_cons_zero, List.set_cons_succ])
 go_cut [40] (fun v40 wc => ∃ (kq : Nat) (x40_3 : Bool), v40 = .bool x40_3 ∧ A_ (ensembleref12_Few.j0 kq l2 x40_3 = some r) ∧ A_ (kq ≤ k) ∧ A_ (wc.heap[gb128]? = some (.cells #[.int .i64 a1_0, .int .i64 a1_1] 24 (0, 0))) ∧ A_ (Below w.heap.size w wc))
 case first =>
  have H := HC4.out
  clear HC4
  by_cases c6 : (l0.length : Int) > 70
  ·rw [if_pos c6] at H
   have c6b0 : decide (70 < (l0.length : Int)) = true := decide_eq_true c6
   have c6b1 : decide (70 < l0.length) = true := decide_eq_true (by omega)
   clear c6
   (first | rw [c6b0] | (simp only [i64_w, i32_w]; rw [c6b0]) | skip)
   have H' := m_ H
   clear H
   go_wp2
   go_meet
   case rel => exact ⟨_, (true), Z1, H', ⟨by first | omega | exact Nat.le_refl _⟩, ⟨bo_ BK128⟩, ⟨hb_⟩⟩
  ·rw [if_neg c6] at H
   have c6b0 : decide (70 < (l0.length : Int)) = false := decide_eq_false c6
   have c6b1 : decide (70 < l0.length) = false := decide_eq_false (by omega)
   clear c6
   (first | rw [c6b0] | (simp only [i64_w, i32_w]; rw [c6b0]) | skip)
   replace H := Option.bind_eq_some_iff.mp H
   obtain ⟨t129, A70, H⟩ := H
   try dsimp only at H
   have A7 := m_ A70
   clear A70
   by_cases c8 : t129 = true
   ·subst c8
    have H1 : (if (l2.length : Int) > 20 then (ensembleref12_Few.j0 k l2 true) else (if a1_0 < (-1048576) then (ensembleref12_Few.j0 k l2 true) else (if a1_0 > 1048576 then (ensembleref12_Few.j0 k l2 true) else (if a1_1 < (-1048576) then (ensembleref12_Few.j0 k l2 true) else (ensembleref12_Few.j0 k l2 (decide (a1_1 > 1048576))))))) = some r := by rw [if_pos rfl] at H; exact H
    clear H
    have H := H1
    clear H1
    by_cases c9 : (l2.length : Int) > 20
    ·rw [if_pos c9] at H
     have c9b0 : decide (20 < (l2.length : Int)) = true := decide_eq_true c9
     have c9b1 : decide (20 < l2.length) = true := decide_eq_true (by omega)
     clear c9
     have H' := m_ H
     clear H
     go_wp2_with (first | (go_at_call 67; (with_reducible refine (ensembleref05_Right.calls k _ _ l0 true _ ?side1 ?side2 A7.out).mono ?_); (case side1 => exact cs_ HR0); (case side2 => exact HC0.out); rintro e w10 ⟨rfl, hb⟩; replace BK128 := bk_ BK128 hb; replace HB := hs_ hb; (try clear hb); (try clear hb2); (try clear hk); (try clear hi)))
     go_meet
     case rel => exact ⟨_, (true), Z1, H', ⟨by first | omega | exact Nat.le_refl _⟩, ⟨bo_ BK128⟩, ⟨hb_⟩⟩
    ·rw [if_neg c9] at H
     have c9b0 : decide (20 < (l2.length : Int)) = false := decide_eq_false c9
     have c9b1 : decide (20 < l2.length) = false := decide_eq_false (by omega)
     clear c9
     by_cases c11 : a1_0 < (-1048576)
     ·rw [if_pos c11] at H
      have c11b0 : decide (a1_0 < (-1048576)) = true := decide_eq_true c11
      clear c11
      have H' := m_ H
      clear H
      go_wp2_with (first | (go_at_call 67; (with_reducible refine (ensembleref05_Right.calls k _ _ l0 true _ ?side1 ?side2 A7.out).mono ?_); (case side1 => exact cs_ HR0); (case side2 => exact HC0.out); rintro e w12 ⟨rfl, hb⟩; replace BK128 := bk_ BK128 hb; replace HB := hs_ hb; (try clear hb); (try clear hb2); (try clear hk); (try clear hi); obtain ⟨hcz13_0, hcz13_1, hfz13_0, hfz13_1⟩ := bz2_ BK128))
      go_meet
      case rel => exact ⟨_, (true), Z1, H', ⟨by first | omega | exact Nat.le_refl _⟩, ⟨bo_ BK128⟩, ⟨hb_⟩⟩
     ·rw [if_neg c11] at H
      have c11b0 : decide (a1_0 < (-1048576)) = false := decide_eq_false c11
      clear c11
      by_cases c14 : a1_0 > 1048576
      ·rw [if_pos c14] at H
       have c14b0 : decide (1048576 < a1_0) = true := decide_eq_true c14
       clear c14
       have H' := m_ H
       clear H
       go_wp2_with (first | (go_at_call 67; (with_reducible refine (ensembleref05_Right.calls k _ _ l0 true _ ?side1 ?side2 A7.out).mono ?_); (case side1 => exact cs_ HR0); (case side2 => exact HC0.out); rintro e w15 ⟨rfl, hb⟩; replace BK128 := bk_ BK128 hb; replace HB := hs_ hb; (try clear hb); (try clear hb2); (try clear hk); (try clear hi); obtain ⟨hcz16_0, hcz16_1, hfz16_0, hfz16_1⟩ := bz2_ BK128))
       go_meet
       case rel => exact ⟨_, (true), Z1, H', ⟨by first | omega | exact Nat.le_refl _⟩, ⟨bo_ BK128⟩, ⟨hb_⟩⟩
      ·rw [if_neg c14] at H
       have c14b0 : decide (1048576 < a1_0) = false := decide_eq_false c14
       clear c14
       by_cases c17 : a1_1 < (-1048576)
       ·rw [if_pos c17] at H
        have c17b0 : decide (a1_1 < (-1048576)) = true := decide_eq_true c17
        clear c17
        have H' := m_ H
        clear H
        go_wp2_with (first | (go_at_call 67; (with_reducible refine (ensembleref05_Right.calls k _ _ l0 true _ ?side1 ?side2 A7.out).mono ?_); (case side1 => exact cs_ HR0); (case side2 => exact HC0.out); rintro e w18 ⟨rfl, hb⟩; replace BK128 := bk_ BK128 hb; replace HB := hs_ hb; (try clear hb); (try clear hb2); (try clear hk); (try clear hi); obtain ⟨hcz19_0, hcz19_1, hfz19_0, hfz19_1⟩ := bz2_ BK128))
        go_meet
        case rel => exact ⟨_, (true), Z1, H', ⟨by first | omega | exact Nat.le_refl _⟩, ⟨bo_ BK128⟩, ⟨hb_⟩⟩
       ·rw [if_neg c17] at H
        have c17b0 : decide (a1_1 < (-1048576)) = false := decide_eq_false c17
        clear c17
        have H' := m_ H
        clear H
        go_wp2_with (first | (go_at_call 67; (with_reducible refine (ensembleref05_Right.calls k _ _ l0 true _ ?side1 ?side2 A7.out).mono ?_); (case side1 => exact cs_ HR0); (case side2 => exact HC0.out); rintro e w20 ⟨rfl, hb⟩; replace BK128 := bk_ BK128 hb; replace HB := hs_ hb; (try clear hb); (try clear hb2); (try clear hk); (try clear hi); obtain ⟨hcz21_0, hcz21_1, hfz21_0, hfz21_1⟩ := bz2_ BK128))
        go_meet
        case rel => exact ⟨_, (decide (a1_1 > 1048576)), Z1, H', ⟨by first | omega | exact Nat.le_refl _⟩, ⟨bo_ BK128⟩, ⟨hb_⟩⟩
   ·replace c8 := Bool.eq_false_iff.mpr c8
    subst c8
    have H1 : (ensembleref12_Few.j0 k l2 true) = some r := by rw [if_neg (show ¬ (false = true) by decide)] at H; exact H
    clear H
    have H := H1
    clear H1
    have H' := m_ H
    clear H
    go_wp2_with (first | (go_at_call 67; (with_reducible refine (ensembleref05_Right.calls k _ _ l0 false _ ?side1 ?side2 A7.out).mono ?_); (case side1 => exact cs_ HR0); (case side2 => exact HC0.out); rintro e w22 ⟨rfl, hb⟩; replace BK128 := bk_ BK128 hb; replace HB := hs_ hb; (try clear hb); (try clear hb2); (try clear hk); (try clear hi)))
    go_meet
    case rel => exact ⟨_, (true), Z1, H', ⟨by first | omega | exact Nat.le_refl _⟩, ⟨bo_ BK128⟩, ⟨hb_⟩⟩
 case rest =>
  clear HC4
  try clear c1
  try clear c2
  try clear p2
  try clear c6
  try clear c6b0
  try clear c6b1
  try clear c8
  try clear c9
  try clear c9b0
  try clear c9b1
  try clear c11
  try clear c11b0
  try clear c14
  try clear c14b0
  try clear c17
  try clear c17b0
  try clear hcz13_0 hcz13_1
  try clear hcz16_0 hcz16_1
  try clear hcz19_0 hcz19_1
  try clear hcz21_0 hcz21_1
  try clear hfz13_0 hfz13_1
  try clear hfz16_0 hfz16_1
  try clear hfz19_0 hfz19_1
  try clear hfz21_0 hfz21_1
  obtain ⟨kq, x40_3, rfl, HA, HJ3, BK128, HB⟩ := hcut
  cases kq with
  | zero => exact absurd HA.out (by simp [ensembleref12_Few.j0])
  | succ kj3 =>
   have H := HA.out
   clear HA
   simp only [ensembleref12_Few.j0] at H
   by_cases c23 : x40_3 = true
   ·subst c23
    have H1 : (some false) = some r := by rw [if_pos rfl] at H; exact H
    clear H
    have H := H1
    clear H1
    obtain rfl := Option.some.inj H
    go_wp2
    go_ret
    exact ⟨by first | rfl | (simp [a9_, a8_] <;> rfl) | (simp [*, a9_, a8_] <;> rfl), hb_⟩
   ·replace c23 := Bool.eq_false_iff.mpr c23
    subst c23
    have H1 : (ensembleref12_Few.l0 kj3 l2 0) = some r := by rw [if_neg (show ¬ (false = true) by decide)] at H; exact H
    clear H
    have H := H1
    clear H1
    have H' := m_ H
    clear H
    go_wp2
    go_loopg [7] kj3 (fun kq v7 w' => ∃ (x7_2 : Int), v7 = .int .i64 x7_2 ∧ A_ (ensembleref12_Few.l0 kq l2 x7_2 = some r) ∧ A_ (kq ≤ kj3) ∧ A_ (w'.heap[gb128]? = some (.cells #[.int .i64 a1_0, .int .i64 a1_1] 24 (0, 0))) ∧ A_ (Below w.heap.size w w'))
    case atStart => exact ⟨(0), Z1, H', ⟨Nat.le_refl _⟩, ⟨bo_ BK128⟩, ⟨hb_⟩⟩
    case round =>
     clear H'
     try clear c1
     try clear c2
     try clear p2
     try clear c6
     try clear c6b0
     try clear c6b1
     try clear c8
     try clear c9
     try clear c9b0
     try clear c9b1
     try clear c11
     try clear c11b0
     try clear c14
     try clear c14b0
     try clear c17
     try clear c17b0
     try clear c23
     try clear hcz13_0 hcz13_1
     try clear hcz16_0 hcz16_1
     try clear hcz19_0 hcz19_1
     try clear hcz21_0 hcz21_1
     try clear hfz13_0 hfz13_1
     try clear hfz16_0 hfz16_1
     try clear hfz19_0 hfz19_1
     try clear hfz21_0 hfz21_1
     try clear p2
     obtain ⟨x7_2, rfl, HA, HK2, BK128, HB⟩ := hrel
     cases gk with
     | zero => exact absurd HA.out (by simp [ensembleref12_Few.l0])
     | succ k2 =>
      have H := HA.out
      clear HA
      simp only [ensembleref12_Few.l0] at H
      by_cases c24 : x7_2 < (l2.length : Int)
      ·rw [if_pos c24] at H
       have c24b0 : decide (x7_2 < (l2.length : Int)) = true := decide_eq_true c24
       clear c24
       by_cases c25 : 0 ≤ x7_2
       ·rw [if_pos c25] at H
        have c25b0 : decide (0 ≤ x7_2) = true := decide_eq_true c25
        clear c25
        by_cases c26 : (((a6_ l2 x7_2).f4).length : Int) > 20
        ·rw [if_pos c26] at H
         have c26b0 : decide (20 < (((a6_ l2 x7_2).f4).length : Int)) = true := decide_eq_true c26
         have c26b1 : decide (20 < ((a6_ l2 x7_2).f4).length) = true := decide_eq_true (by omega)
         clear c26
         obtain rfl := Option.some.inj H
         have p130 : 0 ≤ (x7_2 : Int) := of_decide_eq_true Z4
         have q130 : x7_2 < (l2.length : Int) := of_decide_eq_true Z4
         obtain ⟨ad130, A130_4, c130_4, e130, hx130_0, hx130_1, hx130_2, hx130_3, hx130_4, hl130_4, hi130_4⟩ := at_T41 HR2.out x7_2 p130 q130
         cases e130
         replace hx130_0 := cx_ hx130_0
         replace hx130_1 := cx_ hx130_1
         replace hx130_2 := cx_ hx130_2
         replace hx130_3 := cx_ hx130_3
         replace hx130_4 := cx_ hx130_4
         have HR130_4 := m_ hi130_4
         have HC130_4 := m_ hl130_4
         clear hi130_4 hl130_4
         replace p130 := eq_true p130
         replace q130 := eq_true q130
         go_wp2
         go_ret
         exact ⟨by first | rfl | (simp [a9_, a8_] <;> rfl) | (simp [*, a9_, a8_] <;> rfl), hb_⟩
        ·rw [if_neg c26] at H
         have c26b0 : decide (20 < (((a6_ l2 x7_2).f4).length : Int)) = false := decide_eq_false c26
         have c26b1 : decide (20 < ((a6_ l2 x7_2).f4).length) = false := decide_eq_false (by omega)
         clear c26
         have H' := m_ H
         clear H
         have p130 : 0 ≤ (x7_2 : Int) := of_decide_eq_true Z4
         have q130 : x7_2 < (l2.length : Int) := of_decide_eq_true Z4
         obtain ⟨ad130, A130_4, c130_4, e130, hx130_0, hx130_1, hx130_2, hx130_3, hx130_4, hl130_4, hi130_4⟩ := at_T41 HR2.out x7_2 p130 q130
         cases e130
         replace hx130_0 := cx_ hx130_0
         replace hx130_1 := cx_ hx130_1
         replace hx130_2 := cx_ hx130_2
         replace hx130_3 := cx_ hx130_3
         replace hx130_4 := cx_ hx130_4
         have HR130_4 := m_ hi130_4
         have HC130_4 := m_ hl130_4
         clear hi130_4 hl130_4
         replace p130 := eq_true p130
         replace q130 := eq_true q130
         go_wp2
         go_roundg k2
         case measure => have := HJ3.out; have := HK2.out; omega
         case rel => exact ⟨(wrap64 (x7_2 + 1)), Z1, H', ⟨by have := HJ3.out; have := HK2.out; omega⟩, ⟨bo_ BK128⟩, ⟨hb_⟩⟩
       ·rw [if_neg c25] at H
        exact absurd H (by simp)
      ·rw [if_neg c24] at H
       have c24b0 : decide (x7_2 < (l2.length : Int)) = false := decide_eq_false c24
       clear c24
       obtain rfl := Option.some.inj H
       go_wp2
       go_ret
       exact ⟨by first | rfl | (simp [a9_, a8_] <;> rfl) | (simp [*, a9_, a8_] <;> rfl), hb_⟩
end Go.Proofs.Ytckhjehibjdjdaa.P
namespace Go.Proofs.Ytckhjehibjdjdaa.P
open Go.RowKit Go.Proofs.YtckhjehibjdjdaaW.PrintWords Go.Proofs.YtckhjehibjdjdaaW.PrintLast Go.Proofs.YtckhjehibjdjdaaW.PrintMore
theorem set51 {W : World} {base n cap g : Nat} {i : Int} {xs : List S51} (h : Kd.R k51 51 W base (fun _ => True) (.slice (some ⟨g, 0, none⟩) n cap) xs) (h0 : 0 ≤ i) (h1 : i < n) :
  (W.cell? ⟨g, i.toNat * 4, none⟩ = some (.int .i64 (a4_ xs i).f0.f0) ∧ W.cell? ⟨g, i.toNat * 4 + 1, none⟩ = some (.int .i64 (a4_ xs i).f0.f1) ∧ W.cell? ⟨g, i.toNat * 4 + 2, none⟩ = some (.int .u64 (a4_ xs i).f1) ∧ W.cell? ⟨g, i.toNat * 4 + 3, none⟩ = some (.int .i64 (a4_ xs i).f2)) ∧ (W.frozen? ⟨g, i.toNat * 4 + 2, none⟩ = false ∧ W.frozen? ⟨g, i.toNat * 4 + 3, none⟩ = false) ∧
  (∀ v, Kd.R k51 51 (W.setCell ⟨g, i.toNat * 4 + 2, none⟩ (.int .u64 v)) base (fun _ => True) (.slice (some ⟨g, 0, none⟩) n cap) (xs.set i.toNat ⟨⟨(a4_ xs i).f0.f0, (a4_ xs i).f0.f1⟩, v, (a4_ xs i).f2⟩)) ∧
  (∀ v, Kd.R k51 51 (W.setCell ⟨g, i.toNat * 4 + 3, none⟩ (.int .i64 v)) base (fun _ => True) (.slice (some ⟨g, 0, none⟩) n cap) (xs.set i.toNat ⟨⟨(a4_ xs i).f0.f0, (a4_ xs i).f0.f1⟩, (a4_ xs i).f1, v⟩)) := by
 obtain ⟨c, hcl, hM, hcc, hfr⟩ := Kd.R_elem h z51 i h0 h1
 obtain rfl := k51_openM hM
 have hsz : k51.sz = 4 := rfl
 rw [hsz] at hcc hfr
 refine ⟨⟨by have := hcc 0 _ rfl; rwa [Nat.add_zero] at this, hcc 1 _ rfl, hcc 2 _ rfl, hcc 3 _ rfl⟩, ⟨hfr 2, hfr 3⟩, fun v => ?_, fun v => ?_⟩
 ·have := (Kd.R_seg h i h0 h1 (seg := [.int .u64 v]) (j := 2) hcl (by rw [hsz]; exact hcc) (show 3 ≤ 4 from by decide) (x' := ⟨⟨(a4_ xs i).f0.f0, (a4_ xs i).f0.f1⟩, v, (a4_ xs i).f2⟩) (k51_mkM _ _ _ _) (fun _ hk => hk)).1
  rw [hsz] at this
  exact this
 ·have := (Kd.R_seg h i h0 h1 (seg := [.int .i64 v]) (j := 3) hcl (by rw [hsz]; exact hcc) (show 4 ≤ 4 from by decide) (x' := ⟨⟨(a4_ xs i).f0.f0, (a4_ xs i).f0.f1⟩, (a4_ xs i).f1, v⟩) (k51_mkM _ _ _ _) (fun _ hk => hk)).1
  rw [hsz] at this
  exact this
end Go.Proofs.Ytckhjehibjdjdaa.P
namespace Go.Proofs.Ytckhjehibjdjdaa.P
open Go.RowKit Go.Proofs.YtckhjehibjdjdaaW.PrintWords Go.Proofs.YtckhjehibjdjdaaW.PrintLast Go.Proofs.YtckhjehibjdjdaaW.PrintMore
attribute [local go_sem] max2_int min2_int max_two min_two max_three min_three max_four min_four
def ensembleref01_Has.l0 : Nat → Int → Int → Int → Option (Bool)
 | 0, _, _, _ => none
 | k + 1, x0, x1, x5 => if x5 < x1 then (ensembleref01_Has.l0 k (IntKind.u64.wrap (Int.tdiv x0 2)) x1 (wrap64 (x5 + 1))) else (if x1 ≥ 0 then (if x1 < 64 then (some ((Int.tmod x0 2) == 1)) else (some false)) else (some false))
def ensembleref01_Has.f (k : Nat) (a0 a1 : Int) : Option (Bool) := ensembleref01_Has.l0 k a0 a1 0
set_option maxHeartbeats 8000000 in
set_option maxRecDepth 100000 in
theorem ensembleref01_Has.calls (k : Nat) (a0 a1 : Int) (r : Bool) (w : World) (h : ensembleref01_Has.f k a0 a1 = some r) :
  Calls Try.prog 106 #[.int .u64 a0, .int .i64 a1] w fun e w' => e = .returned (.bool r) ∧ Drawn0 w w' := by
 have H := h
 unfold ensembleref01_Has.f at H
 clear h
 have H' := m_ H
 clear H
 go_enter Try.func106, Try.ntmps106
 go_wp2
 go_loopg [0, 5] k (fun kq v0 v5 w' => ∃ (x0_1 : Int) (x5_1 : Int), v0 = .int .u64 x0_1 ∧ v5 = .int .i64 x5_1 ∧ A_ (ensembleref01_Has.l0 kq x0_1 a1 x5_1 = some r) ∧ A_ (kq ≤ k) ∧ Drawn0 w w')
 case atStart => exact ⟨(a0), (0), Z1, Z1, H', ⟨Nat.le_refl _⟩, by repeat (first | exact Drawn0.refl _ | apply Drawn0.step)⟩
 case round =>
  clear H'
  try clear c1
  try clear p2
  obtain ⟨x0_1, x5_1, rfl, rfl, HA, HK1, ⟨m1, rfl⟩⟩ := hrel
  cases gk with
  | zero => exact absurd HA.out (by simp [ensembleref01_Has.l0])
  | succ k1 =>
   have H := HA.out
   clear HA
   simp only [ensembleref01_Has.l0] at H
   by_cases c3 : x5_1 < a1
   ·rw [if_pos c3] at H
    have c3b0 : decide (x5_1 < a1) = true := decide_eq_true c3
    clear c3
    have H' := m_ H
    clear H
    go_wp2
    go_roundg k1
    case measure => have := HK1.out; omega
    case rel => exact ⟨(IntKind.u64.wrap (Int.tdiv x0_1 2)), (wrap64 (x5_1 + 1)), Z1, Z1, H', ⟨by have := HK1.out; omega⟩, by repeat (first | exact Drawn0.refl _ | apply Drawn0.step)⟩
   ·rw [if_neg c3] at H
    have c3b0 : decide (x5_1 < a1) = false := decide_eq_false c3
    clear c3
    by_cases c4 : a1 ≥ 0
    ·rw [if_pos c4] at H
     have c4b0 : decide (0 ≤ a1) = true := decide_eq_true c4
     clear c4
     by_cases c5 : a1 < 64
     ·rw [if_pos c5] at H
      have c5b0 : decide (a1 < 64) = true := decide_eq_true c5
      clear c5
      obtain rfl := Option.some.inj H
      go_wp2
      go_ret
      exact ⟨by first | rfl | (simp; done) | (simp [*]; done), by repeat (first | exact Drawn0.refl _ | apply Drawn0.step)⟩
     ·rw [if_neg c5] at H
      have c5b0 : decide (a1 < 64) = false := decide_eq_false c5
      clear c5
      obtain rfl := Option.some.inj H
      go_wp2
      go_ret
      exact ⟨by first | rfl | (simp; done) | (simp [*]; done), by repeat (first | exact Drawn0.refl _ | apply Drawn0.step)⟩
    ·rw [if_neg c4] at H
     have c4b0 : decide (0 ≤ a1) = false := decide_eq_false c4
     clear c4
     obtain rfl := Option.some.inj H
     go_wp2
     go_ret
     exact ⟨by first | rfl | (simp; done) | (simp [*]; done), by repeat (first | exact Drawn0.refl _ | apply Drawn0.step)⟩
def ensembleref01_Units.l0 : Nat → Int → List Int → Int → Option (List Int)
 | 0, _, _, _ => none
 | k + 1, x0, x3, x4 => if x4 < 64 then ((ensembleref01_Has.f k x0 x4).bind fun t134 => (if t134 = true then (if x3.length < 17592186044416 then (ensembleref01_Units.l0 k x0 (x3 ++ [x4]) (wrap64 (x4 + 1))) else (none)) else (ensembleref01_Units.l0 k x0 x3 (wrap64 (x4 + 1))))) else (some x3)
def ensembleref01_Units.f (k : Nat) (a0 : Int) : Option (List Int) := ensembleref01_Units.l0 k a0 ([] : List Int) 0
set_option maxHeartbeats 8000000 in
set_option maxRecDepth 100000 in
theorem ensembleref01_Units.calls (k : Nat) (a0 : Int) (r : List Int) (w : World) (h : ensembleref01_Units.f k a0 = some r) :
  Calls Try.prog 82 #[.int .u64 a0] w fun e w' => ∃ v0_ : Value, e = .returned (v0_) ∧ Kd.R (Kd.int .i64) 3 w' w.heap.size (fun _ => True) v0_ r ∧ Below w.heap.size w w' := by
 have HB := m_ (Below.refl w.heap.size w)
 have H := h
 unfold ensembleref01_Units.f at H
 clear h
 have H' := m_ H
 clear H
 go_enter Try.func82, Try.ntmps82
 go_wp2
 go_loopg [3, 4] k (fun kq v3 v4 w' => ∃ (x3_1 : List Int) (x4_1 : Int), v4 = .int .i64 x4_1 ∧ A_ (ensembleref01_Units.l0 kq a0 x3_1 x4_1 = some r) ∧ A_ (kq ≤ k) ∧ A_ (Kd.R (Kd.int .i64) 3 w' w.heap.size (fun _ => True) v3 x3_1) ∧ A_ (Below w.heap.size w w'))
 case atStart => exact ⟨(([] : List Int)), (0), Z1, H', ⟨Nat.le_refl _⟩, ⟨by first | exact Kd.R_nil _ _ _ _ _ | exact Kd.N_nil _ _ _ _ _ | exact Kd.V_nil _ _ _ _ _ | exact Kd.Q_nil _ _ _ _ _ | exact Kd.S_nil _ _ _ _ _⟩, ⟨hb_⟩⟩
 case round =>
  clear H'
  obtain ⟨x3_1, x4_1, rfl, HA, HK1, HO_3, HB⟩ := hrel
  cases gk with
  | zero => exact absurd HA.out (by simp [ensembleref01_Units.l0])
  | succ k1 =>
   have H := HA.out
   clear HA
   simp only [ensembleref01_Units.l0] at H
   by_cases c2 : x4_1 < 64
   ·rw [if_pos c2] at H
    have c2b0 : decide (x4_1 < 64) = true := decide_eq_true c2
    clear c2
    replace H := Option.bind_eq_some_iff.mp H
    obtain ⟨t134, A30, H⟩ := H
    try dsimp only at H
    have A3 := m_ A30
    clear A30
    by_cases c4 : t134 = true
    ·subst c4
     have H1 : (if x3_1.length < 17592186044416 then (ensembleref01_Units.l0 k1 a0 (x3_1 ++ [x4_1]) (wrap64 (x4_1 + 1))) else (none)) = some r := by rw [if_pos rfl] at H; exact H
     clear H
     have H := H1
     clear H1
     by_cases c5 : x3_1.length < 17592186044416
     ·rw [if_pos c5] at H
      have LMc5 := m_ c5
      clear c5
      obtain ⟨y135, hy135⟩ : ∃ y_ : List Int, y_ = (x3_1 ++ [x4_1]) := ⟨_, rfl⟩
      replace H : (ensembleref01_Units.l0 k1 a0 y135 (wrap64 (x4_1 + 1))) = some r := by first | (rw [hy135]; with_reducible exact H) | (have H2_ := (Option.bind_some _ _).symm.trans H; rw [hy135]; with_reducible exact H2_) | (have H2_ := (Option.bind_some _ _).symm.trans H; with_reducible exact H2_) | with_reducible exact H | (rw [hy135]; exact H) | exact H
      have Ny135 := m_ hy135
      clear hy135
      have H' := m_ H
      clear H
      go_wp2_with (first | ((with_reducible refine b0_ (f := 106) rfl ?_); refine goesL_ (some 11) rfl rfl Try.func106 (by kernel_rfl) rfl #[.int .u64 a0, .int .i64 x4_1] rfl Z0 ?_; (with_reducible refine (ensembleref01_Has.calls k1 a0 x4_1 true _ A3.out).mono ?_); rintro e w' ⟨rfl, ⟨nd, rfl⟩⟩; refine ⟨_, rfl, ?_⟩) | ((with_reducible refine gate_builtin (b := .append) (xs := #[.tmp 12, .tmp 14]) rfl ?_); at_builtin; refine Kd.R_append (Kd.int .i64) (w0 := w) w.heap.size rfl (.tmp 12) (.tmp 14) 71 3 (.int .i64 0) 8 rfl Try.underlying71 info3 rfl (by decide) (by omega) u3 x3_1 x4_1 [.int .i64 x4_1] (fun _ => True) (fun _ => False) rfl rfl ?aP (fun _ hk => hk.elim) ?aF ?aO ?aB ?aS ?aL ?_; (case aP => exact rfl); (case aB => exact hb_); (case aF => exact (fun _ _ => trivial)); (case aO => exact (by (with_reducible repeat (first | apply Kd.R_alloc | apply Kd.R_drewN | apply Kd.R_drew)); exact HO_3.out)); (case aS => exact (b4_ hb_)); (case aL => have := LMc5.out; omega); intro v136 w6 ho hb hg hat; rw [← Ny135.out] at ho; have HO137 := m_ (ho); replace HB := m_ (hb); clear HO_3; clear ho hb hg hat))
      go_roundg k1
      case measure => have := HK1.out; omega
      case rel => exact ⟨(y135), (wrap64 (x4_1 + 1)), Z1, H', ⟨by have := HK1.out; omega⟩, ⟨by (with_reducible repeat (first | apply Kd.R_alloc | apply Kd.R_drewN | apply Kd.R_drew)); exact HO137.out⟩, ⟨hb_⟩⟩
     ·rw [if_neg c5] at H
      exact absurd H (by simp)
    ·replace c4 := Bool.eq_false_iff.mpr c4
     subst c4
     have H1 : (ensembleref01_Units.l0 k1 a0 x3_1 (wrap64 (x4_1 + 1))) = some r := by rw [if_neg (show ¬ (false = true) by decide)] at H; exact H
     clear H
     have H := H1
     clear H1
     have H' := m_ H
     clear H
     go_wp2_with (first | ((with_reducible refine b0_ (f := 106) rfl ?_); refine goesL_ (some 11) rfl rfl Try.func106 (by kernel_rfl) rfl #[.int .u64 a0, .int .i64 x4_1] rfl Z0 ?_; (with_reducible refine (ensembleref01_Has.calls k1 a0 x4_1 false _ A3.out).mono ?_); rintro e w' ⟨rfl, ⟨nd, rfl⟩⟩; refine ⟨_, rfl, ?_⟩))
     go_roundg k1
     case measure => have := HK1.out; omega
     case rel => exact ⟨(x3_1), (wrap64 (x4_1 + 1)), Z1, H', ⟨by have := HK1.out; omega⟩, ⟨by (with_reducible repeat (first | apply Kd.R_alloc | apply Kd.R_drewN | apply Kd.R_drew)); exact HO_3.out⟩, ⟨hb_⟩⟩
   ·rw [if_neg c2] at H
    have c2b0 : decide (x4_1 < 64) = false := decide_eq_false c2
    clear c2
    obtain rfl := Option.some.inj H
    go_wp2
    go_ret
    exact ⟨_, by first | rfl | (simp [a9_, a8_] <;> rfl) | (simp [*, a9_, a8_] <;> rfl), by (with_reducible repeat (first | apply Kd.R_alloc | apply Kd.R_drewN | apply Kd.R_drew)); exact HO_3.out, hb_⟩
def ensembleref05_masks.l0 : Nat → Int → Int → List Int → Int → Option (Int)
 | 0, _, _, _, _ => none
 | k + 1, x1, x5, x6, x7 => if x7 < (x6.length : Int) then (if 0 ≤ x7 then ((ensembleref01_Has.f k x1 (rd x6 x7)).bind fun t180 => (if t180 = true then (ensembleref05_masks.l0 k x1 (wrap64 (x5 + 1)) x6 (wrap64 (x7 + 1))) else (ensembleref05_masks.l0 k x1 x5 x6 (wrap64 (x7 + 1))))) else (none)) else (some x5)
def ensembleref05_masks.f (k : Nat) (a0 a1 : Int) : Option (Int) := (ensembleref01_Units.f k a0).bind fun t176 => (ensembleref05_masks.l0 k a1 0 t176 0)
set_option maxHeartbeats 8000000 in
set_option maxRecDepth 100000 in
theorem ensembleref05_masks.calls (k : Nat) (a0 a1 r : Int) (w : World) (h : ensembleref05_masks.f k a0 a1 = some r) :
  Calls Try.prog 80 #[.int .u64 a0, .int .u64 a1] w fun e w' => e = .returned (.int .i64 r) ∧ Below w.heap.size w w' := by
 have HB := m_ (Below.refl w.heap.size w)
 have H := h
 unfold ensembleref05_masks.f at H
 clear h
 replace H := Option.bind_eq_some_iff.mp H
 obtain ⟨t176, A30, H⟩ := H
 try dsimp only at H
 have A3 := m_ A30
 clear A30
 have H' := m_ H
 clear H
 go_enter Try.func80, Try.ntmps80
 go_wp2_with (first | ((with_reducible refine b0_ (f := 82) rfl ?_); refine goesL_ (some 9) rfl rfl Try.func82 (by kernel_rfl) rfl #[.int .u64 a0] rfl Z0 ?_; (with_reducible refine (ensembleref01_Units.calls k a0 t176 _ A3.out).mono ?_); rintro e w4 ⟨v177, rfl, ho0, hb⟩; refine ⟨_, rfl, ?_⟩; have HO178 := m_ (Kd.R_lower ho0 (b4_ hb_)); replace HB := hs_ hb; (try clear hb); (try clear hb2); (try clear hk); (try clear hi); (try clear ho0)))
 go_loopg [5, 7] k (fun kq v5 v7 w' => ∃ (x5_1 : Int) (x7_1 : Int), v5 = .int .i64 x5_1 ∧ v7 = .int .i64 x7_1 ∧ A_ (ensembleref05_masks.l0 kq a1 x5_1 t176 x7_1 = some r) ∧ A_ (kq ≤ k) ∧ A_ (Kd.R (Kd.int .i64) 3 w' w.heap.size (fun _ => True) v177 t176) ∧ A_ (Below w.heap.size w w'))
 case atStart => exact ⟨(0), (0), Z1, Z1, H', ⟨Nat.le_refl _⟩, ⟨by (with_reducible repeat (first | apply Kd.R_alloc | apply Kd.R_drewN | apply Kd.R_drew)); exact HO178.out⟩, ⟨hb_⟩⟩
 case round =>
  clear H'
  try clear p2
  obtain ⟨x5_1, x7_1, rfl, rfl, HA, HK1, HO_6, HB⟩ := hrel
  cases gk with
  | zero => exact absurd HA.out (by simp [ensembleref05_masks.l0])
  | succ k1 =>
   have H := HA.out
   clear HA
   simp only [ensembleref05_masks.l0] at H
   by_cases c5 : x7_1 < (t176.length : Int)
   ·rw [if_pos c5] at H
    have c5b0 : decide (x7_1 < (t176.length : Int)) = true := decide_eq_true c5
    clear c5
    by_cases c6 : 0 ≤ x7_1
    ·rw [if_pos c6] at H
     have c6b0 : decide (0 ≤ x7_1) = true := decide_eq_true c6
     clear c6
     replace H := Option.bind_eq_some_iff.mp H
     obtain ⟨t180, A70, H⟩ := H
     try dsimp only at H
     have A7 := m_ A70
     clear A70
     by_cases c8 : t180 = true
     ·subst c8
      have H1 : (ensembleref05_masks.l0 k1 a1 (wrap64 (x5_1 + 1)) t176 (wrap64 (x7_1 + 1))) = some r := by rw [if_pos rfl] at H; exact H
      clear H
      have H := H1
      clear H1
      have H' := m_ H
      clear H
      obtain ⟨Ao9, co9, eo9⟩ := Kd.R_slice HO_6.out
      subst eo9
      have p179 : 0 ≤ (x7_1 : Int) := of_decide_eq_true Z4
      have q179 : x7_1 < (t176.length : Int) := of_decide_eq_true Z4
      obtain ⟨ad179, e179, hx179_0⟩ := Kd.at_int (Kd.R_reads' HO_6.out).2.2 x7_1 p179 q179
      cases e179
      replace p179 := eq_true p179
      replace q179 := eq_true q179
      go_wp2_with (first | ((with_reducible refine b0_ (f := 106) rfl ?_); refine goesL_ (some 21) rfl rfl Try.func106 (by kernel_rfl) rfl #[.int .u64 a1, .int .i64 (rd t176 x7_1)] rfl Z0 ?_; (with_reducible refine (ensembleref01_Has.calls k1 a1 (rd t176 x7_1) true _ A7.out).mono ?_); rintro e w' ⟨rfl, ⟨nd, rfl⟩⟩; refine ⟨_, rfl, ?_⟩))
      go_roundg k1
      case measure => have := HK1.out; omega
      case rel => exact ⟨(wrap64 (x5_1 + 1)), (wrap64 (x7_1 + 1)), Z1, Z1, H', ⟨by have := HK1.out; omega⟩, ⟨by (with_reducible repeat (first | apply Kd.R_alloc | apply Kd.R_drewN | apply Kd.R_drew)); exact HO_6.out⟩, ⟨hb_⟩⟩
     ·replace c8 := Bool.eq_false_iff.mpr c8
      subst c8
      have H1 : (ensembleref05_masks.l0 k1 a1 x5_1 t176 (wrap64 (x7_1 + 1))) = some r := by rw [if_neg (show ¬ (false = true) by decide)] at H; exact H
      clear H
      have H := H1
      clear H1
      have H' := m_ H
      clear H
      obtain ⟨Ao10, co10, eo10⟩ := Kd.R_slice HO_6.out
      subst eo10
      have p179 : 0 ≤ (x7_1 : Int) := of_decide_eq_true Z4
      have q179 : x7_1 < (t176.length : Int) := of_decide_eq_true Z4
      obtain ⟨ad179, e179, hx179_0⟩ := Kd.at_int (Kd.R_reads' HO_6.out).2.2 x7_1 p179 q179
      cases e179
      replace p179 := eq_true p179
      replace q179 := eq_true q179
      go_wp2_with (first | ((with_reducible refine b0_ (f := 106) rfl ?_); refine goesL_ (some 21) rfl rfl Try.func106 (by kernel_rfl) rfl #[.int .u64 a1, .int .i64 (rd t176 x7_1)] rfl Z0 ?_; (with_reducible refine (ensembleref01_Has.calls k1 a1 (rd t176 x7_1) false _ A7.out).mono ?_); rintro e w' ⟨rfl, ⟨nd, rfl⟩⟩; refine ⟨_, rfl, ?_⟩))
      go_roundg k1
      case measure => have := HK1.out; omega
      case rel => exact ⟨(x5_1), (wrap64 (x7_1 + 1)), Z1, Z1, H', ⟨by have := HK1.out; omega⟩, ⟨by (with_reducible repeat (first | apply Kd.R_alloc | apply Kd.R_drewN | apply Kd.R_drew)); exact HO_6.out⟩, ⟨hb_⟩⟩
    ·rw [if_neg c6] at H
     exact absurd H (by simp)
   ·rw [if_neg c5] at H
    have c5b0 : decide (x7_1 < (t176.length : Int)) = false := decide_eq_false c5
    clear c5
    obtain rfl := Option.some.inj H
    obtain ⟨Ao11, co11, eo11⟩ := Kd.R_slice HO_6.out
    subst eo11
    go_wp2
    go_ret
    exact ⟨by first | rfl | (simp [a9_, a8_] <;> rfl) | (simp [*, a9_, a8_] <;> rfl), hb_⟩
end Go.Proofs.Ytckhjehibjdjdaa.P
namespace Go.Proofs.Ytckhjehibjdjdaa.P
open Go.RowKit Go.Proofs.YtckhjehibjdjdaaW.PrintWords Go.Proofs.YtckhjehibjdjdaaW.PrintLast Go.Proofs.YtckhjehibjdjdaaW.PrintMore
attribute [local go_sem] max2_int min2_int max_two min_two max_three min_three max_four min_four
attribute [local go_sem] cellBx frozBx
def ensembleref05_Less.l0 : Nat → List (S52) → List (S51) → Int → Option ((List (S51)) × Int)
 | 0, _, _, _ => none
 | k + 1, x1, x6, x7 => if x7 < (x1.length : Int) then (if 0 ≤ x7 then (if ((a5_ x1 x7).f2) < 0 then (some (([] : List (S51)), 1)) else ((ensembleref05_find.f k x6 ((a5_ x1 x7).f0.f0) ((a5_ x1 x7).f0.f1)).bind fun t368 => (if t368 < 0 then (some (([] : List (S51)), 3)) else (if 0 ≤ t368 then (if t368 < (x6.length : Int) then ((ensembleref05_masks.f k ((a5_ x1 x7).f1) ((a4_ x6 t368).f1)).bind fun t370 => ((ensembleref01_Units.f k ((a5_ x1 x7).f1)).bind fun t371 => (if t370 < (t371.length : Int) then (some (([] : List (S51)), 5)) else (if ((a5_ x1 x7).f2) > ((a4_ x6 t368).f2) then (some (([] : List (S51)), 5)) else ((some (x6.set (t368 : Int).toNat (⟨(⟨(a4_ x6 t368).f0.f0, (a4_ x6 t368).f0.f1⟩ : S48), IntKind.u64.wrap (((a4_ x6 t368).f1) - ((a5_ x1 x7).f1)), (a4_ x6 t368).f2⟩ : S51) : List (S51))).bind fun y376 => (ensembleref05_Less.l0 k x1 (y376.set (t368 : Int).toNat (⟨(⟨(a4_ y376 t368).f0.f0, (a4_ y376 t368).f0.f1⟩ : S48), (a4_ y376 t368).f1, wrap64 (((a4_ y376 t368).f2) - ((a5_ x1 x7).f2))⟩ : S51)) (wrap64 (x7 + 1)))))))) else (none)) else (none))))) else (none)) else (some (x6, 0))
def ensembleref05_Less.f (k : Nat) (l0 : List (S51)) (l1 : List (S52)) : Option ((List (S51)) × Int) := (some (([] : List (S51)) : List (S51))).bind fun y360 => (if y360.length + l0.length < 4398046511104 then (ensembleref05_Less.l0 k l1 (y360 ++ l0) 0) else (none))
theorem ensembleref05_Less.find {k n : Nat} {A : Option Addr} {c : Nat} {l : List S51} {a b r : Int} {w : World} (hl : A_ (l.length = n)) (hr : Kd.C k51 w A l.length l) (hc : l.length ≤ c) (h : A_ (ensembleref05_find.f k l a b = some r)) :
  Calls Try.prog 79 #[.slice A n c, .agg #[.int .i64 a, .int .i64 b]] w fun e w' => e = .returned (.int .i64 r) ∧ Below w.heap.size w w' := by
 obtain rfl := hl.out
 exact ensembleref05_find.calls k A c l a b r w hr hc h.out
def ensembleref05_Less.T11 : Bool × List (List Nat × List Nat) := (true, [([], []), ([0], [0]), ([], []), ([], []), ([2, 3], [2, 3]), ([4], [4]), ([5], [5]), ([1, 6], [1, 6]), ([], []), ([8], [8]), ([9, 7], [9]), ([10], [10]), ([7, 11], [7, 11]), ([12, 10], [12]), ([13], [13]), ([14, 13], [13, 14]), ([13], [13]), ([13], [13]), ([16, 17, 13], [13, 16, 17]), ([18, 13], [13, 18]), ([19, 13], [13, 19]), ([15, 20, 13], [13, 15, 20]), ([13, 21], [13, 21])])
def ensembleref05_Less.B11 : List Nat := [0, 1, 0, 0, 12, 28, 60, 127, 0, 256, 1023, 2047, 4095, 8191, 16383, 32767, 16383, 16383, 212991, 475135, 999423, 2097151, 4194303]
theorem ensembleref05_Less.tab11 : rtab .any (opsOf Try.f41 11) = ensembleref05_Less.T11 := by kernel_rfl
theorem ensembleref05_Less.bits11 : waitsOk ensembleref05_Less.T11.2 ensembleref05_Less.B11 = true := by kernel_rfl
set_option maxHeartbeats 8000000 in
set_option maxRecDepth 100000 in
theorem ensembleref05_Less.calls (k : Nat) (A0 : Option Addr) (c0 : Nat) (l0 : List (S51)) (A1 : Option Addr) (c1 : Nat) (l1 : List (S52)) (r1 : List (S51)) (r2 : Int) (w : World) (hr0 : Kd.C k51 w A0 l0.length l0) (hc0 : l0.length ≤ c0) (hr1 : Kd.C k52 w A1 l1.length l1) (hc1 : l1.length ≤ c1) (h : ensembleref05_Less.f k l0 l1 = some (r1, r2)) :
  Calls Try.prog 41 #[.slice A0 l0.length c0, .slice A1 l1.length c1] w fun e w' => ∃ v0_ : Value, e = .returned (.tuple #[v0_, .int .i64 r2]) ∧ Kd.R k51 51 w' w.heap.size (fun _ => True) v0_ r1 ∧ Below w.heap.size w w' := by
 have hu52 := Try.underlying52
 have hu51 := Try.underlying51
 have hu48 := Try.underlying48
 have : Be w w := ⟨Below.refl _ _⟩
 unfold ensembleref05_Less.f at h
 rw [Option.bind_some] at h
 by_cases hn : ([] : List (S51)).length + l0.length < 4398046511104
 case neg => rw [if_neg hn] at h; cases h
 rw [if_pos hn, List.nil_append] at h
 have HN := m_ (show l0.length < 4398046511104 by simpa using hn)
 have HA0 := m_ h
 clear h hn
 go_enter Try.func41, Try.ntmps41
 go_wp2_with (first | ((with_reducible refine a3_ (N := 10) rfl ?_); refine Kd.R_lit k51 _ 51 ?hg (N := 10) ?hd (xs := ([] : List S51)) (inner := []) (ok := fun _ => True) (okp := fun _ => True) ?hr ?hp (fun _ hk => hk) trivial (Below.refl w.heap.size w) (Nat.le_refl _) (by simp) ?_; (case hd => rfl); (case hg => rfl); (case hr => first | (go_simp; done) | (go_simp; rfl)); (case hp => exact (Reps.none _ _)); intro v1 wl ho hb _ _; have := Bl.mk hb) | ((with_reducible refine gate_builtin (b := .append) (xs := #[.tmp 10, .tmp 11]) rfl ?_); at_builtin; refine Kd.R_append_rows k51 (w0 := w) w.heap.size rfl (.tmp 10) (.tmp 11) 22 51 (.agg #[.int .i64 0, .int .i64 0, .int .u64 0, .int .i64 0]) 32 rfl Try.underlying22 info51 rfl (by decide) (by omega) v1 [] l0 _ _ _ (fun _ => True) (fun _ => False) rfl rfl ?aO ?aR (fun _ _ h => h) (fun _ h => h.elim) ?aF ?aB ?aS ?aL ?_; (case aR => exact Kd.C_below hr0 hb); (case aB => exact hb); (case aF => exact (fun _ _ => trivial)); (case aO => exact ho); (case aS => exact hb.size); (case aL => have := HN.out; simp; omega); intro v wp ho2 hb2 _ _; rw [List.nil_append] at ho2; have := Bl.mk hb2; clear ho hb))
 obtain ⟨Av, cv, e3⟩ := Kd.R_slice ho2
 subst e3
 have HO := m_ ho2
 have be : Be w wp := inferInstance
 clear ho2
 go_loopg [7] k (fun kq v7 w' => ∃ (x6 : List (S51)) (x7 : Int), v7 = .int .i64 x7 ∧ A_ (ensembleref05_Less.l0 kq l1 x6 x7 = some (r1, r2)) ∧ A_ (kq ≤ k) ∧ A_ (x6.length = l0.length) ∧ A_ (Kd.R k51 51 w' w.heap.size (fun _ => True) (.slice Av l0.length cv) x6) ∧ Be w w')
 case atStart => exact ⟨l0, 0, rfl, HA0, ⟨Nat.le_refl _⟩, ⟨rfl⟩, HO, be⟩
 case round =>
  clear HA0 HO be
  obtain ⟨x6, x7, rfl, HA, HK, HL, HO, be⟩ := hrel
  cases gk with
  | zero => exact absurd HA.out (by simp [ensembleref05_Less.l0])
  | succ k1 =>
   have hh := HA.out
   clear HA
   rw [ensembleref05_Less.l0] at hh
   by_cases c1 : x7 < (l1.length : Int)
   case neg =>
    rw [if_neg c1] at hh
    simp only [Option.some.injEq, Prod.mk.injEq] at hh
    obtain ⟨rfl, rfl⟩ := hh
    have q := decide_eq_false c1
    clear c1
    go_wp2
    go_ret2
    exact ⟨_, rfl, HO.out, Be.out⟩
   rw [if_pos c1] at hh
   by_cases c2 : 0 ≤ x7
   case neg => rw [if_neg c2] at hh; cases hh
   rw [if_pos c2] at hh
   obtain ⟨ad, hea, z0, z1, z2, z3⟩ := at_T52 (Kd.C_below hr1 be.out) x7 c2 c1
   subst hea
   generalize a5_ l1 x7 = s at *
   have c1' := decide_eq_true c1
   have c2' : (0 ≤ x7) = True := eq_true c2
   have c3' : (x7 < (l1.length : Int)) = True := eq_true c1
   by_cases c3 : s.f2 < 0
   case pos =>
    rw [if_pos c3] at hh
    simp only [Option.some.injEq, Prod.mk.injEq] at hh
    obtain ⟨rfl, rfl⟩ := hh
    have q := decide_eq_true c3
    clear c1 c2 c3
    go_wp2
    go_ret2
    exact ⟨_, rfl, Kd.R_nil _ _ _ _ _, Be.out⟩
   rw [if_neg c3] at hh
   have q3 := decide_eq_false c3
   replace hh := bindS hh
   obtain ⟨t, hF, hh⟩ := hh
   have HF := m_ hF
   have H := m_ hh
   clear c1 c2 c3 hF hh
   go_upto_region 6 with (fail)
   obtain ⟨g8, w8, _, _, _, e1, e2⟩ := nameA wr #[.int .i64 s.f0.f0, .int .i64 s.f0.f1, .int .u64 s.f1, .int .i64 s.f2] 52
   rw [e1, e2]
   clear e1 e2 z0 z1 z2 z3 c1' c2' c3'
   have HOr := HO
   replace HO := m_ (Kd.R_below HO.out (Bl.out (W' := w8)))
   go_upto_region 9 with (first | (go_at_call 79; refine (ensembleref05_Less.find HL (Kd.R_reads' HO.out).2.2 (by have := (Kd.R_reads' HO.out).2.1; have := HL.out; omega) HF).mono ?_; rintro e wf ⟨rfl, hb⟩; have := Bl.mk hb; clear hb))
   replace HO := m_ (Kd.R_below HO.out (Bl.out (W' := wf)))
   have hh := H.out
   clear H HF q3
   by_cases c4 : t < 0
   case pos =>
    rw [if_pos c4] at hh
    simp only [Option.some.injEq, Prod.mk.injEq] at hh
    obtain ⟨rfl, rfl⟩ := hh
    have q := decide_eq_true c4
    clear c4
    go_wp2
    go_ret2
    exact ⟨_, rfl, Kd.R_nil _ _ _ _ _, Be.out⟩
   rw [if_neg c4, if_pos (by omega)] at hh
   have q4 := decide_eq_false c4
   by_cases c6 : t < (x6.length : Int)
   case neg => rw [if_neg c6] at hh; cases hh
   rw [if_pos c6] at hh
   have c7 : t < (l0.length : Int) := by have := HL.out; omega
   obtain ⟨gr, cap, ee, hg1, hgl, _⟩ := Kd.R_form HOr.out (by omega)
   injection ee with e1 e2 e3
   subst e1
   clear e2 e3
   have : Ge w gr := ⟨hg1⟩
   have HK8 : A_ (Nq g8 gr) := ⟨nqGt (W := wr) hgl⟩
   clear HOr hg1 hgl
   obtain ⟨⟨y0, y1, y2, y3⟩, _⟩ := set51 HO.out (show 0 ≤ t by omega) c7
   have k5 : (0 ≤ t) = True := eq_true (by omega)
   have k6 : (t < (l0.length : Int)) = True := eq_true c7
   replace hh := bindS hh
   obtain ⟨m, hM, hh⟩ := hh
   replace hh := bindS hh
   obtain ⟨us, hU, hh⟩ := hh
   have HM := m_ hM
   have HU := m_ hU
   have : Ro k51 51 w.heap.size wf (.slice (some ⟨gr, 0, none⟩) l0.length cv) x6 := ⟨HO.out⟩
   clear hM hU HO
   have C5 := m_ (show 0 ≤ t from by omega)
   have C7 := m_ c7
   have H := m_ hh
   clear c4 c6 c7 hh
   go_upto_region 11 with (fail)
   clear q4
   replace y0 : wf.drew.cell? ⟨gr, t.toNat * 4, none⟩ = some (.int .i64 (a4_ x6 t).f0.f0) := y0
   replace y1 : wf.drew.cell? ⟨gr, t.toNat * 4 + 1, none⟩ = some (.int .i64 (a4_ x6 t).f0.f1) := y1
   replace y2 : wf.drew.cell? ⟨gr, t.toNat * 4 + 2, none⟩ = some (.int .u64 (a4_ x6 t).f1) := y2
   replace y3 : wf.drew.cell? ⟨gr, t.toNat * 4 + 3, none⟩ = some (.int .i64 (a4_ x6 t).f2) := y3
   have hh := H.out
   clear H
   by_cases c8 : m < (us.length : Int)
   case pos =>
    rw [if_pos c8] at hh
    simp only [Option.some.injEq, Prod.mk.injEq] at hh
    obtain ⟨rfl, rfl⟩ := hh
    have q8 : decide (m < (us.length : Int)) = true := decide_eq_true c8
    refine start_ (n := 23) (S := fun w' => w'.cell? ⟨g8, 0, none⟩ = some (.int .i64 s.f0.f0) ∧ w'.cell? ⟨g8, 1, none⟩ = some (.int .i64 s.f0.f1) ∧ w'.cell? ⟨g8, 2, none⟩ = some (.int .u64 s.f1) ∧ w'.cell? ⟨g8, 3, none⟩ = some (.int .i64 s.f2) ∧ w'.cell? ⟨gr, t.toNat * 4 + 2, none⟩ = some (.int .u64 (a4_ x6 t).f1) ∧ w'.cell? ⟨gr, t.toNat * 4 + 3, none⟩ = some (.int .i64 (a4_ x6 t).f2)) (ds := []) (bm 23 0) (by kernel_rfl) rfl rfl ⟨(cellBx _).trans rfl, (cellBx _).trans rfl, (cellBx _).trans rfl, (cellBx _).trans rfl, by first | assumption | exact c8_ Bl.out y2 | exact c8_ Be.out y2, by first | assumption | exact c8_ Bl.out y3 | exact c8_ Be.out y3⟩ (fun hHeld => ?_)
    refine with_tabW ensembleref05_Less.tab11 ensembleref05_Less.bits11 (fun HT_ HW_ => ?_)
    refine pu 0 (some 32) (bm 23 1) ?_
    refine pu 2 (some 34) (bm 23 5) ?_
    refine pu 3 (some 35) (bm 23 13) ?_
    refine pu 4 (some 36) (bm 23 29) ?_
    refine pu 5 (some 37) (bm 23 61) ?_
    refine pu 8 (some 40) (bm 23 317) ?_
    refine tk 1 (some 33) (bm 23 319) ?_
    refine tk 6 (some 38) (bm 23 383) ?_
    refine tk 9 (some 41) (bm 23 895) ?_
    refine one_ (i := 7) (N := some 39) (bm 23 1023) rfl rfl (one_of HT_.out (by kernel_rfl)) (by decide) (fun K hK => ?_)
    refine goes_ Try.func80 (by kernel_rfl) rfl #[.int .u64 s.f1, .int .u64 (a4_ x6 t).f1] (by rfl) rfl rfl Z0 ?_
    refine (ensembleref05_masks.calls _ _ _ _ _ HM.out).mono ?_
    rintro e wz ⟨rfl, hb⟩
    have := Bl.mk hb
    clear hb
    refine ⟨_, rfl, ?_⟩
    refine hK.out _ _ ⟨(cellBx _).trans rfl, (cellBx _).trans rfl, (cellBx _).trans rfl, (cellBx _).trans rfl, c8_ Bl.out hHeld.2.2.2.2.1, c8_ Bl.out hHeld.2.2.2.2.2⟩ (fun hHeld => ?_)
    clear hK K
    refine norm_ (a' := ?_) ?_ ?_
    rotate_left
    ·show Act.put _ (some 39) _ = _
     simp only [Act.put, List.setIfInBounds_toArray, List.set_cons_zero, List.set_cons_succ, i64_w, i32_w]
     rfl
    refine one_ (i := 10) (N := some 42) (bm 23 2047) rfl rfl (one_of HT_.out (by kernel_rfl)) (by decide) (fun K hK => ?_)
    refine goes_ Try.func82 (by kernel_rfl) rfl #[.int .u64 s.f1] (by rfl) rfl rfl Z0 ?_
    refine (ensembleref01_Units.calls _ _ _ _ HU.out).mono ?_
    rintro e wy ⟨vu, rfl, hu, hb⟩
    have := Bl.mk hb
    obtain ⟨Au, cu, hvu⟩ := Kd.R_slice hu
    subst hvu
    clear hb hu
    refine ⟨_, rfl, ?_⟩
    refine hK.out _ _ ⟨(cellBx _).trans rfl, (cellBx _).trans rfl, (cellBx _).trans rfl, (cellBx _).trans rfl, c8_ Bl.out hHeld.2.2.2.2.1, c8_ Bl.out hHeld.2.2.2.2.2⟩ (fun hHeld => ?_)
    clear hK K
    refine norm_ (a' := ?_) ?_ ?_
    rotate_left
    ·show Act.put _ (some 42) _ = _
     simp only [Act.put, List.setIfInBounds_toArray, List.set_cons_zero, List.set_cons_succ, i64_w, i32_w]
     rfl
    refine pu 11 (some 43) (bm 23 4095) ?_
    refine pu 12 (some 44) (bm 23 8191) ?_
    refine pu 13 (some 45) (bm 23 16383) ?_
    refine pv 14 (some 46) (bm 23 32767) ?_
    refine pv 15 (some 47) (bm 23 65535) ?_
    refine pv 16 (some 48) (bm 23 131071) ?_
    refine pv 17 (some 49) (bm 23 262143) ?_
    refine pv 18 (some 50) (bm 23 524287) ?_
    refine pv 19 (some 51) (bm 23 1048575) ?_
    refine pv 20 (some 52) (bm 23 2097151) ?_
    refine pv 21 (some 53) (bm 23 4194303) ?_
    refine pu 22 (some 54) (bm 23 8388607) ?_
    refine done_ (done_of HT_.out (by kernel_rfl)) ?_
    all_goals go_wp2
    all_goals go_ret2
    all_goals exact ⟨_, rfl, Kd.R_nil _ _ _ _ _, Be.out⟩
   rw [if_neg c8] at hh
   have q8 : decide (m < (us.length : Int)) = false := decide_eq_false c8
   by_cases c9 : s.f2 > (a4_ x6 t).f2
   case pos =>
    rw [if_pos c9] at hh
    simp only [Option.some.injEq, Prod.mk.injEq] at hh
    obtain ⟨rfl, rfl⟩ := hh
    have q9 := decide_eq_true c9
    go_region_held3 (fun w' => w'.cell? ⟨g8, 0, none⟩ = some (.int .i64 s.f0.f0) ∧ w'.cell? ⟨g8, 1, none⟩ = some (.int .i64 s.f0.f1) ∧ w'.cell? ⟨g8, 2, none⟩ = some (.int .u64 s.f1) ∧ w'.cell? ⟨g8, 3, none⟩ = some (.int .i64 s.f2) ∧ w'.cell? ⟨gr, t.toNat * 4 + 2, none⟩ = some (.int .u64 (a4_ x6 t).f1) ∧ w'.cell? ⟨gr, t.toNat * 4 + 3, none⟩ = some (.int .i64 (a4_ x6 t).f2)) (((repeat' (refine And.intro ?_ ?_)) <;> first | exact (cellBx _).trans rfl | assumption | exact c8_ Bl.out (by assumption) | exact c8_ Bl.out (c8_ Bl.out (by assumption)))) (first | (go_at_call 80; refine (ensembleref05_masks.calls _ _ _ _ _ HM.out).mono ?_; rintro e wz ⟨rfl, hb⟩; have := Bl.mk hb; clear hb) | (go_at_call 82; refine (ensembleref01_Units.calls _ _ _ _ HU.out).mono ?_; rintro e wz ⟨vu, rfl, hu, hb⟩; have := Bl.mk hb; obtain ⟨Au, cu, hvu⟩ := Kd.R_slice hu; subst hvu; clear hb hu))
    all_goals go_wp2
    all_goals go_ret2
    all_goals exact ⟨_, rfl, Kd.R_nil _ _ _ _ _, Be.out⟩
   rw [if_neg c9, Option.bind_some] at hh
   have q9 := decide_eq_false c9
   generalize hy : x6.set (t : Int).toNat (⟨(⟨(a4_ x6 t).f0.f0, (a4_ x6 t).f0.f1⟩ : S48), IntKind.u64.wrap ((a4_ x6 t).f1 - s.f1), (a4_ x6 t).f2⟩ : S51) = y at hh
   have HYY := m_ hy
   have HY := m_ (show y.length = l0.length ∧ (a4_ y t).f2 = (a4_ x6 t).f2 from by
    have c5 := C5.out
    have c7 := C7.out
    have hl := HL.out
    subst hy
    exact ⟨by rw [List.length_set, hl], by simp [a4_, List.getD_eq_getElem?_getD, List.getElem?_set_self (show t.toNat < x6.length by omega)]⟩)
   have H := m_ hh
   clear hh hy
   go_region_held3 (fun w' => w'.cell? ⟨g8, 0, none⟩ = some (.int .i64 s.f0.f0) ∧ w'.cell? ⟨g8, 1, none⟩ = some (.int .i64 s.f0.f1) ∧ w'.cell? ⟨g8, 2, none⟩ = some (.int .u64 s.f1) ∧ w'.cell? ⟨g8, 3, none⟩ = some (.int .i64 s.f2) ∧ w'.cell? ⟨gr, t.toNat * 4 + 2, none⟩ = some (.int .u64 (a4_ x6 t).f1) ∧ w'.cell? ⟨gr, t.toNat * 4 + 3, none⟩ = some (.int .i64 (a4_ x6 t).f2)) (((repeat' (refine And.intro ?_ ?_)) <;> first | exact (cellBx _).trans rfl | assumption | exact c8_ Bl.out (by assumption) | exact c8_ Bl.out (c8_ Bl.out (by assumption)))) (first | (go_at_call 80; refine (ensembleref05_masks.calls _ _ _ _ _ HM.out).mono ?_; rintro e wz ⟨rfl, hb⟩; have := Bl.mk hb; clear hb) | (go_at_call 82; refine (ensembleref01_Units.calls _ _ _ _ HU.out).mono ?_; rintro e wz ⟨vu, rfl, hu, hb⟩; have := Bl.mk hb; obtain ⟨Au, cu, hvu⟩ := Kd.R_slice hu; subst hvu; clear hb hu))
   all_goals clear q8 q9 HM HU y0 y1 y2 y3
   all_goals have HO := m_ (Ro.out (k := k51) (e := 51) (base := w.heap.size) (W := wz) (v := .slice (some ⟨gr, 0, none⟩) l0.length cv) (xs := x6))
   all_goals obtain ⟨⟨y0, y1, y2, y3⟩, ⟨f2, f3⟩, s2, s3⟩ := set51 HO.out C5.out C7.out
   all_goals have HO2 := m_ (HYY.out ▸ s2 (IntKind.u64.wrap ((a4_ x6 t).f1 - s.f1)))
   all_goals clear s2 s3
   all_goals have := HK8.out
   all_goals
    go_wp2
    go_region
    go_wp2
    go_region
    go_wp2
    go_roundg k1
    case measure => have := HK.out; omega
    case rel =>
     have hs := (set51 HO2.out C5.out C7.out).2.2.2 (wrap64 ((a4_ x6 t).f2 - s.f2))
     exact ⟨_, _, rfl, ⟨by rw [← HY.out.2] ; exact H.out⟩, ⟨by have := HK.out; omega⟩, ⟨by rw [List.length_set]; exact HY.out.1⟩, ⟨hs⟩, inferInstance⟩
end Go.Proofs.Ytckhjehibjdjdaa.P
namespace Go.Proofs.Ytckhjehibjdjdaa.P
open Go.RowKit Go.Proofs.YtckhjehibjdjdaaW.PrintWords Go.Proofs.YtckhjehibjdjdaaW.PrintLast Go.Proofs.YtckhjehibjdjdaaW.PrintMore
attribute [local go_sem] max2_int min2_int max_two min_two max_three min_three max_four min_four
def ensembleref08_Units.l0 : Nat → List (S52) → Int → Int → Int → Option (Int × Int)
 | 0, _, _, _, _ => none
 | k + 1, x0, x4, x199000, x199001 => if x4 < (x0.length : Int) then (if 0 ≤ x4 then ((ensembleref01_Units.f k ((a5_ x0 x4).f1)).bind fun t200 => (ensembleref08_Units.l0 k x0 (wrap64 (x4 + 1)) (wrap64 (x199000 + (t200.length : Int))) (wrap64 (x199001 + ((a5_ x0 x4).f2))))) else (none)) else (some (x199000, x199001))
def ensembleref08_Units.f (k : Nat) (l0 : List (S52)) : Option (Int × Int) := ensembleref08_Units.l0 k l0 0 0 0
def ensembleref08_Units.T5 : Bool × List (List Nat × List Nat) := (true, [([], []), ([0], [0]), ([], []), ([], []), ([2, 3], [2, 3]), ([4], [4]), ([5], [5]), ([6], [6]), ([7], [7]), ([1, 8], [1, 8]), ([0, 1, 2, 3, 4, 5, 6, 7, 8, 9], []), ([10, 9, 7, 0, 1, 2, 3, 4, 5, 6, 7, 8, 9], [9, 10])])
def ensembleref08_Units.B5 : List Nat := [0, 1, 0, 0, 12, 28, 60, 124, 252, 511, 1023, 2047]
theorem ensembleref08_Units.tab5 : rtab .any (opsOf Try.f42 5) = ensembleref08_Units.T5 := by kernel_rfl
theorem ensembleref08_Units.bits5 : waitsOk ensembleref08_Units.T5.2 ensembleref08_Units.B5 = true := by kernel_rfl
def ensembleref08_Units.T6 : Bool × List (List Nat × List Nat) := (true, [([], []), ([0], [0]), ([], []), ([], []), ([2, 3], [2, 3]), ([4], [4]), ([5], [5]), ([1, 6], [1, 6]), ([0, 1, 2, 3, 4, 5, 6, 7], []), ([8, 7, 0, 1, 2, 3, 4, 5, 6, 7], [7, 8])])
def ensembleref08_Units.B6 : List Nat := [0, 1, 0, 0, 12, 28, 60, 127, 255, 511]
theorem ensembleref08_Units.tab6 : rtab .any (opsOf Try.f42 6) = ensembleref08_Units.T6 := by kernel_rfl
theorem ensembleref08_Units.bits6 : waitsOk ensembleref08_Units.T6.2 ensembleref08_Units.B6 = true := by kernel_rfl
set_option maxHeartbeats 8000000 in
set_option maxRecDepth 100000 in
theorem ensembleref08_Units.calls (k : Nat) (A0 : Option Addr) (c0 : Nat) (l0 : List (S52)) (r1 r2 : Int) (w : World) (hr0 : Kd.C k52 w A0 l0.length l0) (hc0 : l0.length ≤ c0) (h : ensembleref08_Units.f k l0 = some (r1, r2)) :
  Calls Try.prog 42 #[.slice A0 l0.length c0] w fun e w' => e = .returned (.agg #[.int .i64 r1, .int .i64 r2]) ∧ Below w.heap.size w w' := by
 have hu24 := Try.underlying24
 have HR0 := m_ hr0
 have HC0 := m_ hc0
 clear hr0 hc0
 have HB := m_ (Below.refl w.heap.size w)
 have H := h
 unfold ensembleref08_Units.f at H
 clear h
 have H' := m_ H
 clear H
 go_enter Try.func42, Try.ntmps42
 go_wp2_with (first | ((with_reducible refine a3_ (N := 2) rfl ?_); refine bx 2 #[.int .i64 0, .int .i64 0] 24 ?_; intro gb197 hg w2 hbox hb; have BK197 := m_ (hbox); have GW197 := ge_ hg; have GE197 := ge_ hg; replace HB := hs_ hb; clear hb hbox hg) | ((with_reducible refine a3_ (N := 3) rfl ?_); refine bx 3 #[.int .i64 0, .int .i64 0] 24 ?_; intro gb198 hg w3 hbox hb; have BK198 := m_ (hbox); have GW198 := ge_ hg; have GE198 := ge_ hg; have NB197_198 := nl_ BK197 hg; have NB198_197 := nr_ BK197 hg; replace BK197 := bk_ BK197 hb; replace HB := hs_ hb; clear hb hbox hg; have hnb4 := NB198_197.out; have hnc4 := NB197_198.out; obtain ⟨hcz5_0, hcz5_1, hfz5_0, hfz5_1⟩ := bz2_ BK198))
 go_loopg [4] k (fun kq v4 w' => ∃ (x4_1 : Int) (x199000_1 : Int) (x199001_1 : Int), v4 = .int .i64 x4_1 ∧ A_ (ensembleref08_Units.l0 kq l0 x4_1 x199000_1 x199001_1 = some (r1, r2)) ∧ A_ (kq ≤ k) ∧ A_ (w'.heap[gb197]? = some (.cells #[.int .i64 0, .int .i64 0] 24 (0, 0))) ∧ A_ (w'.heap[gb198]? = some (.cells #[.int .i64 x199000_1, .int .i64 x199001_1] 24 (0, 0))) ∧ A_ (Below w.heap.size w w'))
 case atStart => exact ⟨(0), (0), (0), Z1, H', ⟨Nat.le_refl _⟩, ⟨bs_⟩, ⟨bs_⟩, ⟨hb_⟩⟩
 case round =>
  clear H'
  try clear p2
  try clear c4
  try clear hcz5_0 hcz5_1 hfz5_0 hfz5_1
  obtain ⟨x4_1, x199000_1, x199001_1, rfl, HA, HK1, BK197, BK198, HB⟩ := hrel
  cases gk with
  | zero => exact absurd HA.out (by simp [ensembleref08_Units.l0])
  | succ k1 =>
   have H := HA.out
   clear HA
   simp only [ensembleref08_Units.l0] at H
   by_cases c6 : x4_1 < (l0.length : Int)
   ·rw [if_pos c6] at H
    have c6b0 : decide (x4_1 < (l0.length : Int)) = true := decide_eq_true c6
    clear c6
    by_cases c7 : 0 ≤ x4_1
    ·rw [if_pos c7] at H
     have c7b0 : decide (0 ≤ x4_1) = true := decide_eq_true c7
     clear c7
     replace H := Option.bind_eq_some_iff.mp H
     obtain ⟨t200, A80, H⟩ := H
     try dsimp only at H
     have A8 := m_ A80
     clear A80
     have H' := m_ H
     clear H
     try go_wp2
     replace BK197 := m_ (c4_ BK197.out)
     replace BK198 := m_ (c4_ BK198.out)
     replace HB := m_ (b5_ HB.out)
     have p199 : 0 ≤ (x4_1 : Int) := of_decide_eq_true Z4
     have q199 : x4_1 < (l0.length : Int) := of_decide_eq_true Z4
     obtain ⟨ad199, e199, hx199_0, hx199_1, hx199_2, hx199_3⟩ := at_T52 HR0.out x4_1 p199 q199
     have hw199_3 := hx199_3
     have hw199_2 := hx199_2
     have hw199_1 := hx199_1
     have hw199_0 := hx199_0
     cases e199
     replace hx199_0 := cx_ hx199_0
     replace hx199_1 := cx_ hx199_1
     replace hx199_2 := cx_ hx199_2
     replace hx199_3 := cx_ hx199_3
     replace p199 := eq_true p199
     replace q199 := eq_true q199
     refine start_ (n := 12) (S := fun w' => w'.cell? ⟨gb198, 0, none⟩ = some (.int .i64 x199000_1) ∧ w'.cell? ⟨gb198, 1, none⟩ = some (.int .i64 x199001_1) ∧ w'.cell? (ad199.add ((x4_1).toNat * 4)) = some (.int .i64 ((a5_ l0 x4_1).f0.f0)) ∧ w'.cell? ⟨(ad199.add ((x4_1).toNat * 4)).block, (ad199.add ((x4_1).toNat * 4)).off + 1, none⟩ = some (.int .i64 ((a5_ l0 x4_1).f0.f1)) ∧ w'.cell? ⟨(ad199.add ((x4_1).toNat * 4)).block, (ad199.add ((x4_1).toNat * 4)).off + 2, none⟩ = some (.int .u64 ((a5_ l0 x4_1).f1)) ∧ w'.cell? ⟨(ad199.add ((x4_1).toNat * 4)).block, (ad199.add ((x4_1).toNat * 4)).off + 3, none⟩ = some (.int .i64 ((a5_ l0 x4_1).f2))) (ds := [11]) (bm 12 0) (by kernel_rfl) rfl rfl ⟨(a0_ BK198.out 0).trans rfl, (a0_ BK198.out 1).trans rfl, ((HB.out.cell (World.block_lt_of_cell? w _ hw199_0)).trans hw199_0), ((HB.out.cell (World.block_lt_of_cell? w _ hw199_1)).trans hw199_1), ((HB.out.cell (World.block_lt_of_cell? w _ hw199_2)).trans hw199_2), ((HB.out.cell (World.block_lt_of_cell? w _ hw199_3)).trans hw199_3)⟩ (fun hHeld => ?_); refine with_tabW ensembleref08_Units.tab5 ensembleref08_Units.bits5 (fun HT_ HW_ => ?_)
     generalize wr.drew = w9 at BK197 BK198 HB hx199_0 hx199_1 hx199_2 hx199_3 hHeld ⊢
     refine pu 0 (some 12) (bm 12 1) ?_
     refine pu 2 (some 14) (bm 12 5) ?_
     refine pu 3 (some 15) (bm 12 13) ?_
     refine pu 4 (some 16) (bm 12 29) ?_
     refine pu 5 (some 17) (bm 12 61) ?_
     refine tk 1 (some 13) (bm 12 63) ?_
     refine tk 6 (some 18) (bm 12 127) ?_
     refine one_ (i := 7) (N := some 19) (bm 12 255) rfl rfl (one_of HT_.out (by kernel_rfl)) (by decide) (fun K hK => ?_)
     refine goes_ Try.func82 (by kernel_rfl) rfl #[.int .u64 ((a5_ l0 x4_1).f1)] (by rfl) rfl rfl Z0 ?_
     with_reducible refine (ensembleref01_Units.calls k1 ((a5_ l0 x4_1).f1) t200 _ A8.out).mono ?_
     rintro e w10 ⟨v201, rfl, ho0, hb⟩
     refine ⟨_, rfl, ?_⟩
     have HO202 := m_ (Kd.R_lower ho0 (b4_ hb_))
     replace BK197 := bk_ BK197 hb
     replace BK198 := bk_ BK198 hb
     replace HB := hs_ hb
     (try clear hb)
     (try clear hb2)
     (try clear hk)
     (try clear hi)
     (try clear ho0)
     obtain ⟨Ao11, co11, eo11⟩ := Kd.R_slice HO202.out
     (first | subst eo11 | (injection eo11 with f1_ f2_ f3_; have f4_ := f1_.symm; have f5_ := f3_.symm; clear f1_ f2_ f3_; subst f4_; subst f5_))
     refine hK.out _ _ ⟨(a0_ BK198.out 0).trans rfl, (a0_ BK198.out 1).trans rfl, ((HB.out.cell (World.block_lt_of_cell? w _ hw199_0)).trans hw199_0), ((HB.out.cell (World.block_lt_of_cell? w _ hw199_1)).trans hw199_1), ((HB.out.cell (World.block_lt_of_cell? w _ hw199_2)).trans hw199_2), ((HB.out.cell (World.block_lt_of_cell? w _ hw199_3)).trans hw199_3)⟩ (fun hHeld => ?_)
     clear hK K
     refine norm_ (a' := ?_) ?_ ?_
     rotate_left
     ·show Act.put _ (some 19) _ = _
      simp only [Act.put, List.setIfInBounds_toArray, List.set_cons_zero, List.set_cons_succ, i64_w, i32_w]
      rfl
     refine pu 8 (some 20) (bm 12 511) ?_
     refine pu 9 (some 21) (bm 12 1023) ?_
     refine pu 10 (some 22) (bm 12 2047) ?_
     refine last_ (i := 11) (N := none) (bm 12 4095) rfl rfl (one_of HT_.out (by kernel_rfl)) (by decide) (fun K hK => ?_)
     have hs12 : w10.cell? ⟨gb198, 0, none⟩ = some (.int .i64 x199000_1) := (a0_ BK198.out 0).trans rfl
     have hfs12 := a2_ BK198.out 0
     have hns12_0 := NB197_198.out
     have hms12_0 := NB198_197.out
     refine skip_ (w1 := ?_) (by rfl) rfl ?_ ?_
     rotate_left
     ·go_simp
      rfl
     refine hK.out _ _ ?_
     clear hK K
     refine done_ (done_of HT_.out (by kernel_rfl)) ?_
     try go_wp2
     have n0_ : A_ (Kd.R (Kd.int .i64) 3 (w10.setCell ⟨gb198, 0, none⟩ (.int .i64 (wrap64 (x199000_1 + (t200.length : Int))))) w.heap.size (fun _ => True) (.slice Ao11 t200.length co11) t200) := ⟨by (with_reducible repeat (first | apply Kd.R_alloc | apply Kd.R_drewN | apply Kd.R_drew)); exact Kd.R_mono (Kd.R_far (p := ⟨gb198, 0, none⟩) (Kd.R_types HO202.out BK198.out (by decide)) (fun _ hk => hk.2) (.int .i64 (wrap64 (x199000_1 + (t200.length : Int))))) (fun _ hk => trivial)⟩
     have n1_ : A_ ((w10.setCell ⟨gb198, 0, none⟩ (.int .i64 (wrap64 (x199000_1 + (t200.length : Int))))).heap[gb197]? = some (.cells #[.int .i64 0, .int .i64 0] 24 (0, 0))) := ⟨bs_⟩
     have n2_ : A_ ((w10.setCell ⟨gb198, 0, none⟩ (.int .i64 (wrap64 (x199000_1 + (t200.length : Int))))).heap[gb198]? = some (.cells #[.int .i64 (wrap64 (x199000_1 + (t200.length : Int))), .int .i64 x199001_1] 24 (0, 0))) := ⟨bs_⟩
     have n3_ : A_ (Below w.heap.size w (w10.setCell ⟨gb198, 0, none⟩ (.int .i64 (wrap64 (x199000_1 + (t200.length : Int)))))) := ⟨hb_⟩
     (try clear HO202)
     (try clear BK197)
     (try clear BK198)
     (try clear HB)
     generalize (w10.setCell ⟨gb198, 0, none⟩ (.int .i64 (wrap64 (x199000_1 + (t200.length : Int))))) = w13 at n0_ n1_ n2_ n3_ ⊢
     have HO202 := n0_
     have BK197 := n1_
     have BK198 := n2_
     have HB := n3_
     clear n0_ n1_ n2_ n3_
     replace HO202 := m_ (Kd.R_drew HO202.out)
     replace BK197 := m_ (c4_ BK197.out)
     replace BK198 := m_ (c4_ BK198.out)
     replace HB := m_ (b5_ HB.out)
     have p203 : 0 ≤ (x4_1 : Int) := of_decide_eq_true Z4
     have q203 : x4_1 < (l0.length : Int) := of_decide_eq_true Z4
     obtain ⟨ad203, e203, hx203_0, hx203_1, hx203_2, hx203_3⟩ := at_T52 HR0.out x4_1 p203 q203
     have hw203_3 := hx203_3
     have hw203_2 := hx203_2
     have hw203_1 := hx203_1
     have hw203_0 := hx203_0
     obtain rfl : ad199 = ad203 := (by injection e203)
     replace hx203_0 := cx_ hx203_0
     replace hx203_1 := cx_ hx203_1
     replace hx203_2 := cx_ hx203_2
     replace hx203_3 := cx_ hx203_3
     replace p203 := eq_true p203
     replace q203 := eq_true q203
     refine start_ (n := 10) (S := fun w' => w'.cell? ⟨gb198, 0, none⟩ = some (.int .i64 (wrap64 (x199000_1 + (t200.length : Int)))) ∧ w'.cell? ⟨gb198, 1, none⟩ = some (.int .i64 x199001_1) ∧ w'.cell? (ad199.add ((x4_1).toNat * 4)) = some (.int .i64 ((a5_ l0 x4_1).f0.f0)) ∧ w'.cell? ⟨(ad199.add ((x4_1).toNat * 4)).block, (ad199.add ((x4_1).toNat * 4)).off + 1, none⟩ = some (.int .i64 ((a5_ l0 x4_1).f0.f1)) ∧ w'.cell? ⟨(ad199.add ((x4_1).toNat * 4)).block, (ad199.add ((x4_1).toNat * 4)).off + 2, none⟩ = some (.int .u64 ((a5_ l0 x4_1).f1)) ∧ w'.cell? ⟨(ad199.add ((x4_1).toNat * 4)).block, (ad199.add ((x4_1).toNat * 4)).off + 3, none⟩ = some (.int .i64 ((a5_ l0 x4_1).f2))) (ds := [9]) (bm 10 0) (by kernel_rfl) rfl rfl ⟨(a0_ BK198.out 0).trans rfl, (a0_ BK198.out 1).trans rfl, ((HB.out.cell (World.block_lt_of_cell? w _ hw203_0)).trans hw203_0), ((HB.out.cell (World.block_lt_of_cell? w _ hw203_1)).trans hw203_1), ((HB.out.cell (World.block_lt_of_cell? w _ hw203_2)).trans hw203_2), ((HB.out.cell (World.block_lt_of_cell? w _ hw203_3)).trans hw203_3)⟩ (fun hHeld => ?_); refine with_tabW ensembleref08_Units.tab6 ensembleref08_Units.bits6 (fun HT_ HW_ => ?_)
     generalize w13.drew = w14 at HO202 BK197 BK198 HB hx203_0 hx203_1 hx203_2 hx203_3 hHeld ⊢
     refine pu 0 (some 23) (bm 10 1) ?_
     refine pu 2 (some 25) (bm 10 5) ?_
     refine pu 3 (some 26) (bm 10 13) ?_
     refine pu 4 (some 27) (bm 10 29) ?_
     refine pu 5 (some 28) (bm 10 61) ?_
     refine tk 1 (some 24) (bm 10 63) ?_
     refine tk 6 (some 29) (bm 10 127) ?_
     refine pu 7 (some 30) (bm 10 255) ?_
     refine pu 8 (some 31) (bm 10 511) ?_
     refine last_ (i := 9) (N := none) (bm 10 1023) rfl rfl (one_of HT_.out (by kernel_rfl)) (by decide) (fun K hK => ?_)
     have hs15 : w14.cell? ⟨gb198, 1, none⟩ = some (.int .i64 x199001_1) := (a0_ BK198.out 1).trans rfl
     have hfs15 := a2_ BK198.out 1
     have hns15_0 := NB197_198.out
     have hms15_0 := NB198_197.out
     refine skip_ (w1 := ?_) (by rfl) rfl ?_ ?_
     rotate_left
     ·go_simp
      rfl
     refine hK.out _ _ ?_
     clear hK K
     refine done_ (done_of HT_.out (by kernel_rfl)) ?_
     try go_wp2
     go_roundg k1
     case measure => have := HK1.out; omega
     case rel => exact ⟨(wrap64 (x4_1 + 1)), (wrap64 (x199000_1 + (t200.length : Int))), (wrap64 (x199001_1 + ((a5_ l0 x4_1).f2))), Z1, H', ⟨by have := HK1.out; omega⟩, ⟨bs_⟩, ⟨bs_⟩, ⟨hb_⟩⟩
    ·rw [if_neg c7] at H
     exact absurd H (by simp)
   ·rw [if_neg c6] at H
    have c6b0 : decide (x4_1 < (l0.length : Int)) = false := decide_eq_false c6
    clear c6
    simp only [Option.some.injEq, Prod.mk.injEq] at H
    obtain ⟨rfl, rfl⟩ := H
    have hnb16 := NB198_197.out
    have hnc16 := NB197_198.out
    obtain ⟨hcz17_0, hcz17_1, hfz17_0, hfz17_1⟩ := bz2_ BK198
    obtain ⟨hcz18_0, hcz18_1, hfz18_0, hfz18_1⟩ := bz2_ BK197
    go_wp2
    refine bodyPost_ret (results_cell_row rfl _ _ gb197 24 #[.int .i64 x199000_1, .int .i64 x199001_1] (0, 0) _ rfl (bt_ BK197) Try.underlying24 rfl (by kernel_rfl)) rfl ?_
    exact ⟨by first | rfl | (simp [a9_, a8_] <;> rfl) | (simp [*, a9_, a8_] <;> rfl), hb_⟩
end Go.Proofs.Ytckhjehibjdjdaa.P
namespace Go.Proofs.Ytckhjehibjdjdaa.P
open Go.RowKit Go.Shelf Go.Proofs.YtckhjehibjdjdaaW.PrintWords Go.Proofs.YtckhjehibjdjdaaW.PrintLast Go.Proofs.YtckhjehibjdjdaaW.PrintMore
open Go.Proofs.Ytckhjehibjdjdaa.Bits
attribute [local go_sem] Oper.semAt_some
def subU (a : Int × Int) (s : S52) : Int × Int := (wrap64 (a.1 - popI s.f1), wrap64 (a.2 - s.f2))
def subL (a : Int × Int) (l : List S52) : Int × Int := l.foldl subU a
theorem subL_step (a : Int × Int) (l : List S52) (j : Nat) (h : j < l.length) : subL a (l.take (j + 1)) = subU (subL a (l.take j)) (a5_ l (j : Int)) := by
 have e : a5_ l (j : Int) = l[j] := by simp [a5_, List.getD_eq_getElem?_getD, List.getElem?_eq_getElem h]
 unfold subL
 rw [List.take_succ_eq_append_getElem h, List.foldl_append, e]; rfl
set_option maxHeartbeats 8000000 in
set_option maxRecDepth 100000 in
theorem take1 (gl : Nat) (t0 t1 sm sc lg lc : Int) (w : World) (hl : w.heap[gl]? = some (.cells #[.int .i64 lg, .int .i64 lc] 24 (0, 0))) (hm : 0 ≤ sm ∧ sm < 18446744073709551616) :
  Calls Try.prog 107 #[.agg #[.int .i64 t0, .int .i64 t1, .int .u64 sm, .int .i64 sc], .pointer (some ⟨gl, 0, none⟩)] w fun e w' => e = .returned (.tuple #[]) ∧ KP w w' (fun k => k = gl) ∧
   w'.heap[gl]? = some (.cells #[.int .i64 (wrap64 (lg - popI sm)), .int .i64 (wrap64 (lc - sc))] 24 (0, 0)) := by
 have hu52 := Try.underlying52
 have hu24 := Try.underlying24
 have gll := b7_ hl
 have HL0 := m_ hl
 have HMK := m_ hm
 clear hl hm
 go_enter Try.func107, Try.ntmps107
 go_wp2_with (first | ((with_reducible refine a3_ (N := 2) rfl ?_); refine bx 2 #[.int .i64 t0, .int .i64 t1, .int .u64 sm, .int .i64 sc] 52 ?_; intro g4 hg4 w4 hx4 hb4; have HX4 := m_ hx4; have HB4 := m_ hb4; have n3 : gl ≠ g4 := (by omega); have HL4 := m_ (a1_ HL0.out hb4); have l0 : w4.cell? ⟨gl, 0, none⟩ = some (.int .i64 lg) := (a0_ (a1_ HL0.out hb4) 0).trans rfl; have b2 : w4.cell? ⟨g4, 1 + 1, none⟩ = some (.int .u64 sm) := (a0_ hx4 2).trans rfl; clear hg4 hx4 hb4))
 go_still_tail 7, (by kernel_rfl)
 still_call ((count_any _ HMK.out.1 HMK.out.2 _))
 repeat still_step
 refine wpStill_nil ?_
 change wpList _ _ _ _ _ w4.drew
 clear l0 b2
 have l0 : w4.drew.cell? ⟨gl, 0, none⟩ = some (.int .i64 lg) := (a0_ HL4.out 0).trans rfl
 have z0 : w4.drew.frozen? ⟨gl, 0, none⟩ = false := a2_ HL4.out 0
 have z1 : w4.frozen? ⟨gl, 1, none⟩ = false := a2_ HL4.out 1
 have l1 : w4.cell? ⟨gl, 1, none⟩ = some (.int .i64 lc) := (a0_ HL4.out 1).trans rfl
 have b3 : w4.cell? ⟨g4, 3, none⟩ = some (.int .i64 sc) := (a0_ HX4.out 3).trans rfl
 go_wp2
 go_end0
 exact ⟨rfl, (((KP.below (KP.refl w (fun k => k = gl)) HB4.out).set (g := gl) (j := 0) (Or.inl rfl) _).set (g := gl) (j := 1) (Or.inl rfl) _).drew, blk_set (blk_set HL4.out 0 _) 1 _⟩
def maskAll (l : List S52) : Bool := l.all maskOk && decide (l.length < 1000000000)
def fill_take.f (a0_0 a0_1 : Int) (l1 : List (S52)) : Option (Int × Int) := if maskAll l1 = true then some (subL (a0_0, a0_1) l1) else none
set_option maxHeartbeats 8000000 in
set_option maxRecDepth 100000 in
theorem take_any (a0_0 a0_1 : Int) (A1 : Option Addr) (c1 : Nat) (l1 : List (S52)) (w : World) (hr1 : Kd.C k52 w A1 l1.length l1) (hm : ∀ s ∈ l1, maskOk s = true) (hl : l1.length < 1000000000) :
  Calls Try.prog 81 #[.agg #[.int .i64 a0_0, .int .i64 a0_1], .slice A1 l1.length c1] w fun e w' => e = .returned (.agg #[.int .i64 (subL (a0_0, a0_1) l1).1, .int .i64 (subL (a0_0, a0_1) l1).2]) ∧ Below w.heap.size w w' := by
 have hu52 := Try.underlying52
 have hu24 := Try.underlying24
 have HR := m_ hr1
 have HM := m_ hm
 have HL := m_ hl
 clear hr1 hm hl
 go_enter Try.func81, Try.ntmps81
 go_wp2_with (first | ((with_reducible refine a3_ (N := 2) rfl ?_); refine bx 2 #[.int .i64 a0_0, .int .i64 a0_1] 24 ?_; intro gb hgb wb hxb hbb; have HXB := m_ hxb; have HBB := m_ hbb; have hgb2 : w.heap.size ≤ gb := (by omega); clear hgb hxb hbb))
 have hB1 := b2_ HBB.out (.cells #[.int .i64 0, .int .i64 0] 24)
 have hG1 := b6_ HXB.out (.cells #[.int .i64 0, .int .i64 0] 24)
 have hR1 := heap_alloc_new wb (.cells #[.int .i64 0, .int .i64 0] 24)
 have hne : wb.heap.size ≠ gb := by have := b7_ HXB.out; omega
 have hrs : w.heap.size ≤ wb.heap.size := HBB.out.size
 have HB1 := m_ hB1
 have HG1 := m_ hG1
 have HR1 := m_ hR1
 obtain ⟨gr, hgr⟩ : ∃ gr, gr = wb.heap.size := ⟨_, rfl⟩
 rw [← hgr] at HR1 hne hrs ⊢
 clear hB1 hG1 hR1 hgr HXB HBB
 go_loopw [11] (fun v11 wr => ∃ j : Nat, j ≤ l1.length ∧ v11 = .int .i64 (j : Int) ∧ A_ (Below w.heap.size w wr) ∧ A_ (wr.heap[gb]? = some (.cells #[.int .i64 (subL (a0_0, a0_1) (l1.take j)).1, .int .i64 (subL (a0_0, a0_1) (l1.take j)).2] 24 (0, 0))) ∧ A_ (wr.heap[gr]? = some (.cells #[.int .i64 0, .int .i64 0] 24 (0, 0)))) (fun v11 _ => l1.length - (intOf v11).toNat)
 case atStart => exact ⟨0, Nat.zero_le _, rfl, HB1, HG1, HR1⟩
 case round =>
  clear HB1 HG1 HR1
  obtain ⟨j, hj, rfl, HB, HG, HE⟩ := hrel
  have hC := Kd.C_below HR.out HB.out
  have hlm := HL.out
  by_cases hlt : j < l1.length
  ·have h0 : 0 ≤ (j : Int) := by omega
   have h1' : (j : Int) < l1.length := by omega
   obtain ⟨ad1, ee, y0, y1, y2, y3⟩ := at_T52 hC (j : Int) h0 h1'
   cases ee
   simp only [Int.toNat_natCast] at y0 y1 y2 y3
   have hstep := subL_step (a0_0, a0_1) l1 j hlt
   have hmk := HM.out (a5_ l1 (j : Int)) (by simp [a5_, List.getD_eq_getElem?_getD, List.getElem?_eq_getElem hlt])
   generalize a5_ l1 (j : Int) = s at *
   generalize subL (a0_0, a0_1) (l1.take j) = acc at *
   obtain ⟨⟨t0, t1⟩, sm, sc⟩ := s
   simp only [maskOk, Bool.and_eq_true, decide_eq_true_eq] at hmk
   have HMK := m_ hmk
   have HST := m_ hstep
   clear hmk hstep hC
   simp only at y0 y1 y2 y3
   have HBA := m_ (b2_ HB.out (.cells #[.int .i64 t0, .int .i64 t1, .int .u64 sm, .int .i64 sc] 52))
   have HGA := m_ (b6_ HG.out (.cells #[.int .i64 t0, .int .i64 t1, .int .u64 sm, .int .i64 sc] 52))
   have HEA := m_ (b6_ HE.out (.cells #[.int .i64 t0, .int .i64 t1, .int .u64 sm, .int .i64 sc] 52))
   clear HB HG HE
   go_wp2_with (go_at_call 107; refine (take1 gb t0 t1 sm sc acc.1 acc.2 _ HGA.out HMK.out).mono ?_; rintro e w5 ⟨rfl, hk5, hg5⟩; have HB5 := m_ (hk5.under HBA.out (fun k hk => by omega)); have HG5 := m_ hg5; have HE5 := m_ ((hk5.kept.2 gr (b7_ HEA.out) hne).trans HEA.out); clear hk5 hg5)
   go_roundw
   case rel => exact ⟨j + 1, by omega, by go_num, HB5, ⟨by rw [HST.out]; exact HG5.out⟩, HE5⟩
   case measure => simp [intOf]; omega
  ·obtain rfl : j = l1.length := by omega
   have hg := HG.out
   rw [List.take_length] at hg
   obtain ⟨p0, p1⟩ := cz2_ ⟨hg⟩
   have e0 : wr.cell? ⟨gr, 0, none⟩ = some (.int .i64 0) := (a0_ HE.out 0).trans rfl
   have e1 : wr.cell? ⟨gr, 1, none⟩ = some (.int .i64 0) := (a0_ HE.out 1).trans rfl
   have z0 := a2_ HE.out 0
   have z1 := a2_ HE.out 1
   clear hg hC
   go_wp2
   refine bodyPost_ret (results_cell_row rfl _ _ gr 24 #[.int .i64 (subL (a0_0, a0_1) l1).1, .int .i64 (subL (a0_0, a0_1) l1).2] (0, 0) _ rfl (blk_set (blk_set HE.out 0 _) 1 _) Try.underlying24 rfl rfl) rfl ?_
   exact ⟨rfl, b3_ (b3_ HB.out hrs) hrs⟩
theorem fill_take.calls (a0_0 a0_1 : Int) (A1 : Option Addr) (c1 : Nat) (l1 : List (S52)) (r1 r2 : Int) (w : World) (hr1 : Kd.C k52 w A1 l1.length l1) (hc1 : l1.length ≤ c1) (h : fill_take.f a0_0 a0_1 l1 = some (r1, r2)) :
  Calls Try.prog 81 #[.agg #[.int .i64 a0_0, .int .i64 a0_1], .slice A1 l1.length c1] w fun e w' => e = .returned (.agg #[.int .i64 r1, .int .i64 r2]) ∧ Below w.heap.size w w' := by
 unfold fill_take.f at h
 by_cases ho : maskAll l1 = true
 ·rw [if_pos ho] at h
  unfold maskAll at ho
  rw [Bool.and_eq_true] at ho
  have e := Option.some.inj h
  have e1 : r1 = (subL (a0_0, a0_1) l1).1 := by rw [e]
  have e2 : r2 = (subL (a0_0, a0_1) l1).2 := by rw [e]
  rw [e1, e2]
  exact take_any a0_0 a0_1 A1 c1 l1 w hr1 (fun s hs => List.all_eq_true.1 ho.1 s hs) (of_decide_eq_true ho.2)
 ·rw [if_neg ho] at h; cases h
end Go.Proofs.Ytckhjehibjdjdaa.P
namespace Go.Proofs.Ytckhjehibjdjdaa.P
open Go.RowKit Go.Shelf Go.Proofs.YtckhjehibjdjdaaW.PrintWords Go.Proofs.YtckhjehibjdjdaaW.PrintLast Go.Proofs.YtckhjehibjdjdaaW.PrintMore
attribute [local go_sem] Oper.semAt_some
def api_Hold.f (l0 : List (S41)) : Option ((List (S41))) := if l0.length < 1000000 then some l0 else none
end Go.Proofs.Ytckhjehibjdjdaa.P
namespace Go.Proofs.Ytckhjehibjdjdaa.P
open Go.RowKit Go.Proofs.YtckhjehibjdjdaaW.PrintWords Go.Proofs.YtckhjehibjdjdaaW.PrintLast Go.Proofs.YtckhjehibjdjdaaW.PrintMore
attribute [local go_sem] Oper.semAt_some
set_option maxHeartbeats 4000000 in
set_option maxRecDepth 100000 in
theorem cloneS {A0 : Option Addr} {c0 : Nat} {l0 l1 : List S41} {w W : World} (hr0 : Kd.C k41 w A0 l0.length l0) (hw : Below w.heap.size w W) (h : A_ (api_Hold.f l0 = some l1)) :
  Calls Try.prog 70 #[.slice A0 l0.length c0] W fun e w' => ∃ v0_ : Value, e = .returned v0_ ∧ Sh k41 41 w w' W.heap.size v0_ l1 ∧ Below W.heap.size W w' := by
 have hu25 := Try.underlying25
 have q25 : ∀ (w : World) (a : Option Addr) (n c n' c' : Nat), (binOp .eql 25 (.slice a n c) (.slice none n' c')).run Try.prog w = .ok (.bool a.isNone) w := fun w a n c n' c' => Lib.run_eql_slice_nil w _ _ a n c n' c' Try.underlying25
 have h := h.out
 unfold api_Hold.f at h
 by_cases hl : l0.length < 1000000
 case neg => rw [if_neg hl] at h; cases h
 rw [if_pos hl] at h
 obtain rfl := Option.some.inj h
 clear h
 have HR := m_ (rowIn hr0 hw)
 have HL := m_ hl
 cases A0 with
 | none =>
  obtain rfl : l0 = [] := by
   rcases Nat.eq_zero_or_pos l0.length with h | h
   ·exact List.eq_nil_of_length_eq_zero h
   ·obtain ⟨ad, hA, _⟩ := hr0.2.2 h
    cases hA
  clear hr0 hw hl
  go_enter Try.func70, Try.ntmps70
  go_wp2
  all_goals go_ret
  all_goals exact ⟨_, rfl, Sh.nil, Below.refl _ _⟩
 | some ad =>
  clear hr0 hw hl
  go_enter Try.func70, Try.ntmps70
  go_wp2_with (first | ((with_reducible refine a3_ (N := 5) rfl ?_); refine litS (w := w) 5 k41 41 ?_; intro v5 w5 hs hb; have HS := m_ hs; clear hs) | ((with_reducible refine gate_builtin (b := .append) (xs := #[.tmp 5, .tmp 6]) rfl ?_); at_builtin; refine appS k41 (w := w) (W0 := W) rfl (.tmp 5) (.tmp 6) 25 41 (.agg #[(.int .i64 0), (.int .i64 0), (.int .i64 0), (.bool false), (.slice none 0 0)]) 56 rfl Try.underlying25 info41 rfl (by decide) (by omega) rfl rfl HS.out (ReadsRow.imp_ HR.out hb.out (fun _ _ h => h)) hb.out (by have := HL.out; simp; omega) ?_; intro v7 w7 hs7 hb7; have HS7 := m_ hs7; clear hs7 HS))
  all_goals go_ret
  all_goals exact ⟨_, rfl, HS7.out, hb7.out⟩
end Go.Proofs.Ytckhjehibjdjdaa.P
namespace Go.Proofs.Ytckhjehibjdjdaa.P
open Go.RowKit Go.Proofs.YtckhjehibjdjdaaW.PrintWords Go.Proofs.YtckhjehibjdjdaaW.PrintLast Go.Proofs.YtckhjehibjdjdaaW.PrintMore
attribute [local go_sem] cellBx frozBx
def fill_After.f (a0 : Int) (l1 : List (S51)) (a2_0 a2_1 : Int) (l3 : List (S41)) (a4_0 a4_1 a4_2 a4_3 a4_4 a4_5 a5_0 a5_1 a5_2 : Int) (a5_3 : Bool) (l5_4 : List (S52)) : Option (Int × Int) := (pack_Less.f l1 l5_4).bind fun bt329 => (if bt329.2 = 0 then (if a5_1 = a4_0 then ((fill_take.f a2_0 a2_1 l5_4).bind fun bt333 => ((api_Hold.f l3).bind fun t335 => ((some (([(⟨a5_0, a5_1, a5_2, a5_3, l5_4⟩ : S41)] : List (S41)) : List (S41))).bind fun y338 => (if t335.length + y338.length < 2513169434916 then ((promise_Earliest.f a0 bt329.1 bt333.1 bt333.2 (t335 ++ y338) a4_0 a4_1 a4_2 a4_3 a4_4 a4_5).bind fun bt344 => (some (bt344.1, bt344.2))) else (none))))) else ((api_Hold.f l3).bind fun t346 => ((some (([(⟨a5_0, a5_1, a5_2, a5_3, l5_4⟩ : S41)] : List (S41)) : List (S41))).bind fun y349 => (if t346.length + y349.length < 2513169434916 then ((promise_Earliest.f a0 bt329.1 a2_0 a2_1 (t346 ++ y349) a4_0 a4_1 a4_2 a4_3 a4_4 a4_5).bind fun bt355 => (some (bt355.1, bt355.2))) else (none))))) else (some (0, bt329.2)))
set_option maxHeartbeats 8000000 in
set_option maxRecDepth 100000 in
theorem fill_After.calls (a0 : Int) (A1 : Option Addr) (c1 : Nat) (l1 : List (S51)) (a2_0 a2_1 : Int) (A3 : Option Addr) (c3 : Nat) (l3 : List (S41)) (a4_0 a4_1 a4_2 a4_3 a4_4 a4_5 a5_0 a5_1 a5_2 : Int) (a5_3 : Bool) (A5_4 : Option Addr) (c5_4 : Nat) (l5_4 : List (S52)) (r1 r2 : Int) (w : World) (hr1 : Kd.C k51 w A1 l1.length l1) (hc1 : l1.length ≤ c1) (hr3 : Kd.C k41 w A3 l3.length l3) (hc3 : l3.length ≤ c3) (hr5_4 : Kd.C k52 w A5_4 l5_4.length l5_4) (hc5_4 : l5_4.length ≤ c5_4) (h : fill_After.f a0 l1 a2_0 a2_1 l3 a4_0 a4_1 a4_2 a4_3 a4_4 a4_5 a5_0 a5_1 a5_2 a5_3 l5_4 = some (r1, r2)) :
  Calls Try.prog 39 #[.int .i64 a0, .slice A1 l1.length c1, .agg #[.int .i64 a2_0, .int .i64 a2_1], .slice A3 l3.length c3, .agg #[.int .i64 a4_0, .int .i64 a4_1, .int .i64 a4_2, .int .i64 a4_3, .int .i64 a4_4, .int .i64 a4_5], .agg #[.int .i64 a5_0, .int .i64 a5_1, .int .i64 a5_2, .bool a5_3, .slice A5_4 l5_4.length c5_4]] w fun e w' => e = .returned (.tuple #[.int .i64 r1, .int .i64 r2]) ∧ Below w.heap.size w w' := by
 have hu24 := Try.underlying24
 have hu29 := Try.underlying29
 have hu41 := Try.underlying41
 have hu25 := Try.underlying25
 have : Be w w := ⟨Below.refl _ _⟩
 unfold fill_After.f at h
 replace h := bindS h
 obtain ⟨⟨less, e⟩, hL, h⟩ := h
 simp only at h
 have HL := m_ hL
 have H := m_ h
 clear hL h
 go_enter Try.func39, Try.ntmps39
 go_upto_region 2 with (first | ((with_reducible refine a3_ (N := 8) rfl ?_); refine bxT 8 #[.int .i64 a2_0, .int .i64 a2_1] 24 ?_; intro g8 w8 _ _ _) | ((with_reducible refine a3_ (N := 10) rfl ?_); refine bxT 10 #[.int .i64 a4_0, .int .i64 a4_1, .int .i64 a4_2, .int .i64 a4_3, .int .i64 a4_4, .int .i64 a4_5] 29 ?_; intro g10 w10 _ _ _) | ((with_reducible refine a3_ (N := 11) rfl ?_); refine bxT 11 #[.int .i64 a5_0, .int .i64 a5_1, .int .i64 a5_2, .bool a5_3, .slice A5_4 l5_4.length c5_4] 41 ?_; intro g11 w11 _ _ _) | (go_at_call 51; refine (pack_Less.calls _ _ _ _ _ _ _ _ _ (Kd.C_below hr1 Be.out) hc1 (Kd.C_below hr5_4 Be.out) hc5_4 HL.out).mono ?_; rintro e wl ⟨vl, rfl, hv, hb⟩; have := Bl.mk hb; obtain ⟨Al, cl, hvl⟩ := Kd.R_slice hv; subst hvl; have HV := m_ hv; clear hb hv))
 have hh := H.out
 clear H HL
 by_cases c8 : e = 0
 ·rw [if_pos c8] at hh
  have t : (e != 0) = false := by rw [c8]; rfl
  clear c8
  go_upto_region 4 with (fail)
  clear t
  by_cases c9 : a5_1 = a4_0
  case' pos =>
   rw [if_pos c9] at hh
   have t : (a5_1 == a4_0) = true := beq_iff_eq.2 c9
   clear c9
   replace hh := bindS hh
   obtain ⟨⟨lg, lc⟩, hT, hh⟩ := hh
   simp only at hh
   have HT := m_ hT
   have H := m_ hh
   clear hT hh
   go_upto_region 6 with (first | (go_at_call 81; refine (fill_take.calls _ _ _ _ _ _ _ _ (Kd.C_below hr5_4 Be.out) hc5_4 HT.out).mono ?_; rintro e wt ⟨rfl, hb⟩; have := Bl.mk hb; clear hb))
   have b8 : Bx ((wt.setCell ⟨g8, 0, none⟩ (.int .i64 lg)).setCell ⟨g8, 1, none⟩ (.int .i64 lc)) g8 #[.int .i64 lg, .int .i64 lc] 24 := bxSetS (h := bxSetS (cs := #[.int .i64 a2_0, .int .i64 a2_1]))
   have b10 : Bx ((wt.setCell ⟨g8, 0, none⟩ (.int .i64 lg)).setCell ⟨g8, 1, none⟩ (.int .i64 lc)) g10 #[.int .i64 a4_0, .int .i64 a4_1, .int .i64 a4_2, .int .i64 a4_3, .int .i64 a4_4, .int .i64 a4_5] 29 := inferInstance
   have b11 : Bx ((wt.setCell ⟨g8, 0, none⟩ (.int .i64 lg)).setCell ⟨g8, 1, none⟩ (.int .i64 lc)) g11 #[.int .i64 a5_0, .int .i64 a5_1, .int .i64 a5_2, .bool a5_3, .slice A5_4 l5_4.length c5_4] 41 := inferInstance
   have be : Be w ((wt.setCell ⟨g8, 0, none⟩ (.int .i64 lg)).setCell ⟨g8, 1, none⟩ (.int .i64 lc)) := inferInstance
   have HV2 := m_ (roFar (g := g8) (j := 1) (u := .int .i64 lc) (roFar (g := g8) (j := 0) (u := .int .i64 lg) (Kd.R_below HV.out (Bl.out (W' := wt))) (by decide)) (by decide))
   generalize (wt.setCell ⟨g8, 0, none⟩ (.int .i64 lg)).setCell ⟨g8, 1, none⟩ (.int .i64 lc) = wq at *
   clear HT HV t
  case' neg =>
   rw [if_neg c9] at hh
   have t : (a5_1 == a4_0) = false := beq_eq_false_iff_ne.2 c9
   clear c9
   obtain ⟨lg, hlg⟩ : ∃ x, x = a2_0 := ⟨_, rfl⟩
   obtain ⟨lc, hlc⟩ : ∃ x, x = a2_1 := ⟨_, rfl⟩
   subst hlg
   subst hlc
   have H := m_ hh
   clear hh
   go_upto_region 6 with (fail)
   obtain ⟨wq, hwq⟩ : ∃ x, x = wl := ⟨_, rfl⟩
   subst hwq
   have b8 : Bx wq g8 #[.int .i64 lg, .int .i64 lc] 24 := inferInstance
   have b10 : Bx wq g10 #[.int .i64 a4_0, .int .i64 a4_1, .int .i64 a4_2, .int .i64 a4_3, .int .i64 a4_4, .int .i64 a4_5] 29 := inferInstance
   have b11 : Bx wq g11 #[.int .i64 a5_0, .int .i64 a5_1, .int .i64 a5_2, .bool a5_3, .slice A5_4 l5_4.length c5_4] 41 := inferInstance
   have be : Be w wq := inferInstance
   have HV2 := HV
   clear HV t
  all_goals
   have hh := H.out
   clear H
   replace hh := bindS hh
   obtain ⟨cl2, hC, hh⟩ := hh
   rw [Option.bind_some] at hh
   by_cases c12 : cl2.length + ([(⟨a5_0, a5_1, a5_2, a5_3, l5_4⟩ : S41)] : List S41).length < 2513169434916
   case neg => rw [if_neg c12] at hh; cases hh
   rw [if_pos c12] at hh
   replace hh := bindS hh
   obtain ⟨⟨t1, t2⟩, hE, hh⟩ := hh
   simp only [Option.some.injEq, Prod.mk.injEq] at hh
   obtain ⟨rfl, rfl⟩ := hh
   obtain ⟨lx, hlx⟩ : ∃ x, x = cl2 ++ [(⟨a5_0, a5_1, a5_2, a5_3, l5_4⟩ : S41)] := ⟨_, rfl⟩
   rw [← hlx] at hE
   have HLX := m_ hlx
   clear hlx
   have HC := m_ hC
   have HE := m_ hE
   clear hC hE
   have HN := m_ c12
   have : Rw k51 wq Al cl less := ⟨(Kd.R_reads' HV2.out).2.2, (Kd.R_reads' HV2.out).2.1⟩
   clear c12
   have HX := m_ (k41_mk w (⟨a5_0, a5_1, a5_2, a5_3, l5_4⟩ : S41) hc5_4 hr5_4)
   go_region_held3 (fun w' => w'.cell? ⟨g8, 0, none⟩ = some (.int .i64 lg) ∧ w'.cell? ⟨g8, 1, none⟩ = some (.int .i64 lc) ∧ w'.cell? ⟨g10, 0, none⟩ = some (.int .i64 a4_0) ∧ w'.cell? ⟨g10, 1, none⟩ = some (.int .i64 a4_1) ∧ w'.cell? ⟨g10, 2, none⟩ = some (.int .i64 a4_2) ∧ w'.cell? ⟨g10, 3, none⟩ = some (.int .i64 a4_3) ∧ w'.cell? ⟨g10, 4, none⟩ = some (.int .i64 a4_4) ∧ w'.cell? ⟨g10, 5, none⟩ = some (.int .i64 a4_5) ∧ w'.cell? ⟨g11, 0, none⟩ = some (.int .i64 a5_0) ∧ w'.cell? ⟨g11, 1, none⟩ = some (.int .i64 a5_1) ∧ w'.cell? ⟨g11, 2, none⟩ = some (.int .i64 a5_2) ∧ w'.cell? ⟨g11, 3, none⟩ = some (.bool a5_3) ∧ w'.cell? ⟨g11, 4, none⟩ = some (.slice A5_4 l5_4.length c5_4)) (((repeat' (refine And.intro ?_ ?_)) <;> first | exact (cellBx _).trans rfl | exact c8_ hb1.out (by first | exact (cellBx _).trans rfl))) (first | ((go_at_call 70); refine (cloneS hr3 Be.out HC).mono ?_; rintro e wc ⟨vc, rfl, hs, hb⟩; have := Bl.mk hb; have HSc := m_ hs; have HBc := m_ hb; clear hs hb) | (refine appS_step k41 (w := w) (by rfl) (.tmp 39) (.tmp 41) 25 41 (.agg #[(.int .i64 0), (.int .i64 0), (.int .i64 0), (.bool false), (.slice none 0 0)]) 56 (by rfl) Try.underlying25 info41 rfl (by decide) (by omega) (by rfl) (by rfl) (by first | exact HSc.out | exact HSc.out.step (b2_ (Below.refl _ _) _)) (rowBx HX.out) (by first | exact HBc.out | exact b2_ HBc.out _) (by have := HN.out; simp at this ⊢; omega) ?_; intro v1 w1 hs1 hb1; rw [← HLX.out] at hs1; obtain ⟨Ae, ce, hve, hq⟩ := hs1.read Be.out; subst hve; have HQ := m_ hq; clear hs1) | (go_at_call 27; refine (promise_Earliest.calls _ _ _ _ _ _ _ _ _ _ _ _ _ _ _ _ _ _ (Rw.out (k := k51) (A := Al) (l := less)) (Rw.le (k := k51) (W := w1) (A := Al) (l := less)) HQ.out.out HQ.out.le HE.out).mono ?_; rintro e we ⟨rfl, hb⟩; have := Bl.mk hb; clear hb))
   all_goals go_wp2
   all_goals go_ret2
   all_goals exact ⟨rfl, Be.out⟩
 ·rw [if_neg c8] at hh
  simp only [Option.some.injEq, Prod.mk.injEq] at hh
  obtain ⟨rfl, rfl⟩ := hh
  have t : (e != 0) = true := bne_iff_ne.2 c8
  clear c8
  go_wp2
  go_ret2
  exact ⟨rfl, Be.out⟩
end Go.Proofs.Ytckhjehibjdjdaa.P
namespace Go.Proofs.Ytckhjehibjdjdaa.P
open Go.RowKit Go.Proofs.YtckhjehibjdjdaaW.PrintWords Go.Proofs.YtckhjehibjdjdaaW.PrintLast Go.Proofs.YtckhjehibjdjdaaW.PrintMore
attribute [local go_sem] max2_int min2_int max_two min_two max_three min_three max_four min_four
def fill_Safe.f (a0 : Int) (l1 : List (S51)) (a2_0 a2_1 : Int) (l3 : List (S41)) (a4_0 a4_1 a4_2 a4_3 a4_4 a4_5 a5 a6_0 a6_1 a6_2 : Int) (a6_3 : Bool) (l6_4 : List (S52)) : Option (Bool × Int) := (fill_After.f a0 l1 a2_0 a2_1 l3 a4_0 a4_1 a4_2 a4_3 a4_4 a4_5 a6_0 a6_1 a6_2 a6_3 l6_4).bind fun bt329 => (if bt329.2 = 0 then (some (decide (bt329.1 ≤ (mx a0 a5)), bt329.2)) else (some (false, bt329.2)))
set_option maxHeartbeats 8000000 in
set_option maxRecDepth 100000 in
theorem fill_Safe.calls (a0 : Int) (A1 : Option Addr) (c1 : Nat) (l1 : List (S51)) (a2_0 a2_1 : Int) (A3 : Option Addr) (c3 : Nat) (l3 : List (S41)) (a4_0 a4_1 a4_2 a4_3 a4_4 a4_5 a5 a6_0 a6_1 a6_2 : Int) (a6_3 : Bool) (A6_4 : Option Addr) (c6_4 : Nat) (l6_4 : List (S52)) (r1 : Bool) (r2 : Int) (w : World) (hr1 : Kd.C k51 w A1 l1.length l1) (hc1 : l1.length ≤ c1) (hr3 : Kd.C k41 w A3 l3.length l3) (hc3 : l3.length ≤ c3) (hr6_4 : Kd.C k52 w A6_4 l6_4.length l6_4) (hc6_4 : l6_4.length ≤ c6_4) (h : fill_Safe.f a0 l1 a2_0 a2_1 l3 a4_0 a4_1 a4_2 a4_3 a4_4 a4_5 a5 a6_0 a6_1 a6_2 a6_3 l6_4 = some (r1, r2)) :
  Calls Try.prog 37 #[.int .i64 a0, .slice A1 l1.length c1, .agg #[.int .i64 a2_0, .int .i64 a2_1], .slice A3 l3.length c3, .agg #[.int .i64 a4_0, .int .i64 a4_1, .int .i64 a4_2, .int .i64 a4_3, .int .i64 a4_4, .int .i64 a4_5], .int .i64 a5, .agg #[.int .i64 a6_0, .int .i64 a6_1, .int .i64 a6_2, .bool a6_3, .slice A6_4 l6_4.length c6_4]] w fun e w' => e = .returned (.tuple #[.bool r1, .int .i64 r2]) ∧ Below w.heap.size w w' := by
 have hu24 := Try.underlying24
 have hu29 := Try.underlying29
 have hu41 := Try.underlying41
 have HR1 := m_ hr1
 have HC1 := m_ hc1
 clear hr1 hc1
 have HR3 := m_ hr3
 have HC3 := m_ hc3
 clear hr3 hc3
 have HR6_4 := m_ hr6_4
 have HC6_4 := m_ hc6_4
 clear hr6_4 hc6_4
 have HB := m_ (Below.refl w.heap.size w)
 have H := h
 unfold fill_Safe.f at H
 clear h
 replace H := Option.bind_eq_some_iff.mp H
 obtain ⟨⟨t329, t330⟩, A80, H⟩ := H
 try dsimp only at H
 have A8 := m_ A80
 clear A80
 by_cases c9 : t330 = 0
 ·rw [if_pos c9] at H
  have c9b0 : (t330 == 0) = true := beq_iff_eq.mpr c9
  have c9b1 : (t330 != 0) = false := bne_eq_false_iff_eq.mpr c9
  clear c9
  obtain ⟨ji10, hji10⟩ : ∃ j_ : Int, (mx a0 a5) = j_ := ⟨_, rfl⟩
  replace H : (some (decide (t329 ≤ (ji10)), t330)) = some (r1, r2) := by first | (rw [hji10] at H; exact H) | (simp only [hji10] at H ⊢; exact H)
  (try rw [hji10] at A8)
  have hji10_ : (if a0 < a5 then a5 else a0) = ji10 := hji10
  simp only [Option.some.injEq, Prod.mk.injEq] at H
  obtain ⟨rfl, rfl⟩ := H
  go_enter Try.func37, Try.ntmps37
  go_wp2_with (first | ((with_reducible refine a3_ (N := 9) rfl ?_); (try (refine gate_guard (by rfl) ?_; dsimp only)); refine bx 9 #[.int .i64 a2_0, .int .i64 a2_1] 24 ?_; intro gb326 hg w11 hbox hb; have BK326 := m_ (hbox); have GW326 := ge_ hg; have GE326 := ge_ hg; replace HB := hs_ hb; clear hb hbox hg) | ((with_reducible refine a3_ (N := 11) rfl ?_); (try (refine gate_guard (by rfl) ?_; dsimp only)); refine bx 11 #[.int .i64 a4_0, .int .i64 a4_1, .int .i64 a4_2, .int .i64 a4_3, .int .i64 a4_4, .int .i64 a4_5] 29 ?_; intro gb327 hg w12 hbox hb; have BK327 := m_ (hbox); have GW327 := ge_ hg; have GE327 := ge_ hg; have NB326_327 := nl_ BK326 hg; have NB327_326 := nr_ BK326 hg; replace BK326 := bk_ BK326 hb; replace HB := hs_ hb; clear hb hbox hg) | ((with_reducible refine a3_ (N := 13) rfl ?_); (try (refine gate_guard (by rfl) ?_; dsimp only)); refine bx 13 #[.int .i64 a6_0, .int .i64 a6_1, .int .i64 a6_2, .bool a6_3, .slice A6_4 l6_4.length c6_4] 41 ?_; intro gb328 hg w13 hbox hb; have BK328 := m_ (hbox); have GW328 := ge_ hg; have GE328 := ge_ hg; have NB326_328 := nl_ BK326 hg; have NB328_326 := nr_ BK326 hg; have NB327_328 := nl_ BK327 hg; have NB328_327 := nr_ BK327 hg; replace BK326 := bk_ BK326 hb; replace BK327 := bk_ BK327 hb; replace HB := hs_ hb; clear hb hbox hg; have hnb14 := NB326_327.out; have hnc14 := NB327_326.out; have hnb15 := NB326_328.out; have hnc15 := NB328_326.out; obtain ⟨hcz16_0, hcz16_1, hfz16_0, hfz16_1⟩ := bz2_ BK326; have hnb17 := NB327_328.out; have hnc17 := NB328_327.out; obtain ⟨hcz18_0, hcz18_1, hcz18_2, hcz18_3, hcz18_4, hcz18_5, hfz18_0, hfz18_1, hfz18_2, hfz18_3, hfz18_4, hfz18_5⟩ := bz6_ BK327; obtain ⟨hcz19_0, hcz19_1, hcz19_2, hcz19_3, hcz19_4, hfz19_0, hfz19_1, hfz19_2, hfz19_3, hfz19_4⟩ := bz5_ BK328) | ((with_reducible refine b0_ (f := 39) rfl ?_); refine goesL_ (some 25) rfl rfl Try.func39 (by kernel_rfl) rfl #[.int .i64 a0, .slice A1 l1.length c1, .agg #[.int .i64 a2_0, .int .i64 a2_1], .slice A3 l3.length c3, .agg #[.int .i64 a4_0, .int .i64 a4_1, .int .i64 a4_2, .int .i64 a4_3, .int .i64 a4_4, .int .i64 a4_5], .agg #[.int .i64 a6_0, .int .i64 a6_1, .int .i64 a6_2, .bool a6_3, .slice A6_4 l6_4.length c6_4]] rfl Z0 ?_; (with_reducible refine (fill_After.calls a0 _ _ l1 a2_0 a2_1 _ _ l3 a4_0 a4_1 a4_2 a4_3 a4_4 a4_5 a6_0 a6_1 a6_2 a6_3 _ _ l6_4 t329 t330 _ ?side1 ?side2 ?side3 ?side4 ?side5 ?side6 A8.out).mono ?_); (case side1 => exact cs_ HR1); (case side2 => exact HC1.out); (case side3 => exact cs_ HR3); (case side4 => exact HC3.out); (case side5 => exact cs_ HR6_4); (case side6 => exact HC6_4.out); rintro e w20 ⟨rfl, hb⟩; refine ⟨_, rfl, ?_⟩; replace BK326 := bk_ BK326 hb; replace BK327 := bk_ BK327 hb; replace BK328 := bk_ BK328 hb; replace HB := hs_ hb; (try clear hb); (try clear hb2); (try clear hk); (try clear hi)))
  go_ret2
  exact ⟨by first | rfl | (simp [a9_, a8_] <;> rfl) | (simp only [← hji10]; first | rfl | (simp [a9_, a8_] <;> rfl)) | (simp [*, a9_, a8_] <;> rfl), hb_⟩
 ·rw [if_neg c9] at H
  have c9b0 : (t330 == 0) = false := beq_eq_false_iff_ne.mpr c9
  have c9b1 : (t330 != 0) = true := bne_iff_ne.mpr c9
  simp only [Option.some.injEq, Prod.mk.injEq] at H
  obtain ⟨rfl, rfl⟩ := H
  go_enter Try.func37, Try.ntmps37
  go_wp2_with (first | ((with_reducible refine a3_ (N := 9) rfl ?_); (try (refine gate_guard (by rfl) ?_; dsimp only)); refine bx 9 #[.int .i64 a2_0, .int .i64 a2_1] 24 ?_; intro gb326 hg w21 hbox hb; have BK326 := m_ (hbox); have GW326 := ge_ hg; have GE326 := ge_ hg; replace HB := hs_ hb; clear hb hbox hg) | ((with_reducible refine a3_ (N := 11) rfl ?_); (try (refine gate_guard (by rfl) ?_; dsimp only)); refine bx 11 #[.int .i64 a4_0, .int .i64 a4_1, .int .i64 a4_2, .int .i64 a4_3, .int .i64 a4_4, .int .i64 a4_5] 29 ?_; intro gb327 hg w22 hbox hb; have BK327 := m_ (hbox); have GW327 := ge_ hg; have GE327 := ge_ hg; have NB326_327 := nl_ BK326 hg; have NB327_326 := nr_ BK326 hg; replace BK326 := bk_ BK326 hb; replace HB := hs_ hb; clear hb hbox hg) | ((with_reducible refine a3_ (N := 13) rfl ?_); (try (refine gate_guard (by rfl) ?_; dsimp only)); refine bx 13 #[.int .i64 a6_0, .int .i64 a6_1, .int .i64 a6_2, .bool a6_3, .slice A6_4 l6_4.length c6_4] 41 ?_; intro gb328 hg w23 hbox hb; have BK328 := m_ (hbox); have GW328 := ge_ hg; have GE328 := ge_ hg; have NB326_328 := nl_ BK326 hg; have NB328_326 := nr_ BK326 hg; have NB327_328 := nl_ BK327 hg; have NB328_327 := nr_ BK327 hg; replace BK326 := bk_ BK326 hb; replace BK327 := bk_ BK327 hb; replace HB := hs_ hb; clear hb hbox hg; have hnb24 := NB326_327.out; have hnc24 := NB327_326.out; have hnb25 := NB326_328.out; have hnc25 := NB328_326.out; obtain ⟨hcz26_0, hcz26_1, hfz26_0, hfz26_1⟩ := bz2_ BK326; have hnb27 := NB327_328.out; have hnc27 := NB328_327.out; obtain ⟨hcz28_0, hcz28_1, hcz28_2, hcz28_3, hcz28_4, hcz28_5, hfz28_0, hfz28_1, hfz28_2, hfz28_3, hfz28_4, hfz28_5⟩ := bz6_ BK327; obtain ⟨hcz29_0, hcz29_1, hcz29_2, hcz29_3, hcz29_4, hfz29_0, hfz29_1, hfz29_2, hfz29_3, hfz29_4⟩ := bz5_ BK328) | ((with_reducible refine b0_ (f := 39) rfl ?_); refine goesL_ (some 25) rfl rfl Try.func39 (by kernel_rfl) rfl #[.int .i64 a0, .slice A1 l1.length c1, .agg #[.int .i64 a2_0, .int .i64 a2_1], .slice A3 l3.length c3, .agg #[.int .i64 a4_0, .int .i64 a4_1, .int .i64 a4_2, .int .i64 a4_3, .int .i64 a4_4, .int .i64 a4_5], .agg #[.int .i64 a6_0, .int .i64 a6_1, .int .i64 a6_2, .bool a6_3, .slice A6_4 l6_4.length c6_4]] rfl Z0 ?_; (with_reducible refine (fill_After.calls a0 _ _ l1 a2_0 a2_1 _ _ l3 a4_0 a4_1 a4_2 a4_3 a4_4 a4_5 a6_0 a6_1 a6_2 a6_3 _ _ l6_4 t329 t330 _ ?side1 ?side2 ?side3 ?side4 ?side5 ?side6 A8.out).mono ?_); (case side1 => exact cs_ HR1); (case side2 => exact HC1.out); (case side3 => exact cs_ HR3); (case side4 => exact HC3.out); (case side5 => exact cs_ HR6_4); (case side6 => exact HC6_4.out); rintro e w30 ⟨rfl, hb⟩; refine ⟨_, rfl, ?_⟩; replace BK326 := bk_ BK326 hb; replace BK327 := bk_ BK327 hb; replace BK328 := bk_ BK328 hb; replace HB := hs_ hb; (try clear hb); (try clear hb2); (try clear hk); (try clear hi)))
  go_ret2
  exact ⟨by first | rfl | (simp [a9_, a8_] <;> rfl) | (simp [*, a9_, a8_] <;> rfl), hb_⟩
end Go.Proofs.Ytckhjehibjdjdaa.P
namespace Go.Proofs.Ytckhjehibjdjdaa.P
open Go.RowKit Go.Proofs.YtckhjehibjdjdaaW.PrintWords Go.Proofs.YtckhjehibjdjdaaW.PrintLast Go.Proofs.YtckhjehibjdjdaaW.PrintMore
def manyL (k : Nat) (now q m g c mn mx p : Int) : List S51 → Int → Int → List S41 → List S41 → Option Bool
 | view, lg, lc, ends, [] => some true
 | view, lg, lc, ends, h :: rest =>
  if (h.f4.length : Int) > 20 then some true else
  (fill_Safe.f now view lg lc ends q m g c mn mx p h.f0 h.f1 h.f2 h.f3 h.f4).bind fun s =>
  if s.2 ≠ 0 then manyL k now q m g c mn mx p view lg lc ends rest else
  if s.1 = false then manyL k now q m g c mn mx p view lg lc ends rest else
  (ensembleref05_Less.f k view h.f4).bind fun v =>
  (if h.f1 = q then (ensembleref08_Units.f k h.f4).bind fun u => some (wrap64 (lg - u.1), wrap64 (lc - u.2)) else some (lg, lc)).bind fun u =>
  if ends.length < 1000000 then
   (promise_Earliest.f now v.1 u.1 u.2 (ends ++ [h]) q m g c mn mx).bind fun t =>
   if t.2 = 0 ∧ t.1 ≤ p then manyL k now q m g c mn mx p v.1 u.1 u.2 (ends ++ [h]) rest else none
  else none
def ensemblelaw13_FillMany.f (k : Nat) (a0 : Int) (l1 : List S51) (a2_0 a2_1 : Int) (l3 : List S41) (a4_0 a4_1 a4_2 a4_3 a4_4 a4_5 : Int) (l5 : List S41) : Option Bool :=
 (ensembleref12_Few.f k l1 a2_0 a2_1 l3).bind fun few =>
 if few = false then some true else if (l5.length : Int) > 6 then some true else
 (promise_Earliest.f a0 l1 a2_0 a2_1 l3 a4_0 a4_1 a4_2 a4_3 a4_4 a4_5).bind fun t => if t.2 ≠ 0 then some true else
 manyL k a0 a4_0 a4_1 a4_2 a4_3 a4_4 a4_5 t.1 l1 a2_0 a2_1 l3 l5
end Go.Proofs.Ytckhjehibjdjdaa.P
namespace Go.Proofs.Ytckhjehibjdjdaa.P
open Go.RowKit Go.Proofs.YtckhjehibjdjdaaW.PrintWords Go.Proofs.YtckhjehibjdjdaaW.PrintLast Go.Proofs.YtckhjehibjdjdaaW.PrintMore
attribute [local go_sem] max2_int min2_int max_two min_two max_three min_three max_four min_four
def ensemblelaw13_awake.f  : Option (Bool) := (some (([(⟨0, 0, 7, false, (([(⟨(⟨0, 0⟩ : S48), 12, 0⟩ : S52)] : List (S52)))⟩ : S41)] : List (S41)) : List (S41))).bind fun y335 => ((some (([(⟨(⟨0, 0⟩ : S48), 3, 0⟩ : S51)] : List (S51)) : List (S51))).bind fun y338 => ((fill_Safe.f 2 y338 9 0 y335 1 3 1 0 3 3 7 0 0 9 false (([(⟨(⟨0, 0⟩ : S48), 1, 0⟩ : S52)] : List (S52)))).bind fun bt345 => ((fill_Safe.f 2 y338 9 0 y335 1 3 1 0 3 3 7 0 0 9 false (([(⟨(⟨0, 0⟩ : S48), 3, 0⟩ : S52)] : List (S52)))).bind fun bt350 => ((fill_Safe.f 2 y338 9 0 y335 1 3 1 0 3 3 7 0 0 7 false (([(⟨(⟨0, 0⟩ : S48), 3, 0⟩ : S52)] : List (S52)))).bind fun bt355 => (if bt345.1 = true then (if bt350.1 = true then (some false) else (if bt355.1 = true then (if bt345.2 = 0 then (if bt350.2 = 0 then (some (bt355.2 == 0)) else (some false)) else (some false)) else (some false))) else (some false))))))
set_option maxHeartbeats 8000000 in
set_option maxRecDepth 100000 in
theorem ensemblelaw13_awake.calls  (r : Bool) (w : World) (h : ensemblelaw13_awake.f  = some r) (hr_ : r = true := by rfl) :
  Calls Try.prog 35 #[] w fun e w' => e = .returned (.bool r) ∧ Below w.heap.size w w' := by
 have hu27 := Try.underlying27
 have hu29 := Try.underlying29
 have hu52 := Try.underlying52
 have hu41 := Try.underlying41
 have hu51 := Try.underlying51
 have hu24 := Try.underlying24
 have HB := m_ (Below.refl w.heap.size w)
 have H := h
 unfold ensemblelaw13_awake.f at H
 clear h
 obtain ⟨y332, hy332⟩ : ∃ y_ : List (S52), y_ = (([(⟨(⟨0, 0⟩ : S48), 12, 0⟩ : S52)] : List (S52))) := ⟨_, rfl⟩
 replace H : ((some (([(⟨0, 0, 7, false, y332⟩ : S41)] : List (S41)) : List (S41))).bind fun y335 => ((some (([(⟨(⟨0, 0⟩ : S48), 3, 0⟩ : S51)] : List (S51)) : List (S51))).bind fun y338 => ((fill_Safe.f 2 y338 9 0 y335 1 3 1 0 3 3 7 0 0 9 false (([(⟨(⟨0, 0⟩ : S48), 1, 0⟩ : S52)] : List (S52)))).bind fun bt345 => ((fill_Safe.f 2 y338 9 0 y335 1 3 1 0 3 3 7 0 0 9 false (([(⟨(⟨0, 0⟩ : S48), 3, 0⟩ : S52)] : List (S52)))).bind fun bt350 => ((fill_Safe.f 2 y338 9 0 y335 1 3 1 0 3 3 7 0 0 7 false (([(⟨(⟨0, 0⟩ : S48), 3, 0⟩ : S52)] : List (S52)))).bind fun bt355 => (if bt345.1 = true then (if bt350.1 = true then (some false) else (if bt355.1 = true then (if bt345.2 = 0 then (if bt350.2 = 0 then (some (bt355.2 == 0)) else (some false)) else (some false)) else (some false))) else (some false))))))) = some r := by first | (rw [hy332]; with_reducible exact H) | (have H2_ := (Option.bind_some _ _).symm.trans H; rw [hy332]; with_reducible exact H2_) | (have H2_ := (Option.bind_some _ _).symm.trans H; with_reducible exact H2_) | with_reducible exact H | (rw [hy332]; exact H) | exact H
 have Ny332 := m_ hy332
 clear hy332
 obtain ⟨y335, hy335⟩ : ∃ y_ : List (S41), y_ = (([(⟨0, 0, 7, false, y332⟩ : S41)] : List (S41))) := ⟨_, rfl⟩
 replace H : ((some (([(⟨(⟨0, 0⟩ : S48), 3, 0⟩ : S51)] : List (S51)) : List (S51))).bind fun y338 => ((fill_Safe.f 2 y338 9 0 y335 1 3 1 0 3 3 7 0 0 9 false (([(⟨(⟨0, 0⟩ : S48), 1, 0⟩ : S52)] : List (S52)))).bind fun bt345 => ((fill_Safe.f 2 y338 9 0 y335 1 3 1 0 3 3 7 0 0 9 false (([(⟨(⟨0, 0⟩ : S48), 3, 0⟩ : S52)] : List (S52)))).bind fun bt350 => ((fill_Safe.f 2 y338 9 0 y335 1 3 1 0 3 3 7 0 0 7 false (([(⟨(⟨0, 0⟩ : S48), 3, 0⟩ : S52)] : List (S52)))).bind fun bt355 => (if bt345.1 = true then (if bt350.1 = true then (some false) else (if bt355.1 = true then (if bt345.2 = 0 then (if bt350.2 = 0 then (some (bt355.2 == 0)) else (some false)) else (some false)) else (some false))) else (some false)))))) = some r := by first | (rw [hy335]; with_reducible exact H) | (have H2_ := (Option.bind_some _ _).symm.trans H; rw [hy335]; with_reducible exact H2_) | (have H2_ := (Option.bind_some _ _).symm.trans H; with_reducible exact H2_) | with_reducible exact H | (rw [hy335]; exact H) | exact H
 have Ny335 := m_ hy335
 clear hy335
 obtain ⟨y338, hy338⟩ : ∃ y_ : List (S51), y_ = (([(⟨(⟨0, 0⟩ : S48), 3, 0⟩ : S51)] : List (S51))) := ⟨_, rfl⟩
 replace H : ((fill_Safe.f 2 y338 9 0 y335 1 3 1 0 3 3 7 0 0 9 false (([(⟨(⟨0, 0⟩ : S48), 1, 0⟩ : S52)] : List (S52)))).bind fun bt345 => ((fill_Safe.f 2 y338 9 0 y335 1 3 1 0 3 3 7 0 0 9 false (([(⟨(⟨0, 0⟩ : S48), 3, 0⟩ : S52)] : List (S52)))).bind fun bt350 => ((fill_Safe.f 2 y338 9 0 y335 1 3 1 0 3 3 7 0 0 7 false (([(⟨(⟨0, 0⟩ : S48), 3, 0⟩ : S52)] : List (S52)))).bind fun bt355 => (if bt345.1 = true then (if bt350.1 = true then (some false) else (if bt355.1 = true then (if bt345.2 = 0 then (if bt350.2 = 0 then (some (bt355.2 == 0)) else (some false)) else (some false)) else (some false))) else (some false))))) = some r := by first | (rw [hy338]; with_reducible exact H) | (have H2_ := (Option.bind_some _ _).symm.trans H; rw [hy338]; with_reducible exact H2_) | (have H2_ := (Option.bind_some _ _).symm.trans H; with_reducible exact H2_) | with_reducible exact H | (rw [hy338]; exact H) | exact H
 have Ny338 := m_ hy338
 clear hy338
 obtain ⟨y342, hy342⟩ : ∃ y_ : List (S52), y_ = (([(⟨(⟨0, 0⟩ : S48), 1, 0⟩ : S52)] : List (S52))) := ⟨_, rfl⟩
 replace H : ((fill_Safe.f 2 y338 9 0 y335 1 3 1 0 3 3 7 0 0 9 false y342).bind fun bt345 => ((fill_Safe.f 2 y338 9 0 y335 1 3 1 0 3 3 7 0 0 9 false (([(⟨(⟨0, 0⟩ : S48), 3, 0⟩ : S52)] : List (S52)))).bind fun bt350 => ((fill_Safe.f 2 y338 9 0 y335 1 3 1 0 3 3 7 0 0 7 false (([(⟨(⟨0, 0⟩ : S48), 3, 0⟩ : S52)] : List (S52)))).bind fun bt355 => (if bt345.1 = true then (if bt350.1 = true then (some false) else (if bt355.1 = true then (if bt345.2 = 0 then (if bt350.2 = 0 then (some (bt355.2 == 0)) else (some false)) else (some false)) else (some false))) else (some false))))) = some r := by first | (rw [hy342]; with_reducible exact H) | (have H2_ := (Option.bind_some _ _).symm.trans H; rw [hy342]; with_reducible exact H2_) | (have H2_ := (Option.bind_some _ _).symm.trans H; with_reducible exact H2_) | with_reducible exact H | (rw [hy342]; exact H) | exact H
 have Ny342 := m_ hy342
 clear hy342
 replace H := Option.bind_eq_some_iff.mp H
 obtain ⟨⟨t345, t346⟩, A10, H⟩ := H
 try dsimp only at H
 have A1 := m_ A10
 clear A10
 obtain ⟨y347, hy347⟩ : ∃ y_ : List (S52), y_ = (([(⟨(⟨0, 0⟩ : S48), 3, 0⟩ : S52)] : List (S52))) := ⟨_, rfl⟩
 replace H : ((fill_Safe.f 2 y338 9 0 y335 1 3 1 0 3 3 7 0 0 9 false y347).bind fun bt350 => ((fill_Safe.f 2 y338 9 0 y335 1 3 1 0 3 3 7 0 0 7 false (([(⟨(⟨0, 0⟩ : S48), 3, 0⟩ : S52)] : List (S52)))).bind fun bt355 => (if t345 = true then (if bt350.1 = true then (some false) else (if bt355.1 = true then (if t346 = 0 then (if bt350.2 = 0 then (some (bt355.2 == 0)) else (some false)) else (some false)) else (some false))) else (some false)))) = some r := by first | (rw [hy347]; with_reducible exact H) | (have H2_ := (Option.bind_some _ _).symm.trans H; rw [hy347]; with_reducible exact H2_) | (have H2_ := (Option.bind_some _ _).symm.trans H; with_reducible exact H2_) | with_reducible exact H | (rw [hy347]; exact H) | exact H
 have Ny347 := m_ hy347
 clear hy347
 replace H := Option.bind_eq_some_iff.mp H
 obtain ⟨⟨t350, t351⟩, A20, H⟩ := H
 try dsimp only at H
 have A2 := m_ A20
 clear A20
 obtain ⟨y352, hy352⟩ : ∃ y_ : List (S52), y_ = (([(⟨(⟨0, 0⟩ : S48), 3, 0⟩ : S52)] : List (S52))) := ⟨_, rfl⟩
 replace H : ((fill_Safe.f 2 y338 9 0 y335 1 3 1 0 3 3 7 0 0 7 false y352).bind fun bt355 => (if t345 = true then (if t350 = true then (some false) else (if bt355.1 = true then (if t346 = 0 then (if t351 = 0 then (some (bt355.2 == 0)) else (some false)) else (some false)) else (some false))) else (some false))) = some r := by first | (rw [hy352]; with_reducible exact H) | (have H2_ := (Option.bind_some _ _).symm.trans H; rw [hy352]; with_reducible exact H2_) | (have H2_ := (Option.bind_some _ _).symm.trans H; with_reducible exact H2_) | with_reducible exact H | (rw [hy352]; exact H) | exact H
 have Ny352 := m_ hy352
 clear hy352
 replace H := Option.bind_eq_some_iff.mp H
 obtain ⟨⟨t355, t356⟩, A30, H⟩ := H
 try dsimp only at H
 have A3 := m_ A30
 clear A30
 by_cases c4 : t345 = true
 ·subst c4
  have H1 : (if t350 = true then (some false) else (if t355 = true then (if t346 = 0 then (if t351 = 0 then (some (t356 == 0)) else (some false)) else (some false)) else (some false))) = some r := by rw [if_pos rfl] at H; exact H
  clear H
  have H := H1
  clear H1
  by_cases c5 : t350 = true
  ·subst c5
   have H1 : (some false) = some r := by rw [if_pos rfl] at H; exact H
   clear H
   have H := H1
   clear H1
   rw [hr_] at H
   cases H
  ·replace c5 := Bool.eq_false_iff.mpr c5
   subst c5
   have H1 : (if t355 = true then (if t346 = 0 then (if t351 = 0 then (some (t356 == 0)) else (some false)) else (some false)) else (some false)) = some r := by rw [if_neg (show ¬ (false = true) by decide)] at H; exact H
   clear H
   have H := H1
   clear H1
   by_cases c37 : t355 = true
   ·subst c37
    have H1 : (if t346 = 0 then (if t351 = 0 then (some (t356 == 0)) else (some false)) else (some false)) = some r := by rw [if_pos rfl] at H; exact H
    clear H
    have H := H1
    clear H1
    by_cases c38 : t346 = 0
    ·rw [if_pos c38] at H
     have c38b0 : (t346 == 0) = true := beq_iff_eq.mpr c38
     have c38b1 : (t346 != 0) = false := bne_eq_false_iff_eq.mpr c38
     clear c38
     by_cases c39 : t351 = 0
     ·rw [if_pos c39] at H
      have c39b0 : (t351 == 0) = true := beq_iff_eq.mpr c39
      have c39b1 : (t351 != 0) = false := bne_eq_false_iff_eq.mpr c39
      clear c39
      clear hr_
      obtain rfl := Option.some.inj H
      go_enter Try.func35, Try.ntmps35
      go_wp2_with (first | ((with_reducible refine a3_ (N := 1) rfl ?_); refine bx 1 #[.int .i64 0, .int .i64 0, .int .i64 0, .int .i64 0, .int .i64 0, .int .i64 0] 29 ?_; intro gb331 hg w40 hbox hb; have BK331 := m_ (hbox); have GW331 := ge_ hg; have GE331 := ge_ hg; replace HB := hs_ hb; clear hb hbox hg; obtain ⟨hcz41_0, hcz41_1, hcz41_2, hcz41_3, hcz41_4, hcz41_5, hfz41_0, hfz41_1, hfz41_2, hfz41_3, hfz41_4, hfz41_5⟩ := bz6_ BK331) | ((with_reducible refine a3_ (N := 14) rfl ?_); refine Kd.R_lit k52 _ 52 ?hg (N := 14) ?hd (xs := ([(⟨(⟨0, 0⟩ : S48), 12, 0⟩ : S52)] : List (S52))) (inner := [.int .i64 0, .int .i64 0, .int .u64 12, .int .i64 0]) (ok := fun _ => True) (okp := fun _ => True) ?hr ?hp (fun _ hk => hk) trivial (Below.refl _ _) (Nat.le_refl _) (by simp) ?_; (case hd => rfl); (case hg => rfl); (case hr => first | (go_simp; done) | (go_simp; rfl)); (case hp => exact (Reps.c4 (show Kd.M k52 _ _ _ (⟨(⟨0, 0⟩ : S48), 12, 0⟩ : S52) [.int .i64 0, .int .i64 0, .int .u64 12, .int .i64 0] from (k52_mkM _ _ _ (⟨(⟨0, 0⟩ : S48), 12, 0⟩ : S52) )) (Reps.none _ _))); intro v333 w42 ho43 hb hg_ hnew_; clear hg_ hnew_; (first | rw [← Ny332.out] at ho43 | (simp only [Int.reduceToNat] at ho43; rw [← Ny332.out] at ho43)); have HO334 := m_ (Kd.R_lower ho43 (b4_ hb_)); replace BK331 := m_ (a1_ (g := gb331) (o := .cells #[.int .i64 1, .int .i64 3, .int .i64 1, .int .i64 0, .int .i64 3, .int .i64 3] 29 (0, 0)) (bt_ BK331) hb); replace HB := hs_ hb; clear hb ho43; obtain ⟨Ao44, co44, eo44⟩ := Kd.R_slice HO334.out; subst eo44) | ((with_reducible refine a3_ (N := 16) rfl ?_); refine Kd.N_lit k41 _ 41 ?hg (N' := 16) ?hd (xs := ([(⟨0, 0, 7, false, y332⟩ : S41)] : List (S41))) (inner := [.int .i64 0, .int .i64 0, .int .i64 7, .bool false, .slice Ao44 y332.length co44]) (ok := (fun k_ => k_ ≠ gb331)) (okp := (fun k_ => k_ ≠ gb331)) ?hr ?hp (fun _ hk => hk) ((show ∀ k_, w42.heap.size ≤ k_ → (fun k_ => k_ ≠ gb331) k_ from fun k_ hk => Kd.freshB (g := gb331) (o := .cells #[.int .i64 1, .int .i64 3, .int .i64 1, .int .i64 0, .int .i64 3, .int .i64 3] 29 (0, 0)) (bo_ BK331) k_ hk) _ (Nat.le_refl _)) (Below.refl _ _) (Nat.le_refl _) (by simp) ?_; (case hd => rfl); (case hg => rfl); (case hr => first | (go_simp; done) | (go_simp; rfl)); (case hp => exact (Reps.c5 (show Kd.FK k41 _ _ (⟨0, 0, 7, false, y332⟩ : S41) [.int .i64 0, .int .i64 0, .int .i64 7, .bool false, .slice Ao44 y332.length co44] from (k41_mkF _ _ (⟨0, 0, 7, false, y332⟩ : S41) (Kd.R_reads' (Kd.R_mono (ok' := (fun k_ => k_ ≠ gb331)) (Kd.R_types (HO334.out) BK331.out (by decide)) (fun k_ hk => hk.2))).2.1 (Kd.R_F (Kd.R_mono (ok' := (fun k_ => k_ ≠ gb331)) (Kd.R_types (HO334.out) BK331.out (by decide)) (fun k_ hk => hk.2))))) (Reps.none _ _))); intro v336 w45 ho46 hb hg_ hnew_; clear hg_ hnew_; (first | rw [← Ny335.out] at ho46 | (simp only [Int.reduceToNat] at ho46; rw [← Ny335.out] at ho46)); have HO337 := m_ (Kd.N_lower ho46 (b4_ hb_)); replace BK331 := bk_ BK331 hb; replace HB := hs_ hb; clear HO334; clear hb ho46) | ((with_reducible refine a3_ (N := 18) rfl ?_); refine Kd.R_lit k51 _ 51 ?hg (N := 18) ?hd (xs := ([(⟨(⟨0, 0⟩ : S48), 3, 0⟩ : S51)] : List (S51))) (inner := [.int .i64 0, .int .i64 0, .int .u64 3, .int .i64 0]) (ok := fun _ => True) (okp := fun _ => True) ?hr ?hp (fun _ hk => hk) trivial (Below.refl _ _) (Nat.le_refl _) (by simp) ?_; (case hd => rfl); (case hg => rfl); (case hr => first | (go_simp; done) | (go_simp; rfl)); (case hp => exact (Reps.c4 (show Kd.M k51 _ _ _ (⟨(⟨0, 0⟩ : S48), 3, 0⟩ : S51) [.int .i64 0, .int .i64 0, .int .u64 3, .int .i64 0] from (k51_mkM _ _ _ (⟨(⟨0, 0⟩ : S48), 3, 0⟩ : S51) )) (Reps.none _ _))); intro v339 w47 ho48 hb hg_ hnew_; clear hg_ hnew_; (first | rw [← Ny338.out] at ho48 | (simp only [Int.reduceToNat] at ho48; rw [← Ny338.out] at ho48)); have HO340 := m_ (Kd.R_lower ho48 (b4_ hb_)); replace HO337 := m_ (Kd.N_elder' Z6 (Kd.R_base ho48) hb); replace BK331 := bk_ BK331 hb; replace HB := hs_ hb; clear hb ho48) | ((with_reducible refine a3_ (N := 4) rfl ?_); refine bx 4 #[.int .i64 0, .int .i64 0] 24 ?_; intro gb341 hg w49 hbox hb; have BK341 := m_ (hbox); have GW341 := ge_ hg; have GE341 := ge_ hg; have NB331_341 := nl_ BK331 hg; have NB341_331 := nr_ BK331 hg; replace HO337 := m_ (Kd.N_below (Kd.N_elderB Z6 gb341 (Nat.le_of_eq hg.symm)) hb); replace HO340 := m_ (Kd.R_below Z7 hb); replace BK331 := bk_ BK331 hb; replace HB := hs_ hb; clear hb hbox hg; have hnb50 := NB341_331.out; have hnc50 := NB331_341.out; obtain ⟨hcz51_0, hcz51_1, hfz51_0, hfz51_1⟩ := bz2_ BK341; obtain ⟨hcz52_0, hcz52_1, hcz52_2, hcz52_3, hcz52_4, hcz52_5, hfz52_0, hfz52_1, hfz52_2, hfz52_3, hfz52_4, hfz52_5⟩ := bz6_ BK331) | ((with_reducible refine a3_ (N := 26) rfl ?_); refine Kd.R_lit k52 _ 52 ?hg (N := 26) ?hd (xs := ([(⟨(⟨0, 0⟩ : S48), 1, 0⟩ : S52)] : List (S52))) (inner := [.int .i64 0, .int .i64 0, .int .u64 1, .int .i64 0]) (ok := fun _ => True) (okp := fun _ => True) ?hr ?hp (fun _ hk => hk) trivial (Below.refl _ _) (Nat.le_refl _) (by simp) ?_; (case hd => rfl); (case hg => rfl); (case hr => first | (go_simp; done) | (go_simp; rfl)); (case hp => exact (Reps.c4 (show Kd.M k52 _ _ _ (⟨(⟨0, 0⟩ : S48), 1, 0⟩ : S52) [.int .i64 0, .int .i64 0, .int .u64 1, .int .i64 0] from (k52_mkM _ _ _ (⟨(⟨0, 0⟩ : S48), 1, 0⟩ : S52) )) (Reps.none _ _))); intro v343 w53 ho54 hb hg_ hnew_; clear hg_ hnew_; (first | rw [← Ny342.out] at ho54 | (simp only [Int.reduceToNat] at ho54; rw [← Ny342.out] at ho54)); have HO344 := m_ (Kd.R_lower ho54 (b4_ hb_)); replace HO337 := m_ (Kd.N_elder' (by (with_reducible repeat (first | apply Kd.N_alloc | apply Kd.N_drewN | apply Kd.N_drew)); exact (Kd.N_mono (Kd.N_far (p := ⟨gb341, 1, none⟩) (Kd.N_far (p := ⟨gb341, 0, none⟩) (Kd.N_mono HO337.out (fun k_ hk => (⟨hk, hk.2⟩ : _ ∧ k_ ≠ gb341))) (fun _ hk => hk.2) (.int .i64 9)) (fun _ hk => hk.2) (.int .i64 0)) (fun _ h_ => h_.1))) (Kd.R_base ho54) hb); replace HO340 := m_ (Kd.R_below (by (with_reducible repeat (first | apply Kd.R_alloc | apply Kd.R_drewN | apply Kd.R_drew)); exact (Kd.R_mono (Kd.R_far (p := ⟨gb341, 1, none⟩) (Kd.R_far (p := ⟨gb341, 0, none⟩) (Kd.R_types HO340.out BK341.out (by decide)) (fun _ hk => hk.2) (.int .i64 9)) (fun _ hk => hk.2) (.int .i64 0)) (fun _ h_ => h_.1))) hb); replace BK331 := m_ (a1_ (g := gb331) (o := .cells #[.int .i64 1, .int .i64 3, .int .i64 1, .int .i64 0, .int .i64 3, .int .i64 3] 29 (0, 0)) (bt_ BK331) hb); replace BK341 := m_ (a1_ (g := gb341) (o := .cells #[.int .i64 9, .int .i64 0] 24 (0, 0)) (bt_ BK341) hb); replace HB := hs_ hb; clear hb ho54; obtain ⟨Ao55, co55, eo55⟩ := Kd.R_slice HO344.out; subst eo55; obtain ⟨Ao56, co56, eo56⟩ := Kd.R_slice HO340.out; subst eo56; obtain ⟨Ao57, co57, eo57⟩ := Kd.N_slice HO337.out; subst eo57) | ((with_reducible refine b0_ (f := 37) rfl ?_); refine goesL_ (some 28) rfl rfl Try.func37 (by kernel_rfl) rfl #[.int .i64 2, .slice Ao56 y338.length co56, .agg #[.int .i64 9, .int .i64 0], .slice Ao57 y335.length co57, .agg #[.int .i64 1, .int .i64 3, .int .i64 1, .int .i64 0, .int .i64 3, .int .i64 3], .int .i64 7, .agg #[.int .i64 0, .int .i64 0, .int .i64 9, .bool false, .slice Ao55 y342.length co55]] rfl Z0 ?_; (with_reducible refine (fill_Safe.calls 2 _ _ y338 9 0 _ _ y335 1 3 1 0 3 3 7 0 0 9 false _ _ y342 true t346 _ ?side1 ?side2 ?side3 ?side4 ?side5 ?side6 A1.out).mono ?_); (case side1 => repeat (first | exact (Kd.R_reads' HO340.out).2.2 | (with_reducible refine Kd.C_alloc ?_ _) | (with_reducible refine Kd.C_drewN ?_ _) | (with_reducible refine Kd.C_drew ?_))); (case side2 => exact (Kd.R_reads' HO340.out).2.1); (case side3 => repeat (first | exact (Kd.N_reads' HO337.out).2.2 | (with_reducible refine Kd.C_alloc ?_ _) | (with_reducible refine Kd.C_drewN ?_ _) | (with_reducible refine Kd.C_drew ?_))); (case side4 => exact (Kd.N_reads' HO337.out).2.1); (case side5 => repeat (first | exact (Kd.R_reads' HO344.out).2.2 | (with_reducible refine Kd.C_alloc ?_ _) | (with_reducible refine Kd.C_drewN ?_ _) | (with_reducible refine Kd.C_drew ?_))); (case side6 => exact (Kd.R_reads' HO344.out).2.1); rintro e w58 ⟨rfl, hb⟩; refine ⟨_, rfl, ?_⟩; replace HO337 := m_ (Kd.N_below Z6 hb); replace HO340 := m_ (Kd.R_below Z7 hb); replace HO344 := m_ (Kd.R_below Z5 hb); replace BK331 := bk_ BK331 hb; replace BK341 := bk_ BK341 hb; replace HB := hs_ hb; (try clear hb); (try clear hb2); (try clear hk); (try clear hi); obtain ⟨hcz59_0, hcz59_1, hfz59_0, hfz59_1⟩ := bz2_ BK341; obtain ⟨hcz60_0, hcz60_1, hcz60_2, hcz60_3, hcz60_4, hcz60_5, hfz60_0, hfz60_1, hfz60_2, hfz60_3, hfz60_4, hfz60_5⟩ := bz6_ BK331) | ((with_reducible refine a3_ (N := 37) rfl ?_); refine Kd.R_lit k52 _ 52 ?hg (N := 37) ?hd (xs := ([(⟨(⟨0, 0⟩ : S48), 3, 0⟩ : S52)] : List (S52))) (inner := [.int .i64 0, .int .i64 0, .int .u64 3, .int .i64 0]) (ok := fun _ => True) (okp := fun _ => True) ?hr ?hp (fun _ hk => hk) trivial (Below.refl _ _) (Nat.le_refl _) (by simp) ?_; (case hd => rfl); (case hg => rfl); (case hr => first | (go_simp; done) | (go_simp; rfl)); (case hp => exact (Reps.c4 (show Kd.M k52 _ _ _ (⟨(⟨0, 0⟩ : S48), 3, 0⟩ : S52) [.int .i64 0, .int .i64 0, .int .u64 3, .int .i64 0] from (k52_mkM _ _ _ (⟨(⟨0, 0⟩ : S48), 3, 0⟩ : S52) )) (Reps.none _ _))); intro v348 w61 ho62 hb hg_ hnew_; clear hg_ hnew_; (first | rw [← Ny347.out] at ho62 | (simp only [Int.reduceToNat] at ho62; rw [← Ny347.out] at ho62)); have HO349 := m_ (Kd.R_lower (Kd.R_new' ho62 (Kd.R_lt Z5)) (b4_ hb_)); replace HO337 := m_ (Kd.N_elder' Z6 (Kd.R_base ho62) hb); replace HO340 := m_ (Kd.R_below Z7 hb); replace HO344 := m_ (Kd.R_elder' Z5 (Kd.R_base ho62) hb); replace BK331 := bk_ BK331 hb; replace BK341 := bk_ BK341 hb; replace HB := hs_ hb; clear hb ho62; obtain ⟨Ao63, co63, eo63⟩ := Kd.R_slice HO349.out; subst eo63) | ((with_reducible refine b0_ (f := 37) rfl ?_); refine goesL_ (some 39) rfl rfl Try.func37 (by kernel_rfl) rfl #[.int .i64 2, .slice Ao56 y338.length co56, .agg #[.int .i64 9, .int .i64 0], .slice Ao57 y335.length co57, .agg #[.int .i64 1, .int .i64 3, .int .i64 1, .int .i64 0, .int .i64 3, .int .i64 3], .int .i64 7, .agg #[.int .i64 0, .int .i64 0, .int .i64 9, .bool false, .slice Ao63 y347.length co63]] rfl Z0 ?_; (with_reducible refine (fill_Safe.calls 2 _ _ y338 9 0 _ _ y335 1 3 1 0 3 3 7 0 0 9 false _ _ y347 false t351 _ ?side1 ?side2 ?side3 ?side4 ?side5 ?side6 A2.out).mono ?_); (case side1 => repeat (first | exact (Kd.R_reads' HO340.out).2.2 | (with_reducible refine Kd.C_alloc ?_ _) | (with_reducible refine Kd.C_drewN ?_ _) | (with_reducible refine Kd.C_drew ?_))); (case side2 => exact (Kd.R_reads' HO340.out).2.1); (case side3 => repeat (first | exact (Kd.N_reads' HO337.out).2.2 | (with_reducible refine Kd.C_alloc ?_ _) | (with_reducible refine Kd.C_drewN ?_ _) | (with_reducible refine Kd.C_drew ?_))); (case side4 => exact (Kd.N_reads' HO337.out).2.1); (case side5 => repeat (first | exact (Kd.R_reads' HO349.out).2.2 | (with_reducible refine Kd.C_alloc ?_ _) | (with_reducible refine Kd.C_drewN ?_ _) | (with_reducible refine Kd.C_drew ?_))); (case side6 => exact (Kd.R_reads' HO349.out).2.1); rintro e w64 ⟨rfl, hb⟩; refine ⟨_, rfl, ?_⟩; replace HO337 := m_ (Kd.N_below Z6 hb); replace HO340 := m_ (Kd.R_below Z7 hb); replace HO344 := m_ (Kd.R_below Z5 hb); replace HO349 := m_ (Kd.R_below Z9 hb); replace BK331 := bk_ BK331 hb; replace BK341 := bk_ BK341 hb; replace HB := hs_ hb; (try clear hb); (try clear hb2); (try clear hk); (try clear hi); obtain ⟨hcz65_0, hcz65_1, hfz65_0, hfz65_1⟩ := bz2_ BK341; obtain ⟨hcz66_0, hcz66_1, hcz66_2, hcz66_3, hcz66_4, hcz66_5, hfz66_0, hfz66_1, hfz66_2, hfz66_3, hfz66_4, hfz66_5⟩ := bz6_ BK331) | ((with_reducible refine a3_ (N := 48) rfl ?_); refine Kd.R_lit k52 _ 52 ?hg (N := 48) ?hd (xs := ([(⟨(⟨0, 0⟩ : S48), 3, 0⟩ : S52)] : List (S52))) (inner := [.int .i64 0, .int .i64 0, .int .u64 3, .int .i64 0]) (ok := fun _ => True) (okp := fun _ => True) ?hr ?hp (fun _ hk => hk) trivial (Below.refl _ _) (Nat.le_refl _) (by simp) ?_; (case hd => rfl); (case hg => rfl); (case hr => first | (go_simp; done) | (go_simp; rfl)); (case hp => exact (Reps.c4 (show Kd.M k52 _ _ _ (⟨(⟨0, 0⟩ : S48), 3, 0⟩ : S52) [.int .i64 0, .int .i64 0, .int .u64 3, .int .i64 0] from (k52_mkM _ _ _ (⟨(⟨0, 0⟩ : S48), 3, 0⟩ : S52) )) (Reps.none _ _))); intro v353 w67 ho68 hb hg_ hnew_; clear hg_ hnew_; (first | rw [← Ny352.out] at ho68 | (simp only [Int.reduceToNat] at ho68; rw [← Ny352.out] at ho68)); have HO354 := m_ (Kd.R_lower (Kd.R_new' (Kd.R_new' ho68 (Kd.R_lt Z5)) (Kd.R_lt Z9)) (b4_ hb_)); replace HO337 := m_ (Kd.N_elder' Z6 (Kd.R_base ho68) hb); replace HO340 := m_ (Kd.R_below Z7 hb); replace HO344 := m_ (Kd.R_elder' Z5 (Kd.R_base ho68) hb); replace HO349 := m_ (Kd.R_elder' Z9 (Kd.R_base ho68) hb); replace BK331 := bk_ BK331 hb; replace BK341 := bk_ BK341 hb; replace HB := hs_ hb; clear hb ho68; obtain ⟨Ao69, co69, eo69⟩ := Kd.R_slice HO354.out; subst eo69) | ((with_reducible refine b0_ (f := 37) rfl ?_); refine goesL_ (some 50) rfl rfl Try.func37 (by kernel_rfl) rfl #[.int .i64 2, .slice Ao56 y338.length co56, .agg #[.int .i64 9, .int .i64 0], .slice Ao57 y335.length co57, .agg #[.int .i64 1, .int .i64 3, .int .i64 1, .int .i64 0, .int .i64 3, .int .i64 3], .int .i64 7, .agg #[.int .i64 0, .int .i64 0, .int .i64 7, .bool false, .slice Ao69 y352.length co69]] rfl Z0 ?_; (with_reducible refine (fill_Safe.calls 2 _ _ y338 9 0 _ _ y335 1 3 1 0 3 3 7 0 0 7 false _ _ y352 true t356 _ ?side1 ?side2 ?side3 ?side4 ?side5 ?side6 A3.out).mono ?_); (case side1 => repeat (first | exact (Kd.R_reads' HO340.out).2.2 | (with_reducible refine Kd.C_alloc ?_ _) | (with_reducible refine Kd.C_drewN ?_ _) | (with_reducible refine Kd.C_drew ?_))); (case side2 => exact (Kd.R_reads' HO340.out).2.1); (case side3 => repeat (first | exact (Kd.N_reads' HO337.out).2.2 | (with_reducible refine Kd.C_alloc ?_ _) | (with_reducible refine Kd.C_drewN ?_ _) | (with_reducible refine Kd.C_drew ?_))); (case side4 => exact (Kd.N_reads' HO337.out).2.1); (case side5 => repeat (first | exact (Kd.R_reads' HO354.out).2.2 | (with_reducible refine Kd.C_alloc ?_ _) | (with_reducible refine Kd.C_drewN ?_ _) | (with_reducible refine Kd.C_drew ?_))); (case side6 => exact (Kd.R_reads' HO354.out).2.1); rintro e w70 ⟨rfl, hb⟩; refine ⟨_, rfl, ?_⟩; replace HO337 := m_ (Kd.N_below Z6 hb); replace HO340 := m_ (Kd.R_below Z7 hb); replace HO344 := m_ (Kd.R_below Z5 hb); replace HO349 := m_ (Kd.R_below Z9 hb); replace HO354 := m_ (Kd.R_below (by (with_reducible repeat (first | apply Kd.R_alloc | apply Kd.R_drewN | apply Kd.R_drew)); exact HO354.out) hb); replace BK331 := bk_ BK331 hb; replace BK341 := bk_ BK341 hb; replace HB := hs_ hb; (try clear hb); (try clear hb2); (try clear hk); (try clear hi)))
      go_ret
      exact ⟨by first | rfl | (simp [a9_, a8_] <;> rfl) | (simp [*, a9_, a8_] <;> rfl), hb_⟩
     ·rw [if_neg c39] at H
      have c39b0 : (t351 == 0) = false := beq_eq_false_iff_ne.mpr c39
      have c39b1 : (t351 != 0) = true := bne_iff_ne.mpr c39
      rw [hr_] at H
      cases H
    ·rw [if_neg c38] at H
     have c38b0 : (t346 == 0) = false := beq_eq_false_iff_ne.mpr c38
     have c38b1 : (t346 != 0) = true := bne_iff_ne.mpr c38
     rw [hr_] at H
     cases H
   ·replace c37 := Bool.eq_false_iff.mpr c37
    subst c37
    have H1 : (some false) = some r := by rw [if_neg (show ¬ (false = true) by decide)] at H; exact H
    clear H
    have H := H1
    clear H1
    rw [hr_] at H
    cases H
 ·replace c4 := Bool.eq_false_iff.mpr c4
  subst c4
  have H1 : (some false) = some r := by rw [if_neg (show ¬ (false = true) by decide)] at H; exact H
  clear H
  have H := H1
  clear H1
  rw [hr_] at H
  cases H
end Go.Proofs.Ytckhjehibjdjdaa.P
namespace Go.Proofs.Ytckhjehibjdjdaa.P
open Go.RowKit Go.Shelf Go.Proofs.YtckhjehibjdjdaaW.PrintWords Go.Proofs.YtckhjehibjdjdaaW.PrintLast Go.Proofs.YtckhjehibjdjdaaW.PrintMore
attribute [local go_sem] cellBx frozBx
theorem aw13 : ensemblelaw13_awake.f = some true := by decide +kernel
theorem Sh.rr {α : Type} {k : Kd α} {e base c : Nat} {w W : World} {A : Option Addr} {l : List α} (h : Sh k e w W base (.slice A l.length c) l) : ReadsRow (k.K w) k.sz W A l.length l ∧ l.length ≤ c := by
 obtain ⟨rows, hl, hR, hk⟩ := h
 obtain ⟨A', c', e1, hc, hC⟩ := Kd.R_reads hR
 injection e1 with e1 _ e3
 subst e1
 subst e3
 refine ⟨⟨rfl, by have := hC.2.1; omega, fun hn => ?_⟩, by omega⟩
 obtain ⟨ad, ea, hh⟩ := hC.2.2 (by omega)
 refine ⟨ad, ea, fun j p hj => ?_⟩
 have hjl := (List.getElem?_eq_some_iff.1 hj).1
 have hr : rows[j]? = some (rows[j]'(by omega)) := List.getElem?_eq_getElem (by omega)
 obtain ⟨c', h1, h2, h3⟩ := hh j _ hr
 obtain ⟨rfl, _, _⟩ := h2
 exact ⟨_, h1, hk j p _ hj hr, h3⟩
class RR (w : outParam World) (W : World) (A : Option Addr) (c : outParam Nat) (l : List S41) : Prop where
 out : ReadsRow (k41.K w) k41.sz W A l.length l
 le : l.length ≤ c
instance rrBl {w W W' : World} {A : Option Addr} {c : Nat} {l : List S41} [b : Bl W W'] [r : RR w W A c l] : RR w W' A c l := ⟨ReadsRow.imp_ r.out b.out (fun _ _ h => h), r.le⟩
instance rrAlloc {w W : World} {o : Obj} {A : Option Addr} {c : Nat} {l : List S41} [r : RR w W A c l] : RR w (W.alloc o) A c l := ⟨ReadsRow.imp_ r.out (b2_ (Below.refl _ _) _) (fun _ _ h => h), r.le⟩
instance rrDrew {w W : World} {A : Option Addr} {c : Nat} {l : List S41} [r : RR w W A c l] : RR w W.drew A c l := ⟨r.out, r.le⟩
theorem Sh.lt {α : Type} {k : Kd α} {e base : Nat} {w W : World} {v : Value} {l : List α} (h : Sh k e w W base v l) : ∀ b, v.ownBlock = some b → b < W.heap.size := let ⟨_, _, hR, _⟩ := h; Kd.R_lt hR
theorem appG_step {P : Program} {ops : Array Oper} {o : Oper} {a : Act} {Q : Exit → Act → World → Prop} {Kc : Act → World → Prop} {α : Type} (k : Kd α) {w W0 W : World} (hw' : Region.wanted o (yielded ops a.tmps) = true) (s x : Operand) (t e : TypeId) (z : Value) (bytes : Nat)
  (ho : o.op = .call { callee := .builtin .append, args := #[s, x], argTypes := #[t, t] })
  (ht : P.underlying t = some (.slice e)) (hinfo : (P.info? e).map (fun i => (i.zero, i.size, i.bytes)) = some (some z, k.sz, bytes)) (hz : z.cells.size = k.sz) (hs0 : 0 < k.sz) (hb0 : 0 < bytes)
  {v : Value} {xs ys : List α} {A : Option Addr} {c : Nat} (hs : a.eval s = v) (hx : a.eval x = .slice A ys.length c)
  (HO : Sh k e w W W0.heap.size v xs) (HR : ReadsRow (k.K w) k.sz W A ys.length ys) (HB : Below W0.heap.size W0 W) (hl : (xs.length + ys.length) * bytes ≤ 140737488355328)
  (h : ∀ v1 w1, Sh k e w w1 W0.heap.size v1 (xs ++ ys) → Bl W0 w1 → (∀ g cs t, W.heap[g]? = some (.cells cs t (0, 0)) → some g ≠ v.ownBlock → Bx w1 g cs t) → Kc (a.put o.dst v1) w1) :
  if Region.wanted o (yielded ops a.tmps) = true then Oper.wp P o a W Kc Q else Kc (a.put o.dst undef) W := by
 obtain ⟨rows, hrl, hR, hk⟩ := HO
 obtain ⟨news, hnl, hnr, hnf⟩ := Kd.reads_raw HR (fun y c hk => ⟨k.K_len hk, k.K_one hk⟩)
 refine Kd.R_append_rows_step (Kd.raw k.sz) W0.heap.size hw' s x t e z bytes ho ht hinfo hz hs0 hb0 v rows news A ys.length c (fun _ => True) (fun _ => False) hs hx hR hnr (fun _ _ hk => hk) (fun _ hk => hk.elim) (fun _ _ => trivial) HB HB.size (by rw [hrl]; exact hl) ?_
 intro v1 w1 h1 h2 h3 _
 exact h v1 w1 (Sh.joined hrl hk hnl hnf h1) ⟨h2⟩ (fun g cs t hb hne => ⟨c6_ hb h3 hne⟩)
def EndsAt (w W : World) (A : Option Addr) (c : Nat) (l : List S41) : Prop := (Kd.C k41 w A l.length l ∧ l.length ≤ c) ∨ ∃ base, Sh k41 41 w W base (.slice A l.length c) l
section
variable {w W W' : World} {A : Option Addr} {c : Nat} {l : List S41}
theorem EndsAt.rr (h : EndsAt w W A c l) (hb : Below w.heap.size w W) : RR w W A c l := by
 rcases h with ⟨h1, h2⟩ | ⟨_, h⟩
 ·exact ⟨rowIn h1 hb, h2⟩
 ·exact ⟨h.rr.1, h.rr.2⟩
theorem EndsAt.rw (h : EndsAt w W A c l) (hb : Below w.heap.size w W) : Rw k41 W A c l := ⟨ReadsRow.imp_ (h.rr hb).out (Below.refl _ _) (fun x c hk => k41.K_below hb hk), (h.rr hb).le⟩
theorem EndsAt.step (h : EndsAt w W A c l) (hb : Below W.heap.size W W') : EndsAt w W' A c l := h.imp id fun ⟨b, h⟩ => ⟨b, h.step hb⟩
theorem EndsAt.drew (h : EndsAt w W A c l) : EndsAt w W.drew A c l := h.imp id fun ⟨b, h⟩ => ⟨b, h.drew⟩
theorem EndsAt.far {g j t : Nat} {cs : Array Value} {u : Value} (h : EndsAt w W A c l) [b : Bx W g cs t] (ht : 41 ≠ t) : EndsAt w (W.setCell ⟨g, j, none⟩ u) A c l := h.imp id fun ⟨b, h⟩ => ⟨b, h.far ht⟩
end
def R11.T20 : Bool × List (List Nat × List Nat) := (true, [([], []), ([], []), ([0, 1], [0, 1]), ([], []), ([], []), ([3, 4], [3, 4]), ([5], [5]), ([6], [6]), ([2, 7, 2], [2, 7]), ([8, 8, 0, 1, 2, 3, 4, 5, 6, 7, 8], [1, 8])])
def R11.B20 : List Nat := [0, 0, 3, 0, 0, 24, 56, 120, 255, 511]
theorem R11.tab20 : rtab .any (opsOf Try.f11 20) = R11.T20 := by kernel_rfl
theorem R11.bits20 : waitsOk R11.T20.2 R11.B20 = true := by kernel_rfl
set_option maxHeartbeats 8000000 in
set_option maxRecDepth 100000 in
theorem ensemblelaw13_FillMany.calls (k : Nat) (a0 : Int) (A1 : Option Addr) (c1 : Nat) (l1 : List S51) (a2_0 a2_1 : Int) (A3 : Option Addr) (c3 : Nat) (l3 : List S41) (a4_0 a4_1 a4_2 a4_3 a4_4 a4_5 : Int) (A5 : Option Addr) (c5 : Nat) (l5 : List S41) (r : Bool) (w : World) (hr1 : Kd.C k51 w A1 l1.length l1) (hc1 : l1.length ≤ c1) (hr3 : Kd.C k41 w A3 l3.length l3) (hc3 : l3.length ≤ c3) (hr5 : Kd.C k41 w A5 l5.length l5) (hc5 : l5.length ≤ c5) (h : ensemblelaw13_FillMany.f k a0 l1 a2_0 a2_1 l3 a4_0 a4_1 a4_2 a4_3 a4_4 a4_5 l5 = some r) (hr_ : r = true := by rfl) :
  Calls Try.prog 11 #[.int .i64 a0, .slice A1 l1.length c1, .agg #[.int .i64 a2_0, .int .i64 a2_1], .slice A3 l3.length c3, .agg #[.int .i64 a4_0, .int .i64 a4_1, .int .i64 a4_2, .int .i64 a4_3, .int .i64 a4_4, .int .i64 a4_5], .slice A5 l5.length c5] w fun e w' => e = .returned (.bool r) ∧ Below w.heap.size w w' := by
 have hu24 := Try.underlying24
 have hu29 := Try.underlying29
 have hu25 := Try.underlying25
 have hu41 := Try.underlying41
 have hu27 := Try.underlying27
 have : Be w w := ⟨Below.refl _ _⟩
 unfold ensemblelaw13_FillMany.f at h
 replace h := bindS h
 obtain ⟨few, hF, h⟩ := h
 have HF := m_ hF
 have H := m_ h
 clear hF h
 go_enter Try.func11, Try.ntmps11
 have hh := H.out
 clear H
 cases few with
 | false =>
  rw [if_pos rfl] at hh
  obtain rfl := Option.some.inj hh
  clear hh
  go_wp2_with (first | ((with_reducible refine a3_ (N := 8) rfl ?_); refine bxT 8 #[.int .i64 a2_0, .int .i64 a2_1] 24 ?_; intro g8 wb _ _ _) | ((with_reducible refine a3_ (N := 10) rfl ?_); refine bxT 10 #[.int .i64 a4_0, .int .i64 a4_1, .int .i64 a4_2, .int .i64 a4_3, .int .i64 a4_4, .int .i64 a4_5] 29 ?_; intro g10 wc _ _ _) | (go_at_call 35; refine (ensemblelaw13_awake.calls true _ aw13).mono ?_; rintro e wa ⟨rfl, hb⟩; have := Bl.mk hb; clear hb) | (go_at_call 26; refine (ensembleref12_Few.calls _ _ _ _ _ _ _ _ _ _ _ (Kd.C_below hr1 Be.out) hc1 (Kd.C_below hr3 Be.out) hc3 HF.out).mono ?_; rintro e wf ⟨rfl, hb⟩; have := Bl.mk hb; clear hb))
  go_ret
  exact ⟨rfl, Be.out⟩
 | true =>
  rw [if_neg (by decide)] at hh
  by_cases c0 : (l5.length : Int) > 6
  case pos =>
   rw [if_pos c0] at hh
   obtain rfl := Option.some.inj hh
   clear hh
   have q0 : decide (6 < (l5.length : Int)) = true := decide_eq_true c0
   clear c0
   go_wp2_with (first | ((with_reducible refine a3_ (N := 8) rfl ?_); refine bxT 8 #[.int .i64 a2_0, .int .i64 a2_1] 24 ?_; intro g8 wb _ _ _) | ((with_reducible refine a3_ (N := 10) rfl ?_); refine bxT 10 #[.int .i64 a4_0, .int .i64 a4_1, .int .i64 a4_2, .int .i64 a4_3, .int .i64 a4_4, .int .i64 a4_5] 29 ?_; intro g10 wc _ _ _) | (go_at_call 35; refine (ensemblelaw13_awake.calls true _ aw13).mono ?_; rintro e wa ⟨rfl, hb⟩; have := Bl.mk hb; clear hb) | (go_at_call 26; refine (ensembleref12_Few.calls _ _ _ _ _ _ _ _ _ _ _ (Kd.C_below hr1 Be.out) hc1 (Kd.C_below hr3 Be.out) hc3 HF.out).mono ?_; rintro e wf ⟨rfl, hb⟩; have := Bl.mk hb; clear hb))
   go_ret
   exact ⟨rfl, Be.out⟩
  rw [if_neg c0] at hh
  have q0 : decide (6 < (l5.length : Int)) = false := decide_eq_false c0
  have HN := m_ (show l5.length ≤ 6 by omega)
  clear c0
  replace hh := bindS hh
  obtain ⟨⟨p, t2⟩, hT, hh⟩ := hh
  simp only at hh
  have HT := m_ hT
  have H := m_ hh
  clear hT hh
  go_upto_region 5 with (first | ((with_reducible refine a3_ (N := 8) rfl ?_); refine bxT 8 #[.int .i64 a2_0, .int .i64 a2_1] 24 ?_; intro g8 wb _ _ _) | ((with_reducible refine a3_ (N := 10) rfl ?_); refine bxT 10 #[.int .i64 a4_0, .int .i64 a4_1, .int .i64 a4_2, .int .i64 a4_3, .int .i64 a4_4, .int .i64 a4_5] 29 ?_; intro g10 wc _ _ _) | (go_at_call 35; refine (ensemblelaw13_awake.calls true _ aw13).mono ?_; rintro e wa ⟨rfl, hb⟩; have := Bl.mk hb; clear hb) | (go_at_call 26; refine (ensembleref12_Few.calls _ _ _ _ _ _ _ _ _ _ _ (Kd.C_below hr1 Be.out) hc1 (Kd.C_below hr3 Be.out) hc3 HF.out).mono ?_; rintro e wf ⟨rfl, hb⟩; have := Bl.mk hb; clear hb))
  clear HF q0
  go_upto_region 6 with (first | (go_at_call 27; refine (promise_Earliest.calls _ _ _ _ _ _ _ _ _ _ _ _ _ _ _ _ _ _ (Kd.C_below hr1 Be.out) hc1 (Kd.C_below hr3 Be.out) hc3 HT.out).mono ?_; rintro e wt ⟨rfl, hb⟩; have := Bl.mk hb; clear hb))
  have hh := H.out
  clear H HT
  by_cases e1 : t2 = 0
  case neg =>
   rw [if_pos e1] at hh
   obtain rfl := Option.some.inj hh
   clear hh
   have q := bne_iff_ne.2 e1
   clear e1
   go_wp2
   go_ret
   exact ⟨rfl, Be.out⟩
  rw [if_neg (fun h => h e1)] at hh
  subst e1
  have HA0 := m_ (show manyL k a0 a4_0 a4_1 a4_2 a4_3 a4_4 a4_5 p l1 a2_0 a2_1 l3 (l5.drop 0) = some r from hh)
  clear hh
  have : Rw k51 w A1 c1 l1 := ⟨hr1, hc1⟩
  go_wp2
  go_loopw [1, 3, 15] (fun v1 v3 v15 wr => ∃ (i : Nat) (view : List S51) (lg lc : Int) (ends : List S41) (Av : Option Addr) (cv : Nat) (Ae : Option Addr) (ce : Nat), i ≤ l5.length ∧ v1 = .slice Av view.length cv ∧ v3 = .slice Ae ends.length ce ∧ v15 = .int .i64 (i : Int) ∧ A_ (manyL k a0 a4_0 a4_1 a4_2 a4_3 a4_4 a4_5 p view lg lc ends (l5.drop i) = some r) ∧ A_ (EndsAt w wr Ae ce ends) ∧ Rw k51 wr Av cv view ∧ Bx wr g8 #[.int .i64 lg, .int .i64 lc] 24 ∧ Bx wr g10 #[.int .i64 a4_0, .int .i64 a4_1, .int .i64 a4_2, .int .i64 a4_3, .int .i64 a4_4, .int .i64 a4_5] 29 ∧ Be w wr) (fun _ _ v15 _ => l5.length - (intOf v15).toNat)
  case atStart => exact ⟨0, l1, a2_0, a2_1, l3, A1, c1, A3, c3, Nat.zero_le _, rfl, rfl, rfl, HA0, ⟨.inl ⟨hr3, hc3⟩⟩, inferInstance, inferInstance, inferInstance, inferInstance⟩
  case round =>
   clear HA0
   obtain ⟨i, view, lg, lc, ends, Av, cv, Ae, ce, hi, rfl, rfl, rfl, HA, HE, rwv, b8, b10, be⟩ := hrel
   by_cases hlt : i < l5.length
   case neg =>
    obtain rfl : i = l5.length := by omega
    have hh := HA.out
    rw [List.drop_length, manyL] at hh
    obtain rfl := Option.some.inj hh
    clear hh
    clear HA
    go_wp2
    go_ret
    exact ⟨rfl, Be.out⟩
   have hib : (i : Int) ≤ 6 := by have := HN.out; omega
   obtain ⟨ad, A4, c4, ee, y0, y1, y2, y3, y4, hl4, hi4⟩ := at_T41 hr5 (i : Int) (by omega) (by omega)
   subst ee
   simp only [Int.toNat_natCast] at y0 y1 y2 y3 y4
   have hx : a6_ l5 (i : Int) = l5[i] := by simp [a6_, List.getD_eq_getElem?_getD, List.getElem?_eq_getElem hlt]
   have hh := HA.out
   rw [List.drop_eq_getElem_cons hlt] at hh
   rw [hx] at y0 y1 y2 y3 y4 hl4 hi4
   generalize l5[i] = x at *
   rw [manyL] at hh
   have HLT := m_ hlt
   have hlt' : (i : Int) < l5.length := by omega
   have h0i : 0 ≤ (i : Int) := by omega
   have HY := m_ (And.intro y0 (And.intro y1 (And.intro y2 (And.intro y3 y4))))
   have HX := m_ (k41_mk w x hl4 hi4)
   clear HA hx hlt hi y0 y1 y2 y3 y4
   have : Rw k52 w A4 c4 x.f4 := ⟨hi4, hl4⟩
   have rwe : Rw k41 wr Ae ce ends := HE.out.rw be.out
   have hcv := rwv.le
   have hce := rwe.le
   clear hi4
   obtain ⟨y0, y1, y2, y3, y4⟩ := HY.out
   replace y0 := c8_ (Be.out (w := w) (W := wr)) y0
   replace y1 := c8_ (Be.out (w := w) (W := wr)) y1
   replace y2 := c8_ (Be.out (w := w) (W := wr)) y2
   replace y3 := c8_ (Be.out (w := w) (W := wr)) y3
   replace y4 := c8_ (Be.out (w := w) (W := wr)) y4
   by_cases d0 : (x.f4.length : Int) > 20
   case pos =>
    rw [if_pos d0] at hh
    obtain rfl := Option.some.inj hh
    clear hh
    have q : decide (20 < (x.f4.length : Int)) = true := decide_eq_true d0
    clear d0
    go_wp2
    go_ret
    exact ⟨rfl, Be.out⟩
   rw [if_neg d0] at hh
   have q : decide (20 < (x.f4.length : Int)) = false := decide_eq_false d0
   clear d0
   replace hh := bindS hh
   obtain ⟨⟨s1, s2⟩, hS, hh⟩ := hh
   simp only at hh
   have HS := m_ hS
   have H := m_ hh
   clear hS hh
   go_upto_region 13 with (fail)
   go_region_held3 (fun w' => w'.cell? ⟨g8, 0, none⟩ = some (.int .i64 lg) ∧ w'.cell? ⟨g8, 1, none⟩ = some (.int .i64 lc) ∧ w'.cell? ⟨g10, 0, none⟩ = some (.int .i64 a4_0) ∧ w'.cell? ⟨g10, 1, none⟩ = some (.int .i64 a4_1) ∧ w'.cell? ⟨g10, 2, none⟩ = some (.int .i64 a4_2) ∧ w'.cell? ⟨g10, 3, none⟩ = some (.int .i64 a4_3) ∧ w'.cell? ⟨g10, 4, none⟩ = some (.int .i64 a4_4) ∧ w'.cell? ⟨g10, 5, none⟩ = some (.int .i64 a4_5) ∧ w'.cell? (ad.add (i * 5)) = some (.int .i64 x.f0) ∧ w'.cell? ⟨(ad.add (i * 5)).block, (ad.add (i * 5)).off + 1, none⟩ = some (.int .i64 x.f1) ∧ w'.cell? ⟨(ad.add (i * 5)).block, (ad.add (i * 5)).off + 2, none⟩ = some (.int .i64 x.f2) ∧ w'.cell? ⟨(ad.add (i * 5)).block, (ad.add (i * 5)).off + 3, none⟩ = some (.bool x.f3) ∧ w'.cell? ⟨(ad.add (i * 5)).block, (ad.add (i * 5)).off + 4, none⟩ = some (.slice A4 x.f4.length c4)) (((repeat' (refine And.intro ?_ ?_)) <;> first | exact (cellBx _).trans rfl | assumption | exact c8_ Bl.out (by assumption) | exact c8_ Bl.out (c8_ Bl.out (by assumption)) | exact c8_ (b2_ (Below.refl _ _) _) (by assumption))) ((go_at_call 37; refine (fill_Safe.calls _ _ _ _ _ _ _ _ _ _ _ _ _ _ _ _ _ _ _ _ _ _ _ _ _ _ (Rw.out (k := k51) (A := Av) (l := view)) hcv (Rw.out (k := k41) (A := Ae) (l := ends)) hce (Rw.out (k := k52) (A := A4) (l := x.f4)) hl4 HS.out).mono ?_; rintro e ws ⟨rfl, hb⟩; have := Bl.mk hb; clear hb))
   clear HS q
   clear y0 y1 y2 y3 y4
   have hh := H.out
   clear H
   replace HE := m_ ((HE.out.drew).step (Bl.out (W' := ws)))
   by_cases d1 : s2 = 0
   case neg =>
    rw [if_pos d1] at hh
    have q := bne_iff_ne.2 d1
    have HA3 := m_ hh
    clear d1 hh
    go_wp2
    go_roundw
    case rel => exact ⟨i + 1, view, lg, lc, ends, _, _, _, _, HLT.out, rfl, rfl, by go_num, HA3, HE, inferInstance, inferInstance, inferInstance, inferInstance⟩
    case measure => have := HLT.out; simp [intOf]; omega
   rw [if_neg (fun h => h d1)] at hh
   subst d1
   cases s1 with
   | false =>
    rw [if_pos rfl] at hh
    have HA3 := m_ hh
    clear hh
    go_wp2
    go_roundw
    case rel => exact ⟨i + 1, view, lg, lc, ends, _, _, _, _, HLT.out, rfl, rfl, by go_num, HA3, HE, inferInstance, inferInstance, inferInstance, inferInstance⟩
    case measure => have := HLT.out; simp [intOf]; omega
   | true =>
    rw [if_neg (by decide)] at hh
    replace hh := bindS hh
    obtain ⟨⟨vv, ve⟩, hLs, hh⟩ := hh
    simp only at hh
    replace hh := bindS hh
    obtain ⟨⟨u1', u2'⟩, hu, hh⟩ := hh
    simp only at hh
    have HLs := m_ hLs
    have H := m_ hh
    clear hLs hh
    obtain ⟨y0, y1, y2, y3, y4⟩ := HY.out
    replace y0 := c8_ (Be.out (w := w) (W := ws)) y0
    replace y1 := c8_ (Be.out (w := w) (W := ws)) y1
    replace y2 := c8_ (Be.out (w := w) (W := ws)) y2
    replace y3 := c8_ (Be.out (w := w) (W := ws)) y3
    replace y4 := c8_ (Be.out (w := w) (W := ws)) y4
    go_upto_region 16 with (first | (go_at_call 41; refine (ensembleref05_Less.calls _ _ _ _ _ _ _ _ _ _ (Rw.out (k := k51) (A := Av) (l := view)) hcv (Rw.out (k := k52) (A := A4) (l := x.f4)) hl4 HLs.out).mono ?_; rintro e wl ⟨vf, rfl, hv, hb⟩; have := Bl.mk hb; obtain ⟨Af, cf, hvf⟩ := Kd.R_slice hv; subst hvf; have HV := m_ hv; clear hb hv))
    clear HLs
    clear y0 y1 y2 y3 y4
    obtain ⟨y0, y1, y2, y3, y4⟩ := HY.out
    replace y0 := c8_ (Be.out (w := w) (W := wl)) y0
    replace y1 := c8_ (Be.out (w := w) (W := wl)) y1
    replace y2 := c8_ (Be.out (w := w) (W := wl)) y2
    replace y3 := c8_ (Be.out (w := w) (W := wl)) y3
    replace y4 := c8_ (Be.out (w := w) (W := wl)) y4
    replace HE := m_ (HE.out.step (Bl.out (W' := wl)))
    by_cases d2 : x.f1 = a4_0
    case' pos =>
     rw [if_pos d2] at hu
     replace hu := bindS hu
     obtain ⟨⟨u1, u2⟩, hU, hu⟩ := hu
     obtain ⟨rfl, rfl⟩ := Prod.mk.inj (Option.some.inj hu)
     have HU := m_ hU
     have q : (x.f1 == a4_0) = true := beq_iff_eq.2 d2
     clear d2 hu hU
     go_wp2
     go_region
     clear y0 y1 y2 y3 y4
     obtain ⟨y0, y1, y2, y3, y4⟩ := HY.out
     replace y0 := c8_ (Be.out (w := w) (W := wl.drew)) y0
     replace y1 := c8_ (Be.out (w := w) (W := wl.drew)) y1
     replace y2 := c8_ (Be.out (w := w) (W := wl.drew)) y2
     replace y3 := c8_ (Be.out (w := w) (W := wl.drew)) y3
     replace y4 := c8_ (Be.out (w := w) (W := wl.drew)) y4
     go_upto_region 18 with (first | (go_at_call 42; refine (ensembleref08_Units.calls _ _ _ _ _ _ _ (Rw.out (k := k52) (A := A4) (l := x.f4)) hl4 HU.out).mono ?_; rintro e wu ⟨rfl, hb⟩; have := Bl.mk hb; clear hb))
     obtain ⟨g18, w18, _, _, _, e1, e2⟩ := nameA wu #[.int .i64 u1, .int .i64 u2] 24
     rw [e1, e2]
     clear e1 e2
     go_upto_region 20 with (fail)
     have b8' : Bx ((w18.setCell ⟨g8, 0, none⟩ (.int .i64 (wrap64 (lg - u1)))).setCell ⟨g8, 1, none⟩ (.int .i64 (wrap64 (lc - u2)))) g8 #[.int .i64 (wrap64 (lg - u1)), .int .i64 (wrap64 (lc - u2))] 24 := bxSetS (h := bxSetS (cs := #[.int .i64 lg, .int .i64 lc]))
     have b10' : Bx ((w18.setCell ⟨g8, 0, none⟩ (.int .i64 (wrap64 (lg - u1)))).setCell ⟨g8, 1, none⟩ (.int .i64 (wrap64 (lc - u2)))) g10 #[.int .i64 a4_0, .int .i64 a4_1, .int .i64 a4_2, .int .i64 a4_3, .int .i64 a4_4, .int .i64 a4_5] 29 := inferInstance
     have be' : Be w ((w18.setCell ⟨g8, 0, none⟩ (.int .i64 (wrap64 (lg - u1)))).setCell ⟨g8, 1, none⟩ (.int .i64 (wrap64 (lc - u2)))) := inferInstance
     have HV1 := m_ (roFar (g := g8) (j := 1) (u := .int .i64 (wrap64 (lc - u2))) (roFar (g := g8) (j := 0) (u := .int .i64 (wrap64 (lg - u1))) (Kd.R_below (Kd.R_below (Kd.R_drew HV.out) (Bl.out (W' := wu))) (Bl.out (W' := w18))) (by decide)) (by decide))
     have HE1 := m_ (EndsAt.far (g := g8) (j := 1) (u := .int .i64 (wrap64 (lc - u2))) (EndsAt.far (g := g8) (j := 0) (u := .int .i64 (wrap64 (lg - u1))) (((HE.out.drew).step (Bl.out (W' := wu))).step (Bl.out (W' := w18))) (by decide)) (by decide))
     clear HU HV HE q y0 y1 y2 y3 y4
     generalize (w18.setCell ⟨g8, 0, none⟩ (.int .i64 (wrap64 (lg - u1)))).setCell ⟨g8, 1, none⟩ (.int .i64 (wrap64 (lc - u2))) = wq at *
    case' neg =>
     rw [if_neg d2] at hu
     obtain ⟨f1, f2⟩ := Prod.mk.inj (Option.some.inj hu)
     subst f1
     subst f2
     have q : (x.f1 == a4_0) = false := beq_eq_false_iff_ne.2 d2
     clear d2 hu
     go_wp2
     go_region
     go_upto_region 20 with (fail)
     have b8' : Bx wl.drew g8 #[.int .i64 lg, .int .i64 lc] 24 := inferInstance
     have b10' : Bx wl.drew g10 #[.int .i64 a4_0, .int .i64 a4_1, .int .i64 a4_2, .int .i64 a4_3, .int .i64 a4_4, .int .i64 a4_5] 29 := inferInstance
     have be' : Be w wl.drew := inferInstance
     have HV1 := m_ (Kd.R_drew HV.out)
     have HE1 := m_ (HE.out.drew)
     clear HV HE q y0 y1 y2 y3 y4
     generalize wl.drew = wq at *
    all_goals
     have hh := H.out
     clear H
     by_cases c9 : ends.length < 1000000
     case neg => rw [if_neg c9] at hh; cases hh
     rw [if_pos c9] at hh
     have HC := m_ c9
     clear c9
     obtain ⟨lx, hlx⟩ : ∃ z, z = ends ++ [x] := ⟨_, rfl⟩
     rw [← hlx] at hh
     have HLX := m_ hlx
     clear hlx
     replace hh := bindS hh
     obtain ⟨⟨z1, z2⟩, hE, hh⟩ := hh
     simp only at hh
     by_cases e1 : z2 = 0 ∧ z1 ≤ p
     case neg => rw [if_neg e1] at hh; cases hh
     rw [if_pos e1] at hh
     obtain ⟨rfl, e1⟩ := e1
     have qz : decide (p < z1) = false := decide_eq_false (by omega)
     have HA3 := m_ hh
     clear e1 hh
     have HEa := m_ hE
     clear hE
     have rr : RR w wq Ae ce ends := HE1.out.rr be'.out
     have rv : Rw k51 wq Af cf vv := ⟨(Kd.R_reads' HV1.out).2.2, (Kd.R_reads' HV1.out).2.1⟩
     have hcf := rv.le
     clear HV1 HE1
     refine start_ (n := 10) (S := fun w' => w'.cell? (ad.add (i * 5)) = some (.int .i64 x.f0) ∧ w'.cell? ⟨(ad.add (i * 5)).block, (ad.add (i * 5)).off + 1, none⟩ = some (.int .i64 x.f1) ∧ w'.cell? ⟨(ad.add (i * 5)).block, (ad.add (i * 5)).off + 2, none⟩ = some (.int .i64 x.f2) ∧ w'.cell? ⟨(ad.add (i * 5)).block, (ad.add (i * 5)).off + 3, none⟩ = some (.bool x.f3) ∧ w'.cell? ⟨(ad.add (i * 5)).block, (ad.add (i * 5)).off + 4, none⟩ = some (.slice A4 x.f4.length c4)) (ds := []) (bm 10 0) (by kernel_rfl) rfl rfl ⟨c8_ Be.out HY.out.1, c8_ Be.out HY.out.2.1, c8_ Be.out HY.out.2.2.1, c8_ Be.out HY.out.2.2.2.1, c8_ Be.out HY.out.2.2.2.2⟩ (fun hHeld => ?_)
     refine with_tabW R11.tab20 R11.bits20 (fun HT_ HW_ => ?_)
     have bb : Be w (wq.drew) ∧ Bx (wq.drew) g8 _ 24 ∧ Bx (wq.drew) g10 #[.int .i64 a4_0, .int .i64 a4_1, .int .i64 a4_2, .int .i64 a4_3, .int .i64 a4_4, .int .i64 a4_5] 29 ∧ RR w (wq.drew) Ae ce ends ∧ Rw k51 (wq.drew) Af cf vv := ⟨inferInstance, bxDrew (h := b8'), inferInstance, inferInstance, inferInstance⟩
     generalize wq.drew = wz at bb hHeld ⊢
     obtain ⟨bez, b8z, b10z, rrz, rvz⟩ := bb
     clear be' b8' b10' rr rv
     refine pu 1 (some 114) (bm 10 2) ?_
     refine pu 3 (some 116) (bm 10 10) ?_
     refine pu 4 (some 117) (bm 10 26) ?_
     refine pu 5 (some 118) (bm 10 58) ?_
     refine tk 6 (some 119) (bm 10 122) ?_
     refine two_ (i := 0) (j := 7) (Ni := some 113) (Nj := some 120) (bm 10 123) (bm 10 250) rfl rfl rfl rfl (two_of HT_.out (by kernel_rfl)) (by decide) (by decide) (fun K hK => ?_) (fun K hK => ?_)
     ·skip
      refine litS_step (w := w) 113 k41 41 ?_ (by rfl) rfl (by first | (go_simp; done) | (go_simp; rfl))
      intro v113 wl2 hs hb2
      have HSa := m_ hs
      clear hs
      refine hK.out _ _ ⟨c8_ Be.out HY.out.1, c8_ Be.out HY.out.2.1, c8_ Be.out HY.out.2.2.1, c8_ Be.out HY.out.2.2.2.1, c8_ Be.out HY.out.2.2.2.2⟩ (fun hHeld => ?_)
      clear hK K
      refine norm_ (a' := ?_) ?_ ?_
      rotate_left
      ·show Act.put _ (some 113) _ = _
       simp only [Act.put, List.setIfInBounds_toArray, List.set_cons_zero, List.set_cons_succ, i64_w, i32_w]
       rfl
      refine two_ (i := 2) (j := 7) (Ni := some 115) (Nj := some 120) (bm 10 127) (bm 10 251) rfl rfl rfl rfl (two_of HT_.out (by kernel_rfl)) (by decide) (by decide) (fun K hK => ?_) (fun K hK => ?_)
      ·skip
       refine appG_step k41 (w := w) (by rfl) (.tmp 113) (.tmp 114) 25 41 (.agg #[(.int .i64 0), (.int .i64 0), (.int .i64 0), (.bool false), (.slice none 0 0)]) 56 (by rfl) Try.underlying25 info41 rfl (by decide) (by omega) (by rfl) (by rfl) HSa.out (RR.out (c := ce)) hb2.out (by have := HC.out; simp; omega) ?_
       intro v115 wl3 hs hb3 hX
       rw [List.nil_append] at hs
       have HSb := m_ hs
       clear hs hX
       refine hK.out _ _ ⟨c8_ Be.out HY.out.1, c8_ Be.out HY.out.2.1, c8_ Be.out HY.out.2.2.1, c8_ Be.out HY.out.2.2.2.1, c8_ Be.out HY.out.2.2.2.2⟩ (fun hHeld => ?_)
       clear hK K
       refine norm_ (a' := ?_) ?_ ?_
       rotate_left
       ·show Act.put _ (some 115) _ = _
        simp only [Act.put, List.setIfInBounds_toArray, List.set_cons_zero, List.set_cons_succ, i64_w, i32_w]
        rfl
       refine one_ (i := 7) (N := some 120) (bm 10 255) rfl rfl (one_of HT_.out (by kernel_rfl)) (by decide) (fun K hK => ?_)
       refine value_ (w1 := ?_) (v := ?_) (by rfl) rfl ?_ ?_
       rotate_left 2
       ·go_simp
        constructor
        ·rfl
        ·rfl
       refine hK.out _ _ ⟨c8_ Be.out HY.out.1, c8_ Be.out HY.out.2.1, c8_ Be.out HY.out.2.2.1, c8_ Be.out HY.out.2.2.2.1, c8_ Be.out HY.out.2.2.2.2⟩ (fun hHeld => ?_)
       clear hK K
       refine norm_ (a' := ?_) ?_ ?_
       rotate_left
       ·show Act.put _ (some 120) _ = _
        simp only [Act.put, List.setIfInBounds_toArray, List.set_cons_zero, List.set_cons_succ, i64_w, i32_w]
        rfl
       clear hHeld
       obtain ⟨gx, wx7, _, bx7, hb7, e1, e2⟩ := nameA wl3 #[.int .i64 x.f0, .int .i64 x.f1, .int .i64 x.f2, .bool x.f3, .slice A4 x.f4.length c4] 41
       rw [e1, e2]
       clear e1 e2
       refine one_ (i := 8) (N := some 121) (bm 10 511) rfl rfl (one_of HT_.out (by kernel_rfl)) (by decide) (fun K hK => ?_)
       refine appG_step k41 (w := w) (by rfl) (.tmp 115) (.tmp 120) 25 41 (.agg #[(.int .i64 0), (.int .i64 0), (.int .i64 0), (.bool false), (.slice none 0 0)]) 56 (by rfl) Try.underlying25 info41 rfl (by decide) (by omega) (by rfl) (by rfl) (HSb.out.step hb7.out) (rowBx HX.out) (a7_ hb3.out hb7.out) (by have := HC.out; simp; omega) ?_
       intro v121 wl4 hs hb4 hX
       rw [← HLX.out] at hs
       have HSc := m_ hs
       clear hs hX
       refine hK.out _ _ ⟨c8_ Be.out HY.out.1, c8_ Be.out HY.out.2.1, c8_ Be.out HY.out.2.2.1, c8_ Be.out HY.out.2.2.2.1, c8_ Be.out HY.out.2.2.2.2⟩ (fun hHeld => ?_)
       clear hK K
       refine norm_ (a' := ?_) ?_ ?_
       rotate_left
       ·show Act.put _ (some 121) _ = _
        simp only [Act.put, List.setIfInBounds_toArray, List.set_cons_zero, List.set_cons_succ, i64_w, i32_w]
        rfl
       refine pu 9 (some 3) (bm 10 1023) ?_
       refine done_ (done_of HT_.out (by kernel_rfl)) ?_
       clear HT_ HW_ HSa HSb
       obtain ⟨Ax, cx, ex, HQ⟩ := HSc.out.read Be.out
       subst ex
       have HQ := m_ HQ
       go_upto_region 22 with (first | (go_at_call 27; refine (promise_Earliest.calls _ _ _ _ _ _ _ _ _ _ _ _ _ _ _ _ _ _ (Rw.out (k := k51) (A := Af) (l := vv)) hcf HQ.out.out HQ.out.le HEa.out).mono ?_; rintro e wy ⟨rfl, hb⟩; have := Bl.mk hb; clear hb))
       have HE2 := m_ (show EndsAt w wy Ax cx lx from .inr ⟨_, HSc.out.step (Bl.out (W' := wy))⟩)
       clear HEa HQ HSc
       go_wp2
       go_roundw
       case rel => exact ⟨i + 1, vv, _, _, lx, _, _, _, _, HLT.out, rfl, rfl, by go_num, HA3, HE2, inferInstance, inferInstance, inferInstance, inferInstance⟩
       case measure => have := HLT.out; simp [intOf]; omega
      ·skip
       refine value_ (w1 := ?_) (v := ?_) (by rfl) rfl ?_ ?_
       rotate_left 2
       ·go_simp
        constructor
        ·rfl
        ·rfl
       refine hK.out _ _ ⟨c8_ Be.out HY.out.1, c8_ Be.out HY.out.2.1, c8_ Be.out HY.out.2.2.1, c8_ Be.out HY.out.2.2.2.1, c8_ Be.out HY.out.2.2.2.2⟩ (fun hHeld => ?_)
       clear hK K
       refine norm_ (a' := ?_) ?_ ?_
       rotate_left
       ·show Act.put _ (some 120) _ = _
        simp only [Act.put, List.setIfInBounds_toArray, List.set_cons_zero, List.set_cons_succ, i64_w, i32_w]
        rfl
       clear hHeld
       obtain ⟨gx, wx7, _, bx7, hb7, e1, e2⟩ := nameA wl2 #[.int .i64 x.f0, .int .i64 x.f1, .int .i64 x.f2, .bool x.f3, .slice A4 x.f4.length c4] 41
       rw [e1, e2]
       clear e1 e2
       refine one_ (i := 2) (N := some 115) (bm 10 255) rfl rfl (one_of HT_.out (by kernel_rfl)) (by decide) (fun K hK => ?_)
       refine appG_step k41 (w := w) (by rfl) (.tmp 113) (.tmp 114) 25 41 (.agg #[(.int .i64 0), (.int .i64 0), (.int .i64 0), (.bool false), (.slice none 0 0)]) 56 (by rfl) Try.underlying25 info41 rfl (by decide) (by omega) (by rfl) (by rfl) (HSa.out.step hb7.out) (RR.out (c := ce)) (a7_ hb2.out hb7.out) (by have := HC.out; simp; omega) ?_
       intro v115 wl3 hs hb3 hX
       rw [List.nil_append] at hs
       have HSb := m_ hs
       have bX := hX gx _ 41 bx7.out (fun e => absurd (HSa.out.lt _ e.symm) (by have := Fr.out (W := wl2) (g := gx); omega))
       clear hs hX
       refine hK.out _ _ ⟨c8_ Be.out HY.out.1, c8_ Be.out HY.out.2.1, c8_ Be.out HY.out.2.2.1, c8_ Be.out HY.out.2.2.2.1, c8_ Be.out HY.out.2.2.2.2⟩ (fun hHeld => ?_)
       clear hK K
       refine norm_ (a' := ?_) ?_ ?_
       rotate_left
       ·show Act.put _ (some 115) _ = _
        simp only [Act.put, List.setIfInBounds_toArray, List.set_cons_zero, List.set_cons_succ, i64_w, i32_w]
        rfl
       refine one_ (i := 8) (N := some 121) (bm 10 511) rfl rfl (one_of HT_.out (by kernel_rfl)) (by decide) (fun K hK => ?_)
       refine appG_step k41 (w := w) (by rfl) (.tmp 115) (.tmp 120) 25 41 (.agg #[(.int .i64 0), (.int .i64 0), (.int .i64 0), (.bool false), (.slice none 0 0)]) 56 (by rfl) Try.underlying25 info41 rfl (by decide) (by omega) (by rfl) (by rfl) HSb.out (rowBx HX.out) hb3.out (by have := HC.out; simp; omega) ?_
       intro v121 wl4 hs hb4 hX
       rw [← HLX.out] at hs
       have HSc := m_ hs
       clear hs hX
       refine hK.out _ _ ⟨c8_ Be.out HY.out.1, c8_ Be.out HY.out.2.1, c8_ Be.out HY.out.2.2.1, c8_ Be.out HY.out.2.2.2.1, c8_ Be.out HY.out.2.2.2.2⟩ (fun hHeld => ?_)
       clear hK K
       refine norm_ (a' := ?_) ?_ ?_
       rotate_left
       ·show Act.put _ (some 121) _ = _
        simp only [Act.put, List.setIfInBounds_toArray, List.set_cons_zero, List.set_cons_succ, i64_w, i32_w]
        rfl
       refine pu 9 (some 3) (bm 10 1023) ?_
       refine done_ (done_of HT_.out (by kernel_rfl)) ?_
       clear HT_ HW_ HSa HSb
       obtain ⟨Ax, cx, ex, HQ⟩ := HSc.out.read Be.out
       subst ex
       have HQ := m_ HQ
       go_upto_region 22 with (first | (go_at_call 27; refine (promise_Earliest.calls _ _ _ _ _ _ _ _ _ _ _ _ _ _ _ _ _ _ (Rw.out (k := k51) (A := Af) (l := vv)) hcf HQ.out.out HQ.out.le HEa.out).mono ?_; rintro e wy ⟨rfl, hb⟩; have := Bl.mk hb; clear hb))
       have HE2 := m_ (show EndsAt w wy Ax cx lx from .inr ⟨_, HSc.out.step (Bl.out (W' := wy))⟩)
       clear HEa HQ HSc
       go_wp2
       go_roundw
       case rel => exact ⟨i + 1, vv, _, _, lx, _, _, _, _, HLT.out, rfl, rfl, by go_num, HA3, HE2, inferInstance, inferInstance, inferInstance, inferInstance⟩
       case measure => have := HLT.out; simp [intOf]; omega
     ·skip
      refine value_ (w1 := ?_) (v := ?_) (by rfl) rfl ?_ ?_
      rotate_left 2
      ·go_simp
       constructor
       ·rfl
       ·rfl
      refine hK.out _ _ ⟨c8_ Be.out HY.out.1, c8_ Be.out HY.out.2.1, c8_ Be.out HY.out.2.2.1, c8_ Be.out HY.out.2.2.2.1, c8_ Be.out HY.out.2.2.2.2⟩ (fun hHeld => ?_)
      clear hK K
      refine norm_ (a' := ?_) ?_ ?_
      rotate_left
      ·show Act.put _ (some 120) _ = _
       simp only [Act.put, List.setIfInBounds_toArray, List.set_cons_zero, List.set_cons_succ, i64_w, i32_w]
       rfl
      clear hHeld
      obtain ⟨gx, wx7, _, bx7, hb7, e1, e2⟩ := nameA wz #[.int .i64 x.f0, .int .i64 x.f1, .int .i64 x.f2, .bool x.f3, .slice A4 x.f4.length c4] 41
      rw [e1, e2]
      clear e1 e2
      refine one_ (i := 0) (N := some 113) (bm 10 251) rfl rfl (one_of HT_.out (by kernel_rfl)) (by decide) (fun K hK => ?_)
      refine litS_step (w := w) 113 k41 41 ?_ (by rfl) rfl (by first | (go_simp; done) | (go_simp; rfl))
      intro v113 wl2 hs hb2
      have HSa := m_ hs
      clear hs
      refine hK.out _ _ ⟨c8_ Be.out HY.out.1, c8_ Be.out HY.out.2.1, c8_ Be.out HY.out.2.2.1, c8_ Be.out HY.out.2.2.2.1, c8_ Be.out HY.out.2.2.2.2⟩ (fun hHeld => ?_)
      clear hK K
      refine norm_ (a' := ?_) ?_ ?_
      rotate_left
      ·show Act.put _ (some 113) _ = _
       simp only [Act.put, List.setIfInBounds_toArray, List.set_cons_zero, List.set_cons_succ, i64_w, i32_w]
       rfl
      refine one_ (i := 2) (N := some 115) (bm 10 255) rfl rfl (one_of HT_.out (by kernel_rfl)) (by decide) (fun K hK => ?_)
      refine appG_step k41 (w := w) (by rfl) (.tmp 113) (.tmp 114) 25 41 (.agg #[(.int .i64 0), (.int .i64 0), (.int .i64 0), (.bool false), (.slice none 0 0)]) 56 (by rfl) Try.underlying25 info41 rfl (by decide) (by omega) (by rfl) (by rfl) HSa.out (RR.out (c := ce)) hb2.out (by have := HC.out; simp; omega) ?_
      intro v115 wl3 hs hb3 hX
      rw [List.nil_append] at hs
      have HSb := m_ hs
      clear hs hX
      refine hK.out _ _ ⟨c8_ Be.out HY.out.1, c8_ Be.out HY.out.2.1, c8_ Be.out HY.out.2.2.1, c8_ Be.out HY.out.2.2.2.1, c8_ Be.out HY.out.2.2.2.2⟩ (fun hHeld => ?_)
      clear hK K
      refine norm_ (a' := ?_) ?_ ?_
      rotate_left
      ·show Act.put _ (some 115) _ = _
       simp only [Act.put, List.setIfInBounds_toArray, List.set_cons_zero, List.set_cons_succ, i64_w, i32_w]
       rfl
      refine one_ (i := 8) (N := some 121) (bm 10 511) rfl rfl (one_of HT_.out (by kernel_rfl)) (by decide) (fun K hK => ?_)
      refine appG_step k41 (w := w) (by rfl) (.tmp 115) (.tmp 120) 25 41 (.agg #[(.int .i64 0), (.int .i64 0), (.int .i64 0), (.bool false), (.slice none 0 0)]) 56 (by rfl) Try.underlying25 info41 rfl (by decide) (by omega) (by rfl) (by rfl) HSb.out (rowBx HX.out) hb3.out (by have := HC.out; simp; omega) ?_
      intro v121 wl4 hs hb4 hX
      rw [← HLX.out] at hs
      have HSc := m_ hs
      clear hs hX
      refine hK.out _ _ ⟨c8_ Be.out HY.out.1, c8_ Be.out HY.out.2.1, c8_ Be.out HY.out.2.2.1, c8_ Be.out HY.out.2.2.2.1, c8_ Be.out HY.out.2.2.2.2⟩ (fun hHeld => ?_)
      clear hK K
      refine norm_ (a' := ?_) ?_ ?_
      rotate_left
      ·show Act.put _ (some 121) _ = _
       simp only [Act.put, List.setIfInBounds_toArray, List.set_cons_zero, List.set_cons_succ, i64_w, i32_w]
       rfl
      refine pu 9 (some 3) (bm 10 1023) ?_
      refine done_ (done_of HT_.out (by kernel_rfl)) ?_
      clear HT_ HW_ HSa HSb
      obtain ⟨Ax, cx, ex, HQ⟩ := HSc.out.read Be.out
      subst ex
      have HQ := m_ HQ
      go_upto_region 22 with (first | (go_at_call 27; refine (promise_Earliest.calls _ _ _ _ _ _ _ _ _ _ _ _ _ _ _ _ _ _ (Rw.out (k := k51) (A := Af) (l := vv)) hcf HQ.out.out HQ.out.le HEa.out).mono ?_; rintro e wy ⟨rfl, hb⟩; have := Bl.mk hb; clear hb))
      have HE2 := m_ (show EndsAt w wy Ax cx lx from .inr ⟨_, HSc.out.step (Bl.out (W' := wy))⟩)
      clear HEa HQ HSc
      go_wp2
      go_roundw
      case rel => exact ⟨i + 1, vv, _, _, lx, _, _, _, _, HLT.out, rfl, rfl, by go_num, HA3, HE2, inferInstance, inferInstance, inferInstance, inferInstance⟩
      case measure => have := HLT.out; simp [intOf]; omega
end Go.Proofs.Ytckhjehibjdjdaa.P
