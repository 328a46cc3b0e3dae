/- PromiseOnly: part 2 of the walk and of the plain law that it comes to. No condition. -/
import Derived.Test.YtckhjehibjdjdaaZPromiseOnly1
import Derived.ArgAppend
import Derived.Below
import Derived.BigQuiet
import Derived.BigRegion
import Derived.Carry
import Derived.Deep.AppendLies
import Derived.Deep.CutBlock
import Derived.Deep.DeepCutAuto
import Derived.Deep.Draws
import Derived.Deep.LoopGhost
import Derived.Deep.OwnRows
import Derived.Deep.QuietTactic
import Derived.Deep.RegionHeld3
import Derived.Deep.Slices
import Derived.DeepKeys3
import Derived.KernelRfl
import Derived.Laws.Bits64
import Derived.Laws.Bits64b
import Derived.Laws.BitsLemmas
import Derived.Laws.BytesArg
import Derived.Laws.IdiomCopy
import Derived.Laws.MakeOwn
import Derived.Laws.OwnMore
import Derived.Laws.Rows
import Derived.Laws.Slices
import Derived.Lib.AppendStr
import Derived.Lib.ConvBytes
import Derived.Lib.SliceRun
import Derived.LoopIn
import Derived.LoopN
import Derived.LoopNIn
import Derived.Maps.AppendAt
import Derived.Maps.Keyed
import Derived.Maps.Own
import Derived.Maps.OwnOps
import Derived.Maps.OwnSet
import Derived.Maps.Views
import Derived.OrdersHeld
import Derived.OwnWalk
import Derived.OwnWalkIn
import Derived.ProofKit
import Derived.RangeFuncBound
import Derived.RangeFuncBox
import Derived.RangeFuncCalls
import Derived.RangeFuncFrom
import Derived.RangeFuncLeaves
import Derived.RowKit
import Derived.RowKit3
import Derived.Shelf.Abstract
import Derived.Shelf.RegionOpen
import Derived.StillTailTactics
import Derived.Tactics
import Derived.TacticsInMore
import Derived.WalkKit
import Derived.WideLaws
namespace Go.Proofs.Ytckhjehibjdjdaa.P
open Go.RowKit Go.Proofs.YtckhjehibjdjdaaW.PrintWords
open Go.Proofs.Ytckhjehibjdjdaa.Bits Go.Proofs.Ytckhjehibjdjdaa.Mp
set_option linter.unusedVariables false
set_option linter.unusedSimpArgs false
theorem w_id {x : Int} (h : -9223372036854775808 ≤ x ∧ x ≤ 9223372036854775807) : wrap64 x = x := by unfold wrap64; omega
theorem rd51' (l : List S51) (i : Nat) (h : i < l.length) : rd_T51 l (i : Int) = l[i] := by
 simp [rd_T51, List.getD_eq_getElem?_getD, List.getElem?_eq_getElem h]
theorem rd41' (l : List S41) (i : Nat) (h : i < l.length) : rd_T41 l (i : Int) = l[i] := by
 simp [rd_T41, List.getD_eq_getElem?_getD, List.getElem?_eq_getElem h]
def freeOk (f : S51) : Bool := decide (0 ≤ f.f1) && decide (f.f1 < 18446744073709551616) && w64B f.f2
theorem eachI_nn {a b : Int} (ha : 0 ≤ a) (hb : 0 ≤ b) : 0 ≤ eachI a b := by
 unfold eachI; split
 ·omega
 ·exact Int.ediv_nonneg ha hb
theorem fitV_bd (g c mn mx m cp : Int) : 0 ≤ fitV g c mn mx m cp ∧ fitV g c mn mx m cp ≤ 16 := by
 unfold fitV
 split
 ·rename_i h
  have hg := h.1
  simp only [goodShape, Bool.and_eq_true, decide_eq_true_eq] at hg
  have h1 := eachI_nn (popI_bd m).1 (show 0 ≤ g by omega)
  have h2 := eachI_nn h.2 (show 0 ≤ c by omega)
  unfold fitN
  omega
 ·omega
def roomS (g c mn mx : Int) (view : List S51) : Int := (view.map fun f => fitV g c mn mx f.f1 f.f2).sum
theorem room_l (g c mn mx : Int) (n : Nat) : ∀ (k : Nat) (view : List S51) (s : Int) (i : Nat), view.length ≤ 4398046511104 → (∀ f ∈ view, freeOk f = true) → i ≤ view.length → view.length - i = n → n + 1 ≤ k → 0 ≤ s → s ≤ 16 * i →
  pack_Room.l0 k s view (view.length : Int) (i : Int) g c mn mx = some (s + roomS g c mn mx (view.drop i)) := by
 induction n with
 | zero =>
  intro k view s i hl hv hi hn hk h0 hs
  obtain ⟨k, rfl⟩ : ∃ m, k = m + 1 := ⟨k - 1, by omega⟩
  rw [pack_Room.l0, if_neg (by omega), List.drop_eq_nil_of_le (by omega)]
  simp [roomS]
 | succ n ih =>
  intro k view s i hl hv hi hn hk h0 hs
  obtain ⟨k, rfl⟩ : ∃ m, k = m + 1 := ⟨k - 1, by omega⟩
  have hil : i < view.length := by omega
  have hf := hv _ (List.getElem_mem hil)
  simp only [freeOk, w64B, Bool.and_eq_true, decide_eq_true_eq] at hf
  have hb := fitV_bd g c mn mx (view[i]).f1 (view[i]).f2
  have e1 : (i : Int) + 1 = ((i + 1 : Nat) : Int) := by omega
  have hfit : shape_Fits.f g c mn mx (view[i]).f0.f0 (view[i]).f0.f1 (view[i]).f1 (view[i]).f2 = some (fitV g c mn mx (view[i]).f1 (view[i]).f2) := by
   unfold shape_Fits.f; rw [if_pos ⟨hf.1.1, hf.1.2, hf.2.2⟩]
  rw [pack_Room.l0, if_pos (by omega), if_pos (by omega), if_pos (by omega), rd51' view i hil, hfit, Option.bind_some, w_id (by omega), w_id (by omega), e1,
   ih k view _ (i + 1) hl hv (by omega) (by omega) (by omega) (by omega) (by omega), List.drop_eq_getElem_cons hil]
  simp only [roomS, List.map_cons, List.sum_cons]
  congr 1
  omega
theorem room_eq (k : Nat) (view : List S51) (g c mn mx : Int) (hk : view.length + 1 ≤ k) (hl : view.length ≤ 4398046511104) (hv : ∀ f ∈ view, freeOk f = true) :
  pack_Room.f k view g c mn mx = some (roomS g c mn mx view) := by
 have := room_l g c mn mx view.length k view 0 0 hl hv (by omega) (by omega) hk (by omega) (by omega)
 rw [List.drop_zero] at this
 unfold pack_Room.f
 rw [show ((0 : Nat) : Int) = 0 from rfl] at this
 rw [this]; simp
def rightB (m g c mn mx : Int) : Bool := goodShape g c mn mx && decide (1 ≤ m) && decide (m ≤ 16)
theorem right_eq (q m g c mn mx : Int) : promise_right.f q m g c mn mx = some (rightB m g c mn mx) := by
 unfold promise_right.f shape_Check.f rightB
 by_cases h : goodShape g c mn mx = true
 ·rw [if_pos h, Option.bind_some, if_pos rfl, h]
  by_cases h1 : 1 ≤ m
  ·rw [if_pos (by omega), decide_eq_true h1]; simp
  ·rw [if_neg (by omega), decide_eq_false h1]; simp
 ·rw [if_neg h, Option.bind_some, if_neg (by decide)]
  simp [h]
def fitsB (view : List S51) (lg lc m g c mn mx : Int) : Bool := rightB m g c mn mx && decide (g * m ≤ lg) && decide (c * m ≤ lc) && decide (m ≤ roomS g c mn mx view)
theorem mul_bd {a b A B : Int} (ha : 0 ≤ a) (hA : a ≤ A) (hb : 0 ≤ b) (hB : b ≤ B) : 0 ≤ a * b ∧ a * b ≤ A * B :=
 ⟨Int.mul_nonneg ha hb, Int.mul_le_mul hA hB hb (by omega)⟩
theorem fits_eq (k : Nat) (view : List S51) (lg lc q m g c mn mx : Int) (hk : view.length + 1 ≤ k) (hl : view.length ≤ 4398046511104) (hv : ∀ f ∈ view, freeOk f = true) :
  promise_Fits.f k view lg lc q m g c mn mx = some (fitsB view lg lc m g c mn mx) := by
 unfold promise_Fits.f fitsB
 rw [right_eq, Option.bind_some]
 by_cases hr : rightB m g c mn mx = true
 ·have hr' := hr
  simp only [rightB, Bool.and_eq_true, decide_eq_true_eq] at hr'
  have hg := hr'.1.1
  have hg' := hg
  simp only [goodShape, Bool.and_eq_true, decide_eq_true_eq] at hg'
  have b1 := mul_bd (a := g) (b := m) (A := 16) (B := 16) (by omega) (by omega) (by omega) (by omega)
  have b2 := mul_bd (a := c) (b := m) (A := 1024) (B := 16) (by omega) (by omega) (by omega) (by omega)
  have hu : shape_Units.f g c mn mx m = some (g * m, c * m, 0) := by
   unfold shape_Units.f shape_Check.f
   rw [if_pos hg, Option.bind_some, if_pos rfl, if_neg (by omega), if_neg (by omega), w_id (by omega), w_id (by omega)]
  rw [if_pos hr, hu, Option.bind_some, hr]
  simp only [Bool.true_and]
  by_cases h1 : g * m ≤ lg
  ·rw [if_pos h1, decide_eq_true h1]
   by_cases h2 : c * m ≤ lc
   ·rw [if_pos h2, decide_eq_true h2, room_eq k view g c mn mx hk hl hv, Option.bind_some]
    simp
   ·rw [if_neg h2, decide_eq_false h2]; simp
  ·rw [if_neg h1, decide_eq_false h1]; simp
 ·rw [if_neg hr]
  simp [hr]
theorem all_l (n : Nat) : ∀ (k : Nat) (ends : List S41) (acc : List S52) (i : Nat), ends.length ≤ 1000000 → i ≤ ends.length → ends.length - i = n → n + 1 ≤ k → acc.length + ((ends.drop i).flatMap fun h => h.f4).length < 4398046511104 →
  promise_all.l0 k acc ends (ends.length : Int) (i : Int) = some (acc ++ (ends.drop i).flatMap fun h => h.f4) := by
 induction n with
 | zero =>
  intro k ends acc i hl hi hn hk hs
  obtain ⟨k, rfl⟩ : ∃ m, k = m + 1 := ⟨k - 1, by omega⟩
  rw [promise_all.l0, if_neg (by omega), List.drop_eq_nil_of_le (by omega)]
  simp
 | succ n ih =>
  intro k ends acc i hl hi hn hk hs
  obtain ⟨k, rfl⟩ : ∃ m, k = m + 1 := ⟨k - 1, by omega⟩
  have hil : i < ends.length := by omega
  have e1 : (i : Int) + 1 = ((i + 1 : Nat) : Int) := by omega
  rw [List.drop_eq_getElem_cons hil] at hs ⊢
  simp only [List.flatMap_cons, List.length_append] at hs
  rw [promise_all.l0, if_pos (by omega), if_pos (by omega), if_pos (by omega), rd41' ends i hil, if_pos (by omega), w_id (by omega), e1, ih k ends _ (i + 1) hl (by omega) (by omega) (by omega) (by rw [List.length_append]; omega)]
  rw [List.flatMap_cons, List.append_assoc]
theorem all_eq (k : Nat) (ends : List S41) (hk : ends.length + 1 ≤ k) (hl : ends.length ≤ 1000000) (hs : (ends.flatMap fun h => h.f4).length < 4398046511104) : promise_all.f k ends = some (ends.flatMap fun h => h.f4) := by
 have := all_l ends.length k ends [] 0 hl (by omega) (by omega) hk (by simpa using hs)
 rw [List.drop_zero] at this
 unfold promise_all.f
 exact this
def goE (q m g c mn mx : Int) : List S41 → Int → List S51 → Int × Int → Int
 | [], t, view, left => if fitsB view left.1 left.2 m g c mn mx = true then t else 1073741825
 | h :: l, t, view, left =>
  if h.f2 > t then
   if fitsB view left.1 left.2 m g c mn mx = true then t
   else if h.f2 ≥ 1073741825 then 1073741825
   else goE q m g c mn mx l h.f2 (turned51 moreE moreF view h.f4).1 (addL (decide (h.f1 = q)) left h.f4)
  else goE q m g c mn mx l t (turned51 moreE moreF view h.f4).1 (addL (decide (h.f1 = q)) left h.f4)
def skey41 (h : S41) : Int := h.f2
def earliestB (now : Int) (view : List S51) (lg lc : Int) (ends : List S41) (q m g c mn mx : Int) : Int × Int :=
 if now < 0 ∨ now > 1073741824 ∨ rightB m g c mn mx = false then (0, 1)
 else if (turned51 moreE moreF view (ends.flatMap fun h => h.f4)).2 ≠ 0 then (0, (turned51 moreE moreF view (ends.flatMap fun h => h.f4)).2)
 else (goE q m g c mn mx (isort skey41 ends) now view (lg, lc), 0)
def okE (view : List S51) (ends : List S41) : Bool := decide (ends.length ≤ 20) && spotsOk view (ends.flatMap fun h => h.f4) && view.all freeOk && (ends.flatMap fun h => h.f4).all maskOk && decide ((ends.flatMap fun h => h.f4).length < 4000000000)
def promise_Earliest.f (now : Int) (view : List S51) (lg lc : Int) (ends : List S41) (q m g c mn mx : Int) : Option (Int × Int) := if okE view ends = true then some (earliestB now view lg lc ends q m g c mn mx) else none
theorem or_u64 {a b : Int} (ha : 0 ≤ a ∧ a < 18446744073709551616) (hb : 0 ≤ b ∧ b < 18446744073709551616) : 0 ≤ Go.bits .or .u64 a b ∧ Go.bits .or .u64 a b < 18446744073709551616 := by
 obtain ⟨x, rfl⟩ := Int.eq_ofNat_of_zero_le ha.1
 obtain ⟨y, rfl⟩ := Int.eq_ofNat_of_zero_le hb.1
 rw [bits_or_u64_nat x y (by omega) (by omega)]
 have := Nat.or_lt_two_pow (x := x) (y := y) (n := 64) (by omega) (by omega)
 omega
theorem w64_wrap (x : Int) : w64B (wrap64 x) = true := by unfold w64B wrap64; simp; omega
def viewOk (view : List S51) : Prop := view.length < 4398046511104 ∧ (∀ f ∈ view, freeOk f = true) ∧ ∀ f ∈ view, (w64B f.f0.f0 && w64B f.f0.f1) = true
theorem moreF_ok {f : S51} {s : S52} (hf : freeOk f = true) (hs : maskOk s = true) : freeOk (moreF f s) = true := by
 simp only [freeOk, maskOk, Bool.and_eq_true, decide_eq_true_eq] at *
 have := or_u64 hf.1 hs
 exact ⟨this, w64_wrap _⟩
theorem turned_ok (ix : Int → Int → Option Int) : ∀ (slots : List S52) (out : List S51), viewOk out → (∀ s ∈ slots, maskOk s = true) → (∀ a b k, ix a b = some k → 0 ≤ k ∧ k < out.length) → viewOk (turnedL moreE moreF ix out slots).1
 | [], out, h, _, _ => h
 | s :: ss, out, h, hs, hix => by
  have h0 : viewOk [] := ⟨by simp, by simp, by simp⟩
  rw [turnedL]
  split
  ·exact h0
  ·cases hk : ix s.f0.f0 s.f0.f1 with
   | none => exact h0
   | some k =>
    simp only
    split
    ·have hkb := hix _ _ _ hk
     obtain ⟨kn, rfl⟩ := Int.eq_ofNat_of_zero_le hkb.1
     have hkl : kn < out.length := by omega
     rw [Int.toNat_natCast, rd51' out kn hkl]
     have hm := List.getElem_mem hkl
     refine turned_ok ix ss _ ⟨by rw [List.length_set]; exact h.1, fun f hf => ?_, fun f hf => ?_⟩ (fun x hx => hs x (by simp [hx])) (fun a b k hh => by rw [List.length_set]; exact hix a b k hh)
     ·rcases List.mem_or_eq_of_mem_set hf with hf | rfl
      ·exact h.2.1 f hf
      ·exact moreF_ok (h.2.1 _ hm) (hs s (by simp))
     ·rcases List.mem_or_eq_of_mem_set hf with hf | rfl
      ·exact h.2.2 f hf
      ·exact h.2.2 out[kn] hm
    ·exact h0
theorem turned51_ok {view : List S51} {slots : List S52} (h : viewOk view) (hs : ∀ s ∈ slots, maskOk s = true) : viewOk (turned51 moreE moreF view slots).1 :=
 turned_ok _ slots view h hs (fun a b k hh => ixS_bd view view.length a b k hh)
theorem more_eq {view : List S51} {slots : List S52} (h : viewOk view) (hs : ∀ s ∈ slots, (w64B s.f0.f0 && w64B s.f0.f1) = true) : pack_More.f view slots = some (turned51 moreE moreF view slots) := by
 unfold pack_More.f
 rw [if_pos]
 unfold spotsOk
 rw [decide_eq_true h.1, List.all_eq_true.2 h.2.2, List.all_eq_true.2 hs]; rfl
end Go.Proofs.Ytckhjehibjdjdaa.P
namespace Go.Proofs.Ytckhjehibjdjdaa.P
open Go.RowKit Go.Shelf Go.Proofs.YtckhjehibjdjdaaW.PrintWords Go.Proofs.YtckhjehibjdjdaaW.PrintLast Go.Proofs.YtckhjehibjdjdaaW.PrintMore
attribute [local go_sem] Oper.semAt_some
set_option linter.unusedVariables false
set_option linter.unusedSimpArgs false
theorem KP.under {w W W' : World} {S : Nat → Prop} (h : KP W W' S) (hb : Below w.heap.size w W) (hs : ∀ k, S k → w.heap.size ≤ k) : Below w.heap.size w W' :=
 ⟨h.os.trans hb.os, h.tape.trans hb.tape, h.output.trans hb.output, Nat.le_trans hb.size h.kept.1, fun k hk => (h.kept.2 k (Nat.lt_of_lt_of_le hk hb.size) (fun hh => by have := hs k hh; omega)).trans (hb.block k hk)⟩
theorem KP.trans {w W W' : World} {S : Nat → Prop} (h : KP w W S) (h' : KP W W' S) : KP w W' S :=
 ⟨⟨Nat.le_trans h.kept.1 h'.kept.1, fun i hi hs => (h'.kept.2 i (Nat.lt_of_lt_of_le hi h.kept.1) hs).trans (h.kept.2 i hi hs)⟩, h'.os.trans h.os, h'.tape.trans h.tape, h'.output.trans h.output⟩
set_option maxHeartbeats 8000000 in
set_option maxRecDepth 100000 in
theorem early_any (now : Int) (A1 : Option Addr) (c1 : Nat) (l1 : List S51) (lg lc : Int) (A3 : Option Addr) (c3 : Nat) (l3 : List S41) (q m g c mn mx : Int) (w : World) (hr1 : Kd.C k51 w A1 l1.length l1) (hc1 : l1.length ≤ c1) (hr3 : Kd.C k41 w A3 l3.length l3) (hc3 : l3.length ≤ c3)
  (hn : l3.length ≤ 20) (hv : viewOk l1) (hs : ∀ s ∈ l3.flatMap (fun h => h.f4), maskOk s = true ∧ (w64B s.f0.f0 && w64B s.f0.f1) = true) (hlen : (l3.flatMap fun h => h.f4).length < 4000000000) :
  Calls Try.prog 27 #[.int .i64 now, .slice A1 l1.length c1, .agg #[.int .i64 lg, .int .i64 lc], .slice A3 l3.length c3, .agg #[.int .i64 q, .int .i64 m, .int .i64 g, .int .i64 c, .int .i64 mn, .int .i64 mx]] w fun e w' => e = .returned (.tuple #[.int .i64 (earliestB now l1 lg lc l3 q m g c mn mx).1, .int .i64 (earliestB now l1 lg lc l3 q m g c mn mx).2]) ∧ Below w.heap.size w w' := by
 have hu22 := Try.underlying22
 have hu24 := Try.underlying24
 have hu25 := Try.underlying25
 have hu29 := Try.underlying29
 have hu41 := Try.underlying41
 have HR1 := Aside0.mk hr1
 have HR3 := Aside0.mk hr3
 have HC1 := Aside0.mk hc1
 have HC3 := Aside0.mk hc3
 have HN := Aside0.mk hn
 have HVO := Aside0.mk hv
 have HS := Aside0.mk hs
 have HLEN := Aside0.mk hlen
 have HRT := Aside0.mk (fun w => promise_right.calls q m g c mn mx _ w (right_eq q m g c mn mx))
 clear hr1 hr3 hc1 hc3 hn hv hs hlen
 by_cases hbad : now < 0 ∨ now > 1073741824 ∨ rightB m g c mn mx = false
 ·have HE : earliestB now l1 lg lc l3 q m g c mn mx = (0, 1) := by unfold earliestB; rw [if_pos hbad]
  rw [HE]
  clear HE
  have hRT0 := right_eq q m g c mn mx
  by_cases h0 : now < 0
  ·have d0 : decide (now < 0) = true := by simpa using h0
   clear h0 hbad hRT0
   go_enter Try.func27, Try.ntmps27
   go_wp2_with (first | ((with_reducible refine gate_dst (N := 6) rfl ?_); refine bx 6 #[.slice A1 l1.length c1] 22 ?_; intro gv hgv w1 hx1 hb1; have wgv : w.heap.size ≤ gv := (by omega); have hgv2 := blk_lt hx1; have HX1 := Aside0.mk hx1; have HB1 := Aside0.mk hb1; clear hx1 hb1) | ((with_reducible refine gate_dst (N := 7) rfl ?_); refine bx 7 #[.int .i64 lg, .int .i64 lc] 24 ?_; intro gl hgl w2 hx2 hb2; have wgl : w.heap.size ≤ gl := (by have := HB1.out.size; omega); have hgl2 := blk_lt hx2; have HX1b := Aside0.mk (blk_below HX1.out hb2); have HX2 := Aside0.mk hx2; have HB2 := Aside0.mk (below_step HB1.out hb2); have hs2 := hb2.size; have nvl : gv ≠ gl := (by omega); clear hx2 hb2) | ((with_reducible refine gate_dst (N := 9) rfl ?_); refine bx 9 #[.int .i64 q, .int .i64 m, .int .i64 g, .int .i64 c, .int .i64 mn, .int .i64 mx] 29 ?_; intro gw hgw w3 hx3 hb3; have HX1c := Aside0.mk (blk_below HX1b.out hb3); have HX2b := Aside0.mk (blk_below HX2.out hb3); have HX3 := Aside0.mk hx3; have HB3 := Aside0.mk (below_step HB2.out hb3); have nvw : gv ≠ gw := (by omega); have nlw : gl ≠ gw := (by omega); have f0 : w3.cell? ⟨gw, 0, none⟩ = some (.int .i64 q) := (blk_cell hx3 0).trans rfl; have f1 : w3.cell? ⟨gw, 1, none⟩ = some (.int .i64 m) := (blk_cell hx3 1).trans rfl; have f2 : w3.cell? ⟨gw, 2, none⟩ = some (.int .i64 g) := (blk_cell hx3 2).trans rfl; have f3 : w3.cell? ⟨gw, 3, none⟩ = some (.int .i64 c) := (blk_cell hx3 3).trans rfl; have f4 : w3.cell? ⟨gw, 4, none⟩ = some (.int .i64 mn) := (blk_cell hx3 4).trans rfl; have f5 : w3.cell? ⟨gw, 5, none⟩ = some (.int .i64 mx) := (blk_cell hx3 5).trans rfl; clear hx3 hb3 hgv hgl hgw hgv2 hgl2 hs2 HX1 HX1b HX2 HB1 HB2) | (go_at_call 68; refine (HRT.out _).mono ?_; rintro e w4 ⟨rfl, hb4⟩; have HX4v := Aside0.mk (blk_below HX1c.out hb4); have HX4l := Aside0.mk (blk_below HX2b.out hb4); have HX4w := Aside0.mk (blk_below HX3.out hb4); have HB4 := Aside0.mk (below_step HB3.out hb4); clear hb4 f0 f1 f2 f3 f4 f5 HX1c HX2b HX3 HB3))
   all_goals go_ret2
   all_goals exact ⟨rfl, HB3.out⟩
  ·have d0 : decide (now < 0) = false := by simpa using h0
   by_cases h1 : now > 1073741824
   ·have d1 : decide (1073741824 < now) = true := by simpa using h1
    clear h0 h1 hbad hRT0
    go_enter Try.func27, Try.ntmps27
    go_wp2_with (first | ((with_reducible refine gate_dst (N := 6) rfl ?_); refine bx 6 #[.slice A1 l1.length c1] 22 ?_; intro gv hgv w1 hx1 hb1; have wgv : w.heap.size ≤ gv := (by omega); have hgv2 := blk_lt hx1; have HX1 := Aside0.mk hx1; have HB1 := Aside0.mk hb1; clear hx1 hb1) | ((with_reducible refine gate_dst (N := 7) rfl ?_); refine bx 7 #[.int .i64 lg, .int .i64 lc] 24 ?_; intro gl hgl w2 hx2 hb2; have wgl : w.heap.size ≤ gl := (by have := HB1.out.size; omega); have hgl2 := blk_lt hx2; have HX1b := Aside0.mk (blk_below HX1.out hb2); have HX2 := Aside0.mk hx2; have HB2 := Aside0.mk (below_step HB1.out hb2); have hs2 := hb2.size; have nvl : gv ≠ gl := (by omega); clear hx2 hb2) | ((with_reducible refine gate_dst (N := 9) rfl ?_); refine bx 9 #[.int .i64 q, .int .i64 m, .int .i64 g, .int .i64 c, .int .i64 mn, .int .i64 mx] 29 ?_; intro gw hgw w3 hx3 hb3; have HX1c := Aside0.mk (blk_below HX1b.out hb3); have HX2b := Aside0.mk (blk_below HX2.out hb3); have HX3 := Aside0.mk hx3; have HB3 := Aside0.mk (below_step HB2.out hb3); have nvw : gv ≠ gw := (by omega); have nlw : gl ≠ gw := (by omega); have f0 : w3.cell? ⟨gw, 0, none⟩ = some (.int .i64 q) := (blk_cell hx3 0).trans rfl; have f1 : w3.cell? ⟨gw, 1, none⟩ = some (.int .i64 m) := (blk_cell hx3 1).trans rfl; have f2 : w3.cell? ⟨gw, 2, none⟩ = some (.int .i64 g) := (blk_cell hx3 2).trans rfl; have f3 : w3.cell? ⟨gw, 3, none⟩ = some (.int .i64 c) := (blk_cell hx3 3).trans rfl; have f4 : w3.cell? ⟨gw, 4, none⟩ = some (.int .i64 mn) := (blk_cell hx3 4).trans rfl; have f5 : w3.cell? ⟨gw, 5, none⟩ = some (.int .i64 mx) := (blk_cell hx3 5).trans rfl; clear hx3 hb3 hgv hgl hgw hgv2 hgl2 hs2 HX1 HX1b HX2 HB1 HB2) | (go_at_call 68; refine (HRT.out _).mono ?_; rintro e w4 ⟨rfl, hb4⟩; have HX4v := Aside0.mk (blk_below HX1c.out hb4); have HX4l := Aside0.mk (blk_below HX2b.out hb4); have HX4w := Aside0.mk (blk_below HX3.out hb4); have HB4 := Aside0.mk (below_step HB3.out hb4); clear hb4 f0 f1 f2 f3 f4 f5 HX1c HX2b HX3 HB3))
    all_goals go_ret2
    all_goals exact ⟨rfl, HB3.out⟩
   ·have d1 : decide (1073741824 < now) = false := by simpa using h1
    have hr : rightB m g c mn mx = false := by
     rcases hbad with h | h | h
     ·exact absurd h h0
     ·exact absurd h h1
     ·exact h
    rw [hr] at HRT
    clear h0 h1 hbad hRT0 hr
    go_enter Try.func27, Try.ntmps27
    go_wp2_with (first | ((with_reducible refine gate_dst (N := 6) rfl ?_); refine bx 6 #[.slice A1 l1.length c1] 22 ?_; intro gv hgv w1 hx1 hb1; have wgv : w.heap.size ≤ gv := (by omega); have hgv2 := blk_lt hx1; have HX1 := Aside0.mk hx1; have HB1 := Aside0.mk hb1; clear hx1 hb1) | ((with_reducible refine gate_dst (N := 7) rfl ?_); refine bx 7 #[.int .i64 lg, .int .i64 lc] 24 ?_; intro gl hgl w2 hx2 hb2; have wgl : w.heap.size ≤ gl := (by have := HB1.out.size; omega); have hgl2 := blk_lt hx2; have HX1b := Aside0.mk (blk_below HX1.out hb2); have HX2 := Aside0.mk hx2; have HB2 := Aside0.mk (below_step HB1.out hb2); have hs2 := hb2.size; have nvl : gv ≠ gl := (by omega); clear hx2 hb2) | ((with_reducible refine gate_dst (N := 9) rfl ?_); refine bx 9 #[.int .i64 q, .int .i64 m, .int .i64 g, .int .i64 c, .int .i64 mn, .int .i64 mx] 29 ?_; intro gw hgw w3 hx3 hb3; have HX1c := Aside0.mk (blk_below HX1b.out hb3); have HX2b := Aside0.mk (blk_below HX2.out hb3); have HX3 := Aside0.mk hx3; have HB3 := Aside0.mk (below_step HB2.out hb3); have nvw : gv ≠ gw := (by omega); have nlw : gl ≠ gw := (by omega); have f0 : w3.cell? ⟨gw, 0, none⟩ = some (.int .i64 q) := (blk_cell hx3 0).trans rfl; have f1 : w3.cell? ⟨gw, 1, none⟩ = some (.int .i64 m) := (blk_cell hx3 1).trans rfl; have f2 : w3.cell? ⟨gw, 2, none⟩ = some (.int .i64 g) := (blk_cell hx3 2).trans rfl; have f3 : w3.cell? ⟨gw, 3, none⟩ = some (.int .i64 c) := (blk_cell hx3 3).trans rfl; have f4 : w3.cell? ⟨gw, 4, none⟩ = some (.int .i64 mn) := (blk_cell hx3 4).trans rfl; have f5 : w3.cell? ⟨gw, 5, none⟩ = some (.int .i64 mx) := (blk_cell hx3 5).trans rfl; clear hx3 hb3 hgv hgl hgw hgv2 hgl2 hs2 HX1 HX1b HX2 HB1 HB2) | (go_at_call 68; refine (HRT.out _).mono ?_; rintro e w4 ⟨rfl, hb4⟩; have HX4v := Aside0.mk (blk_below HX1c.out hb4); have HX4l := Aside0.mk (blk_below HX2b.out hb4); have HX4w := Aside0.mk (blk_below HX3.out hb4); have HB4 := Aside0.mk (below_step HB3.out hb4); clear hb4 f0 f1 f2 f3 f4 f5 HX1c HX2b HX3 HB3))
    all_goals go_ret2
    all_goals exact ⟨rfl, HB4.out⟩
 ·have hn0 : ¬ now < 0 := fun h => hbad (.inl h)
  have hn1 : ¬ now > 1073741824 := fun h => hbad (.inr (.inl h))
  have hrt : rightB m g c mn mx = true := by
   cases h : rightB m g c mn mx with
   | true => rfl
   | false => exact absurd (.inr (.inr h)) hbad
  have HE : earliestB now l1 lg lc l3 q m g c mn mx = (if (turned51 moreE moreF l1 (l3.flatMap fun h => h.f4)).2 ≠ 0 then (0, (turned51 moreE moreF l1 (l3.flatMap fun h => h.f4)).2)
   else (goE q m g c mn mx (isort skey41 l3) now l1 (lg, lc), 0)) := by unfold earliestB; rw [if_neg hbad]
  rw [HE]
  rw [hrt] at HRT
  have hm0 := more_eq HVO.out (fun s hs => (HS.out s hs).2)
  have ha0 := all_eq (l3.length + 1) l3 (Nat.le_refl _) (by have := HN.out; omega) (by have := HLEN.out; omega)
  generalize hall : l3.flatMap (fun h => h.f4) = al at *
  generalize hmr : turned51 moreE moreF l1 al = mr at *
  obtain ⟨mv, me⟩ := mr
  have HM := Aside0.mk hm0
  have HA := Aside0.mk ha0
  have HALL := Aside0.mk hall
  clear hm0 ha0 hmr hall
  obtain ⟨ps, hmap, hpC, hsl⟩ := holds_of HR3.out
  have hpl : ps.length = l3.length := by rw [← hmap, List.length_map]
  have hsm : (isort hkey ps).map (fun x => x.1) = isort skey41 l3 := by
   have := isort_map skey41 (fun x : HV => x.1) ps []
   rw [hmap] at this
   exact this
  have HMAP := Aside0.mk hmap
  have HPC := Aside0.mk hpC
  have HSL := Aside0.mk hsl
  have HPL := Aside0.mk hpl
  have hwl : wrap64 ((ps.length : Int) + 1) = (ps.length : Int) + 1 := w_id (by have := HN.out; omega)
  rw [← hsm]
  have hperm := isort_perm hkey ps
  obtain ⟨SP, hSP⟩ : ∃ SP, isort hkey ps = SP := ⟨_, rfl⟩
  rw [hSP] at hperm ⊢
  have HSPE := Aside0.mk hSP
  have HPERM := Aside0.mk hperm
  clear hmap hpC hsl hpl hsm hSP hperm
  have d0 : decide (now < 0) = false := by simpa using hn0
  have d1 : decide (1073741824 < now) = false := by simpa using hn1
  clear HE hbad hrt hn0 hn1
  go_enter Try.func27, Try.ntmps27
  go_wp2_with (first | ((with_reducible refine gate_dst (N := 6) rfl ?_); refine bx 6 #[.slice A1 l1.length c1] 22 ?_; intro gv hgv w1 hx1 hb1; have wgv : w.heap.size ≤ gv := (by omega); have hgv2 := blk_lt hx1; have HX1 := Aside0.mk hx1; have HB1 := Aside0.mk hb1; clear hx1 hb1) | ((with_reducible refine gate_dst (N := 7) rfl ?_); refine bx 7 #[.int .i64 lg, .int .i64 lc] 24 ?_; intro gl hgl w2 hx2 hb2; have wgl : w.heap.size ≤ gl := (by have := HB1.out.size; omega); have hgl2 := blk_lt hx2; have HX1b := Aside0.mk (blk_below HX1.out hb2); have HX2 := Aside0.mk hx2; have HB2 := Aside0.mk (below_step HB1.out hb2); have hs2 := hb2.size; have nvl : gv ≠ gl := (by omega); clear hx2 hb2) | ((with_reducible refine gate_dst (N := 9) rfl ?_); refine bx 9 #[.int .i64 q, .int .i64 m, .int .i64 g, .int .i64 c, .int .i64 mn, .int .i64 mx] 29 ?_; intro gw hgw w3 hx3 hb3; have HX1c := Aside0.mk (blk_below HX1b.out hb3); have HX2b := Aside0.mk (blk_below HX2.out hb3); have HX3 := Aside0.mk hx3; have HB3 := Aside0.mk (below_step HB2.out hb3); have nvw : gv ≠ gw := (by omega); have nlw : gl ≠ gw := (by omega); have f0 : w3.cell? ⟨gw, 0, none⟩ = some (.int .i64 q) := (blk_cell hx3 0).trans rfl; have f1 : w3.cell? ⟨gw, 1, none⟩ = some (.int .i64 m) := (blk_cell hx3 1).trans rfl; have f2 : w3.cell? ⟨gw, 2, none⟩ = some (.int .i64 g) := (blk_cell hx3 2).trans rfl; have f3 : w3.cell? ⟨gw, 3, none⟩ = some (.int .i64 c) := (blk_cell hx3 3).trans rfl; have f4 : w3.cell? ⟨gw, 4, none⟩ = some (.int .i64 mn) := (blk_cell hx3 4).trans rfl; have f5 : w3.cell? ⟨gw, 5, none⟩ = some (.int .i64 mx) := (blk_cell hx3 5).trans rfl; clear hx3 hb3 hgv hgl hgw hgv2 hgl2 hs2 HX1 HX1b HX2 HB1 HB2) | (go_at_call 68; refine (HRT.out _).mono ?_; rintro e w4 ⟨rfl, hb4⟩; have HX4v := Aside0.mk (blk_below HX1c.out hb4); have HX4l := Aside0.mk (blk_below HX2b.out hb4); have HX4w := Aside0.mk (blk_below HX3.out hb4); have HB4 := Aside0.mk (below_step HB3.out hb4); clear hb4 f0 f1 f2 f3 f4 f5 HX1c HX2b HX3 HB3))
  have k4 : w4.cell? ⟨gv, 0, none⟩ = some (.slice A1 l1.length c1) := (blk_cell HX4v.out 0).trans rfl
  go_region_held3 (fun w' => w'.cell? ⟨gv, 0, none⟩ = some (.slice A1 l1.length c1)) (first | exact k4 | assumption) (first | (go_at_call 69; refine (promise_all.calls (l3.length + 1) A3 c3 l3 _ _ (Kd.C_below HR3.out (below_drew1 HB4.out)) HC3.out HA.out).mono ?_; rintro e w5 ⟨v5, rfl, ho5, hb5⟩; obtain ⟨A5, c5, rfl, hc5, hr5⟩ := Kd.R_reads ho5; have k5 : w5.cell? ⟨gv, 0, none⟩ = some (.slice A1 l1.length c1) := pw_cell_below hb5 k4; have HB5 := Aside0.mk (below_step (below_drew1 (Below.refl w4.heap.size w4)) hb5); have HR5 := Aside0.mk (And.intro hc5 hr5); clear ho5 hb5 hc5 hr5) | (go_at_call 52; refine (pack_More.calls A1 c1 l1 A5 c5 al mv me _ (Kd.C_below HR1.out (below_step HB4.out HB5.out)) HC1.out HR5.out.2 HR5.out.1 HM.out).mono ?_; rintro e w6 ⟨v6, rfl, ho6, hb6⟩; have k6 : w6.cell? ⟨gv, 0, none⟩ = some (.slice A1 l1.length c1) := pw_cell_below hb6 k5; have HB6 := Aside0.mk (below_step HB5.out hb6); clear ho6 hb6))
  clear k4 k5 k6
  by_cases hme : me = 0
  ·subst hme
   go_wp2_with (first | (go_at_call 70; refine (clone70_n A3 c3 l3.length ps _ HPL.out (Kd.C_below HPC.out (below_step HB4.out HB6.out)) (by have := HPL.out; have := HN.out; omega)).mono ?_; rintro e w7 ⟨v7, rfl, ho7, hb7⟩; obtain ⟨A7, c7, rfl, hc7, _⟩ := Kd.R_reads ho7; have HO7 := Aside0.mk ho7; have HB7 := Aside0.mk hb7; clear ho7 hb7 hc7) | (go_at_call 71; refine (sort_n A7 ps.length c7 w6.heap.size ps _ HO7.out (by have := HPL.out; have := HN.out; omega)).mono ?_; rintro e w8 ⟨rfl, ho8, hg8⟩; rw [HSPE.out] at ho8; have HO8 := Aside0.mk ho8; have HG8 := Aside0.mk hg8; clear ho8 hg8))
   have hB6 := below_step HB4.out HB6.out
   have hB7 := below_step hB6 HB7.out
   have hbb := blkOf_base HO7.out HB7.out.size
   have hs46 := HB6.out.size
   have gv4 := blk_lt HX4v.out
   have gl4 := blk_lt HX4l.out
   have gw4 := blk_lt HX4w.out
   have hB8 : Below w.heap.size w w8 := hB7.grown HG8.out hB7.size (fun k e => by cases e; have := HB4.out.size; omega)
   have hmv : ∀ k, k < w4.heap.size → w8.heap[k]? = w4.heap[k]? := fun k hk => by
    rw [HG8.out.block k (by have := HB7.out.size; omega) (fun e => by cases e; omega), HB7.out.block k (by omega), HB6.out.block k hk]
   have HXv := Aside0.mk ((hmv gv gv4).trans HX4v.out)
   have HXl := Aside0.mk ((hmv gl gl4).trans HX4l.out)
   have HXw := Aside0.mk ((hmv gw gw4).trans HX4w.out)
   have HFv := Aside0.mk (Kd.F_mono (ok' := fun k => k ≠ gv ∧ k ≠ gl) (Foot.step (Kd.C_F k51_heap HR1.out) (fun k hk _ => hB8.block k hk)) (fun k hk => ⟨by omega, by omega⟩))
   have HSO := Aside0.mk (fun (x : HV) (hx : x ∈ SP) => (show SlotsOk w8 (fun k => k ≠ gv ∧ k ≠ gl) x from
    let h0 := HSL.out x (HPERM.out.mem_iff.1 hx)
    ⟨h0.1, h0.2.1, Kd.F_mono (Foot.step h0.2.2 (fun k hk _ => hB8.block k hk)) (fun k hk => ⟨by omega, by omega⟩)⟩))
   have HMK := Aside0.mk (fun (x : HV) (hx : x ∈ SP) (s : S52) (hs : s ∈ x.1.f4) => HS.out s (by
    rw [← HALL.out]
    refine List.mem_flatMap.2 ⟨x.1, ?_, hs⟩
    rw [← HMAP.out]
    exact List.mem_map.2 ⟨x, HPERM.out.mem_iff.1 hx, rfl⟩))
   have HLS := Aside0.mk (HPERM.out.length_eq)
   have HPN := Aside0.mk (show ps.length ≤ 20 by have := HPL.out; have := HN.out; omega)
   have HB8 := Aside0.mk hB8
   have HBS := Aside0.mk (show gv < w6.heap.size ∧ gl < w6.heap.size ∧ gw < w6.heap.size by omega)
   clear hB6 hB7 hbb hs46 gv4 gl4 gw4 hB8 hmv HO7 HB7 HG8 HX4v HX4l HX4w
   rw [hwl]
   go_loopw [48, 16] (fun v48 v16 wr => ∃ (k : Nat) (t : Int) (view : List S51) (left : Int × Int) (Av : Option Addr) (cv : Nat), k ≤ SP.length ∧ v48 = .int .i64 (k : Int) ∧ v16 = .int .i64 t ∧
    Aside0 (goE q m g c mn mx (SP.map (fun x => x.1)) now l1 (lg, lc) = goE q m g c mn mx ((SP.drop k).map (fun x => x.1)) t view left) ∧
    Aside0 (wr.heap[gv]? = some (.cells #[.slice Av view.length cv] 22 (0, 0))) ∧ Aside0 (wr.heap[gl]? = some (.cells #[.int .i64 left.1, .int .i64 left.2] 24 (0, 0))) ∧ Aside0 (wr.heap[gw]? = some (.cells #[.int .i64 q, .int .i64 m, .int .i64 g, .int .i64 c, .int .i64 mn, .int .i64 mx] 29 (0, 0))) ∧
    Aside0 (Kd.F k51 wr (fun k => k ≠ gv ∧ k ≠ gl) Av view.length view) ∧ Aside0 (view.length ≤ cv) ∧ Aside0 (viewOk view) ∧ Aside0 (∀ x ∈ SP, SlotsOk wr (fun k => k ≠ gv ∧ k ≠ gl) x) ∧
    Aside0 (Kd.R kh 41 wr w6.heap.size (fun k => w6.heap.size ≤ k) (.slice A7 ps.length c7) SP) ∧ Aside0 (Below w.heap.size w wr)) (fun v48 _ _ => SP.length + 1 - (intOf v48).toNat)
   case atStart => exact ⟨0, now, l1, (lg, lc), A1, c1, Nat.zero_le _, rfl, rfl, ⟨rfl⟩, HXv, HXl, HXw, HFv, HC1, HVO, HSO, ⟨Kd.R_mono HO8.out (fun _ hk => hk.1)⟩, HB8⟩
   case round =>
    clear HXv HXl HXw HFv HSO HO8 HB8
    obtain ⟨k, t, view, ⟨lg', lc'⟩, Av, cv, hk, rfl, rfl, HG, HXV, HXL, HXW, HFV, HCV, HVW, HSP, HRW, HBW⟩ := hrel
    have hspl : SP.length = ps.length := HLS.out
    have hpn := HPN.out
    have HFit := fits_eq (view.length + 1) view lg' lc' q m g c mn mx (Nat.le_refl _) (by have := HVW.out.1; omega) HVW.out.2.1
    have HCF := Aside0.mk (promise_Fits.calls (view.length + 1) Av cv view lg' lc' q m g c mn mx _ wr (Kd.F_now HFV.out) HCV.out HFit)
    have fv : wr.cell? ⟨gv, 0, none⟩ = some (.slice Av view.length cv) := (blk_cell HXV.out 0).trans rfl
    have fl0 : wr.cell? ⟨gl, 0, none⟩ = some (.int .i64 lg') := (blk_cell HXL.out 0).trans rfl
    have fl1 : wr.cell? ⟨gl, 1, none⟩ = some (.int .i64 lc') := (blk_cell HXL.out 1).trans rfl
    have fw0 : wr.cell? ⟨gw, 0, none⟩ = some (.int .i64 q) := (blk_cell HXW.out 0).trans rfl
    have fw1 : wr.cell? ⟨gw, 1, none⟩ = some (.int .i64 m) := (blk_cell HXW.out 1).trans rfl
    have fw2 : wr.cell? ⟨gw, 2, none⟩ = some (.int .i64 g) := (blk_cell HXW.out 2).trans rfl
    have fw3 : wr.cell? ⟨gw, 3, none⟩ = some (.int .i64 c) := (blk_cell HXW.out 3).trans rfl
    have fw4 : wr.cell? ⟨gw, 4, none⟩ = some (.int .i64 mn) := (blk_cell HXW.out 4).trans rfl
    have fw5 : wr.cell? ⟨gw, 5, none⟩ = some (.int .i64 mx) := (blk_cell HXW.out 5).trans rfl
    clear HFit
    by_cases hkn : k = SP.length
    ·have h1 : (k : Int) < (ps.length : Int) + 1 := by omega
     have h2 : ((k : Int) == (ps.length : Int)) = true := by simp; omega
     rw [List.drop_eq_nil_of_le (by omega)] at HG
     simp only [List.map_nil, goE] at HG
     cases hf : fitsB view lg' lc' m g c mn mx with
     | true =>
      rw [hf] at HCF
      rw [hf, if_pos rfl] at HG
      clear hf hkn
      go_wp2_with (go_at_call 29; refine HCF.out.mono ?_; rintro e w9 ⟨rfl, hb9⟩; have HB9 := Aside0.mk (below_step HBW.out hb9); clear hb9)
      all_goals go_ret2
      all_goals exact ⟨by rw [HG.out]; rfl, HB9.out⟩
     | false =>
      rw [hf] at HCF
      rw [hf, if_neg (by decide)] at HG
      clear hf hkn
      go_wp2_with (go_at_call 29; refine HCF.out.mono ?_; rintro e w9 ⟨rfl, hb9⟩; have HB9 := Aside0.mk (below_step HBW.out hb9); clear hb9)
      all_goals go_ret2
      all_goals exact ⟨by rw [HG.out]; rfl, HB9.out⟩
    ·have hkl : k < SP.length := by omega
     have h1 : (k : Int) < (ps.length : Int) + 1 := by omega
     have h2 : ((k : Int) == (ps.length : Int)) = false := by simp; omega
     have h3 : (k : Int) < (ps.length : Int) := by omega
     have h4 : (0 : Int) ≤ (k : Int) := by omega
     obtain ⟨g7, cap7, cur7, hv7, hok7, _, hh7⟩ := ownh HRW.out (by omega)
     injection hv7 with ha7 hn7 hc7
     subst ha7
     clear hn7 hc7
     have hget := List.getElem?_eq_getElem hkl
     obtain ⟨y0, y1, y2, y3, y4⟩ := at_kh HRW.out k SP[k] hget
     have hSx := HSP.out SP[k] (List.getElem_mem hkl)
     have hMx := HMK.out SP[k] (List.getElem_mem hkl)
     rw [List.drop_eq_getElem_cons hkl, List.map_cons, goE] at HG
     generalize SP[k] = x at *
     have HSX := Aside0.mk hSx
     have HMX := Aside0.mk hMx
     clear hget hSx hMx hkn
     have hmv1 := more_eq HVW.out (fun s hs => (HMX.out s hs).2)
     have hvok := turned51_ok HVW.out (fun s hs => (HMX.out s hs).1)
     generalize turned51 moreE moreF view x.1.f4 = mr2 at *
     obtain ⟨v2, e2⟩ := mr2
     have HMV := Aside0.mk hmv1
     have HVOK := Aside0.mk hvok
     clear hmv1 hvok
     have hwk : ∀ k, (k = gv ∨ k = gl) → w.heap.size ≤ k := fun k hk => by rcases hk with rfl | rfl <;> omega
     by_cases hgt : x.1.f2 > t
     ·have b3 : decide (t < x.1.f2) = true := by simpa using hgt
      rw [if_pos hgt] at HG
      clear hgt
      cases hf : fitsB view lg' lc' m g c mn mx with
      | true =>
       rw [hf] at HCF
       rw [hf, if_pos rfl] at HG
       clear hf
       go_wp2_with (go_at_call 29; refine HCF.out.mono ?_; rintro e w9 ⟨rfl, hb9⟩; have HB9 := Aside0.mk (below_step HBW.out hb9); clear hb9)
       all_goals go_ret2
       all_goals exact ⟨by rw [HG.out]; rfl, HB9.out⟩
      | false =>
       rw [hf] at HCF
       rw [hf, if_neg (by decide)] at HG
       clear hf
       by_cases hge : x.1.f2 ≥ 1073741825
       ·have b4 : decide ((1073741825 : Int) ≤ x.1.f2) = true := by simpa using hge
        rw [if_pos hge] at HG
        clear hge
        go_wp2_with (go_at_call 29; refine HCF.out.mono ?_; rintro e w9 ⟨rfl, hb9⟩; have z2 := pw_cell_below hb9 y2; have HB9 := Aside0.mk (below_step HBW.out hb9); clear hb9)
        all_goals go_ret2
        all_goals exact ⟨by rw [HG.out]; rfl, HB9.out⟩
       ·have b4 : decide ((1073741825 : Int) ≤ x.1.f2) = false := by simpa using hge
        rw [if_neg hge] at HG
        clear hge
        go_wp2_with (first | (go_at_call 29; refine HCF.out.mono ?_; rintro e w8b ⟨rfl, hb8⟩; have z0 := pw_cell_below hb8 y0; have z1 := pw_cell_below hb8 y1; have z2 := pw_cell_below hb8 y2; have z3 := pw_cell_below hb8 y3; have z4 := pw_cell_below hb8 y4; have HK8 := Aside0.mk (KP.below (KP.refl wr (fun k => k = gv ∨ k = gl)) hb8); have HXV8 := Aside0.mk (blk_below HXV.out hb8); have HXW8 := Aside0.mk (blk_below HXW.out hb8); have HXL8 := Aside0.mk (blk_below HXL.out hb8); have HFV8 := Aside0.mk (Kd.F_below HFV.out hb8); have HSX8 := Aside0.mk (show SlotsOk w8b (fun k => k ≠ gv ∧ k ≠ gl) x from ⟨HSX.out.1, HSX.out.2.1, Kd.F_below HSX.out.2.2 hb8⟩); clear hb8) | (go_at_call 74; refine (end_any gv gw gl x view Av cv q m g c mn mx lg' lc' v2 e2 w8b HXV8.out HXW8.out HXL8.out nvw nvl (fun e => nlw e.symm) HFV8.out HCV.out HSX8.out (fun s hs => (HMX.out s hs).1) HMV.out).mono ?_; rintro e w9 ⟨rfl, hk9, ⟨A9, c9, hv9, hc9, hf9⟩, hl9⟩; have HK9b := Aside0.mk hk9; have HV9 := Aside0.mk hv9; have HC9 := Aside0.mk hc9; have HF9 := Aside0.mk hf9; have HL9 := Aside0.mk hl9; clear hk9 hv9 hc9 hf9 hl9))
        have HK9 := Aside0.mk (HK8.out.trans HK9b.out)
        have HB9 := Aside0.mk (HK9.out.under HBW.out hwk)
        have HW9 := Aside0.mk (blk_kept HXW.out HK9.out.kept (fun h => by rcases h with h | h; exact nvw h.symm; exact nlw h.symm))
        have HS9 := Aside0.mk (fun (z : HV) (hz : z ∈ SP) => (show SlotsOk w9 (fun k => k ≠ gv ∧ k ≠ gl) z from ⟨(HSP.out z hz).1, (HSP.out z hz).2.1, Kd.F_kept (HSP.out z hz).2.2 HK9.out.kept (fun k hk hs => by rcases hs with h | h; exact hk.1 h; exact hk.2 h)⟩))
        have HR9 := Aside0.mk (Kd.R_kept HRW.out HK9.out.kept (fun k hk hs => by have := HBS.out; rcases hs with h | h <;> omega))
        go_roundw
        case rel => exact ⟨k + 1, x.1.f2, v2, _, A9, c9, by omega, by go_num, rfl, HG, HV9, HL9, HW9, HF9, HC9, HVOK, HS9, HR9, HB9⟩
        case measure => simp [intOf]; omega
     ·have b3 : decide (t < x.1.f2) = false := by simpa using hgt
      rw [if_neg hgt] at HG
      clear hgt
      go_wp2_with (first | (go_at_call 74; refine (end_any gv gw gl x view Av cv q m g c mn mx lg' lc' v2 e2 wr HXV.out HXW.out HXL.out nvw nvl (fun e => nlw e.symm) HFV.out HCV.out HSX.out (fun s hs => (HMX.out s hs).1) HMV.out).mono ?_; rintro e w9 ⟨rfl, hk9, ⟨A9, c9, hv9, hc9, hf9⟩, hl9⟩; have HK9 := Aside0.mk hk9; have HV9 := Aside0.mk hv9; have HC9 := Aside0.mk hc9; have HF9 := Aside0.mk hf9; have HL9 := Aside0.mk hl9; clear hk9 hv9 hc9 hf9 hl9))
      have HB9 := Aside0.mk (HK9.out.under HBW.out hwk)
      have HW9 := Aside0.mk (blk_kept HXW.out HK9.out.kept (fun h => by rcases h with h | h; exact nvw h.symm; exact nlw h.symm))
      have HS9 := Aside0.mk (fun (z : HV) (hz : z ∈ SP) => (show SlotsOk w9 (fun k => k ≠ gv ∧ k ≠ gl) z from ⟨(HSP.out z hz).1, (HSP.out z hz).2.1, Kd.F_kept (HSP.out z hz).2.2 HK9.out.kept (fun k hk hs => by rcases hs with h | h; exact hk.1 h; exact hk.2 h)⟩))
      have HR9 := Aside0.mk (Kd.R_kept HRW.out HK9.out.kept (fun k hk hs => by have := HBS.out; rcases hs with h | h <;> omega))
      go_roundw
      case rel => exact ⟨k + 1, t, v2, _, A9, c9, by omega, by go_num, rfl, HG, HV9, HL9, HW9, HF9, HC9, HVOK, HS9, HR9, HB9⟩
      case measure => simp [intOf]; omega
  ·have bme : (me == 0) = false := by simpa using hme
   go_wp2
   go_ret2
   exact ⟨by simp [hme], below_step HB4.out HB6.out⟩
theorem okE_out {view : List S51} {ends : List S41} (h : okE view ends = true) : ends.length ≤ 20 ∧ viewOk view ∧ (∀ s ∈ ends.flatMap (fun h => h.f4), maskOk s = true ∧ (w64B s.f0.f0 && w64B s.f0.f1) = true) ∧ (ends.flatMap fun h => h.f4).length < 4000000000 := by
 unfold okE spotsOk at h
 rw [Bool.and_eq_true, Bool.and_eq_true, Bool.and_eq_true, Bool.and_eq_true, Bool.and_eq_true, Bool.and_eq_true] at h
 obtain ⟨⟨⟨⟨h1, ⟨h2, h3⟩, h4⟩, h5⟩, h6⟩, h7⟩ := h
 exact ⟨of_decide_eq_true h1, ⟨of_decide_eq_true h2, fun f hf => List.all_eq_true.1 h5 f hf, fun f hf => List.all_eq_true.1 h3 f hf⟩, fun s hs => ⟨List.all_eq_true.1 h6 s hs, List.all_eq_true.1 h4 s hs⟩, of_decide_eq_true h7⟩
theorem promise_Earliest.calls (a0 : Int) (A1 : Option Addr) (c1 : Nat) (l1 : List (S51)) (a2_0 : Int) (a2_1 : Int) (A3 : Option Addr) (c3 : Nat) (l3 : List (S41)) (a4_0 : Int) (a4_1 : Int) (a4_2 : Int) (a4_3 : Int) (a4_4 : Int) (a4_5 : Int) (r1 : Int) (r2 : Int) (w : World) (hr1 : Kd.C k51 w A1 l1.length l1) (hc1 : l1.length ≤ c1) (hr3 : Kd.C k41 w A3 l3.length l3) (hc3 : l3.length ≤ c3) (h : promise_Earliest.f a0 l1 a2_0 a2_1 l3 a4_0 a4_1 a4_2 a4_3 a4_4 a4_5 = some (r1, r2)) :
  Calls Try.prog 27 #[.int .i64 a0, .slice A1 l1.length c1, .agg #[.int .i64 a2_0, .int .i64 a2_1], .slice A3 l3.length c3, .agg #[.int .i64 a4_0, .int .i64 a4_1, .int .i64 a4_2, .int .i64 a4_3, .int .i64 a4_4, .int .i64 a4_5]] w fun e w' => e = .returned (.tuple #[.int .i64 r1, .int .i64 r2]) ∧ Below w.heap.size w w' := by
 unfold promise_Earliest.f at h
 by_cases ho : okE l1 l3 = true
 ·rw [if_pos ho] at h
  obtain ⟨h1, h2, h3, h4⟩ := okE_out ho
  have e := Option.some.inj h
  have e1 : r1 = (earliestB a0 l1 a2_0 a2_1 l3 a4_0 a4_1 a4_2 a4_3 a4_4 a4_5).1 := by rw [e]
  have e2 : r2 = (earliestB a0 l1 a2_0 a2_1 l3 a4_0 a4_1 a4_2 a4_3 a4_4 a4_5).2 := by rw [e]
  rw [e1, e2]
  exact early_any a0 A1 c1 l1 a2_0 a2_1 A3 c3 l3 a4_0 a4_1 a4_2 a4_3 a4_4 a4_5 w hr1 hc1 hr3 hc3 h1 h2 h3 h4
 ·rw [if_neg ho] at h; cases h
end Go.Proofs.Ytckhjehibjdjdaa.P
namespace Go.Proofs.Ytckhjehibjdjdaa.P
open Go.RowKit Go.Proofs.YtckhjehibjdjdaaW.PrintWords Go.Proofs.YtckhjehibjdjdaaW.PrintLast Go.Proofs.YtckhjehibjdjdaaW.PrintMore
attribute [local go_sem] max2_int min2_int max_two min_two max_three min_three max_four min_four
set_option linter.unusedVariables false
set_option linter.unusedSimpArgs false
def ensemblelaw12_awake.f  : Option (Bool) := (some (([(⟨0, 0, 7, false, (([(⟨(⟨0, 0⟩ : S48), 14, 0⟩ : S52)] : List (S52)))⟩ : S41)] : List (S41)) : List (S41))).bind fun y105 => ((promise_Earliest.f 3 (([(⟨(⟨0, 0⟩ : S48), 1, 0⟩ : S51)] : List (S51))) 9 0 y105 0 2 1 0 1 2).bind fun bt111 => ((promise_Earliest.f 3 (([(⟨(⟨0, 0⟩ : S48), 1, 0⟩ : S51)] : List (S51))) 9 0 y105 0 1 1 0 1 2).bind fun bt116 => (if bt111.1 = 7 then (if bt116.1 = 3 then (if bt111.2 = 0 then (some (bt116.2 == 0)) else (some false)) else (some false)) else (some false))))
set_option maxHeartbeats 8000000 in
set_option maxRecDepth 100000 in
theorem ensemblelaw12_awake.calls  (r : Bool) (w : World) (h : ensemblelaw12_awake.f  = some r) :
  Calls Try.prog 25 #[] w fun e w' => e = .returned (.bool r) ∧ Below w.heap.size w w' := by
 have hu27 := Try.underlying27
 have hu29 := Try.underlying29
 have hu52 := Try.underlying52
 have hu41 := Try.underlying41
 have hu51 := Try.underlying51
 have hu24 := Try.underlying24
 have HB := Aside0.mk (Below.refl w.heap.size w)
 have H : ((some (([(⟨0, 0, 7, false, (([(⟨(⟨0, 0⟩ : S48), 14, 0⟩ : S52)] : List (S52)))⟩ : S41)] : List (S41)) : List (S41))).bind fun y105 => ((promise_Earliest.f 3 (([(⟨(⟨0, 0⟩ : S48), 1, 0⟩ : S51)] : List (S51))) 9 0 y105 0 2 1 0 1 2).bind fun bt111 => ((promise_Earliest.f 3 (([(⟨(⟨0, 0⟩ : S48), 1, 0⟩ : S51)] : List (S51))) 9 0 y105 0 1 1 0 1 2).bind fun bt116 => (if bt111.1 = 7 then (if bt116.1 = 3 then (if bt111.2 = 0 then (some (bt116.2 == 0)) else (some false)) else (some false)) else (some false))))) = some r := h
 clear h
 obtain ⟨y102, hy102⟩ : ∃ y_ : List (S52), y_ = (([(⟨(⟨0, 0⟩ : S48), 14, 0⟩ : S52)] : List (S52))) := ⟨_, rfl⟩
 replace H : ((some (([(⟨0, 0, 7, false, y102⟩ : S41)] : List (S41)) : List (S41))).bind fun y105 => ((promise_Earliest.f 3 (([(⟨(⟨0, 0⟩ : S48), 1, 0⟩ : S51)] : List (S51))) 9 0 y105 0 2 1 0 1 2).bind fun bt111 => ((promise_Earliest.f 3 (([(⟨(⟨0, 0⟩ : S48), 1, 0⟩ : S51)] : List (S51))) 9 0 y105 0 1 1 0 1 2).bind fun bt116 => (if bt111.1 = 7 then (if bt116.1 = 3 then (if bt111.2 = 0 then (some (bt116.2 == 0)) else (some false)) else (some false)) else (some false))))) = some r := by first | (rw [hy102]; with_reducible exact H) | (have H2_ := (Option.bind_some _ _).symm.trans H; rw [hy102]; with_reducible exact H2_) | (have H2_ := (Option.bind_some _ _).symm.trans H; with_reducible exact H2_) | with_reducible exact H | (rw [hy102]; exact H) | exact H
 have Ny102 := Aside0.mk hy102
 clear hy102
 obtain ⟨y105, hy105⟩ : ∃ y_ : List (S41), y_ = (([(⟨0, 0, 7, false, y102⟩ : S41)] : List (S41))) := ⟨_, rfl⟩
 replace H : ((promise_Earliest.f 3 (([(⟨(⟨0, 0⟩ : S48), 1, 0⟩ : S51)] : List (S51))) 9 0 y105 0 2 1 0 1 2).bind fun bt111 => ((promise_Earliest.f 3 (([(⟨(⟨0, 0⟩ : S48), 1, 0⟩ : S51)] : List (S51))) 9 0 y105 0 1 1 0 1 2).bind fun bt116 => (if bt111.1 = 7 then (if bt116.1 = 3 then (if bt111.2 = 0 then (some (bt116.2 == 0)) else (some false)) else (some false)) else (some false)))) = some r := by first | (rw [hy105]; with_reducible exact H) | (have H2_ := (Option.bind_some _ _).symm.trans H; rw [hy105]; with_reducible exact H2_) | (have H2_ := (Option.bind_some _ _).symm.trans H; with_reducible exact H2_) | with_reducible exact H | (rw [hy105]; exact H) | exact H
 have Ny105 := Aside0.mk hy105
 clear hy105
 obtain ⟨y108, hy108⟩ : ∃ y_ : List (S51), y_ = (([(⟨(⟨0, 0⟩ : S48), 1, 0⟩ : S51)] : List (S51))) := ⟨_, rfl⟩
 replace H : ((promise_Earliest.f 3 y108 9 0 y105 0 2 1 0 1 2).bind fun bt111 => ((promise_Earliest.f 3 (([(⟨(⟨0, 0⟩ : S48), 1, 0⟩ : S51)] : List (S51))) 9 0 y105 0 1 1 0 1 2).bind fun bt116 => (if bt111.1 = 7 then (if bt116.1 = 3 then (if bt111.2 = 0 then (some (bt116.2 == 0)) else (some false)) else (some false)) else (some false)))) = some r := by first | (rw [hy108]; with_reducible exact H) | (have H2_ := (Option.bind_some _ _).symm.trans H; rw [hy108]; with_reducible exact H2_) | (have H2_ := (Option.bind_some _ _).symm.trans H; with_reducible exact H2_) | with_reducible exact H | (rw [hy108]; exact H) | exact H
 have Ny108 := Aside0.mk hy108
 clear hy108
 replace H := Option.bind_eq_some_iff.mp H
 obtain ⟨⟨t111, t112⟩, A10, H⟩ := H
 replace H : ((promise_Earliest.f 3 (([(⟨(⟨0, 0⟩ : S48), 1, 0⟩ : S51)] : List (S51))) 9 0 y105 0 1 1 0 1 2).bind fun bt116 => (if t111 = 7 then (if bt116.1 = 3 then (if t112 = 0 then (some (bt116.2 == 0)) else (some false)) else (some false)) else (some false))) = some r := H
 have A1 := Aside0.mk A10
 clear A10
 obtain ⟨y113, hy113⟩ : ∃ y_ : List (S51), y_ = (([(⟨(⟨0, 0⟩ : S48), 1, 0⟩ : S51)] : List (S51))) := ⟨_, rfl⟩
 replace H : ((promise_Earliest.f 3 y113 9 0 y105 0 1 1 0 1 2).bind fun bt116 => (if t111 = 7 then (if bt116.1 = 3 then (if t112 = 0 then (some (bt116.2 == 0)) else (some false)) else (some false)) else (some false))) = some r := by first | (rw [hy113]; with_reducible exact H) | (have H2_ := (Option.bind_some _ _).symm.trans H; rw [hy113]; with_reducible exact H2_) | (have H2_ := (Option.bind_some _ _).symm.trans H; with_reducible exact H2_) | with_reducible exact H | (rw [hy113]; exact H) | exact H
 have Ny113 := Aside0.mk hy113
 clear hy113
 replace H := Option.bind_eq_some_iff.mp H
 obtain ⟨⟨t116, t117⟩, A20, H⟩ := H
 replace H : (if t111 = 7 then (if t116 = 3 then (if t112 = 0 then (some (t117 == 0)) else (some false)) else (some false)) else (some false)) = some r := H
 have A2 := Aside0.mk A20
 clear A20
 by_cases c3 : t111 = 7
 ·rw [if_pos c3] at H
  have c3b0 : (t111 == 7) = true := beq_iff_eq.mpr c3
  have c3b1 : (t111 != 7) = false := bne_eq_false_iff_eq.mpr c3
  clear c3
  by_cases c4 : t116 = 3
  ·rw [if_pos c4] at H
   have c4b0 : (t116 == 3) = true := beq_iff_eq.mpr c4
   have c4b1 : (t116 != 3) = false := bne_eq_false_iff_eq.mpr c4
   clear c4
   by_cases c5 : t112 = 0
   ·rw [if_pos c5] at H
    have c5b0 : (t112 == 0) = true := beq_iff_eq.mpr c5
    have c5b1 : (t112 != 0) = false := bne_eq_false_iff_eq.mpr c5
    clear c5
    obtain rfl := Option.some.inj H
    go_enter Try.func25, Try.ntmps25
    go_wp2_with (first | ((with_reducible refine gate_dst (N := 1) rfl ?_); refine bx 1 #[.int .i64 0, .int .i64 0, .int .i64 0, .int .i64 0, .int .i64 0, .int .i64 0] 29 ?_; intro gb101 hg w6 hbox hb; have n0_ := Aside0.mk (below_step Z0 hb); have n1_ := Aside0.mk (hbox); have n2_ := Aside0.mk ((by rw [hg]; exact (below_size Z0) : w.heap.size ≤ gb101)); have n3_ := Aside0.mk ((by rw [hg]; exact (below_size Z0) : w.heap.size ≤ gb101)); clear HB; have HB := n0_; have BK101 := n1_; have GW101 := n2_; have GE101 := n3_; clear n0_ n1_ n2_ n3_; clear hb hbox hg; have hcz7_0 : w6.cell? ⟨gb101, 0, none⟩ = some (.int .i64 0) := (blk_cell BK101.out 0).trans rfl; have hcz7_1 : w6.cell? ⟨gb101, 1, none⟩ = some (.int .i64 0) := (blk_cell BK101.out 1).trans rfl; have hcz7_2 : w6.cell? ⟨gb101, 2, none⟩ = some (.int .i64 0) := (blk_cell BK101.out 2).trans rfl; have hcz7_3 : w6.cell? ⟨gb101, 3, none⟩ = some (.int .i64 0) := (blk_cell BK101.out 3).trans rfl; have hcz7_4 : w6.cell? ⟨gb101, 4, none⟩ = some (.int .i64 0) := (blk_cell BK101.out 4).trans rfl; have hcz7_5 : w6.cell? ⟨gb101, 5, none⟩ = some (.int .i64 0) := (blk_cell BK101.out 5).trans rfl; have hfz7_0 := blk_frozen BK101.out 0; have hfz7_1 := blk_frozen BK101.out 1; have hfz7_2 := blk_frozen BK101.out 2; have hfz7_3 := blk_frozen BK101.out 3; have hfz7_4 := blk_frozen BK101.out 4; have hfz7_5 := blk_frozen BK101.out 5) | ((with_reducible refine gate_dst (N := 10) rfl ?_); refine Kd.R_lit k52 _ 52 ?hg (N := 10) ?hd (xs := ([(⟨(⟨0, 0⟩ : S48), 14, 0⟩ : S52)] : List (S52))) (inner := [.int .i64 0, .int .i64 0, .int .u64 14, .int .i64 0]) (ok := fun _ => True) (okp := fun _ => True) ?hr ?hp (fun _ hk => hk) trivial (Below.refl _ _) (Nat.le_refl _) (by simp) ?_; (case hd => rfl); (case hg => rfl); (case hr => first | (go_simp; done) | (go_simp; rfl)); (case hp => exact (Reps.c4 (show Kd.M k52 _ _ _ (⟨(⟨0, 0⟩ : S48), 14, 0⟩ : S52) [.int .i64 0, .int .i64 0, .int .u64 14, .int .i64 0] from (k52_mkM _ _ _ (⟨(⟨0, 0⟩ : S48), 14, 0⟩ : S52) )) (Reps.none _ _))); intro v103 w8 ho9 hb hg_ hnew_; clear hg_ hnew_; (first | rw [← Ny102.out] at ho9 | (simp only [Int.reduceToNat] at ho9; rw [← Ny102.out] at ho9)); have n0_ := Aside0.mk (Kd.R_lower ho9 (below_size (by repeat (first | (with_reducible first | exact HB.out | apply below_alloc | apply pw_below_drewN | apply below_drew1 | refine below_set ?_ GE101.out) | exact HB.out)))); have n1_ := Aside0.mk (blk_below (g := gb101) (o := .cells #[.int .i64 0, .int .i64 2, .int .i64 1, .int .i64 0, .int .i64 1, .int .i64 2] 29 (0, 0)) (by (with_reducible repeat (first | refine blk_drewN ?_ _ | refine blk_drew ?_ | refine blk_alloc ?_ _)); refine blk_put (cs := #[.int .i64 0, .int .i64 2, .int .i64 1, .int .i64 0, .int .i64 1, .int .i64 0]) ?_ 5 _ rfl; (with_reducible repeat (first | refine blk_drewN ?_ _ | refine blk_drew ?_ | refine blk_alloc ?_ _)); refine blk_put (cs := #[.int .i64 0, .int .i64 2, .int .i64 1, .int .i64 0, .int .i64 0, .int .i64 0]) ?_ 4 _ rfl; (with_reducible repeat (first | refine blk_drewN ?_ _ | refine blk_drew ?_ | refine blk_alloc ?_ _)); refine blk_put (cs := #[.int .i64 0, .int .i64 2, .int .i64 1, .int .i64 0, .int .i64 0, .int .i64 0]) ?_ 3 _ rfl; (with_reducible repeat (first | refine blk_drewN ?_ _ | refine blk_drew ?_ | refine blk_alloc ?_ _)); refine blk_put (cs := #[.int .i64 0, .int .i64 2, .int .i64 0, .int .i64 0, .int .i64 0, .int .i64 0]) ?_ 2 _ rfl; (with_reducible repeat (first | refine blk_drewN ?_ _ | refine blk_drew ?_ | refine blk_alloc ?_ _)); refine blk_put (cs := #[.int .i64 0, .int .i64 0, .int .i64 0, .int .i64 0, .int .i64 0, .int .i64 0]) ?_ 1 _ rfl; (with_reducible repeat (first | refine blk_drewN ?_ _ | refine blk_drew ?_ | refine blk_alloc ?_ _)); refine blk_put (cs := #[.int .i64 0, .int .i64 0, .int .i64 0, .int .i64 0, .int .i64 0, .int .i64 0]) ?_ 0 _ rfl; (with_reducible repeat (first | refine blk_drewN ?_ _ | refine blk_drew ?_ | refine blk_alloc ?_ _)); exact BK101.out) hb); have n2_ := Aside0.mk (below_step (by repeat (first | (with_reducible first | exact HB.out | apply below_alloc | apply pw_below_drewN | apply below_drew1 | refine below_set ?_ GE101.out) | exact HB.out)) hb); clear BK101; clear HB; have HO104 := n0_; have BK101 := n1_; have HB := n2_; clear n0_ n1_ n2_; clear hb ho9; obtain ⟨Ao10, co10, eo10⟩ := Kd.R_slice HO104.out; subst eo10) | ((with_reducible refine gate_dst (N := 12) rfl ?_); refine Kd.N_lit k41 _ 41 ?hg (N' := 12) ?hd (xs := ([(⟨0, 0, 7, false, y102⟩ : S41)] : List (S41))) (inner := [.int .i64 0, .int .i64 0, .int .i64 7, .bool false, .slice Ao10 y102.length co10]) (ok := (fun k_ => k_ ≠ gb101)) (okp := (fun k_ => k_ ≠ gb101)) ?hr ?hp (fun _ hk => hk) ((show ∀ k_, w8.heap.size ≤ k_ → (fun k_ => k_ ≠ gb101) k_ from fun k_ hk => Kd.freshB (g := gb101) (o := .cells #[.int .i64 0, .int .i64 2, .int .i64 1, .int .i64 0, .int .i64 1, .int .i64 2] 29 (0, 0)) (by (with_reducible repeat (first | refine blk_drewN ?_ _ | refine blk_drew ?_ | refine blk_alloc ?_ _)); exact BK101.out) k_ hk) _ (Nat.le_refl _)) (Below.refl _ _) (Nat.le_refl _) (by simp) ?_; (case hd => rfl); (case hg => rfl); (case hr => first | (go_simp; done) | (go_simp; rfl)); (case hp => exact (Reps.c5 (show Kd.FK k41 _ _ (⟨0, 0, 7, false, y102⟩ : S41) [.int .i64 0, .int .i64 0, .int .i64 7, .bool false, .slice Ao10 y102.length co10] from (k41_mkF _ _ (⟨0, 0, 7, false, y102⟩ : S41) (Kd.R_reads' (Kd.R_mono (ok' := (fun k_ => k_ ≠ gb101)) (Kd.R_types (HO104.out) BK101.out (by decide)) (fun k_ hk => hk.2))).2.1 (Kd.R_F (Kd.R_mono (ok' := (fun k_ => k_ ≠ gb101)) (Kd.R_types (HO104.out) BK101.out (by decide)) (fun k_ hk => hk.2))))) (Reps.none _ _))); intro v106 w11 ho12 hb hg_ hnew_; clear hg_ hnew_; (first | rw [← Ny105.out] at ho12 | (simp only [Int.reduceToNat] at ho12; rw [← Ny105.out] at ho12)); have n0_ := Aside0.mk (Kd.N_lower ho12 (below_size (by repeat (first | (with_reducible first | exact HB.out | apply below_alloc | apply pw_below_drewN | apply below_drew1 | refine below_set ?_ GE101.out) | exact HB.out)))); have n1_ := Aside0.mk (blk_below (g := gb101) (o := .cells #[.int .i64 0, .int .i64 2, .int .i64 1, .int .i64 0, .int .i64 1, .int .i64 2] 29 (0, 0)) (by (with_reducible repeat (first | refine blk_drewN ?_ _ | refine blk_drew ?_ | refine blk_alloc ?_ _)); exact BK101.out) hb); have n2_ := Aside0.mk (below_step (by repeat (first | (with_reducible first | exact HB.out | apply below_alloc | apply pw_below_drewN | apply below_drew1 | refine below_set ?_ GE101.out) | exact HB.out)) hb); clear BK101; clear HB; clear HO104; have HO107 := n0_; have BK101 := n1_; have HB := n2_; clear n0_ n1_ n2_; clear hb ho12) | ((with_reducible refine gate_dst (N := 15) rfl ?_); refine Kd.R_lit k51 _ 51 ?hg (N := 15) ?hd (xs := ([(⟨(⟨0, 0⟩ : S48), 1, 0⟩ : S51)] : List (S51))) (inner := [.int .i64 0, .int .i64 0, .int .u64 1, .int .i64 0]) (ok := fun _ => True) (okp := fun _ => True) ?hr ?hp (fun _ hk => hk) trivial (Below.refl _ _) (Nat.le_refl _) (by simp) ?_; (case hd => rfl); (case hg => rfl); (case hr => first | (go_simp; done) | (go_simp; rfl)); (case hp => exact (Reps.c4 (show Kd.M k51 _ _ _ (⟨(⟨0, 0⟩ : S48), 1, 0⟩ : S51) [.int .i64 0, .int .i64 0, .int .u64 1, .int .i64 0] from (k51_mkM _ _ _ (⟨(⟨0, 0⟩ : S48), 1, 0⟩ : S51) )) (Reps.none _ _))); intro v109 w13 ho14 hb hg_ hnew_; clear hg_ hnew_; (first | rw [← Ny108.out] at ho14 | (simp only [Int.reduceToNat] at ho14; rw [← Ny108.out] at ho14)); have n0_ := Aside0.mk (Kd.N_elder' Z5 (Kd.R_base ho14) hb); have n1_ := Aside0.mk (Kd.R_lower ho14 (below_size (by repeat (first | (with_reducible first | exact HB.out | apply below_alloc | apply pw_below_drewN | apply below_drew1 | refine below_set ?_ GE101.out) | exact HB.out)))); have n2_ := Aside0.mk (blk_below (g := gb101) (o := .cells #[.int .i64 0, .int .i64 2, .int .i64 1, .int .i64 0, .int .i64 1, .int .i64 2] 29 (0, 0)) (by (with_reducible repeat (first | refine blk_drewN ?_ _ | refine blk_drew ?_ | refine blk_alloc ?_ _)); exact BK101.out) hb); have n3_ := Aside0.mk (below_step (by repeat (first | (with_reducible first | exact HB.out | apply below_alloc | apply pw_below_drewN | apply below_drew1 | refine below_set ?_ GE101.out) | exact HB.out)) hb); clear HO107; clear BK101; clear HB; have HO107 := n0_; have HO110 := n1_; have BK101 := n2_; have HB := n3_; clear n0_ n1_ n2_ n3_; clear hb ho14; have hcz15_0 : w13.cell? ⟨gb101, 0, none⟩ = some (.int .i64 0) := (blk_cell BK101.out 0).trans rfl; have hcz15_1 : w13.cell? ⟨gb101, 1, none⟩ = some (.int .i64 2) := (blk_cell BK101.out 1).trans rfl; have hcz15_2 : w13.cell? ⟨gb101, 2, none⟩ = some (.int .i64 1) := (blk_cell BK101.out 2).trans rfl; have hcz15_3 : w13.cell? ⟨gb101, 3, none⟩ = some (.int .i64 0) := (blk_cell BK101.out 3).trans rfl; have hcz15_4 : w13.cell? ⟨gb101, 4, none⟩ = some (.int .i64 1) := (blk_cell BK101.out 4).trans rfl; have hcz15_5 : w13.cell? ⟨gb101, 5, none⟩ = some (.int .i64 2) := (blk_cell BK101.out 5).trans rfl; have hfz15_0 := blk_frozen BK101.out 0; have hfz15_1 := blk_frozen BK101.out 1; have hfz15_2 := blk_frozen BK101.out 2; have hfz15_3 := blk_frozen BK101.out 3; have hfz15_4 := blk_frozen BK101.out 4; have hfz15_5 := blk_frozen BK101.out 5; obtain ⟨Ao16, co16, eo16⟩ := Kd.R_slice HO110.out; subst eo16; obtain ⟨Ao17, co17, eo17⟩ := Kd.N_slice HO107.out; subst eo17) | ((with_reducible refine gate_callee (f := 27) rfl ?_); refine goesL_ (some 19) rfl rfl Try.func27 (by kernel_rfl) rfl #[.int .i64 3, .slice Ao16 y108.length co16, .agg #[.int .i64 9, .int .i64 0], .slice Ao17 y105.length co17, .agg #[.int .i64 0, .int .i64 2, .int .i64 1, .int .i64 0, .int .i64 1, .int .i64 2]] rfl Z1 ?_; (with_reducible refine (promise_Earliest.calls 3 _ _ y108 9 0 _ _ y105 0 2 1 0 1 2 t111 t112 _ ?side1 ?side2 ?side3 ?side4 A1.out).mono ?_); (case side1 => repeat (first | exact (Kd.R_reads' HO110.out).2.2 | (with_reducible refine Kd.C_alloc ?_ _) | (with_reducible refine Kd.C_drewN ?_ _) | (with_reducible refine Kd.C_drew ?_))); (case side2 => exact (Kd.R_reads' HO110.out).2.1); (case side3 => repeat (first | exact (Kd.N_reads' HO107.out).2.2 | (with_reducible refine Kd.C_alloc ?_ _) | (with_reducible refine Kd.C_drewN ?_ _) | (with_reducible refine Kd.C_drew ?_))); (case side4 => exact (Kd.N_reads' HO107.out).2.1); rintro e w18 ⟨rfl, hb⟩; refine ⟨_, rfl, ?_⟩; have n0_ := Aside0.mk (Kd.N_below Z5 hb); have n1_ := Aside0.mk (Kd.R_below Z7 hb); have n2_ := Aside0.mk (blk_below (g := gb101) (o := .cells #[.int .i64 0, .int .i64 2, .int .i64 1, .int .i64 0, .int .i64 1, .int .i64 2] 29 (0, 0)) (by (with_reducible repeat (first | refine blk_drewN ?_ _ | refine blk_drew ?_ | refine blk_alloc ?_ _)); exact BK101.out) hb); have n3_ := Aside0.mk (below_step (by repeat (first | (with_reducible first | exact HB.out | apply below_alloc | apply pw_below_drewN | apply below_drew1 | refine below_set ?_ GE101.out) | exact HB.out)) hb); clear HO107; clear HO110; clear BK101; clear HB; have HO107 := n0_; have HO110 := n1_; have BK101 := n2_; have HB := n3_; clear n0_ n1_ n2_ n3_; (try clear hb); (try clear hb2); (try clear hk); (try clear hi); have hcz19_0 : w18.cell? ⟨gb101, 0, none⟩ = some (.int .i64 0) := (blk_cell BK101.out 0).trans rfl; have hcz19_1 : w18.cell? ⟨gb101, 1, none⟩ = some (.int .i64 2) := (blk_cell BK101.out 1).trans rfl; have hcz19_2 : w18.cell? ⟨gb101, 2, none⟩ = some (.int .i64 1) := (blk_cell BK101.out 2).trans rfl; have hcz19_3 : w18.cell? ⟨gb101, 3, none⟩ = some (.int .i64 0) := (blk_cell BK101.out 3).trans rfl; have hcz19_4 : w18.cell? ⟨gb101, 4, none⟩ = some (.int .i64 1) := (blk_cell BK101.out 4).trans rfl; have hcz19_5 : w18.cell? ⟨gb101, 5, none⟩ = some (.int .i64 2) := (blk_cell BK101.out 5).trans rfl; have hfz19_0 := blk_frozen BK101.out 0; have hfz19_1 := blk_frozen BK101.out 1; have hfz19_2 := blk_frozen BK101.out 2; have hfz19_3 := blk_frozen BK101.out 3; have hfz19_4 := blk_frozen BK101.out 4; have hfz19_5 := blk_frozen BK101.out 5) | ((with_reducible refine gate_dst (N := 25) rfl ?_); refine Kd.R_lit k51 _ 51 ?hg (N := 25) ?hd (xs := ([(⟨(⟨0, 0⟩ : S48), 1, 0⟩ : S51)] : List (S51))) (inner := [.int .i64 0, .int .i64 0, .int .u64 1, .int .i64 0]) (ok := fun _ => True) (okp := fun _ => True) ?hr ?hp (fun _ hk => hk) trivial (Below.refl _ _) (Nat.le_refl _) (by simp) ?_; (case hd => rfl); (case hg => rfl); (case hr => first | (go_simp; done) | (go_simp; rfl)); (case hp => exact (Reps.c4 (show Kd.M k51 _ _ _ (⟨(⟨0, 0⟩ : S48), 1, 0⟩ : S51) [.int .i64 0, .int .i64 0, .int .u64 1, .int .i64 0] from (k51_mkM _ _ _ (⟨(⟨0, 0⟩ : S48), 1, 0⟩ : S51) )) (Reps.none _ _))); intro v114 w20 ho21 hb hg_ hnew_; clear hg_ hnew_; (first | rw [← Ny113.out] at ho21 | (simp only [Int.reduceToNat] at ho21; rw [← Ny113.out] at ho21)); have n0_ := Aside0.mk (Kd.N_elder' Z6 (Kd.R_base ho21) hb); have n1_ := Aside0.mk (Kd.R_elder' Z3 (Kd.R_base ho21) hb); have n2_ := Aside0.mk (Kd.R_lower (Kd.R_new' ho21 (Kd.R_lt Z3)) (below_size (by repeat (first | (with_reducible first | exact HB.out | apply below_alloc | apply pw_below_drewN | apply below_drew1 | refine below_set ?_ GE101.out) | exact HB.out)))); have n3_ := Aside0.mk (blk_below (g := gb101) (o := .cells #[.int .i64 0, .int .i64 1, .int .i64 1, .int .i64 0, .int .i64 1, .int .i64 2] 29 (0, 0)) (by (with_reducible repeat (first | refine blk_drewN ?_ _ | refine blk_drew ?_ | refine blk_alloc ?_ _)); refine blk_put (cs := #[.int .i64 0, .int .i64 2, .int .i64 1, .int .i64 0, .int .i64 1, .int .i64 2]) ?_ 1 _ rfl; (with_reducible repeat (first | refine blk_drewN ?_ _ | refine blk_drew ?_ | refine blk_alloc ?_ _)); exact BK101.out) hb); have n4_ := Aside0.mk (below_step (by repeat (first | (with_reducible first | exact HB.out | apply below_alloc | apply pw_below_drewN | apply below_drew1 | refine below_set ?_ GE101.out) | exact HB.out)) hb); clear HO107; clear HO110; clear BK101; clear HB; have HO107 := n0_; have HO110 := n1_; have HO115 := n2_; have BK101 := n3_; have HB := n4_; clear n0_ n1_ n2_ n3_ n4_; clear hb ho21; have hcz22_0 : w20.cell? ⟨gb101, 0, none⟩ = some (.int .i64 0) := (blk_cell BK101.out 0).trans rfl; have hcz22_1 : w20.cell? ⟨gb101, 1, none⟩ = some (.int .i64 1) := (blk_cell BK101.out 1).trans rfl; have hcz22_2 : w20.cell? ⟨gb101, 2, none⟩ = some (.int .i64 1) := (blk_cell BK101.out 2).trans rfl; have hcz22_3 : w20.cell? ⟨gb101, 3, none⟩ = some (.int .i64 0) := (blk_cell BK101.out 3).trans rfl; have hcz22_4 : w20.cell? ⟨gb101, 4, none⟩ = some (.int .i64 1) := (blk_cell BK101.out 4).trans rfl; have hcz22_5 : w20.cell? ⟨gb101, 5, none⟩ = some (.int .i64 2) := (blk_cell BK101.out 5).trans rfl; have hfz22_0 := blk_frozen BK101.out 0; have hfz22_1 := blk_frozen BK101.out 1; have hfz22_2 := blk_frozen BK101.out 2; have hfz22_3 := blk_frozen BK101.out 3; have hfz22_4 := blk_frozen BK101.out 4; have hfz22_5 := blk_frozen BK101.out 5; obtain ⟨Ao23, co23, eo23⟩ := Kd.R_slice HO115.out; subst eo23) | ((with_reducible refine gate_callee (f := 27) rfl ?_); refine goesL_ (some 29) rfl rfl Try.func27 (by kernel_rfl) rfl #[.int .i64 3, .slice Ao23 y113.length co23, .agg #[.int .i64 9, .int .i64 0], .slice Ao17 y105.length co17, .agg #[.int .i64 0, .int .i64 1, .int .i64 1, .int .i64 0, .int .i64 1, .int .i64 2]] rfl Z1 ?_; (with_reducible refine (promise_Earliest.calls 3 _ _ y113 9 0 _ _ y105 0 1 1 0 1 2 t116 t117 _ ?side1 ?side2 ?side3 ?side4 A2.out).mono ?_); (case side1 => repeat (first | exact (Kd.R_reads' HO115.out).2.2 | (with_reducible refine Kd.C_alloc ?_ _) | (with_reducible refine Kd.C_drewN ?_ _) | (with_reducible refine Kd.C_drew ?_))); (case side2 => exact (Kd.R_reads' HO115.out).2.1); (case side3 => repeat (first | exact (Kd.N_reads' HO107.out).2.2 | (with_reducible refine Kd.C_alloc ?_ _) | (with_reducible refine Kd.C_drewN ?_ _) | (with_reducible refine Kd.C_drew ?_))); (case side4 => exact (Kd.N_reads' HO107.out).2.1); rintro e w24 ⟨rfl, hb⟩; refine ⟨_, rfl, ?_⟩; have n0_ := Aside0.mk (Kd.N_below Z5 hb); have n1_ := Aside0.mk (Kd.R_below Z7 hb); have n2_ := Aside0.mk (Kd.R_below Z8 hb); have n3_ := Aside0.mk (blk_below (g := gb101) (o := .cells #[.int .i64 0, .int .i64 1, .int .i64 1, .int .i64 0, .int .i64 1, .int .i64 2] 29 (0, 0)) (by (with_reducible repeat (first | refine blk_drewN ?_ _ | refine blk_drew ?_ | refine blk_alloc ?_ _)); exact BK101.out) hb); have n4_ := Aside0.mk (below_step (by repeat (first | (with_reducible first | exact HB.out | apply below_alloc | apply pw_below_drewN | apply below_drew1 | refine below_set ?_ GE101.out) | exact HB.out)) hb); clear HO107; clear HO110; clear HO115; clear BK101; clear HB; have HO107 := n0_; have HO110 := n1_; have HO115 := n2_; have BK101 := n3_; have HB := n4_; clear n0_ n1_ n2_ n3_ n4_; (try clear hb); (try clear hb2); (try clear hk); (try clear hi)))
    go_ret
    exact ⟨by first | rfl | (simp [errW_none, errW_some] <;> rfl) | (simp [*, errW_none, errW_some] <;> rfl), by repeat (first | (with_reducible first | exact HB.out | apply below_alloc | apply pw_below_drewN | apply below_drew1 | refine below_set ?_ GE101.out) | exact HB.out)⟩
   ·rw [if_neg c5] at H
    have c5b0 : (t112 == 0) = false := beq_eq_false_iff_ne.mpr c5
    have c5b1 : (t112 != 0) = true := bne_iff_ne.mpr c5
    obtain rfl := Option.some.inj H
    go_enter Try.func25, Try.ntmps25
    go_wp2_with (first | ((with_reducible refine gate_dst (N := 1) rfl ?_); refine bx 1 #[.int .i64 0, .int .i64 0, .int .i64 0, .int .i64 0, .int .i64 0, .int .i64 0] 29 ?_; intro gb101 hg w25 hbox hb; have n0_ := Aside0.mk (below_step Z0 hb); have n1_ := Aside0.mk (hbox); have n2_ := Aside0.mk ((by rw [hg]; exact (below_size Z0) : w.heap.size ≤ gb101)); have n3_ := Aside0.mk ((by rw [hg]; exact (below_size Z0) : w.heap.size ≤ gb101)); clear HB; have HB := n0_; have BK101 := n1_; have GW101 := n2_; have GE101 := n3_; clear n0_ n1_ n2_ n3_; clear hb hbox hg; have hcz26_0 : w25.cell? ⟨gb101, 0, none⟩ = some (.int .i64 0) := (blk_cell BK101.out 0).trans rfl; have hcz26_1 : w25.cell? ⟨gb101, 1, none⟩ = some (.int .i64 0) := (blk_cell BK101.out 1).trans rfl; have hcz26_2 : w25.cell? ⟨gb101, 2, none⟩ = some (.int .i64 0) := (blk_cell BK101.out 2).trans rfl; have hcz26_3 : w25.cell? ⟨gb101, 3, none⟩ = some (.int .i64 0) := (blk_cell BK101.out 3).trans rfl; have hcz26_4 : w25.cell? ⟨gb101, 4, none⟩ = some (.int .i64 0) := (blk_cell BK101.out 4).trans rfl; have hcz26_5 : w25.cell? ⟨gb101, 5, none⟩ = some (.int .i64 0) := (blk_cell BK101.out 5).trans rfl; have hfz26_0 := blk_frozen BK101.out 0; have hfz26_1 := blk_frozen BK101.out 1; have hfz26_2 := blk_frozen BK101.out 2; have hfz26_3 := blk_frozen BK101.out 3; have hfz26_4 := blk_frozen BK101.out 4; have hfz26_5 := blk_frozen BK101.out 5) | ((with_reducible refine gate_dst (N := 10) rfl ?_); refine Kd.R_lit k52 _ 52 ?hg (N := 10) ?hd (xs := ([(⟨(⟨0, 0⟩ : S48), 14, 0⟩ : S52)] : List (S52))) (inner := [.int .i64 0, .int .i64 0, .int .u64 14, .int .i64 0]) (ok := fun _ => True) (okp := fun _ => True) ?hr ?hp (fun _ hk => hk) trivial (Below.refl _ _) (Nat.le_refl _) (by simp) ?_; (case hd => rfl); (case hg => rfl); (case hr => first | (go_simp; done) | (go_simp; rfl)); (case hp => exact (Reps.c4 (show Kd.M k52 _ _ _ (⟨(⟨0, 0⟩ : S48), 14, 0⟩ : S52) [.int .i64 0, .int .i64 0, .int .u64 14, .int .i64 0] from (k52_mkM _ _ _ (⟨(⟨0, 0⟩ : S48), 14, 0⟩ : S52) )) (Reps.none _ _))); intro v103 w27 ho28 hb hg_ hnew_; clear hg_ hnew_; (first | rw [← Ny102.out] at ho28 | (simp only [Int.reduceToNat] at ho28; rw [← Ny102.out] at ho28)); have n0_ := Aside0.mk (Kd.R_lower ho28 (below_size (by repeat (first | (with_reducible first | exact HB.out | apply below_alloc | apply pw_below_drewN | apply below_drew1 | refine below_set ?_ GE101.out) | exact HB.out)))); have n1_ := Aside0.mk (blk_below (g := gb101) (o := .cells #[.int .i64 0, .int .i64 2, .int .i64 1, .int .i64 0, .int .i64 1, .int .i64 2] 29 (0, 0)) (by (with_reducible repeat (first | refine blk_drewN ?_ _ | refine blk_drew ?_ | refine blk_alloc ?_ _)); refine blk_put (cs := #[.int .i64 0, .int .i64 2, .int .i64 1, .int .i64 0, .int .i64 1, .int .i64 0]) ?_ 5 _ rfl; (with_reducible repeat (first | refine blk_drewN ?_ _ | refine blk_drew ?_ | refine blk_alloc ?_ _)); refine blk_put (cs := #[.int .i64 0, .int .i64 2, .int .i64 1, .int .i64 0, .int .i64 0, .int .i64 0]) ?_ 4 _ rfl; (with_reducible repeat (first | refine blk_drewN ?_ _ | refine blk_drew ?_ | refine blk_alloc ?_ _)); refine blk_put (cs := #[.int .i64 0, .int .i64 2, .int .i64 1, .int .i64 0, .int .i64 0, .int .i64 0]) ?_ 3 _ rfl; (with_reducible repeat (first | refine blk_drewN ?_ _ | refine blk_drew ?_ | refine blk_alloc ?_ _)); refine blk_put (cs := #[.int .i64 0, .int .i64 2, .int .i64 0, .int .i64 0, .int .i64 0, .int .i64 0]) ?_ 2 _ rfl; (with_reducible repeat (first | refine blk_drewN ?_ _ | refine blk_drew ?_ | refine blk_alloc ?_ _)); refine blk_put (cs := #[.int .i64 0, .int .i64 0, .int .i64 0, .int .i64 0, .int .i64 0, .int .i64 0]) ?_ 1 _ rfl; (with_reducible repeat (first | refine blk_drewN ?_ _ | refine blk_drew ?_ | refine blk_alloc ?_ _)); refine blk_put (cs := #[.int .i64 0, .int .i64 0, .int .i64 0, .int .i64 0, .int .i64 0, .int .i64 0]) ?_ 0 _ rfl; (with_reducible repeat (first | refine blk_drewN ?_ _ | refine blk_drew ?_ | refine blk_alloc ?_ _)); exact BK101.out) hb); have n2_ := Aside0.mk (below_step (by repeat (first | (with_reducible first | exact HB.out | apply below_alloc | apply pw_below_drewN | apply below_drew1 | refine below_set ?_ GE101.out) | exact HB.out)) hb); clear BK101; clear HB; have HO104 := n0_; have BK101 := n1_; have HB := n2_; clear n0_ n1_ n2_; clear hb ho28; obtain ⟨Ao29, co29, eo29⟩ := Kd.R_slice HO104.out; subst eo29) | ((with_reducible refine gate_dst (N := 12) rfl ?_); refine Kd.N_lit k41 _ 41 ?hg (N' := 12) ?hd (xs := ([(⟨0, 0, 7, false, y102⟩ : S41)] : List (S41))) (inner := [.int .i64 0, .int .i64 0, .int .i64 7, .bool false, .slice Ao29 y102.length co29]) (ok := (fun k_ => k_ ≠ gb101)) (okp := (fun k_ => k_ ≠ gb101)) ?hr ?hp (fun _ hk => hk) ((show ∀ k_, w27.heap.size ≤ k_ → (fun k_ => k_ ≠ gb101) k_ from fun k_ hk => Kd.freshB (g := gb101) (o := .cells #[.int .i64 0, .int .i64 2, .int .i64 1, .int .i64 0, .int .i64 1, .int .i64 2] 29 (0, 0)) (by (with_reducible repeat (first | refine blk_drewN ?_ _ | refine blk_drew ?_ | refine blk_alloc ?_ _)); exact BK101.out) k_ hk) _ (Nat.le_refl _)) (Below.refl _ _) (Nat.le_refl _) (by simp) ?_; (case hd => rfl); (case hg => rfl); (case hr => first | (go_simp; done) | (go_simp; rfl)); (case hp => exact (Reps.c5 (show Kd.FK k41 _ _ (⟨0, 0, 7, false, y102⟩ : S41) [.int .i64 0, .int .i64 0, .int .i64 7, .bool false, .slice Ao29 y102.length co29] from (k41_mkF _ _ (⟨0, 0, 7, false, y102⟩ : S41) (Kd.R_reads' (Kd.R_mono (ok' := (fun k_ => k_ ≠ gb101)) (Kd.R_types (HO104.out) BK101.out (by decide)) (fun k_ hk => hk.2))).2.1 (Kd.R_F (Kd.R_mono (ok' := (fun k_ => k_ ≠ gb101)) (Kd.R_types (HO104.out) BK101.out (by decide)) (fun k_ hk => hk.2))))) (Reps.none _ _))); intro v106 w30 ho31 hb hg_ hnew_; clear hg_ hnew_; (first | rw [← Ny105.out] at ho31 | (simp only [Int.reduceToNat] at ho31; rw [← Ny105.out] at ho31)); have n0_ := Aside0.mk (Kd.N_lower ho31 (below_size (by repeat (first | (with_reducible first | exact HB.out | apply below_alloc | apply pw_below_drewN | apply below_drew1 | refine below_set ?_ GE101.out) | exact HB.out)))); have n1_ := Aside0.mk (blk_below (g := gb101) (o := .cells #[.int .i64 0, .int .i64 2, .int .i64 1, .int .i64 0, .int .i64 1, .int .i64 2] 29 (0, 0)) (by (with_reducible repeat (first | refine blk_drewN ?_ _ | refine blk_drew ?_ | refine blk_alloc ?_ _)); exact BK101.out) hb); have n2_ := Aside0.mk (below_step (by repeat (first | (with_reducible first | exact HB.out | apply below_alloc | apply pw_below_drewN | apply below_drew1 | refine below_set ?_ GE101.out) | exact HB.out)) hb); clear BK101; clear HB; clear HO104; have HO107 := n0_; have BK101 := n1_; have HB := n2_; clear n0_ n1_ n2_; clear hb ho31) | ((with_reducible refine gate_dst (N := 15) rfl ?_); refine Kd.R_lit k51 _ 51 ?hg (N := 15) ?hd (xs := ([(⟨(⟨0, 0⟩ : S48), 1, 0⟩ : S51)] : List (S51))) (inner := [.int .i64 0, .int .i64 0, .int .u64 1, .int .i64 0]) (ok := fun _ => True) (okp := fun _ => True) ?hr ?hp (fun _ hk => hk) trivial (Below.refl _ _) (Nat.le_refl _) (by simp) ?_; (case hd => rfl); (case hg => rfl); (case hr => first | (go_simp; done) | (go_simp; rfl)); (case hp => exact (Reps.c4 (show Kd.M k51 _ _ _ (⟨(⟨0, 0⟩ : S48), 1, 0⟩ : S51) [.int .i64 0, .int .i64 0, .int .u64 1, .int .i64 0] from (k51_mkM _ _ _ (⟨(⟨0, 0⟩ : S48), 1, 0⟩ : S51) )) (Reps.none _ _))); intro v109 w32 ho33 hb hg_ hnew_; clear hg_ hnew_; (first | rw [← Ny108.out] at ho33 | (simp only [Int.reduceToNat] at ho33; rw [← Ny108.out] at ho33)); have n0_ := Aside0.mk (Kd.N_elder' Z5 (Kd.R_base ho33) hb); have n1_ := Aside0.mk (Kd.R_lower ho33 (below_size (by repeat (first | (with_reducible first | exact HB.out | apply below_alloc | apply pw_below_drewN | apply below_drew1 | refine below_set ?_ GE101.out) | exact HB.out)))); have n2_ := Aside0.mk (blk_below (g := gb101) (o := .cells #[.int .i64 0, .int .i64 2, .int .i64 1, .int .i64 0, .int .i64 1, .int .i64 2] 29 (0, 0)) (by (with_reducible repeat (first | refine blk_drewN ?_ _ | refine blk_drew ?_ | refine blk_alloc ?_ _)); exact BK101.out) hb); have n3_ := Aside0.mk (below_step (by repeat (first | (with_reducible first | exact HB.out | apply below_alloc | apply pw_below_drewN | apply below_drew1 | refine below_set ?_ GE101.out) | exact HB.out)) hb); clear HO107; clear BK101; clear HB; have HO107 := n0_; have HO110 := n1_; have BK101 := n2_; have HB := n3_; clear n0_ n1_ n2_ n3_; clear hb ho33; have hcz34_0 : w32.cell? ⟨gb101, 0, none⟩ = some (.int .i64 0) := (blk_cell BK101.out 0).trans rfl; have hcz34_1 : w32.cell? ⟨gb101, 1, none⟩ = some (.int .i64 2) := (blk_cell BK101.out 1).trans rfl; have hcz34_2 : w32.cell? ⟨gb101, 2, none⟩ = some (.int .i64 1) := (blk_cell BK101.out 2).trans rfl; have hcz34_3 : w32.cell? ⟨gb101, 3, none⟩ = some (.int .i64 0) := (blk_cell BK101.out 3).trans rfl; have hcz34_4 : w32.cell? ⟨gb101, 4, none⟩ = some (.int .i64 1) := (blk_cell BK101.out 4).trans rfl; have hcz34_5 : w32.cell? ⟨gb101, 5, none⟩ = some (.int .i64 2) := (blk_cell BK101.out 5).trans rfl; have hfz34_0 := blk_frozen BK101.out 0; have hfz34_1 := blk_frozen BK101.out 1; have hfz34_2 := blk_frozen BK101.out 2; have hfz34_3 := blk_frozen BK101.out 3; have hfz34_4 := blk_frozen BK101.out 4; have hfz34_5 := blk_frozen BK101.out 5; obtain ⟨Ao35, co35, eo35⟩ := Kd.R_slice HO110.out; subst eo35; obtain ⟨Ao36, co36, eo36⟩ := Kd.N_slice HO107.out; subst eo36) | ((with_reducible refine gate_callee (f := 27) rfl ?_); refine goesL_ (some 19) rfl rfl Try.func27 (by kernel_rfl) rfl #[.int .i64 3, .slice Ao35 y108.length co35, .agg #[.int .i64 9, .int .i64 0], .slice Ao36 y105.length co36, .agg #[.int .i64 0, .int .i64 2, .int .i64 1, .int .i64 0, .int .i64 1, .int .i64 2]] rfl Z1 ?_; (with_reducible refine (promise_Earliest.calls 3 _ _ y108 9 0 _ _ y105 0 2 1 0 1 2 t111 t112 _ ?side1 ?side2 ?side3 ?side4 A1.out).mono ?_); (case side1 => repeat (first | exact (Kd.R_reads' HO110.out).2.2 | (with_reducible refine Kd.C_alloc ?_ _) | (with_reducible refine Kd.C_drewN ?_ _) | (with_reducible refine Kd.C_drew ?_))); (case side2 => exact (Kd.R_reads' HO110.out).2.1); (case side3 => repeat (first | exact (Kd.N_reads' HO107.out).2.2 | (with_reducible refine Kd.C_alloc ?_ _) | (with_reducible refine Kd.C_drewN ?_ _) | (with_reducible refine Kd.C_drew ?_))); (case side4 => exact (Kd.N_reads' HO107.out).2.1); rintro e w37 ⟨rfl, hb⟩; refine ⟨_, rfl, ?_⟩; have n0_ := Aside0.mk (Kd.N_below Z5 hb); have n1_ := Aside0.mk (Kd.R_below Z7 hb); have n2_ := Aside0.mk (blk_below (g := gb101) (o := .cells #[.int .i64 0, .int .i64 2, .int .i64 1, .int .i64 0, .int .i64 1, .int .i64 2] 29 (0, 0)) (by (with_reducible repeat (first | refine blk_drewN ?_ _ | refine blk_drew ?_ | refine blk_alloc ?_ _)); exact BK101.out) hb); have n3_ := Aside0.mk (below_step (by repeat (first | (with_reducible first | exact HB.out | apply below_alloc | apply pw_below_drewN | apply below_drew1 | refine below_set ?_ GE101.out) | exact HB.out)) hb); clear HO107; clear HO110; clear BK101; clear HB; have HO107 := n0_; have HO110 := n1_; have BK101 := n2_; have HB := n3_; clear n0_ n1_ n2_ n3_; (try clear hb); (try clear hb2); (try clear hk); (try clear hi); have hcz38_0 : w37.cell? ⟨gb101, 0, none⟩ = some (.int .i64 0) := (blk_cell BK101.out 0).trans rfl; have hcz38_1 : w37.cell? ⟨gb101, 1, none⟩ = some (.int .i64 2) := (blk_cell BK101.out 1).trans rfl; have hcz38_2 : w37.cell? ⟨gb101, 2, none⟩ = some (.int .i64 1) := (blk_cell BK101.out 2).trans rfl; have hcz38_3 : w37.cell? ⟨gb101, 3, none⟩ = some (.int .i64 0) := (blk_cell BK101.out 3).trans rfl; have hcz38_4 : w37.cell? ⟨gb101, 4, none⟩ = some (.int .i64 1) := (blk_cell BK101.out 4).trans rfl; have hcz38_5 : w37.cell? ⟨gb101, 5, none⟩ = some (.int .i64 2) := (blk_cell BK101.out 5).trans rfl; have hfz38_0 := blk_frozen BK101.out 0; have hfz38_1 := blk_frozen BK101.out 1; have hfz38_2 := blk_frozen BK101.out 2; have hfz38_3 := blk_frozen BK101.out 3; have hfz38_4 := blk_frozen BK101.out 4; have hfz38_5 := blk_frozen BK101.out 5) | ((with_reducible refine gate_dst (N := 25) rfl ?_); refine Kd.R_lit k51 _ 51 ?hg (N := 25) ?hd (xs := ([(⟨(⟨0, 0⟩ : S48), 1, 0⟩ : S51)] : List (S51))) (inner := [.int .i64 0, .int .i64 0, .int .u64 1, .int .i64 0]) (ok := fun _ => True) (okp := fun _ => True) ?hr ?hp (fun _ hk => hk) trivial (Below.refl _ _) (Nat.le_refl _) (by simp) ?_; (case hd => rfl); (case hg => rfl); (case hr => first | (go_simp; done) | (go_simp; rfl)); (case hp => exact (Reps.c4 (show Kd.M k51 _ _ _ (⟨(⟨0, 0⟩ : S48), 1, 0⟩ : S51) [.int .i64 0, .int .i64 0, .int .u64 1, .int .i64 0] from (k51_mkM _ _ _ (⟨(⟨0, 0⟩ : S48), 1, 0⟩ : S51) )) (Reps.none _ _))); intro v114 w39 ho40 hb hg_ hnew_; clear hg_ hnew_; (first | rw [← Ny113.out] at ho40 | (simp only [Int.reduceToNat] at ho40; rw [← Ny113.out] at ho40)); have n0_ := Aside0.mk (Kd.N_elder' Z6 (Kd.R_base ho40) hb); have n1_ := Aside0.mk (Kd.R_elder' Z3 (Kd.R_base ho40) hb); have n2_ := Aside0.mk (Kd.R_lower (Kd.R_new' ho40 (Kd.R_lt Z3)) (below_size (by repeat (first | (with_reducible first | exact HB.out | apply below_alloc | apply pw_below_drewN | apply below_drew1 | refine below_set ?_ GE101.out) | exact HB.out)))); have n3_ := Aside0.mk (blk_below (g := gb101) (o := .cells #[.int .i64 0, .int .i64 1, .int .i64 1, .int .i64 0, .int .i64 1, .int .i64 2] 29 (0, 0)) (by (with_reducible repeat (first | refine blk_drewN ?_ _ | refine blk_drew ?_ | refine blk_alloc ?_ _)); refine blk_put (cs := #[.int .i64 0, .int .i64 2, .int .i64 1, .int .i64 0, .int .i64 1, .int .i64 2]) ?_ 1 _ rfl; (with_reducible repeat (first | refine blk_drewN ?_ _ | refine blk_drew ?_ | refine blk_alloc ?_ _)); exact BK101.out) hb); have n4_ := Aside0.mk (below_step (by repeat (first | (with_reducible first | exact HB.out | apply below_alloc | apply pw_below_drewN | apply below_drew1 | refine below_set ?_ GE101.out) | exact HB.out)) hb); clear HO107; clear HO110; clear BK101; clear HB; have HO107 := n0_; have HO110 := n1_; have HO115 := n2_; have BK101 := n3_; have HB := n4_; clear n0_ n1_ n2_ n3_ n4_; clear hb ho40; have hcz41_0 : w39.cell? ⟨gb101, 0, none⟩ = some (.int .i64 0) := (blk_cell BK101.out 0).trans rfl; have hcz41_1 : w39.cell? ⟨gb101, 1, none⟩ = some (.int .i64 1) := (blk_cell BK101.out 1).trans rfl; have hcz41_2 : w39.cell? ⟨gb101, 2, none⟩ = some (.int .i64 1) := (blk_cell BK101.out 2).trans rfl; have hcz41_3 : w39.cell? ⟨gb101, 3, none⟩ = some (.int .i64 0) := (blk_cell BK101.out 3).trans rfl; have hcz41_4 : w39.cell? ⟨gb101, 4, none⟩ = some (.int .i64 1) := (blk_cell BK101.out 4).trans rfl; have hcz41_5 : w39.cell? ⟨gb101, 5, none⟩ = some (.int .i64 2) := (blk_cell BK101.out 5).trans rfl; have hfz41_0 := blk_frozen BK101.out 0; have hfz41_1 := blk_frozen BK101.out 1; have hfz41_2 := blk_frozen BK101.out 2; have hfz41_3 := blk_frozen BK101.out 3; have hfz41_4 := blk_frozen BK101.out 4; have hfz41_5 := blk_frozen BK101.out 5; obtain ⟨Ao42, co42, eo42⟩ := Kd.R_slice HO115.out; subst eo42) | ((with_reducible refine gate_callee (f := 27) rfl ?_); refine goesL_ (some 29) rfl rfl Try.func27 (by kernel_rfl) rfl #[.int .i64 3, .slice Ao42 y113.length co42, .agg #[.int .i64 9, .int .i64 0], .slice Ao36 y105.length co36, .agg #[.int .i64 0, .int .i64 1, .int .i64 1, .int .i64 0, .int .i64 1, .int .i64 2]] rfl Z1 ?_; (with_reducible refine (promise_Earliest.calls 3 _ _ y113 9 0 _ _ y105 0 1 1 0 1 2 t116 t117 _ ?side1 ?side2 ?side3 ?side4 A2.out).mono ?_); (case side1 => repeat (first | exact (Kd.R_reads' HO115.out).2.2 | (with_reducible refine Kd.C_alloc ?_ _) | (with_reducible refine Kd.C_drewN ?_ _) | (with_reducible refine Kd.C_drew ?_))); (case side2 => exact (Kd.R_reads' HO115.out).2.1); (case side3 => repeat (first | exact (Kd.N_reads' HO107.out).2.2 | (with_reducible refine Kd.C_alloc ?_ _) | (with_reducible refine Kd.C_drewN ?_ _) | (with_reducible refine Kd.C_drew ?_))); (case side4 => exact (Kd.N_reads' HO107.out).2.1); rintro e w43 ⟨rfl, hb⟩; refine ⟨_, rfl, ?_⟩; have n0_ := Aside0.mk (Kd.N_below Z5 hb); have n1_ := Aside0.mk (Kd.R_below Z7 hb); have n2_ := Aside0.mk (Kd.R_below Z8 hb); have n3_ := Aside0.mk (blk_below (g := gb101) (o := .cells #[.int .i64 0, .int .i64 1, .int .i64 1, .int .i64 0, .int .i64 1, .int .i64 2] 29 (0, 0)) (by (with_reducible repeat (first | refine blk_drewN ?_ _ | refine blk_drew ?_ | refine blk_alloc ?_ _)); exact BK101.out) hb); have n4_ := Aside0.mk (below_step (by repeat (first | (with_reducible first | exact HB.out | apply below_alloc | apply pw_below_drewN | apply below_drew1 | refine below_set ?_ GE101.out) | exact HB.out)) hb); clear HO107; clear HO110; clear HO115; clear BK101; clear HB; have HO107 := n0_; have HO110 := n1_; have HO115 := n2_; have BK101 := n3_; have HB := n4_; clear n0_ n1_ n2_ n3_ n4_; (try clear hb); (try clear hb2); (try clear hk); (try clear hi)))
    go_ret
    exact ⟨by first | rfl | (simp [errW_none, errW_some] <;> rfl) | (simp [*, errW_none, errW_some] <;> rfl), by repeat (first | (with_reducible first | exact HB.out | apply below_alloc | apply pw_below_drewN | apply below_drew1 | refine below_set ?_ GE101.out) | exact HB.out)⟩
  ·rw [if_neg c4] at H
   have c4b0 : (t116 == 3) = false := beq_eq_false_iff_ne.mpr c4
   have c4b1 : (t116 != 3) = true := bne_iff_ne.mpr c4
   obtain rfl := Option.some.inj H
   go_enter Try.func25, Try.ntmps25
   go_wp2_with (first | ((with_reducible refine gate_dst (N := 1) rfl ?_); refine bx 1 #[.int .i64 0, .int .i64 0, .int .i64 0, .int .i64 0, .int .i64 0, .int .i64 0] 29 ?_; intro gb101 hg w44 hbox hb; have n0_ := Aside0.mk (below_step Z0 hb); have n1_ := Aside0.mk (hbox); have n2_ := Aside0.mk ((by rw [hg]; exact (below_size Z0) : w.heap.size ≤ gb101)); have n3_ := Aside0.mk ((by rw [hg]; exact (below_size Z0) : w.heap.size ≤ gb101)); clear HB; have HB := n0_; have BK101 := n1_; have GW101 := n2_; have GE101 := n3_; clear n0_ n1_ n2_ n3_; clear hb hbox hg; have hcz45_0 : w44.cell? ⟨gb101, 0, none⟩ = some (.int .i64 0) := (blk_cell BK101.out 0).trans rfl; have hcz45_1 : w44.cell? ⟨gb101, 1, none⟩ = some (.int .i64 0) := (blk_cell BK101.out 1).trans rfl; have hcz45_2 : w44.cell? ⟨gb101, 2, none⟩ = some (.int .i64 0) := (blk_cell BK101.out 2).trans rfl; have hcz45_3 : w44.cell? ⟨gb101, 3, none⟩ = some (.int .i64 0) := (blk_cell BK101.out 3).trans rfl; have hcz45_4 : w44.cell? ⟨gb101, 4, none⟩ = some (.int .i64 0) := (blk_cell BK101.out 4).trans rfl; have hcz45_5 : w44.cell? ⟨gb101, 5, none⟩ = some (.int .i64 0) := (blk_cell BK101.out 5).trans rfl; have hfz45_0 := blk_frozen BK101.out 0; have hfz45_1 := blk_frozen BK101.out 1; have hfz45_2 := blk_frozen BK101.out 2; have hfz45_3 := blk_frozen BK101.out 3; have hfz45_4 := blk_frozen BK101.out 4; have hfz45_5 := blk_frozen BK101.out 5) | ((with_reducible refine gate_dst (N := 10) rfl ?_); refine Kd.R_lit k52 _ 52 ?hg (N := 10) ?hd (xs := ([(⟨(⟨0, 0⟩ : S48), 14, 0⟩ : S52)] : List (S52))) (inner := [.int .i64 0, .int .i64 0, .int .u64 14, .int .i64 0]) (ok := fun _ => True) (okp := fun _ => True) ?hr ?hp (fun _ hk => hk) trivial (Below.refl _ _) (Nat.le_refl _) (by simp) ?_; (case hd => rfl); (case hg => rfl); (case hr => first | (go_simp; done) | (go_simp; rfl)); (case hp => exact (Reps.c4 (show Kd.M k52 _ _ _ (⟨(⟨0, 0⟩ : S48), 14, 0⟩ : S52) [.int .i64 0, .int .i64 0, .int .u64 14, .int .i64 0] from (k52_mkM _ _ _ (⟨(⟨0, 0⟩ : S48), 14, 0⟩ : S52) )) (Reps.none _ _))); intro v103 w46 ho47 hb hg_ hnew_; clear hg_ hnew_; (first | rw [← Ny102.out] at ho47 | (simp only [Int.reduceToNat] at ho47; rw [← Ny102.out] at ho47)); have n0_ := Aside0.mk (Kd.R_lower ho47 (below_size (by repeat (first | (with_reducible first | exact HB.out | apply below_alloc | apply pw_below_drewN | apply below_drew1 | refine below_set ?_ GE101.out) | exact HB.out)))); have n1_ := Aside0.mk (blk_below (g := gb101) (o := .cells #[.int .i64 0, .int .i64 2, .int .i64 1, .int .i64 0, .int .i64 1, .int .i64 2] 29 (0, 0)) (by (with_reducible repeat (first | refine blk_drewN ?_ _ | refine blk_drew ?_ | refine blk_alloc ?_ _)); refine blk_put (cs := #[.int .i64 0, .int .i64 2, .int .i64 1, .int .i64 0, .int .i64 1, .int .i64 0]) ?_ 5 _ rfl; (with_reducible repeat (first | refine blk_drewN ?_ _ | refine blk_drew ?_ | refine blk_alloc ?_ _)); refine blk_put (cs := #[.int .i64 0, .int .i64 2, .int .i64 1, .int .i64 0, .int .i64 0, .int .i64 0]) ?_ 4 _ rfl; (with_reducible repeat (first | refine blk_drewN ?_ _ | refine blk_drew ?_ | refine blk_alloc ?_ _)); refine blk_put (cs := #[.int .i64 0, .int .i64 2, .int .i64 1, .int .i64 0, .int .i64 0, .int .i64 0]) ?_ 3 _ rfl; (with_reducible repeat (first | refine blk_drewN ?_ _ | refine blk_drew ?_ | refine blk_alloc ?_ _)); refine blk_put (cs := #[.int .i64 0, .int .i64 2, .int .i64 0, .int .i64 0, .int .i64 0, .int .i64 0]) ?_ 2 _ rfl; (with_reducible repeat (first | refine blk_drewN ?_ _ | refine blk_drew ?_ | refine blk_alloc ?_ _)); refine blk_put (cs := #[.int .i64 0, .int .i64 0, .int .i64 0, .int .i64 0, .int .i64 0, .int .i64 0]) ?_ 1 _ rfl; (with_reducible repeat (first | refine blk_drewN ?_ _ | refine blk_drew ?_ | refine blk_alloc ?_ _)); refine blk_put (cs := #[.int .i64 0, .int .i64 0, .int .i64 0, .int .i64 0, .int .i64 0, .int .i64 0]) ?_ 0 _ rfl; (with_reducible repeat (first | refine blk_drewN ?_ _ | refine blk_drew ?_ | refine blk_alloc ?_ _)); exact BK101.out) hb); have n2_ := Aside0.mk (below_step (by repeat (first | (with_reducible first | exact HB.out | apply below_alloc | apply pw_below_drewN | apply below_drew1 | refine below_set ?_ GE101.out) | exact HB.out)) hb); clear BK101; clear HB; have HO104 := n0_; have BK101 := n1_; have HB := n2_; clear n0_ n1_ n2_; clear hb ho47; obtain ⟨Ao48, co48, eo48⟩ := Kd.R_slice HO104.out; subst eo48) | ((with_reducible refine gate_dst (N := 12) rfl ?_); refine Kd.N_lit k41 _ 41 ?hg (N' := 12) ?hd (xs := ([(⟨0, 0, 7, false, y102⟩ : S41)] : List (S41))) (inner := [.int .i64 0, .int .i64 0, .int .i64 7, .bool false, .slice Ao48 y102.length co48]) (ok := (fun k_ => k_ ≠ gb101)) (okp := (fun k_ => k_ ≠ gb101)) ?hr ?hp (fun _ hk => hk) ((show ∀ k_, w46.heap.size ≤ k_ → (fun k_ => k_ ≠ gb101) k_ from fun k_ hk => Kd.freshB (g := gb101) (o := .cells #[.int .i64 0, .int .i64 2, .int .i64 1, .int .i64 0, .int .i64 1, .int .i64 2] 29 (0, 0)) (by (with_reducible repeat (first | refine blk_drewN ?_ _ | refine blk_drew ?_ | refine blk_alloc ?_ _)); exact BK101.out) k_ hk) _ (Nat.le_refl _)) (Below.refl _ _) (Nat.le_refl _) (by simp) ?_; (case hd => rfl); (case hg => rfl); (case hr => first | (go_simp; done) | (go_simp; rfl)); (case hp => exact (Reps.c5 (show Kd.FK k41 _ _ (⟨0, 0, 7, false, y102⟩ : S41) [.int .i64 0, .int .i64 0, .int .i64 7, .bool false, .slice Ao48 y102.length co48] from (k41_mkF _ _ (⟨0, 0, 7, false, y102⟩ : S41) (Kd.R_reads' (Kd.R_mono (ok' := (fun k_ => k_ ≠ gb101)) (Kd.R_types (HO104.out) BK101.out (by decide)) (fun k_ hk => hk.2))).2.1 (Kd.R_F (Kd.R_mono (ok' := (fun k_ => k_ ≠ gb101)) (Kd.R_types (HO104.out) BK101.out (by decide)) (fun k_ hk => hk.2))))) (Reps.none _ _))); intro v106 w49 ho50 hb hg_ hnew_; clear hg_ hnew_; (first | rw [← Ny105.out] at ho50 | (simp only [Int.reduceToNat] at ho50; rw [← Ny105.out] at ho50)); have n0_ := Aside0.mk (Kd.N_lower ho50 (below_size (by repeat (first | (with_reducible first | exact HB.out | apply below_alloc | apply pw_below_drewN | apply below_drew1 | refine below_set ?_ GE101.out) | exact HB.out)))); have n1_ := Aside0.mk (blk_below (g := gb101) (o := .cells #[.int .i64 0, .int .i64 2, .int .i64 1, .int .i64 0, .int .i64 1, .int .i64 2] 29 (0, 0)) (by (with_reducible repeat (first | refine blk_drewN ?_ _ | refine blk_drew ?_ | refine blk_alloc ?_ _)); exact BK101.out) hb); have n2_ := Aside0.mk (below_step (by repeat (first | (with_reducible first | exact HB.out | apply below_alloc | apply pw_below_drewN | apply below_drew1 | refine below_set ?_ GE101.out) | exact HB.out)) hb); clear BK101; clear HB; clear HO104; have HO107 := n0_; have BK101 := n1_; have HB := n2_; clear n0_ n1_ n2_; clear hb ho50) | ((with_reducible refine gate_dst (N := 15) rfl ?_); refine Kd.R_lit k51 _ 51 ?hg (N := 15) ?hd (xs := ([(⟨(⟨0, 0⟩ : S48), 1, 0⟩ : S51)] : List (S51))) (inner := [.int .i64 0, .int .i64 0, .int .u64 1, .int .i64 0]) (ok := fun _ => True) (okp := fun _ => True) ?hr ?hp (fun _ hk => hk) trivial (Below.refl _ _) (Nat.le_refl _) (by simp) ?_; (case hd => rfl); (case hg => rfl); (case hr => first | (go_simp; done) | (go_simp; rfl)); (case hp => exact (Reps.c4 (show Kd.M k51 _ _ _ (⟨(⟨0, 0⟩ : S48), 1, 0⟩ : S51) [.int .i64 0, .int .i64 0, .int .u64 1, .int .i64 0] from (k51_mkM _ _ _ (⟨(⟨0, 0⟩ : S48), 1, 0⟩ : S51) )) (Reps.none _ _))); intro v109 w51 ho52 hb hg_ hnew_; clear hg_ hnew_; (first | rw [← Ny108.out] at ho52 | (simp only [Int.reduceToNat] at ho52; rw [← Ny108.out] at ho52)); have n0_ := Aside0.mk (Kd.N_elder' Z5 (Kd.R_base ho52) hb); have n1_ := Aside0.mk (Kd.R_lower ho52 (below_size (by repeat (first | (with_reducible first | exact HB.out | apply below_alloc | apply pw_below_drewN | apply below_drew1 | refine below_set ?_ GE101.out) | exact HB.out)))); have n2_ := Aside0.mk (blk_below (g := gb101) (o := .cells #[.int .i64 0, .int .i64 2, .int .i64 1, .int .i64 0, .int .i64 1, .int .i64 2] 29 (0, 0)) (by (with_reducible repeat (first | refine blk_drewN ?_ _ | refine blk_drew ?_ | refine blk_alloc ?_ _)); exact BK101.out) hb); have n3_ := Aside0.mk (below_step (by repeat (first | (with_reducible first | exact HB.out | apply below_alloc | apply pw_below_drewN | apply below_drew1 | refine below_set ?_ GE101.out) | exact HB.out)) hb); clear HO107; clear BK101; clear HB; have HO107 := n0_; have HO110 := n1_; have BK101 := n2_; have HB := n3_; clear n0_ n1_ n2_ n3_; clear hb ho52; have hcz53_0 : w51.cell? ⟨gb101, 0, none⟩ = some (.int .i64 0) := (blk_cell BK101.out 0).trans rfl; have hcz53_1 : w51.cell? ⟨gb101, 1, none⟩ = some (.int .i64 2) := (blk_cell BK101.out 1).trans rfl; have hcz53_2 : w51.cell? ⟨gb101, 2, none⟩ = some (.int .i64 1) := (blk_cell BK101.out 2).trans rfl; have hcz53_3 : w51.cell? ⟨gb101, 3, none⟩ = some (.int .i64 0) := (blk_cell BK101.out 3).trans rfl; have hcz53_4 : w51.cell? ⟨gb101, 4, none⟩ = some (.int .i64 1) := (blk_cell BK101.out 4).trans rfl; have hcz53_5 : w51.cell? ⟨gb101, 5, none⟩ = some (.int .i64 2) := (blk_cell BK101.out 5).trans rfl; have hfz53_0 := blk_frozen BK101.out 0; have hfz53_1 := blk_frozen BK101.out 1; have hfz53_2 := blk_frozen BK101.out 2; have hfz53_3 := blk_frozen BK101.out 3; have hfz53_4 := blk_frozen BK101.out 4; have hfz53_5 := blk_frozen BK101.out 5; obtain ⟨Ao54, co54, eo54⟩ := Kd.R_slice HO110.out; subst eo54; obtain ⟨Ao55, co55, eo55⟩ := Kd.N_slice HO107.out; subst eo55) | ((with_reducible refine gate_callee (f := 27) rfl ?_); refine goesL_ (some 19) rfl rfl Try.func27 (by kernel_rfl) rfl #[.int .i64 3, .slice Ao54 y108.length co54, .agg #[.int .i64 9, .int .i64 0], .slice Ao55 y105.length co55, .agg #[.int .i64 0, .int .i64 2, .int .i64 1, .int .i64 0, .int .i64 1, .int .i64 2]] rfl Z1 ?_; (with_reducible refine (promise_Earliest.calls 3 _ _ y108 9 0 _ _ y105 0 2 1 0 1 2 t111 t112 _ ?side1 ?side2 ?side3 ?side4 A1.out).mono ?_); (case side1 => repeat (first | exact (Kd.R_reads' HO110.out).2.2 | (with_reducible refine Kd.C_alloc ?_ _) | (with_reducible refine Kd.C_drewN ?_ _) | (with_reducible refine Kd.C_drew ?_))); (case side2 => exact (Kd.R_reads' HO110.out).2.1); (case side3 => repeat (first | exact (Kd.N_reads' HO107.out).2.2 | (with_reducible refine Kd.C_alloc ?_ _) | (with_reducible refine Kd.C_drewN ?_ _) | (with_reducible refine Kd.C_drew ?_))); (case side4 => exact (Kd.N_reads' HO107.out).2.1); rintro e w56 ⟨rfl, hb⟩; refine ⟨_, rfl, ?_⟩; have n0_ := Aside0.mk (Kd.N_below Z5 hb); have n1_ := Aside0.mk (Kd.R_below Z7 hb); have n2_ := Aside0.mk (blk_below (g := gb101) (o := .cells #[.int .i64 0, .int .i64 2, .int .i64 1, .int .i64 0, .int .i64 1, .int .i64 2] 29 (0, 0)) (by (with_reducible repeat (first | refine blk_drewN ?_ _ | refine blk_drew ?_ | refine blk_alloc ?_ _)); exact BK101.out) hb); have n3_ := Aside0.mk (below_step (by repeat (first | (with_reducible first | exact HB.out | apply below_alloc | apply pw_below_drewN | apply below_drew1 | refine below_set ?_ GE101.out) | exact HB.out)) hb); clear HO107; clear HO110; clear BK101; clear HB; have HO107 := n0_; have HO110 := n1_; have BK101 := n2_; have HB := n3_; clear n0_ n1_ n2_ n3_; (try clear hb); (try clear hb2); (try clear hk); (try clear hi); have hcz57_0 : w56.cell? ⟨gb101, 0, none⟩ = some (.int .i64 0) := (blk_cell BK101.out 0).trans rfl; have hcz57_1 : w56.cell? ⟨gb101, 1, none⟩ = some (.int .i64 2) := (blk_cell BK101.out 1).trans rfl; have hcz57_2 : w56.cell? ⟨gb101, 2, none⟩ = some (.int .i64 1) := (blk_cell BK101.out 2).trans rfl; have hcz57_3 : w56.cell? ⟨gb101, 3, none⟩ = some (.int .i64 0) := (blk_cell BK101.out 3).trans rfl; have hcz57_4 : w56.cell? ⟨gb101, 4, none⟩ = some (.int .i64 1) := (blk_cell BK101.out 4).trans rfl; have hcz57_5 : w56.cell? ⟨gb101, 5, none⟩ = some (.int .i64 2) := (blk_cell BK101.out 5).trans rfl; have hfz57_0 := blk_frozen BK101.out 0; have hfz57_1 := blk_frozen BK101.out 1; have hfz57_2 := blk_frozen BK101.out 2; have hfz57_3 := blk_frozen BK101.out 3; have hfz57_4 := blk_frozen BK101.out 4; have hfz57_5 := blk_frozen BK101.out 5) | ((with_reducible refine gate_dst (N := 25) rfl ?_); refine Kd.R_lit k51 _ 51 ?hg (N := 25) ?hd (xs := ([(⟨(⟨0, 0⟩ : S48), 1, 0⟩ : S51)] : List (S51))) (inner := [.int .i64 0, .int .i64 0, .int .u64 1, .int .i64 0]) (ok := fun _ => True) (okp := fun _ => True) ?hr ?hp (fun _ hk => hk) trivial (Below.refl _ _) (Nat.le_refl _) (by simp) ?_; (case hd => rfl); (case hg => rfl); (case hr => first | (go_simp; done) | (go_simp; rfl)); (case hp => exact (Reps.c4 (show Kd.M k51 _ _ _ (⟨(⟨0, 0⟩ : S48), 1, 0⟩ : S51) [.int .i64 0, .int .i64 0, .int .u64 1, .int .i64 0] from (k51_mkM _ _ _ (⟨(⟨0, 0⟩ : S48), 1, 0⟩ : S51) )) (Reps.none _ _))); intro v114 w58 ho59 hb hg_ hnew_; clear hg_ hnew_; (first | rw [← Ny113.out] at ho59 | (simp only [Int.reduceToNat] at ho59; rw [← Ny113.out] at ho59)); have n0_ := Aside0.mk (Kd.N_elder' Z6 (Kd.R_base ho59) hb); have n1_ := Aside0.mk (Kd.R_elder' Z3 (Kd.R_base ho59) hb); have n2_ := Aside0.mk (Kd.R_lower (Kd.R_new' ho59 (Kd.R_lt Z3)) (below_size (by repeat (first | (with_reducible first | exact HB.out | apply below_alloc | apply pw_below_drewN | apply below_drew1 | refine below_set ?_ GE101.out) | exact HB.out)))); have n3_ := Aside0.mk (blk_below (g := gb101) (o := .cells #[.int .i64 0, .int .i64 1, .int .i64 1, .int .i64 0, .int .i64 1, .int .i64 2] 29 (0, 0)) (by (with_reducible repeat (first | refine blk_drewN ?_ _ | refine blk_drew ?_ | refine blk_alloc ?_ _)); refine blk_put (cs := #[.int .i64 0, .int .i64 2, .int .i64 1, .int .i64 0, .int .i64 1, .int .i64 2]) ?_ 1 _ rfl; (with_reducible repeat (first | refine blk_drewN ?_ _ | refine blk_drew ?_ | refine blk_alloc ?_ _)); exact BK101.out) hb); have n4_ := Aside0.mk (below_step (by repeat (first | (with_reducible first | exact HB.out | apply below_alloc | apply pw_below_drewN | apply below_drew1 | refine below_set ?_ GE101.out) | exact HB.out)) hb); clear HO107; clear HO110; clear BK101; clear HB; have HO107 := n0_; have HO110 := n1_; have HO115 := n2_; have BK101 := n3_; have HB := n4_; clear n0_ n1_ n2_ n3_ n4_; clear hb ho59; have hcz60_0 : w58.cell? ⟨gb101, 0, none⟩ = some (.int .i64 0) := (blk_cell BK101.out 0).trans rfl; have hcz60_1 : w58.cell? ⟨gb101, 1, none⟩ = some (.int .i64 1) := (blk_cell BK101.out 1).trans rfl; have hcz60_2 : w58.cell? ⟨gb101, 2, none⟩ = some (.int .i64 1) := (blk_cell BK101.out 2).trans rfl; have hcz60_3 : w58.cell? ⟨gb101, 3, none⟩ = some (.int .i64 0) := (blk_cell BK101.out 3).trans rfl; have hcz60_4 : w58.cell? ⟨gb101, 4, none⟩ = some (.int .i64 1) := (blk_cell BK101.out 4).trans rfl; have hcz60_5 : w58.cell? ⟨gb101, 5, none⟩ = some (.int .i64 2) := (blk_cell BK101.out 5).trans rfl; have hfz60_0 := blk_frozen BK101.out 0; have hfz60_1 := blk_frozen BK101.out 1; have hfz60_2 := blk_frozen BK101.out 2; have hfz60_3 := blk_frozen BK101.out 3; have hfz60_4 := blk_frozen BK101.out 4; have hfz60_5 := blk_frozen BK101.out 5; obtain ⟨Ao61, co61, eo61⟩ := Kd.R_slice HO115.out; subst eo61) | ((with_reducible refine gate_callee (f := 27) rfl ?_); refine goesL_ (some 29) rfl rfl Try.func27 (by kernel_rfl) rfl #[.int .i64 3, .slice Ao61 y113.length co61, .agg #[.int .i64 9, .int .i64 0], .slice Ao55 y105.length co55, .agg #[.int .i64 0, .int .i64 1, .int .i64 1, .int .i64 0, .int .i64 1, .int .i64 2]] rfl Z1 ?_; (with_reducible refine (promise_Earliest.calls 3 _ _ y113 9 0 _ _ y105 0 1 1 0 1 2 t116 t117 _ ?side1 ?side2 ?side3 ?side4 A2.out).mono ?_); (case side1 => repeat (first | exact (Kd.R_reads' HO115.out).2.2 | (with_reducible refine Kd.C_alloc ?_ _) | (with_reducible refine Kd.C_drewN ?_ _) | (with_reducible refine Kd.C_drew ?_))); (case side2 => exact (Kd.R_reads' HO115.out).2.1); (case side3 => repeat (first | exact (Kd.N_reads' HO107.out).2.2 | (with_reducible refine Kd.C_alloc ?_ _) | (with_reducible refine Kd.C_drewN ?_ _) | (with_reducible refine Kd.C_drew ?_))); (case side4 => exact (Kd.N_reads' HO107.out).2.1); rintro e w62 ⟨rfl, hb⟩; refine ⟨_, rfl, ?_⟩; have n0_ := Aside0.mk (Kd.N_below Z5 hb); have n1_ := Aside0.mk (Kd.R_below Z7 hb); have n2_ := Aside0.mk (Kd.R_below Z8 hb); have n3_ := Aside0.mk (blk_below (g := gb101) (o := .cells #[.int .i64 0, .int .i64 1, .int .i64 1, .int .i64 0, .int .i64 1, .int .i64 2] 29 (0, 0)) (by (with_reducible repeat (first | refine blk_drewN ?_ _ | refine blk_drew ?_ | refine blk_alloc ?_ _)); exact BK101.out) hb); have n4_ := Aside0.mk (below_step (by repeat (first | (with_reducible first | exact HB.out | apply below_alloc | apply pw_below_drewN | apply below_drew1 | refine below_set ?_ GE101.out) | exact HB.out)) hb); clear HO107; clear HO110; clear HO115; clear BK101; clear HB; have HO107 := n0_; have HO110 := n1_; have HO115 := n2_; have BK101 := n3_; have HB := n4_; clear n0_ n1_ n2_ n3_ n4_; (try clear hb); (try clear hb2); (try clear hk); (try clear hi)))
   go_ret
   exact ⟨by first | rfl | (simp [errW_none, errW_some] <;> rfl) | (simp [*, errW_none, errW_some] <;> rfl), by repeat (first | (with_reducible first | exact HB.out | apply below_alloc | apply pw_below_drewN | apply below_drew1 | refine below_set ?_ GE101.out) | exact HB.out)⟩
 ·rw [if_neg c3] at H
  have c3b0 : (t111 == 7) = false := beq_eq_false_iff_ne.mpr c3
  have c3b1 : (t111 != 7) = true := bne_iff_ne.mpr c3
  obtain rfl := Option.some.inj H
  go_enter Try.func25, Try.ntmps25
  go_wp2_with (first | ((with_reducible refine gate_dst (N := 1) rfl ?_); refine bx 1 #[.int .i64 0, .int .i64 0, .int .i64 0, .int .i64 0, .int .i64 0, .int .i64 0] 29 ?_; intro gb101 hg w63 hbox hb; have n0_ := Aside0.mk (below_step Z0 hb); have n1_ := Aside0.mk (hbox); have n2_ := Aside0.mk ((by rw [hg]; exact (below_size Z0) : w.heap.size ≤ gb101)); have n3_ := Aside0.mk ((by rw [hg]; exact (below_size Z0) : w.heap.size ≤ gb101)); clear HB; have HB := n0_; have BK101 := n1_; have GW101 := n2_; have GE101 := n3_; clear n0_ n1_ n2_ n3_; clear hb hbox hg; have hcz64_0 : w63.cell? ⟨gb101, 0, none⟩ = some (.int .i64 0) := (blk_cell BK101.out 0).trans rfl; have hcz64_1 : w63.cell? ⟨gb101, 1, none⟩ = some (.int .i64 0) := (blk_cell BK101.out 1).trans rfl; have hcz64_2 : w63.cell? ⟨gb101, 2, none⟩ = some (.int .i64 0) := (blk_cell BK101.out 2).trans rfl; have hcz64_3 : w63.cell? ⟨gb101, 3, none⟩ = some (.int .i64 0) := (blk_cell BK101.out 3).trans rfl; have hcz64_4 : w63.cell? ⟨gb101, 4, none⟩ = some (.int .i64 0) := (blk_cell BK101.out 4).trans rfl; have hcz64_5 : w63.cell? ⟨gb101, 5, none⟩ = some (.int .i64 0) := (blk_cell BK101.out 5).trans rfl; have hfz64_0 := blk_frozen BK101.out 0; have hfz64_1 := blk_frozen BK101.out 1; have hfz64_2 := blk_frozen BK101.out 2; have hfz64_3 := blk_frozen BK101.out 3; have hfz64_4 := blk_frozen BK101.out 4; have hfz64_5 := blk_frozen BK101.out 5) | ((with_reducible refine gate_dst (N := 10) rfl ?_); refine Kd.R_lit k52 _ 52 ?hg (N := 10) ?hd (xs := ([(⟨(⟨0, 0⟩ : S48), 14, 0⟩ : S52)] : List (S52))) (inner := [.int .i64 0, .int .i64 0, .int .u64 14, .int .i64 0]) (ok := fun _ => True) (okp := fun _ => True) ?hr ?hp (fun _ hk => hk) trivial (Below.refl _ _) (Nat.le_refl _) (by simp) ?_; (case hd => rfl); (case hg => rfl); (case hr => first | (go_simp; done) | (go_simp; rfl)); (case hp => exact (Reps.c4 (show Kd.M k52 _ _ _ (⟨(⟨0, 0⟩ : S48), 14, 0⟩ : S52) [.int .i64 0, .int .i64 0, .int .u64 14, .int .i64 0] from (k52_mkM _ _ _ (⟨(⟨0, 0⟩ : S48), 14, 0⟩ : S52) )) (Reps.none _ _))); intro v103 w65 ho66 hb hg_ hnew_; clear hg_ hnew_; (first | rw [← Ny102.out] at ho66 | (simp only [Int.reduceToNat] at ho66; rw [← Ny102.out] at ho66)); have n0_ := Aside0.mk (Kd.R_lower ho66 (below_size (by repeat (first | (with_reducible first | exact HB.out | apply below_alloc | apply pw_below_drewN | apply below_drew1 | refine below_set ?_ GE101.out) | exact HB.out)))); have n1_ := Aside0.mk (blk_below (g := gb101) (o := .cells #[.int .i64 0, .int .i64 2, .int .i64 1, .int .i64 0, .int .i64 1, .int .i64 2] 29 (0, 0)) (by (with_reducible repeat (first | refine blk_drewN ?_ _ | refine blk_drew ?_ | refine blk_alloc ?_ _)); refine blk_put (cs := #[.int .i64 0, .int .i64 2, .int .i64 1, .int .i64 0, .int .i64 1, .int .i64 0]) ?_ 5 _ rfl; (with_reducible repeat (first | refine blk_drewN ?_ _ | refine blk_drew ?_ | refine blk_alloc ?_ _)); refine blk_put (cs := #[.int .i64 0, .int .i64 2, .int .i64 1, .int .i64 0, .int .i64 0, .int .i64 0]) ?_ 4 _ rfl; (with_reducible repeat (first | refine blk_drewN ?_ _ | refine blk_drew ?_ | refine blk_alloc ?_ _)); refine blk_put (cs := #[.int .i64 0, .int .i64 2, .int .i64 1, .int .i64 0, .int .i64 0, .int .i64 0]) ?_ 3 _ rfl; (with_reducible repeat (first | refine blk_drewN ?_ _ | refine blk_drew ?_ | refine blk_alloc ?_ _)); refine blk_put (cs := #[.int .i64 0, .int .i64 2, .int .i64 0, .int .i64 0, .int .i64 0, .int .i64 0]) ?_ 2 _ rfl; (with_reducible repeat (first | refine blk_drewN ?_ _ | refine blk_drew ?_ | refine blk_alloc ?_ _)); refine blk_put (cs := #[.int .i64 0, .int .i64 0, .int .i64 0, .int .i64 0, .int .i64 0, .int .i64 0]) ?_ 1 _ rfl; (with_reducible repeat (first | refine blk_drewN ?_ _ | refine blk_drew ?_ | refine blk_alloc ?_ _)); refine blk_put (cs := #[.int .i64 0, .int .i64 0, .int .i64 0, .int .i64 0, .int .i64 0, .int .i64 0]) ?_ 0 _ rfl; (with_reducible repeat (first | refine blk_drewN ?_ _ | refine blk_drew ?_ | refine blk_alloc ?_ _)); exact BK101.out) hb); have n2_ := Aside0.mk (below_step (by repeat (first | (with_reducible first | exact HB.out | apply below_alloc | apply pw_below_drewN | apply below_drew1 | refine below_set ?_ GE101.out) | exact HB.out)) hb); clear BK101; clear HB; have HO104 := n0_; have BK101 := n1_; have HB := n2_; clear n0_ n1_ n2_; clear hb ho66; obtain ⟨Ao67, co67, eo67⟩ := Kd.R_slice HO104.out; subst eo67) | ((with_reducible refine gate_dst (N := 12) rfl ?_); refine Kd.N_lit k41 _ 41 ?hg (N' := 12) ?hd (xs := ([(⟨0, 0, 7, false, y102⟩ : S41)] : List (S41))) (inner := [.int .i64 0, .int .i64 0, .int .i64 7, .bool false, .slice Ao67 y102.length co67]) (ok := (fun k_ => k_ ≠ gb101)) (okp := (fun k_ => k_ ≠ gb101)) ?hr ?hp (fun _ hk => hk) ((show ∀ k_, w65.heap.size ≤ k_ → (fun k_ => k_ ≠ gb101) k_ from fun k_ hk => Kd.freshB (g := gb101) (o := .cells #[.int .i64 0, .int .i64 2, .int .i64 1, .int .i64 0, .int .i64 1, .int .i64 2] 29 (0, 0)) (by (with_reducible repeat (first | refine blk_drewN ?_ _ | refine blk_drew ?_ | refine blk_alloc ?_ _)); exact BK101.out) k_ hk) _ (Nat.le_refl _)) (Below.refl _ _) (Nat.le_refl _) (by simp) ?_; (case hd => rfl); (case hg => rfl); (case hr => first | (go_simp; done) | (go_simp; rfl)); (case hp => exact (Reps.c5 (show Kd.FK k41 _ _ (⟨0, 0, 7, false, y102⟩ : S41) [.int .i64 0, .int .i64 0, .int .i64 7, .bool false, .slice Ao67 y102.length co67] from (k41_mkF _ _ (⟨0, 0, 7, false, y102⟩ : S41) (Kd.R_reads' (Kd.R_mono (ok' := (fun k_ => k_ ≠ gb101)) (Kd.R_types (HO104.out) BK101.out (by decide)) (fun k_ hk => hk.2))).2.1 (Kd.R_F (Kd.R_mono (ok' := (fun k_ => k_ ≠ gb101)) (Kd.R_types (HO104.out) BK101.out (by decide)) (fun k_ hk => hk.2))))) (Reps.none _ _))); intro v106 w68 ho69 hb hg_ hnew_; clear hg_ hnew_; (first | rw [← Ny105.out] at ho69 | (simp only [Int.reduceToNat] at ho69; rw [← Ny105.out] at ho69)); have n0_ := Aside0.mk (Kd.N_lower ho69 (below_size (by repeat (first | (with_reducible first | exact HB.out | apply below_alloc | apply pw_below_drewN | apply below_drew1 | refine below_set ?_ GE101.out) | exact HB.out)))); have n1_ := Aside0.mk (blk_below (g := gb101) (o := .cells #[.int .i64 0, .int .i64 2, .int .i64 1, .int .i64 0, .int .i64 1, .int .i64 2] 29 (0, 0)) (by (with_reducible repeat (first | refine blk_drewN ?_ _ | refine blk_drew ?_ | refine blk_alloc ?_ _)); exact BK101.out) hb); have n2_ := Aside0.mk (below_step (by repeat (first | (with_reducible first | exact HB.out | apply below_alloc | apply pw_below_drewN | apply below_drew1 | refine below_set ?_ GE101.out) | exact HB.out)) hb); clear BK101; clear HB; clear HO104; have HO107 := n0_; have BK101 := n1_; have HB := n2_; clear n0_ n1_ n2_; clear hb ho69) | ((with_reducible refine gate_dst (N := 15) rfl ?_); refine Kd.R_lit k51 _ 51 ?hg (N := 15) ?hd (xs := ([(⟨(⟨0, 0⟩ : S48), 1, 0⟩ : S51)] : List (S51))) (inner := [.int .i64 0, .int .i64 0, .int .u64 1, .int .i64 0]) (ok := fun _ => True) (okp := fun _ => True) ?hr ?hp (fun _ hk => hk) trivial (Below.refl _ _) (Nat.le_refl _) (by simp) ?_; (case hd => rfl); (case hg => rfl); (case hr => first | (go_simp; done) | (go_simp; rfl)); (case hp => exact (Reps.c4 (show Kd.M k51 _ _ _ (⟨(⟨0, 0⟩ : S48), 1, 0⟩ : S51) [.int .i64 0, .int .i64 0, .int .u64 1, .int .i64 0] from (k51_mkM _ _ _ (⟨(⟨0, 0⟩ : S48), 1, 0⟩ : S51) )) (Reps.none _ _))); intro v109 w70 ho71 hb hg_ hnew_; clear hg_ hnew_; (first | rw [← Ny108.out] at ho71 | (simp only [Int.reduceToNat] at ho71; rw [← Ny108.out] at ho71)); have n0_ := Aside0.mk (Kd.N_elder' Z5 (Kd.R_base ho71) hb); have n1_ := Aside0.mk (Kd.R_lower ho71 (below_size (by repeat (first | (with_reducible first | exact HB.out | apply below_alloc | apply pw_below_drewN | apply below_drew1 | refine below_set ?_ GE101.out) | exact HB.out)))); have n2_ := Aside0.mk (blk_below (g := gb101) (o := .cells #[.int .i64 0, .int .i64 2, .int .i64 1, .int .i64 0, .int .i64 1, .int .i64 2] 29 (0, 0)) (by (with_reducible repeat (first | refine blk_drewN ?_ _ | refine blk_drew ?_ | refine blk_alloc ?_ _)); exact BK101.out) hb); have n3_ := Aside0.mk (below_step (by repeat (first | (with_reducible first | exact HB.out | apply below_alloc | apply pw_below_drewN | apply below_drew1 | refine below_set ?_ GE101.out) | exact HB.out)) hb); clear HO107; clear BK101; clear HB; have HO107 := n0_; have HO110 := n1_; have BK101 := n2_; have HB := n3_; clear n0_ n1_ n2_ n3_; clear hb ho71; have hcz72_0 : w70.cell? ⟨gb101, 0, none⟩ = some (.int .i64 0) := (blk_cell BK101.out 0).trans rfl; have hcz72_1 : w70.cell? ⟨gb101, 1, none⟩ = some (.int .i64 2) := (blk_cell BK101.out 1).trans rfl; have hcz72_2 : w70.cell? ⟨gb101, 2, none⟩ = some (.int .i64 1) := (blk_cell BK101.out 2).trans rfl; have hcz72_3 : w70.cell? ⟨gb101, 3, none⟩ = some (.int .i64 0) := (blk_cell BK101.out 3).trans rfl; have hcz72_4 : w70.cell? ⟨gb101, 4, none⟩ = some (.int .i64 1) := (blk_cell BK101.out 4).trans rfl; have hcz72_5 : w70.cell? ⟨gb101, 5, none⟩ = some (.int .i64 2) := (blk_cell BK101.out 5).trans rfl; have hfz72_0 := blk_frozen BK101.out 0; have hfz72_1 := blk_frozen BK101.out 1; have hfz72_2 := blk_frozen BK101.out 2; have hfz72_3 := blk_frozen BK101.out 3; have hfz72_4 := blk_frozen BK101.out 4; have hfz72_5 := blk_frozen BK101.out 5; obtain ⟨Ao73, co73, eo73⟩ := Kd.R_slice HO110.out; subst eo73; obtain ⟨Ao74, co74, eo74⟩ := Kd.N_slice HO107.out; subst eo74) | ((with_reducible refine gate_callee (f := 27) rfl ?_); refine goesL_ (some 19) rfl rfl Try.func27 (by kernel_rfl) rfl #[.int .i64 3, .slice Ao73 y108.length co73, .agg #[.int .i64 9, .int .i64 0], .slice Ao74 y105.length co74, .agg #[.int .i64 0, .int .i64 2, .int .i64 1, .int .i64 0, .int .i64 1, .int .i64 2]] rfl Z1 ?_; (with_reducible refine (promise_Earliest.calls 3 _ _ y108 9 0 _ _ y105 0 2 1 0 1 2 t111 t112 _ ?side1 ?side2 ?side3 ?side4 A1.out).mono ?_); (case side1 => repeat (first | exact (Kd.R_reads' HO110.out).2.2 | (with_reducible refine Kd.C_alloc ?_ _) | (with_reducible refine Kd.C_drewN ?_ _) | (with_reducible refine Kd.C_drew ?_))); (case side2 => exact (Kd.R_reads' HO110.out).2.1); (case side3 => repeat (first | exact (Kd.N_reads' HO107.out).2.2 | (with_reducible refine Kd.C_alloc ?_ _) | (with_reducible refine Kd.C_drewN ?_ _) | (with_reducible refine Kd.C_drew ?_))); (case side4 => exact (Kd.N_reads' HO107.out).2.1); rintro e w75 ⟨rfl, hb⟩; refine ⟨_, rfl, ?_⟩; have n0_ := Aside0.mk (Kd.N_below Z5 hb); have n1_ := Aside0.mk (Kd.R_below Z7 hb); have n2_ := Aside0.mk (blk_below (g := gb101) (o := .cells #[.int .i64 0, .int .i64 2, .int .i64 1, .int .i64 0, .int .i64 1, .int .i64 2] 29 (0, 0)) (by (with_reducible repeat (first | refine blk_drewN ?_ _ | refine blk_drew ?_ | refine blk_alloc ?_ _)); exact BK101.out) hb); have n3_ := Aside0.mk (below_step (by repeat (first | (with_reducible first | exact HB.out | apply below_alloc | apply pw_below_drewN | apply below_drew1 | refine below_set ?_ GE101.out) | exact HB.out)) hb); clear HO107; clear HO110; clear BK101; clear HB; have HO107 := n0_; have HO110 := n1_; have BK101 := n2_; have HB := n3_; clear n0_ n1_ n2_ n3_; (try clear hb); (try clear hb2); (try clear hk); (try clear hi); have hcz76_0 : w75.cell? ⟨gb101, 0, none⟩ = some (.int .i64 0) := (blk_cell BK101.out 0).trans rfl; have hcz76_1 : w75.cell? ⟨gb101, 1, none⟩ = some (.int .i64 2) := (blk_cell BK101.out 1).trans rfl; have hcz76_2 : w75.cell? ⟨gb101, 2, none⟩ = some (.int .i64 1) := (blk_cell BK101.out 2).trans rfl; have hcz76_3 : w75.cell? ⟨gb101, 3, none⟩ = some (.int .i64 0) := (blk_cell BK101.out 3).trans rfl; have hcz76_4 : w75.cell? ⟨gb101, 4, none⟩ = some (.int .i64 1) := (blk_cell BK101.out 4).trans rfl; have hcz76_5 : w75.cell? ⟨gb101, 5, none⟩ = some (.int .i64 2) := (blk_cell BK101.out 5).trans rfl; have hfz76_0 := blk_frozen BK101.out 0; have hfz76_1 := blk_frozen BK101.out 1; have hfz76_2 := blk_frozen BK101.out 2; have hfz76_3 := blk_frozen BK101.out 3; have hfz76_4 := blk_frozen BK101.out 4; have hfz76_5 := blk_frozen BK101.out 5) | ((with_reducible refine gate_dst (N := 25) rfl ?_); refine Kd.R_lit k51 _ 51 ?hg (N := 25) ?hd (xs := ([(⟨(⟨0, 0⟩ : S48), 1, 0⟩ : S51)] : List (S51))) (inner := [.int .i64 0, .int .i64 0, .int .u64 1, .int .i64 0]) (ok := fun _ => True) (okp := fun _ => True) ?hr ?hp (fun _ hk => hk) trivial (Below.refl _ _) (Nat.le_refl _) (by simp) ?_; (case hd => rfl); (case hg => rfl); (case hr => first | (go_simp; done) | (go_simp; rfl)); (case hp => exact (Reps.c4 (show Kd.M k51 _ _ _ (⟨(⟨0, 0⟩ : S48), 1, 0⟩ : S51) [.int .i64 0, .int .i64 0, .int .u64 1, .int .i64 0] from (k51_mkM _ _ _ (⟨(⟨0, 0⟩ : S48), 1, 0⟩ : S51) )) (Reps.none _ _))); intro v114 w77 ho78 hb hg_ hnew_; clear hg_ hnew_; (first | rw [← Ny113.out] at ho78 | (simp only [Int.reduceToNat] at ho78; rw [← Ny113.out] at ho78)); have n0_ := Aside0.mk (Kd.N_elder' Z6 (Kd.R_base ho78) hb); have n1_ := Aside0.mk (Kd.R_elder' Z3 (Kd.R_base ho78) hb); have n2_ := Aside0.mk (Kd.R_lower (Kd.R_new' ho78 (Kd.R_lt Z3)) (below_size (by repeat (first | (with_reducible first | exact HB.out | apply below_alloc | apply pw_below_drewN | apply below_drew1 | refine below_set ?_ GE101.out) | exact HB.out)))); have n3_ := Aside0.mk (blk_below (g := gb101) (o := .cells #[.int .i64 0, .int .i64 1, .int .i64 1, .int .i64 0, .int .i64 1, .int .i64 2] 29 (0, 0)) (by (with_reducible repeat (first | refine blk_drewN ?_ _ | refine blk_drew ?_ | refine blk_alloc ?_ _)); refine blk_put (cs := #[.int .i64 0, .int .i64 2, .int .i64 1, .int .i64 0, .int .i64 1, .int .i64 2]) ?_ 1 _ rfl; (with_reducible repeat (first | refine blk_drewN ?_ _ | refine blk_drew ?_ | refine blk_alloc ?_ _)); exact BK101.out) hb); have n4_ := Aside0.mk (below_step (by repeat (first | (with_reducible first | exact HB.out | apply below_alloc | apply pw_below_drewN | apply below_drew1 | refine below_set ?_ GE101.out) | exact HB.out)) hb); clear HO107; clear HO110; clear BK101; clear HB; have HO107 := n0_; have HO110 := n1_; have HO115 := n2_; have BK101 := n3_; have HB := n4_; clear n0_ n1_ n2_ n3_ n4_; clear hb ho78; have hcz79_0 : w77.cell? ⟨gb101, 0, none⟩ = some (.int .i64 0) := (blk_cell BK101.out 0).trans rfl; have hcz79_1 : w77.cell? ⟨gb101, 1, none⟩ = some (.int .i64 1) := (blk_cell BK101.out 1).trans rfl; have hcz79_2 : w77.cell? ⟨gb101, 2, none⟩ = some (.int .i64 1) := (blk_cell BK101.out 2).trans rfl; have hcz79_3 : w77.cell? ⟨gb101, 3, none⟩ = some (.int .i64 0) := (blk_cell BK101.out 3).trans rfl; have hcz79_4 : w77.cell? ⟨gb101, 4, none⟩ = some (.int .i64 1) := (blk_cell BK101.out 4).trans rfl; have hcz79_5 : w77.cell? ⟨gb101, 5, none⟩ = some (.int .i64 2) := (blk_cell BK101.out 5).trans rfl; have hfz79_0 := blk_frozen BK101.out 0; have hfz79_1 := blk_frozen BK101.out 1; have hfz79_2 := blk_frozen BK101.out 2; have hfz79_3 := blk_frozen BK101.out 3; have hfz79_4 := blk_frozen BK101.out 4; have hfz79_5 := blk_frozen BK101.out 5; obtain ⟨Ao80, co80, eo80⟩ := Kd.R_slice HO115.out; subst eo80) | ((with_reducible refine gate_callee (f := 27) rfl ?_); refine goesL_ (some 29) rfl rfl Try.func27 (by kernel_rfl) rfl #[.int .i64 3, .slice Ao80 y113.length co80, .agg #[.int .i64 9, .int .i64 0], .slice Ao74 y105.length co74, .agg #[.int .i64 0, .int .i64 1, .int .i64 1, .int .i64 0, .int .i64 1, .int .i64 2]] rfl Z1 ?_; (with_reducible refine (promise_Earliest.calls 3 _ _ y113 9 0 _ _ y105 0 1 1 0 1 2 t116 t117 _ ?side1 ?side2 ?side3 ?side4 A2.out).mono ?_); (case side1 => repeat (first | exact (Kd.R_reads' HO115.out).2.2 | (with_reducible refine Kd.C_alloc ?_ _) | (with_reducible refine Kd.C_drewN ?_ _) | (with_reducible refine Kd.C_drew ?_))); (case side2 => exact (Kd.R_reads' HO115.out).2.1); (case side3 => repeat (first | exact (Kd.N_reads' HO107.out).2.2 | (with_reducible refine Kd.C_alloc ?_ _) | (with_reducible refine Kd.C_drewN ?_ _) | (with_reducible refine Kd.C_drew ?_))); (case side4 => exact (Kd.N_reads' HO107.out).2.1); rintro e w81 ⟨rfl, hb⟩; refine ⟨_, rfl, ?_⟩; have n0_ := Aside0.mk (Kd.N_below Z5 hb); have n1_ := Aside0.mk (Kd.R_below Z7 hb); have n2_ := Aside0.mk (Kd.R_below Z8 hb); have n3_ := Aside0.mk (blk_below (g := gb101) (o := .cells #[.int .i64 0, .int .i64 1, .int .i64 1, .int .i64 0, .int .i64 1, .int .i64 2] 29 (0, 0)) (by (with_reducible repeat (first | refine blk_drewN ?_ _ | refine blk_drew ?_ | refine blk_alloc ?_ _)); exact BK101.out) hb); have n4_ := Aside0.mk (below_step (by repeat (first | (with_reducible first | exact HB.out | apply below_alloc | apply pw_below_drewN | apply below_drew1 | refine below_set ?_ GE101.out) | exact HB.out)) hb); clear HO107; clear HO110; clear HO115; clear BK101; clear HB; have HO107 := n0_; have HO110 := n1_; have HO115 := n2_; have BK101 := n3_; have HB := n4_; clear n0_ n1_ n2_ n3_ n4_; (try clear hb); (try clear hb2); (try clear hk); (try clear hi)))
  go_ret
  exact ⟨by first | rfl | (simp [errW_none, errW_some] <;> rfl) | (simp [*, errW_none, errW_some] <;> rfl), by repeat (first | (with_reducible first | exact HB.out | apply below_alloc | apply pw_below_drewN | apply below_drew1 | refine below_set ?_ GE101.out) | exact HB.out)⟩
end Go.Proofs.Ytckhjehibjdjdaa.P
namespace Go.Proofs.Ytckhjehibjdjdaa.P
open Go.RowKit Go.Proofs.YtckhjehibjdjdaaW.PrintWords Go.Proofs.YtckhjehibjdjdaaW.PrintLast Go.Proofs.YtckhjehibjdjdaaW.PrintMore
attribute [local go_sem] max2_int min2_int max_two min_two max_three min_three max_four min_four
set_option linter.unusedVariables false
set_option linter.unusedSimpArgs false
theorem eqA48 (d : Nat) (w : World) (x0 y0 : Int) (x1 y1 : Int) :
  (Op.equalIn (d + 2) 48 (.agg #[.int .i64 x0, .int .i64 x1]) (.agg #[.int .i64 y0, .int .i64 y1])).run Try.prog w = .ok (x0 == y0 && (x1 == y1)) w := by
 refine eqA_of Try.underlying48 (by kernel_rfl) ?_
 refine eqf_cons (by rfl) (by go_simp; rfl) (by go_simp; rfl) (by go_simp) ?_
 exact eqf_last (by rfl) (by go_simp; rfl) (by go_simp; rfl) (by go_simp)
end Go.Proofs.Ytckhjehibjdjdaa.P
namespace Go.Proofs.Ytckhjehibjdjdaa.P
open Go.RowKit Go.Proofs.YtckhjehibjdjdaaW.PrintWords Go.Proofs.YtckhjehibjdjdaaW.PrintLast Go.Proofs.YtckhjehibjdjdaaW.PrintMore
attribute [local go_sem] max2_int min2_int max_two min_two max_three min_three max_four min_four
set_option linter.unusedVariables false
set_option linter.unusedSimpArgs false
attribute [local go_sem high] eqA48
def ensembleref05_find.l0 : Nat → List (S51) → Int → Int → Int → Option (Int)
 | 0, _, _, _, _ => none
 | k + 1, x0, x5, x119000, x119001 => if x5 < (x0.length : Int) then (if 0 ≤ x5 then (if (((rd_T51 x0 x5).f0.f0) == x119000 && (((rd_T51 x0 x5).f0.f1) == x119001)) = true then (some x5) else (ensembleref05_find.l0 k x0 (wrap64 (x5 + 1)) x119000 x119001)) else (none)) else (some (-1))
def ensembleref05_find.f (k : Nat) (l0 : List (S51)) (a1_0 : Int) (a1_1 : Int) : Option (Int) := ensembleref05_find.l0 k l0 0 a1_0 a1_1
set_option maxHeartbeats 8000000 in
set_option maxRecDepth 100000 in
theorem ensembleref05_find.calls (k : Nat) (A0 : Option Addr) (c0 : Nat) (l0 : List (S51)) (a1_0 : Int) (a1_1 : Int) (r : Int) (w : World) (hr0 : Kd.C k51 w A0 l0.length l0) (hc0 : l0.length ≤ c0) (h : ensembleref05_find.f k l0 a1_0 a1_1 = some r) :
  Calls Try.prog 79 #[.slice A0 l0.length c0, .agg #[.int .i64 a1_0, .int .i64 a1_1]] w fun e w' => e = .returned (.int .i64 r) ∧ Below w.heap.size w w' := by
 have hu48 := Try.underlying48
 have HR0 := Aside0.mk hr0
 have HC0 := Aside0.mk hc0
 clear hr0 hc0
 have HB := Aside0.mk (Below.refl w.heap.size w)
 have H : (ensembleref05_find.l0 k l0 0 a1_0 a1_1) = some r := h
 clear h
 have H' := Aside0.mk H
 clear H
 go_enter Try.func79, Try.ntmps79
 go_wp2_with (first | ((with_reducible refine gate_dst (N := 3) rfl ?_); refine bx 3 #[.int .i64 a1_0, .int .i64 a1_1] 48 ?_; intro gb118 hg w3 hbox hb; have n0_ := Aside0.mk (below_step Z0 hb); have n1_ := Aside0.mk (hbox); have n2_ := Aside0.mk ((by rw [hg]; exact (below_size Z0) : w.heap.size ≤ gb118)); have n3_ := Aside0.mk ((by rw [hg]; exact (below_size Z0) : w.heap.size ≤ gb118)); clear HB; have HB := n0_; have BK118 := n1_; have GW118 := n2_; have GE118 := n3_; clear n0_ n1_ n2_ n3_; clear hb hbox hg))
 repeat (go_quiet (first | ((with_reducible refine gate_dst (N := 3) rfl ?_); refine bx 3 #[.int .i64 a1_0, .int .i64 a1_1] 48 ?_; intro gb118 hg w3 hbox hb; have n0_ := Aside0.mk (below_step Z0 hb); have n1_ := Aside0.mk (hbox); have n2_ := Aside0.mk ((by rw [hg]; exact (below_size Z0) : w.heap.size ≤ gb118)); have n3_ := Aside0.mk ((by rw [hg]; exact (below_size Z0) : w.heap.size ≤ gb118)); clear HB; have HB := n0_; have BK118 := n1_; have GW118 := n2_; have GE118 := n3_; clear n0_ n1_ n2_ n3_; clear hb hbox hg)); try go_wp2_with (first | ((with_reducible refine gate_dst (N := 3) rfl ?_); refine bx 3 #[.int .i64 a1_0, .int .i64 a1_1] 48 ?_; intro gb118 hg w3 hbox hb; have n0_ := Aside0.mk (below_step Z0 hb); have n1_ := Aside0.mk (hbox); have n2_ := Aside0.mk ((by rw [hg]; exact (below_size Z0) : w.heap.size ≤ gb118)); have n3_ := Aside0.mk ((by rw [hg]; exact (below_size Z0) : w.heap.size ≤ gb118)); clear HB; have HB := n0_; have BK118 := n1_; have GW118 := n2_; have GE118 := n3_; clear n0_ n1_ n2_ n3_; clear hb hbox hg)))
 go_loopg [5] k (fun kq v5 w' => ∃ (x5_1 : Int), v5 = .int .i64 x5_1 ∧ Aside0 (ensembleref05_find.l0 kq l0 x5_1 a1_0 a1_1 = some r) ∧ Aside0 (kq ≤ k) ∧ Aside0 (w'.heap[gb118]? = some (.cells #[.int .i64 a1_0, .int .i64 a1_1] 48 (0, 0))) ∧ Aside0 (Below w.heap.size w w'))
 case atStart => exact ⟨(0), Z4, H', ⟨Nat.le_refl _⟩, ⟨by (with_reducible repeat (first | refine blk_drewN ?_ _ | refine blk_drew ?_ | refine blk_alloc ?_ _)); exact BK118.out⟩, ⟨by repeat (first | (with_reducible first | exact HB.out | apply below_alloc | apply pw_below_drewN | apply below_drew1 | refine below_set ?_ GE118.out) | exact HB.out)⟩⟩
 case round =>
  clear H'
  try clear p2
  obtain ⟨x5_1, rfl, HA, HK1, BK118, HB⟩ := hrel
  cases gk with
  | zero => exact absurd HA.out (by simp [ensembleref05_find.l0])
  | succ k1 =>
   have H := HA.out
   clear HA
   simp only [ensembleref05_find.l0] at H
   by_cases c4 : x5_1 < (l0.length : Int)
   ·rw [if_pos c4] at H
    have c4b0 : decide (x5_1 < (l0.length : Int)) = true := decide_eq_true c4
    clear c4
    by_cases c5 : 0 ≤ x5_1
    ·rw [if_pos c5] at H
     have c5b0 : decide (0 ≤ x5_1) = true := decide_eq_true c5
     clear c5
     by_cases c6 : (((rd_T51 l0 x5_1).f0.f0) == a1_0 && (((rd_T51 l0 x5_1).f0.f1) == a1_1)) = true
     ·rw [if_pos c6] at H
      have c6b0 : (((rd_T51 l0 x5_1).f0.f0) == a1_0 && (((rd_T51 l0 x5_1).f0.f1) == a1_1)) = true := c6
      (try (have c6b1 : decide (((rd_T51 l0 x5_1).f0.f0) = a1_0 && (((rd_T51 l0 x5_1).f0.f1) == a1_1)) = true := by simpa using c6))
      (try (have c6b2 : (((rd_T51 l0 x5_1).f0.f0) == a1_0 && (((rd_T51 l0 x5_1).f0.f1) == a1_1)) = true := by simpa using c6))
      clear c6
      obtain rfl := Option.some.inj H
      have p119 : 0 ≤ (x5_1 : Int) := of_decide_eq_true Z2
      have q119 : x5_1 < (l0.length : Int) := of_decide_eq_true Z2
      obtain ⟨ad119, e119, hx119_0, hx119_1, hx119_2, hx119_3⟩ := at_T51 HR0.out x5_1 p119 q119
      cases e119
      replace hx119_0 := (HB.out.cell (World.block_lt_of_cell? w _ hx119_0)).trans hx119_0
      replace hx119_1 := (HB.out.cell (World.block_lt_of_cell? w _ hx119_1)).trans hx119_1
      replace hx119_2 := (HB.out.cell (World.block_lt_of_cell? w _ hx119_2)).trans hx119_2
      replace hx119_3 := (HB.out.cell (World.block_lt_of_cell? w _ hx119_3)).trans hx119_3
      replace p119 := eq_true p119
      replace q119 := eq_true q119
      have hcz7_0 : wr.cell? ⟨gb118, 0, none⟩ = some (.int .i64 a1_0) := (blk_cell BK118.out 0).trans rfl
      have hcz7_1 : wr.cell? ⟨gb118, 1, none⟩ = some (.int .i64 a1_1) := (blk_cell BK118.out 1).trans rfl
      have hfz7_0 := blk_frozen BK118.out 0
      have hfz7_1 := blk_frozen BK118.out 1
      go_wp2
      repeat (go_quiet (fail); try go_wp2)
      go_ret
      exact ⟨by first | rfl | (simp [errW_none, errW_some] <;> rfl) | (simp [*, errW_none, errW_some] <;> rfl), by repeat (first | (with_reducible first | exact HB.out | apply below_alloc | apply pw_below_drewN | apply below_drew1 | refine below_set ?_ GE118.out) | exact HB.out)⟩
     ·rw [if_neg c6] at H
      have c6b0 : (((rd_T51 l0 x5_1).f0.f0) == a1_0 && (((rd_T51 l0 x5_1).f0.f1) == a1_1)) = false := by simpa using c6
      (try (have c6b1 : decide (((rd_T51 l0 x5_1).f0.f0) = a1_0 && (((rd_T51 l0 x5_1).f0.f1) == a1_1)) = false := by simpa using c6))
      (try (have c6b2 : (((rd_T51 l0 x5_1).f0.f0) == a1_0 && (((rd_T51 l0 x5_1).f0.f1) == a1_1)) = false := by simpa using c6))
      (try (have c6b3 : ¬ (((rd_T51 l0 x5_1).f0.f0) = a1_0 && (((rd_T51 l0 x5_1).f0.f1) == a1_1)) := by simpa using c6))
      clear c6
      have H' := Aside0.mk H
      clear H
      have p119 : 0 ≤ (x5_1 : Int) := of_decide_eq_true Z2
      have q119 : x5_1 < (l0.length : Int) := of_decide_eq_true Z2
      obtain ⟨ad119, e119, hx119_0, hx119_1, hx119_2, hx119_3⟩ := at_T51 HR0.out x5_1 p119 q119
      cases e119
      replace hx119_0 := (HB.out.cell (World.block_lt_of_cell? w _ hx119_0)).trans hx119_0
      replace hx119_1 := (HB.out.cell (World.block_lt_of_cell? w _ hx119_1)).trans hx119_1
      replace hx119_2 := (HB.out.cell (World.block_lt_of_cell? w _ hx119_2)).trans hx119_2
      replace hx119_3 := (HB.out.cell (World.block_lt_of_cell? w _ hx119_3)).trans hx119_3
      replace p119 := eq_true p119
      replace q119 := eq_true q119
      have hcz8_0 : wr.cell? ⟨gb118, 0, none⟩ = some (.int .i64 a1_0) := (blk_cell BK118.out 0).trans rfl
      have hcz8_1 : wr.cell? ⟨gb118, 1, none⟩ = some (.int .i64 a1_1) := (blk_cell BK118.out 1).trans rfl
      have hfz8_0 := blk_frozen BK118.out 0
      have hfz8_1 := blk_frozen BK118.out 1
      go_wp2
      repeat (go_quiet (fail); try go_wp2)
      go_roundg k1
      case measure => have := HK1.out; omega
      case rel => exact ⟨(wrap64 (x5_1 + 1)), Z4, H', ⟨by have := HK1.out; omega⟩, ⟨by (with_reducible repeat (first | refine blk_drewN ?_ _ | refine blk_drew ?_ | refine blk_alloc ?_ _)); exact BK118.out⟩, ⟨by repeat (first | (with_reducible first | exact HB.out | apply below_alloc | apply pw_below_drewN | apply below_drew1 | refine below_set ?_ GE118.out) | exact HB.out)⟩⟩
    ·rw [if_neg c5] at H
     exact absurd H (by simp)
   ·rw [if_neg c4] at H
    have c4b0 : decide (x5_1 < (l0.length : Int)) = false := decide_eq_false c4
    clear c4
    obtain rfl := Option.some.inj H
    go_wp2
    repeat (go_quiet (fail); try go_wp2)
    go_ret
    exact ⟨by first | rfl | (simp [errW_none, errW_some] <;> rfl) | (simp [*, errW_none, errW_some] <;> rfl), by repeat (first | (with_reducible first | exact HB.out | apply below_alloc | apply pw_below_drewN | apply below_drew1 | refine below_set ?_ GE118.out) | exact HB.out)⟩
end Go.Proofs.Ytckhjehibjdjdaa.P
namespace Go.Proofs.Ytckhjehibjdjdaa.P
open Go.RowKit Go.Proofs.YtckhjehibjdjdaaW.PrintWords Go.Proofs.YtckhjehibjdjdaaW.PrintLast Go.Proofs.YtckhjehibjdjdaaW.PrintMore
attribute [local go_sem] max2_int min2_int max_two min_two max_three min_three max_four min_four
set_option linter.unusedVariables false
set_option linter.unusedSimpArgs false
def ensembleref05_Right.l0 : Nat → List (S51) → Int → Option (Bool)
 | 0, _, _ => none
 | k + 1, x0, x3 => if x3 < (x0.length : Int) then (if 0 ≤ x3 then (if ((rd_T51 x0 x3).f2) < 0 then (some false) else (if ((rd_T51 x0 x3).f2) > 1048576 then (some false) else (if x3 ≤ (x0.length : Int) then ((ensembleref05_find.f k (x0.take (x3 : Int).toNat) ((rd_T51 x0 x3).f0.f0) ((rd_T51 x0 x3).f0.f1)).bind fun t127 => (if t127 ≥ 0 then (some false) else (ensembleref05_Right.l0 k x0 (wrap64 (x3 + 1))))) else (none)))) else (none)) else (some true)
def ensembleref05_Right.f (k : Nat) (l0 : List (S51)) : Option (Bool) := ensembleref05_Right.l0 k l0 0
def ensembleref05_Right.T4 : Bool × List (List Nat × List Nat) := (true, [([], []), ([], []), ([0, 1], [0, 1]), ([2], [2]), ([3], [3]), ([4], [4]), ([5], [5]), ([6], [6]), ([6], [6]), ([7, 8, 6], [6, 7, 8]), ([9, 6], [6, 9]), ([10, 6], [6, 10]), ([11, 6], [6, 11]), ([6, 12], [6, 12]), ([13, 6], [13]), ([14], [14]), ([14], [14]), ([15, 16, 14], [14, 15, 16]), ([14], [14]), ([14], [14]), ([18, 19, 14], [14, 18, 19]), ([20, 14], [14, 20]), ([21, 14], [14, 21]), ([17, 22, 14, 14], [14, 17, 22]), ([23, 14], [14, 23]), ([14, 24], [14, 24])])
def ensembleref05_Right.B4 : List Nat := [0, 0, 3, 7, 15, 31, 63, 127, 127, 511, 1023, 2047, 4095, 8191, 16383, 32767, 32767, 131071, 32767, 32767, 819199, 1867775, 3964927, 8388607, 16777215, 33554431]
theorem ensembleref05_Right.tab4 : rtab .any (opsOf Try.f67 4) = ensembleref05_Right.T4 := by kernel_rfl
theorem ensembleref05_Right.bits4 : waitsOk ensembleref05_Right.T4.2 ensembleref05_Right.B4 = true := by kernel_rfl
set_option maxHeartbeats 8000000 in
set_option maxRecDepth 100000 in
theorem ensembleref05_Right.calls (k : Nat) (A0 : Option Addr) (c0 : Nat) (l0 : List (S51)) (r : Bool) (w : World) (hr0 : Kd.C k51 w A0 l0.length l0) (hc0 : l0.length ≤ c0) (h : ensembleref05_Right.f k l0 = some r) :
  Calls Try.prog 67 #[.slice A0 l0.length c0] w fun e w' => e = .returned (.bool r) ∧ Below w.heap.size w w' := by
 have hu48 := Try.underlying48
 have HR0 := Aside0.mk hr0
 have HC0 := Aside0.mk hc0
 clear hr0 hc0
 have HB := Aside0.mk (Below.refl w.heap.size w)
 have H : (ensembleref05_Right.l0 k l0 0) = some r := h
 clear h
 have H' := Aside0.mk H
 clear H
 go_enter Try.func67, Try.ntmps67
 go_wp2
 go_loopg [3] k (fun kq v3 w' => ∃ (x3_1 : Int), v3 = .int .i64 x3_1 ∧ Aside0 (ensembleref05_Right.l0 kq l0 x3_1 = some r) ∧ Aside0 (kq ≤ k) ∧ Aside0 (Below w.heap.size w w'))
 case atStart => exact ⟨(0), Z4, H', ⟨Nat.le_refl _⟩, ⟨by repeat (first | (with_reducible first | exact HB.out | apply below_alloc | apply pw_below_drewN | apply below_drew1) | exact HB.out)⟩⟩
 case round =>
  clear H'
  obtain ⟨x3_1, rfl, HA, HK1, HB⟩ := hrel
  cases gk with
  | zero => exact absurd HA.out (by simp [ensembleref05_Right.l0])
  | succ k1 =>
   have H := HA.out
   clear HA
   simp only [ensembleref05_Right.l0] at H
   by_cases c2 : x3_1 < (l0.length : Int)
   ·rw [if_pos c2] at H
    have c2b0 : decide (x3_1 < (l0.length : Int)) = true := decide_eq_true c2
    clear c2
    by_cases c3 : 0 ≤ x3_1
    ·rw [if_pos c3] at H
     have c3b0 : decide (0 ≤ x3_1) = true := decide_eq_true c3
     clear c3
     by_cases c4 : ((rd_T51 l0 x3_1).f2) < 0
     ·rw [if_pos c4] at H
      have c4b0 : decide (((rd_T51 l0 x3_1).f2) < 0) = true := decide_eq_true c4
      clear c4
      obtain rfl := Option.some.inj H
      try go_wp2
      have n0_ := Aside0.mk (below_drew1 HB.out)
      clear HB
      have HB := n0_
      clear n0_
      have p120 : 0 ≤ (x3_1 : Int) := of_decide_eq_true Z2
      have q120 : x3_1 < (l0.length : Int) := of_decide_eq_true Z2
      obtain ⟨ad120, e120, hx120_0, hx120_1, hx120_2, hx120_3⟩ := at_T51 HR0.out x3_1 p120 q120
      have hw120_3 := hx120_3
      have hw120_2 := hx120_2
      have hw120_1 := hx120_1
      have hw120_0 := hx120_0
      cases e120
      replace hx120_0 := (HB.out.cell (World.block_lt_of_cell? w _ hx120_0)).trans hx120_0
      replace hx120_1 := (HB.out.cell (World.block_lt_of_cell? w _ hx120_1)).trans hx120_1
      replace hx120_2 := (HB.out.cell (World.block_lt_of_cell? w _ hx120_2)).trans hx120_2
      replace hx120_3 := (HB.out.cell (World.block_lt_of_cell? w _ hx120_3)).trans hx120_3
      replace p120 := eq_true p120
      replace q120 := eq_true q120
      refine start_ (n := 26) (S := fun w' => w'.cell? (ad120.add ((x3_1).toNat * 4)) = some (.int .i64 ((rd_T51 l0 x3_1).f0.f0)) ∧ w'.cell? ⟨(ad120.add ((x3_1).toNat * 4)).block, (ad120.add ((x3_1).toNat * 4)).off + 1, none⟩ = some (.int .i64 ((rd_T51 l0 x3_1).f0.f1)) ∧ w'.cell? ⟨(ad120.add ((x3_1).toNat * 4)).block, (ad120.add ((x3_1).toNat * 4)).off + 2, none⟩ = some (.int .u64 ((rd_T51 l0 x3_1).f1)) ∧ w'.cell? ⟨(ad120.add ((x3_1).toNat * 4)).block, (ad120.add ((x3_1).toNat * 4)).off + 3, none⟩ = some (.int .i64 ((rd_T51 l0 x3_1).f2))) (ds := []) (bm 26 0) (by kernel_rfl) rfl rfl ⟨((HB.out.cell (World.block_lt_of_cell? w _ hw120_0)).trans hw120_0), ((HB.out.cell (World.block_lt_of_cell? w _ hw120_1)).trans hw120_1), ((HB.out.cell (World.block_lt_of_cell? w _ hw120_2)).trans hw120_2), ((HB.out.cell (World.block_lt_of_cell? w _ hw120_3)).trans hw120_3)⟩ (fun hHeld => ?_); refine with_tabW ensembleref05_Right.tab4 ensembleref05_Right.bits4 (fun HT_ HW_ => ?_)
      generalize wr.drew = w5 at HB hx120_0 hx120_1 hx120_2 hx120_3 hHeld ⊢
      refine pu 0 (some 10) (bm 26 1) ?_
      refine pu 1 (some 11) (bm 26 3) ?_
      refine pu 2 (some 12) (bm 26 7) ?_
      refine pu 3 (some 13) (bm 26 15) ?_
      refine tk4 4 (some 14) (bm 26 31) ?_
      refine pu 5 (some 15) (bm 26 63) ?_
      refine pu 6 (some 16) (bm 26 127) ?_
      refine pure_ (i := 7) (N := some 17) (v := undef) (a' := ?_) (bm 26 255) rfl rfl (any_of HT_.out (by kernel_rfl)) (fun _ _ _ h => h) (Or.inr ⟨by rfl, rfl⟩) ?_ ?_
      rotate_left
      ·simp only [Act.put, List.setIfInBounds_toArray, List.set_cons_zero, List.set_cons_succ, i64_w, i32_w]
       rfl
      refine pure_ (i := 8) (N := some 18) (v := undef) (a' := ?_) (bm 26 511) rfl rfl (any_of HT_.out (by kernel_rfl)) (fun _ _ _ h => h) (Or.inr ⟨by rfl, rfl⟩) ?_ ?_
      rotate_left
      ·simp only [Act.put, List.setIfInBounds_toArray, List.set_cons_zero, List.set_cons_succ, i64_w, i32_w]
       rfl
      refine pure_ (i := 9) (N := some 19) (v := undef) (a' := ?_) (bm 26 1023) rfl rfl (any_of HT_.out (by kernel_rfl)) (fun _ _ _ h => h) (Or.inr ⟨by rfl, rfl⟩) ?_ ?_
      rotate_left
      ·simp only [Act.put, List.setIfInBounds_toArray, List.set_cons_zero, List.set_cons_succ, i64_w, i32_w]
       rfl
      refine pure_ (i := 10) (N := some 20) (v := undef) (a' := ?_) (bm 26 2047) rfl rfl (any_of HT_.out (by kernel_rfl)) (fun _ _ _ h => h) (Or.inr ⟨by rfl, rfl⟩) ?_ ?_
      rotate_left
      ·simp only [Act.put, List.setIfInBounds_toArray, List.set_cons_zero, List.set_cons_succ, i64_w, i32_w]
       rfl
      refine pure_ (i := 11) (N := some 21) (v := undef) (a' := ?_) (bm 26 4095) rfl rfl (any_of HT_.out (by kernel_rfl)) (fun _ _ _ h => h) (Or.inr ⟨by rfl, rfl⟩) ?_ ?_
      rotate_left
      ·simp only [Act.put, List.setIfInBounds_toArray, List.set_cons_zero, List.set_cons_succ, i64_w, i32_w]
       rfl
      refine pure_ (i := 12) (N := some 22) (v := undef) (a' := ?_) (bm 26 8191) rfl rfl (any_of HT_.out (by kernel_rfl)) (fun _ _ _ h => h) (Or.inr ⟨by rfl, rfl⟩) ?_ ?_
      rotate_left
      ·simp only [Act.put, List.setIfInBounds_toArray, List.set_cons_zero, List.set_cons_succ, i64_w, i32_w]
       rfl
      refine pu 13 (some 23) (bm 26 16383) ?_
      refine pu 14 (some 24) (bm 26 32767) ?_
      refine pure_ (i := 15) (N := some 25) (v := undef) (a' := ?_) (bm 26 65535) rfl rfl (any_of HT_.out (by kernel_rfl)) (fun _ _ _ h => h) (Or.inr ⟨by rfl, rfl⟩) ?_ ?_
      rotate_left
      ·simp only [Act.put, List.setIfInBounds_toArray, List.set_cons_zero, List.set_cons_succ, i64_w, i32_w]
       rfl
      refine pure_ (i := 16) (N := some 26) (v := undef) (a' := ?_) (bm 26 131071) rfl rfl (any_of HT_.out (by kernel_rfl)) (fun _ _ _ h => h) (Or.inr ⟨by rfl, rfl⟩) ?_ ?_
      rotate_left
      ·simp only [Act.put, List.setIfInBounds_toArray, List.set_cons_zero, List.set_cons_succ, i64_w, i32_w]
       rfl
      refine pure_ (i := 17) (N := some 27) (v := undef) (a' := ?_) (bm 26 262143) rfl rfl (any_of HT_.out (by kernel_rfl)) (fun _ _ _ h => h) (Or.inr ⟨by rfl, rfl⟩) ?_ ?_
      rotate_left
      ·simp only [Act.put, List.setIfInBounds_toArray, List.set_cons_zero, List.set_cons_succ, i64_w, i32_w]
       rfl
      refine pure_ (i := 18) (N := some 28) (v := undef) (a' := ?_) (bm 26 524287) rfl rfl (any_of HT_.out (by kernel_rfl)) (fun _ _ _ h => h) (Or.inr ⟨by rfl, rfl⟩) ?_ ?_
      rotate_left
      ·simp only [Act.put, List.setIfInBounds_toArray, List.set_cons_zero, List.set_cons_succ, i64_w, i32_w]
       rfl
      refine pure_ (i := 19) (N := some 29) (v := undef) (a' := ?_) (bm 26 1048575) rfl rfl (any_of HT_.out (by kernel_rfl)) (fun _ _ _ h => h) (Or.inr ⟨by rfl, rfl⟩) ?_ ?_
      rotate_left
      ·simp only [Act.put, List.setIfInBounds_toArray, List.set_cons_zero, List.set_cons_succ, i64_w, i32_w]
       rfl
      refine pure_ (i := 20) (N := some 30) (v := undef) (a' := ?_) (bm 26 2097151) rfl rfl (any_of HT_.out (by kernel_rfl)) (fun _ _ _ h => h) (Or.inr ⟨by rfl, rfl⟩) ?_ ?_
      rotate_left
      ·simp only [Act.put, List.setIfInBounds_toArray, List.set_cons_zero, List.set_cons_succ, i64_w, i32_w]
       rfl
      refine pure_ (i := 21) (N := some 31) (v := undef) (a' := ?_) (bm 26 4194303) rfl rfl (any_of HT_.out (by kernel_rfl)) (fun _ _ _ h => h) (Or.inr ⟨by rfl, rfl⟩) ?_ ?_
      rotate_left
      ·simp only [Act.put, List.setIfInBounds_toArray, List.set_cons_zero, List.set_cons_succ, i64_w, i32_w]
       rfl
      refine pure_ (i := 22) (N := some 32) (v := undef) (a' := ?_) (bm 26 8388607) rfl rfl (any_of HT_.out (by kernel_rfl)) (fun _ _ _ h => h) (Or.inr ⟨by rfl, rfl⟩) ?_ ?_
      rotate_left
      ·simp only [Act.put, List.setIfInBounds_toArray, List.set_cons_zero, List.set_cons_succ, i64_w, i32_w]
       rfl
      refine pure_ (i := 23) (N := some 33) (v := undef) (a' := ?_) (bm 26 16777215) rfl rfl (any_of HT_.out (by kernel_rfl)) (fun _ _ _ h => h) (Or.inr ⟨by rfl, rfl⟩) ?_ ?_
      rotate_left
      ·simp only [Act.put, List.setIfInBounds_toArray, List.set_cons_zero, List.set_cons_succ, i64_w, i32_w]
       rfl
      refine pure_ (i := 24) (N := some 34) (v := undef) (a' := ?_) (bm 26 33554431) rfl rfl (any_of HT_.out (by kernel_rfl)) (fun _ _ _ h => h) (Or.inr ⟨by rfl, rfl⟩) ?_ ?_
      rotate_left
      ·simp only [Act.put, List.setIfInBounds_toArray, List.set_cons_zero, List.set_cons_succ, i64_w, i32_w]
       rfl
      refine pu 25 (some 35) (bm 26 67108863) ?_
      refine done_ (done_of HT_.out (by kernel_rfl)) ?_
      try go_wp2
      go_ret
      exact ⟨by first | rfl | (simp [errW_none, errW_some] <;> rfl) | (simp [*, errW_none, errW_some] <;> rfl), by repeat (first | (with_reducible first | exact HB.out | apply below_alloc | apply pw_below_drewN | apply below_drew1) | exact HB.out)⟩
     ·rw [if_neg c4] at H
      have c4b0 : decide (((rd_T51 l0 x3_1).f2) < 0) = false := decide_eq_false c4
      clear c4
      by_cases c6 : ((rd_T51 l0 x3_1).f2) > 1048576
      ·rw [if_pos c6] at H
       have c6b0 : decide (1048576 < ((rd_T51 l0 x3_1).f2)) = true := decide_eq_true c6
       clear c6
       obtain rfl := Option.some.inj H
       try go_wp2
       have n0_ := Aside0.mk (below_drew1 HB.out)
       clear HB
       have HB := n0_
       clear n0_
       have p120 : 0 ≤ (x3_1 : Int) := of_decide_eq_true Z2
       have q120 : x3_1 < (l0.length : Int) := of_decide_eq_true Z2
       obtain ⟨ad120, e120, hx120_0, hx120_1, hx120_2, hx120_3⟩ := at_T51 HR0.out x3_1 p120 q120
       have hw120_3 := hx120_3
       have hw120_2 := hx120_2
       have hw120_1 := hx120_1
       have hw120_0 := hx120_0
       cases e120
       replace hx120_0 := (HB.out.cell (World.block_lt_of_cell? w _ hx120_0)).trans hx120_0
       replace hx120_1 := (HB.out.cell (World.block_lt_of_cell? w _ hx120_1)).trans hx120_1
       replace hx120_2 := (HB.out.cell (World.block_lt_of_cell? w _ hx120_2)).trans hx120_2
       replace hx120_3 := (HB.out.cell (World.block_lt_of_cell? w _ hx120_3)).trans hx120_3
       replace p120 := eq_true p120
       replace q120 := eq_true q120
       have p121 : 0 ≤ (x3_1 : Int) := of_decide_eq_true Z2
       have q121 : x3_1 < (l0.length : Int) := of_decide_eq_true Z2
       obtain ⟨ad121, e121, hx121_0, hx121_1, hx121_2, hx121_3⟩ := at_T51 HR0.out x3_1 p121 q121
       have hw121_3 := hx121_3
       have hw121_2 := hx121_2
       have hw121_1 := hx121_1
       have hw121_0 := hx121_0
       obtain rfl : ad120 = ad121 := (by injection e121)
       replace hx121_0 := (HB.out.cell (World.block_lt_of_cell? w _ hx121_0)).trans hx121_0
       replace hx121_1 := (HB.out.cell (World.block_lt_of_cell? w _ hx121_1)).trans hx121_1
       replace hx121_2 := (HB.out.cell (World.block_lt_of_cell? w _ hx121_2)).trans hx121_2
       replace hx121_3 := (HB.out.cell (World.block_lt_of_cell? w _ hx121_3)).trans hx121_3
       replace p121 := eq_true p121
       replace q121 := eq_true q121
       refine start_ (n := 26) (S := fun w' => w'.cell? (ad120.add ((x3_1).toNat * 4)) = some (.int .i64 ((rd_T51 l0 x3_1).f0.f0)) ∧ w'.cell? ⟨(ad120.add ((x3_1).toNat * 4)).block, (ad120.add ((x3_1).toNat * 4)).off + 1, none⟩ = some (.int .i64 ((rd_T51 l0 x3_1).f0.f1)) ∧ w'.cell? ⟨(ad120.add ((x3_1).toNat * 4)).block, (ad120.add ((x3_1).toNat * 4)).off + 2, none⟩ = some (.int .u64 ((rd_T51 l0 x3_1).f1)) ∧ w'.cell? ⟨(ad120.add ((x3_1).toNat * 4)).block, (ad120.add ((x3_1).toNat * 4)).off + 3, none⟩ = some (.int .i64 ((rd_T51 l0 x3_1).f2)) ∧ w'.cell? (ad120.add ((x3_1).toNat * 4)) = some (.int .i64 ((rd_T51 l0 x3_1).f0.f0)) ∧ w'.cell? ⟨(ad120.add ((x3_1).toNat * 4)).block, (ad120.add ((x3_1).toNat * 4)).off + 1, none⟩ = some (.int .i64 ((rd_T51 l0 x3_1).f0.f1)) ∧ w'.cell? ⟨(ad120.add ((x3_1).toNat * 4)).block, (ad120.add ((x3_1).toNat * 4)).off + 2, none⟩ = some (.int .u64 ((rd_T51 l0 x3_1).f1)) ∧ w'.cell? ⟨(ad120.add ((x3_1).toNat * 4)).block, (ad120.add ((x3_1).toNat * 4)).off + 3, none⟩ = some (.int .i64 ((rd_T51 l0 x3_1).f2))) (ds := []) (bm 26 0) (by kernel_rfl) rfl rfl ⟨((HB.out.cell (World.block_lt_of_cell? w _ hw120_0)).trans hw120_0), ((HB.out.cell (World.block_lt_of_cell? w _ hw120_1)).trans hw120_1), ((HB.out.cell (World.block_lt_of_cell? w _ hw120_2)).trans hw120_2), ((HB.out.cell (World.block_lt_of_cell? w _ hw120_3)).trans hw120_3), ((HB.out.cell (World.block_lt_of_cell? w _ hw121_0)).trans hw121_0), ((HB.out.cell (World.block_lt_of_cell? w _ hw121_1)).trans hw121_1), ((HB.out.cell (World.block_lt_of_cell? w _ hw121_2)).trans hw121_2), ((HB.out.cell (World.block_lt_of_cell? w _ hw121_3)).trans hw121_3)⟩ (fun hHeld => ?_); refine with_tabW ensembleref05_Right.tab4 ensembleref05_Right.bits4 (fun HT_ HW_ => ?_)
       generalize wr.drew = w7 at HB hx120_0 hx120_1 hx120_2 hx120_3 hx121_0 hx121_1 hx121_2 hx121_3 hHeld ⊢
       refine pu 0 (some 10) (bm 26 1) ?_
       refine pu 1 (some 11) (bm 26 3) ?_
       refine pu 2 (some 12) (bm 26 7) ?_
       refine pu 3 (some 13) (bm 26 15) ?_
       refine tk8 4 (some 14) (bm 26 31) ?_
       refine pu 5 (some 15) (bm 26 63) ?_
       refine pu 6 (some 16) (bm 26 127) ?_
       refine pu 7 (some 17) (bm 26 255) ?_
       refine pu 8 (some 18) (bm 26 511) ?_
       refine pu 9 (some 19) (bm 26 1023) ?_
       refine pu 10 (some 20) (bm 26 2047) ?_
       refine tk8 11 (some 21) (bm 26 4095) ?_
       refine pu 12 (some 22) (bm 26 8191) ?_
       refine pu 13 (some 23) (bm 26 16383) ?_
       refine pu 14 (some 24) (bm 26 32767) ?_
       refine pure_ (i := 15) (N := some 25) (v := undef) (a' := ?_) (bm 26 65535) rfl rfl (any_of HT_.out (by kernel_rfl)) (fun _ _ _ h => h) (Or.inr ⟨by rfl, rfl⟩) ?_ ?_
       rotate_left
       ·simp only [Act.put, List.setIfInBounds_toArray, List.set_cons_zero, List.set_cons_succ, i64_w, i32_w]
        rfl
       refine pure_ (i := 16) (N := some 26) (v := undef) (a' := ?_) (bm 26 131071) rfl rfl (any_of HT_.out (by kernel_rfl)) (fun _ _ _ h => h) (Or.inr ⟨by rfl, rfl⟩) ?_ ?_
       rotate_left
       ·simp only [Act.put, List.setIfInBounds_toArray, List.set_cons_zero, List.set_cons_succ, i64_w, i32_w]
        rfl
       refine pure_ (i := 17) (N := some 27) (v := undef) (a' := ?_) (bm 26 262143) rfl rfl (any_of HT_.out (by kernel_rfl)) (fun _ _ _ h => h) (Or.inr ⟨by rfl, rfl⟩) ?_ ?_
       rotate_left
       ·simp only [Act.put, List.setIfInBounds_toArray, List.set_cons_zero, List.set_cons_succ, i64_w, i32_w]
        rfl
       refine pure_ (i := 18) (N := some 28) (v := undef) (a' := ?_) (bm 26 524287) rfl rfl (any_of HT_.out (by kernel_rfl)) (fun _ _ _ h => h) (Or.inr ⟨by rfl, rfl⟩) ?_ ?_
       rotate_left
       ·simp only [Act.put, List.setIfInBounds_toArray, List.set_cons_zero, List.set_cons_succ, i64_w, i32_w]
        rfl
       refine pure_ (i := 19) (N := some 29) (v := undef) (a' := ?_) (bm 26 1048575) rfl rfl (any_of HT_.out (by kernel_rfl)) (fun _ _ _ h => h) (Or.inr ⟨by rfl, rfl⟩) ?_ ?_
       rotate_left
       ·simp only [Act.put, List.setIfInBounds_toArray, List.set_cons_zero, List.set_cons_succ, i64_w, i32_w]
        rfl
       refine pure_ (i := 20) (N := some 30) (v := undef) (a' := ?_) (bm 26 2097151) rfl rfl (any_of HT_.out (by kernel_rfl)) (fun _ _ _ h => h) (Or.inr ⟨by rfl, rfl⟩) ?_ ?_
       rotate_left
       ·simp only [Act.put, List.setIfInBounds_toArray, List.set_cons_zero, List.set_cons_succ, i64_w, i32_w]
        rfl
       refine pure_ (i := 21) (N := some 31) (v := undef) (a' := ?_) (bm 26 4194303) rfl rfl (any_of HT_.out (by kernel_rfl)) (fun _ _ _ h => h) (Or.inr ⟨by rfl, rfl⟩) ?_ ?_
       rotate_left
       ·simp only [Act.put, List.setIfInBounds_toArray, List.set_cons_zero, List.set_cons_succ, i64_w, i32_w]
        rfl
       refine pure_ (i := 22) (N := some 32) (v := undef) (a' := ?_) (bm 26 8388607) rfl rfl (any_of HT_.out (by kernel_rfl)) (fun _ _ _ h => h) (Or.inr ⟨by rfl, rfl⟩) ?_ ?_
       rotate_left
       ·simp only [Act.put, List.setIfInBounds_toArray, List.set_cons_zero, List.set_cons_succ, i64_w, i32_w]
        rfl
       refine pure_ (i := 23) (N := some 33) (v := undef) (a' := ?_) (bm 26 16777215) rfl rfl (any_of HT_.out (by kernel_rfl)) (fun _ _ _ h => h) (Or.inr ⟨by rfl, rfl⟩) ?_ ?_
       rotate_left
       ·simp only [Act.put, List.setIfInBounds_toArray, List.set_cons_zero, List.set_cons_succ, i64_w, i32_w]
        rfl
       refine pure_ (i := 24) (N := some 34) (v := undef) (a' := ?_) (bm 26 33554431) rfl rfl (any_of HT_.out (by kernel_rfl)) (fun _ _ _ h => h) (Or.inr ⟨by rfl, rfl⟩) ?_ ?_
       rotate_left
       ·simp only [Act.put, List.setIfInBounds_toArray, List.set_cons_zero, List.set_cons_succ, i64_w, i32_w]
        rfl
       refine pu 25 (some 35) (bm 26 67108863) ?_
       refine done_ (done_of HT_.out (by kernel_rfl)) ?_
       try go_wp2
       go_ret
       exact ⟨by first | rfl | (simp [errW_none, errW_some] <;> rfl) | (simp [*, errW_none, errW_some] <;> rfl), by repeat (first | (with_reducible first | exact HB.out | apply below_alloc | apply pw_below_drewN | apply below_drew1) | exact HB.out)⟩
      ·rw [if_neg c6] at H
       have c6b0 : decide (1048576 < ((rd_T51 l0 x3_1).f2)) = false := decide_eq_false c6
       clear c6
       have c8b0 := eq_true (of_decide_eq_true Z2 : 0 ≤ x3_1)
       by_cases c9 : x3_1 ≤ (l0.length : Int)
       ·rw [if_pos c9] at H
        have c9b0 := eq_true c9
        have c9b1 : decide (x3_1 ≤ (l0.length : Int)) = true := decide_eq_true c9
        clear c9
        obtain ⟨y122, hy122⟩ : ∃ y_ : List (S51), y_ = (l0.take (x3_1 : Int).toNat) := ⟨_, rfl⟩
        replace H : ((ensembleref05_find.f k1 y122 ((rd_T51 l0 x3_1).f0.f0) ((rd_T51 l0 x3_1).f0.f1)).bind fun t127 => (if t127 ≥ 0 then (some false) else (ensembleref05_Right.l0 k1 l0 (wrap64 (x3_1 + 1))))) = some r := by first | (rw [hy122]; with_reducible exact H) | (have H2_ := (Option.bind_some _ _).symm.trans H; rw [hy122]; with_reducible exact H2_) | (have H2_ := (Option.bind_some _ _).symm.trans H; with_reducible exact H2_) | with_reducible exact H | (rw [hy122]; exact H) | exact H
        have Ny122 := Aside0.mk hy122
        clear hy122
        replace H := Option.bind_eq_some_iff.mp H
        obtain ⟨t127, A100, H⟩ := H
        replace H : (if t127 ≥ 0 then (some false) else (ensembleref05_Right.l0 k1 l0 (wrap64 (x3_1 + 1)))) = some r := H
        have A10 := Aside0.mk A100
        clear A100
        by_cases c11 : t127 ≥ 0
        ·rw [if_pos c11] at H
         have c11b0 : decide (0 ≤ t127) = true := decide_eq_true c11
         clear c11
         obtain rfl := Option.some.inj H
         try go_wp2
         have n0_ := Aside0.mk (below_drew1 HB.out)
         clear HB
         have HB := n0_
         clear n0_
         have p120 : 0 ≤ (x3_1 : Int) := of_decide_eq_true Z2
         have q120 : x3_1 < (l0.length : Int) := of_decide_eq_true Z2
         obtain ⟨ad120, e120, hx120_0, hx120_1, hx120_2, hx120_3⟩ := at_T51 HR0.out x3_1 p120 q120
         have hw120_3 := hx120_3
         have hw120_2 := hx120_2
         have hw120_1 := hx120_1
         have hw120_0 := hx120_0
         cases e120
         replace hx120_0 := (HB.out.cell (World.block_lt_of_cell? w _ hx120_0)).trans hx120_0
         replace hx120_1 := (HB.out.cell (World.block_lt_of_cell? w _ hx120_1)).trans hx120_1
         replace hx120_2 := (HB.out.cell (World.block_lt_of_cell? w _ hx120_2)).trans hx120_2
         replace hx120_3 := (HB.out.cell (World.block_lt_of_cell? w _ hx120_3)).trans hx120_3
         replace p120 := eq_true p120
         replace q120 := eq_true q120
         have p121 : 0 ≤ (x3_1 : Int) := of_decide_eq_true Z2
         have q121 : x3_1 < (l0.length : Int) := of_decide_eq_true Z2
         obtain ⟨ad121, e121, hx121_0, hx121_1, hx121_2, hx121_3⟩ := at_T51 HR0.out x3_1 p121 q121
         have hw121_3 := hx121_3
         have hw121_2 := hx121_2
         have hw121_1 := hx121_1
         have hw121_0 := hx121_0
         obtain rfl : ad120 = ad121 := (by injection e121)
         replace hx121_0 := (HB.out.cell (World.block_lt_of_cell? w _ hx121_0)).trans hx121_0
         replace hx121_1 := (HB.out.cell (World.block_lt_of_cell? w _ hx121_1)).trans hx121_1
         replace hx121_2 := (HB.out.cell (World.block_lt_of_cell? w _ hx121_2)).trans hx121_2
         replace hx121_3 := (HB.out.cell (World.block_lt_of_cell? w _ hx121_3)).trans hx121_3
         replace p121 := eq_true p121
         replace q121 := eq_true q121
         have q13 : (x3_1 : Int) ≤ ((l0.length : Int) : Int) := of_decide_eq_true Z2
         obtain ⟨i013, hi013, _, hsz13, _⟩ := info_parts info51
         have hroom13 : l0.length ≤ c0 := HC0.out
         have hC13 : Kd.C k51 _ (some ad120) l0.length l0 := HR0.out
         have hcut13 := cut_to (P := Try.prog) 22 51 .i64 Try.underlying22 hi013 (some ad120) l0.length c0 x3_1 (of_decide_eq_true Z2) q13 hroom13
         have hr13 := Kd.C_take (m := (x3_1 : Int).toNat) hC13 (by omega)
         have hy13 : y122.length = (x3_1 : Int).toNat := (by rw [Ny122.out, List.length_take]; omega)
         rw [← Ny122.out] at hr13
         rw [← hy13] at hcut13
         have HR125 := Aside0.mk hr13
         have HC125 := Aside0.mk (show y122.length ≤ c0 from by omega)
         clear hr13 hC13 hroom13 hi013 hsz13
         have KY13 := Aside0.mk hy13
         clear hy13
         replace q13 := eq_true q13
         have p126 : 0 ≤ (x3_1 : Int) := of_decide_eq_true Z2
         have q126 : x3_1 < (l0.length : Int) := of_decide_eq_true Z2
         obtain ⟨ad126, e126, hx126_0, hx126_1, hx126_2, hx126_3⟩ := at_T51 HR0.out x3_1 p126 q126
         have hw126_3 := hx126_3
         have hw126_2 := hx126_2
         have hw126_1 := hx126_1
         have hw126_0 := hx126_0
         obtain rfl : ad120 = ad126 := (by injection e126)
         replace hx126_0 := (HB.out.cell (World.block_lt_of_cell? w _ hx126_0)).trans hx126_0
         replace hx126_1 := (HB.out.cell (World.block_lt_of_cell? w _ hx126_1)).trans hx126_1
         replace hx126_2 := (HB.out.cell (World.block_lt_of_cell? w _ hx126_2)).trans hx126_2
         replace hx126_3 := (HB.out.cell (World.block_lt_of_cell? w _ hx126_3)).trans hx126_3
         replace p126 := eq_true p126
         replace q126 := eq_true q126
         refine start_ (n := 26) (S := fun w' => w'.cell? (ad120.add ((x3_1).toNat * 4)) = some (.int .i64 ((rd_T51 l0 x3_1).f0.f0)) ∧ w'.cell? ⟨(ad120.add ((x3_1).toNat * 4)).block, (ad120.add ((x3_1).toNat * 4)).off + 1, none⟩ = some (.int .i64 ((rd_T51 l0 x3_1).f0.f1)) ∧ w'.cell? ⟨(ad120.add ((x3_1).toNat * 4)).block, (ad120.add ((x3_1).toNat * 4)).off + 2, none⟩ = some (.int .u64 ((rd_T51 l0 x3_1).f1)) ∧ w'.cell? ⟨(ad120.add ((x3_1).toNat * 4)).block, (ad120.add ((x3_1).toNat * 4)).off + 3, none⟩ = some (.int .i64 ((rd_T51 l0 x3_1).f2)) ∧ w'.cell? (ad120.add ((x3_1).toNat * 4)) = some (.int .i64 ((rd_T51 l0 x3_1).f0.f0)) ∧ w'.cell? ⟨(ad120.add ((x3_1).toNat * 4)).block, (ad120.add ((x3_1).toNat * 4)).off + 1, none⟩ = some (.int .i64 ((rd_T51 l0 x3_1).f0.f1)) ∧ w'.cell? ⟨(ad120.add ((x3_1).toNat * 4)).block, (ad120.add ((x3_1).toNat * 4)).off + 2, none⟩ = some (.int .u64 ((rd_T51 l0 x3_1).f1)) ∧ w'.cell? ⟨(ad120.add ((x3_1).toNat * 4)).block, (ad120.add ((x3_1).toNat * 4)).off + 3, none⟩ = some (.int .i64 ((rd_T51 l0 x3_1).f2)) ∧ w'.cell? (ad120.add ((x3_1).toNat * 4)) = some (.int .i64 ((rd_T51 l0 x3_1).f0.f0)) ∧ w'.cell? ⟨(ad120.add ((x3_1).toNat * 4)).block, (ad120.add ((x3_1).toNat * 4)).off + 1, none⟩ = some (.int .i64 ((rd_T51 l0 x3_1).f0.f1)) ∧ w'.cell? ⟨(ad120.add ((x3_1).toNat * 4)).block, (ad120.add ((x3_1).toNat * 4)).off + 2, none⟩ = some (.int .u64 ((rd_T51 l0 x3_1).f1)) ∧ w'.cell? ⟨(ad120.add ((x3_1).toNat * 4)).block, (ad120.add ((x3_1).toNat * 4)).off + 3, none⟩ = some (.int .i64 ((rd_T51 l0 x3_1).f2))) (ds := []) (bm 26 0) (by kernel_rfl) rfl rfl ⟨((HB.out.cell (World.block_lt_of_cell? w _ hw120_0)).trans hw120_0), ((HB.out.cell (World.block_lt_of_cell? w _ hw120_1)).trans hw120_1), ((HB.out.cell (World.block_lt_of_cell? w _ hw120_2)).trans hw120_2), ((HB.out.cell (World.block_lt_of_cell? w _ hw120_3)).trans hw120_3), ((HB.out.cell (World.block_lt_of_cell? w _ hw121_0)).trans hw121_0), ((HB.out.cell (World.block_lt_of_cell? w _ hw121_1)).trans hw121_1), ((HB.out.cell (World.block_lt_of_cell? w _ hw121_2)).trans hw121_2), ((HB.out.cell (World.block_lt_of_cell? w _ hw121_3)).trans hw121_3), ((HB.out.cell (World.block_lt_of_cell? w _ hw126_0)).trans hw126_0), ((HB.out.cell (World.block_lt_of_cell? w _ hw126_1)).trans hw126_1), ((HB.out.cell (World.block_lt_of_cell? w _ hw126_2)).trans hw126_2), ((HB.out.cell (World.block_lt_of_cell? w _ hw126_3)).trans hw126_3)⟩ (fun hHeld => ?_); refine with_tabW ensembleref05_Right.tab4 ensembleref05_Right.bits4 (fun HT_ HW_ => ?_)
         generalize wr.drew = w12 at HB HR125 hx120_0 hx120_1 hx120_2 hx120_3 hx121_0 hx121_1 hx121_2 hx121_3 hx126_0 hx126_1 hx126_2 hx126_3 hHeld ⊢
         refine pu 0 (some 10) (bm 26 1) ?_
         refine pu 1 (some 11) (bm 26 3) ?_
         refine pu 2 (some 12) (bm 26 7) ?_
         refine pu 3 (some 13) (bm 26 15) ?_
         refine tk12 4 (some 14) (bm 26 31) ?_
         refine pu 5 (some 15) (bm 26 63) ?_
         refine pu 6 (some 16) (bm 26 127) ?_
         refine pu 7 (some 17) (bm 26 255) ?_
         refine pu 8 (some 18) (bm 26 511) ?_
         refine pu 9 (some 19) (bm 26 1023) ?_
         refine pu 10 (some 20) (bm 26 2047) ?_
         refine tk12 11 (some 21) (bm 26 4095) ?_
         refine pu 12 (some 22) (bm 26 8191) ?_
         refine pu 13 (some 23) (bm 26 16383) ?_
         refine pu 14 (some 24) (bm 26 32767) ?_
         refine pu 15 (some 25) (bm 26 65535) ?_
         refine pu 16 (some 26) (bm 26 131071) ?_
         refine pu 17 (some 27) (bm 26 262143) ?_
         refine pu 18 (some 28) (bm 26 524287) ?_
         refine pu 19 (some 29) (bm 26 1048575) ?_
         refine pu 20 (some 30) (bm 26 2097151) ?_
         refine pu 21 (some 31) (bm 26 4194303) ?_
         refine tk12 22 (some 32) (bm 26 8388607) ?_
         refine one_ (i := 23) (N := some 33) (bm 26 16777215) rfl rfl (one_of HT_.out (by kernel_rfl)) (by decide) (fun K hK => ?_)
         refine goes_ Try.func79 (by kernel_rfl) rfl #[.slice (some ad120) y122.length c0, .agg #[.int .i64 ((rd_T51 l0 x3_1).f0.f0), .int .i64 ((rd_T51 l0 x3_1).f0.f1)]] (by rfl) rfl rfl Z1 ?_
         with_reducible refine (ensembleref05_find.calls k1 _ _ y122 ((rd_T51 l0 x3_1).f0.f0) ((rd_T51 l0 x3_1).f0.f1) t127 _ ?side1 ?side2 A10.out).mono ?_
         (case side1 => repeat (first | exact (Kd.C_below HR125.out HB.out) | (with_reducible refine Kd.C_alloc ?_ _) | (with_reducible refine Kd.C_drewN ?_ _) | (with_reducible refine Kd.C_drew ?_)))
         (case side2 => exact HC125.out)
         rintro e w14 ⟨rfl, hb⟩
         refine ⟨_, rfl, ?_⟩
         have n0_ := Aside0.mk (below_step Z0 hb)
         clear HB
         have HB := n0_
         clear n0_
         (try clear hb)
         (try clear hb2)
         (try clear hk)
         (try clear hi)
         refine hK.out _ _ ⟨((HB.out.cell (World.block_lt_of_cell? w _ hw120_0)).trans hw120_0), ((HB.out.cell (World.block_lt_of_cell? w _ hw120_1)).trans hw120_1), ((HB.out.cell (World.block_lt_of_cell? w _ hw120_2)).trans hw120_2), ((HB.out.cell (World.block_lt_of_cell? w _ hw120_3)).trans hw120_3), ((HB.out.cell (World.block_lt_of_cell? w _ hw121_0)).trans hw121_0), ((HB.out.cell (World.block_lt_of_cell? w _ hw121_1)).trans hw121_1), ((HB.out.cell (World.block_lt_of_cell? w _ hw121_2)).trans hw121_2), ((HB.out.cell (World.block_lt_of_cell? w _ hw121_3)).trans hw121_3), ((HB.out.cell (World.block_lt_of_cell? w _ hw126_0)).trans hw126_0), ((HB.out.cell (World.block_lt_of_cell? w _ hw126_1)).trans hw126_1), ((HB.out.cell (World.block_lt_of_cell? w _ hw126_2)).trans hw126_2), ((HB.out.cell (World.block_lt_of_cell? w _ hw126_3)).trans hw126_3)⟩ (fun hHeld => ?_)
         clear hK K
         refine norm_ (a' := ?_) ?_ ?_
         rotate_left
         ·show Act.put _ (some 33) _ = _
          simp only [Act.put, List.setIfInBounds_toArray, List.set_cons_zero, List.set_cons_succ, i64_w, i32_w]
          rfl
         refine pu 24 (some 34) (bm 26 33554431) ?_
         refine pu 25 (some 35) (bm 26 67108863) ?_
         refine done_ (done_of HT_.out (by kernel_rfl)) ?_
         try go_wp2
         go_ret
         exact ⟨by first | rfl | (simp [errW_none, errW_some] <;> rfl) | (simp [*, errW_none, errW_some] <;> rfl), by repeat (first | (with_reducible first | exact HB.out | apply below_alloc | apply pw_below_drewN | apply below_drew1) | exact HB.out)⟩
        ·rw [if_neg c11] at H
         have c11b0 : decide (0 ≤ t127) = false := decide_eq_false c11
         clear c11
         have H' := Aside0.mk H
         clear H
         try go_wp2
         have n0_ := Aside0.mk (below_drew1 HB.out)
         clear HB
         have HB := n0_
         clear n0_
         have p120 : 0 ≤ (x3_1 : Int) := of_decide_eq_true Z2
         have q120 : x3_1 < (l0.length : Int) := of_decide_eq_true Z2
         obtain ⟨ad120, e120, hx120_0, hx120_1, hx120_2, hx120_3⟩ := at_T51 HR0.out x3_1 p120 q120
         have hw120_3 := hx120_3
         have hw120_2 := hx120_2
         have hw120_1 := hx120_1
         have hw120_0 := hx120_0
         cases e120
         replace hx120_0 := (HB.out.cell (World.block_lt_of_cell? w _ hx120_0)).trans hx120_0
         replace hx120_1 := (HB.out.cell (World.block_lt_of_cell? w _ hx120_1)).trans hx120_1
         replace hx120_2 := (HB.out.cell (World.block_lt_of_cell? w _ hx120_2)).trans hx120_2
         replace hx120_3 := (HB.out.cell (World.block_lt_of_cell? w _ hx120_3)).trans hx120_3
         replace p120 := eq_true p120
         replace q120 := eq_true q120
         have p121 : 0 ≤ (x3_1 : Int) := of_decide_eq_true Z2
         have q121 : x3_1 < (l0.length : Int) := of_decide_eq_true Z2
         obtain ⟨ad121, e121, hx121_0, hx121_1, hx121_2, hx121_3⟩ := at_T51 HR0.out x3_1 p121 q121
         have hw121_3 := hx121_3
         have hw121_2 := hx121_2
         have hw121_1 := hx121_1
         have hw121_0 := hx121_0
         obtain rfl : ad120 = ad121 := (by injection e121)
         replace hx121_0 := (HB.out.cell (World.block_lt_of_cell? w _ hx121_0)).trans hx121_0
         replace hx121_1 := (HB.out.cell (World.block_lt_of_cell? w _ hx121_1)).trans hx121_1
         replace hx121_2 := (HB.out.cell (World.block_lt_of_cell? w _ hx121_2)).trans hx121_2
         replace hx121_3 := (HB.out.cell (World.block_lt_of_cell? w _ hx121_3)).trans hx121_3
         replace p121 := eq_true p121
         replace q121 := eq_true q121
         have q16 : (x3_1 : Int) ≤ ((l0.length : Int) : Int) := of_decide_eq_true Z2
         obtain ⟨i016, hi016, _, hsz16, _⟩ := info_parts info51
         have hroom16 : l0.length ≤ c0 := HC0.out
         have hC16 : Kd.C k51 _ (some ad120) l0.length l0 := HR0.out
         have hcut16 := cut_to (P := Try.prog) 22 51 .i64 Try.underlying22 hi016 (some ad120) l0.length c0 x3_1 (of_decide_eq_true Z2) q16 hroom16
         have hr16 := Kd.C_take (m := (x3_1 : Int).toNat) hC16 (by omega)
         have hy16 : y122.length = (x3_1 : Int).toNat := (by rw [Ny122.out, List.length_take]; omega)
         rw [← Ny122.out] at hr16
         rw [← hy16] at hcut16
         have HR125 := Aside0.mk hr16
         have HC125 := Aside0.mk (show y122.length ≤ c0 from by omega)
         clear hr16 hC16 hroom16 hi016 hsz16
         have KY16 := Aside0.mk hy16
         clear hy16
         replace q16 := eq_true q16
         have p126 : 0 ≤ (x3_1 : Int) := of_decide_eq_true Z2
         have q126 : x3_1 < (l0.length : Int) := of_decide_eq_true Z2
         obtain ⟨ad126, e126, hx126_0, hx126_1, hx126_2, hx126_3⟩ := at_T51 HR0.out x3_1 p126 q126
         have hw126_3 := hx126_3
         have hw126_2 := hx126_2
         have hw126_1 := hx126_1
         have hw126_0 := hx126_0
         obtain rfl : ad120 = ad126 := (by injection e126)
         replace hx126_0 := (HB.out.cell (World.block_lt_of_cell? w _ hx126_0)).trans hx126_0
         replace hx126_1 := (HB.out.cell (World.block_lt_of_cell? w _ hx126_1)).trans hx126_1
         replace hx126_2 := (HB.out.cell (World.block_lt_of_cell? w _ hx126_2)).trans hx126_2
         replace hx126_3 := (HB.out.cell (World.block_lt_of_cell? w _ hx126_3)).trans hx126_3
         replace p126 := eq_true p126
         replace q126 := eq_true q126
         refine start_ (n := 26) (S := fun w' => w'.cell? (ad120.add ((x3_1).toNat * 4)) = some (.int .i64 ((rd_T51 l0 x3_1).f0.f0)) ∧ w'.cell? ⟨(ad120.add ((x3_1).toNat * 4)).block, (ad120.add ((x3_1).toNat * 4)).off + 1, none⟩ = some (.int .i64 ((rd_T51 l0 x3_1).f0.f1)) ∧ w'.cell? ⟨(ad120.add ((x3_1).toNat * 4)).block, (ad120.add ((x3_1).toNat * 4)).off + 2, none⟩ = some (.int .u64 ((rd_T51 l0 x3_1).f1)) ∧ w'.cell? ⟨(ad120.add ((x3_1).toNat * 4)).block, (ad120.add ((x3_1).toNat * 4)).off + 3, none⟩ = some (.int .i64 ((rd_T51 l0 x3_1).f2)) ∧ w'.cell? (ad120.add ((x3_1).toNat * 4)) = some (.int .i64 ((rd_T51 l0 x3_1).f0.f0)) ∧ w'.cell? ⟨(ad120.add ((x3_1).toNat * 4)).block, (ad120.add ((x3_1).toNat * 4)).off + 1, none⟩ = some (.int .i64 ((rd_T51 l0 x3_1).f0.f1)) ∧ w'.cell? ⟨(ad120.add ((x3_1).toNat * 4)).block, (ad120.add ((x3_1).toNat * 4)).off + 2, none⟩ = some (.int .u64 ((rd_T51 l0 x3_1).f1)) ∧ w'.cell? ⟨(ad120.add ((x3_1).toNat * 4)).block, (ad120.add ((x3_1).toNat * 4)).off + 3, none⟩ = some (.int .i64 ((rd_T51 l0 x3_1).f2)) ∧ w'.cell? (ad120.add ((x3_1).toNat * 4)) = some (.int .i64 ((rd_T51 l0 x3_1).f0.f0)) ∧ w'.cell? ⟨(ad120.add ((x3_1).toNat * 4)).block, (ad120.add ((x3_1).toNat * 4)).off + 1, none⟩ = some (.int .i64 ((rd_T51 l0 x3_1).f0.f1)) ∧ w'.cell? ⟨(ad120.add ((x3_1).toNat * 4)).block, (ad120.add ((x3_1).toNat * 4)).off + 2, none⟩ = some (.int .u64 ((rd_T51 l0 x3_1).f1)) ∧ w'.cell? ⟨(ad120.add ((x3_1).toNat * 4)).block, (ad120.add ((x3_1).toNat * 4)).off + 3, none⟩ = some (.int .i64 ((rd_T51 l0 x3_1).f2))) (ds := []) (bm 26 0) (by kernel_rfl) rfl rfl ⟨((HB.out.cell (World.block_lt_of_cell? w _ hw120_0)).trans hw120_0), ((HB.out.cell (World.block_lt_of_cell? w _ hw120_1)).trans hw120_1), ((HB.out.cell (World.block_lt_of_cell? w _ hw120_2)).trans hw120_2), ((HB.out.cell (World.block_lt_of_cell? w _ hw120_3)).trans hw120_3), ((HB.out.cell (World.block_lt_of_cell? w _ hw121_0)).trans hw121_0), ((HB.out.cell (World.block_lt_of_cell? w _ hw121_1)).trans hw121_1), ((HB.out.cell (World.block_lt_of_cell? w _ hw121_2)).trans hw121_2), ((HB.out.cell (World.block_lt_of_cell? w _ hw121_3)).trans hw121_3), ((HB.out.cell (World.block_lt_of_cell? w _ hw126_0)).trans hw126_0), ((HB.out.cell (World.block_lt_of_cell? w _ hw126_1)).trans hw126_1), ((HB.out.cell (World.block_lt_of_cell? w _ hw126_2)).trans hw126_2), ((HB.out.cell (World.block_lt_of_cell? w _ hw126_3)).trans hw126_3)⟩ (fun hHeld => ?_); refine with_tabW ensembleref05_Right.tab4 ensembleref05_Right.bits4 (fun HT_ HW_ => ?_)
         generalize wr.drew = w15 at HB HR125 hx120_0 hx120_1 hx120_2 hx120_3 hx121_0 hx121_1 hx121_2 hx121_3 hx126_0 hx126_1 hx126_2 hx126_3 hHeld ⊢
         refine pu 0 (some 10) (bm 26 1) ?_
         refine pu 1 (some 11) (bm 26 3) ?_
         refine pu 2 (some 12) (bm 26 7) ?_
         refine pu 3 (some 13) (bm 26 15) ?_
         refine tk12 4 (some 14) (bm 26 31) ?_
         refine pu 5 (some 15) (bm 26 63) ?_
         refine pu 6 (some 16) (bm 26 127) ?_
         refine pu 7 (some 17) (bm 26 255) ?_
         refine pu 8 (some 18) (bm 26 511) ?_
         refine pu 9 (some 19) (bm 26 1023) ?_
         refine pu 10 (some 20) (bm 26 2047) ?_
         refine tk12 11 (some 21) (bm 26 4095) ?_
         refine pu 12 (some 22) (bm 26 8191) ?_
         refine pu 13 (some 23) (bm 26 16383) ?_
         refine pu 14 (some 24) (bm 26 32767) ?_
         refine pu 15 (some 25) (bm 26 65535) ?_
         refine pu 16 (some 26) (bm 26 131071) ?_
         refine pu 17 (some 27) (bm 26 262143) ?_
         refine pu 18 (some 28) (bm 26 524287) ?_
         refine pu 19 (some 29) (bm 26 1048575) ?_
         refine pu 20 (some 30) (bm 26 2097151) ?_
         refine pu 21 (some 31) (bm 26 4194303) ?_
         refine tk12 22 (some 32) (bm 26 8388607) ?_
         refine one_ (i := 23) (N := some 33) (bm 26 16777215) rfl rfl (one_of HT_.out (by kernel_rfl)) (by decide) (fun K hK => ?_)
         refine goes_ Try.func79 (by kernel_rfl) rfl #[.slice (some ad120) y122.length c0, .agg #[.int .i64 ((rd_T51 l0 x3_1).f0.f0), .int .i64 ((rd_T51 l0 x3_1).f0.f1)]] (by rfl) rfl rfl Z1 ?_
         with_reducible refine (ensembleref05_find.calls k1 _ _ y122 ((rd_T51 l0 x3_1).f0.f0) ((rd_T51 l0 x3_1).f0.f1) t127 _ ?side1 ?side2 A10.out).mono ?_
         (case side1 => repeat (first | exact (Kd.C_below HR125.out HB.out) | (with_reducible refine Kd.C_alloc ?_ _) | (with_reducible refine Kd.C_drewN ?_ _) | (with_reducible refine Kd.C_drew ?_)))
         (case side2 => exact HC125.out)
         rintro e w17 ⟨rfl, hb⟩
         refine ⟨_, rfl, ?_⟩
         have n0_ := Aside0.mk (below_step Z0 hb)
         clear HB
         have HB := n0_
         clear n0_
         (try clear hb)
         (try clear hb2)
         (try clear hk)
         (try clear hi)
         refine hK.out _ _ ⟨((HB.out.cell (World.block_lt_of_cell? w _ hw120_0)).trans hw120_0), ((HB.out.cell (World.block_lt_of_cell? w _ hw120_1)).trans hw120_1), ((HB.out.cell (World.block_lt_of_cell? w _ hw120_2)).trans hw120_2), ((HB.out.cell (World.block_lt_of_cell? w _ hw120_3)).trans hw120_3), ((HB.out.cell (World.block_lt_of_cell? w _ hw121_0)).trans hw121_0), ((HB.out.cell (World.block_lt_of_cell? w _ hw121_1)).trans hw121_1), ((HB.out.cell (World.block_lt_of_cell? w _ hw121_2)).trans hw121_2), ((HB.out.cell (World.block_lt_of_cell? w _ hw121_3)).trans hw121_3), ((HB.out.cell (World.block_lt_of_cell? w _ hw126_0)).trans hw126_0), ((HB.out.cell (World.block_lt_of_cell? w _ hw126_1)).trans hw126_1), ((HB.out.cell (World.block_lt_of_cell? w _ hw126_2)).trans hw126_2), ((HB.out.cell (World.block_lt_of_cell? w _ hw126_3)).trans hw126_3)⟩ (fun hHeld => ?_)
         clear hK K
         refine norm_ (a' := ?_) ?_ ?_
         rotate_left
         ·show Act.put _ (some 33) _ = _
          simp only [Act.put, List.setIfInBounds_toArray, List.set_cons_zero, List.set_cons_succ, i64_w, i32_w]
          rfl
         refine pu 24 (some 34) (bm 26 33554431) ?_
         refine pu 25 (some 35) (bm 26 67108863) ?_
         refine done_ (done_of HT_.out (by kernel_rfl)) ?_
         try go_wp2
         go_roundg k1
         case measure => have := HK1.out; omega
         case rel => exact ⟨(wrap64 (x3_1 + 1)), Z4, H', ⟨by have := HK1.out; omega⟩, ⟨by repeat (first | (with_reducible first | exact HB.out | apply below_alloc | apply pw_below_drewN | apply below_drew1) | exact HB.out)⟩⟩
       ·rw [if_neg c9] at H
        exact absurd H (by simp)
    ·rw [if_neg c3] at H
     exact absurd H (by simp)
   ·rw [if_neg c2] at H
    have c2b0 : decide (x3_1 < (l0.length : Int)) = false := decide_eq_false c2
    clear c2
    obtain rfl := Option.some.inj H
    go_wp2
    go_ret
    exact ⟨by first | rfl | (simp [errW_none, errW_some] <;> rfl) | (simp [*, errW_none, errW_some] <;> rfl), by repeat (first | (with_reducible first | exact HB.out | apply below_alloc | apply pw_below_drewN | apply below_drew1) | exact HB.out)⟩
end Go.Proofs.Ytckhjehibjdjdaa.P
namespace Go.Proofs.Ytckhjehibjdjdaa.P
open Go.RowKit Go.Proofs.YtckhjehibjdjdaaW.PrintWords Go.Proofs.YtckhjehibjdjdaaW.PrintLast Go.Proofs.YtckhjehibjdjdaaW.PrintMore
attribute [local go_sem] max2_int min2_int max_two min_two max_three min_three max_four min_four
set_option linter.unusedVariables false
set_option linter.unusedSimpArgs false
mutual
def ensembleref12_Few.j0 : Nat → List (S41) → Bool → Option (Bool)
 | 0, _, _ => none
 | k + 1, x2, x40 => if x40 = true then (some false) else (ensembleref12_Few.l0 k x2 0)
def ensembleref12_Few.l0 : Nat → List (S41) → Int → Option (Bool)
 | 0, _, _ => none
 | k + 1, x2, x7 => if x7 < (x2.length : Int) then (if 0 ≤ x7 then (if (((rd_T41 x2 x7).f4).length : Int) > 20 then (some false) else (ensembleref12_Few.l0 k x2 (wrap64 (x7 + 1)))) else (none)) else (some true)
end
def ensembleref12_Few.f (k : Nat) (l0 : List (S51)) (a1_0 : Int) (a1_1 : Int) (l2 : List (S41)) : Option (Bool) := if (l0.length : Int) > 70 then (ensembleref12_Few.j0 k l2 true) else ((ensembleref05_Right.f k l0).bind fun t129 => (if t129 = true then (if (l2.length : Int) > 20 then (ensembleref12_Few.j0 k l2 true) else (if a1_0 < (-1048576) then (ensembleref12_Few.j0 k l2 true) else (if a1_0 > 1048576 then (ensembleref12_Few.j0 k l2 true) else (if a1_1 < (-1048576) then (ensembleref12_Few.j0 k l2 true) else (ensembleref12_Few.j0 k l2 (decide (a1_1 > 1048576))))))) else (ensembleref12_Few.j0 k l2 true)))
set_option maxHeartbeats 8000000 in
set_option maxRecDepth 100000 in
theorem ensembleref12_Few.calls (k : Nat) (A0 : Option Addr) (c0 : Nat) (l0 : List (S51)) (a1_0 : Int) (a1_1 : Int) (A2 : Option Addr) (c2 : Nat) (l2 : List (S41)) (r : Bool) (w : World) (hr0 : Kd.C k51 w A0 l0.length l0) (hc0 : l0.length ≤ c0) (hr2 : Kd.C k41 w A2 l2.length l2) (hc2 : l2.length ≤ c2) (h : ensembleref12_Few.f k l0 a1_0 a1_1 l2 = some r) :
  Calls Try.prog 26 #[.slice A0 l0.length c0, .agg #[.int .i64 a1_0, .int .i64 a1_1], .slice A2 l2.length c2] w fun e w' => e = .returned (.bool r) ∧ Below w.heap.size w w' := by
 have hu24 := Try.underlying24
 have HR0 := Aside0.mk hr0
 have HC0 := Aside0.mk hc0
 clear hr0 hc0
 have HR2 := Aside0.mk hr2
 have HC2 := Aside0.mk hc2
 clear hr2 hc2
 have HB := Aside0.mk (Below.refl w.heap.size w)
 have H : (if (l0.length : Int) > 70 then (ensembleref12_Few.j0 k l2 true) else ((ensembleref05_Right.f k l0).bind fun t129 => (if t129 = true then (if (l2.length : Int) > 20 then (ensembleref12_Few.j0 k l2 true) else (if a1_0 < (-1048576) then (ensembleref12_Few.j0 k l2 true) else (if a1_0 > 1048576 then (ensembleref12_Few.j0 k l2 true) else (if a1_1 < (-1048576) then (ensembleref12_Few.j0 k l2 true) else (ensembleref12_Few.j0 k l2 (decide (a1_1 > 1048576))))))) else (ensembleref12_Few.j0 k l2 true)))) = some r := h
 clear h
 have HC4 := Aside0.mk H
 clear H
 go_enter Try.func26, Try.ntmps26
 go_upto_region 1 with (first | ((with_reducible refine gate_dst (N := 4) rfl ?_); (try (refine gate_guard (by rfl) ?_; dsimp only)); refine bx 4 #[.int .i64 a1_0, .int .i64 a1_1] 24 ?_; intro gb128 hg w5 hbox hb; have n0_ := Aside0.mk (below_step Z0 hb); have n1_ := Aside0.mk (hbox); have n2_ := Aside0.mk ((by rw [hg]; exact (below_size Z0) : w.heap.size ≤ gb128)); have n3_ := Aside0.mk ((by rw [hg]; exact (below_size Z0) : w.heap.size ≤ gb128)); clear HB; have HB := n0_; have BK128 := n1_; have GW128 := n2_; have GE128 := n3_; clear n0_ n1_ n2_ n3_; clear hb hbox hg))
 (try simp only [Act.put, List.setIfInBounds_toArray, List.set_cons_zero, List.set_cons_succ])
 go_cut [40] (fun v40 wc => ∃ (kq : Nat) (x40_3 : Bool), v40 = .bool x40_3 ∧ Aside0 (ensembleref12_Few.j0 kq l2 x40_3 = some r) ∧ Aside0 (kq ≤ k) ∧ Aside0 (wc.heap[gb128]? = some (.cells #[.int .i64 a1_0, .int .i64 a1_1] 24 (0, 0))) ∧ Aside0 (Below w.heap.size w wc))
 case first =>
  have H := HC4.out
  clear HC4
  by_cases c6 : (l0.length : Int) > 70
  ·rw [if_pos c6] at H
   have c6b0 : decide (70 < (l0.length : Int)) = true := decide_eq_true c6
   have c6b1 : decide (70 < l0.length) = true := decide_eq_true (by omega)
   clear c6
   (first | rw [c6b0] | (simp only [i64_w, i32_w]; rw [c6b0]) | skip)
   have H' := Aside0.mk H
   clear H
   go_wp2
   go_meet
   case rel => exact ⟨_, (true), Z4, H', ⟨by first | omega | exact Nat.le_refl _⟩, ⟨by (with_reducible repeat (first | refine blk_drewN ?_ _ | refine blk_drew ?_ | refine blk_alloc ?_ _)); exact BK128.out⟩, ⟨by repeat (first | (with_reducible first | exact HB.out | apply below_alloc | apply pw_below_drewN | apply below_drew1 | refine below_set ?_ GE128.out) | exact HB.out)⟩⟩
  ·rw [if_neg c6] at H
   have c6b0 : decide (70 < (l0.length : Int)) = false := decide_eq_false c6
   have c6b1 : decide (70 < l0.length) = false := decide_eq_false (by omega)
   clear c6
   (first | rw [c6b0] | (simp only [i64_w, i32_w]; rw [c6b0]) | skip)
   replace H := Option.bind_eq_some_iff.mp H
   obtain ⟨t129, A70, H⟩ := H
   replace H : (if t129 = true then (if (l2.length : Int) > 20 then (ensembleref12_Few.j0 k l2 true) else (if a1_0 < (-1048576) then (ensembleref12_Few.j0 k l2 true) else (if a1_0 > 1048576 then (ensembleref12_Few.j0 k l2 true) else (if a1_1 < (-1048576) then (ensembleref12_Few.j0 k l2 true) else (ensembleref12_Few.j0 k l2 (decide (a1_1 > 1048576))))))) else (ensembleref12_Few.j0 k l2 true)) = some r := H
   have A7 := Aside0.mk A70
   clear A70
   by_cases c8 : t129 = true
   ·subst c8
    have H1 : (if (l2.length : Int) > 20 then (ensembleref12_Few.j0 k l2 true) else (if a1_0 < (-1048576) then (ensembleref12_Few.j0 k l2 true) else (if a1_0 > 1048576 then (ensembleref12_Few.j0 k l2 true) else (if a1_1 < (-1048576) then (ensembleref12_Few.j0 k l2 true) else (ensembleref12_Few.j0 k l2 (decide (a1_1 > 1048576))))))) = some r := by rw [if_pos rfl] at H; exact H
    clear H
    have H := H1
    clear H1
    by_cases c9 : (l2.length : Int) > 20
    ·rw [if_pos c9] at H
     have c9b0 : decide (20 < (l2.length : Int)) = true := decide_eq_true c9
     have c9b1 : decide (20 < l2.length) = true := decide_eq_true (by omega)
     clear c9
     have H' := Aside0.mk H
     clear H
     go_wp2_with (first | (go_at_call 67; (with_reducible refine (ensembleref05_Right.calls k _ _ l0 true _ ?side1 ?side2 A7.out).mono ?_); (case side1 => repeat (first | exact (Kd.C_below HR0.out HB.out) | (with_reducible refine Kd.C_alloc ?_ _) | (with_reducible refine Kd.C_drewN ?_ _) | (with_reducible refine Kd.C_drew ?_))); (case side2 => exact HC0.out); rintro e w10 ⟨rfl, hb⟩; have n0_ := Aside0.mk (blk_below (g := gb128) (o := .cells #[.int .i64 a1_0, .int .i64 a1_1] 24 (0, 0)) (by (with_reducible repeat (first | refine blk_drewN ?_ _ | refine blk_drew ?_ | refine blk_alloc ?_ _)); exact BK128.out) hb); have n1_ := Aside0.mk (below_step (by repeat (first | (with_reducible first | exact HB.out | apply below_alloc | apply pw_below_drewN | apply below_drew1 | refine below_set ?_ GE128.out) | exact HB.out)) hb); clear BK128; clear HB; have BK128 := n0_; have HB := n1_; clear n0_ n1_; (try clear hb); (try clear hb2); (try clear hk); (try clear hi)))
     go_meet
     case rel => exact ⟨_, (true), Z4, H', ⟨by first | omega | exact Nat.le_refl _⟩, ⟨by (with_reducible repeat (first | refine blk_drewN ?_ _ | refine blk_drew ?_ | refine blk_alloc ?_ _)); exact BK128.out⟩, ⟨by repeat (first | (with_reducible first | exact HB.out | apply below_alloc | apply pw_below_drewN | apply below_drew1 | refine below_set ?_ GE128.out) | exact HB.out)⟩⟩
    ·rw [if_neg c9] at H
     have c9b0 : decide (20 < (l2.length : Int)) = false := decide_eq_false c9
     have c9b1 : decide (20 < l2.length) = false := decide_eq_false (by omega)
     clear c9
     by_cases c11 : a1_0 < (-1048576)
     ·rw [if_pos c11] at H
      have c11b0 : decide (a1_0 < (-1048576)) = true := decide_eq_true c11
      clear c11
      have H' := Aside0.mk H
      clear H
      go_wp2_with (first | (go_at_call 67; (with_reducible refine (ensembleref05_Right.calls k _ _ l0 true _ ?side1 ?side2 A7.out).mono ?_); (case side1 => repeat (first | exact (Kd.C_below HR0.out HB.out) | (with_reducible refine Kd.C_alloc ?_ _) | (with_reducible refine Kd.C_drewN ?_ _) | (with_reducible refine Kd.C_drew ?_))); (case side2 => exact HC0.out); rintro e w12 ⟨rfl, hb⟩; have n0_ := Aside0.mk (blk_below (g := gb128) (o := .cells #[.int .i64 a1_0, .int .i64 a1_1] 24 (0, 0)) (by (with_reducible repeat (first | refine blk_drewN ?_ _ | refine blk_drew ?_ | refine blk_alloc ?_ _)); exact BK128.out) hb); have n1_ := Aside0.mk (below_step (by repeat (first | (with_reducible first | exact HB.out | apply below_alloc | apply pw_below_drewN | apply below_drew1 | refine below_set ?_ GE128.out) | exact HB.out)) hb); clear BK128; clear HB; have BK128 := n0_; have HB := n1_; clear n0_ n1_; (try clear hb); (try clear hb2); (try clear hk); (try clear hi); have hcz13_0 : w12.cell? ⟨gb128, 0, none⟩ = some (.int .i64 a1_0) := (blk_cell BK128.out 0).trans rfl; have hcz13_1 : w12.cell? ⟨gb128, 1, none⟩ = some (.int .i64 a1_1) := (blk_cell BK128.out 1).trans rfl; have hfz13_0 := blk_frozen BK128.out 0; have hfz13_1 := blk_frozen BK128.out 1))
      go_meet
      case rel => exact ⟨_, (true), Z4, H', ⟨by first | omega | exact Nat.le_refl _⟩, ⟨by (with_reducible repeat (first | refine blk_drewN ?_ _ | refine blk_drew ?_ | refine blk_alloc ?_ _)); exact BK128.out⟩, ⟨by repeat (first | (with_reducible first | exact HB.out | apply below_alloc | apply pw_below_drewN | apply below_drew1 | refine below_set ?_ GE128.out) | exact HB.out)⟩⟩
     ·rw [if_neg c11] at H
      have c11b0 : decide (a1_0 < (-1048576)) = false := decide_eq_false c11
      clear c11
      by_cases c14 : a1_0 > 1048576
      ·rw [if_pos c14] at H
       have c14b0 : decide (1048576 < a1_0) = true := decide_eq_true c14
       clear c14
       have H' := Aside0.mk H
       clear H
       go_wp2_with (first | (go_at_call 67; (with_reducible refine (ensembleref05_Right.calls k _ _ l0 true _ ?side1 ?side2 A7.out).mono ?_); (case side1 => repeat (first | exact (Kd.C_below HR0.out HB.out) | (with_reducible refine Kd.C_alloc ?_ _) | (with_reducible refine Kd.C_drewN ?_ _) | (with_reducible refine Kd.C_drew ?_))); (case side2 => exact HC0.out); rintro e w15 ⟨rfl, hb⟩; have n0_ := Aside0.mk (blk_below (g := gb128) (o := .cells #[.int .i64 a1_0, .int .i64 a1_1] 24 (0, 0)) (by (with_reducible repeat (first | refine blk_drewN ?_ _ | refine blk_drew ?_ | refine blk_alloc ?_ _)); exact BK128.out) hb); have n1_ := Aside0.mk (below_step (by repeat (first | (with_reducible first | exact HB.out | apply below_alloc | apply pw_below_drewN | apply below_drew1 | refine below_set ?_ GE128.out) | exact HB.out)) hb); clear BK128; clear HB; have BK128 := n0_; have HB := n1_; clear n0_ n1_; (try clear hb); (try clear hb2); (try clear hk); (try clear hi); have hcz16_0 : w15.cell? ⟨gb128, 0, none⟩ = some (.int .i64 a1_0) := (blk_cell BK128.out 0).trans rfl; have hcz16_1 : w15.cell? ⟨gb128, 1, none⟩ = some (.int .i64 a1_1) := (blk_cell BK128.out 1).trans rfl; have hfz16_0 := blk_frozen BK128.out 0; have hfz16_1 := blk_frozen BK128.out 1))
       go_meet
       case rel => exact ⟨_, (true), Z4, H', ⟨by first | omega | exact Nat.le_refl _⟩, ⟨by (with_reducible repeat (first | refine blk_drewN ?_ _ | refine blk_drew ?_ | refine blk_alloc ?_ _)); exact BK128.out⟩, ⟨by repeat (first | (with_reducible first | exact HB.out | apply below_alloc | apply pw_below_drewN | apply below_drew1 | refine below_set ?_ GE128.out) | exact HB.out)⟩⟩
      ·rw [if_neg c14] at H
       have c14b0 : decide (1048576 < a1_0) = false := decide_eq_false c14
       clear c14
       by_cases c17 : a1_1 < (-1048576)
       ·rw [if_pos c17] at H
        have c17b0 : decide (a1_1 < (-1048576)) = true := decide_eq_true c17
        clear c17
        have H' := Aside0.mk H
        clear H
        go_wp2_with (first | (go_at_call 67; (with_reducible refine (ensembleref05_Right.calls k _ _ l0 true _ ?side1 ?side2 A7.out).mono ?_); (case side1 => repeat (first | exact (Kd.C_below HR0.out HB.out) | (with_reducible refine Kd.C_alloc ?_ _) | (with_reducible refine Kd.C_drewN ?_ _) | (with_reducible refine Kd.C_drew ?_))); (case side2 => exact HC0.out); rintro e w18 ⟨rfl, hb⟩; have n0_ := Aside0.mk (blk_below (g := gb128) (o := .cells #[.int .i64 a1_0, .int .i64 a1_1] 24 (0, 0)) (by (with_reducible repeat (first | refine blk_drewN ?_ _ | refine blk_drew ?_ | refine blk_alloc ?_ _)); exact BK128.out) hb); have n1_ := Aside0.mk (below_step (by repeat (first | (with_reducible first | exact HB.out | apply below_alloc | apply pw_below_drewN | apply below_drew1 | refine below_set ?_ GE128.out) | exact HB.out)) hb); clear BK128; clear HB; have BK128 := n0_; have HB := n1_; clear n0_ n1_; (try clear hb); (try clear hb2); (try clear hk); (try clear hi); have hcz19_0 : w18.cell? ⟨gb128, 0, none⟩ = some (.int .i64 a1_0) := (blk_cell BK128.out 0).trans rfl; have hcz19_1 : w18.cell? ⟨gb128, 1, none⟩ = some (.int .i64 a1_1) := (blk_cell BK128.out 1).trans rfl; have hfz19_0 := blk_frozen BK128.out 0; have hfz19_1 := blk_frozen BK128.out 1))
        go_meet
        case rel => exact ⟨_, (true), Z4, H', ⟨by first | omega | exact Nat.le_refl _⟩, ⟨by (with_reducible repeat (first | refine blk_drewN ?_ _ | refine blk_drew ?_ | refine blk_alloc ?_ _)); exact BK128.out⟩, ⟨by repeat (first | (with_reducible first | exact HB.out | apply below_alloc | apply pw_below_drewN | apply below_drew1 | refine below_set ?_ GE128.out) | exact HB.out)⟩⟩
       ·rw [if_neg c17] at H
        have c17b0 : decide (a1_1 < (-1048576)) = false := decide_eq_false c17
        clear c17
        have H' := Aside0.mk H
        clear H
        go_wp2_with (first | (go_at_call 67; (with_reducible refine (ensembleref05_Right.calls k _ _ l0 true _ ?side1 ?side2 A7.out).mono ?_); (case side1 => repeat (first | exact (Kd.C_below HR0.out HB.out) | (with_reducible refine Kd.C_alloc ?_ _) | (with_reducible refine Kd.C_drewN ?_ _) | (with_reducible refine Kd.C_drew ?_))); (case side2 => exact HC0.out); rintro e w20 ⟨rfl, hb⟩; have n0_ := Aside0.mk (blk_below (g := gb128) (o := .cells #[.int .i64 a1_0, .int .i64 a1_1] 24 (0, 0)) (by (with_reducible repeat (first | refine blk_drewN ?_ _ | refine blk_drew ?_ | refine blk_alloc ?_ _)); exact BK128.out) hb); have n1_ := Aside0.mk (below_step (by repeat (first | (with_reducible first | exact HB.out | apply below_alloc | apply pw_below_drewN | apply below_drew1 | refine below_set ?_ GE128.out) | exact HB.out)) hb); clear BK128; clear HB; have BK128 := n0_; have HB := n1_; clear n0_ n1_; (try clear hb); (try clear hb2); (try clear hk); (try clear hi); have hcz21_0 : w20.cell? ⟨gb128, 0, none⟩ = some (.int .i64 a1_0) := (blk_cell BK128.out 0).trans rfl; have hcz21_1 : w20.cell? ⟨gb128, 1, none⟩ = some (.int .i64 a1_1) := (blk_cell BK128.out 1).trans rfl; have hfz21_0 := blk_frozen BK128.out 0; have hfz21_1 := blk_frozen BK128.out 1))
        go_meet
        case rel => exact ⟨_, (decide (a1_1 > 1048576)), Z4, H', ⟨by first | omega | exact Nat.le_refl _⟩, ⟨by (with_reducible repeat (first | refine blk_drewN ?_ _ | refine blk_drew ?_ | refine blk_alloc ?_ _)); exact BK128.out⟩, ⟨by repeat (first | (with_reducible first | exact HB.out | apply below_alloc | apply pw_below_drewN | apply below_drew1 | refine below_set ?_ GE128.out) | exact HB.out)⟩⟩
   ·replace c8 := Bool.eq_false_iff.mpr c8
    subst c8
    have H1 : (ensembleref12_Few.j0 k l2 true) = some r := by rw [if_neg (show ¬ (false = true) by decide)] at H; exact H
    clear H
    have H := H1
    clear H1
    have H' := Aside0.mk H
    clear H
    go_wp2_with (first | (go_at_call 67; (with_reducible refine (ensembleref05_Right.calls k _ _ l0 false _ ?side1 ?side2 A7.out).mono ?_); (case side1 => repeat (first | exact (Kd.C_below HR0.out HB.out) | (with_reducible refine Kd.C_alloc ?_ _) | (with_reducible refine Kd.C_drewN ?_ _) | (with_reducible refine Kd.C_drew ?_))); (case side2 => exact HC0.out); rintro e w22 ⟨rfl, hb⟩; have n0_ := Aside0.mk (blk_below (g := gb128) (o := .cells #[.int .i64 a1_0, .int .i64 a1_1] 24 (0, 0)) (by (with_reducible repeat (first | refine blk_drewN ?_ _ | refine blk_drew ?_ | refine blk_alloc ?_ _)); exact BK128.out) hb); have n1_ := Aside0.mk (below_step (by repeat (first | (with_reducible first | exact HB.out | apply below_alloc | apply pw_below_drewN | apply below_drew1 | refine below_set ?_ GE128.out) | exact HB.out)) hb); clear BK128; clear HB; have BK128 := n0_; have HB := n1_; clear n0_ n1_; (try clear hb); (try clear hb2); (try clear hk); (try clear hi)))
    go_meet
    case rel => exact ⟨_, (true), Z4, H', ⟨by first | omega | exact Nat.le_refl _⟩, ⟨by (with_reducible repeat (first | refine blk_drewN ?_ _ | refine blk_drew ?_ | refine blk_alloc ?_ _)); exact BK128.out⟩, ⟨by repeat (first | (with_reducible first | exact HB.out | apply below_alloc | apply pw_below_drewN | apply below_drew1 | refine below_set ?_ GE128.out) | exact HB.out)⟩⟩
 case rest =>
  clear HC4
  try clear c1
  try clear c2
  try clear p2
  try clear c6
  try clear c6b0
  try clear c6b1
  try clear c8
  try clear c9
  try clear c9b0
  try clear c9b1
  try clear c11
  try clear c11b0
  try clear c14
  try clear c14b0
  try clear c17
  try clear c17b0
  try clear hcz13_0
  try clear hcz13_1
  try clear hcz16_0
  try clear hcz16_1
  try clear hcz19_0
  try clear hcz19_1
  try clear hcz21_0
  try clear hcz21_1
  try clear hfz13_0
  try clear hfz13_1
  try clear hfz16_0
  try clear hfz16_1
  try clear hfz19_0
  try clear hfz19_1
  try clear hfz21_0
  try clear hfz21_1
  obtain ⟨kq, x40_3, rfl, HA, HJ3, BK128, HB⟩ := hcut
  cases kq with
  | zero => exact absurd HA.out (by simp [ensembleref12_Few.j0])
  | succ kj3 =>
   have H := HA.out
   clear HA
   simp only [ensembleref12_Few.j0] at H
   by_cases c23 : x40_3 = true
   ·subst c23
    have H1 : (some false) = some r := by rw [if_pos rfl] at H; exact H
    clear H
    have H := H1
    clear H1
    obtain rfl := Option.some.inj H
    go_wp2
    go_ret
    exact ⟨by first | rfl | (simp [errW_none, errW_some] <;> rfl) | (simp [*, errW_none, errW_some] <;> rfl), by repeat (first | (with_reducible first | exact HB.out | apply below_alloc | apply pw_below_drewN | apply below_drew1 | refine below_set ?_ GE128.out) | exact HB.out)⟩
   ·replace c23 := Bool.eq_false_iff.mpr c23
    subst c23
    have H1 : (ensembleref12_Few.l0 kj3 l2 0) = some r := by rw [if_neg (show ¬ (false = true) by decide)] at H; exact H
    clear H
    have H := H1
    clear H1
    have H' := Aside0.mk H
    clear H
    go_wp2
    go_loopg [7] kj3 (fun kq v7 w' => ∃ (x7_2 : Int), v7 = .int .i64 x7_2 ∧ Aside0 (ensembleref12_Few.l0 kq l2 x7_2 = some r) ∧ Aside0 (kq ≤ kj3) ∧ Aside0 (w'.heap[gb128]? = some (.cells #[.int .i64 a1_0, .int .i64 a1_1] 24 (0, 0))) ∧ Aside0 (Below w.heap.size w w'))
    case atStart => exact ⟨(0), Z4, H', ⟨Nat.le_refl _⟩, ⟨by (with_reducible repeat (first | refine blk_drewN ?_ _ | refine blk_drew ?_ | refine blk_alloc ?_ _)); exact BK128.out⟩, ⟨by repeat (first | (with_reducible first | exact HB.out | apply below_alloc | apply pw_below_drewN | apply below_drew1 | refine below_set ?_ GE128.out) | exact HB.out)⟩⟩
    case round =>
     clear H'
     try clear c1
     try clear c2
     try clear p2
     try clear c6
     try clear c6b0
     try clear c6b1
     try clear c8
     try clear c9
     try clear c9b0
     try clear c9b1
     try clear c11
     try clear c11b0
     try clear c14
     try clear c14b0
     try clear c17
     try clear c17b0
     try clear c23
     try clear hcz13_0
     try clear hcz13_1
     try clear hcz16_0
     try clear hcz16_1
     try clear hcz19_0
     try clear hcz19_1
     try clear hcz21_0
     try clear hcz21_1
     try clear hfz13_0
     try clear hfz13_1
     try clear hfz16_0
     try clear hfz16_1
     try clear hfz19_0
     try clear hfz19_1
     try clear hfz21_0
     try clear hfz21_1
     try clear p2
     obtain ⟨x7_2, rfl, HA, HK2, BK128, HB⟩ := hrel
     cases gk with
     | zero => exact absurd HA.out (by simp [ensembleref12_Few.l0])
     | succ k2 =>
      have H := HA.out
      clear HA
      simp only [ensembleref12_Few.l0] at H
      by_cases c24 : x7_2 < (l2.length : Int)
      ·rw [if_pos c24] at H
       have c24b0 : decide (x7_2 < (l2.length : Int)) = true := decide_eq_true c24
       clear c24
       by_cases c25 : 0 ≤ x7_2
       ·rw [if_pos c25] at H
        have c25b0 : decide (0 ≤ x7_2) = true := decide_eq_true c25
        clear c25
        by_cases c26 : (((rd_T41 l2 x7_2).f4).length : Int) > 20
        ·rw [if_pos c26] at H
         have c26b0 : decide (20 < (((rd_T41 l2 x7_2).f4).length : Int)) = true := decide_eq_true c26
         have c26b1 : decide (20 < ((rd_T41 l2 x7_2).f4).length) = true := decide_eq_true (by omega)
         clear c26
         obtain rfl := Option.some.inj H
         have p130 : 0 ≤ (x7_2 : Int) := of_decide_eq_true Z2
         have q130 : x7_2 < (l2.length : Int) := of_decide_eq_true Z2
         obtain ⟨ad130, A130_4, c130_4, e130, hx130_0, hx130_1, hx130_2, hx130_3, hx130_4, hl130_4, hi130_4⟩ := at_T41 HR2.out x7_2 p130 q130
         cases e130
         replace hx130_0 := (HB.out.cell (World.block_lt_of_cell? w _ hx130_0)).trans hx130_0
         replace hx130_1 := (HB.out.cell (World.block_lt_of_cell? w _ hx130_1)).trans hx130_1
         replace hx130_2 := (HB.out.cell (World.block_lt_of_cell? w _ hx130_2)).trans hx130_2
         replace hx130_3 := (HB.out.cell (World.block_lt_of_cell? w _ hx130_3)).trans hx130_3
         replace hx130_4 := (HB.out.cell (World.block_lt_of_cell? w _ hx130_4)).trans hx130_4
         have HR130_4 := Aside0.mk hi130_4
         have HC130_4 := Aside0.mk hl130_4
         clear hi130_4 hl130_4
         replace p130 := eq_true p130
         replace q130 := eq_true q130
         go_wp2
         go_ret
         exact ⟨by first | rfl | (simp [errW_none, errW_some] <;> rfl) | (simp [*, errW_none, errW_some] <;> rfl), by repeat (first | (with_reducible first | exact HB.out | apply below_alloc | apply pw_below_drewN | apply below_drew1 | refine below_set ?_ GE128.out) | exact HB.out)⟩
        ·rw [if_neg c26] at H
         have c26b0 : decide (20 < (((rd_T41 l2 x7_2).f4).length : Int)) = false := decide_eq_false c26
         have c26b1 : decide (20 < ((rd_T41 l2 x7_2).f4).length) = false := decide_eq_false (by omega)
         clear c26
         have H' := Aside0.mk H
         clear H
         have p130 : 0 ≤ (x7_2 : Int) := of_decide_eq_true Z2
         have q130 : x7_2 < (l2.length : Int) := of_decide_eq_true Z2
         obtain ⟨ad130, A130_4, c130_4, e130, hx130_0, hx130_1, hx130_2, hx130_3, hx130_4, hl130_4, hi130_4⟩ := at_T41 HR2.out x7_2 p130 q130
         cases e130
         replace hx130_0 := (HB.out.cell (World.block_lt_of_cell? w _ hx130_0)).trans hx130_0
         replace hx130_1 := (HB.out.cell (World.block_lt_of_cell? w _ hx130_1)).trans hx130_1
         replace hx130_2 := (HB.out.cell (World.block_lt_of_cell? w _ hx130_2)).trans hx130_2
         replace hx130_3 := (HB.out.cell (World.block_lt_of_cell? w _ hx130_3)).trans hx130_3
         replace hx130_4 := (HB.out.cell (World.block_lt_of_cell? w _ hx130_4)).trans hx130_4
         have HR130_4 := Aside0.mk hi130_4
         have HC130_4 := Aside0.mk hl130_4
         clear hi130_4 hl130_4
         replace p130 := eq_true p130
         replace q130 := eq_true q130
         go_wp2
         go_roundg k2
         case measure => have := HJ3.out; have := HK2.out; omega
         case rel => exact ⟨(wrap64 (x7_2 + 1)), Z4, H', ⟨by have := HJ3.out; have := HK2.out; omega⟩, ⟨by (with_reducible repeat (first | refine blk_drewN ?_ _ | refine blk_drew ?_ | refine blk_alloc ?_ _)); exact BK128.out⟩, ⟨by repeat (first | (with_reducible first | exact HB.out | apply below_alloc | apply pw_below_drewN | apply below_drew1 | refine below_set ?_ GE128.out) | exact HB.out)⟩⟩
       ·rw [if_neg c25] at H
        exact absurd H (by simp)
      ·rw [if_neg c24] at H
       have c24b0 : decide (x7_2 < (l2.length : Int)) = false := decide_eq_false c24
       clear c24
       obtain rfl := Option.some.inj H
       go_wp2
       go_ret
       exact ⟨by first | rfl | (simp [errW_none, errW_some] <;> rfl) | (simp [*, errW_none, errW_some] <;> rfl), by repeat (first | (with_reducible first | exact HB.out | apply below_alloc | apply pw_below_drewN | apply below_drew1 | refine below_set ?_ GE128.out) | exact HB.out)⟩
end Go.Proofs.Ytckhjehibjdjdaa.P
namespace Go.Proofs.Ytckhjehibjdjdaa.P
open Go.RowKit Go.Proofs.YtckhjehibjdjdaaW.PrintWords Go.Proofs.YtckhjehibjdjdaaW.PrintLast Go.Proofs.YtckhjehibjdjdaaW.PrintMore
attribute [local go_sem] max2_int min2_int max_two min_two max_three min_three max_four min_four
set_option linter.unusedVariables false
set_option linter.unusedSimpArgs false
mutual
def ensemblelaw12_PromiseOnly.j0 : Nat → Int → List (S41) → Int → Int → Bool → Option (Bool)
 | 0, _, _, _, _, _ => none
 | k + 1, x0, x3, x11, x12, x60 => if x60 = true then (some false) else (if x12 = 0 then (if x11 = x0 then (ensemblelaw12_PromiseOnly.j1 k x0 x3 x11 true) else (ensemblelaw12_PromiseOnly.j1 k x0 x3 x11 (x11 == 1073741825))) else (ensemblelaw12_PromiseOnly.j1 k x0 x3 x11 true))
def ensemblelaw12_PromiseOnly.j1 : Nat → Int → List (S41) → Int → Bool → Option (Bool)
 | 0, _, _, _, _ => none
 | k + 1, x0, x3, x11, x71 => if x71 = true then (some true) else (ensemblelaw12_PromiseOnly.l0 k x0 x3 x11 0)
def ensemblelaw12_PromiseOnly.l0 : Nat → Int → List (S41) → Int → Int → Option (Bool)
 | 0, _, _, _, _ => none
 | k + 1, x0, x3, x11, x15 => if x15 < (x3.length : Int) then (if 0 ≤ x15 then (if ((rd_T41 x3 x15).f2) = x11 then (some (decide (x11 > x0))) else (ensemblelaw12_PromiseOnly.l0 k x0 x3 x11 (wrap64 (x15 + 1)))) else (none)) else (some false)
end
def ensemblelaw12_PromiseOnly.f (k : Nat) (a0 : Int) (l1 : List (S51)) (a2_0 : Int) (a2_1 : Int) (l3 : List (S41)) (a4_0 : Int) (a4_1 : Int) (a4_2 : Int) (a4_3 : Int) (a4_4 : Int) (a4_5 : Int) : Option (Bool) := (ensemblelaw12_awake.f).bind fun t293 => (if t293 = true then ((ensembleref12_Few.f k l1 a2_0 a2_1 l3).bind fun t294 => (if t294 = true then ((promise_Earliest.f a0 l1 a2_0 a2_1 l3 a4_0 a4_1 a4_2 a4_3 a4_4 a4_5).bind fun bt295 => ((promise_Earliest.f a0 l1 a2_0 a2_1 ([] : List (S41)) a4_0 a4_1 a4_2 a4_3 a4_4 a4_5).bind fun bt297 => (if bt297.2 = 0 then (if bt297.1 = a0 then ((promise_Fits.f k l1 a2_0 a2_1 a4_0 a4_1 a4_2 a4_3 a4_4 a4_5).bind fun t299 => (ensemblelaw12_PromiseOnly.j0 k a0 l3 bt295.1 bt295.2 ((bt297.1 == a0) != t299))) else (if bt297.1 = 1073741825 then ((promise_Fits.f k l1 a2_0 a2_1 a4_0 a4_1 a4_2 a4_3 a4_4 a4_5).bind fun t300 => (ensemblelaw12_PromiseOnly.j0 k a0 l3 bt295.1 bt295.2 ((bt297.1 == a0) != t300))) else (ensemblelaw12_PromiseOnly.j0 k a0 l3 bt295.1 bt295.2 true))) else (ensemblelaw12_PromiseOnly.j0 k a0 l3 bt295.1 bt295.2 false)))) else (some true))) else (some false))
set_option maxHeartbeats 8000000 in
set_option maxRecDepth 100000 in
theorem ensemblelaw12_PromiseOnly.calls (k : Nat) (a0 : Int) (A1 : Option Addr) (c1 : Nat) (l1 : List (S51)) (a2_0 : Int) (a2_1 : Int) (A3 : Option Addr) (c3 : Nat) (l3 : List (S41)) (a4_0 : Int) (a4_1 : Int) (a4_2 : Int) (a4_3 : Int) (a4_4 : Int) (a4_5 : Int) (r : Bool) (w : World) (hr1 : Kd.C k51 w A1 l1.length l1) (hc1 : l1.length ≤ c1) (hr3 : Kd.C k41 w A3 l3.length l3) (hc3 : l3.length ≤ c3) (h : ensemblelaw12_PromiseOnly.f k a0 l1 a2_0 a2_1 l3 a4_0 a4_1 a4_2 a4_3 a4_4 a4_5 = some r) :
  Calls Try.prog 6 #[.int .i64 a0, .slice A1 l1.length c1, .agg #[.int .i64 a2_0, .int .i64 a2_1], .slice A3 l3.length c3, .agg #[.int .i64 a4_0, .int .i64 a4_1, .int .i64 a4_2, .int .i64 a4_3, .int .i64 a4_4, .int .i64 a4_5]] w fun e w' => e = .returned (.bool r) ∧ Below w.heap.size w w' := by
 have hu24 := Try.underlying24
 have hu29 := Try.underlying29
 have HR1 := Aside0.mk hr1
 have HC1 := Aside0.mk hc1
 clear hr1 hc1
 have HR3 := Aside0.mk hr3
 have HC3 := Aside0.mk hc3
 clear hr3 hc3
 have HB := Aside0.mk (Below.refl w.heap.size w)
 have H : ((ensemblelaw12_awake.f).bind fun t293 => (if t293 = true then ((ensembleref12_Few.f k l1 a2_0 a2_1 l3).bind fun t294 => (if t294 = true then ((promise_Earliest.f a0 l1 a2_0 a2_1 l3 a4_0 a4_1 a4_2 a4_3 a4_4 a4_5).bind fun bt295 => ((promise_Earliest.f a0 l1 a2_0 a2_1 ([] : List (S41)) a4_0 a4_1 a4_2 a4_3 a4_4 a4_5).bind fun bt297 => (if bt297.2 = 0 then (if bt297.1 = a0 then ((promise_Fits.f k l1 a2_0 a2_1 a4_0 a4_1 a4_2 a4_3 a4_4 a4_5).bind fun t299 => (ensemblelaw12_PromiseOnly.j0 k a0 l3 bt295.1 bt295.2 ((bt297.1 == a0) != t299))) else (if bt297.1 = 1073741825 then ((promise_Fits.f k l1 a2_0 a2_1 a4_0 a4_1 a4_2 a4_3 a4_4 a4_5).bind fun t300 => (ensemblelaw12_PromiseOnly.j0 k a0 l3 bt295.1 bt295.2 ((bt297.1 == a0) != t300))) else (ensemblelaw12_PromiseOnly.j0 k a0 l3 bt295.1 bt295.2 true))) else (ensemblelaw12_PromiseOnly.j0 k a0 l3 bt295.1 bt295.2 false)))) else (some true))) else (some false))) = some r := h
 clear h
 replace H := Option.bind_eq_some_iff.mp H
 obtain ⟨t293, A60, H⟩ := H
 replace H : (if t293 = true then ((ensembleref12_Few.f k l1 a2_0 a2_1 l3).bind fun t294 => (if t294 = true then ((promise_Earliest.f a0 l1 a2_0 a2_1 l3 a4_0 a4_1 a4_2 a4_3 a4_4 a4_5).bind fun bt295 => ((promise_Earliest.f a0 l1 a2_0 a2_1 ([] : List (S41)) a4_0 a4_1 a4_2 a4_3 a4_4 a4_5).bind fun bt297 => (if bt297.2 = 0 then (if bt297.1 = a0 then ((promise_Fits.f k l1 a2_0 a2_1 a4_0 a4_1 a4_2 a4_3 a4_4 a4_5).bind fun t299 => (ensemblelaw12_PromiseOnly.j0 k a0 l3 bt295.1 bt295.2 ((bt297.1 == a0) != t299))) else (if bt297.1 = 1073741825 then ((promise_Fits.f k l1 a2_0 a2_1 a4_0 a4_1 a4_2 a4_3 a4_4 a4_5).bind fun t300 => (ensemblelaw12_PromiseOnly.j0 k a0 l3 bt295.1 bt295.2 ((bt297.1 == a0) != t300))) else (ensemblelaw12_PromiseOnly.j0 k a0 l3 bt295.1 bt295.2 true))) else (ensemblelaw12_PromiseOnly.j0 k a0 l3 bt295.1 bt295.2 false)))) else (some true))) else (some false)) = some r := H
 have A6 := Aside0.mk A60
 clear A60
 by_cases c7 : t293 = true
 ·subst c7
  have H1 : ((ensembleref12_Few.f k l1 a2_0 a2_1 l3).bind fun t294 => (if t294 = true then ((promise_Earliest.f a0 l1 a2_0 a2_1 l3 a4_0 a4_1 a4_2 a4_3 a4_4 a4_5).bind fun bt295 => ((promise_Earliest.f a0 l1 a2_0 a2_1 ([] : List (S41)) a4_0 a4_1 a4_2 a4_3 a4_4 a4_5).bind fun bt297 => (if bt297.2 = 0 then (if bt297.1 = a0 then ((promise_Fits.f k l1 a2_0 a2_1 a4_0 a4_1 a4_2 a4_3 a4_4 a4_5).bind fun t299 => (ensemblelaw12_PromiseOnly.j0 k a0 l3 bt295.1 bt295.2 ((bt297.1 == a0) != t299))) else (if bt297.1 = 1073741825 then ((promise_Fits.f k l1 a2_0 a2_1 a4_0 a4_1 a4_2 a4_3 a4_4 a4_5).bind fun t300 => (ensemblelaw12_PromiseOnly.j0 k a0 l3 bt295.1 bt295.2 ((bt297.1 == a0) != t300))) else (ensemblelaw12_PromiseOnly.j0 k a0 l3 bt295.1 bt295.2 true))) else (ensemblelaw12_PromiseOnly.j0 k a0 l3 bt295.1 bt295.2 false)))) else (some true))) = some r := by rw [if_pos rfl] at H; exact H
  clear H
  have H := H1
  clear H1
  replace H := Option.bind_eq_some_iff.mp H
  obtain ⟨t294, A80, H⟩ := H
  replace H : (if t294 = true then ((promise_Earliest.f a0 l1 a2_0 a2_1 l3 a4_0 a4_1 a4_2 a4_3 a4_4 a4_5).bind fun bt295 => ((promise_Earliest.f a0 l1 a2_0 a2_1 ([] : List (S41)) a4_0 a4_1 a4_2 a4_3 a4_4 a4_5).bind fun bt297 => (if bt297.2 = 0 then (if bt297.1 = a0 then ((promise_Fits.f k l1 a2_0 a2_1 a4_0 a4_1 a4_2 a4_3 a4_4 a4_5).bind fun t299 => (ensemblelaw12_PromiseOnly.j0 k a0 l3 bt295.1 bt295.2 ((bt297.1 == a0) != t299))) else (if bt297.1 = 1073741825 then ((promise_Fits.f k l1 a2_0 a2_1 a4_0 a4_1 a4_2 a4_3 a4_4 a4_5).bind fun t300 => (ensemblelaw12_PromiseOnly.j0 k a0 l3 bt295.1 bt295.2 ((bt297.1 == a0) != t300))) else (ensemblelaw12_PromiseOnly.j0 k a0 l3 bt295.1 bt295.2 true))) else (ensemblelaw12_PromiseOnly.j0 k a0 l3 bt295.1 bt295.2 false)))) else (some true)) = some r := H
  have A8 := Aside0.mk A80
  clear A80
  by_cases c9 : t294 = true
  ·subst c9
   have H1 : ((promise_Earliest.f a0 l1 a2_0 a2_1 l3 a4_0 a4_1 a4_2 a4_3 a4_4 a4_5).bind fun bt295 => ((promise_Earliest.f a0 l1 a2_0 a2_1 ([] : List (S41)) a4_0 a4_1 a4_2 a4_3 a4_4 a4_5).bind fun bt297 => (if bt297.2 = 0 then (if bt297.1 = a0 then ((promise_Fits.f k l1 a2_0 a2_1 a4_0 a4_1 a4_2 a4_3 a4_4 a4_5).bind fun t299 => (ensemblelaw12_PromiseOnly.j0 k a0 l3 bt295.1 bt295.2 ((bt297.1 == a0) != t299))) else (if bt297.1 = 1073741825 then ((promise_Fits.f k l1 a2_0 a2_1 a4_0 a4_1 a4_2 a4_3 a4_4 a4_5).bind fun t300 => (ensemblelaw12_PromiseOnly.j0 k a0 l3 bt295.1 bt295.2 ((bt297.1 == a0) != t300))) else (ensemblelaw12_PromiseOnly.j0 k a0 l3 bt295.1 bt295.2 true))) else (ensemblelaw12_PromiseOnly.j0 k a0 l3 bt295.1 bt295.2 false)))) = some r := by rw [if_pos rfl] at H; exact H
   clear H
   have H := H1
   clear H1
   replace H := Option.bind_eq_some_iff.mp H
   obtain ⟨⟨t295, t296⟩, A100, H⟩ := H
   replace H : ((promise_Earliest.f a0 l1 a2_0 a2_1 ([] : List (S41)) a4_0 a4_1 a4_2 a4_3 a4_4 a4_5).bind fun bt297 => (if bt297.2 = 0 then (if bt297.1 = a0 then ((promise_Fits.f k l1 a2_0 a2_1 a4_0 a4_1 a4_2 a4_3 a4_4 a4_5).bind fun t299 => (ensemblelaw12_PromiseOnly.j0 k a0 l3 t295 t296 ((bt297.1 == a0) != t299))) else (if bt297.1 = 1073741825 then ((promise_Fits.f k l1 a2_0 a2_1 a4_0 a4_1 a4_2 a4_3 a4_4 a4_5).bind fun t300 => (ensemblelaw12_PromiseOnly.j0 k a0 l3 t295 t296 ((bt297.1 == a0) != t300))) else (ensemblelaw12_PromiseOnly.j0 k a0 l3 t295 t296 true))) else (ensemblelaw12_PromiseOnly.j0 k a0 l3 t295 t296 false))) = some r := H
   have A10 := Aside0.mk A100
   clear A100
   replace H := Option.bind_eq_some_iff.mp H
   obtain ⟨⟨t297, t298⟩, A110, H⟩ := H
   replace H : (if t298 = 0 then (if t297 = a0 then ((promise_Fits.f k l1 a2_0 a2_1 a4_0 a4_1 a4_2 a4_3 a4_4 a4_5).bind fun t299 => (ensemblelaw12_PromiseOnly.j0 k a0 l3 t295 t296 ((t297 == a0) != t299))) else (if t297 = 1073741825 then ((promise_Fits.f k l1 a2_0 a2_1 a4_0 a4_1 a4_2 a4_3 a4_4 a4_5).bind fun t300 => (ensemblelaw12_PromiseOnly.j0 k a0 l3 t295 t296 ((t297 == a0) != t300))) else (ensemblelaw12_PromiseOnly.j0 k a0 l3 t295 t296 true))) else (ensemblelaw12_PromiseOnly.j0 k a0 l3 t295 t296 false)) = some r := H
   have A11 := Aside0.mk A110
   clear A110
   have HC12 := Aside0.mk H
   clear H
   go_enter Try.func6, Try.ntmps6
   go_upto_region 7 with (first | ((with_reducible refine gate_dst (N := 7) rfl ?_); refine bx 7 #[.int .i64 a2_0, .int .i64 a2_1] 24 ?_; intro gb291 hg w13 hbox hb; have n0_ := Aside0.mk (below_step Z0 hb); have n1_ := Aside0.mk (hbox); have n2_ := Aside0.mk ((by rw [hg]; exact (below_size Z0) : w.heap.size ≤ gb291)); have n3_ := Aside0.mk ((by rw [hg]; exact (below_size Z0) : w.heap.size ≤ gb291)); clear HB; have HB := n0_; have BK291 := n1_; have GW291 := n2_; have GE291 := n3_; clear n0_ n1_ n2_ n3_; clear hb hbox hg) | ((with_reducible refine gate_dst (N := 9) rfl ?_); refine bx 9 #[.int .i64 a4_0, .int .i64 a4_1, .int .i64 a4_2, .int .i64 a4_3, .int .i64 a4_4, .int .i64 a4_5] 29 ?_; intro gb292 hg w14 hbox hb; have n0_ := Aside0.mk (blk_below (g := gb291) (o := .cells #[.int .i64 a2_0, .int .i64 a2_1] 24 (0, 0)) (by (with_reducible repeat (first | refine blk_drewN ?_ _ | refine blk_drew ?_ | refine blk_alloc ?_ _)); exact BK291.out) hb); have n1_ := Aside0.mk (below_step (by repeat (first | (with_reducible first | exact HB.out | apply below_alloc | apply pw_below_drewN | apply below_drew1 | refine below_set ?_ GE291.out) | exact HB.out)) hb); have n2_ := Aside0.mk (hbox); have n3_ := Aside0.mk ((by rw [hg]; exact (below_size (by repeat (first | (with_reducible first | exact HB.out | apply below_alloc | apply pw_below_drewN | apply below_drew1 | refine below_set ?_ GE291.out) | exact HB.out))) : w.heap.size ≤ gb292)); have n4_ := Aside0.mk ((by rw [hg]; exact (below_size (by repeat (first | (with_reducible first | exact HB.out | apply below_alloc | apply pw_below_drewN | apply below_drew1 | refine below_set ?_ GE291.out) | exact HB.out))) : w.heap.size ≤ gb292)); have n5_ := Aside0.mk ((by rw [hg]; exact Nat.ne_of_lt (blk_lt (g := gb291) (o := .cells #[.int .i64 a2_0, .int .i64 a2_1] 24 (0, 0)) (by (with_reducible repeat (first | refine blk_drewN ?_ _ | refine blk_drew ?_ | refine blk_alloc ?_ _)); exact BK291.out)) : gb291 ≠ gb292)); have n6_ := Aside0.mk ((by rw [hg]; exact Nat.ne_of_gt (blk_lt (g := gb291) (o := .cells #[.int .i64 a2_0, .int .i64 a2_1] 24 (0, 0)) (by (with_reducible repeat (first | refine blk_drewN ?_ _ | refine blk_drew ?_ | refine blk_alloc ?_ _)); exact BK291.out)) : gb292 ≠ gb291)); clear BK291; clear HB; have BK291 := n0_; have HB := n1_; have BK292 := n2_; have GW292 := n3_; have GE292 := n4_; have NB291_292 := n5_; have NB292_291 := n6_; clear n0_ n1_ n2_ n3_ n4_ n5_ n6_; clear hb hbox hg) | ((with_reducible refine gate_callee (f := 25) rfl ?_); refine goesL_ (some 16) rfl rfl Try.func25 (by kernel_rfl) rfl #[] rfl Z1 ?_; (with_reducible refine (ensemblelaw12_awake.calls  true _ A6.out).mono ?_); rintro e w15 ⟨rfl, hb⟩; refine ⟨_, rfl, ?_⟩; have n0_ := Aside0.mk (blk_below (g := gb291) (o := .cells #[.int .i64 a2_0, .int .i64 a2_1] 24 (0, 0)) (by (with_reducible repeat (first | refine blk_drewN ?_ _ | refine blk_drew ?_ | refine blk_alloc ?_ _)); exact BK291.out) hb); have n1_ := Aside0.mk (blk_below (g := gb292) (o := .cells #[.int .i64 a4_0, .int .i64 a4_1, .int .i64 a4_2, .int .i64 a4_3, .int .i64 a4_4, .int .i64 a4_5] 29 (0, 0)) (by (with_reducible repeat (first | refine blk_drewN ?_ _ | refine blk_drew ?_ | refine blk_alloc ?_ _)); exact BK292.out) hb); have n2_ := Aside0.mk (below_step (by repeat (first | (with_reducible first | exact HB.out | apply below_alloc | apply pw_below_drewN | apply below_drew1 | refine below_set ?_ GE291.out | refine below_set ?_ GE292.out) | exact HB.out)) hb); clear BK291; clear BK292; clear HB; have BK291 := n0_; have BK292 := n1_; have HB := n2_; clear n0_ n1_ n2_; (try clear hb); (try clear hb2); (try clear hk); (try clear hi); have hnb16 := NB291_292.out; have hnc16 := NB292_291.out; have hcz17_0 : w15.cell? ⟨gb291, 0, none⟩ = some (.int .i64 a2_0) := (blk_cell BK291.out 0).trans rfl; have hcz17_1 : w15.cell? ⟨gb291, 1, none⟩ = some (.int .i64 a2_1) := (blk_cell BK291.out 1).trans rfl; have hfz17_0 := blk_frozen BK291.out 0; have hfz17_1 := blk_frozen BK291.out 1) | ((with_reducible refine gate_callee (f := 26) rfl ?_); refine goesL_ (some 21) rfl rfl Try.func26 (by kernel_rfl) rfl #[.slice A1 l1.length c1, .agg #[.int .i64 a2_0, .int .i64 a2_1], .slice A3 l3.length c3] rfl Z1 ?_; (with_reducible refine (ensembleref12_Few.calls k _ _ l1 a2_0 a2_1 _ _ l3 true _ ?side1 ?side2 ?side3 ?side4 A8.out).mono ?_); (case side1 => repeat (first | exact (Kd.C_below HR1.out HB.out) | (with_reducible refine Kd.C_alloc ?_ _) | (with_reducible refine Kd.C_drewN ?_ _) | (with_reducible refine Kd.C_drew ?_))); (case side2 => exact HC1.out); (case side3 => repeat (first | exact (Kd.C_below HR3.out HB.out) | (with_reducible refine Kd.C_alloc ?_ _) | (with_reducible refine Kd.C_drewN ?_ _) | (with_reducible refine Kd.C_drew ?_))); (case side4 => exact HC3.out); rintro e w18 ⟨rfl, hb⟩; refine ⟨_, rfl, ?_⟩; have n0_ := Aside0.mk (blk_below (g := gb291) (o := .cells #[.int .i64 a2_0, .int .i64 a2_1] 24 (0, 0)) (by (with_reducible repeat (first | refine blk_drewN ?_ _ | refine blk_drew ?_ | refine blk_alloc ?_ _)); exact BK291.out) hb); have n1_ := Aside0.mk (blk_below (g := gb292) (o := .cells #[.int .i64 a4_0, .int .i64 a4_1, .int .i64 a4_2, .int .i64 a4_3, .int .i64 a4_4, .int .i64 a4_5] 29 (0, 0)) (by (with_reducible repeat (first | refine blk_drewN ?_ _ | refine blk_drew ?_ | refine blk_alloc ?_ _)); exact BK292.out) hb); have n2_ := Aside0.mk (below_step (by repeat (first | (with_reducible first | exact HB.out | apply below_alloc | apply pw_below_drewN | apply below_drew1 | refine below_set ?_ GE291.out | refine below_set ?_ GE292.out) | exact HB.out)) hb); clear BK291; clear BK292; clear HB; have BK291 := n0_; have BK292 := n1_; have HB := n2_; clear n0_ n1_ n2_; (try clear hb); (try clear hb2); (try clear hk); (try clear hi); have hcz19_0 : w18.cell? ⟨gb291, 0, none⟩ = some (.int .i64 a2_0) := (blk_cell BK291.out 0).trans rfl; have hcz19_1 : w18.cell? ⟨gb291, 1, none⟩ = some (.int .i64 a2_1) := (blk_cell BK291.out 1).trans rfl; have hfz19_0 := blk_frozen BK291.out 0; have hfz19_1 := blk_frozen BK291.out 1; have hcz20_0 : w18.cell? ⟨gb292, 0, none⟩ = some (.int .i64 a4_0) := (blk_cell BK292.out 0).trans rfl; have hcz20_1 : w18.cell? ⟨gb292, 1, none⟩ = some (.int .i64 a4_1) := (blk_cell BK292.out 1).trans rfl; have hcz20_2 : w18.cell? ⟨gb292, 2, none⟩ = some (.int .i64 a4_2) := (blk_cell BK292.out 2).trans rfl; have hcz20_3 : w18.cell? ⟨gb292, 3, none⟩ = some (.int .i64 a4_3) := (blk_cell BK292.out 3).trans rfl; have hcz20_4 : w18.cell? ⟨gb292, 4, none⟩ = some (.int .i64 a4_4) := (blk_cell BK292.out 4).trans rfl; have hcz20_5 : w18.cell? ⟨gb292, 5, none⟩ = some (.int .i64 a4_5) := (blk_cell BK292.out 5).trans rfl; have hfz20_0 := blk_frozen BK292.out 0; have hfz20_1 := blk_frozen BK292.out 1; have hfz20_2 := blk_frozen BK292.out 2; have hfz20_3 := blk_frozen BK292.out 3; have hfz20_4 := blk_frozen BK292.out 4; have hfz20_5 := blk_frozen BK292.out 5) | ((with_reducible refine gate_callee (f := 27) rfl ?_); refine goesL_ (some 29) rfl rfl Try.func27 (by kernel_rfl) rfl #[.int .i64 a0, .slice A1 l1.length c1, .agg #[.int .i64 a2_0, .int .i64 a2_1], .slice A3 l3.length c3, .agg #[.int .i64 a4_0, .int .i64 a4_1, .int .i64 a4_2, .int .i64 a4_3, .int .i64 a4_4, .int .i64 a4_5]] rfl Z1 ?_; (with_reducible refine (promise_Earliest.calls a0 _ _ l1 a2_0 a2_1 _ _ l3 a4_0 a4_1 a4_2 a4_3 a4_4 a4_5 t295 t296 _ ?side1 ?side2 ?side3 ?side4 A10.out).mono ?_); (case side1 => repeat (first | exact (Kd.C_below HR1.out HB.out) | (with_reducible refine Kd.C_alloc ?_ _) | (with_reducible refine Kd.C_drewN ?_ _) | (with_reducible refine Kd.C_drew ?_))); (case side2 => exact HC1.out); (case side3 => repeat (first | exact (Kd.C_below HR3.out HB.out) | (with_reducible refine Kd.C_alloc ?_ _) | (with_reducible refine Kd.C_drewN ?_ _) | (with_reducible refine Kd.C_drew ?_))); (case side4 => exact HC3.out); rintro e w21 ⟨rfl, hb⟩; refine ⟨_, rfl, ?_⟩; have n0_ := Aside0.mk (blk_below (g := gb291) (o := .cells #[.int .i64 a2_0, .int .i64 a2_1] 24 (0, 0)) (by (with_reducible repeat (first | refine blk_drewN ?_ _ | refine blk_drew ?_ | refine blk_alloc ?_ _)); exact BK291.out) hb); have n1_ := Aside0.mk (blk_below (g := gb292) (o := .cells #[.int .i64 a4_0, .int .i64 a4_1, .int .i64 a4_2, .int .i64 a4_3, .int .i64 a4_4, .int .i64 a4_5] 29 (0, 0)) (by (with_reducible repeat (first | refine blk_drewN ?_ _ | refine blk_drew ?_ | refine blk_alloc ?_ _)); exact BK292.out) hb); have n2_ := Aside0.mk (below_step (by repeat (first | (with_reducible first | exact HB.out | apply below_alloc | apply pw_below_drewN | apply below_drew1 | refine below_set ?_ GE291.out | refine below_set ?_ GE292.out) | exact HB.out)) hb); clear BK291; clear BK292; clear HB; have BK291 := n0_; have BK292 := n1_; have HB := n2_; clear n0_ n1_ n2_; (try clear hb); (try clear hb2); (try clear hk); (try clear hi); have hcz22_0 : w21.cell? ⟨gb291, 0, none⟩ = some (.int .i64 a2_0) := (blk_cell BK291.out 0).trans rfl; have hcz22_1 : w21.cell? ⟨gb291, 1, none⟩ = some (.int .i64 a2_1) := (blk_cell BK291.out 1).trans rfl; have hfz22_0 := blk_frozen BK291.out 0; have hfz22_1 := blk_frozen BK291.out 1; have hcz23_0 : w21.cell? ⟨gb292, 0, none⟩ = some (.int .i64 a4_0) := (blk_cell BK292.out 0).trans rfl; have hcz23_1 : w21.cell? ⟨gb292, 1, none⟩ = some (.int .i64 a4_1) := (blk_cell BK292.out 1).trans rfl; have hcz23_2 : w21.cell? ⟨gb292, 2, none⟩ = some (.int .i64 a4_2) := (blk_cell BK292.out 2).trans rfl; have hcz23_3 : w21.cell? ⟨gb292, 3, none⟩ = some (.int .i64 a4_3) := (blk_cell BK292.out 3).trans rfl; have hcz23_4 : w21.cell? ⟨gb292, 4, none⟩ = some (.int .i64 a4_4) := (blk_cell BK292.out 4).trans rfl; have hcz23_5 : w21.cell? ⟨gb292, 5, none⟩ = some (.int .i64 a4_5) := (blk_cell BK292.out 5).trans rfl; have hfz23_0 := blk_frozen BK292.out 0; have hfz23_1 := blk_frozen BK292.out 1; have hfz23_2 := blk_frozen BK292.out 2; have hfz23_3 := blk_frozen BK292.out 3; have hfz23_4 := blk_frozen BK292.out 4; have hfz23_5 := blk_frozen BK292.out 5) | ((with_reducible refine gate_callee (f := 27) rfl ?_); refine goesL_ (some 37) rfl rfl Try.func27 (by kernel_rfl) rfl #[.int .i64 a0, .slice A1 l1.length c1, .agg #[.int .i64 a2_0, .int .i64 a2_1], .slice none 0 0, .agg #[.int .i64 a4_0, .int .i64 a4_1, .int .i64 a4_2, .int .i64 a4_3, .int .i64 a4_4, .int .i64 a4_5]] rfl Z1 ?_; (refine (promise_Earliest.calls a0 _ _ l1 a2_0 a2_1 _ _ ([] : List (S41)) a4_0 a4_1 a4_2 a4_3 a4_4 a4_5 t297 t298 _ ?side1 ?side2 ?side3 ?side4 A11.out).mono ?_); (case side1 => repeat (first | exact (Kd.C_below HR1.out HB.out) | (with_reducible refine Kd.C_alloc ?_ _) | (with_reducible refine Kd.C_drewN ?_ _) | (with_reducible refine Kd.C_drew ?_))); (case side2 => exact HC1.out); (case side3 => exact Kd.C_nil _ _); (case side4 => exact Nat.le_refl _); rintro e w24 ⟨rfl, hb⟩; refine ⟨_, rfl, ?_⟩; have n0_ := Aside0.mk (blk_below (g := gb291) (o := .cells #[.int .i64 a2_0, .int .i64 a2_1] 24 (0, 0)) (by (with_reducible repeat (first | refine blk_drewN ?_ _ | refine blk_drew ?_ | refine blk_alloc ?_ _)); exact BK291.out) hb); have n1_ := Aside0.mk (blk_below (g := gb292) (o := .cells #[.int .i64 a4_0, .int .i64 a4_1, .int .i64 a4_2, .int .i64 a4_3, .int .i64 a4_4, .int .i64 a4_5] 29 (0, 0)) (by (with_reducible repeat (first | refine blk_drewN ?_ _ | refine blk_drew ?_ | refine blk_alloc ?_ _)); exact BK292.out) hb); have n2_ := Aside0.mk (below_step (by repeat (first | (with_reducible first | exact HB.out | apply below_alloc | apply pw_below_drewN | apply below_drew1 | refine below_set ?_ GE291.out | refine below_set ?_ GE292.out) | exact HB.out)) hb); clear BK291; clear BK292; clear HB; have BK291 := n0_; have BK292 := n1_; have HB := n2_; clear n0_ n1_ n2_; (try clear hb); (try clear hb2); (try clear hk); (try clear hi)))
   (try simp only [Act.put, List.setIfInBounds_toArray, List.set_cons_zero, List.set_cons_succ])
   go_cut [60] (fun v60 wc => ∃ (kq : Nat) (x60_11 : Bool), v60 = .bool x60_11 ∧ Aside0 (ensemblelaw12_PromiseOnly.j0 kq a0 l3 t295 t296 x60_11 = some r) ∧ Aside0 (kq ≤ k) ∧ Aside0 (wc.heap[gb291]? = some (.cells #[.int .i64 a2_0, .int .i64 a2_1] 24 (0, 0))) ∧ Aside0 (wc.heap[gb292]? = some (.cells #[.int .i64 a4_0, .int .i64 a4_1, .int .i64 a4_2, .int .i64 a4_3, .int .i64 a4_4, .int .i64 a4_5] 29 (0, 0))) ∧ Aside0 (Below w.heap.size w wc))
   case first =>
    have H := HC12.out
    clear HC12
    by_cases c25 : t298 = 0
    ·rw [if_pos c25] at H
     have c25b0 : (t298 == 0) = true := beq_iff_eq.mpr c25
     have c25b1 : (t298 != 0) = false := bne_eq_false_iff_eq.mpr c25
     clear c25
     (first | rw [c25b0] | (simp only [i64_w, i32_w]; rw [c25b0]) | skip)
     by_cases c26 : t297 = a0
     ·rw [if_pos c26] at H
      have c26b0 : (t297 == a0) = true := beq_iff_eq.mpr c26
      have c26b1 : (t297 != a0) = false := bne_eq_false_iff_eq.mpr c26
      clear c26
      replace H := Option.bind_eq_some_iff.mp H
      obtain ⟨t299, A270, H⟩ := H
      replace H : (ensemblelaw12_PromiseOnly.j0 k a0 l3 t295 t296 ((t297 == a0) != t299)) = some r := H
      have A27 := Aside0.mk A270
      clear A270
      have H' := Aside0.mk H
      clear H
      have hnb28 := NB291_292.out
      have hnc28 := NB292_291.out
      have hcz29_0 : w24.cell? ⟨gb291, 0, none⟩ = some (.int .i64 a2_0) := (blk_cell BK291.out 0).trans rfl
      have hcz29_1 : w24.cell? ⟨gb291, 1, none⟩ = some (.int .i64 a2_1) := (blk_cell BK291.out 1).trans rfl
      have hfz29_0 := blk_frozen BK291.out 0
      have hfz29_1 := blk_frozen BK291.out 1
      have hcz30_0 : w24.cell? ⟨gb292, 0, none⟩ = some (.int .i64 a4_0) := (blk_cell BK292.out 0).trans rfl
      have hcz30_1 : w24.cell? ⟨gb292, 1, none⟩ = some (.int .i64 a4_1) := (blk_cell BK292.out 1).trans rfl
      have hcz30_2 : w24.cell? ⟨gb292, 2, none⟩ = some (.int .i64 a4_2) := (blk_cell BK292.out 2).trans rfl
      have hcz30_3 : w24.cell? ⟨gb292, 3, none⟩ = some (.int .i64 a4_3) := (blk_cell BK292.out 3).trans rfl
      have hcz30_4 : w24.cell? ⟨gb292, 4, none⟩ = some (.int .i64 a4_4) := (blk_cell BK292.out 4).trans rfl
      have hcz30_5 : w24.cell? ⟨gb292, 5, none⟩ = some (.int .i64 a4_5) := (blk_cell BK292.out 5).trans rfl
      have hfz30_0 := blk_frozen BK292.out 0
      have hfz30_1 := blk_frozen BK292.out 1
      have hfz30_2 := blk_frozen BK292.out 2
      have hfz30_3 := blk_frozen BK292.out 3
      have hfz30_4 := blk_frozen BK292.out 4
      have hfz30_5 := blk_frozen BK292.out 5
      go_wp2_with (first | (go_at_call 29; (with_reducible refine (promise_Fits.calls k _ _ l1 a2_0 a2_1 a4_0 a4_1 a4_2 a4_3 a4_4 a4_5 t299 _ ?side1 ?side2 A27.out).mono ?_); (case side1 => repeat (first | exact (Kd.C_below HR1.out HB.out) | (with_reducible refine Kd.C_alloc ?_ _) | (with_reducible refine Kd.C_drewN ?_ _) | (with_reducible refine Kd.C_drew ?_))); (case side2 => exact HC1.out); rintro e w31 ⟨rfl, hb⟩; have n0_ := Aside0.mk (blk_below (g := gb291) (o := .cells #[.int .i64 a2_0, .int .i64 a2_1] 24 (0, 0)) (by (with_reducible repeat (first | refine blk_drewN ?_ _ | refine blk_drew ?_ | refine blk_alloc ?_ _)); exact BK291.out) hb); have n1_ := Aside0.mk (blk_below (g := gb292) (o := .cells #[.int .i64 a4_0, .int .i64 a4_1, .int .i64 a4_2, .int .i64 a4_3, .int .i64 a4_4, .int .i64 a4_5] 29 (0, 0)) (by (with_reducible repeat (first | refine blk_drewN ?_ _ | refine blk_drew ?_ | refine blk_alloc ?_ _)); exact BK292.out) hb); have n2_ := Aside0.mk (below_step (by repeat (first | (with_reducible first | exact HB.out | apply below_alloc | apply pw_below_drewN | apply below_drew1 | refine below_set ?_ GE291.out | refine below_set ?_ GE292.out) | exact HB.out)) hb); clear BK291; clear BK292; clear HB; have BK291 := n0_; have BK292 := n1_; have HB := n2_; clear n0_ n1_ n2_; (try clear hb); (try clear hb2); (try clear hk); (try clear hi)))
      go_meet
      case rel => exact ⟨_, (((t297 == a0) != t299)), Z4, H', ⟨by first | omega | exact Nat.le_refl _⟩, ⟨by (with_reducible repeat (first | refine blk_drewN ?_ _ | refine blk_drew ?_ | refine blk_alloc ?_ _)); exact BK291.out⟩, ⟨by (with_reducible repeat (first | refine blk_drewN ?_ _ | refine blk_drew ?_ | refine blk_alloc ?_ _)); exact BK292.out⟩, ⟨by repeat (first | (with_reducible first | exact HB.out | apply below_alloc | apply pw_below_drewN | apply below_drew1 | refine below_set ?_ GE291.out | refine below_set ?_ GE292.out) | exact HB.out)⟩⟩
     ·rw [if_neg c26] at H
      have c26b0 : (t297 == a0) = false := beq_eq_false_iff_ne.mpr c26
      have c26b1 : (t297 != a0) = true := bne_iff_ne.mpr c26
      by_cases c32 : t297 = 1073741825
      ·rw [if_pos c32] at H
       have c32b0 : (t297 == 1073741825) = true := beq_iff_eq.mpr c32
       have c32b1 : (t297 != 1073741825) = false := bne_eq_false_iff_eq.mpr c32
       clear c32
       replace H := Option.bind_eq_some_iff.mp H
       obtain ⟨t300, A330, H⟩ := H
       replace H : (ensemblelaw12_PromiseOnly.j0 k a0 l3 t295 t296 ((t297 == a0) != t300)) = some r := H
       have A33 := Aside0.mk A330
       clear A330
       have H' := Aside0.mk H
       clear H
       have hnb34 := NB291_292.out
       have hnc34 := NB292_291.out
       have hcz35_0 : w24.cell? ⟨gb291, 0, none⟩ = some (.int .i64 a2_0) := (blk_cell BK291.out 0).trans rfl
       have hcz35_1 : w24.cell? ⟨gb291, 1, none⟩ = some (.int .i64 a2_1) := (blk_cell BK291.out 1).trans rfl
       have hfz35_0 := blk_frozen BK291.out 0
       have hfz35_1 := blk_frozen BK291.out 1
       have hcz36_0 : w24.cell? ⟨gb292, 0, none⟩ = some (.int .i64 a4_0) := (blk_cell BK292.out 0).trans rfl
       have hcz36_1 : w24.cell? ⟨gb292, 1, none⟩ = some (.int .i64 a4_1) := (blk_cell BK292.out 1).trans rfl
       have hcz36_2 : w24.cell? ⟨gb292, 2, none⟩ = some (.int .i64 a4_2) := (blk_cell BK292.out 2).trans rfl
       have hcz36_3 : w24.cell? ⟨gb292, 3, none⟩ = some (.int .i64 a4_3) := (blk_cell BK292.out 3).trans rfl
       have hcz36_4 : w24.cell? ⟨gb292, 4, none⟩ = some (.int .i64 a4_4) := (blk_cell BK292.out 4).trans rfl
       have hcz36_5 : w24.cell? ⟨gb292, 5, none⟩ = some (.int .i64 a4_5) := (blk_cell BK292.out 5).trans rfl
       have hfz36_0 := blk_frozen BK292.out 0
       have hfz36_1 := blk_frozen BK292.out 1
       have hfz36_2 := blk_frozen BK292.out 2
       have hfz36_3 := blk_frozen BK292.out 3
       have hfz36_4 := blk_frozen BK292.out 4
       have hfz36_5 := blk_frozen BK292.out 5
       go_wp2_with (first | (go_at_call 29; (with_reducible refine (promise_Fits.calls k _ _ l1 a2_0 a2_1 a4_0 a4_1 a4_2 a4_3 a4_4 a4_5 t300 _ ?side1 ?side2 A33.out).mono ?_); (case side1 => repeat (first | exact (Kd.C_below HR1.out HB.out) | (with_reducible refine Kd.C_alloc ?_ _) | (with_reducible refine Kd.C_drewN ?_ _) | (with_reducible refine Kd.C_drew ?_))); (case side2 => exact HC1.out); rintro e w37 ⟨rfl, hb⟩; have n0_ := Aside0.mk (blk_below (g := gb291) (o := .cells #[.int .i64 a2_0, .int .i64 a2_1] 24 (0, 0)) (by (with_reducible repeat (first | refine blk_drewN ?_ _ | refine blk_drew ?_ | refine blk_alloc ?_ _)); exact BK291.out) hb); have n1_ := Aside0.mk (blk_below (g := gb292) (o := .cells #[.int .i64 a4_0, .int .i64 a4_1, .int .i64 a4_2, .int .i64 a4_3, .int .i64 a4_4, .int .i64 a4_5] 29 (0, 0)) (by (with_reducible repeat (first | refine blk_drewN ?_ _ | refine blk_drew ?_ | refine blk_alloc ?_ _)); exact BK292.out) hb); have n2_ := Aside0.mk (below_step (by repeat (first | (with_reducible first | exact HB.out | apply below_alloc | apply pw_below_drewN | apply below_drew1 | refine below_set ?_ GE291.out | refine below_set ?_ GE292.out) | exact HB.out)) hb); clear BK291; clear BK292; clear HB; have BK291 := n0_; have BK292 := n1_; have HB := n2_; clear n0_ n1_ n2_; (try clear hb); (try clear hb2); (try clear hk); (try clear hi)))
       go_meet
       case rel => exact ⟨_, (((t297 == a0) != t300)), Z4, H', ⟨by first | omega | exact Nat.le_refl _⟩, ⟨by (with_reducible repeat (first | refine blk_drewN ?_ _ | refine blk_drew ?_ | refine blk_alloc ?_ _)); exact BK291.out⟩, ⟨by (with_reducible repeat (first | refine blk_drewN ?_ _ | refine blk_drew ?_ | refine blk_alloc ?_ _)); exact BK292.out⟩, ⟨by repeat (first | (with_reducible first | exact HB.out | apply below_alloc | apply pw_below_drewN | apply below_drew1 | refine below_set ?_ GE291.out | refine below_set ?_ GE292.out) | exact HB.out)⟩⟩
      ·rw [if_neg c32] at H
       have c32b0 : (t297 == 1073741825) = false := beq_eq_false_iff_ne.mpr c32
       have c32b1 : (t297 != 1073741825) = true := bne_iff_ne.mpr c32
       have H' := Aside0.mk H
       clear H
       go_wp2
       go_meet
       case rel => exact ⟨_, (true), Z4, H', ⟨by first | omega | exact Nat.le_refl _⟩, ⟨by (with_reducible repeat (first | refine blk_drewN ?_ _ | refine blk_drew ?_ | refine blk_alloc ?_ _)); exact BK291.out⟩, ⟨by (with_reducible repeat (first | refine blk_drewN ?_ _ | refine blk_drew ?_ | refine blk_alloc ?_ _)); exact BK292.out⟩, ⟨by repeat (first | (with_reducible first | exact HB.out | apply below_alloc | apply pw_below_drewN | apply below_drew1 | refine below_set ?_ GE291.out | refine below_set ?_ GE292.out) | exact HB.out)⟩⟩
    ·rw [if_neg c25] at H
     have c25b0 : (t298 == 0) = false := beq_eq_false_iff_ne.mpr c25
     have c25b1 : (t298 != 0) = true := bne_iff_ne.mpr c25
     (first | rw [c25b0] | (simp only [i64_w, i32_w]; rw [c25b0]) | skip)
     have H' := Aside0.mk H
     clear H
     go_wp2
     go_meet
     case rel => exact ⟨_, (false), Z4, H', ⟨by first | omega | exact Nat.le_refl _⟩, ⟨by (with_reducible repeat (first | refine blk_drewN ?_ _ | refine blk_drew ?_ | refine blk_alloc ?_ _)); exact BK291.out⟩, ⟨by (with_reducible repeat (first | refine blk_drewN ?_ _ | refine blk_drew ?_ | refine blk_alloc ?_ _)); exact BK292.out⟩, ⟨by repeat (first | (with_reducible first | exact HB.out | apply below_alloc | apply pw_below_drewN | apply below_drew1 | refine below_set ?_ GE291.out | refine below_set ?_ GE292.out) | exact HB.out)⟩⟩
   case rest =>
    clear HC12
    try clear c1
    try clear c2
    try clear p2
    try clear c3
    try clear c6
    try clear c7
    try clear c9
    try clear c16
    try clear c25
    try clear c25b0
    try clear c25b1
    try clear c26
    try clear c26b0
    try clear c26b1
    try clear c27
    try clear c28
    try clear c32
    try clear c32b0
    try clear c32b1
    try clear c34
    try clear hcz17_0
    try clear hcz17_1
    try clear hcz19_0
    try clear hcz19_1
    try clear hcz20_0
    try clear hcz20_1
    try clear hcz20_2
    try clear hcz20_3
    try clear hcz20_4
    try clear hcz20_5
    try clear hcz22_0
    try clear hcz22_1
    try clear hcz23_0
    try clear hcz23_1
    try clear hcz23_2
    try clear hcz23_3
    try clear hcz23_4
    try clear hcz23_5
    try clear hcz29_0
    try clear hcz29_1
    try clear hcz30_0
    try clear hcz30_1
    try clear hcz30_2
    try clear hcz30_3
    try clear hcz30_4
    try clear hcz30_5
    try clear hcz35_0
    try clear hcz35_1
    try clear hcz36_0
    try clear hcz36_1
    try clear hcz36_2
    try clear hcz36_3
    try clear hcz36_4
    try clear hcz36_5
    try clear hfz17_0
    try clear hfz17_1
    try clear hfz19_0
    try clear hfz19_1
    try clear hfz20_0
    try clear hfz20_1
    try clear hfz20_2
    try clear hfz20_3
    try clear hfz20_4
    try clear hfz20_5
    try clear hfz22_0
    try clear hfz22_1
    try clear hfz23_0
    try clear hfz23_1
    try clear hfz23_2
    try clear hfz23_3
    try clear hfz23_4
    try clear hfz23_5
    try clear hfz29_0
    try clear hfz29_1
    try clear hfz30_0
    try clear hfz30_1
    try clear hfz30_2
    try clear hfz30_3
    try clear hfz30_4
    try clear hfz30_5
    try clear hfz35_0
    try clear hfz35_1
    try clear hfz36_0
    try clear hfz36_1
    try clear hfz36_2
    try clear hfz36_3
    try clear hfz36_4
    try clear hfz36_5
    obtain ⟨kq, x60_11, rfl, HA, HJ11, BK291, BK292, HB⟩ := hcut
    cases kq with
    | zero => exact absurd HA.out (by simp [ensemblelaw12_PromiseOnly.j0])
    | succ kj11 =>
     have H := HA.out
     clear HA
     simp only [ensemblelaw12_PromiseOnly.j0] at H
     by_cases c38 : x60_11 = true
     ·subst c38
      have H1 : (some false) = some r := by rw [if_pos rfl] at H; exact H
      clear H
      have H := H1
      clear H1
      obtain rfl := Option.some.inj H
      go_wp2
      go_ret
      exact ⟨by first | rfl | (simp [errW_none, errW_some] <;> rfl) | (simp [*, errW_none, errW_some] <;> rfl), by repeat (first | (with_reducible first | exact HB.out | apply below_alloc | apply pw_below_drewN | apply below_drew1 | refine below_set ?_ GE291.out | refine below_set ?_ GE292.out) | exact HB.out)⟩
     ·replace c38 := Bool.eq_false_iff.mpr c38
      subst c38
      have H1 : (if t296 = 0 then (if t295 = a0 then (ensemblelaw12_PromiseOnly.j1 kj11 a0 l3 t295 true) else (ensemblelaw12_PromiseOnly.j1 kj11 a0 l3 t295 (t295 == 1073741825))) else (ensemblelaw12_PromiseOnly.j1 kj11 a0 l3 t295 true)) = some r := by rw [if_neg (show ¬ (false = true) by decide)] at H; exact H
      clear H
      have H := H1
      clear H1
      have HC39 := Aside0.mk H
      clear H
      go_upto_region 9 with (fail)
      go_cut [71] (fun v71 wc => ∃ (kq : Nat) (x71_38 : Bool), v71 = .bool x71_38 ∧ Aside0 (ensemblelaw12_PromiseOnly.j1 kq a0 l3 t295 x71_38 = some r) ∧ Aside0 (kq ≤ kj11) ∧ Aside0 (wc.heap[gb291]? = some (.cells #[.int .i64 a2_0, .int .i64 a2_1] 24 (0, 0))) ∧ Aside0 (wc.heap[gb292]? = some (.cells #[.int .i64 a4_0, .int .i64 a4_1, .int .i64 a4_2, .int .i64 a4_3, .int .i64 a4_4, .int .i64 a4_5] 29 (0, 0))) ∧ Aside0 (Below w.heap.size w wc))
      case first =>
       have H := HC39.out
       clear HC39
       by_cases c40 : t296 = 0
       ·rw [if_pos c40] at H
        have c40b0 : (t296 == 0) = true := beq_iff_eq.mpr c40
        have c40b1 : (t296 != 0) = false := bne_eq_false_iff_eq.mpr c40
        clear c40
        (first | rw [c40b0] | (simp only [i64_w, i32_w]; rw [c40b0]) | skip)
        by_cases c41 : t295 = a0
        ·rw [if_pos c41] at H
         have c41b0 : (t295 == a0) = true := beq_iff_eq.mpr c41
         have c41b1 : (t295 != a0) = false := bne_eq_false_iff_eq.mpr c41
         clear c41
         have H' := Aside0.mk H
         clear H
         go_wp2
         go_meet
         case rel => exact ⟨_, (true), Z4, H', ⟨by have := HJ11.out; first | omega | exact Nat.le_refl _⟩, ⟨by (with_reducible repeat (first | refine blk_drewN ?_ _ | refine blk_drew ?_ | refine blk_alloc ?_ _)); exact BK291.out⟩, ⟨by (with_reducible repeat (first | refine blk_drewN ?_ _ | refine blk_drew ?_ | refine blk_alloc ?_ _)); exact BK292.out⟩, ⟨by repeat (first | (with_reducible first | exact HB.out | apply below_alloc | apply pw_below_drewN | apply below_drew1 | refine below_set ?_ GE291.out | refine below_set ?_ GE292.out) | exact HB.out)⟩⟩
        ·rw [if_neg c41] at H
         have c41b0 : (t295 == a0) = false := beq_eq_false_iff_ne.mpr c41
         have c41b1 : (t295 != a0) = true := bne_iff_ne.mpr c41
         have H' := Aside0.mk H
         clear H
         go_wp2
         go_meet
         case rel => exact ⟨_, ((t295 == 1073741825)), Z4, H', ⟨by have := HJ11.out; first | omega | exact Nat.le_refl _⟩, ⟨by (with_reducible repeat (first | refine blk_drewN ?_ _ | refine blk_drew ?_ | refine blk_alloc ?_ _)); exact BK291.out⟩, ⟨by (with_reducible repeat (first | refine blk_drewN ?_ _ | refine blk_drew ?_ | refine blk_alloc ?_ _)); exact BK292.out⟩, ⟨by repeat (first | (with_reducible first | exact HB.out | apply below_alloc | apply pw_below_drewN | apply below_drew1 | refine below_set ?_ GE291.out | refine below_set ?_ GE292.out) | exact HB.out)⟩⟩
       ·rw [if_neg c40] at H
        have c40b0 : (t296 == 0) = false := beq_eq_false_iff_ne.mpr c40
        have c40b1 : (t296 != 0) = true := bne_iff_ne.mpr c40
        (first | rw [c40b0] | (simp only [i64_w, i32_w]; rw [c40b0]) | skip)
        have H' := Aside0.mk H
        clear H
        go_wp2
        go_meet
        case rel => exact ⟨_, (true), Z4, H', ⟨by have := HJ11.out; first | omega | exact Nat.le_refl _⟩, ⟨by (with_reducible repeat (first | refine blk_drewN ?_ _ | refine blk_drew ?_ | refine blk_alloc ?_ _)); exact BK291.out⟩, ⟨by (with_reducible repeat (first | refine blk_drewN ?_ _ | refine blk_drew ?_ | refine blk_alloc ?_ _)); exact BK292.out⟩, ⟨by repeat (first | (with_reducible first | exact HB.out | apply below_alloc | apply pw_below_drewN | apply below_drew1 | refine below_set ?_ GE291.out | refine below_set ?_ GE292.out) | exact HB.out)⟩⟩
      case rest =>
       clear HC39
       try clear c1
       try clear c2
       try clear p2
       try clear c3
       try clear c4
       try clear c6
       try clear c7
       try clear c9
       try clear c16
       try clear c25
       try clear c25b0
       try clear c25b1
       try clear c26
       try clear c26b0
       try clear c26b1
       try clear c27
       try clear c28
       try clear c32
       try clear c32b0
       try clear c32b1
       try clear c34
       try clear c38
       try clear c40
       try clear c40b0
       try clear c40b1
       try clear c41
       try clear c41b0
       try clear c41b1
       try clear hcz17_0
       try clear hcz17_1
       try clear hcz19_0
       try clear hcz19_1
       try clear hcz20_0
       try clear hcz20_1
       try clear hcz20_2
       try clear hcz20_3
       try clear hcz20_4
       try clear hcz20_5
       try clear hcz22_0
       try clear hcz22_1
       try clear hcz23_0
       try clear hcz23_1
       try clear hcz23_2
       try clear hcz23_3
       try clear hcz23_4
       try clear hcz23_5
       try clear hcz29_0
       try clear hcz29_1
       try clear hcz30_0
       try clear hcz30_1
       try clear hcz30_2
       try clear hcz30_3
       try clear hcz30_4
       try clear hcz30_5
       try clear hcz35_0
       try clear hcz35_1
       try clear hcz36_0
       try clear hcz36_1
       try clear hcz36_2
       try clear hcz36_3
       try clear hcz36_4
       try clear hcz36_5
       try clear hfz17_0
       try clear hfz17_1
       try clear hfz19_0
       try clear hfz19_1
       try clear hfz20_0
       try clear hfz20_1
       try clear hfz20_2
       try clear hfz20_3
       try clear hfz20_4
       try clear hfz20_5
       try clear hfz22_0
       try clear hfz22_1
       try clear hfz23_0
       try clear hfz23_1
       try clear hfz23_2
       try clear hfz23_3
       try clear hfz23_4
       try clear hfz23_5
       try clear hfz29_0
       try clear hfz29_1
       try clear hfz30_0
       try clear hfz30_1
       try clear hfz30_2
       try clear hfz30_3
       try clear hfz30_4
       try clear hfz30_5
       try clear hfz35_0
       try clear hfz35_1
       try clear hfz36_0
       try clear hfz36_1
       try clear hfz36_2
       try clear hfz36_3
       try clear hfz36_4
       try clear hfz36_5
       try clear p2
       obtain ⟨kq, x71_38, rfl, HA, HJ38, BK291, BK292, HB⟩ := hcut
       cases kq with
       | zero => exact absurd HA.out (by simp [ensemblelaw12_PromiseOnly.j1])
       | succ kj38 =>
        have H := HA.out
        clear HA
        simp only [ensemblelaw12_PromiseOnly.j1] at H
        by_cases c42 : x71_38 = true
        ·subst c42
         have H1 : (some true) = some r := by rw [if_pos rfl] at H; exact H
         clear H
         have H := H1
         clear H1
         obtain rfl := Option.some.inj H
         go_wp2
         go_ret
         exact ⟨by first | rfl | (simp [errW_none, errW_some] <;> rfl) | (simp [*, errW_none, errW_some] <;> rfl), by repeat (first | (with_reducible first | exact HB.out | apply below_alloc | apply pw_below_drewN | apply below_drew1 | refine below_set ?_ GE291.out | refine below_set ?_ GE292.out) | exact HB.out)⟩
        ·replace c42 := Bool.eq_false_iff.mpr c42
         subst c42
         have H1 : (ensemblelaw12_PromiseOnly.l0 kj38 a0 l3 t295 0) = some r := by rw [if_neg (show ¬ (false = true) by decide)] at H; exact H
         clear H
         have H := H1
         clear H1
         have H' := Aside0.mk H
         clear H
         go_wp2
         go_loopg [15] kj38 (fun kq v15 w' => ∃ (x15_3 : Int), v15 = .int .i64 x15_3 ∧ Aside0 (ensemblelaw12_PromiseOnly.l0 kq a0 l3 t295 x15_3 = some r) ∧ Aside0 (kq ≤ kj38) ∧ Aside0 (w'.heap[gb291]? = some (.cells #[.int .i64 a2_0, .int .i64 a2_1] 24 (0, 0))) ∧ Aside0 (w'.heap[gb292]? = some (.cells #[.int .i64 a4_0, .int .i64 a4_1, .int .i64 a4_2, .int .i64 a4_3, .int .i64 a4_4, .int .i64 a4_5] 29 (0, 0))) ∧ Aside0 (Below w.heap.size w w'))
         case atStart => exact ⟨(0), Z4, H', ⟨Nat.le_refl _⟩, ⟨by (with_reducible repeat (first | refine blk_drewN ?_ _ | refine blk_drew ?_ | refine blk_alloc ?_ _)); exact BK291.out⟩, ⟨by (with_reducible repeat (first | refine blk_drewN ?_ _ | refine blk_drew ?_ | refine blk_alloc ?_ _)); exact BK292.out⟩, ⟨by repeat (first | (with_reducible first | exact HB.out | apply below_alloc | apply pw_below_drewN | apply below_drew1 | refine below_set ?_ GE291.out | refine below_set ?_ GE292.out) | exact HB.out)⟩⟩
         case round =>
          clear H'
          try clear c1
          try clear c2
          try clear p2
          try clear c3
          try clear c4
          try clear c6
          try clear c7
          try clear c9
          try clear c16
          try clear c25
          try clear c25b0
          try clear c25b1
          try clear c26
          try clear c26b0
          try clear c26b1
          try clear c27
          try clear c28
          try clear c32
          try clear c32b0
          try clear c32b1
          try clear c34
          try clear c38
          try clear c40
          try clear c40b0
          try clear c40b1
          try clear c41
          try clear c41b0
          try clear c41b1
          try clear c42
          try clear hcz17_0
          try clear hcz17_1
          try clear hcz19_0
          try clear hcz19_1
          try clear hcz20_0
          try clear hcz20_1
          try clear hcz20_2
          try clear hcz20_3
          try clear hcz20_4
          try clear hcz20_5
          try clear hcz22_0
          try clear hcz22_1
          try clear hcz23_0
          try clear hcz23_1
          try clear hcz23_2
          try clear hcz23_3
          try clear hcz23_4
          try clear hcz23_5
          try clear hcz29_0
          try clear hcz29_1
          try clear hcz30_0
          try clear hcz30_1
          try clear hcz30_2
          try clear hcz30_3
          try clear hcz30_4
          try clear hcz30_5
          try clear hcz35_0
          try clear hcz35_1
          try clear hcz36_0
          try clear hcz36_1
          try clear hcz36_2
          try clear hcz36_3
          try clear hcz36_4
          try clear hcz36_5
          try clear hfz17_0
          try clear hfz17_1
          try clear hfz19_0
          try clear hfz19_1
          try clear hfz20_0
          try clear hfz20_1
          try clear hfz20_2
          try clear hfz20_3
          try clear hfz20_4
          try clear hfz20_5
          try clear hfz22_0
          try clear hfz22_1
          try clear hfz23_0
          try clear hfz23_1
          try clear hfz23_2
          try clear hfz23_3
          try clear hfz23_4
          try clear hfz23_5
          try clear hfz29_0
          try clear hfz29_1
          try clear hfz30_0
          try clear hfz30_1
          try clear hfz30_2
          try clear hfz30_3
          try clear hfz30_4
          try clear hfz30_5
          try clear hfz35_0
          try clear hfz35_1
          try clear hfz36_0
          try clear hfz36_1
          try clear hfz36_2
          try clear hfz36_3
          try clear hfz36_4
          try clear hfz36_5
          try clear p2
          obtain ⟨x15_3, rfl, HA, HK3, BK291, BK292, HB⟩ := hrel
          cases gk with
          | zero => exact absurd HA.out (by simp [ensemblelaw12_PromiseOnly.l0])
          | succ k3 =>
           have H := HA.out
           clear HA
           simp only [ensemblelaw12_PromiseOnly.l0] at H
           by_cases c43 : x15_3 < (l3.length : Int)
           ·rw [if_pos c43] at H
            have c43b0 : decide (x15_3 < (l3.length : Int)) = true := decide_eq_true c43
            clear c43
            by_cases c44 : 0 ≤ x15_3
            ·rw [if_pos c44] at H
             have c44b0 : decide (0 ≤ x15_3) = true := decide_eq_true c44
             clear c44
             by_cases c45 : ((rd_T41 l3 x15_3).f2) = t295
             ·rw [if_pos c45] at H
              have c45b0 : (((rd_T41 l3 x15_3).f2) == t295) = true := beq_iff_eq.mpr c45
              have c45b1 : (((rd_T41 l3 x15_3).f2) != t295) = false := bne_eq_false_iff_eq.mpr c45
              clear c45
              obtain rfl := Option.some.inj H
              have p301 : 0 ≤ (x15_3 : Int) := of_decide_eq_true Z2
              have q301 : x15_3 < (l3.length : Int) := of_decide_eq_true Z2
              obtain ⟨ad301, A301_4, c301_4, e301, hx301_0, hx301_1, hx301_2, hx301_3, hx301_4, hl301_4, hi301_4⟩ := at_T41 HR3.out x15_3 p301 q301
              cases e301
              replace hx301_0 := (HB.out.cell (World.block_lt_of_cell? w _ hx301_0)).trans hx301_0
              replace hx301_1 := (HB.out.cell (World.block_lt_of_cell? w _ hx301_1)).trans hx301_1
              replace hx301_2 := (HB.out.cell (World.block_lt_of_cell? w _ hx301_2)).trans hx301_2
              replace hx301_3 := (HB.out.cell (World.block_lt_of_cell? w _ hx301_3)).trans hx301_3
              replace hx301_4 := (HB.out.cell (World.block_lt_of_cell? w _ hx301_4)).trans hx301_4
              have HR301_4 := Aside0.mk hi301_4
              have HC301_4 := Aside0.mk hl301_4
              clear hi301_4 hl301_4
              replace p301 := eq_true p301
              replace q301 := eq_true q301
              go_wp2
              go_ret
              exact ⟨by first | rfl | (simp [errW_none, errW_some] <;> rfl) | (simp [*, errW_none, errW_some] <;> rfl), by repeat (first | (with_reducible first | exact HB.out | apply below_alloc | apply pw_below_drewN | apply below_drew1 | refine below_set ?_ GE291.out | refine below_set ?_ GE292.out) | exact HB.out)⟩
             ·rw [if_neg c45] at H
              have c45b0 : (((rd_T41 l3 x15_3).f2) == t295) = false := beq_eq_false_iff_ne.mpr c45
              have c45b1 : (((rd_T41 l3 x15_3).f2) != t295) = true := bne_iff_ne.mpr c45
              have H' := Aside0.mk H
              clear H
              have p301 : 0 ≤ (x15_3 : Int) := of_decide_eq_true Z2
              have q301 : x15_3 < (l3.length : Int) := of_decide_eq_true Z2
              obtain ⟨ad301, A301_4, c301_4, e301, hx301_0, hx301_1, hx301_2, hx301_3, hx301_4, hl301_4, hi301_4⟩ := at_T41 HR3.out x15_3 p301 q301
              cases e301
              replace hx301_0 := (HB.out.cell (World.block_lt_of_cell? w _ hx301_0)).trans hx301_0
              replace hx301_1 := (HB.out.cell (World.block_lt_of_cell? w _ hx301_1)).trans hx301_1
              replace hx301_2 := (HB.out.cell (World.block_lt_of_cell? w _ hx301_2)).trans hx301_2
              replace hx301_3 := (HB.out.cell (World.block_lt_of_cell? w _ hx301_3)).trans hx301_3
              replace hx301_4 := (HB.out.cell (World.block_lt_of_cell? w _ hx301_4)).trans hx301_4
              have HR301_4 := Aside0.mk hi301_4
              have HC301_4 := Aside0.mk hl301_4
              clear hi301_4 hl301_4
              replace p301 := eq_true p301
              replace q301 := eq_true q301
              go_wp2
              go_roundg k3
              case measure => have := HJ11.out; have := HJ38.out; have := HK3.out; omega
              case rel => exact ⟨(wrap64 (x15_3 + 1)), Z4, H', ⟨by have := HJ11.out; have := HJ38.out; have := HK3.out; omega⟩, ⟨by (with_reducible repeat (first | refine blk_drewN ?_ _ | refine blk_drew ?_ | refine blk_alloc ?_ _)); exact BK291.out⟩, ⟨by (with_reducible repeat (first | refine blk_drewN ?_ _ | refine blk_drew ?_ | refine blk_alloc ?_ _)); exact BK292.out⟩, ⟨by repeat (first | (with_reducible first | exact HB.out | apply below_alloc | apply pw_below_drewN | apply below_drew1 | refine below_set ?_ GE291.out | refine below_set ?_ GE292.out) | exact HB.out)⟩⟩
            ·rw [if_neg c44] at H
             exact absurd H (by simp)
           ·rw [if_neg c43] at H
            have c43b0 : decide (x15_3 < (l3.length : Int)) = false := decide_eq_false c43
            clear c43
            obtain rfl := Option.some.inj H
            go_wp2
            go_ret
            exact ⟨by first | rfl | (simp [errW_none, errW_some] <;> rfl) | (simp [*, errW_none, errW_some] <;> rfl), by repeat (first | (with_reducible first | exact HB.out | apply below_alloc | apply pw_below_drewN | apply below_drew1 | refine below_set ?_ GE291.out | refine below_set ?_ GE292.out) | exact HB.out)⟩
  ·replace c9 := Bool.eq_false_iff.mpr c9
   subst c9
   have H1 : (some true) = some r := by rw [if_neg (show ¬ (false = true) by decide)] at H; exact H
   clear H
   have H := H1
   clear H1
   obtain rfl := Option.some.inj H
   go_enter Try.func6, Try.ntmps6
   go_wp2_with (first | ((with_reducible refine gate_dst (N := 7) rfl ?_); refine bx 7 #[.int .i64 a2_0, .int .i64 a2_1] 24 ?_; intro gb291 hg w46 hbox hb; have n0_ := Aside0.mk (below_step Z0 hb); have n1_ := Aside0.mk (hbox); have n2_ := Aside0.mk ((by rw [hg]; exact (below_size Z0) : w.heap.size ≤ gb291)); have n3_ := Aside0.mk ((by rw [hg]; exact (below_size Z0) : w.heap.size ≤ gb291)); clear HB; have HB := n0_; have BK291 := n1_; have GW291 := n2_; have GE291 := n3_; clear n0_ n1_ n2_ n3_; clear hb hbox hg) | ((with_reducible refine gate_dst (N := 9) rfl ?_); refine bx 9 #[.int .i64 a4_0, .int .i64 a4_1, .int .i64 a4_2, .int .i64 a4_3, .int .i64 a4_4, .int .i64 a4_5] 29 ?_; intro gb292 hg w47 hbox hb; have n0_ := Aside0.mk (blk_below (g := gb291) (o := .cells #[.int .i64 a2_0, .int .i64 a2_1] 24 (0, 0)) (by (with_reducible repeat (first | refine blk_drewN ?_ _ | refine blk_drew ?_ | refine blk_alloc ?_ _)); exact BK291.out) hb); have n1_ := Aside0.mk (below_step (by repeat (first | (with_reducible first | exact HB.out | apply below_alloc | apply pw_below_drewN | apply below_drew1 | refine below_set ?_ GE291.out) | exact HB.out)) hb); have n2_ := Aside0.mk (hbox); have n3_ := Aside0.mk ((by rw [hg]; exact (below_size (by repeat (first | (with_reducible first | exact HB.out | apply below_alloc | apply pw_below_drewN | apply below_drew1 | refine below_set ?_ GE291.out) | exact HB.out))) : w.heap.size ≤ gb292)); have n4_ := Aside0.mk ((by rw [hg]; exact (below_size (by repeat (first | (with_reducible first | exact HB.out | apply below_alloc | apply pw_below_drewN | apply below_drew1 | refine below_set ?_ GE291.out) | exact HB.out))) : w.heap.size ≤ gb292)); have n5_ := Aside0.mk ((by rw [hg]; exact Nat.ne_of_lt (blk_lt (g := gb291) (o := .cells #[.int .i64 a2_0, .int .i64 a2_1] 24 (0, 0)) (by (with_reducible repeat (first | refine blk_drewN ?_ _ | refine blk_drew ?_ | refine blk_alloc ?_ _)); exact BK291.out)) : gb291 ≠ gb292)); have n6_ := Aside0.mk ((by rw [hg]; exact Nat.ne_of_gt (blk_lt (g := gb291) (o := .cells #[.int .i64 a2_0, .int .i64 a2_1] 24 (0, 0)) (by (with_reducible repeat (first | refine blk_drewN ?_ _ | refine blk_drew ?_ | refine blk_alloc ?_ _)); exact BK291.out)) : gb292 ≠ gb291)); clear BK291; clear HB; have BK291 := n0_; have HB := n1_; have BK292 := n2_; have GW292 := n3_; have GE292 := n4_; have NB291_292 := n5_; have NB292_291 := n6_; clear n0_ n1_ n2_ n3_ n4_ n5_ n6_; clear hb hbox hg) | ((with_reducible refine gate_callee (f := 25) rfl ?_); refine goesL_ (some 16) rfl rfl Try.func25 (by kernel_rfl) rfl #[] rfl Z1 ?_; (with_reducible refine (ensemblelaw12_awake.calls  true _ A6.out).mono ?_); rintro e w48 ⟨rfl, hb⟩; refine ⟨_, rfl, ?_⟩; have n0_ := Aside0.mk (blk_below (g := gb291) (o := .cells #[.int .i64 a2_0, .int .i64 a2_1] 24 (0, 0)) (by (with_reducible repeat (first | refine blk_drewN ?_ _ | refine blk_drew ?_ | refine blk_alloc ?_ _)); exact BK291.out) hb); have n1_ := Aside0.mk (blk_below (g := gb292) (o := .cells #[.int .i64 a4_0, .int .i64 a4_1, .int .i64 a4_2, .int .i64 a4_3, .int .i64 a4_4, .int .i64 a4_5] 29 (0, 0)) (by (with_reducible repeat (first | refine blk_drewN ?_ _ | refine blk_drew ?_ | refine blk_alloc ?_ _)); exact BK292.out) hb); have n2_ := Aside0.mk (below_step (by repeat (first | (with_reducible first | exact HB.out | apply below_alloc | apply pw_below_drewN | apply below_drew1 | refine below_set ?_ GE291.out | refine below_set ?_ GE292.out) | exact HB.out)) hb); clear BK291; clear BK292; clear HB; have BK291 := n0_; have BK292 := n1_; have HB := n2_; clear n0_ n1_ n2_; (try clear hb); (try clear hb2); (try clear hk); (try clear hi); have hnb49 := NB291_292.out; have hnc49 := NB292_291.out; have hcz50_0 : w48.cell? ⟨gb291, 0, none⟩ = some (.int .i64 a2_0) := (blk_cell BK291.out 0).trans rfl; have hcz50_1 : w48.cell? ⟨gb291, 1, none⟩ = some (.int .i64 a2_1) := (blk_cell BK291.out 1).trans rfl; have hfz50_0 := blk_frozen BK291.out 0; have hfz50_1 := blk_frozen BK291.out 1) | ((with_reducible refine gate_callee (f := 26) rfl ?_); refine goesL_ (some 21) rfl rfl Try.func26 (by kernel_rfl) rfl #[.slice A1 l1.length c1, .agg #[.int .i64 a2_0, .int .i64 a2_1], .slice A3 l3.length c3] rfl Z1 ?_; (with_reducible refine (ensembleref12_Few.calls k _ _ l1 a2_0 a2_1 _ _ l3 false _ ?side1 ?side2 ?side3 ?side4 A8.out).mono ?_); (case side1 => repeat (first | exact (Kd.C_below HR1.out HB.out) | (with_reducible refine Kd.C_alloc ?_ _) | (with_reducible refine Kd.C_drewN ?_ _) | (with_reducible refine Kd.C_drew ?_))); (case side2 => exact HC1.out); (case side3 => repeat (first | exact (Kd.C_below HR3.out HB.out) | (with_reducible refine Kd.C_alloc ?_ _) | (with_reducible refine Kd.C_drewN ?_ _) | (with_reducible refine Kd.C_drew ?_))); (case side4 => exact HC3.out); rintro e w51 ⟨rfl, hb⟩; refine ⟨_, rfl, ?_⟩; have n0_ := Aside0.mk (blk_below (g := gb291) (o := .cells #[.int .i64 a2_0, .int .i64 a2_1] 24 (0, 0)) (by (with_reducible repeat (first | refine blk_drewN ?_ _ | refine blk_drew ?_ | refine blk_alloc ?_ _)); exact BK291.out) hb); have n1_ := Aside0.mk (blk_below (g := gb292) (o := .cells #[.int .i64 a4_0, .int .i64 a4_1, .int .i64 a4_2, .int .i64 a4_3, .int .i64 a4_4, .int .i64 a4_5] 29 (0, 0)) (by (with_reducible repeat (first | refine blk_drewN ?_ _ | refine blk_drew ?_ | refine blk_alloc ?_ _)); exact BK292.out) hb); have n2_ := Aside0.mk (below_step (by repeat (first | (with_reducible first | exact HB.out | apply below_alloc | apply pw_below_drewN | apply below_drew1 | refine below_set ?_ GE291.out | refine below_set ?_ GE292.out) | exact HB.out)) hb); clear BK291; clear BK292; clear HB; have BK291 := n0_; have BK292 := n1_; have HB := n2_; clear n0_ n1_ n2_; (try clear hb); (try clear hb2); (try clear hk); (try clear hi)))
   go_ret
   exact ⟨by first | rfl | (simp [errW_none, errW_some] <;> rfl) | (simp [*, errW_none, errW_some] <;> rfl), by repeat (first | (with_reducible first | exact HB.out | apply below_alloc | apply pw_below_drewN | apply below_drew1 | refine below_set ?_ GE291.out | refine below_set ?_ GE292.out) | exact HB.out)⟩
 ·replace c7 := Bool.eq_false_iff.mpr c7
  subst c7
  have H1 : (some false) = some r := by rw [if_neg (show ¬ (false = true) by decide)] at H; exact H
  clear H
  have H := H1
  clear H1
  obtain rfl := Option.some.inj H
  go_enter Try.func6, Try.ntmps6
  go_wp2_with (first | ((with_reducible refine gate_dst (N := 7) rfl ?_); refine bx 7 #[.int .i64 a2_0, .int .i64 a2_1] 24 ?_; intro gb291 hg w52 hbox hb; have n0_ := Aside0.mk (below_step Z0 hb); have n1_ := Aside0.mk (hbox); have n2_ := Aside0.mk ((by rw [hg]; exact (below_size Z0) : w.heap.size ≤ gb291)); have n3_ := Aside0.mk ((by rw [hg]; exact (below_size Z0) : w.heap.size ≤ gb291)); clear HB; have HB := n0_; have BK291 := n1_; have GW291 := n2_; have GE291 := n3_; clear n0_ n1_ n2_ n3_; clear hb hbox hg) | ((with_reducible refine gate_dst (N := 9) rfl ?_); refine bx 9 #[.int .i64 a4_0, .int .i64 a4_1, .int .i64 a4_2, .int .i64 a4_3, .int .i64 a4_4, .int .i64 a4_5] 29 ?_; intro gb292 hg w53 hbox hb; have n0_ := Aside0.mk (blk_below (g := gb291) (o := .cells #[.int .i64 a2_0, .int .i64 a2_1] 24 (0, 0)) (by (with_reducible repeat (first | refine blk_drewN ?_ _ | refine blk_drew ?_ | refine blk_alloc ?_ _)); exact BK291.out) hb); have n1_ := Aside0.mk (below_step (by repeat (first | (with_reducible first | exact HB.out | apply below_alloc | apply pw_below_drewN | apply below_drew1 | refine below_set ?_ GE291.out) | exact HB.out)) hb); have n2_ := Aside0.mk (hbox); have n3_ := Aside0.mk ((by rw [hg]; exact (below_size (by repeat (first | (with_reducible first | exact HB.out | apply below_alloc | apply pw_below_drewN | apply below_drew1 | refine below_set ?_ GE291.out) | exact HB.out))) : w.heap.size ≤ gb292)); have n4_ := Aside0.mk ((by rw [hg]; exact (below_size (by repeat (first | (with_reducible first | exact HB.out | apply below_alloc | apply pw_below_drewN | apply below_drew1 | refine below_set ?_ GE291.out) | exact HB.out))) : w.heap.size ≤ gb292)); have n5_ := Aside0.mk ((by rw [hg]; exact Nat.ne_of_lt (blk_lt (g := gb291) (o := .cells #[.int .i64 a2_0, .int .i64 a2_1] 24 (0, 0)) (by (with_reducible repeat (first | refine blk_drewN ?_ _ | refine blk_drew ?_ | refine blk_alloc ?_ _)); exact BK291.out)) : gb291 ≠ gb292)); have n6_ := Aside0.mk ((by rw [hg]; exact Nat.ne_of_gt (blk_lt (g := gb291) (o := .cells #[.int .i64 a2_0, .int .i64 a2_1] 24 (0, 0)) (by (with_reducible repeat (first | refine blk_drewN ?_ _ | refine blk_drew ?_ | refine blk_alloc ?_ _)); exact BK291.out)) : gb292 ≠ gb291)); clear BK291; clear HB; have BK291 := n0_; have HB := n1_; have BK292 := n2_; have GW292 := n3_; have GE292 := n4_; have NB291_292 := n5_; have NB292_291 := n6_; clear n0_ n1_ n2_ n3_ n4_ n5_ n6_; clear hb hbox hg) | ((with_reducible refine gate_callee (f := 25) rfl ?_); refine goesL_ (some 16) rfl rfl Try.func25 (by kernel_rfl) rfl #[] rfl Z1 ?_; (with_reducible refine (ensemblelaw12_awake.calls  false _ A6.out).mono ?_); rintro e w54 ⟨rfl, hb⟩; refine ⟨_, rfl, ?_⟩; have n0_ := Aside0.mk (blk_below (g := gb291) (o := .cells #[.int .i64 a2_0, .int .i64 a2_1] 24 (0, 0)) (by (with_reducible repeat (first | refine blk_drewN ?_ _ | refine blk_drew ?_ | refine blk_alloc ?_ _)); exact BK291.out) hb); have n1_ := Aside0.mk (blk_below (g := gb292) (o := .cells #[.int .i64 a4_0, .int .i64 a4_1, .int .i64 a4_2, .int .i64 a4_3, .int .i64 a4_4, .int .i64 a4_5] 29 (0, 0)) (by (with_reducible repeat (first | refine blk_drewN ?_ _ | refine blk_drew ?_ | refine blk_alloc ?_ _)); exact BK292.out) hb); have n2_ := Aside0.mk (below_step (by repeat (first | (with_reducible first | exact HB.out | apply below_alloc | apply pw_below_drewN | apply below_drew1 | refine below_set ?_ GE291.out | refine below_set ?_ GE292.out) | exact HB.out)) hb); clear BK291; clear BK292; clear HB; have BK291 := n0_; have BK292 := n1_; have HB := n2_; clear n0_ n1_ n2_; (try clear hb); (try clear hb2); (try clear hk); (try clear hi)))
  go_ret
  exact ⟨by first | rfl | (simp [errW_none, errW_some] <;> rfl) | (simp [*, errW_none, errW_some] <;> rfl), by repeat (first | (with_reducible first | exact HB.out | apply below_alloc | apply pw_below_drewN | apply below_drew1 | refine below_set ?_ GE291.out | refine below_set ?_ GE292.out) | exact HB.out)⟩
end Go.Proofs.Ytckhjehibjdjdaa.P
namespace Go.Proofs.Ytckhjehibjdjdaa.Ob
open Go.RowKit Go.Deep Go.Proofs.YtckhjehibjdjdaaW.PrintWords Go.WideShapes
def Opens {α : Type} (P : Program) (t : TypeId) (d : Kd α) (wf : α → Prop) : Prop :=
 ∀ (H : Type) (enc : TypeId × Value → H) (W : World) (base : Nat) (spare : Nat → Bool) (held : Bool) (fuel : Nat) (cs : List Value) (x : DataW H × List MemPlace),
  DataW.trod enc P W base spare held fuel t cs = some x → ∃ a, d.K W a cs ∧ wf a
variable {P : Program} {t e : TypeId}
theorem Opens.int {k : IntKind} (ht : P.underlying t = some (.int k)) : Opens P t (Kd.int k) (fun n => (Lit.int k n).wf = true) := by
 intro H enc W base spare held fuel cs x h
 obtain ⟨n, rfl, _, hw⟩ := DataW.trod_int ht h
 exact ⟨n, rfl, hw⟩
theorem Opens.bool (ht : P.underlying t = some .bool) : Opens P t Kd.bool (fun _ => True) := by
 intro H enc W base spare held fuel cs x h
 obtain ⟨b, rfl, _⟩ := DataW.trod_bool ht h
 exact ⟨b, rfl, trivial⟩
theorem Opens.slice {α : Type} {d : Kd α} {wf : α → Prop} (ht : P.underlying t = some (.slice e)) (hsz : P.cellsOf e = d.sz) (he : Opens P e d wf) :
  Opens P t (Kd.slice e d) (fun xs => xs.length ≤ maxLen ∧ ∀ x ∈ xs, wf x) := by
 intro H enc W base spare held fuel cs x h
 rcases open_slice ht h with ⟨rfl, _⟩ | ⟨a, len, cap, m, n, D, Pl, rfl, _, hl, hm, hmm, hxx, hx⟩
 ·exact ⟨[], ⟨none, 0, rfl, Nat.le_refl _, rfl, by simp, fun h => absurd h (by simp)⟩, by simp [maxLen], fun x hx => by simp at hx⟩
 ·have hlm : len ≤ m := by rw [hmm]; split <;> omega
  have hx' : ∀ i, i < len → ∃ (y : α) (c : List Value), d.K W y c ∧ wf y ∧ c.length = d.sz ∧ ∀ j u, c[j]? = some u → W.cell? (a.add (i * d.sz + j)) = some u := by
   intro i hi
   obtain ⟨c, h1, h2⟩ := hx i (by omega)
   obtain ⟨y, hK, hw⟩ := he H enc W base spare held n c _ h2
   obtain ⟨_, h3, h4⟩ := World.cells?_some h1
   refine ⟨y, c, hK, hw, d.K_len hK, fun j u hu => ?_⟩
   have hj : j < c.length := by
    rcases Nat.lt_or_ge j c.length with h | h
    ·exact h
    ·rw [List.getElem?_eq_none h] at hu; cases hu
   have h5 := h4 j (by omega)
   rw [Deep.add_add, hsz] at h5
   rw [h5]; exact hu
  have hall : ∃ xs : List α, xs.length = len ∧ ∀ (i : Nat) (p : α), xs[i]? = some p → ∃ c, c.length = d.sz ∧ d.K W p c ∧ wf p ∧ ∀ j u, c[j]? = some u → W.cell? (a.add (i * d.sz + j)) = some u := by
   clear hx hm hl hmm hlm h hxx
   induction len with
   | zero => exact ⟨[], rfl, fun i p hp => by simp at hp⟩
   | succ len ih =>
    obtain ⟨xs, hxl, hxs⟩ := ih (fun i hi => hx' i (by omega))
    obtain ⟨y, c, hK, hw, hcl, hc⟩ := hx' len (by omega)
    refine ⟨xs ++ [y], by simp [hxl], fun i p hp => ?_⟩
    rcases Nat.lt_or_ge i xs.length with h | h
    ·rw [List.getElem?_append_left h] at hp
     exact hxs i p hp
    ·have hi : i = xs.length := by
      have := (List.getElem?_eq_some_iff.1 hp).1
      rw [List.length_append, List.length_singleton] at this
      omega
     subst hi
     have hp' : y = p := by simpa using hp
     subst hp'
     exact ⟨c, hcl, hK, hw, by rw [hxl]; exact hc⟩
  obtain ⟨xs, hxl, hxs⟩ := hall
  refine ⟨xs, ⟨some a, cap, by rw [hxl], by omega, rfl, by rw [hxl]; simp only [maxLen] at hm; omega, fun _ => ⟨a, rfl, fun j p hp => ?_⟩⟩, by rw [hxl]; omega, fun x hx => ?_⟩
  ·obtain ⟨c, h1, h2, _, h3⟩ := hxs j p hp
   exact ⟨c, h1, h2, h3⟩
  ·obtain ⟨i, hi, rfl⟩ := List.getElem_of_mem hx
   obtain ⟨_, _, _, h, _⟩ := hxs i _ (List.getElem?_eq_getElem hi)
   exact h
def OpensAt {α : Type} (P : Program) (fs : List (Nat × TypeId)) (off : Nat) (d : Kd α) (wf : α → Prop) : Prop :=
 ∀ (H : Type) (enc : TypeId × Value → H) (W : World) (base : Nat) (spare : Nat → Bool) (held : Bool) (fuel : Nat) (cs : List Value), cs.length = off + d.sz →
  (∀ f, f ∈ fs → ∃ x, DataW.trod enc P W base spare held fuel f.2 ((cs.drop f.1).take (P.cellsOf f.2)) = some x) → ∃ a, d.K W a (cs.drop off) ∧ wf a
theorem OpensAt.last {α : Type} {d : Kd α} {wf : α → Prop} {off : Nat} (h : Opens P t d wf) (hsz : P.cellsOf t = d.sz) : OpensAt P [(off, t)] off d wf := by
 intro H enc W base spare held fuel cs hl hf
 obtain ⟨x, hx⟩ := hf (off, t) (by simp)
 rw [hsz, List.take_of_length_le (by rw [List.length_drop]; omega)] at hx
 exact h H enc W base spare held fuel _ x hx
theorem OpensAt.cons {α β : Type} {d : Kd α} {wf : α → Prop} {d' : Kd β} {wf' : β → Prop} {off off' : Nat} {fs : List (Nat × TypeId)} (h : Opens P t d wf) (hsz : P.cellsOf t = d.sz) (ho : off' = off + d.sz)
  (h' : OpensAt P fs off' d' wf') : OpensAt P ((off, t) :: fs) off (Kd.pair d d') (fun x => wf x.1 ∧ wf' x.2) := by
 intro H enc W base spare held fuel cs hl hf
 obtain ⟨x, hx⟩ := hf (off, t) (by simp)
 have hl' : cs.length = off' + d'.sz := by rw [hl, ho]; show off + (d.sz + d'.sz) = _; omega
 obtain ⟨a, hK, hw⟩ := h H enc W base spare held fuel _ x hx
 obtain ⟨b, hK', hw'⟩ := h' H enc W base spare held fuel cs hl' (fun f hf' => hf f (by simp [hf']))
 refine ⟨(a, b), ⟨_, _, ?_, hK, hK'⟩, hw, hw'⟩
 rw [hsz, ho, ← List.drop_drop, List.take_append_drop]
theorem Opens.struct {α β : Type} {d : Kd β} {wf : β → Prop} {fs : Array Field} {l : List (Nat × TypeId)} (ht : P.underlying t = some (.struct fs)) (hl : fs.toList.map (fun f => (f.offset, f.type)) = l) (hsz : P.cellsOf t = d.sz)
  (h : OpensAt P l 0 d wf) (f : α → β) (g : β → α) (hfg : ∀ b, f (g b) = b) : Opens P t (Kd.iso d f) (fun x => wf (f x)) := by
 intro H enc W base spare held fuel cs x hx
 obtain ⟨xs, n, _, _, hcl, hxl, hfs⟩ := DataW.trod_struct ht hx
 obtain ⟨b, hK, hw⟩ := h H enc W base spare held n cs (by rw [hcl, hsz]; omega) (fun p hp => by
  rw [← hl] at hp
  obtain ⟨fd, hfd, rfl⟩ := List.mem_map.1 hp
  obtain ⟨i, hi, rfl⟩ := List.getElem_of_mem hfd
  have := hfs i fs.toList[i] (by simp)
  rw [List.getElem?_eq_getElem (by rw [hxl]; simpa using hi)] at this
  exact ⟨_, this⟩)
 exact ⟨g b, by show d.K W (f (g b)) cs; rw [hfg]; simpa using hK, by show wf (f (g b)); rw [hfg]; exact hw⟩
theorem Opens.imp {α : Type} {d : Kd α} {wf wf' : α → Prop} (h : Opens P t d wf) (hi : ∀ a, wf a → wf' a) : Opens P t d wf' := fun H enc W base spare held fuel cs x hx =>
 let ⟨a, h1, h2⟩ := h H enc W base spare held fuel cs x hx; ⟨a, h1, hi a h2⟩
theorem Opens.open {α : Type} {d : Kd α} {wf : α → Prop} (h : Opens P t d wf) {H : Type} {enc : TypeId × Value → H} {W : World} {base : Nat} {spare : Nat → Bool} {held : Bool} {v : Value} {y : DataW H} {p : List MemPlace}
  (hv : DataW.Trod enc P W base spare held t v y p) : ∃ a, d.K W a v.cells.toList ∧ wf a := by
 obtain ⟨fuel, hf⟩ := hv
 exact h H enc W base spare held fuel _ _ hf
end Go.Proofs.Ytckhjehibjdjdaa.Ob
namespace Go.Proofs.Ytckhjehibjdjdaa.P
open Go.RowKit Go.Proofs.Ytckhjehibjdjdaa.Ob Go.Proofs.YtckhjehibjdjdaaW.PrintWords
set_option linter.unusedVariables false
def I64 (x : Int) : Prop := -9223372036854775808 ≤ x ∧ x ≤ 9223372036854775807
def U64 (x : Int) : Prop := 0 ≤ x ∧ x ≤ 18446744073709551615
theorem i64_of {x : Int} (h : (Lit.int .i64 x).wf = true) : I64 x := by unfold I64; simp [Lit.wf, IntKind.min, IntKind.max, IntKind.bits, IntKind.signed] at h; omega
theorem u64_of {x : Int} (h : (Lit.int .u64 x).wf = true) : U64 x := by unfold U64; simp [Lit.wf, IntKind.min, IntKind.max, IntKind.bits, IntKind.signed] at h; omega
theorem o_i64 {t : TypeId} (h : Try.prog.underlying t = some (.int .i64)) : Opens Try.prog t (Kd.int .i64) I64 := (Opens.int h).imp fun _ h => i64_of h
theorem o_u64 {t : TypeId} (h : Try.prog.underlying t = some (.int .u64)) : Opens Try.prog t (Kd.int .u64) U64 := (Opens.int h).imp fun _ h => u64_of h
def wfd48 (x : S48) : Prop := I64 x.f0 ∧ I64 x.f1
theorem o48 : Opens Try.prog 48 k48 wfd48 := (Opens.struct Try.underlying48 rfl (by kernel_rfl) (OpensAt.cons (o_i64 Try.underlying3) (by kernel_rfl) rfl (OpensAt.last (o_i64 Try.underlying3) (by kernel_rfl))) _ (fun p => (⟨p.1, p.2⟩ : S48)) (fun _ => rfl)).imp (fun _ h => h)
def wfd51 (x : S51) : Prop := wfd48 x.f0 ∧ U64 x.f1 ∧ I64 x.f2
theorem o51 : Opens Try.prog 51 k51 wfd51 := (Opens.struct Try.underlying51 rfl (by kernel_rfl) (OpensAt.cons (o48) (by kernel_rfl) rfl (OpensAt.cons (o_u64 Try.underlying49) (by kernel_rfl) rfl (OpensAt.last (o_i64 Try.underlying3) (by kernel_rfl)))) _ (fun p => (⟨p.1, p.2.1, p.2.2⟩ : S51)) (fun _ => rfl)).imp (fun _ h => h)
def wfd24 (x : S24) : Prop := I64 x.f0 ∧ I64 x.f1
theorem o24 : Opens Try.prog 24 k24 wfd24 := (Opens.struct Try.underlying24 rfl (by kernel_rfl) (OpensAt.cons (o_i64 Try.underlying3) (by kernel_rfl) rfl (OpensAt.last (o_i64 Try.underlying3) (by kernel_rfl))) _ (fun p => (⟨p.1, p.2⟩ : S24)) (fun _ => rfl)).imp (fun _ h => h)
def wfd52 (x : S52) : Prop := wfd48 x.f0 ∧ U64 x.f1 ∧ I64 x.f2
theorem o52 : Opens Try.prog 52 k52 wfd52 := (Opens.struct Try.underlying52 rfl (by kernel_rfl) (OpensAt.cons (o48) (by kernel_rfl) rfl (OpensAt.cons (o_u64 Try.underlying49) (by kernel_rfl) rfl (OpensAt.last (o_i64 Try.underlying3) (by kernel_rfl)))) _ (fun p => (⟨p.1, p.2.1, p.2.2⟩ : S52)) (fun _ => rfl)).imp (fun _ h => h)
def wfd41 (x : S41) : Prop := I64 x.f0 ∧ I64 x.f1 ∧ I64 x.f2 ∧ True ∧ (x.f4.length ≤ maxLen ∧ ∀ y ∈ x.f4, wfd52 y)
theorem o41 : Opens Try.prog 41 k41 wfd41 := (Opens.struct Try.underlying41 rfl (by kernel_rfl) (OpensAt.cons (o_i64 Try.underlying3) (by kernel_rfl) rfl (OpensAt.cons (o_i64 Try.underlying3) (by kernel_rfl) rfl (OpensAt.cons (o_i64 Try.underlying3) (by kernel_rfl) rfl (OpensAt.cons (Opens.bool Try.underlying4) (by kernel_rfl) rfl (OpensAt.last ((Opens.slice Try.underlying39 (by kernel_rfl) (o52))) (by kernel_rfl)))))) _ (fun p => (⟨p.1, p.2.1, p.2.2.1, p.2.2.2.1, p.2.2.2.2⟩ : S41)) (fun _ => rfl)).imp (fun _ h => h)
def wfd27 (x : S27) : Prop := I64 x.f0 ∧ I64 x.f1 ∧ I64 x.f2 ∧ I64 x.f3
theorem o27 : Opens Try.prog 27 k27 wfd27 := (Opens.struct Try.underlying27 rfl (by kernel_rfl) (OpensAt.cons (o_i64 Try.underlying3) (by kernel_rfl) rfl (OpensAt.cons (o_i64 Try.underlying3) (by kernel_rfl) rfl (OpensAt.cons (o_i64 Try.underlying3) (by kernel_rfl) rfl (OpensAt.last (o_i64 Try.underlying3) (by kernel_rfl))))) _ (fun p => (⟨p.1, p.2.1, p.2.2.1, p.2.2.2⟩ : S27)) (fun _ => rfl)).imp (fun _ h => h)
def wfd29 (x : S29) : Prop := I64 x.f0 ∧ I64 x.f1 ∧ wfd27 x.f2
theorem o29 : Opens Try.prog 29 k29 wfd29 := (Opens.struct Try.underlying29 rfl (by kernel_rfl) (OpensAt.cons (o_i64 Try.underlying3) (by kernel_rfl) rfl (OpensAt.cons (o_i64 Try.underlying3) (by kernel_rfl) rfl (OpensAt.last (o27) (by kernel_rfl)))) _ (fun p => (⟨p.1, p.2.1, p.2.2⟩ : S29)) (fun _ => rfl)).imp (fun _ h => h)
end Go.Proofs.Ytckhjehibjdjdaa.P
namespace Go.Proofs.Ytckhjehibjdjdaa.P
open Go.RowKit Go.Proofs.YtckhjehibjdjdaaW.PrintWords Go.Proofs.YtckhjehibjdjdaaW.PrintLast Go.Proofs.YtckhjehibjdjdaaW.PrintMore
attribute [local go_sem] max2_int min2_int max_two min_two max_three min_three max_four min_four
set_option linter.unusedVariables false
set_option linter.unusedSimpArgs false
end Go.Proofs.Ytckhjehibjdjdaa.P
namespace Go.Proofs.Ytckhjehibjdjdaa.P
open Go.RowKit Go.Proofs.YtckhjehibjdjdaaW.PrintWords Go.Proofs.YtckhjehibjdjdaaW.PrintLast Go.Proofs.YtckhjehibjdjdaaW.PrintMore
attribute [local go_sem] max2_int min2_int max_two min_two max_three min_three max_four min_four
set_option linter.unusedVariables false
set_option linter.unusedSimpArgs false
end Go.Proofs.Ytckhjehibjdjdaa.P
namespace Go.Proofs.Ytckhjehibjdjdaa.P
open Go.RowKit Go.Proofs.YtckhjehibjdjdaaW.PrintWords Go.Proofs.YtckhjehibjdjdaaW.PrintLast Go.Proofs.YtckhjehibjdjdaaW.PrintMore
attribute [local go_sem] max2_int min2_int max_two min_two max_three min_three max_four min_four
set_option linter.unusedVariables false
set_option linter.unusedSimpArgs false
end Go.Proofs.Ytckhjehibjdjdaa.P
namespace Go.Proofs.Ytckhjehibjdjdaa.P
open Go.RowKit Go.Proofs.YtckhjehibjdjdaaW.PrintWords Go.Proofs.YtckhjehibjdjdaaW.PrintLast Go.Proofs.YtckhjehibjdjdaaW.PrintMore
attribute [local go_sem] max2_int min2_int max_two min_two max_three min_three max_four min_four
set_option linter.unusedVariables false
set_option linter.unusedSimpArgs false
end Go.Proofs.Ytckhjehibjdjdaa.P
namespace Go.Proofs.Ytckhjehibjdjdaa.P
open Go.RowKit Go.Proofs.YtckhjehibjdjdaaW.PrintWords Go.Proofs.YtckhjehibjdjdaaW.PrintLast Go.Proofs.YtckhjehibjdjdaaW.PrintMore
attribute [local go_sem] max2_int min2_int max_two min_two max_three min_three max_four min_four
set_option linter.unusedVariables false
set_option linter.unusedSimpArgs false
end Go.Proofs.Ytckhjehibjdjdaa.P
namespace Go.Proofs.Ytckhjehibjdjdaa.P
open Go.RowKit Go.Proofs.YtckhjehibjdjdaaW.PrintWords Go.Proofs.YtckhjehibjdjdaaW.PrintLast Go.Proofs.YtckhjehibjdjdaaW.PrintMore
attribute [local go_sem] max2_int min2_int max_two min_two max_three min_three max_four min_four
set_option linter.unusedVariables false
set_option linter.unusedSimpArgs false
def ensembleref04_Piece.T4 : Bool × List (List Nat × List Nat) := (true, [([], []), ([0], [0]), ([], []), ([], []), ([3], [3]), ([1, 2, 4], [1, 2, 4]), ([], []), ([6], [6]), ([], []), ([8], [8]), ([], []), ([9, 10], [9, 10]), ([], []), ([12], [12]), ([], []), ([14], [14]), ([13, 15], [13, 15]), ([7, 11, 16], [7, 11, 16]), ([5, 0, 1, 2, 3, 4, 5], [5]), ([17, 18, 0, 1, 2, 3, 4, 5, 6, 7, 8, 9, 10, 11, 12, 13, 14, 15, 16, 17, 18], [17]), ([19, 0, 1, 2, 3, 4, 5, 6, 7, 8, 9, 10, 11, 12, 13, 14, 15, 16, 17, 18, 19], [])])
def ensembleref04_Piece.B4 : List Nat := [0, 1, 0, 0, 8, 31, 0, 64, 0, 256, 0, 1792, 0, 4096, 0, 16384, 61440, 131008, 63, 524287, 1048575]
theorem ensembleref04_Piece.bits4 : waitsOk ensembleref04_Piece.T4.2 ensembleref04_Piece.B4 = true := by kernel_rfl
end Go.Proofs.Ytckhjehibjdjdaa.P
namespace Go.Proofs.Ytckhjehibjdjdaa.P
open Go.RowKit Go.Proofs.YtckhjehibjdjdaaW.PrintWords Go.Proofs.YtckhjehibjdjdaaW.PrintLast Go.Proofs.YtckhjehibjdjdaaW.PrintMore
attribute [local go_sem] max2_int min2_int max_two min_two max_three min_three max_four min_four
set_option linter.unusedVariables false
set_option linter.unusedSimpArgs false
end Go.Proofs.Ytckhjehibjdjdaa.P
