/- PackWhole: part 2 of the walk and of the plain law that it comes to. No condition. -/
import Derived.Test.YtckhjehibjdjdaaZPackWhole1
import Derived.ArgAppend
import Derived.Below
import Derived.BigQuiet
import Derived.BigRegion
import Derived.Carry
import Derived.Deep.AppendLies
import Derived.Deep.CutBlock
import Derived.Deep.DeepCutAuto
import Derived.Deep.Draws
import Derived.Deep.LoopGhost
import Derived.Deep.OwnRows
import Derived.Deep.QuietTactic
import Derived.Deep.RegionHeld3
import Derived.DeepKeys3
import Derived.KernelRfl
import Derived.Laws.Bits64
import Derived.Laws.Bits64b
import Derived.Laws.BitsLemmas
import Derived.Laws.BytesArg
import Derived.Laws.Externs
import Derived.Laws.IdiomCopy
import Derived.Laws.MakeOwn
import Derived.Laws.OwnMore
import Derived.Laws.Rows
import Derived.Laws.Slices
import Derived.Lib.AppendStr
import Derived.Lib.ConvBytes
import Derived.Lib.ReflectliteSlice
import Derived.Lib.ReflectliteSwap
import Derived.Lib.SliceRun
import Derived.LoopIn
import Derived.LoopN
import Derived.LoopNIn
import Derived.Maps.AppendAt
import Derived.Maps.Keyed
import Derived.Maps.Own
import Derived.Maps.OwnOps
import Derived.Maps.OwnSet
import Derived.Maps.Views
import Derived.OrdersHeld
import Derived.Outline
import Derived.OwnWalk
import Derived.OwnWalkIn
import Derived.RangeFuncBound
import Derived.RangeFuncBox
import Derived.RangeFuncCalls
import Derived.RangeFuncFrom
import Derived.RangeFuncLeaves
import Derived.RowKit
import Derived.RowKit3
import Derived.Shelf.Abstract
import Derived.Shelf.RegionOpen
import Derived.StillTailTactics
import Derived.Tactics
import Derived.TacticsInMore
import Derived.WalkKit
import Derived.WideLaws
namespace Go.Proofs.Ytckhjehibjdjdaa.P
open Go.RowKit Go.Shelf Go.Proofs.YtckhjehibjdjdaaW.PrintWords Go.Proofs.YtckhjehibjdjdaaW.PrintLast Go.Proofs.YtckhjehibjdjdaaW.PrintMore
attribute [local go_sem] Oper.semAt_some
set_option linter.unusedVariables false
set_option linter.unusedSimpArgs false
set_option maxHeartbeats 16000000 in
set_option maxRecDepth 100000 in
theorem stableF (E : SE) (O : E.Ok) (xs : List S51) (w : World) (hr : E.RW w xs) :
  Calls Try.prog 110 #[.agg #[.func (.func 86) #[] E.lb, .func (.func E.sf) #[] E.sb], .int .i64 E.n] w fun e w' => e = .returned (.tuple #[]) ∧ E.RW w' (isort E.key xs) ∧ w.grownBy w' (some E.g) := by
 have hu165 := Try.underlying165
 have HO := Aside0.mk O
 have hgw : E.g < w.heap.size := Nat.lt_of_lt_of_le O.gb hr.grown.size
 have hn := O.nb
 have hxl := hr.len.symm
 obtain ⟨n, hnE⟩ : ∃ n, E.n = n := ⟨_, rfl⟩
 rw [hnE] at hxl hn ⊢
 have HNE := Aside0.mk hnE
 clear hnE O
 have HR := Aside0.mk hr
 have HXL := Aside0.mk hxl
 clear hr hxl
 go_enter Try.func110, Try.ntmps110
 go_wp2_with (first | ((with_reducible refine gate_dst (N := 2) rfl ?_); refine box_event ?hg (N := 2) ?hd (cs := #[.func (.func 86) #[] E.lb, .func (.func E.sf) #[] E.sb]) (t := 165) ?hr ?_; (case hd => rfl); (case hg => rfl); (case hr => first | (go_simp; done) | (go_simp; rfl)); intro gb hgb wb hxb hbb; have HXB := Aside0.mk hxb; have HRB := Aside0.mk (HR.out.below hbb); have HGB := Aside0.mk (grown_of_below (g := E.g) hbb); have hne : gb ≠ E.g := (by omega); clear hgb hxb hbb HR))
 go_loopw [5, 6] (fun v5 v6 wr => ∃ (i a b : Nat), v5 = .int .i64 (a : Int) ∧ v6 = .int .i64 (b : Int) ∧ Aside0 (a = 20 * i ∧ b = 20 * i + 20) ∧ a ≤ n ∧ Aside0 (E.RW wr (sp E.key 20 i xs ++ xs.drop (20 * i))) ∧ Aside0 (w.grownBy wr (some E.g)) ∧ Aside0 (wr.heap[gb]? = some (.cells #[.func (.func 86) #[] E.lb, .func (.func E.sf) #[] E.sb] 165 (0, 0)))) (fun v5 _ _ => n - (intOf v5).toNat)
 case atStart => exact ⟨0, 0, 20, rfl, rfl, ⟨by omega⟩, Nat.zero_le _, ⟨by simpa [sp] using HRB.out⟩, HGB, HXB⟩
 case round =>
  clear HRB HGB HXB
  obtain ⟨i, a, b, rfl, rfl, HI, han, HA, HG, HX⟩ := hrel
  by_cases hlt : b ≤ n
  ·have hlt' : (b : Int) ≤ n := by omega
   have HC := Aside0.mk (insertF_part E HO.out a b 20 (sp E.key 20 i xs) (xs.drop (20 * i)) wr HA.out (by rw [sp_len E.key 20 i xs (by have := HI.out; have := HXL.out; omega)]; exact HI.out.1) (by have := HI.out; omega) (by rw [List.length_drop]; have := HI.out; have := HXL.out; omega))
   have HE := Aside0.mk (show sp E.key 20 i xs ++ (isort E.key ((xs.drop (20 * i)).take 20) ++ (xs.drop (20 * i)).drop 20) = sp E.key 20 (i + 1) xs ++ xs.drop (20 * (i + 1)) from by
    rw [sp_snoc, List.append_assoc, List.drop_drop, Nat.mul_succ])
   clear HA
   have hcz0 : wr.cell? ⟨gb, 0, none⟩ = some (.func (.func 86) #[] E.lb) := (blk_cell HX.out 0).trans rfl
   have hcz1 : wr.cell? ⟨gb, 1, none⟩ = some (.func (.func E.sf) #[] E.sb) := (blk_cell HX.out 1).trans rfl
   have hfz0 := blk_frozen HX.out 0
   have hfz1 := blk_frozen HX.out 1
   go_wp2_with (go_at_call 131; refine HC.out.mono ?_; rintro e w5 ⟨rfl, hr5, hg5⟩; rw [HE.out] at hr5; have HR5 := Aside0.mk hr5; have HG5 := Aside0.mk (grown_grown HG.out hg5); have HX5 := Aside0.mk (grown_box HX.out hg5 hne); clear hr5 hg5 hcz0 hcz1 hfz0 hfz1)
   go_roundw
   case rel => exact ⟨i + 1, b, b + 20, rfl, by go_num, ⟨by have := HI.out; omega⟩, hlt, HR5, HG5, HX5⟩
   case measure => simp [intOf]; have := HI.out; omega
  ·have hlt' : ¬ (b : Int) ≤ n := by omega
   have hdiv : n / 20 = i := by have := HI.out; omega
   have hC := insertF_part E HO.out a n (n - a) (sp E.key 20 i xs) (xs.drop (20 * i)) wr HA.out (by rw [sp_len E.key 20 i xs (by have := HI.out; have := HXL.out; omega)]; exact HI.out.1) (by omega) (by rw [List.length_drop]; have := HI.out; have := HXL.out; omega)
   have HE := Aside0.mk (show sp E.key 20 i xs ++ (isort E.key ((xs.drop (20 * i)).take (n - a)) ++ (xs.drop (20 * i)).drop (n - a)) = sc E.key 20 xs from by
    unfold sc
    rw [← HXL.out, hdiv, List.take_of_length_le (by rw [List.length_drop]; have := HI.out; have := HXL.out; omega), show (xs.drop (20 * i)).drop (n - a) = [] from List.drop_eq_nil_of_le (by rw [List.length_drop]; have := HI.out; have := HXL.out; omega), List.append_nil])
   have HC := Aside0.mk hC
   clear HA hC hdiv
   have hcz0 : wr.cell? ⟨gb, 0, none⟩ = some (.func (.func 86) #[] E.lb) := (blk_cell HX.out 0).trans rfl
   have hcz1 : wr.cell? ⟨gb, 1, none⟩ = some (.func (.func E.sf) #[] E.sb) := (blk_cell HX.out 1).trans rfl
   have hfz0 := blk_frozen HX.out 0
   have hfz1 := blk_frozen HX.out 1
   go_wp2_with (go_at_call 131; refine HC.out.mono ?_; rintro e w5 ⟨rfl, hr5, hg5⟩; rw [HE.out] at hr5; have HR5 := Aside0.mk hr5; have HG5 := Aside0.mk (grown_grown HG.out hg5); have HX5 := Aside0.mk (grown_box HX.out hg5 hne); clear hr5 hg5 hcz0 hcz1 hfz0 hfz1)
   clear HC HE HG HX HI hlt hlt' han
   go_loopw [4, 5, 6, 7] (fun v4 v5 v6 v7 wr => ∃ bs : Nat, v4 = .int .i64 (bs : Int) ∧ 20 ≤ bs ∧ bs ≤ 200000000000 ∧ Aside0 (E.RW wr (sc E.key bs xs)) ∧ Aside0 (w.grownBy wr (some E.g)) ∧ Aside0 (wr.heap[gb]? = some (.cells #[.func (.func 86) #[] E.lb, .func (.func E.sf) #[] E.sb] 165 (0, 0)))) (fun v4 _ _ _ _ => n - (intOf v4).toNat)
   case atStart => exact ⟨20, rfl, by omega, by omega, HR5, HG5, HX5⟩
   case round =>
    clear HR5 HG5 HX5
    obtain ⟨bs, rfl, hb20, hbM, HA, HG, HX⟩ := hrel
    by_cases hbn : bs < n
    ·have hbn' : (bs : Int) < n := by omega
     go_wp2
     obtain ⟨wo, hwo⟩ : ∃ wo : World, wo = wr := ⟨_, rfl⟩
     subst hwo
     go_loopw [5, 6] (fun v5 v6 wr => ∃ (i a b : Nat), v5 = .int .i64 (a : Int) ∧ v6 = .int .i64 (b : Int) ∧ Aside0 (a = 2 * bs * i ∧ b = 2 * bs * i + 2 * bs) ∧ a ≤ n ∧ b ≤ n + 2 * bs ∧ Aside0 (E.RW wr (sp E.key (2 * bs) i xs ++ sc E.key bs (xs.drop (2 * bs * i)))) ∧ Aside0 (w.grownBy wr (some E.g)) ∧ Aside0 (wr.heap[gb]? = some (.cells #[.func (.func 86) #[] E.lb, .func (.func E.sf) #[] E.sb] 165 (0, 0)))) (fun v5 _ _ => n - (intOf v5).toNat)
     case atStart => exact ⟨0, 0, 2 * bs, rfl, by go_num, ⟨by omega⟩, Nat.zero_le _, by omega, ⟨by simpa [sp] using HA.out⟩, HG, HX⟩
     case round =>
      clear HA HG HX
      obtain ⟨i, a, b, rfl, rfl, HI, han, hbb, HA, HG, HX⟩ := hrel
      have hspl : (sp E.key (2 * bs) i xs).length = a := by rw [sp_len E.key (2 * bs) i xs (by have := HI.out; have := HXL.out; omega)]; exact HI.out.1.symm
      by_cases hlt : b ≤ n
      ·have hlt' : (b : Int) ≤ n := by omega
       have hll : 2 * bs ≤ (xs.drop (2 * bs * i)).length := by rw [List.length_drop]; have := HI.out; have := HXL.out; omega
       have h2 := sc_two E.key bs (xs.drop (2 * bs * i)) (by omega) hll
       have hAr := HA.out
       rw [h2] at hAr
       have l1 : (isort E.key ((xs.drop (2 * bs * i)).take bs)).length = bs := by rw [isort_len, List.length_take]; omega
       have l2 : (isort E.key (((xs.drop (2 * bs * i)).drop bs).take bs)).length = bs := by rw [isort_len, List.length_take, List.length_drop]; omega
       have HC := Aside0.mk (symMergeF_any E HO.out _ a (a + bs) b _ _ _ _ wr rfl hAr hspl.symm (by omega) (by have := HI.out; omega) (by omega) (by omega) (isort_sorted E.key _) (isort_sorted E.key _))
       have HE := Aside0.mk (show sp E.key (2 * bs) i xs ++ (mrg E.key (isort E.key ((xs.drop (2 * bs * i)).take bs)) (isort E.key (((xs.drop (2 * bs * i)).drop bs).take bs)) ++ sc E.key bs ((xs.drop (2 * bs * i)).drop (2 * bs))) = sp E.key (2 * bs) (i + 1) xs ++ sc E.key bs (xs.drop (2 * bs * (i + 1))) from by
        rw [← isort_append, ← take_two, sp_snoc, List.append_assoc, List.drop_drop, Nat.mul_succ])
       have e2 : IntKind.i64.wrap ((a : Int) + (bs : Int)) = ((a + bs : Nat) : Int) := by rw [IntKind.wrap_i64]; omega
       have e3 : IntKind.i64.wrap ((a + bs : Nat) : Int) = ((a + bs : Nat) : Int) := by rw [IntKind.wrap_i64]; omega
       clear HA hAr l1 l2 h2 hll hspl
       have hcz0 : wr.cell? ⟨gb, 0, none⟩ = some (.func (.func 86) #[] E.lb) := (blk_cell HX.out 0).trans rfl
       have hcz1 : wr.cell? ⟨gb, 1, none⟩ = some (.func (.func E.sf) #[] E.sb) := (blk_cell HX.out 1).trans rfl
       have hfz0 := blk_frozen HX.out 0
       have hfz1 := blk_frozen HX.out 1
       go_wp2_with (go_at_call 132; refine HC.out.mono ?_; rintro e w5 ⟨rfl, hr5, hg5⟩; rw [HE.out] at hr5; have HR5 := Aside0.mk hr5; have HG5 := Aside0.mk (grown_grown HG.out hg5); have HX5 := Aside0.mk (grown_box HX.out hg5 hne); clear hr5 hg5 hcz0 hcz1 hfz0 hfz1)
       go_roundw
       case rel => exact ⟨i + 1, b, b + 2 * bs, rfl, by first | go_num | exact int_i64 (by omega), ⟨by have := HI.out; rw [Nat.mul_succ]; omega⟩, hlt, by omega, HR5, HG5, HX5⟩
       case measure => simp [intOf]; have := HI.out; omega
      ·have hlt' : ¬ (b : Int) ≤ n := by omega
       have hll : (xs.drop (2 * bs * i)).length = n - a ∧ n - a < 2 * bs := by rw [List.length_drop]; have := HI.out; have := HXL.out; omega
       have hdiv : n / (2 * bs) = i := by
        have h1 := HI.out
        exact Nat.div_eq_of_lt_le (by rw [Nat.mul_comm]; omega) (by rw [Nat.mul_comm, Nat.mul_succ]; omega)
       have HSC := Aside0.mk (show sc E.key (2 * bs) xs = sp E.key (2 * bs) i xs ++ isort E.key (xs.drop (2 * bs * i)) from by unfold sc; rw [← HXL.out, hdiv])
       by_cases hm : a + bs < n
       ·have hm' : (a : Int) + (bs : Int) < n := by omega
        have hm2 : ((a + bs : Nat) : Int) < n := by omega
        have h2 := sc_part E.key bs (xs.drop (2 * bs * i)) (by omega) (by omega) (by omega)
        have hAr := HA.out
        rw [h2, ← List.append_nil (isort E.key ((xs.drop (2 * bs * i)).drop bs))] at hAr
        have l1 : (isort E.key ((xs.drop (2 * bs * i)).take bs)).length = bs := by rw [isort_len, List.length_take]; omega
        have l2 : (isort E.key ((xs.drop (2 * bs * i)).drop bs)).length = n - a - bs := by rw [isort_len, List.length_drop]; omega
        have HC := Aside0.mk (symMergeF_any E HO.out _ a (a + bs) n _ _ _ _ wr rfl hAr hspl.symm (by omega) (by omega) (by omega) (by omega) (isort_sorted E.key _) (isort_sorted E.key _))
        have HE := Aside0.mk (show sp E.key (2 * bs) i xs ++ (mrg E.key (isort E.key ((xs.drop (2 * bs * i)).take bs)) (isort E.key ((xs.drop (2 * bs * i)).drop bs)) ++ []) = sc E.key (2 * bs) xs from by
         rw [← isort_append, List.take_append_drop, List.append_nil, HSC.out])
        have e2 : IntKind.i64.wrap ((a : Int) + (bs : Int)) = ((a + bs : Nat) : Int) := by rw [IntKind.wrap_i64]; omega
        have e3 : IntKind.i64.wrap ((a + bs : Nat) : Int) = ((a + bs : Nat) : Int) := by rw [IntKind.wrap_i64]; omega
        clear HA hAr l1 l2 h2 hll hspl hdiv
        have hcz0 : wr.cell? ⟨gb, 0, none⟩ = some (.func (.func 86) #[] E.lb) := (blk_cell HX.out 0).trans rfl
        have hcz1 : wr.cell? ⟨gb, 1, none⟩ = some (.func (.func E.sf) #[] E.sb) := (blk_cell HX.out 1).trans rfl
        have hfz0 := blk_frozen HX.out 0
        have hfz1 := blk_frozen HX.out 1
        go_wp2_with (go_at_call 132; refine HC.out.mono ?_; rintro e w5 ⟨rfl, hr5, hg5⟩; rw [HE.out] at hr5; have HR5 := Aside0.mk hr5; have HG5 := Aside0.mk (grown_grown HG.out hg5); have HX5 := Aside0.mk (grown_box HX.out hg5 hne); clear hr5 hg5 hcz0 hcz1 hfz0 hfz1)
        go_roundw
        case rel => exact ⟨2 * bs, by first | go_num | exact int_i64 (by omega), by omega, by omega, HR5, HG5, HX5⟩
        case measure => simp [intOf]; omega
       ·have hm' : ¬ (a : Int) + (bs : Int) < n := by omega
        have hAr := HA.out
        rw [sc_small E.key bs (xs.drop (2 * bs * i)) (by omega) (by omega), ← HSC.out] at hAr
        have HR5 := Aside0.mk hAr
        clear HA hAr hll hspl hdiv
        go_wp2
        go_roundw
        case rel => exact ⟨2 * bs, by first | go_num | exact int_i64 (by omega), by omega, by omega, HR5, HG, HX⟩
        case measure => simp [intOf]; omega
    ·have hbn' : ¬ (bs : Int) < n := by omega
     have hfin := HA.out
     rw [sc_small E.key bs xs (by omega) (by have := HXL.out; omega)] at hfin
     have HF := Aside0.mk hfin
     clear hfin HA
     go_wp2
     go_end0
     exact ⟨rfl, HF.out, HG.out⟩
end Go.Proofs.Ytckhjehibjdjdaa.P
namespace Go.Proofs.Ytckhjehibjdjdaa.P
open Go.RowKit Go.Shelf Go.Proofs.YtckhjehibjdjdaaW.PrintWords Go.Proofs.YtckhjehibjdjdaaW.PrintLast Go.Proofs.YtckhjehibjdjdaaW.PrintMore
attribute [local go_sem] Oper.semAt_some
set_option linter.unusedVariables false
set_option linter.unusedSimpArgs false
end Go.Proofs.Ytckhjehibjdjdaa.P
namespace Go.Proofs.Ytckhjehibjdjdaa.P
open Go.RowKit Go.Shelf Go.Proofs.YtckhjehibjdjdaaW.PrintWords Go.Proofs.YtckhjehibjdjdaaW.PrintLast Go.Proofs.YtckhjehibjdjdaaW.PrintMore
open Go.Proofs.Ytckhjehibjdjdaa.Bits
attribute [local go_sem] Oper.semAt_some
set_option linter.unusedVariables false
set_option linter.unusedSimpArgs false
structure KP (w W : World) (S : Nat → Prop) : Prop where
 kept : Kept w W S
 os : W.os = w.os
 tape : W.tape = w.tape
 output : W.output = w.output
theorem KP.refl (w : World) (S : Nat → Prop) : KP w w S := ⟨Kept.refl _ _, rfl, rfl, rfl⟩
theorem KP.below {w W W' : World} {S : Nat → Prop} (h : KP w W S) (hb : Below W.heap.size W W') : KP w W' S := ⟨h.kept.below hb, hb.os.trans h.os, hb.tape.trans h.tape, hb.output.trans h.output⟩
theorem KP.set {w W : World} {S : Nat → Prop} (h : KP w W S) {g j : Nat} (hs : S g ∨ w.heap.size ≤ g) (u : Value) : KP w (W.setCell ⟨g, j, none⟩ u) S := ⟨h.kept.setCell hs u, h.os, h.tape, h.output⟩
theorem KP.drew {w W : World} {S : Nat → Prop} (h : KP w W S) : KP w W.drew S := ⟨h.kept.drew, h.os, h.tape, h.output⟩
def addU (same : Bool) (a : Int × Int) (s : S52) : Int × Int := if same = true then (wrap64 (a.1 + popI s.f1), wrap64 (a.2 + s.f2)) else a
def addL (same : Bool) (a : Int × Int) (l : List S52) : Int × Int := l.foldl (addU same) a
def maskOk (s : S52) : Bool := decide (0 ≤ s.f1) && decide (s.f1 < 18446744073709551616)
end Go.Proofs.Ytckhjehibjdjdaa.P
namespace Go.Proofs.Ytckhjehibjdjdaa.P
open Go.RowKit Go.Proofs.YtckhjehibjdjdaaW.PrintWords Go.Proofs.YtckhjehibjdjdaaW.PrintLast Go.Proofs.YtckhjehibjdjdaaW.PrintMore
attribute [local go_sem] max2_int min2_int max_two min_two max_three min_three max_four min_four
set_option linter.unusedVariables false
set_option linter.unusedSimpArgs false
end Go.Proofs.Ytckhjehibjdjdaa.P
namespace Go.Proofs.Ytckhjehibjdjdaa.P
open Go.RowKit Go.Proofs.YtckhjehibjdjdaaW.PrintWords Go.Proofs.YtckhjehibjdjdaaW.PrintLast Go.Proofs.YtckhjehibjdjdaaW.PrintMore
attribute [local go_sem] max2_int min2_int max_two min_two max_three min_three max_four min_four
set_option linter.unusedVariables false
set_option linter.unusedSimpArgs false
end Go.Proofs.Ytckhjehibjdjdaa.P
namespace Go.Proofs.Ytckhjehibjdjdaa.P
open Go.RowKit Go.Proofs.YtckhjehibjdjdaaW.PrintWords Go.Proofs.YtckhjehibjdjdaaW.PrintLast Go.Proofs.YtckhjehibjdjdaaW.PrintMore
attribute [local go_sem] max2_int min2_int max_two min_two max_three min_three max_four min_four
set_option linter.unusedVariables false
set_option linter.unusedSimpArgs false
def promise_Fits.T4 : Bool × List (List Nat × List Nat) := (true, [([], []), ([0], [0]), ([], []), ([2], [2]), ([1, 3], [1, 3]), ([4], [4]), ([5], [5]), ([6, 5], [5, 6]), ([5], [5]), ([8, 5], [5, 8]), ([7, 9, 5], [5, 7, 9]), ([5, 10], [5, 10]), ([11, 5], [11]), ([12], [12]), ([12], [12]), ([14, 12], [12, 14]), ([13, 15, 12, 12], [12, 13, 15]), ([12], [12]), ([17, 12], [12, 17]), ([16, 18, 12], [12, 16, 18]), ([12, 19], [12, 19]), ([20, 16, 0, 1, 2, 3, 4, 5, 6, 7, 8, 9, 10, 11, 12, 13, 14, 15, 16, 17, 18, 19, 20], [20])])
def promise_Fits.B4 : List Nat := [0, 1, 0, 4, 15, 31, 63, 127, 63, 319, 1023, 2047, 4095, 8191, 8191, 24575, 65535, 8191, 139263, 524287, 1048575, 2097151]
theorem promise_Fits.bits4 : waitsOk promise_Fits.T4.2 promise_Fits.B4 = true := by kernel_rfl
end Go.Proofs.Ytckhjehibjdjdaa.P
namespace Go.Proofs.Ytckhjehibjdjdaa.P
open Go.RowKit Go.Proofs.YtckhjehibjdjdaaW.PrintWords Go.Proofs.YtckhjehibjdjdaaW.PrintLast Go.Proofs.YtckhjehibjdjdaaW.PrintMore
attribute [local go_sem] max2_int min2_int max_two min_two max_three min_three max_four min_four
set_option linter.unusedVariables false
set_option linter.unusedSimpArgs false
end Go.Proofs.Ytckhjehibjdjdaa.P
namespace Go.Proofs.Ytckhjehibjdjdaa.P
open Go.RowKit Go.Proofs.YtckhjehibjdjdaaW.PrintWords
open Go.Proofs.Ytckhjehibjdjdaa.Bits Go.Proofs.Ytckhjehibjdjdaa.Mp
set_option linter.unusedVariables false
set_option linter.unusedSimpArgs false
theorem w_id {x : Int} (h : -9223372036854775808 ≤ x ∧ x ≤ 9223372036854775807) : wrap64 x = x := by unfold wrap64; omega
theorem rd51' (l : List S51) (i : Nat) (h : i < l.length) : rd_T51 l (i : Int) = l[i] := by
 simp [rd_T51, List.getD_eq_getElem?_getD, List.getElem?_eq_getElem h]
theorem rd52' (l : List S52) (i : Nat) (h : i < l.length) : rd_T52 l (i : Int) = l[i] := by
 simp [rd_T52, List.getD_eq_getElem?_getD, List.getElem?_eq_getElem h]
def freeOk (f : S51) : Bool := decide (0 ≤ f.f1) && decide (f.f1 < 18446744073709551616) && w64B f.f2
theorem eachI_nn {a b : Int} (ha : 0 ≤ a) (hb : 0 ≤ b) : 0 ≤ eachI a b := by
 unfold eachI; split
 ·omega
 ·exact Int.ediv_nonneg ha hb
theorem fitV_bd (g c mn mx m cp : Int) : 0 ≤ fitV g c mn mx m cp ∧ fitV g c mn mx m cp ≤ 16 := by
 unfold fitV
 split
 ·rename_i h
  have hg := h.1
  simp only [goodShape, Bool.and_eq_true, decide_eq_true_eq] at hg
  have h1 := eachI_nn (popI_bd m).1 (show 0 ≤ g by omega)
  have h2 := eachI_nn h.2 (show 0 ≤ c by omega)
  unfold fitN
  omega
 ·omega
def roomS (g c mn mx : Int) (view : List S51) : Int := (view.map fun f => fitV g c mn mx f.f1 f.f2).sum
theorem roomS_bd (g c mn mx : Int) : ∀ view : List S51, 0 ≤ roomS g c mn mx view ∧ roomS g c mn mx view ≤ 16 * view.length
 | [] => by simp [roomS]
 | f :: l => by
  have := roomS_bd g c mn mx l
  have hb := fitV_bd g c mn mx f.f1 f.f2
  simp only [roomS, List.map_cons, List.sum_cons, List.length_cons] at *
  omega
theorem room_l (g c mn mx : Int) (n : Nat) : ∀ (k : Nat) (view : List S51) (s : Int) (i : Nat), view.length ≤ 4398046511104 → (∀ f ∈ view, freeOk f = true) → i ≤ view.length → view.length - i = n → n + 1 ≤ k → 0 ≤ s → s ≤ 16 * i →
  pack_Room.l0 k s view (view.length : Int) (i : Int) g c mn mx = some (s + roomS g c mn mx (view.drop i)) := by
 induction n with
 | zero =>
  intro k view s i hl hv hi hn hk h0 hs
  obtain ⟨k, rfl⟩ : ∃ m, k = m + 1 := ⟨k - 1, by omega⟩
  rw [pack_Room.l0, if_neg (by omega), List.drop_eq_nil_of_le (by omega)]
  simp [roomS]
 | succ n ih =>
  intro k view s i hl hv hi hn hk h0 hs
  obtain ⟨k, rfl⟩ : ∃ m, k = m + 1 := ⟨k - 1, by omega⟩
  have hil : i < view.length := by omega
  have hf := hv _ (List.getElem_mem hil)
  simp only [freeOk, w64B, Bool.and_eq_true, decide_eq_true_eq] at hf
  have hb := fitV_bd g c mn mx (view[i]).f1 (view[i]).f2
  have e1 : (i : Int) + 1 = ((i + 1 : Nat) : Int) := by omega
  have hfit : shape_Fits.f g c mn mx (view[i]).f0.f0 (view[i]).f0.f1 (view[i]).f1 (view[i]).f2 = some (fitV g c mn mx (view[i]).f1 (view[i]).f2) := by
   unfold shape_Fits.f; rw [if_pos ⟨hf.1.1, hf.1.2, hf.2.2⟩]
  rw [pack_Room.l0, if_pos (by omega), if_pos (by omega), if_pos (by omega), rd51' view i hil, hfit, Option.bind_some, w_id (by omega), w_id (by omega), e1,
   ih k view _ (i + 1) hl hv (by omega) (by omega) (by omega) (by omega) (by omega), List.drop_eq_getElem_cons hil]
  simp only [roomS, List.map_cons, List.sum_cons]
  congr 1
  omega
theorem room_eq (k : Nat) (view : List S51) (g c mn mx : Int) (hk : view.length + 1 ≤ k) (hl : view.length ≤ 4398046511104) (hv : ∀ f ∈ view, freeOk f = true) :
  pack_Room.f k view g c mn mx = some (roomS g c mn mx view) := by
 have := room_l g c mn mx view.length k view 0 0 hl hv (by omega) (by omega) hk (by omega) (by omega)
 rw [List.drop_zero] at this
 unfold pack_Room.f
 rw [show ((0 : Nat) : Int) = 0 from rfl] at this
 rw [this]; simp
def rightB (m g c mn mx : Int) : Bool := goodShape g c mn mx && decide (1 ≤ m) && decide (m ≤ 16)
def fitsB (view : List S51) (lg lc m g c mn mx : Int) : Bool := rightB m g c mn mx && decide (g * m ≤ lg) && decide (c * m ≤ lc) && decide (m ≤ roomS g c mn mx view)
def goE (q m g c mn mx : Int) : List S41 → Int → List S51 → Int × Int → Int
 | [], t, view, left => if fitsB view left.1 left.2 m g c mn mx = true then t else 1073741825
 | h :: l, t, view, left =>
  if h.f2 > t then
   if fitsB view left.1 left.2 m g c mn mx = true then t
   else if h.f2 ≥ 1073741825 then 1073741825
   else goE q m g c mn mx l h.f2 (turned51 moreE moreF view h.f4).1 (addL (decide (h.f1 = q)) left h.f4)
  else goE q m g c mn mx l t (turned51 moreE moreF view h.f4).1 (addL (decide (h.f1 = q)) left h.f4)
def skey41 (h : S41) : Int := h.f2
def earliestB (now : Int) (view : List S51) (lg lc : Int) (ends : List S41) (q m g c mn mx : Int) : Int × Int :=
 if now < 0 ∨ now > 1073741824 ∨ rightB m g c mn mx = false then (0, 1)
 else if (turned51 moreE moreF view (ends.flatMap fun h => h.f4)).2 ≠ 0 then (0, (turned51 moreE moreF view (ends.flatMap fun h => h.f4)).2)
 else (goE q m g c mn mx (isort skey41 ends) now view (lg, lc), 0)
def okE (view : List S51) (ends : List S41) : Bool := decide (ends.length ≤ 1000) && spotsOk view (ends.flatMap fun h => h.f4) && view.all freeOk && (ends.flatMap fun h => h.f4).all maskOk && decide ((ends.flatMap fun h => h.f4).length < 4000000000)
def promise_Earliest.f (now : Int) (view : List S51) (lg lc : Int) (ends : List S41) (q m g c mn mx : Int) : Option (Int × Int) := if okE view ends = true then some (earliestB now view lg lc ends q m g c mn mx) else none
theorem or_u64 {a b : Int} (ha : 0 ≤ a ∧ a < 18446744073709551616) (hb : 0 ≤ b ∧ b < 18446744073709551616) : 0 ≤ Go.bits .or .u64 a b ∧ Go.bits .or .u64 a b < 18446744073709551616 := by
 obtain ⟨x, rfl⟩ := Int.eq_ofNat_of_zero_le ha.1
 obtain ⟨y, rfl⟩ := Int.eq_ofNat_of_zero_le hb.1
 rw [bits_or_u64_nat x y (by omega) (by omega)]
 have := Nat.or_lt_two_pow (x := x) (y := y) (n := 64) (by omega) (by omega)
 omega
theorem w64_wrap (x : Int) : w64B (wrap64 x) = true := by unfold w64B wrap64; simp; omega
def viewOk (view : List S51) : Prop := view.length < 4398046511104 ∧ (∀ f ∈ view, freeOk f = true) ∧ ∀ f ∈ view, (w64B f.f0.f0 && w64B f.f0.f1) = true
theorem moreF_ok {f : S51} {s : S52} (hf : freeOk f = true) (hs : maskOk s = true) : freeOk (moreF f s) = true := by
 simp only [freeOk, maskOk, Bool.and_eq_true, decide_eq_true_eq] at *
 have := or_u64 hf.1 hs
 exact ⟨this, w64_wrap _⟩
end Go.Proofs.Ytckhjehibjdjdaa.P
namespace Go.Proofs.Ytckhjehibjdjdaa.P
open Go.RowKit Go.Shelf Go.Proofs.YtckhjehibjdjdaaW.PrintWords Go.Proofs.YtckhjehibjdjdaaW.PrintLast Go.Proofs.YtckhjehibjdjdaaW.PrintMore
attribute [local go_sem] Oper.semAt_some
set_option linter.unusedVariables false
set_option linter.unusedSimpArgs false
def enc51 (x : S51) : List Value := [.int .i64 x.f0.f0, .int .i64 x.f0.f1, .int .u64 x.f1, .int .i64 x.f2]
theorem row51 {W : World} {base g n cap i : Nat} {ok : Nat → Prop} {xs : List S51} {x : S51} (h : Kd.R k51 51 W base ok (.slice (some ⟨g, 0, none⟩) n cap) xs) (hx : xs[i]? = some x) :
  W.cell? ⟨g, i * 4, none⟩ = some (.int .i64 x.f0.f0) ∧ W.cell? ⟨g, i * 4 + 1, none⟩ = some (.int .i64 x.f0.f1) ∧ W.cell? ⟨g, i * 4 + 2, none⟩ = some (.int .u64 x.f1) ∧ W.cell? ⟨g, i * 4 + 3, none⟩ = some (.int .i64 x.f2) := by
 obtain ⟨hn, _, hC⟩ := Kd.R_reads' h
 have hi : i < xs.length := (List.getElem?_eq_some_iff.1 hx).1
 obtain ⟨ad, e0, hc⟩ := hC.2.2 (by omega)
 cases e0
 obtain ⟨c, hl, hK, hcell⟩ := hc i x hx
 obtain rfl := k51_open hK
 have hsz : k51.sz = 4 := rfl
 rw [hsz] at hcell
 simp only [add_plain, Nat.zero_add] at hcell
 exact ⟨hcell 0 _ rfl, hcell 1 _ rfl, hcell 2 _ rfl, hcell 3 _ rfl⟩
theorem put51 {W : World} {base g n cap : Nat} {ok : Nat → Prop} {xs : List S51} (h : Kd.R k51 51 W base ok (.slice (some ⟨g, 0, none⟩) n cap) xs) (i : Nat) (hi : i < n) (x : S51) :
  Kd.R k51 51 (W.setCells g (i * 4) (enc51 x)) base ok (.slice (some ⟨g, 0, none⟩) n cap) (xs.set i x) ∧ W.grownBy (W.setCells g (i * 4) (enc51 x)) (some g) := by
 obtain ⟨hn, _, hC⟩ := Kd.R_reads' h
 have hsz : k51.sz = 4 := rfl
 obtain ⟨c0, c1, c2, c3⟩ := row51 h (List.getElem?_eq_getElem (show i < xs.length by omega))
 have := Kd.R_seg h (i : Int) (by omega) (by omega) (c := enc51 xs[i]) (seg := enc51 x) (j := 0) rfl (by
  intro j u hu
  rw [Int.toNat_natCast, hsz]
  match j, hu with
  | 0, hu => cases hu; exact c0
  | 1, hu => cases hu; exact c1
  | 2, hu => cases hu; exact c2
  | 3, hu => cases hu; exact c3
  | j + 4, hu => simp [enc51] at hu) (by rw [hsz]; simp [enc51]) (x' := x) (okp := fun _ => False) (by
   have := k51_mkM W base (fun _ => False) x
   simpa [enc51] using this) (fun _ h => h.elim)
 rw [Int.toNat_natCast, hsz, Nat.add_zero] at this
 exact this
def T86 : Bool × List (List Nat × List Nat) := (true, [([], []), ([], []), ([], []), ([1, 2], [1, 2]), ([3], [3]), ([0, 4], [0, 4]), ([], []), ([], []), ([], []), ([7, 8], [7, 8]), ([9], [9]), ([6, 10, 5], [6, 10]), ([5, 11, 11], [5, 11]), ([12], [12]), ([13, 12, 0, 1, 2, 3, 4, 5, 6, 7, 8, 9, 10, 11, 12, 13], [13])])
def B86 : List Nat := [0, 0, 0, 6, 14, 31, 0, 0, 0, 384, 896, 2047, 4095, 8191, 16383]
theorem tab86 : rtab .any (opsOf Try.f86 1) = T86 := by kernel_rfl
theorem bits86 : waitsOk T86.2 B86 = true := by kernel_rfl
set_option maxHeartbeats 8000000 in
set_option maxRecDepth 100000 in
theorem lessPlace (base : Nat) (ok : Nat → Prop) (g gs gl n c i j : Nat) (s0_ s1_ s2_ s3_ : Int) (xs : List S51) (x y : S51) (W : World) (hgs : W.heap[gs]? = some (.cells #[.int .i64 s0_, .int .i64 s1_, .int .i64 s2_, .int .i64 s3_] 27 (0, 0))) (hgl : W.heap[gl]? = some (.cells #[.slice (some ⟨g, 0, none⟩) n c] 22 (0, 0)))
  (hrw : Kd.R k51 51 W base ok (.slice (some ⟨g, 0, none⟩) n c) xs) (hx : xs[i]? = some x) (hy : xs[j]? = some y) (hn : n ≤ 1000000) (fx : freeOk x = true) (fy : freeOk y = true) :
  Calls Try.prog 86 #[.int .i64 i, .int .i64 j, .pointer (some ⟨gs, 0, none⟩), .pointer (some ⟨gl, 0, none⟩)] W fun e w' => e = .returned (.bool (decide (fitV s0_ s1_ s2_ s3_ x.f1 x.f2 > fitV s0_ s1_ s2_ s3_ y.f1 y.f2))) ∧ Below W.heap.size W w' := by
 have hu27 := Try.underlying27
 have hu22 := Try.underlying22
 have hu51 := Try.underlying51
 have hl := (Kd.R_reads' hrw).1
 have hib : i < xs.length := (List.getElem?_eq_some_iff.1 hx).1
 have hjb : j < xs.length := (List.getElem?_eq_some_iff.1 hy).1
 have i0 : (i : Int) < n := by omega
 have j0 : (j : Int) < n := by omega
 have fx' : 0 ≤ x.f1 ∧ x.f1 < 18446744073709551616 ∧ x.f2 ≤ 9223372036854775807 := by simp only [freeOk, w64B, Bool.and_eq_true, decide_eq_true_eq] at fx; omega
 have fy' : 0 ≤ y.f1 ∧ y.f1 < 18446744073709551616 ∧ y.f2 ≤ 9223372036854775807 := by simp only [freeOk, w64B, Bool.and_eq_true, decide_eq_true_eq] at fy; omega
 have HFX := Aside0.mk (show shape_Fits.f s0_ s1_ s2_ s3_ x.f0.f0 x.f0.f1 x.f1 x.f2 = some (fitV s0_ s1_ s2_ s3_ x.f1 x.f2) from if_pos fx')
 have HFY := Aside0.mk (show shape_Fits.f s0_ s1_ s2_ s3_ y.f0.f0 y.f0.f1 y.f1 y.f2 = some (fitV s0_ s1_ s2_ s3_ y.f1 y.f2) from if_pos fy')
 have HGS := Aside0.mk (show W.drew.heap[gs]? = _ from hgs)
 have HGL := Aside0.mk (show W.drew.heap[gl]? = _ from hgl)
 have HRW := Aside0.mk (Kd.R_drew hrw)
 have HX := Aside0.mk hx
 have HY := Aside0.mk hy
 have HB := Aside0.mk (below_drew1 (Below.refl W.heap.size W))
 have HT_ := Aside0.mk tab86
 have HW_ := Aside0.mk bits86
 clear hgs hgl hrw hx hy fx fy fx' fy' hib hjb hl
 go_enter Try.func86, Try.ntmps86
 go_wp2
 refine start_ (n := 15) (S := fun w' => w'.cell? ⟨gs, 0, none⟩ = some (.int .i64 s0_) ∧ w'.cell? ⟨gs, 1, none⟩ = some (.int .i64 s1_) ∧ w'.cell? ⟨gs, 2, none⟩ = some (.int .i64 s2_) ∧ w'.cell? ⟨gs, 3, none⟩ = some (.int .i64 s3_) ∧ w'.cell? ⟨gl, 0, none⟩ = some (.slice (some ⟨g, 0, none⟩) n c) ∧ w'.cell? ⟨g, i * 4, none⟩ = some (.int .i64 x.f0.f0) ∧ w'.cell? ⟨g, i * 4 + 1, none⟩ = some (.int .i64 x.f0.f1) ∧ w'.cell? ⟨g, i * 4 + 2, none⟩ = some (.int .u64 x.f1) ∧ w'.cell? ⟨g, i * 4 + 3, none⟩ = some (.int .i64 x.f2) ∧ w'.cell? ⟨g, j * 4, none⟩ = some (.int .i64 y.f0.f0) ∧ w'.cell? ⟨g, j * 4 + 1, none⟩ = some (.int .i64 y.f0.f1) ∧ w'.cell? ⟨g, j * 4 + 2, none⟩ = some (.int .u64 y.f1) ∧ w'.cell? ⟨g, j * 4 + 3, none⟩ = some (.int .i64 y.f2)) (ds := []) (bm 15 0) (by kernel_rfl) rfl rfl ⟨(blk_cell HGS.out 0).trans rfl, (blk_cell HGS.out 1).trans rfl, (blk_cell HGS.out 2).trans rfl, (blk_cell HGS.out 3).trans rfl, (blk_cell HGL.out 0).trans rfl, (row51 HRW.out HX.out).1, (row51 HRW.out HX.out).2.1, (row51 HRW.out HX.out).2.2.1, (row51 HRW.out HX.out).2.2.2, (row51 HRW.out HY.out).1, (row51 HRW.out HY.out).2.1, (row51 HRW.out HY.out).2.2.1, (row51 HRW.out HY.out).2.2.2⟩ (fun hHeld => ?_)
 generalize W.drew = w0 at HGS HGL HRW HB hHeld ⊢
 refine tk13 0 (some 7) (bm 15 1) ?_
 refine tk13 1 (some 8) (bm 15 3) ?_
 refine pu 2 (some 9) (bm 15 7) ?_
 refine pu 3 (some 10) (bm 15 15) ?_
 refine tk13 4 (some 11) (bm 15 31) ?_
 refine tk13 6 (some 13) (bm 15 95) ?_
 refine tk13 7 (some 14) (bm 15 223) ?_
 refine pu 8 (some 15) (bm 15 479) ?_
 refine pu 9 (some 16) (bm 15 991) ?_
 refine tk13 10 (some 17) (bm 15 2015) ?_
 refine one_ (i := 5) (N := some 12) (bm 15 2047) rfl rfl (one_of HT_.out (by kernel_rfl)) (by decide) (fun K hK => ?_)
 refine goes_ Try.func87 (by kernel_rfl) rfl #[.agg #[.int .i64 s0_, .int .i64 s1_, .int .i64 s2_, .int .i64 s3_], .agg #[.int .i64 x.f0.f0, .int .i64 x.f0.f1, .int .u64 x.f1, .int .i64 x.f2]] (by rfl) rfl rfl (by first | done | rfl | (simp only [List.map_toArray, List.map_cons, List.map_nil]; rfl)) ?_
 refine (shape_Fits.calls s0_ s1_ s2_ s3_ x.f0.f0 x.f0.f1 x.f1 x.f2 _ _ HFX.out).mono ?_
 rintro e w1 ⟨rfl, hb⟩
 refine ⟨_, rfl, ?_⟩
 replace HGS := Aside0.mk (blk_below HGS.out hb)
 replace HGL := Aside0.mk (blk_below HGL.out hb)
 replace HRW := Aside0.mk (Kd.R_below HRW.out hb)
 replace HB := Aside0.mk (below_step HB.out hb)
 clear hb
 refine hK.out _ _ ⟨(blk_cell HGS.out 0).trans rfl, (blk_cell HGS.out 1).trans rfl, (blk_cell HGS.out 2).trans rfl, (blk_cell HGS.out 3).trans rfl, (blk_cell HGL.out 0).trans rfl, (row51 HRW.out HX.out).1, (row51 HRW.out HX.out).2.1, (row51 HRW.out HX.out).2.2.1, (row51 HRW.out HX.out).2.2.2, (row51 HRW.out HY.out).1, (row51 HRW.out HY.out).2.1, (row51 HRW.out HY.out).2.2.1, (row51 HRW.out HY.out).2.2.2⟩ (fun hHeld => ?_)
 clear hK K
 refine norm_ (a' := ?_) ?_ ?_
 rotate_left
 ·show Act.put _ (some 12) _ = _
  simp only [Act.put, List.setIfInBounds_toArray, List.set_cons_zero, List.set_cons_succ, i64_w, i32_w]
  rfl
 refine one_ (i := 11) (N := some 18) (bm 15 4095) rfl rfl (one_of HT_.out (by kernel_rfl)) (by decide) (fun K hK => ?_)
 refine goes_ Try.func87 (by kernel_rfl) rfl #[.agg #[.int .i64 s0_, .int .i64 s1_, .int .i64 s2_, .int .i64 s3_], .agg #[.int .i64 y.f0.f0, .int .i64 y.f0.f1, .int .u64 y.f1, .int .i64 y.f2]] (by rfl) rfl rfl (by first | done | rfl | (simp only [List.map_toArray, List.map_cons, List.map_nil]; rfl)) ?_
 refine (shape_Fits.calls s0_ s1_ s2_ s3_ y.f0.f0 y.f0.f1 y.f1 y.f2 _ _ HFY.out).mono ?_
 rintro e w2 ⟨rfl, hb⟩
 refine ⟨_, rfl, ?_⟩
 replace HGS := Aside0.mk (blk_below HGS.out hb)
 replace HGL := Aside0.mk (blk_below HGL.out hb)
 replace HRW := Aside0.mk (Kd.R_below HRW.out hb)
 replace HB := Aside0.mk (below_step HB.out hb)
 clear hb
 refine hK.out _ _ ⟨(blk_cell HGS.out 0).trans rfl, (blk_cell HGS.out 1).trans rfl, (blk_cell HGS.out 2).trans rfl, (blk_cell HGS.out 3).trans rfl, (blk_cell HGL.out 0).trans rfl, (row51 HRW.out HX.out).1, (row51 HRW.out HX.out).2.1, (row51 HRW.out HX.out).2.2.1, (row51 HRW.out HX.out).2.2.2, (row51 HRW.out HY.out).1, (row51 HRW.out HY.out).2.1, (row51 HRW.out HY.out).2.2.1, (row51 HRW.out HY.out).2.2.2⟩ (fun hHeld => ?_)
 clear hK K
 refine norm_ (a' := ?_) ?_ ?_
 rotate_left
 ·show Act.put _ (some 18) _ = _
  simp only [Act.put, List.setIfInBounds_toArray, List.set_cons_zero, List.set_cons_succ, i64_w, i32_w]
  rfl
 refine one_ (i := 12) (N := some 19) (bm 15 8191) rfl rfl (one_of HT_.out (by kernel_rfl)) (by decide) (fun K hK => ?_)
 refine goes_ Try.func73 (by kernel_rfl) rfl #[.int .i64 (fitV s0_ s1_ s2_ s3_ x.f1 x.f2), .int .i64 (fitV s0_ s1_ s2_ s3_ y.f1 y.f2)] (by rfl) rfl rfl (by first | done | rfl | (simp only [List.map_toArray, List.map_cons, List.map_nil]; rfl)) ?_
 refine (cmp_any _ _ _).mono ?_
 rintro e w9 ⟨rfl, rfl⟩
 refine ⟨_, rfl, ?_⟩
 refine hK.out _ _ ⟨(blk_cell HGS.out 0).trans rfl, (blk_cell HGS.out 1).trans rfl, (blk_cell HGS.out 2).trans rfl, (blk_cell HGS.out 3).trans rfl, (blk_cell HGL.out 0).trans rfl, (row51 HRW.out HX.out).1, (row51 HRW.out HX.out).2.1, (row51 HRW.out HX.out).2.2.1, (row51 HRW.out HX.out).2.2.2, (row51 HRW.out HY.out).1, (row51 HRW.out HY.out).2.1, (row51 HRW.out HY.out).2.2.1, (row51 HRW.out HY.out).2.2.2⟩ (fun hHeld => ?_)
 clear hK K
 refine norm_ (a' := ?_) ?_ ?_
 rotate_left
 ·show Act.put _ (some 19) _ = _
  simp only [Act.put, List.setIfInBounds_toArray, List.set_cons_zero, List.set_cons_succ, i64_w, i32_w]
  rfl
 refine pu 13 (some 20) (bm 15 16383) ?_
 refine pu 14 (some 6) (bm 15 32767) ?_
 refine done_ (done_of HT_.out (by kernel_rfl)) ?_
 go_wp2
 go_ret
 refine ⟨?_, HB.out⟩
 generalize fitV s0_ s1_ s2_ s3_ x.f1 x.f2 = a
 generalize fitV s0_ s1_ s2_ s3_ y.f1 y.f2 = b
 have : decide (0 < cmpI a b) = decide (b < a) := by
  unfold cmpI
  by_cases h : a < b
  ·rw [if_pos h, decide_eq_false (by omega), decide_eq_false (by omega)]
  ·rw [if_neg h]
   by_cases h2 : a = b
   ·subst h2; simp
   ·split <;> simp <;> omega
 simp [this]
end Go.Proofs.Ytckhjehibjdjdaa.P
namespace Go.Proofs.Ytckhjehibjdjdaa.P
open Go.RowKit Go.Shelf Go.Lib Go.Proofs.YtckhjehibjdjdaaW.PrintWords Go.Proofs.YtckhjehibjdjdaaW.PrintLast Go.Proofs.YtckhjehibjdjdaaW.PrintMore
attribute [local go_sem] Oper.semAt_some
set_option linter.unusedVariables false
set_option linter.unusedSimpArgs false
noncomputable def freeT : TypeInfo := (Try.prog.info? 22).get (by kernel_rfl)
noncomputable def freeE : TypeInfo := (Try.prog.info? 51).get (by kernel_rfl)
theorem freeT_is : Try.prog.info? 22 = some freeT := by kernel_rfl
theorem freeE_is : Try.prog.info? 51 = some freeE := by kernel_rfl
theorem freeT_desc : freeT.desc = .slice 51 := by kernel_rfl
theorem freeE_size : freeE.size = 4 := by kernel_rfl
theorem free_swapper (n : Nat) (h2 : 2 ≤ n) : swapperK n freeE 25 = 9 := by
 have a : freeE.hasPointers = false := by kernel_rfl
 have b : freeE.bytes = 32 := by kernel_rfl
 have c : (n == 0) = false := by simp; omega
 have d : (n == 1) = false := by simp; omega
 simp [swapperK, a, b, c, d]
theorem swap_free (E : SE) (hsf : E.sf = 130) (hsb : E.sb = #[.slice (some ⟨E.g, 0, none⟩) E.n E.cap, typeHandle Try.prog 51]) (W : World) (xs : List S51) (i j : Nat) (x y : S51) (hr : E.RW W xs) (hx : xs[i]? = some x) (hy : xs[j]? = some y) :
  ∃ W', (callFunc E.sf (#[.int .i64 i, .int .i64 j] ++ E.sb)).run Try.prog W = .ok (.value (.tuple #[])) W' ∧ E.RW W' ((xs.set i y).set j x) ∧ W.grownBy W' (some E.g) := by
 have hl := hr.len
 have hi : i < xs.length := (List.getElem?_eq_some_iff.1 hx).1
 have hj : j < xs.length := (List.getElem?_eq_some_iff.1 hy).1
 have hx' := fun args W => run_callFunc_extern (P := Try.prog) Try.func130 (by kernel_rfl) (by kernel_rfl) (by kernel_rfl) (e := Extern.ReflectliteSwapper.swap false) (by kernel_rfl) args W
 obtain ⟨x0, x1, x2, x3⟩ := row51 hr.row hx
 obtain ⟨y0, y1, y2, y3⟩ := row51 hr.row hy
 obtain ⟨g', cap', cur, hv, _, _, hh⟩ := own51 hr.row (by omega)
 injection hv with ha _ _
 injection ha with ha
 injection ha with ha
 rw [← ha] at hh
 have hrun := run_swap_cells (P := Try.prog) false 51 freeE freeE_is (fun _ => by kernel_rfl) E.g 0 E.n E.cap i j (by omega) (by omega) (enc51 x) (enc51 y) freeE_size.symm freeE_size.symm (by intro v hv; simp [enc51] at hv; rcases hv with rfl | rfl | rfl | rfl <;> rfl) (by intro v hv; simp [enc51] at hv; rcases hv with rfl | rfl | rfl | rfl <;> rfl) W
  (by
   intro k v hk
   rw [freeE_size, Nat.zero_add]
   match k, hk with
   | 0, hk => cases hk; exact x0
   | 1, hk => cases hk; exact x1
   | 2, hk => cases hk; exact x2
   | 3, hk => cases hk; exact x3
   | k + 4, hk => simp [enc51] at hk)
  (by
   intro k v hk
   rw [freeE_size, Nat.zero_add]
   match k, hk with
   | 0, hk => cases hk; exact y0
   | 1, hk => cases hk; exact y1
   | 2, hk => cases hk; exact y2
   | 3, hk => cases hk; exact y3
   | k + 4, hk => simp [enc51] at hk)
  (fun k _ => blk_frozen hh _) (fun k _ => blk_frozen hh _)
 rw [freeE_size, Nat.zero_add, Nat.zero_add] at hrun
 have p1 := put51 hr.row i (by omega) y
 have p2 := put51 p1.1 j (by omega) x
 refine ⟨_, ?_, ⟨grown_grown hr.grown (grown_grown p1.2 p2.2), p2.1, fun f hf => ?_⟩, grown_grown p1.2 p2.2⟩
 ·rw [hsf, hsb, show (#[Value.int .i64 (i : Int), Value.int .i64 (j : Int)] ++ #[Value.slice (some ⟨E.g, 0, none⟩) E.n E.cap, typeHandle Try.prog 51]) = #[.int .i64 i, .int .i64 j, .slice (some ⟨E.g, 0, none⟩) E.n E.cap, typeHandle Try.prog 51] from rfl, hx', hrun]
  rfl
 ·rcases List.mem_or_eq_of_mem_set hf with hf | rfl
  ·rcases List.mem_or_eq_of_mem_set hf with hf | rfl
   ·exact hr.mem f hf
   ·exact hr.mem _ (List.mem_of_getElem? hy)
  ·exact hr.mem _ (List.mem_of_getElem? hx)
noncomputable def stableW (p : Option Addr) (n c : Nat) (w : World) : World :=
 (w.alloc (.cells #[.slice p n c] 22)).alloc (.cells #[.pointer (some ⟨Try.prog.globals.size, 22, none⟩), .pointer (some ⟨w.heap.size, 0, none⟩), .int .u64 151] 159)
theorem stableW_below (p : Option Addr) (n c : Nat) (w : World) : Below w.heap.size w (stableW p n c w) := below_alloc (below_alloc (Below.refl _ _) _) _
set_option maxHeartbeats 4000000 in
set_option maxRecDepth 100000 in
theorem sliceStable_of (p : Option Addr) (n c f : Nat) (hn : n < 4611686018427387904) (hf : Try.prog.funcs.findIdx? (·.name == "internal/reflectlite" ++ ".Swapper$" ++ toString (swapperK n freeE 25)) = some f) (lb B : Array Value) (hB : B = if swapperK n freeE 25 ≤ 2 then (#[] : Array Value) else #[.slice p n c, typeHandle Try.prog 51]) (w : World) (R : World → Prop)
  (hp : Calls Try.prog 110 #[.agg #[.func (.func 86) #[] lb, .func (.func f) #[] B], .int .i64 n] (stableW p n c w) fun e w' => e = .returned (.tuple #[]) ∧ R w') :
  Calls Try.prog 85 #[.iface 22 (.slice p n c), .func (.func 86) #[] lb] w fun e w' => e = .returned (.tuple #[]) ∧ R w' := by
 have hv := run_valueOf_slice (P := Try.prog) 22 51 freeT freeT_is freeT_desc p n c w
 have hs := fun w => run_swapper_slice (P := Try.prog) 22 51 freeT freeE freeT_is freeT_desc freeE_is 25 (fun _ => by kernel_rfl) p n c f hf w
 have hl := fun a w ha => run_valueLen_slice (P := Try.prog) 22 51 freeT freeT_is freeT_desc (by kernel_rfl) a p n c w ha
 rw [← hB] at hs
 unfold stableW at hp
 simp only [typeHandle] at hv hl
 have hg0 : Try.prog.globals.size = 0 := by kernel_rfl
 rw [hg0] at hv hp
 simp only [hg0] at hl
 have hu22 := Try.underlying22
 have hu159 := Try.underlying159
 have hu165 := Try.underlying165
 have HP := Aside0.mk hp
 clear hp hB hf
 go_enter Try.func85, Try.ntmps85
 go_wp2
 rw [run_callFunc_extern Try.func108 (by kernel_rfl) (by kernel_rfl) (by kernel_rfl) (e := fun args => Extern.ReflectliteValue.unpack (args.getD 0 (.tuple #[]))) (by kernel_rfl),
  show Sem.run Try.prog ((fun args : Array Value => Extern.ReflectliteValue.unpack (args.getD 0 (.tuple #[]))) #[.iface 22 (.slice p n c)]) w = _ from hv]
 simp only [Result.andThen]
 rw [Oper.upon_value]
 go_wp2
 rw [run_callFunc_extern Try.func109 (by kernel_rfl) (by kernel_rfl) (by kernel_rfl) (e := Extern.ReflectliteSwapper.swapper "internal/reflectlite" (Extern.ReflectliteValue.valueError "Swapper")) (by kernel_rfl), hs]
 simp only [Result.andThen]
 rw [Oper.upon_value]
 go_wp2
 rw [run_callFunc_extern Try.func111 (by kernel_rfl) (by kernel_rfl) (by kernel_rfl) (e := Extern.ReflectliteValue.method (Extern.ReflectliteValue.valueError "reflectlite.Value.Len" 0) Extern.ReflectliteValue.len) (by kernel_rfl),
  hl _ _ (by simp)]
 simp only [Result.andThen]
 rw [Oper.upon_value]
 go_wp2_with (go_at_call 110; refine HP.out.mono ?_; rintro e w' ⟨rfl, hR⟩)
 go_end0
 exact ⟨rfl, hR⟩
def fkey (s0 s1 s2 s3 : Int) (f : S51) : Int := - fitV s0 s1 s2 s3 f.f1 f.f2
theorem sortPlace (base : Nat) (ok : Nat → Prop) (g gs gl n c : Nat) (s0 s1 s2 s3 : Int) (xs : List S51) (w : World) (hgs : w.heap[gs]? = some (.cells #[.int .i64 s0, .int .i64 s1, .int .i64 s2, .int .i64 s3] 27 (0, 0))) (hgl : w.heap[gl]? = some (.cells #[.slice (some ⟨g, 0, none⟩) n c] 22 (0, 0)))
  (hrw : Kd.R k51 51 w base ok (.slice (some ⟨g, 0, none⟩) n c) xs) (h2 : 2 ≤ n) (hn : n ≤ 1000000) (hf : ∀ f ∈ xs, freeOk f = true) (hs : gs ≠ g) (hl : gl ≠ g) (hg : g < w.heap.size) :
  Calls Try.prog 85 #[.iface 22 (.slice (some ⟨g, 0, none⟩) n c), .func (.func 86) #[] #[.pointer (some ⟨gs, 0, none⟩), .pointer (some ⟨gl, 0, none⟩)]] w fun e w' => e = .returned (.tuple #[]) ∧ Kd.R k51 51 w' base ok (.slice (some ⟨g, 0, none⟩) n c) (isort (fkey s0 s1 s2 s3) xs) ∧ w.grownBy w' (some g) := by
 have hk := free_swapper n h2
 refine sliceStable_of (some ⟨g, 0, none⟩) n c 130 (by omega) (by rw [hk]; kernel_rfl) _ #[.slice (some ⟨g, 0, none⟩) n c, typeHandle Try.prog 51] (by rw [hk]; rfl) w _ ?_
 have hb := stableW_below (some ⟨g, 0, none⟩) n c w
 let E : SE := ⟨w, base, ok, g, n, c, fkey s0 s1 s2 s3, fun f => freeOk f = true, #[.pointer (some ⟨gs, 0, none⟩), .pointer (some ⟨gl, 0, none⟩)], 130, #[.slice (some ⟨g, 0, none⟩) n c, typeHandle Try.prog 51]⟩
 have O : E.Ok := by
  refine ⟨fun W xs' i j x y hr hx hy => ?_, fun W xs' i j x y hr hx hy => swap_free E rfl rfl W xs' i j x y hr hx hy, hg, hn⟩
  have h1 := lessPlace base ok g gs gl n c i j s0 s1 s2 s3 xs' x y W (grown_box hgs hr.grown hs) (grown_box hgl hr.grown hl) hr.row hx hy hn (hr.mem x (List.mem_of_getElem? hx)) (hr.mem y (List.mem_of_getElem? hy))
  refine h1.mono ?_
  rintro e w' ⟨rfl, hb⟩
  refine ⟨?_, hb⟩
  show _ = Ending.returned (.bool (decide (fkey s0 s1 s2 s3 x < fkey s0 s1 s2 s3 y)))
  unfold fkey
  generalize fitV s0 s1 s2 s3 x.f1 x.f2 = a
  generalize fitV s0 s1 s2 s3 y.f1 y.f2 = b
  have : decide (a > b) = decide (-a < -b) := by rw [Bool.eq_iff_iff]; simp only [decide_eq_true_eq]; omega
  rw [this]
 have hR0 : E.RW w xs := ⟨grown_refl _ _, hrw, hf⟩
 have hS := stableF E O xs _ (hR0.below hb)
 refine hS.mono ?_
 rintro e w' ⟨rfl, hr, hgr⟩
 exact ⟨rfl, hr.row, grown_grown (grown_of_below hb) hgr⟩
set_option maxHeartbeats 4000000 in
set_option maxRecDepth 100000 in
theorem stable_tiny (lb sb : Array Value) (f n : Nat) (hn : n ≤ 1) (w : World) :
  Calls Try.prog 110 #[.agg #[.func (.func 86) #[] lb, .func (.func f) #[] sb], .int .i64 n] w fun e w' => e = .returned (.tuple #[]) ∧ Below w.heap.size w w' := by
 have hu165 := Try.underlying165
 have HC := Aside0.mk (fun W => insertF_none ⟨w, 0, fun _ => True, 0, n, 0, fun _ => 0, fun _ => True, lb, f, sb⟩ 0 n (by omega) (by omega) W)
 go_enter Try.func110, Try.ntmps110
 go_wp2_with (first | ((with_reducible refine gate_dst (N := 2) rfl ?_); refine box_event ?hg (N := 2) ?hd (cs := #[.func (.func 86) #[] lb, .func (.func f) #[] sb]) (t := 165) ?hr ?_; (case hd => rfl); (case hg => rfl); (case hr => first | (go_simp; done) | (go_simp; rfl)); intro gb hgb wb hxb hbb; have HXB := Aside0.mk hxb; have HBB := Aside0.mk hbb; clear hgb hxb hbb))
 refine wp_loop_rounds 1 ?_
 rw [rounds_succ]
 have e1 : ¬ (20 : Int) ≤ (n : Int) := by omega
 have hcz0 : wb.cell? ⟨gb, 0, none⟩ = some (.func (.func 86) #[] lb) := (blk_cell HXB.out 0).trans rfl
 have hcz1 : wb.cell? ⟨gb, 1, none⟩ = some (.func (.func f) #[] sb) := (blk_cell HXB.out 1).trans rfl
 have hfz0 := blk_frozen HXB.out 0
 have hfz1 := blk_frozen HXB.out 1
 go_wp2_with (go_at_call 131; refine (HC.out _).mono ?_; rintro e w5 ⟨rfl, hb5⟩; have HB5 := Aside0.mk (below_step HBB.out hb5); clear hb5)
 refine wp_loop_rounds 1 ?_
 rw [rounds_succ]
 have e2 : ¬ (20 : Int) < (n : Int) := by omega
 go_wp2
 go_end0
 exact ⟨rfl, HB5.out⟩
theorem sortPlace_tiny (p : Option Addr) (n c : Nat) (hn : n ≤ 1) (lb : Array Value) (w : World) :
  Calls Try.prog 85 #[.iface 22 (.slice p n c), .func (.func 86) #[] lb] w fun e w' => e = .returned (.tuple #[]) ∧ Below w.heap.size w w' := by
 have hb := stableW_below p n c w
 have go : ∀ f : Nat, Try.prog.funcs.findIdx? (·.name == "internal/reflectlite" ++ ".Swapper$" ++ toString (swapperK n freeE 25)) = some f → Calls Try.prog 85 #[.iface 22 (.slice p n c), .func (.func 86) #[] lb] w fun e w' => e = .returned (.tuple #[]) ∧ Below w.heap.size w w' := fun f hf => by
  refine sliceStable_of p n c f (by omega) hf lb _ rfl w _ ?_
  exact (stable_tiny lb _ f n hn _).mono fun e w' ⟨he, h⟩ => ⟨he, below_step hb h⟩
 rcases Nat.le_one_iff_eq_zero_or_eq_one.1 hn with rfl | rfl
 ·exact go 122 (by kernel_rfl)
 ·exact go 123 (by kernel_rfl)
end Go.Proofs.Ytckhjehibjdjdaa.P
namespace Go.Proofs.Ytckhjehibjdjdaa.P
open Go.RowKit Go.Proofs.YtckhjehibjdjdaaW.PrintWords Go.Proofs.YtckhjehibjdjdaaW.PrintLast Go.Proofs.YtckhjehibjdjdaaW.PrintMore
attribute [local go_sem] max2_int min2_int max_two min_two max_three min_three max_four min_four
set_option linter.unusedVariables false
set_option linter.unusedSimpArgs false
def shape_Piece.f (a0_0 : Int) (a0_1 : Int) (a0_2 : Int) (a0_3 : Int) (a1_0 : Int) (a1_1 : Int) (a1_2 : Int) (a1_3 : Int) : Option (Int × Int × Int × Int × Int × Int × Int × Int × Int) := (shape_Check.f a0_0 a0_1 a0_2 a0_3).bind fun t896 => (if t896 = 0 then ((shape_Fits.f a0_0 a0_1 a0_2 a0_3 a1_0 a1_1 a1_2 a1_3).bind fun t897 => (if t897 = 0 then (some (0, 0, 0, 0, 0, 0, 0, 0, 7)) else ((mask_Lowest.f a1_2 a0_0).bind fun bt898 => (some (a1_0, a1_1, bt898.1, a0_1, a1_0, a1_1, Go.bits .andNot .u64 a1_2 bt898.1, wrap64 (a1_3 - a0_1), 0))))) else (some (0, 0, 0, 0, 0, 0, 0, 0, t896)))
def shape_Piece.T7 : Bool × List (List Nat × List Nat) := (true, [([], []), ([0], [0]), ([], []), ([], []), ([3], [3]), ([1, 2, 4], [1, 2, 4]), ([], []), ([6], [6]), ([], []), ([8], [8]), ([], []), ([9, 10], [9, 10]), ([], []), ([12], [12]), ([], []), ([14], [14]), ([13, 15], [13, 15]), ([7, 11, 16], [7, 11, 16]), ([5, 0, 1, 2, 3, 4, 5], [5]), ([17, 18, 0, 1, 2, 3, 4, 5, 6, 7, 8, 9, 10, 11, 12, 13, 14, 15, 16, 17, 18], [17]), ([19, 0, 1, 2, 3, 4, 5, 6, 7, 8, 9, 10, 11, 12, 13, 14, 15, 16, 17, 18, 19], [])])
def shape_Piece.B7 : List Nat := [0, 1, 0, 0, 8, 31, 0, 64, 0, 256, 0, 1792, 0, 4096, 0, 16384, 61440, 131008, 63, 524287, 1048575]
theorem shape_Piece.tab7 : rtab .any (opsOf Try.f88 7) = shape_Piece.T7 := by kernel_rfl
theorem shape_Piece.bits7 : waitsOk shape_Piece.T7.2 shape_Piece.B7 = true := by kernel_rfl
set_option maxHeartbeats 8000000 in
set_option maxRecDepth 100000 in
theorem shape_Piece.calls (a0_0 : Int) (a0_1 : Int) (a0_2 : Int) (a0_3 : Int) (a1_0 : Int) (a1_1 : Int) (a1_2 : Int) (a1_3 : Int) (r1 : Int) (r2 : Int) (r3 : Int) (r4 : Int) (r5 : Int) (r6 : Int) (r7 : Int) (r8 : Int) (r9 : Int) (w : World) (h : shape_Piece.f a0_0 a0_1 a0_2 a0_3 a1_0 a1_1 a1_2 a1_3 = some (r1, r2, r3, r4, r5, r6, r7, r8, r9)) :
  Calls Try.prog 88 #[.agg #[.int .i64 a0_0, .int .i64 a0_1, .int .i64 a0_2, .int .i64 a0_3], .agg #[.int .i64 a1_0, .int .i64 a1_1, .int .u64 a1_2, .int .i64 a1_3]] w fun e w' => e = .returned (.tuple #[.agg #[.int .i64 r1, .int .i64 r2, .int .u64 r3, .int .i64 r4], .agg #[.int .i64 r5, .int .i64 r6, .int .u64 r7, .int .i64 r8], .int .i64 r9]) ∧ Below w.heap.size w w' := by
 have hu27 := Try.underlying27
 have hu51 := Try.underlying51
 have hu52 := Try.underlying52
 have hu48 := Try.underlying48
 have HB := Aside0.mk (Below.refl w.heap.size w)
 have H : ((shape_Check.f a0_0 a0_1 a0_2 a0_3).bind fun t896 => (if t896 = 0 then ((shape_Fits.f a0_0 a0_1 a0_2 a0_3 a1_0 a1_1 a1_2 a1_3).bind fun t897 => (if t897 = 0 then (some (0, 0, 0, 0, 0, 0, 0, 0, 7)) else ((mask_Lowest.f a1_2 a0_0).bind fun bt898 => (some (a1_0, a1_1, bt898.1, a0_1, a1_0, a1_1, Go.bits .andNot .u64 a1_2 bt898.1, wrap64 (a1_3 - a0_1), 0))))) else (some (0, 0, 0, 0, 0, 0, 0, 0, t896)))) = some (r1, r2, r3, r4, r5, r6, r7, r8, r9) := h
 clear h
 replace H := Option.bind_eq_some_iff.mp H
 obtain ⟨t896, A30, H⟩ := H
 replace H : (if t896 = 0 then ((shape_Fits.f a0_0 a0_1 a0_2 a0_3 a1_0 a1_1 a1_2 a1_3).bind fun t897 => (if t897 = 0 then (some (0, 0, 0, 0, 0, 0, 0, 0, 7)) else ((mask_Lowest.f a1_2 a0_0).bind fun bt898 => (some (a1_0, a1_1, bt898.1, a0_1, a1_0, a1_1, Go.bits .andNot .u64 a1_2 bt898.1, wrap64 (a1_3 - a0_1), 0))))) else (some (0, 0, 0, 0, 0, 0, 0, 0, t896))) = some (r1, r2, r3, r4, r5, r6, r7, r8, r9) := H
 have A3 := Aside0.mk A30
 clear A30
 by_cases c4 : t896 = 0
 ·rw [if_pos c4] at H
  have c4b0 : (t896 == 0) = true := beq_iff_eq.mpr c4
  have c4b1 : (t896 != 0) = false := bne_eq_false_iff_eq.mpr c4
  clear c4
  replace H := Option.bind_eq_some_iff.mp H
  obtain ⟨t897, A50, H⟩ := H
  replace H : (if t897 = 0 then (some (0, 0, 0, 0, 0, 0, 0, 0, 7)) else ((mask_Lowest.f a1_2 a0_0).bind fun bt898 => (some (a1_0, a1_1, bt898.1, a0_1, a1_0, a1_1, Go.bits .andNot .u64 a1_2 bt898.1, wrap64 (a1_3 - a0_1), 0)))) = some (r1, r2, r3, r4, r5, r6, r7, r8, r9) := H
  have A5 := Aside0.mk A50
  clear A50
  by_cases c6 : t897 = 0
  ·rw [if_pos c6] at H
   have c6b0 : (t897 == 0) = true := beq_iff_eq.mpr c6
   have c6b1 : (t897 != 0) = false := bne_eq_false_iff_eq.mpr c6
   clear c6
   simp only [Option.some.injEq, Prod.mk.injEq] at H
   obtain ⟨rfl, rfl, rfl, rfl, rfl, rfl, rfl, rfl, rfl⟩ := H
   go_enter Try.func88, Try.ntmps88
   go_wp2_with (first | ((with_reducible refine gate_dst (N := 2) rfl ?_); refine bx 2 #[.int .i64 a0_0, .int .i64 a0_1, .int .i64 a0_2, .int .i64 a0_3] 27 ?_; intro gb892 hg w7 hbox hb; have BK892 := Aside0.mk (hbox); have GW892 := ge_ hg; have GE892 := ge_ hg; replace HB := hs_ hb; clear hb hbox hg) | ((with_reducible refine gate_dst (N := 3) rfl ?_); refine bx 3 #[.int .i64 a1_0, .int .i64 a1_1, .int .u64 a1_2, .int .i64 a1_3] 51 ?_; intro gb893 hg w8 hbox hb; have BK893 := Aside0.mk (hbox); have GW893 := ge_ hg; have GE893 := ge_ hg; have NB892_893 := nl_ BK892 hg; have NB893_892 := nr_ BK892 hg; replace BK892 := bk_ BK892 hb; replace HB := hs_ hb; clear hb hbox hg) | ((with_reducible refine gate_dst (N := 4) rfl ?_); refine bx 4 #[.int .i64 0, .int .i64 0, .int .u64 0, .int .i64 0] 52 ?_; intro gb894 hg w9 hbox hb; have BK894 := Aside0.mk (hbox); have GW894 := ge_ hg; have GE894 := ge_ hg; have NB892_894 := nl_ BK892 hg; have NB894_892 := nr_ BK892 hg; have NB893_894 := nl_ BK893 hg; have NB894_893 := nr_ BK893 hg; replace BK892 := bk_ BK892 hb; replace BK893 := bk_ BK893 hb; replace HB := hs_ hb; clear hb hbox hg) | ((with_reducible refine gate_dst (N := 5) rfl ?_); refine bx 5 #[.int .i64 0, .int .i64 0, .int .u64 0, .int .i64 0] 51 ?_; intro gb895 hg w10 hbox hb; have BK895 := Aside0.mk (hbox); have GW895 := ge_ hg; have GE895 := ge_ hg; have NB892_895 := nl_ BK892 hg; have NB895_892 := nr_ BK892 hg; have NB893_895 := nl_ BK893 hg; have NB895_893 := nr_ BK893 hg; have NB894_895 := nl_ BK894 hg; have NB895_894 := nr_ BK894 hg; replace BK892 := bk_ BK892 hb; replace BK893 := bk_ BK893 hb; replace BK894 := bk_ BK894 hb; replace HB := hs_ hb; clear hb hbox hg; have hnb11 := NB892_893.out; have hnc11 := NB893_892.out; have hnb12 := NB892_894.out; have hnc12 := NB894_892.out; have hnb13 := NB892_895.out; have hnc13 := NB895_892.out; obtain ⟨hcz14_0, hcz14_1, hcz14_2, hcz14_3, hfz14_0, hfz14_1, hfz14_2, hfz14_3⟩ := bz4_ BK892) | ((with_reducible refine gate_callee (f := 83) rfl ?_); refine goesL_ (some 11) rfl rfl Try.func83 (by kernel_rfl) rfl #[.agg #[.int .i64 a0_0, .int .i64 a0_1, .int .i64 a0_2, .int .i64 a0_3]] rfl Z0 ?_; (with_reducible refine (shape_Check.calls a0_0 a0_1 a0_2 a0_3 t896 _ A3.out).mono ?_); rintro e w15 ⟨rfl, hb⟩; refine ⟨_, rfl, ?_⟩; replace BK892 := bk_ BK892 hb; replace BK893 := bk_ BK893 hb; replace BK894 := bk_ BK894 hb; replace BK895 := bk_ BK895 hb; replace HB := hs_ hb; (try clear hb); (try clear hb2); (try clear hk); (try clear hi); obtain ⟨hcz16_0, hcz16_1, hcz16_2, hcz16_3, hfz16_0, hfz16_1, hfz16_2, hfz16_3⟩ := bz4_ BK892; have hnb17 := NB893_894.out; have hnc17 := NB894_893.out; have hnb18 := NB893_895.out; have hnc18 := NB895_893.out; obtain ⟨hcz19_0, hcz19_1, hcz19_2, hcz19_3, hfz19_0, hfz19_1, hfz19_2, hfz19_3⟩ := bz4_ BK893) | ((with_reducible refine gate_callee (f := 87) rfl ?_); refine goesL_ (some 19) rfl rfl Try.func87 (by kernel_rfl) rfl #[.agg #[.int .i64 a0_0, .int .i64 a0_1, .int .i64 a0_2, .int .i64 a0_3], .agg #[.int .i64 a1_0, .int .i64 a1_1, .int .u64 a1_2, .int .i64 a1_3]] rfl Z0 ?_; (with_reducible refine (shape_Fits.calls a0_0 a0_1 a0_2 a0_3 a1_0 a1_1 a1_2 a1_3 t897 _ A5.out).mono ?_); rintro e w20 ⟨rfl, hb⟩; refine ⟨_, rfl, ?_⟩; replace BK892 := bk_ BK892 hb; replace BK893 := bk_ BK893 hb; replace BK894 := bk_ BK894 hb; replace BK895 := bk_ BK895 hb; replace HB := hs_ hb; (try clear hb); (try clear hb2); (try clear hk); (try clear hi); have hnb21 := NB894_895.out; have hnc21 := NB895_894.out; obtain ⟨hcz22_0, hcz22_1, hcz22_2, hcz22_3, hfz22_0, hfz22_1, hfz22_2, hfz22_3⟩ := bz4_ BK894; obtain ⟨hcz23_0, hcz23_1, hcz23_2, hcz23_3, hfz23_0, hfz23_1, hfz23_2, hfz23_3⟩ := bz4_ BK895))
   refine bodyPost_ret (results_list (rs := [.cell 4 52, .cell 5 51, .tmp 6]) rfl (by simp) (.cell gb894 52 #[.int .i64 0, .int .i64 0, .int .u64 0, .int .i64 0] (0, 0) _ rfl (by (with_reducible repeat (first | refine blk_drewN ?_ _ | refine blk_drew ?_ | refine blk_alloc ?_ _)); refine blk_far ?_ NB894_895.out _; (with_reducible repeat (first | refine blk_drewN ?_ _ | refine blk_drew ?_ | refine blk_alloc ?_ _)); refine blk_far ?_ NB894_895.out _; (with_reducible repeat (first | refine blk_drewN ?_ _ | refine blk_drew ?_ | refine blk_alloc ?_ _)); refine blk_far ?_ NB894_895.out _; (with_reducible repeat (first | refine blk_drewN ?_ _ | refine blk_drew ?_ | refine blk_alloc ?_ _)); refine blk_far ?_ NB894_895.out _; (with_reducible repeat (first | refine blk_drewN ?_ _ | refine blk_drew ?_ | refine blk_alloc ?_ _)); refine blk_put (cs := #[.int .i64 0, .int .i64 0, .int .u64 0, .int .i64 0]) ?_ 3 _ rfl; (with_reducible repeat (first | refine blk_drewN ?_ _ | refine blk_drew ?_ | refine blk_alloc ?_ _)); refine blk_put (cs := #[.int .i64 0, .int .i64 0, .int .u64 0, .int .i64 0]) ?_ 2 _ rfl; (with_reducible repeat (first | refine blk_drewN ?_ _ | refine blk_drew ?_ | refine blk_alloc ?_ _)); refine blk_put (cs := #[.int .i64 0, .int .i64 0, .int .u64 0, .int .i64 0]) ?_ 1 _ rfl; (with_reducible repeat (first | refine blk_drewN ?_ _ | refine blk_drew ?_ | refine blk_alloc ?_ _)); refine blk_put (cs := #[.int .i64 0, .int .i64 0, .int .u64 0, .int .i64 0]) ?_ 0 _ rfl; (with_reducible repeat (first | refine blk_drewN ?_ _ | refine blk_drew ?_ | refine blk_alloc ?_ _)); exact BK894.out) Try.underlying52 rfl (by kernel_rfl) (.cell gb895 51 #[.int .i64 0, .int .i64 0, .int .u64 0, .int .i64 0] (0, 0) _ rfl (by (with_reducible repeat (first | refine blk_drewN ?_ _ | refine blk_drew ?_ | refine blk_alloc ?_ _)); refine blk_put (cs := #[.int .i64 0, .int .i64 0, .int .u64 0, .int .i64 0]) ?_ 3 _ rfl; (with_reducible repeat (first | refine blk_drewN ?_ _ | refine blk_drew ?_ | refine blk_alloc ?_ _)); refine blk_put (cs := #[.int .i64 0, .int .i64 0, .int .u64 0, .int .i64 0]) ?_ 2 _ rfl; (with_reducible repeat (first | refine blk_drewN ?_ _ | refine blk_drew ?_ | refine blk_alloc ?_ _)); refine blk_put (cs := #[.int .i64 0, .int .i64 0, .int .u64 0, .int .i64 0]) ?_ 1 _ rfl; (with_reducible repeat (first | refine blk_drewN ?_ _ | refine blk_drew ?_ | refine blk_alloc ?_ _)); refine blk_put (cs := #[.int .i64 0, .int .i64 0, .int .u64 0, .int .i64 0]) ?_ 0 _ rfl; (with_reducible repeat (first | refine blk_drewN ?_ _ | refine blk_drew ?_ | refine blk_alloc ?_ _)); refine blk_far ?_ NB895_894.out _; (with_reducible repeat (first | refine blk_drewN ?_ _ | refine blk_drew ?_ | refine blk_alloc ?_ _)); refine blk_far ?_ NB895_894.out _; (with_reducible repeat (first | refine blk_drewN ?_ _ | refine blk_drew ?_ | refine blk_alloc ?_ _)); refine blk_far ?_ NB895_894.out _; (with_reducible repeat (first | refine blk_drewN ?_ _ | refine blk_drew ?_ | refine blk_alloc ?_ _)); refine blk_far ?_ NB895_894.out _; (with_reducible repeat (first | refine blk_drewN ?_ _ | refine blk_drew ?_ | refine blk_alloc ?_ _)); exact BK895.out) Try.underlying51 rfl (by kernel_rfl) (.tmp .nil)))) rfl ?_
   exact ⟨by first | rfl | (simp [errW_none, errW_some] <;> rfl) | (simp [*, errW_none, errW_some] <;> rfl), hb_⟩
  ·rw [if_neg c6] at H
   have c6b0 : (t897 == 0) = false := beq_eq_false_iff_ne.mpr c6
   have c6b1 : (t897 != 0) = true := bne_iff_ne.mpr c6
   replace H := Option.bind_eq_some_iff.mp H
   obtain ⟨⟨t898, t899⟩, A240, H⟩ := H
   replace H : (some (a1_0, a1_1, t898, a0_1, a1_0, a1_1, Go.bits .andNot .u64 a1_2 t898, wrap64 (a1_3 - a0_1), 0)) = some (r1, r2, r3, r4, r5, r6, r7, r8, r9) := H
   have A24 := Aside0.mk A240
   clear A240
   simp only [Option.some.injEq, Prod.mk.injEq] at H
   obtain ⟨rfl, rfl, rfl, rfl, rfl, rfl, rfl, rfl, rfl⟩ := H
   go_enter Try.func88, Try.ntmps88
   try go_wp2_with (first | ((with_reducible refine gate_dst (N := 2) rfl ?_); refine bx 2 #[.int .i64 a0_0, .int .i64 a0_1, .int .i64 a0_2, .int .i64 a0_3] 27 ?_; intro gb892 hg w25 hbox hb; have BK892 := Aside0.mk (hbox); have GW892 := ge_ hg; have GE892 := ge_ hg; replace HB := hs_ hb; clear hb hbox hg) | ((with_reducible refine gate_dst (N := 3) rfl ?_); refine bx 3 #[.int .i64 a1_0, .int .i64 a1_1, .int .u64 a1_2, .int .i64 a1_3] 51 ?_; intro gb893 hg w26 hbox hb; have BK893 := Aside0.mk (hbox); have GW893 := ge_ hg; have GE893 := ge_ hg; have NB892_893 := nl_ BK892 hg; have NB893_892 := nr_ BK892 hg; replace BK892 := bk_ BK892 hb; replace HB := hs_ hb; clear hb hbox hg) | ((with_reducible refine gate_dst (N := 4) rfl ?_); refine bx 4 #[.int .i64 0, .int .i64 0, .int .u64 0, .int .i64 0] 52 ?_; intro gb894 hg w27 hbox hb; have BK894 := Aside0.mk (hbox); have GW894 := ge_ hg; have GE894 := ge_ hg; have NB892_894 := nl_ BK892 hg; have NB894_892 := nr_ BK892 hg; have NB893_894 := nl_ BK893 hg; have NB894_893 := nr_ BK893 hg; replace BK892 := bk_ BK892 hb; replace BK893 := bk_ BK893 hb; replace HB := hs_ hb; clear hb hbox hg) | ((with_reducible refine gate_dst (N := 5) rfl ?_); refine bx 5 #[.int .i64 0, .int .i64 0, .int .u64 0, .int .i64 0] 51 ?_; intro gb895 hg w28 hbox hb; have BK895 := Aside0.mk (hbox); have GW895 := ge_ hg; have GE895 := ge_ hg; have NB892_895 := nl_ BK892 hg; have NB895_892 := nr_ BK892 hg; have NB893_895 := nl_ BK893 hg; have NB895_893 := nr_ BK893 hg; have NB894_895 := nl_ BK894 hg; have NB895_894 := nr_ BK894 hg; replace BK892 := bk_ BK892 hb; replace BK893 := bk_ BK893 hb; replace BK894 := bk_ BK894 hb; replace HB := hs_ hb; clear hb hbox hg; have hnb29 := NB892_893.out; have hnc29 := NB893_892.out; have hnb30 := NB892_894.out; have hnc30 := NB894_892.out; have hnb31 := NB892_895.out; have hnc31 := NB895_892.out; obtain ⟨hcz32_0, hcz32_1, hcz32_2, hcz32_3, hfz32_0, hfz32_1, hfz32_2, hfz32_3⟩ := bz4_ BK892) | ((with_reducible refine gate_callee (f := 83) rfl ?_); refine goesL_ (some 11) rfl rfl Try.func83 (by kernel_rfl) rfl #[.agg #[.int .i64 a0_0, .int .i64 a0_1, .int .i64 a0_2, .int .i64 a0_3]] rfl Z0 ?_; (with_reducible refine (shape_Check.calls a0_0 a0_1 a0_2 a0_3 t896 _ A3.out).mono ?_); rintro e w33 ⟨rfl, hb⟩; refine ⟨_, rfl, ?_⟩; replace BK892 := bk_ BK892 hb; replace BK893 := bk_ BK893 hb; replace BK894 := bk_ BK894 hb; replace BK895 := bk_ BK895 hb; replace HB := hs_ hb; (try clear hb); (try clear hb2); (try clear hk); (try clear hi); obtain ⟨hcz34_0, hcz34_1, hcz34_2, hcz34_3, hfz34_0, hfz34_1, hfz34_2, hfz34_3⟩ := bz4_ BK892; have hnb35 := NB893_894.out; have hnc35 := NB894_893.out; have hnb36 := NB893_895.out; have hnc36 := NB895_893.out; obtain ⟨hcz37_0, hcz37_1, hcz37_2, hcz37_3, hfz37_0, hfz37_1, hfz37_2, hfz37_3⟩ := bz4_ BK893) | ((with_reducible refine gate_callee (f := 87) rfl ?_); refine goesL_ (some 19) rfl rfl Try.func87 (by kernel_rfl) rfl #[.agg #[.int .i64 a0_0, .int .i64 a0_1, .int .i64 a0_2, .int .i64 a0_3], .agg #[.int .i64 a1_0, .int .i64 a1_1, .int .u64 a1_2, .int .i64 a1_3]] rfl Z0 ?_; (with_reducible refine (shape_Fits.calls a0_0 a0_1 a0_2 a0_3 a1_0 a1_1 a1_2 a1_3 t897 _ A5.out).mono ?_); rintro e w38 ⟨rfl, hb⟩; refine ⟨_, rfl, ?_⟩; replace BK892 := bk_ BK892 hb; replace BK893 := bk_ BK893 hb; replace BK894 := bk_ BK894 hb; replace BK895 := bk_ BK895 hb; replace HB := hs_ hb; (try clear hb); (try clear hb2); (try clear hk); (try clear hi); obtain ⟨hcz39_0, hcz39_1, hcz39_2, hcz39_3, hfz39_0, hfz39_1, hfz39_2, hfz39_3⟩ := bz4_ BK893; obtain ⟨hcz40_0, hcz40_1, hcz40_2, hcz40_3, hfz40_0, hfz40_1, hfz40_2, hfz40_3⟩ := bz4_ BK892) | ((with_reducible refine gate_callee (f := 114) rfl ?_); refine goesL_ (some 28) rfl rfl Try.func114 (by kernel_rfl) rfl #[.int .u64 a1_2, .int .i64 a0_0] rfl Z0 ?_; (with_reducible refine (mask_Lowest.calls a1_2 a0_0 t898 t899 _ A24.out).mono ?_); rintro e w41 ⟨rfl, hb⟩; refine ⟨_, rfl, ?_⟩; replace BK892 := bk_ BK892 hb; replace BK893 := bk_ BK893 hb; replace BK894 := bk_ BK894 hb; replace BK895 := bk_ BK895 hb; replace HB := hs_ hb; (try clear hb); (try clear hb2); (try clear hk); (try clear hi)))
   replace BK892 := Aside0.mk (blk_drew BK892.out)
   replace BK893 := Aside0.mk (blk_drew BK893.out)
   replace BK894 := Aside0.mk (blk_drew BK894.out)
   replace BK895 := Aside0.mk (blk_drew BK895.out)
   replace HB := Aside0.mk (below_drew1 HB.out)
   refine start_ (n := 21) (S := fun w' => w'.cell? ⟨gb893, 0, none⟩ = some (.int .i64 a1_0) ∧ w'.cell? ⟨gb893, 1, none⟩ = some (.int .i64 a1_1) ∧ w'.cell? ⟨gb893, 2, none⟩ = some (.int .u64 a1_2) ∧ w'.cell? ⟨gb893, 3, none⟩ = some (.int .i64 a1_3) ∧ w'.cell? ⟨gb892, 0, none⟩ = some (.int .i64 a0_0) ∧ w'.cell? ⟨gb892, 1, none⟩ = some (.int .i64 a0_1) ∧ w'.cell? ⟨gb892, 2, none⟩ = some (.int .i64 a0_2) ∧ w'.cell? ⟨gb892, 3, none⟩ = some (.int .i64 a0_3)) (ds := []) (bm 21 0) (by kernel_rfl) rfl rfl ⟨(blk_cell BK893.out 0).trans rfl, (blk_cell BK893.out 1).trans rfl, (blk_cell BK893.out 2).trans rfl, (blk_cell BK893.out 3).trans rfl, (blk_cell BK892.out 0).trans rfl, (blk_cell BK892.out 1).trans rfl, (blk_cell BK892.out 2).trans rfl, (blk_cell BK892.out 3).trans rfl⟩ (fun hHeld => ?_); refine with_tabW shape_Piece.tab7 shape_Piece.bits7 (fun HT_ HW_ => ?_)
   generalize w41.drew = w42 at BK892 BK893 BK894 BK895 HB hHeld ⊢
   refine pu 0 (some 31) (bm 21 1) ?_
   refine pu 2 (some 33) (bm 21 5) ?_
   refine pu 3 (some 34) (bm 21 13) ?_
   refine pu 6 (some 37) (bm 21 77) ?_
   refine pu 8 (some 39) (bm 21 333) ?_
   refine pu 10 (some 41) (bm 21 1357) ?_
   refine pu 12 (some 43) (bm 21 5453) ?_
   refine pu 14 (some 45) (bm 21 21837) ?_
   refine tk8 1 (some 32) (bm 21 21839) ?_
   refine tk8 4 (some 35) (bm 21 21855) ?_
   refine pu 5 (some 36) (bm 21 21887) ?_
   refine tk8 7 (some 38) (bm 21 22015) ?_
   refine tk8 9 (some 40) (bm 21 22527) ?_
   refine pu 11 (some 42) (bm 21 24575) ?_
   refine tk8 13 (some 44) (bm 21 32767) ?_
   refine tk8 15 (some 46) (bm 21 65535) ?_
   refine pu 16 (some 47) (bm 21 131071) ?_
   refine pu 17 (some 48) (bm 21 262143) ?_
   refine one_ (i := 18) (N := none) (bm 21 524287) rfl rfl (one_of HT_.out (by kernel_rfl)) (by decide) (fun K hK => ?_)
   have hs43 : w42.cell? ⟨gb894, 0, none⟩ = some (.int .i64 0) := (blk_cell BK894.out 0).trans rfl
   have hfs43 := blk_frozen BK894.out 0
   have hns43_0 := NB892_894.out
   have hns43_1 := NB893_894.out
   have hns43_3 := NB895_894.out
   have hms43_0 := NB894_892.out
   have hms43_1 := NB894_893.out
   have hms43_3 := NB894_895.out
   have hs44 : w42.cell? ⟨gb894, 1, none⟩ = some (.int .i64 0) := (blk_cell BK894.out 1).trans rfl
   have hfs44 := blk_frozen BK894.out 1
   have hns44_0 := NB892_894.out
   have hns44_1 := NB893_894.out
   have hns44_3 := NB895_894.out
   have hms44_0 := NB894_892.out
   have hms44_1 := NB894_893.out
   have hms44_3 := NB894_895.out
   have hs45 : w42.cell? ⟨gb894, 2, none⟩ = some (.int .u64 0) := (blk_cell BK894.out 2).trans rfl
   have hfs45 := blk_frozen BK894.out 2
   have hns45_0 := NB892_894.out
   have hns45_1 := NB893_894.out
   have hns45_3 := NB895_894.out
   have hms45_0 := NB894_892.out
   have hms45_1 := NB894_893.out
   have hms45_3 := NB894_895.out
   have hs46 : w42.cell? ⟨gb894, 3, none⟩ = some (.int .i64 0) := (blk_cell BK894.out 3).trans rfl
   have hfs46 := blk_frozen BK894.out 3
   have hns46_0 := NB892_894.out
   have hns46_1 := NB893_894.out
   have hns46_3 := NB895_894.out
   have hms46_0 := NB894_892.out
   have hms46_1 := NB894_893.out
   have hms46_3 := NB894_895.out
   refine skip_ (w1 := ?_) (by rfl) rfl ?_ ?_
   rotate_left
   ·go_simp
    rfl
   refine hK.out _ _ ⟨((cell_far (p := ⟨gb894, _, none⟩) NB893_894.out _).trans (((cell_far (p := ⟨gb894, _, none⟩) NB893_894.out _).trans (((cell_far (p := ⟨gb894, _, none⟩) NB893_894.out _).trans (((cell_far (p := ⟨gb894, _, none⟩) NB893_894.out _).trans (hHeld.1)))))))), ((cell_far (p := ⟨gb894, _, none⟩) NB893_894.out _).trans (((cell_far (p := ⟨gb894, _, none⟩) NB893_894.out _).trans (((cell_far (p := ⟨gb894, _, none⟩) NB893_894.out _).trans (((cell_far (p := ⟨gb894, _, none⟩) NB893_894.out _).trans (hHeld.2.1)))))))), ((cell_far (p := ⟨gb894, _, none⟩) NB893_894.out _).trans (((cell_far (p := ⟨gb894, _, none⟩) NB893_894.out _).trans (((cell_far (p := ⟨gb894, _, none⟩) NB893_894.out _).trans (((cell_far (p := ⟨gb894, _, none⟩) NB893_894.out _).trans (hHeld.2.2.1)))))))), ((cell_far (p := ⟨gb894, _, none⟩) NB893_894.out _).trans (((cell_far (p := ⟨gb894, _, none⟩) NB893_894.out _).trans (((cell_far (p := ⟨gb894, _, none⟩) NB893_894.out _).trans (((cell_far (p := ⟨gb894, _, none⟩) NB893_894.out _).trans (hHeld.2.2.2.1)))))))), ((cell_far (p := ⟨gb894, _, none⟩) NB892_894.out _).trans (((cell_far (p := ⟨gb894, _, none⟩) NB892_894.out _).trans (((cell_far (p := ⟨gb894, _, none⟩) NB892_894.out _).trans (((cell_far (p := ⟨gb894, _, none⟩) NB892_894.out _).trans (hHeld.2.2.2.2.1)))))))), ((cell_far (p := ⟨gb894, _, none⟩) NB892_894.out _).trans (((cell_far (p := ⟨gb894, _, none⟩) NB892_894.out _).trans (((cell_far (p := ⟨gb894, _, none⟩) NB892_894.out _).trans (((cell_far (p := ⟨gb894, _, none⟩) NB892_894.out _).trans (hHeld.2.2.2.2.2.1)))))))), ((cell_far (p := ⟨gb894, _, none⟩) NB892_894.out _).trans (((cell_far (p := ⟨gb894, _, none⟩) NB892_894.out _).trans (((cell_far (p := ⟨gb894, _, none⟩) NB892_894.out _).trans (((cell_far (p := ⟨gb894, _, none⟩) NB892_894.out _).trans (hHeld.2.2.2.2.2.2.1)))))))), ((cell_far (p := ⟨gb894, _, none⟩) NB892_894.out _).trans (((cell_far (p := ⟨gb894, _, none⟩) NB892_894.out _).trans (((cell_far (p := ⟨gb894, _, none⟩) NB892_894.out _).trans (((cell_far (p := ⟨gb894, _, none⟩) NB892_894.out _).trans (hHeld.2.2.2.2.2.2.2))))))))⟩ (fun hHeld => ?_)
   clear hK K
   refine one_ (i := 19) (N := none) (bm 21 1048575) rfl rfl (one_of HT_.out (by kernel_rfl)) (by decide) (fun K hK => ?_)
   have hs47 : w42.cell? ⟨gb895, 0, none⟩ = some (.int .i64 0) := (blk_cell BK895.out 0).trans rfl
   have hfs47 := blk_frozen BK895.out 0
   have hns47_0 := NB892_895.out
   have hns47_1 := NB893_895.out
   have hns47_2 := NB894_895.out
   have hms47_0 := NB895_892.out
   have hms47_1 := NB895_893.out
   have hms47_2 := NB895_894.out
   have hs48 : w42.cell? ⟨gb895, 1, none⟩ = some (.int .i64 0) := (blk_cell BK895.out 1).trans rfl
   have hfs48 := blk_frozen BK895.out 1
   have hns48_0 := NB892_895.out
   have hns48_1 := NB893_895.out
   have hns48_2 := NB894_895.out
   have hms48_0 := NB895_892.out
   have hms48_1 := NB895_893.out
   have hms48_2 := NB895_894.out
   have hs49 : w42.cell? ⟨gb895, 2, none⟩ = some (.int .u64 0) := (blk_cell BK895.out 2).trans rfl
   have hfs49 := blk_frozen BK895.out 2
   have hns49_0 := NB892_895.out
   have hns49_1 := NB893_895.out
   have hns49_2 := NB894_895.out
   have hms49_0 := NB895_892.out
   have hms49_1 := NB895_893.out
   have hms49_2 := NB895_894.out
   have hs50 : w42.cell? ⟨gb895, 3, none⟩ = some (.int .i64 0) := (blk_cell BK895.out 3).trans rfl
   have hfs50 := blk_frozen BK895.out 3
   have hns50_0 := NB892_895.out
   have hns50_1 := NB893_895.out
   have hns50_2 := NB894_895.out
   have hms50_0 := NB895_892.out
   have hms50_1 := NB895_893.out
   have hms50_2 := NB895_894.out
   refine skip_ (w1 := ?_) (by rfl) rfl ?_ ?_
   rotate_left
   ·go_simp
    rfl
   refine hK.out _ _ ⟨((cell_far (p := ⟨gb895, _, none⟩) NB893_895.out _).trans (((cell_far (p := ⟨gb895, _, none⟩) NB893_895.out _).trans (((cell_far (p := ⟨gb895, _, none⟩) NB893_895.out _).trans (((cell_far (p := ⟨gb895, _, none⟩) NB893_895.out _).trans (hHeld.1)))))))), ((cell_far (p := ⟨gb895, _, none⟩) NB893_895.out _).trans (((cell_far (p := ⟨gb895, _, none⟩) NB893_895.out _).trans (((cell_far (p := ⟨gb895, _, none⟩) NB893_895.out _).trans (((cell_far (p := ⟨gb895, _, none⟩) NB893_895.out _).trans (hHeld.2.1)))))))), ((cell_far (p := ⟨gb895, _, none⟩) NB893_895.out _).trans (((cell_far (p := ⟨gb895, _, none⟩) NB893_895.out _).trans (((cell_far (p := ⟨gb895, _, none⟩) NB893_895.out _).trans (((cell_far (p := ⟨gb895, _, none⟩) NB893_895.out _).trans (hHeld.2.2.1)))))))), ((cell_far (p := ⟨gb895, _, none⟩) NB893_895.out _).trans (((cell_far (p := ⟨gb895, _, none⟩) NB893_895.out _).trans (((cell_far (p := ⟨gb895, _, none⟩) NB893_895.out _).trans (((cell_far (p := ⟨gb895, _, none⟩) NB893_895.out _).trans (hHeld.2.2.2.1)))))))), ((cell_far (p := ⟨gb895, _, none⟩) NB892_895.out _).trans (((cell_far (p := ⟨gb895, _, none⟩) NB892_895.out _).trans (((cell_far (p := ⟨gb895, _, none⟩) NB892_895.out _).trans (((cell_far (p := ⟨gb895, _, none⟩) NB892_895.out _).trans (hHeld.2.2.2.2.1)))))))), ((cell_far (p := ⟨gb895, _, none⟩) NB892_895.out _).trans (((cell_far (p := ⟨gb895, _, none⟩) NB892_895.out _).trans (((cell_far (p := ⟨gb895, _, none⟩) NB892_895.out _).trans (((cell_far (p := ⟨gb895, _, none⟩) NB892_895.out _).trans (hHeld.2.2.2.2.2.1)))))))), ((cell_far (p := ⟨gb895, _, none⟩) NB892_895.out _).trans (((cell_far (p := ⟨gb895, _, none⟩) NB892_895.out _).trans (((cell_far (p := ⟨gb895, _, none⟩) NB892_895.out _).trans (((cell_far (p := ⟨gb895, _, none⟩) NB892_895.out _).trans (hHeld.2.2.2.2.2.2.1)))))))), ((cell_far (p := ⟨gb895, _, none⟩) NB892_895.out _).trans (((cell_far (p := ⟨gb895, _, none⟩) NB892_895.out _).trans (((cell_far (p := ⟨gb895, _, none⟩) NB892_895.out _).trans (((cell_far (p := ⟨gb895, _, none⟩) NB892_895.out _).trans (hHeld.2.2.2.2.2.2.2))))))))⟩ (fun hHeld => ?_)
   clear hK K
   refine pu 20 (some 6) (bm 21 2097151) ?_
   refine done_ (done_of HT_.out (by kernel_rfl)) ?_
   try go_wp2
   refine bodyPost_ret (results_list (rs := [.cell 4 52, .cell 5 51, .tmp 6]) rfl (by simp) (.cell gb894 52 #[.int .i64 a1_0, .int .i64 a1_1, .int .u64 t898, .int .i64 a0_1] (0, 0) _ rfl (by (with_reducible repeat (first | refine blk_drewN ?_ _ | refine blk_drew ?_ | refine blk_alloc ?_ _)); refine blk_far ?_ NB894_895.out _; (with_reducible repeat (first | refine blk_drewN ?_ _ | refine blk_drew ?_ | refine blk_alloc ?_ _)); refine blk_far ?_ NB894_895.out _; (with_reducible repeat (first | refine blk_drewN ?_ _ | refine blk_drew ?_ | refine blk_alloc ?_ _)); refine blk_far ?_ NB894_895.out _; (with_reducible repeat (first | refine blk_drewN ?_ _ | refine blk_drew ?_ | refine blk_alloc ?_ _)); refine blk_far ?_ NB894_895.out _; (with_reducible repeat (first | refine blk_drewN ?_ _ | refine blk_drew ?_ | refine blk_alloc ?_ _)); refine blk_put (cs := #[.int .i64 a1_0, .int .i64 a1_1, .int .u64 t898, .int .i64 0]) ?_ 3 _ rfl; (with_reducible repeat (first | refine blk_drewN ?_ _ | refine blk_drew ?_ | refine blk_alloc ?_ _)); refine blk_put (cs := #[.int .i64 a1_0, .int .i64 a1_1, .int .u64 0, .int .i64 0]) ?_ 2 _ rfl; (with_reducible repeat (first | refine blk_drewN ?_ _ | refine blk_drew ?_ | refine blk_alloc ?_ _)); refine blk_put (cs := #[.int .i64 a1_0, .int .i64 0, .int .u64 0, .int .i64 0]) ?_ 1 _ rfl; (with_reducible repeat (first | refine blk_drewN ?_ _ | refine blk_drew ?_ | refine blk_alloc ?_ _)); refine blk_put (cs := #[.int .i64 0, .int .i64 0, .int .u64 0, .int .i64 0]) ?_ 0 _ rfl; (with_reducible repeat (first | refine blk_drewN ?_ _ | refine blk_drew ?_ | refine blk_alloc ?_ _)); exact BK894.out) Try.underlying52 rfl (by kernel_rfl) (.cell gb895 51 #[.int .i64 a1_0, .int .i64 a1_1, .int .u64 (Go.bits .andNot .u64 a1_2 t898), .int .i64 (wrap64 (a1_3 - a0_1))] (0, 0) _ rfl (by (with_reducible repeat (first | refine blk_drewN ?_ _ | refine blk_drew ?_ | refine blk_alloc ?_ _)); refine blk_put (cs := #[.int .i64 a1_0, .int .i64 a1_1, .int .u64 (Go.bits .andNot .u64 a1_2 t898), .int .i64 0]) ?_ 3 _ rfl; (with_reducible repeat (first | refine blk_drewN ?_ _ | refine blk_drew ?_ | refine blk_alloc ?_ _)); refine blk_put (cs := #[.int .i64 a1_0, .int .i64 a1_1, .int .u64 0, .int .i64 0]) ?_ 2 _ rfl; (with_reducible repeat (first | refine blk_drewN ?_ _ | refine blk_drew ?_ | refine blk_alloc ?_ _)); refine blk_put (cs := #[.int .i64 a1_0, .int .i64 0, .int .u64 0, .int .i64 0]) ?_ 1 _ rfl; (with_reducible repeat (first | refine blk_drewN ?_ _ | refine blk_drew ?_ | refine blk_alloc ?_ _)); refine blk_put (cs := #[.int .i64 0, .int .i64 0, .int .u64 0, .int .i64 0]) ?_ 0 _ rfl; (with_reducible repeat (first | refine blk_drewN ?_ _ | refine blk_drew ?_ | refine blk_alloc ?_ _)); refine blk_far ?_ NB895_894.out _; (with_reducible repeat (first | refine blk_drewN ?_ _ | refine blk_drew ?_ | refine blk_alloc ?_ _)); refine blk_far ?_ NB895_894.out _; (with_reducible repeat (first | refine blk_drewN ?_ _ | refine blk_drew ?_ | refine blk_alloc ?_ _)); refine blk_far ?_ NB895_894.out _; (with_reducible repeat (first | refine blk_drewN ?_ _ | refine blk_drew ?_ | refine blk_alloc ?_ _)); refine blk_far ?_ NB895_894.out _; (with_reducible repeat (first | refine blk_drewN ?_ _ | refine blk_drew ?_ | refine blk_alloc ?_ _)); exact BK895.out) Try.underlying51 rfl (by kernel_rfl) (.tmp .nil)))) rfl ?_
   exact ⟨by first | rfl | (simp [errW_none, errW_some] <;> rfl) | (simp [*, errW_none, errW_some] <;> rfl), hb_⟩
 ·rw [if_neg c4] at H
  have c4b0 : (t896 == 0) = false := beq_eq_false_iff_ne.mpr c4
  have c4b1 : (t896 != 0) = true := bne_iff_ne.mpr c4
  simp only [Option.some.injEq, Prod.mk.injEq] at H
  obtain ⟨rfl, rfl, rfl, rfl, rfl, rfl, rfl, rfl, rfl⟩ := H
  go_enter Try.func88, Try.ntmps88
  go_wp2_with (first | ((with_reducible refine gate_dst (N := 2) rfl ?_); refine bx 2 #[.int .i64 a0_0, .int .i64 a0_1, .int .i64 a0_2, .int .i64 a0_3] 27 ?_; intro gb892 hg w51 hbox hb; have BK892 := Aside0.mk (hbox); have GW892 := ge_ hg; have GE892 := ge_ hg; replace HB := hs_ hb; clear hb hbox hg) | ((with_reducible refine gate_dst (N := 3) rfl ?_); refine bx 3 #[.int .i64 a1_0, .int .i64 a1_1, .int .u64 a1_2, .int .i64 a1_3] 51 ?_; intro gb893 hg w52 hbox hb; have BK893 := Aside0.mk (hbox); have GW893 := ge_ hg; have GE893 := ge_ hg; have NB892_893 := nl_ BK892 hg; have NB893_892 := nr_ BK892 hg; replace BK892 := bk_ BK892 hb; replace HB := hs_ hb; clear hb hbox hg) | ((with_reducible refine gate_dst (N := 4) rfl ?_); refine bx 4 #[.int .i64 0, .int .i64 0, .int .u64 0, .int .i64 0] 52 ?_; intro gb894 hg w53 hbox hb; have BK894 := Aside0.mk (hbox); have GW894 := ge_ hg; have GE894 := ge_ hg; have NB892_894 := nl_ BK892 hg; have NB894_892 := nr_ BK892 hg; have NB893_894 := nl_ BK893 hg; have NB894_893 := nr_ BK893 hg; replace BK892 := bk_ BK892 hb; replace BK893 := bk_ BK893 hb; replace HB := hs_ hb; clear hb hbox hg) | ((with_reducible refine gate_dst (N := 5) rfl ?_); refine bx 5 #[.int .i64 0, .int .i64 0, .int .u64 0, .int .i64 0] 51 ?_; intro gb895 hg w54 hbox hb; have BK895 := Aside0.mk (hbox); have GW895 := ge_ hg; have GE895 := ge_ hg; have NB892_895 := nl_ BK892 hg; have NB895_892 := nr_ BK892 hg; have NB893_895 := nl_ BK893 hg; have NB895_893 := nr_ BK893 hg; have NB894_895 := nl_ BK894 hg; have NB895_894 := nr_ BK894 hg; replace BK892 := bk_ BK892 hb; replace BK893 := bk_ BK893 hb; replace BK894 := bk_ BK894 hb; replace HB := hs_ hb; clear hb hbox hg; have hnb55 := NB892_893.out; have hnc55 := NB893_892.out; have hnb56 := NB892_894.out; have hnc56 := NB894_892.out; have hnb57 := NB892_895.out; have hnc57 := NB895_892.out; obtain ⟨hcz58_0, hcz58_1, hcz58_2, hcz58_3, hfz58_0, hfz58_1, hfz58_2, hfz58_3⟩ := bz4_ BK892) | ((with_reducible refine gate_callee (f := 83) rfl ?_); refine goesL_ (some 11) rfl rfl Try.func83 (by kernel_rfl) rfl #[.agg #[.int .i64 a0_0, .int .i64 a0_1, .int .i64 a0_2, .int .i64 a0_3]] rfl Z0 ?_; (with_reducible refine (shape_Check.calls a0_0 a0_1 a0_2 a0_3 t896 _ A3.out).mono ?_); rintro e w59 ⟨rfl, hb⟩; refine ⟨_, rfl, ?_⟩; replace BK892 := bk_ BK892 hb; replace BK893 := bk_ BK893 hb; replace BK894 := bk_ BK894 hb; replace BK895 := bk_ BK895 hb; replace HB := hs_ hb; (try clear hb); (try clear hb2); (try clear hk); (try clear hi); have hnb60 := NB894_893.out; have hnc60 := NB893_894.out; have hnb61 := NB894_895.out; have hnc61 := NB895_894.out; obtain ⟨hcz62_0, hcz62_1, hcz62_2, hcz62_3, hfz62_0, hfz62_1, hfz62_2, hfz62_3⟩ := bz4_ BK894; have hnb63 := NB895_893.out; have hnc63 := NB893_895.out; obtain ⟨hcz64_0, hcz64_1, hcz64_2, hcz64_3, hfz64_0, hfz64_1, hfz64_2, hfz64_3⟩ := bz4_ BK895))
  refine bodyPost_ret (results_list (rs := [.cell 4 52, .cell 5 51, .tmp 6]) rfl (by simp) (.cell gb894 52 #[.int .i64 0, .int .i64 0, .int .u64 0, .int .i64 0] (0, 0) _ rfl (by (with_reducible repeat (first | refine blk_drewN ?_ _ | refine blk_drew ?_ | refine blk_alloc ?_ _)); refine blk_far ?_ NB894_895.out _; (with_reducible repeat (first | refine blk_drewN ?_ _ | refine blk_drew ?_ | refine blk_alloc ?_ _)); refine blk_far ?_ NB894_895.out _; (with_reducible repeat (first | refine blk_drewN ?_ _ | refine blk_drew ?_ | refine blk_alloc ?_ _)); refine blk_far ?_ NB894_895.out _; (with_reducible repeat (first | refine blk_drewN ?_ _ | refine blk_drew ?_ | refine blk_alloc ?_ _)); refine blk_far ?_ NB894_895.out _; (with_reducible repeat (first | refine blk_drewN ?_ _ | refine blk_drew ?_ | refine blk_alloc ?_ _)); refine blk_put (cs := #[.int .i64 0, .int .i64 0, .int .u64 0, .int .i64 0]) ?_ 3 _ rfl; (with_reducible repeat (first | refine blk_drewN ?_ _ | refine blk_drew ?_ | refine blk_alloc ?_ _)); refine blk_put (cs := #[.int .i64 0, .int .i64 0, .int .u64 0, .int .i64 0]) ?_ 2 _ rfl; (with_reducible repeat (first | refine blk_drewN ?_ _ | refine blk_drew ?_ | refine blk_alloc ?_ _)); refine blk_put (cs := #[.int .i64 0, .int .i64 0, .int .u64 0, .int .i64 0]) ?_ 1 _ rfl; (with_reducible repeat (first | refine blk_drewN ?_ _ | refine blk_drew ?_ | refine blk_alloc ?_ _)); refine blk_put (cs := #[.int .i64 0, .int .i64 0, .int .u64 0, .int .i64 0]) ?_ 0 _ rfl; (with_reducible repeat (first | refine blk_drewN ?_ _ | refine blk_drew ?_ | refine blk_alloc ?_ _)); exact BK894.out) Try.underlying52 rfl (by kernel_rfl) (.cell gb895 51 #[.int .i64 0, .int .i64 0, .int .u64 0, .int .i64 0] (0, 0) _ rfl (by (with_reducible repeat (first | refine blk_drewN ?_ _ | refine blk_drew ?_ | refine blk_alloc ?_ _)); refine blk_put (cs := #[.int .i64 0, .int .i64 0, .int .u64 0, .int .i64 0]) ?_ 3 _ rfl; (with_reducible repeat (first | refine blk_drewN ?_ _ | refine blk_drew ?_ | refine blk_alloc ?_ _)); refine blk_put (cs := #[.int .i64 0, .int .i64 0, .int .u64 0, .int .i64 0]) ?_ 2 _ rfl; (with_reducible repeat (first | refine blk_drewN ?_ _ | refine blk_drew ?_ | refine blk_alloc ?_ _)); refine blk_put (cs := #[.int .i64 0, .int .i64 0, .int .u64 0, .int .i64 0]) ?_ 1 _ rfl; (with_reducible repeat (first | refine blk_drewN ?_ _ | refine blk_drew ?_ | refine blk_alloc ?_ _)); refine blk_put (cs := #[.int .i64 0, .int .i64 0, .int .u64 0, .int .i64 0]) ?_ 0 _ rfl; (with_reducible repeat (first | refine blk_drewN ?_ _ | refine blk_drew ?_ | refine blk_alloc ?_ _)); refine blk_far ?_ NB895_894.out _; (with_reducible repeat (first | refine blk_drewN ?_ _ | refine blk_drew ?_ | refine blk_alloc ?_ _)); refine blk_far ?_ NB895_894.out _; (with_reducible repeat (first | refine blk_drewN ?_ _ | refine blk_drew ?_ | refine blk_alloc ?_ _)); refine blk_far ?_ NB895_894.out _; (with_reducible repeat (first | refine blk_drewN ?_ _ | refine blk_drew ?_ | refine blk_alloc ?_ _)); refine blk_far ?_ NB895_894.out _; (with_reducible repeat (first | refine blk_drewN ?_ _ | refine blk_drew ?_ | refine blk_alloc ?_ _)); exact BK895.out) Try.underlying51 rfl (by kernel_rfl) (.tmp .nil)))) rfl ?_
  exact ⟨by first | rfl | (simp [errW_none, errW_some] <;> rfl) | (simp [*, errW_none, errW_some] <;> rfl), hb_⟩
end Go.Proofs.Ytckhjehibjdjdaa.P
namespace Go.Proofs.Ytckhjehibjdjdaa.P
open Go.RowKit Go.Shelf Go.Lib Go.Proofs.YtckhjehibjdjdaaW.PrintWords Go.Proofs.YtckhjehibjdjdaaW.PrintLast Go.Proofs.YtckhjehibjdjdaaW.PrintMore
open Go.Proofs.Ytckhjehibjdjdaa.Bits
attribute [local go_sem] Oper.semAt_some
set_option linter.unusedVariables false
set_option linter.unusedSimpArgs false
theorem sortAny (base : Nat) (ok : Nat → Prop) (v : Value) (gs gl : Nat) (s0 s1 s2 s3 : Int) (xs : List S51) (w : World) (hgs : w.heap[gs]? = some (.cells #[.int .i64 s0, .int .i64 s1, .int .i64 s2, .int .i64 s3] 27 (0, 0))) (hgl : w.heap[gl]? = some (.cells #[v] 22 (0, 0)))
  (hrw : Kd.R k51 51 w base ok v xs) (hn : xs.length ≤ 1000000) (hf : ∀ f ∈ xs, freeOk f = true) :
  Calls Try.prog 85 #[.iface 22 v, .func (.func 86) #[] #[.pointer (some ⟨gs, 0, none⟩), .pointer (some ⟨gl, 0, none⟩)]] w fun e w' => e = .returned (.tuple #[]) ∧ Kd.R k51 51 w' base ok v (isort (fkey s0 s1 s2 s3) xs) ∧ w.grownBy w' v.ownBlock := by
 by_cases h2 : 2 ≤ xs.length
 ·obtain ⟨g, c, cur, hv, _, _, hh⟩ := own51 hrw (by omega)
  subst hv
  have h1 : gs ≠ g := blk_ne hgs hh (by decide)
  have h3 : gl ≠ g := blk_ne hgl hh (by decide)
  have := sortPlace base ok g gs gl xs.length c s0 s1 s2 s3 xs w hgs hgl hrw h2 hn hf h1 h3 (blk_lt hh)
  refine this.mono ?_
  rintro e w' ⟨he, hr, hg⟩
  exact ⟨he, hr, by simpa [Value.ownBlock] using hg⟩
 ·obtain ⟨A, c, rfl⟩ := Kd.R_slice hrw
  refine (sortPlace_tiny A xs.length c (by omega) _ w).mono ?_
  rintro e w' ⟨he, hb⟩
  rw [isort_one (fkey s0 s1 s2 s3) xs (by omega)]
  exact ⟨he, Kd.R_below hrw hb, ⟨hb.os, hb.tape, hb.output, hb.size, fun k hk _ => hb.block k hk⟩⟩
def pieceL (s0 s1 : Int) (f : S51) : S52 := ⟨f.f0, lowI f.f1 s0, s1⟩
def leftF (s0 s1 : Int) (f : S51) : S51 := ⟨f.f0, Go.bits .andNot .u64 f.f1 (lowI f.f1 s0), wrap64 (f.f2 - s1)⟩
def cutL (s0 s1 s2 s3 : Int) (m : Nat) : Nat → S51 → List S52 → List S52
 | 0, _, out => out
 | k + 1, f, out => if out.length < m ∧ fitV s0 s1 s2 s3 f.f1 f.f2 ≠ 0 then cutL s0 s1 s2 s3 m k (leftF s0 s1 f) (out ++ [pieceL s0 s1 f]) else out
def placeL (s0 s1 s2 s3 : Int) (m : Nat) (l : List S51) : List S52 := l.foldl (fun out f => cutL s0 s1 s2 s3 m 17 f out) []
theorem cutL_le (s0 s1 s2 s3 : Int) (m : Nat) : ∀ (k : Nat) (f : S51) (out : List S52), out.length ≤ m → (cutL s0 s1 s2 s3 m k f out).length ≤ m
 | 0, _, out, h => h
 | k + 1, f, out, h => by
  rw [cutL]
  split
  ·rename_i hc; exact cutL_le s0 s1 s2 s3 m k _ _ (by simp; omega)
  ·exact h
theorem placeL_le (s0 s1 s2 s3 : Int) (m : Nat) (l : List S51) : (placeL s0 s1 s2 s3 m l).length ≤ m := by
 have : ∀ (l : List S51) (out : List S52), out.length ≤ m → (l.foldl (fun out f => cutL s0 s1 s2 s3 m 17 f out) out).length ≤ m := by
  intro l
  induction l with
  | nil => intro out h; exact h
  | cons x l ih => intro out h; exact ih _ (cutL_le s0 s1 s2 s3 m 17 x out h)
 exact this l [] (by simp)
theorem placeL_take (s0 s1 s2 s3 : Int) (m : Nat) (l : List S51) (i : Nat) (h : i < l.length) : placeL s0 s1 s2 s3 m (l.take (i + 1)) = cutL s0 s1 s2 s3 m 17 l[i] (placeL s0 s1 s2 s3 m (l.take i)) := by
 unfold placeL
 rw [List.take_succ_eq_append_getElem h, List.foldl_append]; rfl
def placeOk (view : List S51) : Bool := view.all freeOk && decide (view.length ≤ 1000000)
def placeB (view : List S51) (s0 s1 s2 s3 m : Int) : List S52 × Int :=
 if goodShape s0 s1 s2 s3 = true ∧ 1 ≤ m ∧ m ≤ 16 then
  (if (placeL s0 s1 s2 s3 m.toNat (isort (fkey s0 s1 s2 s3) view)).length < m.toNat then ([], 7) else (placeL s0 s1 s2 s3 m.toNat (isort (fkey s0 s1 s2 s3) view), 0))
 else ([], 1)
theorem good_out0 {g c mn mx : Int} (h : goodShape g c mn mx = true) : 0 ≤ g ∧ g ≤ 16 ∧ 0 ≤ c ∧ c ≤ 1024 := by
 simp only [goodShape, Bool.and_eq_true, decide_eq_true_eq] at h
 omega
def pack_Place.f (l0 : List (S51)) (a1_0 : Int) (a1_1 : Int) (a1_2 : Int) (a1_3 : Int) (a2 : Int) : Option ((List (S52)) × Int) := if placeOk l0 = true then some (placeB l0 a1_0 a1_1 a1_2 a1_3 a2) else none
theorem put4 {W : World} {g : Nat} {t : TypeId} {a b c d a' b' c' d' : Value} (h : W.heap[g]? = some (.cells #[a, b, c, d] t (0, 0))) :
  ((((W.setCell ⟨g, 0, none⟩ a').setCell ⟨g, 1, none⟩ b').setCell ⟨g, 2, none⟩ c').setCell ⟨g, 3, none⟩ d').heap[g]? = some (.cells #[a', b', c', d'] t (0, 0)) := blk_put (blk_put (blk_put (blk_put h 0 _ rfl) 1 _ rfl) 2 _ rfl) 3 _ rfl
theorem grown4 (W : World) (g : Nat) {a' b' c' d' : Value} : W.grownBy ((((W.setCell ⟨g, 0, none⟩ a').setCell ⟨g, 1, none⟩ b').setCell ⟨g, 2, none⟩ c').setCell ⟨g, 3, none⟩ d') (some g) := grown_set (grown_set (grown_set (grown_set (grown_refl W (some g)))))
theorem k4c {W : World} {g : Nat} {t : TypeId} {a b c d : Value} (h : Aside0 (W.heap[g]? = some (.cells #[a, b, c, d] t (0, 0)))) : W.cell? ⟨g, 0, none⟩ = some a ∧ W.cell? ⟨g, 1, none⟩ = some b ∧ W.cell? ⟨g, 2, none⟩ = some c ∧ W.cell? ⟨g, 3, none⟩ = some d := ⟨blk_cell h.out 0, blk_cell h.out 1, blk_cell h.out 2, blk_cell h.out 3⟩
theorem far4 {W : World} {g k : Nat} {t : TypeId} {cs : Array Value} {a' b' c' d' : Value} (h : W.heap[k]? = some (.cells cs t (0, 0))) (hne : k ≠ g) :
  ((((W.setCell ⟨g, 0, none⟩ a').setCell ⟨g, 1, none⟩ b').setCell ⟨g, 2, none⟩ c').setCell ⟨g, 3, none⟩ d').heap[k]? = some (.cells cs t (0, 0)) := blk_far (blk_far (blk_far (blk_far h hne _) hne _) hne _) hne _
theorem below4 {w W : World} {g : Nat} {a' b' c' d' : Value} (h : Below w.heap.size w W) (hg : w.heap.size ≤ g) :
  Below w.heap.size w ((((W.setCell ⟨g, 0, none⟩ a').setCell ⟨g, 1, none⟩ b').setCell ⟨g, 2, none⟩ c').setCell ⟨g, 3, none⟩ d') := below_set (below_set (below_set (below_set h hg) hg) hg) hg
theorem fit_pop {s0 s1 s2 s3 : Int} {f : S51} (hg : goodShape s0 s1 s2 s3 = true) (hf : freeOk f = true) (h : fitV s0 s1 s2 s3 f.f1 f.f2 ≠ 0) : ¬ popI f.f1 < s0 := fun hp => by
 have hb := good_out0 hg
 have h0 := (popI_bd f.f1).1
 apply h
 unfold fitV
 split
 ·rename_i hc
  unfold fitN
  have e1 : eachI (popI f.f1) s0 = 0 := by
   unfold eachI
   rw [if_neg (by omega)]
   exact Int.ediv_eq_zero_of_lt h0 hp
  have e2 : 0 ≤ eachI f.f2 s1 := by
   unfold eachI
   split
   ·decide
   ·exact Int.ediv_nonneg hc.2 hb.2.2.1
  rw [e1]
  omega
 ·rfl
theorem freeOk0 {f : S51} (hf : freeOk f = true) : 0 ≤ f.f1 ∧ f.f1 < 18446744073709551616 ∧ f.f2 ≤ 9223372036854775807 := by
 simp only [freeOk, w64B, Bool.and_eq_true, decide_eq_true_eq] at hf; omega
theorem piece_no {s0 s1 s2 s3 : Int} (f : S51) (hg : goodShape s0 s1 s2 s3 = true) (hf : freeOk f = true) (h : fitV s0 s1 s2 s3 f.f1 f.f2 = 0) : shape_Piece.f s0 s1 s2 s3 f.f0.f0 f.f0.f1 f.f1 f.f2 = some (0, 0, 0, 0, 0, 0, 0, 0, 7) := by
 unfold shape_Piece.f shape_Check.f shape_Fits.f
 rw [if_pos hg, Option.bind_some, if_pos rfl, if_pos (freeOk0 hf), Option.bind_some, if_pos h]
theorem piece_yes {s0 s1 s2 s3 : Int} (f : S51) (hg : goodShape s0 s1 s2 s3 = true) (hf : freeOk f = true) (h : fitV s0 s1 s2 s3 f.f1 f.f2 ≠ 0) : shape_Piece.f s0 s1 s2 s3 f.f0.f0 f.f0.f1 f.f1 f.f2 = some (f.f0.f0, f.f0.f1, lowI f.f1 s0, s1, f.f0.f0, f.f0.f1, Go.bits .andNot .u64 f.f1 (lowI f.f1 s0), wrap64 (f.f2 - s1), 0) := by
 have hp := fit_pop hg hf h
 have h0 := freeOk0 hf
 have hb := good_out0 hg
 have e : mask_Lowest.f f.f1 s0 = some (lowI f.f1 s0, 0) := by
  unfold mask_Lowest.f
  rw [if_pos ⟨h0.1, h0.2.1⟩, if_neg (by omega), if_neg hp]
 unfold shape_Piece.f shape_Check.f shape_Fits.f
 rw [if_pos hg, Option.bind_some, if_pos rfl, if_pos h0, Option.bind_some, if_neg h, e, Option.bind_some]
theorem leftF_ok (s0 s1 : Int) {f : S51} (hf : freeOk f = true) : freeOk (leftF s0 s1 f) = true := by
 have e : Go.bits .andNot .u64 f.f1 (lowI f.f1 s0) = ((BitVec.ofInt 64 f.f1 &&& ~~~ BitVec.ofInt 64 (lowI f.f1 s0)).toNat : Int) := by
  show IntKind.u64.wrap ((BitVec.ofInt 64 f.f1 &&& ~~~ BitVec.ofInt 64 (lowI f.f1 s0)).toNat : Int) = _
  rw [wrapN, Nat.mod_eq_of_lt (BitVec.isLt _)]
 have h1 := (BitVec.ofInt 64 f.f1 &&& ~~~ BitVec.ofInt 64 (lowI f.f1 s0)).isLt
 unfold leftF freeOk
 simp only
 rw [e, decide_eq_true (by omega), decide_eq_true (by omega)]
 exact w64_wrap _
def T46 : Bool × List (List Nat × List Nat) := (true, [([], []), ([], []), ([1], [1]), ([0, 2], [0, 2]), ([], []), ([3, 3, 0, 1, 2, 3], [0, 3]), ([4, 5, 0, 1, 2, 3, 4, 5], [4])])
def B46 : List Nat := [0, 0, 2, 7, 0, 15, 63]
theorem tab46 : rtab .any (opsOf Try.f46 12) = T46 := by kernel_rfl
theorem bits46 : waitsOk T46.2 B46 = true := by kernel_rfl
set_option maxHeartbeats 16000000 in
set_option maxRecDepth 100000 in
theorem place_any (A0 : Option Addr) (c0 : Nat) (l0 : List S51) (s0 s1 s2 s3 : Int) (m : Nat) (w : World) (hr0 : Kd.C k51 w A0 l0.length l0) (hc0 : l0.length ≤ c0) (hf : ∀ f ∈ l0, freeOk f = true) (hl : l0.length ≤ 1000000) (hg : goodShape s0 s1 s2 s3 = true) (hm1 : 1 ≤ m) (hm : m ≤ 16) :
  Calls Try.prog 46 #[.slice A0 l0.length c0, .agg #[.int .i64 s0, .int .i64 s1, .int .i64 s2, .int .i64 s3], .int .i64 (m : Int)] w fun e w' => ∃ v0_ : Value, e = .returned (.tuple #[v0_, .int .i64 (placeB l0 s0 s1 s2 s3 (m : Int)).2]) ∧ Kd.R k52 52 w' w.heap.size (fun _ => True) v0_ (placeB l0 s0 s1 s2 s3 (m : Int)).1 ∧ Below w.heap.size w w' := by
 have hu27 := Try.underlying27
 have hu22 := Try.underlying22
 have hu51 := Try.underlying51
 have hu39 := Try.underlying39
 have hu52 := Try.underlying52
 have HCHK := Aside0.mk (show shape_Check.f s0 s1 s2 s3 = some 0 from by unfold shape_Check.f; rw [if_pos hg])
 have HGD := Aside0.mk hg
 have HR0 := Aside0.mk hr0
 have HC0 := Aside0.mk hc0
 have HF := Aside0.mk hf
 obtain ⟨L, hL⟩ : ∃ L, L = isort (fkey s0 s1 s2 s3) l0 := ⟨_, rfl⟩
 have hLl : L.length = l0.length := by rw [hL]; exact (isort_perm _ _).length_eq
 have HLF := Aside0.mk (show ∀ f ∈ L, freeOk f = true from fun f h => hf f (by rw [hL] at h; exact (isort_perm (fkey s0 s1 s2 s3) l0).mem_iff.1 h))
 have hpB : placeB l0 s0 s1 s2 s3 (m : Int) = if (placeL s0 s1 s2 s3 m L).length < m then ([], 7) else (placeL s0 s1 s2 s3 m L, 0) := by
  unfold placeB
  rw [if_pos ⟨hg, by omega, by omega⟩, Int.toNat_natCast, hL]
 have HL := Aside0.mk hL
 generalize placeB l0 s0 s1 s2 s3 (m : Int) = pB at *
 have HPB := Aside0.mk hpB
 have q1 : ¬ (m : Int) < 1 := by omega
 have q2 : ¬ (16 : Int) < (m : Int) := by omega
 have hgd : goodShape s0 s1 s2 s3 = true := hg
 clear hr0 hc0 hf hg hL hpB
 go_enter Try.func46, Try.ntmps46
 go_wp2_with (first | ((with_reducible refine gate_dst (N := 4) rfl ?_); refine bx 4 #[.int .i64 s0, .int .i64 s1, .int .i64 s2, .int .i64 s3] 27 ?_; intro gs hggs w1 hxgs hbgs; have HGS := Aside0.mk hxgs; have HB := Aside0.mk hbgs; clear hggs hxgs hbgs; obtain ⟨e0, e1, e2, e3⟩ := k4c HGS) | (go_at_call 83; refine (shape_Check.calls s0 s1 s2 s3 0 _ HCHK.out).mono ?_; rintro e w2 ⟨rfl, hb⟩; replace HGS := Aside0.mk (blk_below HGS.out hb); replace HB := Aside0.mk (below_step HB.out hb); clear hb; obtain ⟨e0, e1, e2, e3⟩ := k4c HGS) | (go_at_call 84; refine (clone84_any A0 c0 l0 _ (Kd.C_below HR0.out HB.out) HC0.out (by omega)).mono ?_; rintro e w5 ⟨v5, rfl, hr5, hb5⟩; obtain ⟨A5, c5, rfl⟩ := Kd.R_slice hr5; have hbs := below_size HB.out; replace HGS := Aside0.mk (blk_below HGS.out hb5); replace HB := Aside0.mk (below_step HB.out hb5); have HR5 := Aside0.mk (Kd.R_lower hr5 hbs); clear hb5 hr5 hbs) | (go_at_call 85; have hb6 := below_alloc (Below.refl w5.heap.size w5) (.cells #[.slice A5 l0.length c5] 22); have hr6 := Kd.R_below HR5.out hb6; have hs6 := blk_below HGS.out hb6; have hl6 := blk_new w5 (.cells #[.slice A5 l0.length c5] 22); refine (sortAny _ _ _ gs w5.heap.size s0 s1 s2 s3 l0 _ hs6 hl6 hr6 hl HF.out).mono ?_; rintro e w7 ⟨rfl, hr7, hg7⟩; have HRW := Aside0.mk hr7; have hgs7 := blk_grown hs6 hg7 (Kd.R_ne hr6 hs6 (by decide)); have hgl7 := blk_grown hl6 hg7 (Kd.R_ne hr6 hl6 (by decide)); replace HB := Aside0.mk (pw_below_grown (below_step HB.out hb6) _ (below_size (below_step HB.out hb6)) hg7 (Kd.R_base hr6)); replace HGS := Aside0.mk hgs7; have HGL := Aside0.mk hgl7; clear hb6 hr6 hs6 hl6 hr7 hg7 hgs7 hgl7; have hz0 : w7.cell? ⟨w5.heap.size, 0, none⟩ = some (.slice A5 l0.length c5) := (blk_cell HGL.out 0).trans rfl))
 rw [← HL.out] at HRW
 go_loopw [9, 34] (fun v9 v34 wr => ∃ (i : Nat) (vo : Value), i ≤ l0.length ∧ v34 = .int .i64 (i : Int) ∧ v9 = vo ∧ Aside0 (Kd.R k52 52 wr w.heap.size (fun _ => True) vo (placeL s0 s1 s2 s3 m (L.take i))) ∧ Aside0 (Kd.R k51 51 wr w.heap.size (fun _ => True) (.slice A5 l0.length c5) L) ∧ Aside0 (wr.heap[gs]? = some (.cells #[.int .i64 s0, .int .i64 s1, .int .i64 s2, .int .i64 s3] 27 (0, 0))) ∧ Aside0 (Below w.heap.size w wr)) (fun _ v34 _ => l0.length - (intOf v34).toNat)
 case atStart => exact ⟨0, _, Nat.zero_le _, rfl, rfl, ⟨Kd.R_nil _ _ _ _ _⟩, HRW, HGS, HB⟩
 case round =>
  clear HRW HGS HB HGL hz0 HR5
  obtain ⟨i, vo, hi, rfl, rfl, HO, HRW, HGS, HB⟩ := hrel
  by_cases hlt : i < l0.length
  ·have hlt' : (i : Int) < l0.length := by omega
   have hiL : i < L.length := by omega
   obtain ⟨x, hx⟩ : ∃ x, L[i]? = some x := ⟨_, List.getElem?_eq_getElem hiL⟩
   have HST := Aside0.mk (show placeL s0 s1 s2 s3 m (L.take (i + 1)) = cutL s0 s1 s2 s3 m 17 x (placeL s0 s1 s2 s3 m (L.take i)) from by
    rw [placeL_take _ _ _ _ _ _ _ hiL]; congr 1; rw [List.getElem?_eq_getElem hiL] at hx; injection hx)
   have HXO := Aside0.mk (HLF.out x (List.mem_of_getElem? hx))
   have hlen := placeL_le s0 s1 s2 s3 m (L.take i)
   obtain ⟨g5, c5', cur5, hv5, _, _, hh5⟩ := own51 HRW.out (by omega)
   injection hv5 with ha5 hn5 hc5
   subst ha5
   clear hn5 hc5
   obtain ⟨x0, x1, x2, x3⟩ := row51 (n := l0.length) HRW.out hx
   clear hh5 hx hiL
   generalize placeL s0 s1 s2 s3 m (L.take i) = out0 at *
   obtain ⟨goal, hgoal⟩ : ∃ g, g = placeL s0 s1 s2 s3 m (L.take (i + 1)) := ⟨_, rfl⟩
   have HGO := Aside0.mk hgoal
   replace HST := HST.out
   rw [← hgoal] at HST
   replace HST := Aside0.mk HST
   clear hgoal
   have HLL := Aside0.mk hLl
   have HGDD := Aside0.mk hgd
   clear hLl hgd
   go_wp2_with (first | ((with_reducible refine gate_dst (N := 11) rfl ?_); refine bx 11 #[.int .i64 0, .int .i64 0, .int .u64 0, .int .i64 0] 51 ?_; intro gf hggf wf hxgf hbgf; have N5 := Aside0.mk (show gf ≠ g5 from by have := Kd.R_lt HRW.out g5 rfl; omega); have hb0 := HB.out; have HXF := Aside0.mk (put4 (a' := .int .i64 x.f0.f0) (b' := .int .i64 x.f0.f1) (c' := .int .u64 x.f1) (d' := .int .i64 x.f2) hxgf); have hb4 := below4 (a' := .int .i64 x.f0.f0) (b' := .int .i64 x.f0.f1) (c' := .int .u64 x.f1) (d' := .int .i64 x.f2) hbgf (Nat.le_of_eq hggf.symm); replace HO := Aside0.mk (Kd.R_below HO.out hb4); replace HRW := Aside0.mk (Kd.R_below HRW.out hb4); replace HGS := Aside0.mk (blk_below HGS.out hb4); replace HB := Aside0.mk (below_step HB.out hb4); have hgfw : w.heap.size ≤ gf := Nat.le_trans (below_size hb0) (Nat.le_of_eq hggf.symm); obtain ⟨c0_, c1_, c2_, c3_⟩ := k4c ⟨hxgf⟩; have z0_ := blk_frozen hxgf 0; have z1_ := blk_frozen hxgf 1; have z2_ := blk_frozen hxgf 2; have z3_ := blk_frozen hxgf 3; clear hb4 hbgf hb0 hggf hxgf))
   have hLl := HLL.out
   have hgd := HGDD.out
   clear x0 x1 x2 x3 c0_ c1_ c2_ c3_ z0_ z1_ z2_ z3_
   go_loopg [9] 17 (fun kq v9 w2 => ∃ (vo : Value) (f : S51) (out : List S52), v9 = vo ∧ m ≤ out.length + kq ∧ out.length ≤ m ∧ Aside0 (freeOk f = true) ∧ Aside0 (cutL s0 s1 s2 s3 m kq f out = goal) ∧ Aside0 (Kd.R k52 52 w2 w.heap.size (fun _ => True) vo out) ∧ Aside0 (w2.heap[gf]? = some (.cells #[.int .i64 f.f0.f0, .int .i64 f.f0.f1, .int .u64 f.f1, .int .i64 f.f2] 51 (0, 0))) ∧ Aside0 (Kd.R k51 51 w2 w.heap.size (fun _ => True) (.slice (some ⟨g5, 0, none⟩) l0.length c5) L) ∧ Aside0 (w2.heap[gs]? = some (.cells #[.int .i64 s0, .int .i64 s1, .int .i64 s2, .int .i64 s3] 27 (0, 0))) ∧ Aside0 (Below w.heap.size w w2))
   case atStart => exact ⟨_, x, out0, rfl, by omega, hlen, HXO, ⟨HST.out.symm⟩, HO, HXF, HRW, HGS, HB⟩
   case round =>
    clear HXO HST HO HXF HRW HGS HB hlen
    obtain ⟨vo, f, out, rfl, hfu, hlen, HFO, HCU, HO, HXF, HRW, HGS, HB⟩ := hrel
    obtain ⟨Ao, co, rfl⟩ := Kd.R_slice HO.out
    have HGF := Aside0.mk (show w.heap.size ≤ gf from hgfw)
    by_cases hlm : out.length < m
    ·have hlm' : (out.length : Int) < (m : Int) := by omega
     obtain ⟨k', hk'⟩ : ∃ k', gk = k' + 1 := ⟨gk - 1, by omega⟩
     rw [hk'] at HCU hfu
     have HKK := Aside0.mk hk'
     clear hk'
     obtain ⟨e0, e1, e2, e3⟩ := k4c HGS
     obtain ⟨f0, f1, f2, f3⟩ := k4c HXF
     by_cases hfit : fitV s0 s1 s2 s3 f.f1 f.f2 = 0
     ·have HPC := Aside0.mk (piece_no f hgd HFO.out hfit)
      have HEQ := Aside0.mk (show out = goal from by rw [← HCU.out, cutL, if_neg (fun h => h.2 hfit)])
      clear hfit hLl hgd
      go_wp2_with (first | (go_at_call 88; refine (shape_Piece.calls s0 s1 s2 s3 f.f0.f0 f.f0.f1 f.f1 f.f2 0 0 0 0 0 0 0 0 7 _ HPC.out).mono ?_; rintro e wp ⟨rfl, hb⟩; replace HXF := Aside0.mk (blk_below HXF.out hb); replace HGS := Aside0.mk (blk_below HGS.out hb); replace HRW := Aside0.mk (Kd.R_below HRW.out hb); replace HO := Aside0.mk (Kd.R_below HO.out hb); replace HB := Aside0.mk (below_step HB.out hb); clear hb) | ((with_reducible refine gate_dst (N := 12) rfl ?_); refine bx 12 #[.int .i64 0, .int .i64 0, .int .u64 0, .int .i64 0] 52 ?_; intro g12 hgg12 wa hxg12 hbg12; have HX12 := Aside0.mk hxg12; have HP := Aside0.mk hbg12; have hg12w : wp.heap.size ≤ g12 := Nat.le_of_eq hgg12.symm; have N12 := Aside0.mk (show some g12 ≠ (.slice Ao out.length co : Value).ownBlock from fun h => by have := Kd.R_lt HO.out g12 h.symm; omega); clear hgg12 hxg12 hbg12) | ((with_reducible refine gate_dst (N := 13) rfl ?_); refine bx 13 #[.int .i64 0, .int .i64 0, .int .u64 0, .int .i64 0] 51 ?_; intro g13 hgg13 wb hxg13 hbg13; have HX13 := Aside0.mk hxg13; have N1213 := Aside0.mk (show g12 ≠ g13 from by have := blk_lt HX12.out; omega); replace HX12 := Aside0.mk (blk_below HX12.out hbg13); have hg13w : wp.heap.size ≤ g13 := (by have := below_size HP.out; omega); replace HP := Aside0.mk (below_step HP.out hbg13); clear hgg13 hxg13 hbg13; obtain ⟨c0_, c1_, c2_, c3_⟩ := k4c HX12; have z0_ := blk_frozen HX12.out 0; have z1_ := blk_frozen HX12.out 1; have z2_ := blk_frozen HX12.out 2; have z3_ := blk_frozen HX12.out 3; obtain ⟨d0_, d1_, d2_, d3_⟩ := k4c HX13; have y0_ := blk_frozen HX13.out 0; have y1_ := blk_frozen HX13.out 1; have y2_ := blk_frozen HX13.out 2; have y3_ := blk_frozen HX13.out 3; have n1_ := N1213.out; have n2_ := N1213.out.symm))
      go_roundw
      case rel => exact ⟨i + 1, _, by omega, by go_num, rfl, ⟨by rw [← HGO.out, ← HEQ.out]; exact Kd.R_below HO.out (below4 (below4 HP.out hg12w) hg13w)⟩, ⟨Kd.R_below HRW.out (below4 (below4 HP.out hg12w) hg13w)⟩, ⟨blk_below HGS.out (below4 (below4 HP.out hg12w) hg13w)⟩, ⟨below_step HB.out (below4 (below4 HP.out hg12w) hg13w)⟩⟩
      case measure => simp [intOf]; omega
     ·have HPC := Aside0.mk (piece_yes f hgd HFO.out hfit)
      have HEQ := Aside0.mk (show cutL s0 s1 s2 s3 m k' (leftF s0 s1 f) (out ++ [pieceL s0 s1 f]) = goal from by rw [← HCU.out, cutL, if_pos ⟨hlm, hfit⟩])
      have HFL := Aside0.mk (leftF_ok s0 s1 HFO.out)
      clear hfit hLl hgd
      go_wp2_with (first | (go_at_call 88; refine (shape_Piece.calls s0 s1 s2 s3 f.f0.f0 f.f0.f1 f.f1 f.f2 f.f0.f0 f.f0.f1 (lowI f.f1 s0) s1 f.f0.f0 f.f0.f1 (Go.bits .andNot .u64 f.f1 (lowI f.f1 s0)) (wrap64 (f.f2 - s1)) 0 _ HPC.out).mono ?_; rintro e wp ⟨rfl, hb⟩; replace HXF := Aside0.mk (blk_below HXF.out hb); replace HGS := Aside0.mk (blk_below HGS.out hb); replace HRW := Aside0.mk (Kd.R_below HRW.out hb); replace HO := Aside0.mk (Kd.R_below HO.out hb); replace HB := Aside0.mk (below_step HB.out hb); clear hb) | ((with_reducible refine gate_dst (N := 12) rfl ?_); refine bx 12 #[.int .i64 0, .int .i64 0, .int .u64 0, .int .i64 0] 52 ?_; intro g12 hgg12 wa hxg12 hbg12; have HX12 := Aside0.mk hxg12; have HP := Aside0.mk hbg12; have hg12w : wp.heap.size ≤ g12 := Nat.le_of_eq hgg12.symm; have N12 := Aside0.mk (show some g12 ≠ (.slice Ao out.length co : Value).ownBlock from fun h => by have := Kd.R_lt HO.out g12 h.symm; omega); clear hgg12 hxg12 hbg12) | ((with_reducible refine gate_dst (N := 13) rfl ?_); refine bx 13 #[.int .i64 0, .int .i64 0, .int .u64 0, .int .i64 0] 51 ?_; intro g13 hgg13 wb hxg13 hbg13; have HX13 := Aside0.mk hxg13; have N1213 := Aside0.mk (show g12 ≠ g13 from by have := blk_lt HX12.out; omega); replace HX12 := Aside0.mk (blk_below HX12.out hbg13); have hg13w : wp.heap.size ≤ g13 := (by have := below_size HP.out; omega); replace HP := Aside0.mk (below_step HP.out hbg13); clear hgg13 hxg13 hbg13; obtain ⟨c0_, c1_, c2_, c3_⟩ := k4c HX12; have z0_ := blk_frozen HX12.out 0; have z1_ := blk_frozen HX12.out 1; have z2_ := blk_frozen HX12.out 2; have z3_ := blk_frozen HX12.out 3; obtain ⟨d0_, d1_, d2_, d3_⟩ := k4c HX13; have y0_ := blk_frozen HX13.out 0; have y1_ := blk_frozen HX13.out 1; have y2_ := blk_frozen HX13.out 2; have y3_ := blk_frozen HX13.out 3; have n1_ := N1213.out; have n2_ := N1213.out.symm))
      have hP8 := below_drew1 (below4 (a' := .int .i64 (f.f0.f0)) (b' := .int .i64 (f.f0.f1)) (c' := .int .u64 (Go.bits .andNot .u64 f.f1 (lowI f.f1 s0))) (d' := .int .i64 (wrap64 (f.f2 - s1))) (below4 (a' := .int .i64 (f.f0.f0)) (b' := .int .i64 (f.f0.f1)) (c' := .int .u64 (lowI f.f1 s0)) (d' := .int .i64 (s1)) HP.out hg12w) hg13w)
      have hx12 := blk_drew (far4 (a' := .int .i64 (f.f0.f0)) (b' := .int .i64 (f.f0.f1)) (c' := .int .u64 (Go.bits .andNot .u64 f.f1 (lowI f.f1 s0))) (d' := .int .i64 (wrap64 (f.f2 - s1))) (put4 (a' := .int .i64 (f.f0.f0)) (b' := .int .i64 (f.f0.f1)) (c' := .int .u64 (lowI f.f1 s0)) (d' := .int .i64 (s1)) HX12.out) N1213.out)
      have hx13 := blk_drew (put4 (a' := .int .i64 (f.f0.f0)) (b' := .int .i64 (f.f0.f1)) (c' := .int .u64 (Go.bits .andNot .u64 f.f1 (lowI f.f1 s0))) (d' := .int .i64 (wrap64 (f.f2 - s1))) (far4 (a' := .int .i64 (f.f0.f0)) (b' := .int .i64 (f.f0.f1)) (c' := .int .u64 (lowI f.f1 s0)) (d' := .int .i64 (s1)) HX13.out N1213.out.symm))
      replace HXF := Aside0.mk (blk_below HXF.out hP8)
      replace HGS := Aside0.mk (blk_below HGS.out hP8)
      replace HRW := Aside0.mk (Kd.R_below HRW.out hP8)
      replace HO := Aside0.mk (Kd.R_below HO.out hP8)
      replace HB := Aside0.mk (below_step HB.out hP8)
      replace HX12 := Aside0.mk hx12
      replace HX13 := Aside0.mk hx13
      have HT_ := Aside0.mk tab46
      have HW_ := Aside0.mk bits46
      clear hP8 hx12 hx13 HP c0_ c1_ c2_ c3_ z0_ z1_ z2_ z3_ d0_ d1_ d2_ d3_ y0_ y1_ y2_ y3_ n1_ n2_
      refine start_ (n := 7) (S := fun w' => w'.cell? ⟨g12, 0, none⟩ = some (.int .i64 (f.f0.f0)) ∧ w'.cell? ⟨g12, 1, none⟩ = some (.int .i64 (f.f0.f1)) ∧ w'.cell? ⟨g12, 2, none⟩ = some (.int .u64 (lowI f.f1 s0)) ∧ w'.cell? ⟨g12, 3, none⟩ = some (.int .i64 (s1)) ∧ w'.cell? ⟨g13, 0, none⟩ = some (.int .i64 (f.f0.f0)) ∧ w'.cell? ⟨g13, 1, none⟩ = some (.int .i64 (f.f0.f1)) ∧ w'.cell? ⟨g13, 2, none⟩ = some (.int .u64 (Go.bits .andNot .u64 f.f1 (lowI f.f1 s0))) ∧ w'.cell? ⟨g13, 3, none⟩ = some (.int .i64 (wrap64 (f.f2 - s1)))) (ds := [6]) (bm 7 0) (by kernel_rfl) rfl rfl ⟨(blk_cell HX12.out 0).trans rfl, (blk_cell HX12.out 1).trans rfl, (blk_cell HX12.out 2).trans rfl, (blk_cell HX12.out 3).trans rfl, (blk_cell HX13.out 0).trans rfl, (blk_cell HX13.out 1).trans rfl, (blk_cell HX13.out 2).trans rfl, (blk_cell HX13.out 3).trans rfl⟩ (fun hHeld => ?_)
      generalize World.drew _ = wq0 at HX12 HX13 HXF HGS HRW HB HO hHeld ⊢
      refine pu 0 (some 51) (bm 7 1) ?_
      refine tk8 1 (some 52) (bm 7 3) ?_
      refine tk8 4 (some 55) (bm 7 19) ?_
      refine one_ (i := 2) (N := some 53) (bm 7 23) rfl rfl (one_of HT_.out (by kernel_rfl)) (by decide) (fun K hK => ?_)
      refine value_ (w1 := ?_) (v := ?_) (by rfl) rfl ?_ ?_
      rotate_left 2
      ·go_simp
       constructor
       ·rfl
       ·rfl
      refine hK.out _ _ ⟨(blk_cell (blk_alloc HX12.out _) 0).trans rfl, (blk_cell (blk_alloc HX12.out _) 1).trans rfl, (blk_cell (blk_alloc HX12.out _) 2).trans rfl, (blk_cell (blk_alloc HX12.out _) 3).trans rfl, (blk_cell (blk_alloc HX13.out _) 0).trans rfl, (blk_cell (blk_alloc HX13.out _) 1).trans rfl, (blk_cell (blk_alloc HX13.out _) 2).trans rfl, (blk_cell (blk_alloc HX13.out _) 3).trans rfl⟩ (fun hHeld => ?_)
      clear hK K
      refine norm_ (a' := ?_) ?_ ?_
      rotate_left
      ·show Act.put _ (some 53) _ = _
       simp only [Act.put, List.setIfInBounds_toArray, List.set_cons_zero, List.set_cons_succ, i64_w, i32_w]
       rfl
      refine one_ (i := 3) (N := some 54) (bm 7 31) rfl rfl (one_of HT_.out (by kernel_rfl)) (by decide) (fun K hK => ?_)
      refine Kd.R_append_step k52 (w0 := w) w.heap.size (by rfl) (.tmp 51) (.tmp 53) 39 52 (.agg #[(.int .i64 0), (.int .i64 0), (.int .u64 0), (.int .i64 0)]) 32 rfl Try.underlying39 info52 rfl (by decide) (by omega) (.slice Ao out.length co) out (pieceL s0 s1 f) [.int .i64 (f.f0.f0), .int .i64 (f.f0.f1), .int .u64 (lowI f.f1 s0), .int .i64 (s1)] (fun _ => True) (fun _ => False) rfl rfl (k52_mkM _ _ _ (pieceL s0 s1 f)) (fun _ hk => hk.elim) (fun _ _ => trivial) HO.out HB.out (below_size HB.out) (by omega) ?_
      intro v54 wn ho hb hg hat
      have hx12 := blk_grown HX12.out hg (N12.out)
      have hx13 := blk_grown HX13.out hg (Kd.R_ne HO.out HX13.out (by decide))
      replace HXF := Aside0.mk (blk_grown HXF.out hg (Kd.R_ne HO.out HXF.out (by decide)))
      replace HGS := Aside0.mk (blk_grown HGS.out hg (Kd.R_ne HO.out HGS.out (by decide)))
      replace HRW := Aside0.mk (Kd.R_over' HRW.out (Kd.R_typed HO.out) (by decide) hg)
      replace HX12 := Aside0.mk hx12
      replace HX13 := Aside0.mk hx13
      replace HB := Aside0.mk hb
      replace HO := Aside0.mk ho
      clear ho hb hg hat hx12 hx13 N12
      refine hK.out _ _ ⟨(blk_cell HX12.out 0).trans rfl, (blk_cell HX12.out 1).trans rfl, (blk_cell HX12.out 2).trans rfl, (blk_cell HX12.out 3).trans rfl, (blk_cell HX13.out 0).trans rfl, (blk_cell HX13.out 1).trans rfl, (blk_cell HX13.out 2).trans rfl, (blk_cell HX13.out 3).trans rfl⟩ (fun hHeld => ?_)
      clear hK K
      refine norm_ (a' := ?_) ?_ ?_
      rotate_left
      ·show Act.put _ (some 54) _ = _
       simp only [Act.put, List.setIfInBounds_toArray, List.set_cons_zero, List.set_cons_succ, i64_w, i32_w]
       rfl
      refine pu 5 (some 9) (bm 7 63) ?_
      refine last_ (i := 6) (N := none) (bm 7 127) rfl rfl (one_of HT_.out (by kernel_rfl)) (by decide) (fun K hK => ?_)
      have hz0 := blk_frozen HXF.out 0
      have hz1 := blk_frozen HXF.out 1
      have hz2 := blk_frozen HXF.out 2
      have hz3 := blk_frozen HXF.out 3
      have hc0 := blk_cell HXF.out 0
      have hc1 := blk_cell HXF.out 1
      have hc2 := blk_cell HXF.out 2
      have hc3 := blk_cell HXF.out 3
      refine skip_ (w1 := ?_) (by rfl) rfl ?_ ?_
      rotate_left
      ·go_simp
       rfl
      refine hK.out _ _ ?_
      clear hK K hz0 hz1 hz2 hz3 hc0 hc1 hc2 hc3
      refine done_ (done_of HT_.out (by kernel_rfl)) ?_
      go_wp2
      go_roundg k'
      case rel => exact ⟨_, leftF s0 s1 f, out ++ [pieceL s0 s1 f], rfl, by simp; omega, by simp; omega, HFL, HEQ, ⟨Kd.R_grown2 HO.out rfl (grown4 wn gf) (fun k hk => by injection hk with hk; subst hk; exact Kd.R_ne HO.out HXF.out (by decide))⟩, ⟨put4 HXF.out⟩, ⟨Kd.R_grown2 HRW.out rfl (grown4 wn gf) (fun k hk => by injection hk with hk; subst hk; exact fun e => N5.out (by simpa [Value.ownBlock] using e))⟩, ⟨far4 HGS.out (blk_ne HGS.out HXF.out (by decide))⟩, ⟨below4 HB.out HGF.out⟩⟩
      case measure => have := HKK.out; omega
    ·have hlm' : ¬ (out.length : Int) < (m : Int) := by omega
     have HEQ := Aside0.mk (show out = goal from by
      rw [← HCU.out]
      cases gk with
      | zero => rfl
      | succ k => rw [cutL, if_neg (fun h => hlm h.1)])
     clear hLl hgd
     go_wp2
     go_roundw
     case rel => exact ⟨i + 1, _, by omega, by go_num, rfl, ⟨by rw [← HGO.out, ← HEQ.out]; exact HO.out⟩, HRW, HGS, HB⟩
     case measure => simp [intOf]; omega
  ·obtain rfl : i = l0.length := by omega
   have htk : L.take l0.length = L := List.take_of_length_le (by omega)
   rw [htk] at HO
   have hpb0 := HPB.out
   clear HPB
   generalize placeL s0 s1 s2 s3 m L = out at *
   have HPB := Aside0.mk hpb0
   clear hpb0 htk
   obtain ⟨Ao, co, rfl⟩ := Kd.R_slice HO.out
   by_cases hlm : out.length < m
   ·have hlm' : (out.length : Int) < (m : Int) := by omega
    have hpb := HPB.out
    rw [if_pos hlm] at hpb
    subst hpb
    go_wp2
    go_ret2
    exact ⟨_, rfl, Kd.R_nil _ _ _ _ _, HB.out⟩
   ·have hlm' : ¬ (out.length : Int) < (m : Int) := by omega
    have hpb := HPB.out
    rw [if_neg hlm] at hpb
    subst hpb
    go_wp2
    go_ret2
    exact ⟨_, rfl, HO.out, HB.out⟩
set_option maxHeartbeats 8000000 in
set_option maxRecDepth 100000 in
theorem place_bad (A0 : Option Addr) (c0 n0 : Nat) (s0 s1 s2 s3 m : Int) (w : World) (hb : ¬ (goodShape s0 s1 s2 s3 = true ∧ 1 ≤ m ∧ m ≤ 16)) :
  Calls Try.prog 46 #[.slice A0 n0 c0, .agg #[.int .i64 s0, .int .i64 s1, .int .i64 s2, .int .i64 s3], .int .i64 m] w fun e w' => ∃ v0_ : Value, e = .returned (.tuple #[v0_, .int .i64 1]) ∧ Kd.R k52 52 w' w.heap.size (fun _ => True) v0_ [] ∧ Below w.heap.size w w' := by
 have hu27 := Try.underlying27
 by_cases hg : goodShape s0 s1 s2 s3 = true
 ·have HCHK := Aside0.mk (show shape_Check.f s0 s1 s2 s3 = some 0 from by unfold shape_Check.f; rw [if_pos hg])
  have hm : ¬ (1 ≤ m ∧ m ≤ 16) := fun h => hb ⟨hg, h⟩
  clear hb hg
  by_cases h1 : m < 1
  ·have q1 : decide (m < 1) = true := by simp; omega
   clear hm
   go_enter Try.func46, Try.ntmps46
   go_wp2_with (first | ((with_reducible refine gate_dst (N := 4) rfl ?_); refine bx 4 #[.int .i64 s0, .int .i64 s1, .int .i64 s2, .int .i64 s3] 27 ?_; intro gs hggs w1 hxgs hbgs; have HGS := Aside0.mk hxgs; have HB := Aside0.mk hbgs; clear hggs hxgs hbgs; obtain ⟨e0, e1, e2, e3⟩ := k4c HGS) | (go_at_call 83; refine (shape_Check.calls s0 s1 s2 s3 0 _ HCHK.out).mono ?_; rintro e w2 ⟨rfl, hb⟩; replace HB := Aside0.mk (below_step HB.out hb); clear hb))
   go_ret2
   exact ⟨_, rfl, Kd.R_nil _ _ _ _ _, HB.out⟩
  ·have q1 : decide (m < 1) = false := by simp; omega
   have q2 : decide (16 < m) = true := by simp; omega
   clear hm
   go_enter Try.func46, Try.ntmps46
   go_wp2_with (first | ((with_reducible refine gate_dst (N := 4) rfl ?_); refine bx 4 #[.int .i64 s0, .int .i64 s1, .int .i64 s2, .int .i64 s3] 27 ?_; intro gs hggs w1 hxgs hbgs; have HGS := Aside0.mk hxgs; have HB := Aside0.mk hbgs; clear hggs hxgs hbgs; obtain ⟨e0, e1, e2, e3⟩ := k4c HGS) | (go_at_call 83; refine (shape_Check.calls s0 s1 s2 s3 0 _ HCHK.out).mono ?_; rintro e w2 ⟨rfl, hb⟩; replace HB := Aside0.mk (below_step HB.out hb); clear hb))
   go_ret2
   exact ⟨_, rfl, Kd.R_nil _ _ _ _ _, HB.out⟩
 ·have HCHK := Aside0.mk (show shape_Check.f s0 s1 s2 s3 = some 1 from by unfold shape_Check.f; rw [if_neg hg])
  clear hb hg
  go_enter Try.func46, Try.ntmps46
  go_wp2_with (first | ((with_reducible refine gate_dst (N := 4) rfl ?_); refine bx 4 #[.int .i64 s0, .int .i64 s1, .int .i64 s2, .int .i64 s3] 27 ?_; intro gs hggs w1 hxgs hbgs; have HGS := Aside0.mk hxgs; have HB := Aside0.mk hbgs; clear hggs hxgs hbgs; obtain ⟨e0, e1, e2, e3⟩ := k4c HGS) | (go_at_call 83; refine (shape_Check.calls s0 s1 s2 s3 1 _ HCHK.out).mono ?_; rintro e w2 ⟨rfl, hb⟩; replace HB := Aside0.mk (below_step HB.out hb); clear hb))
  go_ret2
  exact ⟨_, rfl, Kd.R_nil _ _ _ _ _, HB.out⟩
theorem pack_Place.calls (A0 : Option Addr) (c0 : Nat) (l0 : List (S51)) (a1_0 : Int) (a1_1 : Int) (a1_2 : Int) (a1_3 : Int) (a2 : Int) (r1 : List (S52)) (r2 : Int) (w : World) (hr0 : Kd.C k51 w A0 l0.length l0) (hc0 : l0.length ≤ c0) (h : pack_Place.f l0 a1_0 a1_1 a1_2 a1_3 a2 = some (r1, r2)) :
  Calls Try.prog 46 #[.slice A0 l0.length c0, .agg #[.int .i64 a1_0, .int .i64 a1_1, .int .i64 a1_2, .int .i64 a1_3], .int .i64 a2] w fun e w' => ∃ v0_ : Value, e = .returned (.tuple #[v0_, .int .i64 r2]) ∧ Kd.R k52 52 w' w.heap.size (fun _ => True) v0_ r1 ∧ Below w.heap.size w w' := by
 unfold pack_Place.f at h
 by_cases hok : placeOk l0 = true
 case neg => rw [if_neg hok] at h; cases h
 rw [if_pos hok] at h
 injection h with h
 unfold placeOk at hok
 simp only [Bool.and_eq_true, List.all_eq_true, decide_eq_true_eq] at hok
 by_cases hb : goodShape a1_0 a1_1 a1_2 a1_3 = true ∧ 1 ≤ a2 ∧ a2 ≤ 16
 ·obtain ⟨m, rfl⟩ := Int.eq_ofNat_of_zero_le (show 0 ≤ a2 by omega)
  have := place_any A0 c0 l0 a1_0 a1_1 a1_2 a1_3 m w hr0 hc0 hok.1 hok.2 hb.1 (by omega) (by omega)
  rw [h] at this
  exact this
 ·unfold placeB at h
  rw [if_neg hb] at h
  injection h with h1 h2
  subst h1 h2
  exact place_bad A0 c0 l0.length a1_0 a1_1 a1_2 a1_3 a2 w hb
end Go.Proofs.Ytckhjehibjdjdaa.P
namespace Go.Proofs.Ytckhjehibjdjdaa.P
open Go.RowKit Go.Proofs.YtckhjehibjdjdaaW.PrintWords Go.Proofs.YtckhjehibjdjdaaW.PrintLast Go.Proofs.YtckhjehibjdjdaaW.PrintMore
attribute [local go_sem] max2_int min2_int max_two min_two max_three min_three max_four min_four
set_option linter.unusedVariables false
set_option linter.unusedSimpArgs false
attribute [local go_sem high] eqA52
def ensemblelaw05_awake.f  : Option (Bool) := (pack_Place.f (([(⟨(⟨0, 0⟩ : S48), 1, 0⟩ : S51), (⟨(⟨1, 0⟩ : S48), 7, 0⟩ : S51)] : List (S51))) 1 0 1 3 4).bind fun bt483 => (if bt483.2 = 0 then (if (bt483.1.length : Int) = 4 then (if 0 < (bt483.1.length : Int) then (if ((rd_T52 bt483.1 0).f0.f0) = 1 then (if ((rd_T52 bt483.1 0).f1) = 1 then (if 2 < (bt483.1.length : Int) then (if ((rd_T52 bt483.1 2).f1) = 4 then (if 3 < (bt483.1.length : Int) then (some ((((rd_T52 bt483.1 3).f0.f0) == 0 && (((rd_T52 bt483.1 3).f0.f1) == 0)) && (((rd_T52 bt483.1 3).f1) == 1 && (((rd_T52 bt483.1 3).f2) == 0)))) else (none)) else (some false)) else (none)) else (some false)) else (some false)) else (none)) else (some false)) else (some false))
set_option maxHeartbeats 8000000 in
set_option maxRecDepth 100000 in
theorem ensemblelaw05_awake.calls  (r : Bool) (w : World) (h : ensemblelaw05_awake.f  = some r) (hr_ : r = true := by rfl) :
  Calls Try.prog 43 #[] w fun e w' => e = .returned (.bool r) ∧ Below w.heap.size w w' := by
 have hu27 := Try.underlying27
 have hu51 := Try.underlying51
 have hu48 := Try.underlying48
 have hu52 := Try.underlying52
 have HB := Aside0.mk (Below.refl w.heap.size w)
 have H : ((pack_Place.f (([(⟨(⟨0, 0⟩ : S48), 1, 0⟩ : S51), (⟨(⟨1, 0⟩ : S48), 7, 0⟩ : S51)] : List (S51))) 1 0 1 3 4).bind fun bt483 => (if bt483.2 = 0 then (if (bt483.1.length : Int) = 4 then (if 0 < (bt483.1.length : Int) then (if ((rd_T52 bt483.1 0).f0.f0) = 1 then (if ((rd_T52 bt483.1 0).f1) = 1 then (if 2 < (bt483.1.length : Int) then (if ((rd_T52 bt483.1 2).f1) = 4 then (if 3 < (bt483.1.length : Int) then (some ((((rd_T52 bt483.1 3).f0.f0) == 0 && (((rd_T52 bt483.1 3).f0.f1) == 0)) && (((rd_T52 bt483.1 3).f1) == 1 && (((rd_T52 bt483.1 3).f2) == 0)))) else (none)) else (some false)) else (none)) else (some false)) else (some false)) else (none)) else (some false)) else (some false))) = some r := h
 clear h
 obtain ⟨y480, hy480⟩ : ∃ y_ : List (S51), y_ = (([(⟨(⟨0, 0⟩ : S48), 1, 0⟩ : S51), (⟨(⟨1, 0⟩ : S48), 7, 0⟩ : S51)] : List (S51))) := ⟨_, rfl⟩
 replace H : ((pack_Place.f y480 1 0 1 3 4).bind fun bt483 => (if bt483.2 = 0 then (if (bt483.1.length : Int) = 4 then (if 0 < (bt483.1.length : Int) then (if ((rd_T52 bt483.1 0).f0.f0) = 1 then (if ((rd_T52 bt483.1 0).f1) = 1 then (if 2 < (bt483.1.length : Int) then (if ((rd_T52 bt483.1 2).f1) = 4 then (if 3 < (bt483.1.length : Int) then (some ((((rd_T52 bt483.1 3).f0.f0) == 0 && (((rd_T52 bt483.1 3).f0.f1) == 0)) && (((rd_T52 bt483.1 3).f1) == 1 && (((rd_T52 bt483.1 3).f2) == 0)))) else (none)) else (some false)) else (none)) else (some false)) else (some false)) else (none)) else (some false)) else (some false))) = some r := by first | (rw [hy480]; with_reducible exact H) | (have H2_ := (Option.bind_some _ _).symm.trans H; rw [hy480]; with_reducible exact H2_) | (have H2_ := (Option.bind_some _ _).symm.trans H; with_reducible exact H2_) | with_reducible exact H | (rw [hy480]; exact H) | exact H
 have Ny480 := Aside0.mk hy480
 clear hy480
 replace H := Option.bind_eq_some_iff.mp H
 obtain ⟨⟨t483, t486⟩, A10, H⟩ := H
 replace H : (if t486 = 0 then (if (t483.length : Int) = 4 then (if 0 < (t483.length : Int) then (if ((rd_T52 t483 0).f0.f0) = 1 then (if ((rd_T52 t483 0).f1) = 1 then (if 2 < (t483.length : Int) then (if ((rd_T52 t483 2).f1) = 4 then (if 3 < (t483.length : Int) then (some ((((rd_T52 t483 3).f0.f0) == 0 && (((rd_T52 t483 3).f0.f1) == 0)) && (((rd_T52 t483 3).f1) == 1 && (((rd_T52 t483 3).f2) == 0)))) else (none)) else (some false)) else (none)) else (some false)) else (some false)) else (none)) else (some false)) else (some false)) = some r := H
 have A1 := Aside0.mk A10
 clear A10
 by_cases c2 : t486 = 0
 ·rw [if_pos c2] at H
  have c2b0 : (t486 == 0) = true := beq_iff_eq.mpr c2
  have c2b1 : (t486 != 0) = false := bne_eq_false_iff_eq.mpr c2
  clear c2
  by_cases c3 : (t483.length : Int) = 4
  ·rw [if_pos c3] at H
   have c3b0 : ((t483.length : Int) == 4) = true := beq_iff_eq.mpr c3
   have c3b1 : ((t483.length : Int) != 4) = false := bne_eq_false_iff_eq.mpr c3
   clear c3
   by_cases c4 : 0 < (t483.length : Int)
   ·rw [if_pos c4] at H
    have c4b0 : decide (0 < (t483.length : Int)) = true := decide_eq_true c4
    have c4b1 : decide (0 < t483.length) = true := decide_eq_true (by omega)
    clear c4
    by_cases c5 : ((rd_T52 t483 0).f0.f0) = 1
    ·rw [if_pos c5] at H
     have c5b0 : (((rd_T52 t483 0).f0.f0) == 1) = true := beq_iff_eq.mpr c5
     have c5b1 : (((rd_T52 t483 0).f0.f0) != 1) = false := bne_eq_false_iff_eq.mpr c5
     clear c5
     by_cases c6 : ((rd_T52 t483 0).f1) = 1
     ·rw [if_pos c6] at H
      have c6b0 : (((rd_T52 t483 0).f1) == 1) = true := beq_iff_eq.mpr c6
      have c6b1 : (((rd_T52 t483 0).f1) != 1) = false := bne_eq_false_iff_eq.mpr c6
      clear c6
      by_cases c7 : 2 < (t483.length : Int)
      ·rw [if_pos c7] at H
       have c7b0 : decide (2 < (t483.length : Int)) = true := decide_eq_true c7
       have c7b1 : decide (2 < t483.length) = true := decide_eq_true (by omega)
       clear c7
       by_cases c8 : ((rd_T52 t483 2).f1) = 4
       ·rw [if_pos c8] at H
        have c8b0 : (((rd_T52 t483 2).f1) == 4) = true := beq_iff_eq.mpr c8
        have c8b1 : (((rd_T52 t483 2).f1) != 4) = false := bne_eq_false_iff_eq.mpr c8
        clear c8
        by_cases c9 : 3 < (t483.length : Int)
        ·rw [if_pos c9] at H
         have c9b0 : decide (3 < (t483.length : Int)) = true := decide_eq_true c9
         have c9b1 : decide (3 < t483.length) = true := decide_eq_true (by omega)
         clear c9
         clear hr_
         obtain rfl := Option.some.inj H
         go_enter Try.func43, Try.ntmps43
         go_wp2_with (first | ((with_reducible refine gate_dst (N := 1) rfl ?_); (try (refine gate_guard (by rfl) ?_; dsimp only)); refine bx 1 #[.int .i64 0, .int .i64 0, .int .i64 0, .int .i64 0] 27 ?_; intro gb479 hg w10 hbox hb; have BK479 := Aside0.mk (hbox); have GW479 := ge_ hg; have GE479 := ge_ hg; replace HB := hs_ hb; clear hb hbox hg; obtain ⟨hcz11_0, hcz11_1, hcz11_2, hcz11_3, hfz11_0, hfz11_1, hfz11_2, hfz11_3⟩ := bz4_ BK479) | ((with_reducible refine gate_dst (N := 9) rfl ?_); (try (refine gate_guard (by rfl) ?_; dsimp only)); refine Kd.R_lit k51 _ 51 ?hg (N := 9) ?hd (xs := ([(⟨(⟨0, 0⟩ : S48), 1, 0⟩ : S51), (⟨(⟨1, 0⟩ : S48), 7, 0⟩ : S51)] : List (S51))) (inner := [.int .i64 0, .int .i64 0, .int .u64 1, .int .i64 0, .int .i64 1, .int .i64 0, .int .u64 7, .int .i64 0]) (ok := fun _ => True) (okp := fun _ => True) ?hr ?hp (fun _ hk => hk) trivial (Below.refl _ _) (Nat.le_refl _) (by simp) ?_; (case hd => rfl); (case hg => rfl); (case hr => first | (go_simp; done) | (go_simp; rfl)); (case hp => exact (Reps.c4 (show Kd.M k51 _ _ _ (⟨(⟨0, 0⟩ : S48), 1, 0⟩ : S51) [.int .i64 0, .int .i64 0, .int .u64 1, .int .i64 0] from (k51_mkM _ _ _ (⟨(⟨0, 0⟩ : S48), 1, 0⟩ : S51) )) (Reps.c4 (show Kd.M k51 _ _ _ (⟨(⟨1, 0⟩ : S48), 7, 0⟩ : S51) [.int .i64 1, .int .i64 0, .int .u64 7, .int .i64 0] from (k51_mkM _ _ _ (⟨(⟨1, 0⟩ : S48), 7, 0⟩ : S51) )) (Reps.none _ _)))); intro v481 w12 ho13 hb hg_ hnew_; clear hg_ hnew_; (first | rw [← Ny480.out] at ho13 | (simp only [Int.reduceToNat] at ho13; rw [← Ny480.out] at ho13)); have HO482 := Aside0.mk (Kd.R_lower ho13 (below_size hb_)); replace BK479 := Aside0.mk (blk_below (g := gb479) (o := .cells #[.int .i64 1, .int .i64 0, .int .i64 1, .int .i64 3] 27 (0, 0)) (by (with_reducible repeat (first | refine blk_drewN ?_ _ | refine blk_drew ?_ | refine blk_alloc ?_ _)); refine blk_put (cs := #[.int .i64 1, .int .i64 0, .int .i64 1, .int .i64 0]) ?_ 3 _ rfl; (with_reducible repeat (first | refine blk_drewN ?_ _ | refine blk_drew ?_ | refine blk_alloc ?_ _)); refine blk_put (cs := #[.int .i64 1, .int .i64 0, .int .i64 0, .int .i64 0]) ?_ 2 _ rfl; (with_reducible repeat (first | refine blk_drewN ?_ _ | refine blk_drew ?_ | refine blk_alloc ?_ _)); refine blk_put (cs := #[.int .i64 1, .int .i64 0, .int .i64 0, .int .i64 0]) ?_ 1 _ rfl; (with_reducible repeat (first | refine blk_drewN ?_ _ | refine blk_drew ?_ | refine blk_alloc ?_ _)); refine blk_put (cs := #[.int .i64 0, .int .i64 0, .int .i64 0, .int .i64 0]) ?_ 0 _ rfl; (with_reducible repeat (first | refine blk_drewN ?_ _ | refine blk_drew ?_ | refine blk_alloc ?_ _)); exact BK479.out) hb); replace HB := hs_ hb; clear hb ho13; obtain ⟨hcz14_0, hcz14_1, hcz14_2, hcz14_3, hfz14_0, hfz14_1, hfz14_2, hfz14_3⟩ := bz4_ BK479; obtain ⟨Ao15, co15, eo15⟩ := Kd.R_slice HO482.out; subst eo15) | ((with_reducible refine gate_callee (f := 46) rfl ?_); refine goesL_ (some 11) rfl rfl Try.func46 (by kernel_rfl) rfl #[.slice Ao15 y480.length co15, .agg #[.int .i64 1, .int .i64 0, .int .i64 1, .int .i64 3], .int .i64 4] rfl Z0 ?_; (with_reducible refine (pack_Place.calls _ _ y480 1 0 1 3 4 t483 t486 _ ?side1 ?side2 A1.out).mono ?_); (case side1 => repeat (first | exact (Kd.R_reads' HO482.out).2.2 | (with_reducible refine Kd.C_alloc ?_ _) | (with_reducible refine Kd.C_drewN ?_ _) | (with_reducible refine Kd.C_drew ?_))); (case side2 => exact (Kd.R_reads' HO482.out).2.1); rintro e w16 ⟨v484, rfl, ho0, hb⟩; refine ⟨_, rfl, ?_⟩; have HO485 := Aside0.mk (Kd.R_lower ho0 (below_size hb_)); replace HO482 := Aside0.mk (Kd.R_below (by (with_reducible repeat (first | apply Kd.R_alloc | apply Kd.R_drewN | apply Kd.R_drew)); exact HO482.out) hb); replace BK479 := bk_ BK479 hb; replace HB := hs_ hb; (try clear hb); (try clear hb2); (try clear hk); (try clear hi); (try clear ho0); obtain ⟨Ao17, co17, eo17⟩ := Kd.R_slice HO485.out; subst eo17; have p487 : 0 ≤ (0 : Int) := (by omega); have q487 : 0 < (t483.length : Int) := of_decide_eq_true Z1; obtain ⟨ad487, e487, hx487_0, hx487_1, hx487_2, hx487_3⟩ := at_T52 (Kd.R_reads' HO485.out).2.2 0 p487 q487; cases e487; have qi487 : (0 < t483.length) = True := eq_true (by omega); (try rw [show ((0 : Int)).toNat = 0 from rfl] at hx487_0); (try rw [show 0 * 4 = 0 from rfl] at hx487_0); (try rw [Addr.add_zero'] at hx487_0); (try rw [show ((0 : Int)).toNat = 0 from rfl] at hx487_1); (try rw [show 0 * 4 = 0 from rfl] at hx487_1); (try rw [Addr.add_zero'] at hx487_1); (try rw [show ((0 : Int)).toNat = 0 from rfl] at hx487_2); (try rw [show 0 * 4 = 0 from rfl] at hx487_2); (try rw [Addr.add_zero'] at hx487_2); (try rw [show ((0 : Int)).toNat = 0 from rfl] at hx487_3); (try rw [show 0 * 4 = 0 from rfl] at hx487_3); (try rw [Addr.add_zero'] at hx487_3); replace p487 := eq_true p487; replace q487 := eq_true q487; have p488 : 0 ≤ (0 : Int) := (by omega); have q488 : 0 < (t483.length : Int) := of_decide_eq_true Z1; obtain ⟨ad488, e488, hx488_0, hx488_1, hx488_2, hx488_3⟩ := at_T52 (Kd.R_reads' HO485.out).2.2 0 p488 q488; obtain rfl : ad487 = ad488 := (by injection e488); have qi488 : (0 < t483.length) = True := eq_true (by omega); (try rw [show ((0 : Int)).toNat = 0 from rfl] at hx488_0); (try rw [show 0 * 4 = 0 from rfl] at hx488_0); (try rw [Addr.add_zero'] at hx488_0); (try rw [show ((0 : Int)).toNat = 0 from rfl] at hx488_1); (try rw [show 0 * 4 = 0 from rfl] at hx488_1); (try rw [Addr.add_zero'] at hx488_1); (try rw [show ((0 : Int)).toNat = 0 from rfl] at hx488_2); (try rw [show 0 * 4 = 0 from rfl] at hx488_2); (try rw [Addr.add_zero'] at hx488_2); (try rw [show ((0 : Int)).toNat = 0 from rfl] at hx488_3); (try rw [show 0 * 4 = 0 from rfl] at hx488_3); (try rw [Addr.add_zero'] at hx488_3); replace p488 := eq_true p488; replace q488 := eq_true q488; have p489 : 0 ≤ (2 : Int) := (by omega); have q489 : 2 < (t483.length : Int) := of_decide_eq_true Z1; obtain ⟨ad489, e489, hx489_0, hx489_1, hx489_2, hx489_3⟩ := at_T52 (Kd.R_reads' HO485.out).2.2 2 p489 q489; obtain rfl : ad487 = ad489 := (by injection e489); (try simp only [show (2 : Int).toNat = 2 from rfl, Nat.reduceMul, Nat.reduceEqDiff, Go.Addr.add, ↓reduceIte] at hx489_0); (try simp only [show (2 : Int).toNat = 2 from rfl, Nat.reduceMul, Nat.reduceEqDiff, Go.Addr.add, ↓reduceIte] at hx489_1); (try simp only [show (2 : Int).toNat = 2 from rfl, Nat.reduceMul, Nat.reduceEqDiff, Go.Addr.add, ↓reduceIte] at hx489_2); (try simp only [show (2 : Int).toNat = 2 from rfl, Nat.reduceMul, Nat.reduceEqDiff, Go.Addr.add, ↓reduceIte] at hx489_3); have qi489 : (2 < t483.length) = True := eq_true (by omega); (try rw [show ((2 : Int)).toNat = 2 from rfl] at hx489_0); (try rw [show 2 * 4 = 8 from rfl] at hx489_0); (try rw [show ((2 : Int)).toNat = 2 from rfl] at hx489_1); (try rw [show 2 * 4 = 8 from rfl] at hx489_1); (try rw [show ((2 : Int)).toNat = 2 from rfl] at hx489_2); (try rw [show 2 * 4 = 8 from rfl] at hx489_2); (try rw [show ((2 : Int)).toNat = 2 from rfl] at hx489_3); (try rw [show 2 * 4 = 8 from rfl] at hx489_3); replace p489 := eq_true p489; replace q489 := eq_true q489; have p490 : 0 ≤ (3 : Int) := (by omega); have q490 : 3 < (t483.length : Int) := of_decide_eq_true Z1; obtain ⟨ad490, e490, hx490_0, hx490_1, hx490_2, hx490_3⟩ := at_T52 (Kd.R_reads' HO485.out).2.2 3 p490 q490; obtain rfl : ad487 = ad490 := (by injection e490); (try simp only [show (3 : Int).toNat = 3 from rfl, Nat.reduceMul, Nat.reduceEqDiff, Go.Addr.add, ↓reduceIte] at hx490_0); (try simp only [show (3 : Int).toNat = 3 from rfl, Nat.reduceMul, Nat.reduceEqDiff, Go.Addr.add, ↓reduceIte] at hx490_1); (try simp only [show (3 : Int).toNat = 3 from rfl, Nat.reduceMul, Nat.reduceEqDiff, Go.Addr.add, ↓reduceIte] at hx490_2); (try simp only [show (3 : Int).toNat = 3 from rfl, Nat.reduceMul, Nat.reduceEqDiff, Go.Addr.add, ↓reduceIte] at hx490_3); have qi490 : (3 < t483.length) = True := eq_true (by omega); (try rw [show ((3 : Int)).toNat = 3 from rfl] at hx490_0); (try rw [show 3 * 4 = 12 from rfl] at hx490_0); (try rw [show ((3 : Int)).toNat = 3 from rfl] at hx490_1); (try rw [show 3 * 4 = 12 from rfl] at hx490_1); (try rw [show ((3 : Int)).toNat = 3 from rfl] at hx490_2); (try rw [show 3 * 4 = 12 from rfl] at hx490_2); (try rw [show ((3 : Int)).toNat = 3 from rfl] at hx490_3); (try rw [show 3 * 4 = 12 from rfl] at hx490_3); replace p490 := eq_true p490; replace q490 := eq_true q490))
         go_ret
         exact ⟨by first | rfl | (simp [errW_none, errW_some] <;> rfl) | (simp [*, errW_none, errW_some] <;> rfl), hb_⟩
        ·rw [if_neg c9] at H
         exact absurd H (by simp)
       ·rw [if_neg c8] at H
        have c8b0 : (((rd_T52 t483 2).f1) == 4) = false := beq_eq_false_iff_ne.mpr c8
        have c8b1 : (((rd_T52 t483 2).f1) != 4) = true := bne_iff_ne.mpr c8
        rw [hr_] at H
        cases H
      ·rw [if_neg c7] at H
       exact absurd H (by simp)
     ·rw [if_neg c6] at H
      have c6b0 : (((rd_T52 t483 0).f1) == 1) = false := beq_eq_false_iff_ne.mpr c6
      have c6b1 : (((rd_T52 t483 0).f1) != 1) = true := bne_iff_ne.mpr c6
      rw [hr_] at H
      cases H
    ·rw [if_neg c5] at H
     have c5b0 : (((rd_T52 t483 0).f0.f0) == 1) = false := beq_eq_false_iff_ne.mpr c5
     have c5b1 : (((rd_T52 t483 0).f0.f0) != 1) = true := bne_iff_ne.mpr c5
     rw [hr_] at H
     cases H
   ·rw [if_neg c4] at H
    exact absurd H (by simp)
  ·rw [if_neg c3] at H
   have c3b0 : ((t483.length : Int) == 4) = false := beq_eq_false_iff_ne.mpr c3
   have c3b1 : ((t483.length : Int) != 4) = true := bne_iff_ne.mpr c3
   rw [hr_] at H
   cases H
 ·rw [if_neg c2] at H
  have c2b0 : (t486 == 0) = false := beq_eq_false_iff_ne.mpr c2
  have c2b1 : (t486 != 0) = true := bne_iff_ne.mpr c2
  rw [hr_] at H
  cases H
end Go.Proofs.Ytckhjehibjdjdaa.P
namespace Go.Proofs.Ytckhjehibjdjdaa.P
open Go.RowKit Go.Proofs.YtckhjehibjdjdaaW.PrintWords Go.Proofs.YtckhjehibjdjdaaW.PrintLast Go.Proofs.YtckhjehibjdjdaaW.PrintMore
attribute [local go_sem] max2_int min2_int max_two min_two max_three min_three max_four min_four
set_option linter.unusedVariables false
set_option linter.unusedSimpArgs false
attribute [local go_sem high] eqA48
def ensembleref05_find.l0 : Nat → List (S51) → Int → Int → Int → Option (Int)
 | 0, _, _, _, _ => none
 | k + 1, x0, x5, x119000, x119001 => if x5 < (x0.length : Int) then (if 0 ≤ x5 then (if (((rd_T51 x0 x5).f0.f0) == x119000 && (((rd_T51 x0 x5).f0.f1) == x119001)) = true then (some x5) else (ensembleref05_find.l0 k x0 (wrap64 (x5 + 1)) x119000 x119001)) else (none)) else (some (-1))
def ensembleref05_find.f (k : Nat) (l0 : List (S51)) (a1_0 : Int) (a1_1 : Int) : Option (Int) := ensembleref05_find.l0 k l0 0 a1_0 a1_1
set_option maxHeartbeats 8000000 in
set_option maxRecDepth 100000 in
theorem ensembleref05_find.calls (k : Nat) (A0 : Option Addr) (c0 : Nat) (l0 : List (S51)) (a1_0 : Int) (a1_1 : Int) (r : Int) (w : World) (hr0 : Kd.C k51 w A0 l0.length l0) (hc0 : l0.length ≤ c0) (h : ensembleref05_find.f k l0 a1_0 a1_1 = some r) :
  Calls Try.prog 79 #[.slice A0 l0.length c0, .agg #[.int .i64 a1_0, .int .i64 a1_1]] w fun e w' => e = .returned (.int .i64 r) ∧ Below w.heap.size w w' := by
 have hu48 := Try.underlying48
 have HR0 := Aside0.mk hr0
 have HC0 := Aside0.mk hc0
 clear hr0 hc0
 have HB := Aside0.mk (Below.refl w.heap.size w)
 have H : (ensembleref05_find.l0 k l0 0 a1_0 a1_1) = some r := h
 clear h
 have H' := Aside0.mk H
 clear H
 go_enter Try.func79, Try.ntmps79
 go_wp2_with (first | ((with_reducible refine gate_dst (N := 3) rfl ?_); refine bx 3 #[.int .i64 a1_0, .int .i64 a1_1] 48 ?_; intro gb118 hg w3 hbox hb; have BK118 := Aside0.mk (hbox); have GW118 := ge_ hg; have GE118 := ge_ hg; replace HB := hs_ hb; clear hb hbox hg))
 repeat (go_quiet (first | ((with_reducible refine gate_dst (N := 3) rfl ?_); refine bx 3 #[.int .i64 a1_0, .int .i64 a1_1] 48 ?_; intro gb118 hg w3 hbox hb; have BK118 := Aside0.mk (hbox); have GW118 := ge_ hg; have GE118 := ge_ hg; replace HB := hs_ hb; clear hb hbox hg)); try go_wp2_with (first | ((with_reducible refine gate_dst (N := 3) rfl ?_); refine bx 3 #[.int .i64 a1_0, .int .i64 a1_1] 48 ?_; intro gb118 hg w3 hbox hb; have BK118 := Aside0.mk (hbox); have GW118 := ge_ hg; have GE118 := ge_ hg; replace HB := hs_ hb; clear hb hbox hg)))
 go_loopg [5] k (fun kq v5 w' => ∃ (x5_1 : Int), v5 = .int .i64 x5_1 ∧ Aside0 (ensembleref05_find.l0 kq l0 x5_1 a1_0 a1_1 = some r) ∧ Aside0 (kq ≤ k) ∧ Aside0 (w'.heap[gb118]? = some (.cells #[.int .i64 a1_0, .int .i64 a1_1] 48 (0, 0))) ∧ Aside0 (Below w.heap.size w w'))
 case atStart => exact ⟨(0), Z2, H', ⟨Nat.le_refl _⟩, ⟨bo_ BK118⟩, ⟨hb_⟩⟩
 case round =>
  clear H'
  try clear p2
  obtain ⟨x5_1, rfl, HA, HK1, BK118, HB⟩ := hrel
  cases gk with
  | zero => exact absurd HA.out (by simp [ensembleref05_find.l0])
  | succ k1 =>
   have H := HA.out
   clear HA
   simp only [ensembleref05_find.l0] at H
   by_cases c4 : x5_1 < (l0.length : Int)
   ·rw [if_pos c4] at H
    have c4b0 : decide (x5_1 < (l0.length : Int)) = true := decide_eq_true c4
    clear c4
    by_cases c5 : 0 ≤ x5_1
    ·rw [if_pos c5] at H
     have c5b0 : decide (0 ≤ x5_1) = true := decide_eq_true c5
     clear c5
     by_cases c6 : (((rd_T51 l0 x5_1).f0.f0) == a1_0 && (((rd_T51 l0 x5_1).f0.f1) == a1_1)) = true
     ·rw [if_pos c6] at H
      have c6b0 : (((rd_T51 l0 x5_1).f0.f0) == a1_0 && (((rd_T51 l0 x5_1).f0.f1) == a1_1)) = true := c6
      (try (have c6b1 : decide (((rd_T51 l0 x5_1).f0.f0) = a1_0 && (((rd_T51 l0 x5_1).f0.f1) == a1_1)) = true := by simpa using c6))
      (try (have c6b2 : (((rd_T51 l0 x5_1).f0.f0) == a1_0 && (((rd_T51 l0 x5_1).f0.f1) == a1_1)) = true := by simpa using c6))
      clear c6
      obtain rfl := Option.some.inj H
      have p119 : 0 ≤ (x5_1 : Int) := of_decide_eq_true Z1
      have q119 : x5_1 < (l0.length : Int) := of_decide_eq_true Z1
      obtain ⟨ad119, e119, hx119_0, hx119_1, hx119_2, hx119_3⟩ := at_T51 HR0.out x5_1 p119 q119
      cases e119
      replace hx119_0 := cx_ hx119_0
      replace hx119_1 := cx_ hx119_1
      replace hx119_2 := cx_ hx119_2
      replace hx119_3 := cx_ hx119_3
      replace p119 := eq_true p119
      replace q119 := eq_true q119
      obtain ⟨hcz7_0, hcz7_1, hfz7_0, hfz7_1⟩ := bz2_ BK118
      go_wp2
      repeat (go_quiet (fail); try go_wp2)
      go_ret
      exact ⟨by first | rfl | (simp [errW_none, errW_some] <;> rfl) | (simp [*, errW_none, errW_some] <;> rfl), hb_⟩
     ·rw [if_neg c6] at H
      have c6b0 : (((rd_T51 l0 x5_1).f0.f0) == a1_0 && (((rd_T51 l0 x5_1).f0.f1) == a1_1)) = false := by simpa using c6
      (try (have c6b1 : decide (((rd_T51 l0 x5_1).f0.f0) = a1_0 && (((rd_T51 l0 x5_1).f0.f1) == a1_1)) = false := by simpa using c6))
      (try (have c6b2 : (((rd_T51 l0 x5_1).f0.f0) == a1_0 && (((rd_T51 l0 x5_1).f0.f1) == a1_1)) = false := by simpa using c6))
      (try (have c6b3 : ¬ (((rd_T51 l0 x5_1).f0.f0) = a1_0 && (((rd_T51 l0 x5_1).f0.f1) == a1_1)) := by simpa using c6))
      clear c6
      have H' := Aside0.mk H
      clear H
      have p119 : 0 ≤ (x5_1 : Int) := of_decide_eq_true Z1
      have q119 : x5_1 < (l0.length : Int) := of_decide_eq_true Z1
      obtain ⟨ad119, e119, hx119_0, hx119_1, hx119_2, hx119_3⟩ := at_T51 HR0.out x5_1 p119 q119
      cases e119
      replace hx119_0 := cx_ hx119_0
      replace hx119_1 := cx_ hx119_1
      replace hx119_2 := cx_ hx119_2
      replace hx119_3 := cx_ hx119_3
      replace p119 := eq_true p119
      replace q119 := eq_true q119
      obtain ⟨hcz8_0, hcz8_1, hfz8_0, hfz8_1⟩ := bz2_ BK118
      go_wp2
      repeat (go_quiet (fail); try go_wp2)
      go_roundg k1
      case measure => have := HK1.out; omega
      case rel => exact ⟨(wrap64 (x5_1 + 1)), Z2, H', ⟨by have := HK1.out; omega⟩, ⟨bo_ BK118⟩, ⟨hb_⟩⟩
    ·rw [if_neg c5] at H
     exact absurd H (by simp)
   ·rw [if_neg c4] at H
    have c4b0 : decide (x5_1 < (l0.length : Int)) = false := decide_eq_false c4
    clear c4
    obtain rfl := Option.some.inj H
    go_wp2
    repeat (go_quiet (fail); try go_wp2)
    go_ret
    exact ⟨by first | rfl | (simp [errW_none, errW_some] <;> rfl) | (simp [*, errW_none, errW_some] <;> rfl), hb_⟩
end Go.Proofs.Ytckhjehibjdjdaa.P
namespace Go.Proofs.Ytckhjehibjdjdaa.P
open Go.RowKit Go.Proofs.YtckhjehibjdjdaaW.PrintWords Go.Proofs.YtckhjehibjdjdaaW.PrintLast Go.Proofs.YtckhjehibjdjdaaW.PrintMore
attribute [local go_sem] max2_int min2_int max_two min_two max_three min_three max_four min_four
set_option linter.unusedVariables false
set_option linter.unusedSimpArgs false
def ensembleref05_Right.l0 : Nat → List (S51) → Int → Option (Bool)
 | 0, _, _ => none
 | k + 1, x0, x3 => if x3 < (x0.length : Int) then (if 0 ≤ x3 then (if ((rd_T51 x0 x3).f2) < 0 then (some false) else (if ((rd_T51 x0 x3).f2) > 1048576 then (some false) else (if x3 ≤ (x0.length : Int) then ((ensembleref05_find.f k (x0.take (x3 : Int).toNat) ((rd_T51 x0 x3).f0.f0) ((rd_T51 x0 x3).f0.f1)).bind fun t127 => (if t127 ≥ 0 then (some false) else (ensembleref05_Right.l0 k x0 (wrap64 (x3 + 1))))) else (none)))) else (none)) else (some true)
def ensembleref05_Right.f (k : Nat) (l0 : List (S51)) : Option (Bool) := ensembleref05_Right.l0 k l0 0
def ensembleref05_Right.T4 : Bool × List (List Nat × List Nat) := (true, [([], []), ([], []), ([0, 1], [0, 1]), ([2], [2]), ([3], [3]), ([4], [4]), ([5], [5]), ([6], [6]), ([6], [6]), ([7, 8, 6], [6, 7, 8]), ([9, 6], [6, 9]), ([10, 6], [6, 10]), ([11, 6], [6, 11]), ([6, 12], [6, 12]), ([13, 6], [13]), ([14], [14]), ([14], [14]), ([15, 16, 14], [14, 15, 16]), ([14], [14]), ([14], [14]), ([18, 19, 14], [14, 18, 19]), ([20, 14], [14, 20]), ([21, 14], [14, 21]), ([17, 22, 14, 14], [14, 17, 22]), ([23, 14], [14, 23]), ([14, 24], [14, 24])])
def ensembleref05_Right.B4 : List Nat := [0, 0, 3, 7, 15, 31, 63, 127, 127, 511, 1023, 2047, 4095, 8191, 16383, 32767, 32767, 131071, 32767, 32767, 819199, 1867775, 3964927, 8388607, 16777215, 33554431]
theorem ensembleref05_Right.tab4 : rtab .any (opsOf Try.f67 4) = ensembleref05_Right.T4 := by kernel_rfl
theorem ensembleref05_Right.bits4 : waitsOk ensembleref05_Right.T4.2 ensembleref05_Right.B4 = true := by kernel_rfl
set_option maxHeartbeats 8000000 in
set_option maxRecDepth 100000 in
theorem ensembleref05_Right.calls (k : Nat) (A0 : Option Addr) (c0 : Nat) (l0 : List (S51)) (r : Bool) (w : World) (hr0 : Kd.C k51 w A0 l0.length l0) (hc0 : l0.length ≤ c0) (h : ensembleref05_Right.f k l0 = some r) :
  Calls Try.prog 67 #[.slice A0 l0.length c0] w fun e w' => e = .returned (.bool r) ∧ Below w.heap.size w w' := by
 have hu48 := Try.underlying48
 have HR0 := Aside0.mk hr0
 have HC0 := Aside0.mk hc0
 clear hr0 hc0
 have HB := Aside0.mk (Below.refl w.heap.size w)
 have H : (ensembleref05_Right.l0 k l0 0) = some r := h
 clear h
 have H' := Aside0.mk H
 clear H
 go_enter Try.func67, Try.ntmps67
 go_wp2
 go_loopg [3] k (fun kq v3 w' => ∃ (x3_1 : Int), v3 = .int .i64 x3_1 ∧ Aside0 (ensembleref05_Right.l0 kq l0 x3_1 = some r) ∧ Aside0 (kq ≤ k) ∧ Aside0 (Below w.heap.size w w'))
 case atStart => exact ⟨(0), Z2, H', ⟨Nat.le_refl _⟩, ⟨hb_⟩⟩
 case round =>
  clear H'
  obtain ⟨x3_1, rfl, HA, HK1, HB⟩ := hrel
  cases gk with
  | zero => exact absurd HA.out (by simp [ensembleref05_Right.l0])
  | succ k1 =>
   have H := HA.out
   clear HA
   simp only [ensembleref05_Right.l0] at H
   by_cases c2 : x3_1 < (l0.length : Int)
   ·rw [if_pos c2] at H
    have c2b0 : decide (x3_1 < (l0.length : Int)) = true := decide_eq_true c2
    clear c2
    by_cases c3 : 0 ≤ x3_1
    ·rw [if_pos c3] at H
     have c3b0 : decide (0 ≤ x3_1) = true := decide_eq_true c3
     clear c3
     by_cases c4 : ((rd_T51 l0 x3_1).f2) < 0
     ·rw [if_pos c4] at H
      have c4b0 : decide (((rd_T51 l0 x3_1).f2) < 0) = true := decide_eq_true c4
      clear c4
      obtain rfl := Option.some.inj H
      try go_wp2
      replace HB := Aside0.mk (below_drew1 HB.out)
      have p120 : 0 ≤ (x3_1 : Int) := of_decide_eq_true Z1
      have q120 : x3_1 < (l0.length : Int) := of_decide_eq_true Z1
      obtain ⟨ad120, e120, hx120_0, hx120_1, hx120_2, hx120_3⟩ := at_T51 HR0.out x3_1 p120 q120
      have hw120_3 := hx120_3
      have hw120_2 := hx120_2
      have hw120_1 := hx120_1
      have hw120_0 := hx120_0
      cases e120
      replace hx120_0 := cx_ hx120_0
      replace hx120_1 := cx_ hx120_1
      replace hx120_2 := cx_ hx120_2
      replace hx120_3 := cx_ hx120_3
      replace p120 := eq_true p120
      replace q120 := eq_true q120
      refine start_ (n := 26) (S := fun w' => w'.cell? (ad120.add ((x3_1).toNat * 4)) = some (.int .i64 ((rd_T51 l0 x3_1).f0.f0)) ∧ w'.cell? ⟨(ad120.add ((x3_1).toNat * 4)).block, (ad120.add ((x3_1).toNat * 4)).off + 1, none⟩ = some (.int .i64 ((rd_T51 l0 x3_1).f0.f1)) ∧ w'.cell? ⟨(ad120.add ((x3_1).toNat * 4)).block, (ad120.add ((x3_1).toNat * 4)).off + 2, none⟩ = some (.int .u64 ((rd_T51 l0 x3_1).f1)) ∧ w'.cell? ⟨(ad120.add ((x3_1).toNat * 4)).block, (ad120.add ((x3_1).toNat * 4)).off + 3, none⟩ = some (.int .i64 ((rd_T51 l0 x3_1).f2))) (ds := []) (bm 26 0) (by kernel_rfl) rfl rfl ⟨((HB.out.cell (World.block_lt_of_cell? w _ hw120_0)).trans hw120_0), ((HB.out.cell (World.block_lt_of_cell? w _ hw120_1)).trans hw120_1), ((HB.out.cell (World.block_lt_of_cell? w _ hw120_2)).trans hw120_2), ((HB.out.cell (World.block_lt_of_cell? w _ hw120_3)).trans hw120_3)⟩ (fun hHeld => ?_); refine with_tabW ensembleref05_Right.tab4 ensembleref05_Right.bits4 (fun HT_ HW_ => ?_)
      generalize wr.drew = w5 at HB hx120_0 hx120_1 hx120_2 hx120_3 hHeld ⊢
      refine pu 0 (some 10) (bm 26 1) ?_
      refine pu 1 (some 11) (bm 26 3) ?_
      refine pu 2 (some 12) (bm 26 7) ?_
      refine pu 3 (some 13) (bm 26 15) ?_
      refine tk4 4 (some 14) (bm 26 31) ?_
      refine pu 5 (some 15) (bm 26 63) ?_
      refine pu 6 (some 16) (bm 26 127) ?_
      refine pv 7 (some 17) (bm 26 255) ?_
      refine pv 8 (some 18) (bm 26 511) ?_
      refine pv 9 (some 19) (bm 26 1023) ?_
      refine pv 10 (some 20) (bm 26 2047) ?_
      refine pv 11 (some 21) (bm 26 4095) ?_
      refine pv 12 (some 22) (bm 26 8191) ?_
      refine pu 13 (some 23) (bm 26 16383) ?_
      refine pu 14 (some 24) (bm 26 32767) ?_
      refine pv 15 (some 25) (bm 26 65535) ?_
      refine pv 16 (some 26) (bm 26 131071) ?_
      refine pv 17 (some 27) (bm 26 262143) ?_
      refine pv 18 (some 28) (bm 26 524287) ?_
      refine pv 19 (some 29) (bm 26 1048575) ?_
      refine pv 20 (some 30) (bm 26 2097151) ?_
      refine pv 21 (some 31) (bm 26 4194303) ?_
      refine pv 22 (some 32) (bm 26 8388607) ?_
      refine pv 23 (some 33) (bm 26 16777215) ?_
      refine pv 24 (some 34) (bm 26 33554431) ?_
      refine pu 25 (some 35) (bm 26 67108863) ?_
      refine done_ (done_of HT_.out (by kernel_rfl)) ?_
      try go_wp2
      go_ret
      exact ⟨by first | rfl | (simp [errW_none, errW_some] <;> rfl) | (simp [*, errW_none, errW_some] <;> rfl), hb_⟩
     ·rw [if_neg c4] at H
      have c4b0 : decide (((rd_T51 l0 x3_1).f2) < 0) = false := decide_eq_false c4
      clear c4
      by_cases c6 : ((rd_T51 l0 x3_1).f2) > 1048576
      ·rw [if_pos c6] at H
       have c6b0 : decide (1048576 < ((rd_T51 l0 x3_1).f2)) = true := decide_eq_true c6
       clear c6
       obtain rfl := Option.some.inj H
       try go_wp2
       replace HB := Aside0.mk (below_drew1 HB.out)
       have p120 : 0 ≤ (x3_1 : Int) := of_decide_eq_true Z1
       have q120 : x3_1 < (l0.length : Int) := of_decide_eq_true Z1
       obtain ⟨ad120, e120, hx120_0, hx120_1, hx120_2, hx120_3⟩ := at_T51 HR0.out x3_1 p120 q120
       have hw120_3 := hx120_3
       have hw120_2 := hx120_2
       have hw120_1 := hx120_1
       have hw120_0 := hx120_0
       cases e120
       replace hx120_0 := cx_ hx120_0
       replace hx120_1 := cx_ hx120_1
       replace hx120_2 := cx_ hx120_2
       replace hx120_3 := cx_ hx120_3
       replace p120 := eq_true p120
       replace q120 := eq_true q120
       have p121 : 0 ≤ (x3_1 : Int) := of_decide_eq_true Z1
       have q121 : x3_1 < (l0.length : Int) := of_decide_eq_true Z1
       obtain ⟨ad121, e121, hx121_0, hx121_1, hx121_2, hx121_3⟩ := at_T51 HR0.out x3_1 p121 q121
       have hw121_3 := hx121_3
       have hw121_2 := hx121_2
       have hw121_1 := hx121_1
       have hw121_0 := hx121_0
       obtain rfl : ad120 = ad121 := (by injection e121)
       replace hx121_0 := cx_ hx121_0
       replace hx121_1 := cx_ hx121_1
       replace hx121_2 := cx_ hx121_2
       replace hx121_3 := cx_ hx121_3
       replace p121 := eq_true p121
       replace q121 := eq_true q121
       refine start_ (n := 26) (S := fun w' => w'.cell? (ad120.add ((x3_1).toNat * 4)) = some (.int .i64 ((rd_T51 l0 x3_1).f0.f0)) ∧ w'.cell? ⟨(ad120.add ((x3_1).toNat * 4)).block, (ad120.add ((x3_1).toNat * 4)).off + 1, none⟩ = some (.int .i64 ((rd_T51 l0 x3_1).f0.f1)) ∧ w'.cell? ⟨(ad120.add ((x3_1).toNat * 4)).block, (ad120.add ((x3_1).toNat * 4)).off + 2, none⟩ = some (.int .u64 ((rd_T51 l0 x3_1).f1)) ∧ w'.cell? ⟨(ad120.add ((x3_1).toNat * 4)).block, (ad120.add ((x3_1).toNat * 4)).off + 3, none⟩ = some (.int .i64 ((rd_T51 l0 x3_1).f2)) ∧ w'.cell? (ad120.add ((x3_1).toNat * 4)) = some (.int .i64 ((rd_T51 l0 x3_1).f0.f0)) ∧ w'.cell? ⟨(ad120.add ((x3_1).toNat * 4)).block, (ad120.add ((x3_1).toNat * 4)).off + 1, none⟩ = some (.int .i64 ((rd_T51 l0 x3_1).f0.f1)) ∧ w'.cell? ⟨(ad120.add ((x3_1).toNat * 4)).block, (ad120.add ((x3_1).toNat * 4)).off + 2, none⟩ = some (.int .u64 ((rd_T51 l0 x3_1).f1)) ∧ w'.cell? ⟨(ad120.add ((x3_1).toNat * 4)).block, (ad120.add ((x3_1).toNat * 4)).off + 3, none⟩ = some (.int .i64 ((rd_T51 l0 x3_1).f2))) (ds := []) (bm 26 0) (by kernel_rfl) rfl rfl ⟨((HB.out.cell (World.block_lt_of_cell? w _ hw120_0)).trans hw120_0), ((HB.out.cell (World.block_lt_of_cell? w _ hw120_1)).trans hw120_1), ((HB.out.cell (World.block_lt_of_cell? w _ hw120_2)).trans hw120_2), ((HB.out.cell (World.block_lt_of_cell? w _ hw120_3)).trans hw120_3), ((HB.out.cell (World.block_lt_of_cell? w _ hw121_0)).trans hw121_0), ((HB.out.cell (World.block_lt_of_cell? w _ hw121_1)).trans hw121_1), ((HB.out.cell (World.block_lt_of_cell? w _ hw121_2)).trans hw121_2), ((HB.out.cell (World.block_lt_of_cell? w _ hw121_3)).trans hw121_3)⟩ (fun hHeld => ?_); refine with_tabW ensembleref05_Right.tab4 ensembleref05_Right.bits4 (fun HT_ HW_ => ?_)
       generalize wr.drew = w7 at HB hx120_0 hx120_1 hx120_2 hx120_3 hx121_0 hx121_1 hx121_2 hx121_3 hHeld ⊢
       refine pu 0 (some 10) (bm 26 1) ?_
       refine pu 1 (some 11) (bm 26 3) ?_
       refine pu 2 (some 12) (bm 26 7) ?_
       refine pu 3 (some 13) (bm 26 15) ?_
       refine tk8 4 (some 14) (bm 26 31) ?_
       refine pu 5 (some 15) (bm 26 63) ?_
       refine pu 6 (some 16) (bm 26 127) ?_
       refine pu 7 (some 17) (bm 26 255) ?_
       refine pu 8 (some 18) (bm 26 511) ?_
       refine pu 9 (some 19) (bm 26 1023) ?_
       refine pu 10 (some 20) (bm 26 2047) ?_
       refine tk8 11 (some 21) (bm 26 4095) ?_
       refine pu 12 (some 22) (bm 26 8191) ?_
       refine pu 13 (some 23) (bm 26 16383) ?_
       refine pu 14 (some 24) (bm 26 32767) ?_
       refine pv 15 (some 25) (bm 26 65535) ?_
       refine pv 16 (some 26) (bm 26 131071) ?_
       refine pv 17 (some 27) (bm 26 262143) ?_
       refine pv 18 (some 28) (bm 26 524287) ?_
       refine pv 19 (some 29) (bm 26 1048575) ?_
       refine pv 20 (some 30) (bm 26 2097151) ?_
       refine pv 21 (some 31) (bm 26 4194303) ?_
       refine pv 22 (some 32) (bm 26 8388607) ?_
       refine pv 23 (some 33) (bm 26 16777215) ?_
       refine pv 24 (some 34) (bm 26 33554431) ?_
       refine pu 25 (some 35) (bm 26 67108863) ?_
       refine done_ (done_of HT_.out (by kernel_rfl)) ?_
       try go_wp2
       go_ret
       exact ⟨by first | rfl | (simp [errW_none, errW_some] <;> rfl) | (simp [*, errW_none, errW_some] <;> rfl), hb_⟩
      ·rw [if_neg c6] at H
       have c6b0 : decide (1048576 < ((rd_T51 l0 x3_1).f2)) = false := decide_eq_false c6
       clear c6
       have c8b0 := eq_true (of_decide_eq_true Z1 : 0 ≤ x3_1)
       by_cases c9 : x3_1 ≤ (l0.length : Int)
       ·rw [if_pos c9] at H
        have c9b0 := eq_true c9
        have c9b1 : decide (x3_1 ≤ (l0.length : Int)) = true := decide_eq_true c9
        clear c9
        obtain ⟨y122, hy122⟩ : ∃ y_ : List (S51), y_ = (l0.take (x3_1 : Int).toNat) := ⟨_, rfl⟩
        replace H : ((ensembleref05_find.f k1 y122 ((rd_T51 l0 x3_1).f0.f0) ((rd_T51 l0 x3_1).f0.f1)).bind fun t127 => (if t127 ≥ 0 then (some false) else (ensembleref05_Right.l0 k1 l0 (wrap64 (x3_1 + 1))))) = some r := by first | (rw [hy122]; with_reducible exact H) | (have H2_ := (Option.bind_some _ _).symm.trans H; rw [hy122]; with_reducible exact H2_) | (have H2_ := (Option.bind_some _ _).symm.trans H; with_reducible exact H2_) | with_reducible exact H | (rw [hy122]; exact H) | exact H
        have Ny122 := Aside0.mk hy122
        clear hy122
        replace H := Option.bind_eq_some_iff.mp H
        obtain ⟨t127, A100, H⟩ := H
        replace H : (if t127 ≥ 0 then (some false) else (ensembleref05_Right.l0 k1 l0 (wrap64 (x3_1 + 1)))) = some r := H
        have A10 := Aside0.mk A100
        clear A100
        by_cases c11 : t127 ≥ 0
        ·rw [if_pos c11] at H
         have c11b0 : decide (0 ≤ t127) = true := decide_eq_true c11
         clear c11
         obtain rfl := Option.some.inj H
         try go_wp2
         replace HB := Aside0.mk (below_drew1 HB.out)
         have p120 : 0 ≤ (x3_1 : Int) := of_decide_eq_true Z1
         have q120 : x3_1 < (l0.length : Int) := of_decide_eq_true Z1
         obtain ⟨ad120, e120, hx120_0, hx120_1, hx120_2, hx120_3⟩ := at_T51 HR0.out x3_1 p120 q120
         have hw120_3 := hx120_3
         have hw120_2 := hx120_2
         have hw120_1 := hx120_1
         have hw120_0 := hx120_0
         cases e120
         replace hx120_0 := cx_ hx120_0
         replace hx120_1 := cx_ hx120_1
         replace hx120_2 := cx_ hx120_2
         replace hx120_3 := cx_ hx120_3
         replace p120 := eq_true p120
         replace q120 := eq_true q120
         have p121 : 0 ≤ (x3_1 : Int) := of_decide_eq_true Z1
         have q121 : x3_1 < (l0.length : Int) := of_decide_eq_true Z1
         obtain ⟨ad121, e121, hx121_0, hx121_1, hx121_2, hx121_3⟩ := at_T51 HR0.out x3_1 p121 q121
         have hw121_3 := hx121_3
         have hw121_2 := hx121_2
         have hw121_1 := hx121_1
         have hw121_0 := hx121_0
         obtain rfl : ad120 = ad121 := (by injection e121)
         replace hx121_0 := cx_ hx121_0
         replace hx121_1 := cx_ hx121_1
         replace hx121_2 := cx_ hx121_2
         replace hx121_3 := cx_ hx121_3
         replace p121 := eq_true p121
         replace q121 := eq_true q121
         have q13 : (x3_1 : Int) ≤ ((l0.length : Int) : Int) := of_decide_eq_true Z1
         obtain ⟨i013, hi013, _, hsz13, _⟩ := info_parts info51
         have hroom13 : l0.length ≤ c0 := HC0.out
         have hC13 : Kd.C k51 _ (some ad120) l0.length l0 := HR0.out
         have hcut13 := cut_to (P := Try.prog) 22 51 .i64 Try.underlying22 hi013 (some ad120) l0.length c0 x3_1 (of_decide_eq_true Z1) q13 hroom13
         have hr13 := Kd.C_take (m := (x3_1 : Int).toNat) hC13 (by omega)
         have hy13 : y122.length = (x3_1 : Int).toNat := (by rw [Ny122.out, List.length_take]; omega)
         rw [← Ny122.out] at hr13
         rw [← hy13] at hcut13
         have HR125 := Aside0.mk hr13
         have HC125 := Aside0.mk (show y122.length ≤ c0 from by omega)
         clear hr13 hC13 hroom13 hi013 hsz13
         have KY13 := Aside0.mk hy13
         clear hy13
         replace q13 := eq_true q13
         have p126 : 0 ≤ (x3_1 : Int) := of_decide_eq_true Z1
         have q126 : x3_1 < (l0.length : Int) := of_decide_eq_true Z1
         obtain ⟨ad126, e126, hx126_0, hx126_1, hx126_2, hx126_3⟩ := at_T51 HR0.out x3_1 p126 q126
         have hw126_3 := hx126_3
         have hw126_2 := hx126_2
         have hw126_1 := hx126_1
         have hw126_0 := hx126_0
         obtain rfl : ad120 = ad126 := (by injection e126)
         replace hx126_0 := cx_ hx126_0
         replace hx126_1 := cx_ hx126_1
         replace hx126_2 := cx_ hx126_2
         replace hx126_3 := cx_ hx126_3
         replace p126 := eq_true p126
         replace q126 := eq_true q126
         refine start_ (n := 26) (S := fun w' => w'.cell? (ad120.add ((x3_1).toNat * 4)) = some (.int .i64 ((rd_T51 l0 x3_1).f0.f0)) ∧ w'.cell? ⟨(ad120.add ((x3_1).toNat * 4)).block, (ad120.add ((x3_1).toNat * 4)).off + 1, none⟩ = some (.int .i64 ((rd_T51 l0 x3_1).f0.f1)) ∧ w'.cell? ⟨(ad120.add ((x3_1).toNat * 4)).block, (ad120.add ((x3_1).toNat * 4)).off + 2, none⟩ = some (.int .u64 ((rd_T51 l0 x3_1).f1)) ∧ w'.cell? ⟨(ad120.add ((x3_1).toNat * 4)).block, (ad120.add ((x3_1).toNat * 4)).off + 3, none⟩ = some (.int .i64 ((rd_T51 l0 x3_1).f2)) ∧ w'.cell? (ad120.add ((x3_1).toNat * 4)) = some (.int .i64 ((rd_T51 l0 x3_1).f0.f0)) ∧ w'.cell? ⟨(ad120.add ((x3_1).toNat * 4)).block, (ad120.add ((x3_1).toNat * 4)).off + 1, none⟩ = some (.int .i64 ((rd_T51 l0 x3_1).f0.f1)) ∧ w'.cell? ⟨(ad120.add ((x3_1).toNat * 4)).block, (ad120.add ((x3_1).toNat * 4)).off + 2, none⟩ = some (.int .u64 ((rd_T51 l0 x3_1).f1)) ∧ w'.cell? ⟨(ad120.add ((x3_1).toNat * 4)).block, (ad120.add ((x3_1).toNat * 4)).off + 3, none⟩ = some (.int .i64 ((rd_T51 l0 x3_1).f2)) ∧ w'.cell? (ad120.add ((x3_1).toNat * 4)) = some (.int .i64 ((rd_T51 l0 x3_1).f0.f0)) ∧ w'.cell? ⟨(ad120.add ((x3_1).toNat * 4)).block, (ad120.add ((x3_1).toNat * 4)).off + 1, none⟩ = some (.int .i64 ((rd_T51 l0 x3_1).f0.f1)) ∧ w'.cell? ⟨(ad120.add ((x3_1).toNat * 4)).block, (ad120.add ((x3_1).toNat * 4)).off + 2, none⟩ = some (.int .u64 ((rd_T51 l0 x3_1).f1)) ∧ w'.cell? ⟨(ad120.add ((x3_1).toNat * 4)).block, (ad120.add ((x3_1).toNat * 4)).off + 3, none⟩ = some (.int .i64 ((rd_T51 l0 x3_1).f2))) (ds := []) (bm 26 0) (by kernel_rfl) rfl rfl ⟨((HB.out.cell (World.block_lt_of_cell? w _ hw120_0)).trans hw120_0), ((HB.out.cell (World.block_lt_of_cell? w _ hw120_1)).trans hw120_1), ((HB.out.cell (World.block_lt_of_cell? w _ hw120_2)).trans hw120_2), ((HB.out.cell (World.block_lt_of_cell? w _ hw120_3)).trans hw120_3), ((HB.out.cell (World.block_lt_of_cell? w _ hw121_0)).trans hw121_0), ((HB.out.cell (World.block_lt_of_cell? w _ hw121_1)).trans hw121_1), ((HB.out.cell (World.block_lt_of_cell? w _ hw121_2)).trans hw121_2), ((HB.out.cell (World.block_lt_of_cell? w _ hw121_3)).trans hw121_3), ((HB.out.cell (World.block_lt_of_cell? w _ hw126_0)).trans hw126_0), ((HB.out.cell (World.block_lt_of_cell? w _ hw126_1)).trans hw126_1), ((HB.out.cell (World.block_lt_of_cell? w _ hw126_2)).trans hw126_2), ((HB.out.cell (World.block_lt_of_cell? w _ hw126_3)).trans hw126_3)⟩ (fun hHeld => ?_); refine with_tabW ensembleref05_Right.tab4 ensembleref05_Right.bits4 (fun HT_ HW_ => ?_)
         generalize wr.drew = w12 at HB HR125 hx120_0 hx120_1 hx120_2 hx120_3 hx121_0 hx121_1 hx121_2 hx121_3 hx126_0 hx126_1 hx126_2 hx126_3 hHeld ⊢
         refine pu 0 (some 10) (bm 26 1) ?_
         refine pu 1 (some 11) (bm 26 3) ?_
         refine pu 2 (some 12) (bm 26 7) ?_
         refine pu 3 (some 13) (bm 26 15) ?_
         refine tk12 4 (some 14) (bm 26 31) ?_
         refine pu 5 (some 15) (bm 26 63) ?_
         refine pu 6 (some 16) (bm 26 127) ?_
         refine pu 7 (some 17) (bm 26 255) ?_
         refine pu 8 (some 18) (bm 26 511) ?_
         refine pu 9 (some 19) (bm 26 1023) ?_
         refine pu 10 (some 20) (bm 26 2047) ?_
         refine tk12 11 (some 21) (bm 26 4095) ?_
         refine pu 12 (some 22) (bm 26 8191) ?_
         refine pu 13 (some 23) (bm 26 16383) ?_
         refine pu 14 (some 24) (bm 26 32767) ?_
         refine pu 15 (some 25) (bm 26 65535) ?_
         refine pu 16 (some 26) (bm 26 131071) ?_
         refine pu 17 (some 27) (bm 26 262143) ?_
         refine pu 18 (some 28) (bm 26 524287) ?_
         refine pu 19 (some 29) (bm 26 1048575) ?_
         refine pu 20 (some 30) (bm 26 2097151) ?_
         refine pu 21 (some 31) (bm 26 4194303) ?_
         refine tk12 22 (some 32) (bm 26 8388607) ?_
         refine one_ (i := 23) (N := some 33) (bm 26 16777215) rfl rfl (one_of HT_.out (by kernel_rfl)) (by decide) (fun K hK => ?_)
         refine goes_ Try.func79 (by kernel_rfl) rfl #[.slice (some ad120) y122.length c0, .agg #[.int .i64 ((rd_T51 l0 x3_1).f0.f0), .int .i64 ((rd_T51 l0 x3_1).f0.f1)]] (by rfl) rfl rfl Z0 ?_
         with_reducible refine (ensembleref05_find.calls k1 _ _ y122 ((rd_T51 l0 x3_1).f0.f0) ((rd_T51 l0 x3_1).f0.f1) t127 _ ?side1 ?side2 A10.out).mono ?_
         (case side1 => exact cs_ HR125)
         (case side2 => exact HC125.out)
         rintro e w14 ⟨rfl, hb⟩
         refine ⟨_, rfl, ?_⟩
         replace HB := hs_ hb
         (try clear hb)
         (try clear hb2)
         (try clear hk)
         (try clear hi)
         refine hK.out _ _ ⟨((HB.out.cell (World.block_lt_of_cell? w _ hw120_0)).trans hw120_0), ((HB.out.cell (World.block_lt_of_cell? w _ hw120_1)).trans hw120_1), ((HB.out.cell (World.block_lt_of_cell? w _ hw120_2)).trans hw120_2), ((HB.out.cell (World.block_lt_of_cell? w _ hw120_3)).trans hw120_3), ((HB.out.cell (World.block_lt_of_cell? w _ hw121_0)).trans hw121_0), ((HB.out.cell (World.block_lt_of_cell? w _ hw121_1)).trans hw121_1), ((HB.out.cell (World.block_lt_of_cell? w _ hw121_2)).trans hw121_2), ((HB.out.cell (World.block_lt_of_cell? w _ hw121_3)).trans hw121_3), ((HB.out.cell (World.block_lt_of_cell? w _ hw126_0)).trans hw126_0), ((HB.out.cell (World.block_lt_of_cell? w _ hw126_1)).trans hw126_1), ((HB.out.cell (World.block_lt_of_cell? w _ hw126_2)).trans hw126_2), ((HB.out.cell (World.block_lt_of_cell? w _ hw126_3)).trans hw126_3)⟩ (fun hHeld => ?_)
         clear hK K
         refine norm_ (a' := ?_) ?_ ?_
         rotate_left
         ·show Act.put _ (some 33) _ = _
          simp only [Act.put, List.setIfInBounds_toArray, List.set_cons_zero, List.set_cons_succ, i64_w, i32_w]
          rfl
         refine pu 24 (some 34) (bm 26 33554431) ?_
         refine pu 25 (some 35) (bm 26 67108863) ?_
         refine done_ (done_of HT_.out (by kernel_rfl)) ?_
         try go_wp2
         go_ret
         exact ⟨by first | rfl | (simp [errW_none, errW_some] <;> rfl) | (simp [*, errW_none, errW_some] <;> rfl), hb_⟩
        ·rw [if_neg c11] at H
         have c11b0 : decide (0 ≤ t127) = false := decide_eq_false c11
         clear c11
         have H' := Aside0.mk H
         clear H
         try go_wp2
         replace HB := Aside0.mk (below_drew1 HB.out)
         have p120 : 0 ≤ (x3_1 : Int) := of_decide_eq_true Z1
         have q120 : x3_1 < (l0.length : Int) := of_decide_eq_true Z1
         obtain ⟨ad120, e120, hx120_0, hx120_1, hx120_2, hx120_3⟩ := at_T51 HR0.out x3_1 p120 q120
         have hw120_3 := hx120_3
         have hw120_2 := hx120_2
         have hw120_1 := hx120_1
         have hw120_0 := hx120_0
         cases e120
         replace hx120_0 := cx_ hx120_0
         replace hx120_1 := cx_ hx120_1
         replace hx120_2 := cx_ hx120_2
         replace hx120_3 := cx_ hx120_3
         replace p120 := eq_true p120
         replace q120 := eq_true q120
         have p121 : 0 ≤ (x3_1 : Int) := of_decide_eq_true Z1
         have q121 : x3_1 < (l0.length : Int) := of_decide_eq_true Z1
         obtain ⟨ad121, e121, hx121_0, hx121_1, hx121_2, hx121_3⟩ := at_T51 HR0.out x3_1 p121 q121
         have hw121_3 := hx121_3
         have hw121_2 := hx121_2
         have hw121_1 := hx121_1
         have hw121_0 := hx121_0
         obtain rfl : ad120 = ad121 := (by injection e121)
         replace hx121_0 := cx_ hx121_0
         replace hx121_1 := cx_ hx121_1
         replace hx121_2 := cx_ hx121_2
         replace hx121_3 := cx_ hx121_3
         replace p121 := eq_true p121
         replace q121 := eq_true q121
         have q16 : (x3_1 : Int) ≤ ((l0.length : Int) : Int) := of_decide_eq_true Z1
         obtain ⟨i016, hi016, _, hsz16, _⟩ := info_parts info51
         have hroom16 : l0.length ≤ c0 := HC0.out
         have hC16 : Kd.C k51 _ (some ad120) l0.length l0 := HR0.out
         have hcut16 := cut_to (P := Try.prog) 22 51 .i64 Try.underlying22 hi016 (some ad120) l0.length c0 x3_1 (of_decide_eq_true Z1) q16 hroom16
         have hr16 := Kd.C_take (m := (x3_1 : Int).toNat) hC16 (by omega)
         have hy16 : y122.length = (x3_1 : Int).toNat := (by rw [Ny122.out, List.length_take]; omega)
         rw [← Ny122.out] at hr16
         rw [← hy16] at hcut16
         have HR125 := Aside0.mk hr16
         have HC125 := Aside0.mk (show y122.length ≤ c0 from by omega)
         clear hr16 hC16 hroom16 hi016 hsz16
         have KY16 := Aside0.mk hy16
         clear hy16
         replace q16 := eq_true q16
         have p126 : 0 ≤ (x3_1 : Int) := of_decide_eq_true Z1
         have q126 : x3_1 < (l0.length : Int) := of_decide_eq_true Z1
         obtain ⟨ad126, e126, hx126_0, hx126_1, hx126_2, hx126_3⟩ := at_T51 HR0.out x3_1 p126 q126
         have hw126_3 := hx126_3
         have hw126_2 := hx126_2
         have hw126_1 := hx126_1
         have hw126_0 := hx126_0
         obtain rfl : ad120 = ad126 := (by injection e126)
         replace hx126_0 := cx_ hx126_0
         replace hx126_1 := cx_ hx126_1
         replace hx126_2 := cx_ hx126_2
         replace hx126_3 := cx_ hx126_3
         replace p126 := eq_true p126
         replace q126 := eq_true q126
         refine start_ (n := 26) (S := fun w' => w'.cell? (ad120.add ((x3_1).toNat * 4)) = some (.int .i64 ((rd_T51 l0 x3_1).f0.f0)) ∧ w'.cell? ⟨(ad120.add ((x3_1).toNat * 4)).block, (ad120.add ((x3_1).toNat * 4)).off + 1, none⟩ = some (.int .i64 ((rd_T51 l0 x3_1).f0.f1)) ∧ w'.cell? ⟨(ad120.add ((x3_1).toNat * 4)).block, (ad120.add ((x3_1).toNat * 4)).off + 2, none⟩ = some (.int .u64 ((rd_T51 l0 x3_1).f1)) ∧ w'.cell? ⟨(ad120.add ((x3_1).toNat * 4)).block, (ad120.add ((x3_1).toNat * 4)).off + 3, none⟩ = some (.int .i64 ((rd_T51 l0 x3_1).f2)) ∧ w'.cell? (ad120.add ((x3_1).toNat * 4)) = some (.int .i64 ((rd_T51 l0 x3_1).f0.f0)) ∧ w'.cell? ⟨(ad120.add ((x3_1).toNat * 4)).block, (ad120.add ((x3_1).toNat * 4)).off + 1, none⟩ = some (.int .i64 ((rd_T51 l0 x3_1).f0.f1)) ∧ w'.cell? ⟨(ad120.add ((x3_1).toNat * 4)).block, (ad120.add ((x3_1).toNat * 4)).off + 2, none⟩ = some (.int .u64 ((rd_T51 l0 x3_1).f1)) ∧ w'.cell? ⟨(ad120.add ((x3_1).toNat * 4)).block, (ad120.add ((x3_1).toNat * 4)).off + 3, none⟩ = some (.int .i64 ((rd_T51 l0 x3_1).f2)) ∧ w'.cell? (ad120.add ((x3_1).toNat * 4)) = some (.int .i64 ((rd_T51 l0 x3_1).f0.f0)) ∧ w'.cell? ⟨(ad120.add ((x3_1).toNat * 4)).block, (ad120.add ((x3_1).toNat * 4)).off + 1, none⟩ = some (.int .i64 ((rd_T51 l0 x3_1).f0.f1)) ∧ w'.cell? ⟨(ad120.add ((x3_1).toNat * 4)).block, (ad120.add ((x3_1).toNat * 4)).off + 2, none⟩ = some (.int .u64 ((rd_T51 l0 x3_1).f1)) ∧ w'.cell? ⟨(ad120.add ((x3_1).toNat * 4)).block, (ad120.add ((x3_1).toNat * 4)).off + 3, none⟩ = some (.int .i64 ((rd_T51 l0 x3_1).f2))) (ds := []) (bm 26 0) (by kernel_rfl) rfl rfl ⟨((HB.out.cell (World.block_lt_of_cell? w _ hw120_0)).trans hw120_0), ((HB.out.cell (World.block_lt_of_cell? w _ hw120_1)).trans hw120_1), ((HB.out.cell (World.block_lt_of_cell? w _ hw120_2)).trans hw120_2), ((HB.out.cell (World.block_lt_of_cell? w _ hw120_3)).trans hw120_3), ((HB.out.cell (World.block_lt_of_cell? w _ hw121_0)).trans hw121_0), ((HB.out.cell (World.block_lt_of_cell? w _ hw121_1)).trans hw121_1), ((HB.out.cell (World.block_lt_of_cell? w _ hw121_2)).trans hw121_2), ((HB.out.cell (World.block_lt_of_cell? w _ hw121_3)).trans hw121_3), ((HB.out.cell (World.block_lt_of_cell? w _ hw126_0)).trans hw126_0), ((HB.out.cell (World.block_lt_of_cell? w _ hw126_1)).trans hw126_1), ((HB.out.cell (World.block_lt_of_cell? w _ hw126_2)).trans hw126_2), ((HB.out.cell (World.block_lt_of_cell? w _ hw126_3)).trans hw126_3)⟩ (fun hHeld => ?_); refine with_tabW ensembleref05_Right.tab4 ensembleref05_Right.bits4 (fun HT_ HW_ => ?_)
         generalize wr.drew = w15 at HB HR125 hx120_0 hx120_1 hx120_2 hx120_3 hx121_0 hx121_1 hx121_2 hx121_3 hx126_0 hx126_1 hx126_2 hx126_3 hHeld ⊢
         refine pu 0 (some 10) (bm 26 1) ?_
         refine pu 1 (some 11) (bm 26 3) ?_
         refine pu 2 (some 12) (bm 26 7) ?_
         refine pu 3 (some 13) (bm 26 15) ?_
         refine tk12 4 (some 14) (bm 26 31) ?_
         refine pu 5 (some 15) (bm 26 63) ?_
         refine pu 6 (some 16) (bm 26 127) ?_
         refine pu 7 (some 17) (bm 26 255) ?_
         refine pu 8 (some 18) (bm 26 511) ?_
         refine pu 9 (some 19) (bm 26 1023) ?_
         refine pu 10 (some 20) (bm 26 2047) ?_
         refine tk12 11 (some 21) (bm 26 4095) ?_
         refine pu 12 (some 22) (bm 26 8191) ?_
         refine pu 13 (some 23) (bm 26 16383) ?_
         refine pu 14 (some 24) (bm 26 32767) ?_
         refine pu 15 (some 25) (bm 26 65535) ?_
         refine pu 16 (some 26) (bm 26 131071) ?_
         refine pu 17 (some 27) (bm 26 262143) ?_
         refine pu 18 (some 28) (bm 26 524287) ?_
         refine pu 19 (some 29) (bm 26 1048575) ?_
         refine pu 20 (some 30) (bm 26 2097151) ?_
         refine pu 21 (some 31) (bm 26 4194303) ?_
         refine tk12 22 (some 32) (bm 26 8388607) ?_
         refine one_ (i := 23) (N := some 33) (bm 26 16777215) rfl rfl (one_of HT_.out (by kernel_rfl)) (by decide) (fun K hK => ?_)
         refine goes_ Try.func79 (by kernel_rfl) rfl #[.slice (some ad120) y122.length c0, .agg #[.int .i64 ((rd_T51 l0 x3_1).f0.f0), .int .i64 ((rd_T51 l0 x3_1).f0.f1)]] (by rfl) rfl rfl Z0 ?_
         with_reducible refine (ensembleref05_find.calls k1 _ _ y122 ((rd_T51 l0 x3_1).f0.f0) ((rd_T51 l0 x3_1).f0.f1) t127 _ ?side1 ?side2 A10.out).mono ?_
         (case side1 => exact cs_ HR125)
         (case side2 => exact HC125.out)
         rintro e w17 ⟨rfl, hb⟩
         refine ⟨_, rfl, ?_⟩
         replace HB := hs_ hb
         (try clear hb)
         (try clear hb2)
         (try clear hk)
         (try clear hi)
         refine hK.out _ _ ⟨((HB.out.cell (World.block_lt_of_cell? w _ hw120_0)).trans hw120_0), ((HB.out.cell (World.block_lt_of_cell? w _ hw120_1)).trans hw120_1), ((HB.out.cell (World.block_lt_of_cell? w _ hw120_2)).trans hw120_2), ((HB.out.cell (World.block_lt_of_cell? w _ hw120_3)).trans hw120_3), ((HB.out.cell (World.block_lt_of_cell? w _ hw121_0)).trans hw121_0), ((HB.out.cell (World.block_lt_of_cell? w _ hw121_1)).trans hw121_1), ((HB.out.cell (World.block_lt_of_cell? w _ hw121_2)).trans hw121_2), ((HB.out.cell (World.block_lt_of_cell? w _ hw121_3)).trans hw121_3), ((HB.out.cell (World.block_lt_of_cell? w _ hw126_0)).trans hw126_0), ((HB.out.cell (World.block_lt_of_cell? w _ hw126_1)).trans hw126_1), ((HB.out.cell (World.block_lt_of_cell? w _ hw126_2)).trans hw126_2), ((HB.out.cell (World.block_lt_of_cell? w _ hw126_3)).trans hw126_3)⟩ (fun hHeld => ?_)
         clear hK K
         refine norm_ (a' := ?_) ?_ ?_
         rotate_left
         ·show Act.put _ (some 33) _ = _
          simp only [Act.put, List.setIfInBounds_toArray, List.set_cons_zero, List.set_cons_succ, i64_w, i32_w]
          rfl
         refine pu 24 (some 34) (bm 26 33554431) ?_
         refine pu 25 (some 35) (bm 26 67108863) ?_
         refine done_ (done_of HT_.out (by kernel_rfl)) ?_
         try go_wp2
         go_roundg k1
         case measure => have := HK1.out; omega
         case rel => exact ⟨(wrap64 (x3_1 + 1)), Z2, H', ⟨by have := HK1.out; omega⟩, ⟨hb_⟩⟩
       ·rw [if_neg c9] at H
        exact absurd H (by simp)
    ·rw [if_neg c3] at H
     exact absurd H (by simp)
   ·rw [if_neg c2] at H
    have c2b0 : decide (x3_1 < (l0.length : Int)) = false := decide_eq_false c2
    clear c2
    obtain rfl := Option.some.inj H
    go_wp2
    go_ret
    exact ⟨by first | rfl | (simp [errW_none, errW_some] <;> rfl) | (simp [*, errW_none, errW_some] <;> rfl), hb_⟩
end Go.Proofs.Ytckhjehibjdjdaa.P
namespace Go.Proofs.Ytckhjehibjdjdaa.P
open Go.RowKit Go.Proofs.YtckhjehibjdjdaaW.PrintWords Go.Proofs.YtckhjehibjdjdaaW.PrintLast Go.Proofs.YtckhjehibjdjdaaW.PrintMore
attribute [local go_sem] max2_int min2_int max_two min_two max_three min_three max_four min_four
set_option linter.unusedVariables false
set_option linter.unusedSimpArgs false
def ensemblelaw05_few.f (k : Nat) (l0 : List (S51)) : Option (Bool) := if (l0.length : Int) ≤ 70 then ((ensembleref05_Right.f k l0).bind fun t491 => (some t491)) else (some false)
set_option maxHeartbeats 8000000 in
set_option maxRecDepth 100000 in
theorem ensemblelaw05_few.calls (k : Nat) (A0 : Option Addr) (c0 : Nat) (l0 : List (S51)) (r : Bool) (w : World) (hr0 : Kd.C k51 w A0 l0.length l0) (hc0 : l0.length ≤ c0) (h : ensemblelaw05_few.f k l0 = some r) :
  Calls Try.prog 44 #[.slice A0 l0.length c0] w fun e w' => e = .returned (.bool r) ∧ Below w.heap.size w w' := by
 have HR0 := Aside0.mk hr0
 have HC0 := Aside0.mk hc0
 clear hr0 hc0
 have HB := Aside0.mk (Below.refl w.heap.size w)
 have H : (if (l0.length : Int) ≤ 70 then ((ensembleref05_Right.f k l0).bind fun t491 => (some t491)) else (some false)) = some r := h
 clear h
 by_cases c2 : (l0.length : Int) ≤ 70
 ·rw [if_pos c2] at H
  have c2b0 : decide ((l0.length : Int) ≤ 70) = true := decide_eq_true c2
  have c2b1 : decide (l0.length ≤ 70) = true := decide_eq_true (by omega)
  clear c2
  replace H := Option.bind_eq_some_iff.mp H
  obtain ⟨t491, A30, H⟩ := H
  replace H : (some t491) = some r := H
  have A3 := Aside0.mk A30
  clear A30
  obtain rfl := Option.some.inj H
  go_enter Try.func44, Try.ntmps44
  go_wp2_with (first | (go_at_call 67; (with_reducible refine (ensembleref05_Right.calls k _ _ l0 t491 _ ?side1 ?side2 A3.out).mono ?_); (case side1 => repeat (first | exact HR0.out | (with_reducible refine Kd.C_alloc ?_ _) | (with_reducible refine Kd.C_drewN ?_ _) | (with_reducible refine Kd.C_drew ?_))); (case side2 => exact HC0.out); rintro e w4 ⟨rfl, hb⟩; replace HB := hs_ hb; (try clear hb); (try clear hb2); (try clear hk); (try clear hi)))
  go_ret
  exact ⟨by first | rfl | (simp [errW_none, errW_some] <;> rfl) | (simp [*, errW_none, errW_some] <;> rfl), hb_⟩
 ·rw [if_neg c2] at H
  have c2b0 : decide ((l0.length : Int) ≤ 70) = false := decide_eq_false c2
  have c2b1 : decide (l0.length ≤ 70) = false := decide_eq_false (by omega)
  clear c2
  obtain rfl := Option.some.inj H
  go_enter Try.func44, Try.ntmps44
  go_wp2
  go_ret
  exact ⟨by first | rfl | (simp [errW_none, errW_some] <;> rfl) | (simp [*, errW_none, errW_some] <;> rfl), hb_⟩
end Go.Proofs.Ytckhjehibjdjdaa.P
namespace Go.Proofs.Ytckhjehibjdjdaa.P
open Go.RowKit Go.Proofs.YtckhjehibjdjdaaW.PrintWords Go.Proofs.YtckhjehibjdjdaaW.PrintLast Go.Proofs.YtckhjehibjdjdaaW.PrintMore
attribute [local go_sem] max2_int min2_int max_two min_two max_three min_three max_four min_four
set_option linter.unusedVariables false
set_option linter.unusedSimpArgs false
def ensembleref01_Has.l0 : Nat → Int → Int → Int → Option (Bool)
 | 0, _, _, _ => none
 | k + 1, x0, x1, x5 => if x5 < x1 then (ensembleref01_Has.l0 k (IntKind.u64.wrap (Int.tdiv x0 2)) x1 (wrap64 (x5 + 1))) else (if x1 ≥ 0 then (if x1 < 64 then (some ((Int.tmod x0 2) == 1)) else (some false)) else (some false))
def ensembleref01_Has.f (k : Nat) (a0 : Int) (a1 : Int) : Option (Bool) := ensembleref01_Has.l0 k a0 a1 0
set_option maxHeartbeats 8000000 in
set_option maxRecDepth 100000 in
theorem ensembleref01_Has.calls (k : Nat) (a0 : Int) (a1 : Int) (r : Bool) (w : World) (h : ensembleref01_Has.f k a0 a1 = some r) :
  Calls Try.prog 106 #[.int .u64 a0, .int .i64 a1] w fun e w' => e = .returned (.bool r) ∧ Drawn0 w w' := by
 have H : (ensembleref01_Has.l0 k a0 a1 0) = some r := h
 clear h
 have H' := Aside0.mk H
 clear H
 go_enter Try.func106, Try.ntmps106
 go_wp2
 go_loopg [0, 5] k (fun kq v0 v5 w' => ∃ (x0_1 : Int) (x5_1 : Int), v0 = .int .u64 x0_1 ∧ v5 = .int .i64 x5_1 ∧ Aside0 (ensembleref01_Has.l0 kq x0_1 a1 x5_1 = some r) ∧ Aside0 (kq ≤ k) ∧ Drawn0 w w')
 case atStart => exact ⟨(a0), (0), Z2, Z2, H', ⟨Nat.le_refl _⟩, by repeat (first | exact Drawn0.refl _ | apply Drawn0.step)⟩
 case round =>
  clear H'
  try clear c1
  try clear p2
  obtain ⟨x0_1, x5_1, rfl, rfl, HA, HK1, ⟨m1, rfl⟩⟩ := hrel
  cases gk with
  | zero => exact absurd HA.out (by simp [ensembleref01_Has.l0])
  | succ k1 =>
   have H := HA.out
   clear HA
   simp only [ensembleref01_Has.l0] at H
   by_cases c3 : x5_1 < a1
   ·rw [if_pos c3] at H
    have c3b0 : decide (x5_1 < a1) = true := decide_eq_true c3
    clear c3
    have H' := Aside0.mk H
    clear H
    go_wp2
    go_roundg k1
    case measure => have := HK1.out; omega
    case rel => exact ⟨(IntKind.u64.wrap (Int.tdiv x0_1 2)), (wrap64 (x5_1 + 1)), Z2, Z2, H', ⟨by have := HK1.out; omega⟩, by repeat (first | exact Drawn0.refl _ | apply Drawn0.step)⟩
   ·rw [if_neg c3] at H
    have c3b0 : decide (x5_1 < a1) = false := decide_eq_false c3
    clear c3
    by_cases c4 : a1 ≥ 0
    ·rw [if_pos c4] at H
     have c4b0 : decide (0 ≤ a1) = true := decide_eq_true c4
     clear c4
     by_cases c5 : a1 < 64
     ·rw [if_pos c5] at H
      have c5b0 : decide (a1 < 64) = true := decide_eq_true c5
      clear c5
      obtain rfl := Option.some.inj H
      go_wp2
      go_ret
      exact ⟨by first | rfl | (simp; done) | (simp [*]; done), by repeat (first | exact Drawn0.refl _ | apply Drawn0.step)⟩
     ·rw [if_neg c5] at H
      have c5b0 : decide (a1 < 64) = false := decide_eq_false c5
      clear c5
      obtain rfl := Option.some.inj H
      go_wp2
      go_ret
      exact ⟨by first | rfl | (simp; done) | (simp [*]; done), by repeat (first | exact Drawn0.refl _ | apply Drawn0.step)⟩
    ·rw [if_neg c4] at H
     have c4b0 : decide (0 ≤ a1) = false := decide_eq_false c4
     clear c4
     obtain rfl := Option.some.inj H
     go_wp2
     go_ret
     exact ⟨by first | rfl | (simp; done) | (simp [*]; done), by repeat (first | exact Drawn0.refl _ | apply Drawn0.step)⟩
end Go.Proofs.Ytckhjehibjdjdaa.P
namespace Go.Proofs.Ytckhjehibjdjdaa.P
open Go.RowKit Go.Proofs.YtckhjehibjdjdaaW.PrintWords Go.Proofs.YtckhjehibjdjdaaW.PrintLast Go.Proofs.YtckhjehibjdjdaaW.PrintMore
attribute [local go_sem] max2_int min2_int max_two min_two max_three min_three max_four min_four
set_option linter.unusedVariables false
set_option linter.unusedSimpArgs false
def ensembleref01_Units.l0 : Nat → Int → List Int → Int → Option (List Int)
 | 0, _, _, _ => none
 | k + 1, x0, x3, x4 => if x4 < 64 then ((ensembleref01_Has.f k x0 x4).bind fun t134 => (if t134 = true then (if x3.length < 17592186044416 then (ensembleref01_Units.l0 k x0 (x3 ++ [x4]) (wrap64 (x4 + 1))) else (none)) else (ensembleref01_Units.l0 k x0 x3 (wrap64 (x4 + 1))))) else (some x3)
def ensembleref01_Units.f (k : Nat) (a0 : Int) : Option (List Int) := ensembleref01_Units.l0 k a0 ([] : List Int) 0
set_option maxHeartbeats 8000000 in
set_option maxRecDepth 100000 in
theorem ensembleref01_Units.calls (k : Nat) (a0 : Int) (r : List Int) (w : World) (h : ensembleref01_Units.f k a0 = some r) :
  Calls Try.prog 82 #[.int .u64 a0] w fun e w' => ∃ v0_ : Value, e = .returned (v0_) ∧ Kd.R (Kd.int .i64) 3 w' w.heap.size (fun _ => True) v0_ r ∧ Below w.heap.size w w' := by
 have HB := Aside0.mk (Below.refl w.heap.size w)
 have H : (ensembleref01_Units.l0 k a0 ([] : List Int) 0) = some r := h
 clear h
 have H' := Aside0.mk H
 clear H
 go_enter Try.func82, Try.ntmps82
 go_wp2
 go_loopg [3, 4] k (fun kq v3 v4 w' => ∃ (x3_1 : List Int) (x4_1 : Int), v4 = .int .i64 x4_1 ∧ Aside0 (ensembleref01_Units.l0 kq a0 x3_1 x4_1 = some r) ∧ Aside0 (kq ≤ k) ∧ Aside0 (Kd.R (Kd.int .i64) 3 w' w.heap.size (fun _ => True) v3 x3_1) ∧ Aside0 (Below w.heap.size w w'))
 case atStart => exact ⟨(([] : List Int)), (0), Z2, H', ⟨Nat.le_refl _⟩, ⟨by first | exact Kd.R_nil _ _ _ _ _ | exact Kd.N_nil _ _ _ _ _ | exact Kd.V_nil _ _ _ _ _ | exact Kd.Q_nil _ _ _ _ _ | exact Kd.S_nil _ _ _ _ _⟩, ⟨hb_⟩⟩
 case round =>
  clear H'
  obtain ⟨x3_1, x4_1, rfl, HA, HK1, HO_3, HB⟩ := hrel
  cases gk with
  | zero => exact absurd HA.out (by simp [ensembleref01_Units.l0])
  | succ k1 =>
   have H := HA.out
   clear HA
   simp only [ensembleref01_Units.l0] at H
   by_cases c2 : x4_1 < 64
   ·rw [if_pos c2] at H
    have c2b0 : decide (x4_1 < 64) = true := decide_eq_true c2
    clear c2
    replace H := Option.bind_eq_some_iff.mp H
    obtain ⟨t134, A30, H⟩ := H
    replace H : (if t134 = true then (if x3_1.length < 17592186044416 then (ensembleref01_Units.l0 k1 a0 (x3_1 ++ [x4_1]) (wrap64 (x4_1 + 1))) else (none)) else (ensembleref01_Units.l0 k1 a0 x3_1 (wrap64 (x4_1 + 1)))) = some r := H
    have A3 := Aside0.mk A30
    clear A30
    by_cases c4 : t134 = true
    ·subst c4
     have H1 : (if x3_1.length < 17592186044416 then (ensembleref01_Units.l0 k1 a0 (x3_1 ++ [x4_1]) (wrap64 (x4_1 + 1))) else (none)) = some r := by rw [if_pos rfl] at H; exact H
     clear H
     have H := H1
     clear H1
     by_cases c5 : x3_1.length < 17592186044416
     ·rw [if_pos c5] at H
      have LMc5 := Aside0.mk c5
      clear c5
      obtain ⟨y135, hy135⟩ : ∃ y_ : List Int, y_ = (x3_1 ++ [x4_1]) := ⟨_, rfl⟩
      replace H : (ensembleref01_Units.l0 k1 a0 y135 (wrap64 (x4_1 + 1))) = some r := by first | (rw [hy135]; with_reducible exact H) | (have H2_ := (Option.bind_some _ _).symm.trans H; rw [hy135]; with_reducible exact H2_) | (have H2_ := (Option.bind_some _ _).symm.trans H; with_reducible exact H2_) | with_reducible exact H | (rw [hy135]; exact H) | exact H
      have Ny135 := Aside0.mk hy135
      clear hy135
      have H' := Aside0.mk H
      clear H
      go_wp2_with (first | ((with_reducible refine gate_callee (f := 106) rfl ?_); refine goesL_ (some 11) rfl rfl Try.func106 (by kernel_rfl) rfl #[.int .u64 a0, .int .i64 x4_1] rfl Z0 ?_; (with_reducible refine (ensembleref01_Has.calls k1 a0 x4_1 true _ A3.out).mono ?_); rintro e w' ⟨rfl, ⟨nd, rfl⟩⟩; refine ⟨_, rfl, ?_⟩) | ((with_reducible refine gate_builtin (b := .append) (xs := #[.tmp 12, .tmp 14]) rfl ?_); at_builtin; refine Kd.R_append (Kd.int .i64) (w0 := w) w.heap.size rfl (.tmp 12) (.tmp 14) 71 3 (.int .i64 0) 8 rfl Try.underlying71 info3 rfl (by decide) (by omega) u3 x3_1 x4_1 [.int .i64 x4_1] (fun _ => True) (fun _ => False) rfl rfl ?aP (fun _ hk => hk.elim) ?aF ?aO ?aB ?aS ?aL ?_; (case aP => exact rfl); (case aB => exact hb_); (case aF => exact (fun _ _ => trivial)); (case aO => exact (by (with_reducible repeat (first | apply Kd.R_alloc | apply Kd.R_drewN | apply Kd.R_drew)); exact HO_3.out)); (case aS => exact (below_size hb_)); (case aL => have := LMc5.out; omega); intro v136 w6 ho hb hg hat; rw [← Ny135.out] at ho; have HO137 := Aside0.mk (ho); replace HB := Aside0.mk (hb); clear HO_3; clear ho hb hg hat))
      go_roundg k1
      case measure => have := HK1.out; omega
      case rel => exact ⟨(y135), (wrap64 (x4_1 + 1)), Z2, H', ⟨by have := HK1.out; omega⟩, ⟨by (with_reducible repeat (first | apply Kd.R_alloc | apply Kd.R_drewN | apply Kd.R_drew)); exact HO137.out⟩, ⟨hb_⟩⟩
     ·rw [if_neg c5] at H
      exact absurd H (by simp)
    ·replace c4 := Bool.eq_false_iff.mpr c4
     subst c4
     have H1 : (ensembleref01_Units.l0 k1 a0 x3_1 (wrap64 (x4_1 + 1))) = some r := by rw [if_neg (show ¬ (false = true) by decide)] at H; exact H
     clear H
     have H := H1
     clear H1
     have H' := Aside0.mk H
     clear H
     go_wp2_with (first | ((with_reducible refine gate_callee (f := 106) rfl ?_); refine goesL_ (some 11) rfl rfl Try.func106 (by kernel_rfl) rfl #[.int .u64 a0, .int .i64 x4_1] rfl Z0 ?_; (with_reducible refine (ensembleref01_Has.calls k1 a0 x4_1 false _ A3.out).mono ?_); rintro e w' ⟨rfl, ⟨nd, rfl⟩⟩; refine ⟨_, rfl, ?_⟩))
     go_roundg k1
     case measure => have := HK1.out; omega
     case rel => exact ⟨(x3_1), (wrap64 (x4_1 + 1)), Z2, H', ⟨by have := HK1.out; omega⟩, ⟨by (with_reducible repeat (first | apply Kd.R_alloc | apply Kd.R_drewN | apply Kd.R_drew)); exact HO_3.out⟩, ⟨hb_⟩⟩
   ·rw [if_neg c2] at H
    have c2b0 : decide (x4_1 < 64) = false := decide_eq_false c2
    clear c2
    obtain rfl := Option.some.inj H
    go_wp2
    go_ret
    exact ⟨_, by first | rfl | (simp [errW_none, errW_some] <;> rfl) | (simp [*, errW_none, errW_some] <;> rfl), by (with_reducible repeat (first | apply Kd.R_alloc | apply Kd.R_drewN | apply Kd.R_drew)); exact HO_3.out, hb_⟩
end Go.Proofs.Ytckhjehibjdjdaa.P
namespace Go.Proofs.Ytckhjehibjdjdaa.P
open Go.RowKit Go.Proofs.YtckhjehibjdjdaaW.PrintWords Go.Proofs.YtckhjehibjdjdaaW.PrintLast Go.Proofs.YtckhjehibjdjdaaW.PrintMore
attribute [local go_sem] max2_int min2_int max_two min_two max_three min_three max_four min_four
set_option linter.unusedVariables false
set_option linter.unusedSimpArgs false
def ensembleref02_Count.l0 : Nat → List (S51) → Int → Int → Int → Option (Int × Int)
 | 0, _, _, _, _ => none
 | k + 1, x0, x4, x608000, x608001 => if x4 < (x0.length : Int) then (if 0 ≤ x4 then ((ensembleref01_Units.f k ((rd_T51 x0 x4).f1)).bind fun t609 => (ensembleref02_Count.l0 k x0 (wrap64 (x4 + 1)) (wrap64 (x608000 + (t609.length : Int))) (wrap64 (x608001 + ((rd_T51 x0 x4).f2))))) else (none)) else (some (x608000, x608001))
def ensembleref02_Count.f (k : Nat) (l0 : List (S51)) : Option (Int × Int) := ensembleref02_Count.l0 k l0 0 0 0
def ensembleref02_Count.T5 : Bool × List (List Nat × List Nat) := (true, [([], []), ([0], [0]), ([], []), ([], []), ([2, 3], [2, 3]), ([4], [4]), ([5], [5]), ([6], [6]), ([7], [7]), ([1, 8], [1, 8]), ([0, 1, 2, 3, 4, 5, 6, 7, 8, 9], []), ([10, 9, 7, 0, 1, 2, 3, 4, 5, 6, 7, 8, 9], [9, 10])])
def ensembleref02_Count.B5 : List Nat := [0, 1, 0, 0, 12, 28, 60, 124, 252, 511, 1023, 2047]
theorem ensembleref02_Count.tab5 : rtab .any (opsOf Try.f53 5) = ensembleref02_Count.T5 := by kernel_rfl
theorem ensembleref02_Count.bits5 : waitsOk ensembleref02_Count.T5.2 ensembleref02_Count.B5 = true := by kernel_rfl
def ensembleref02_Count.T6 : Bool × List (List Nat × List Nat) := (true, [([], []), ([0], [0]), ([], []), ([], []), ([2, 3], [2, 3]), ([4], [4]), ([5], [5]), ([1, 6], [1, 6]), ([0, 1, 2, 3, 4, 5, 6, 7], []), ([8, 7, 0, 1, 2, 3, 4, 5, 6, 7], [7, 8])])
def ensembleref02_Count.B6 : List Nat := [0, 1, 0, 0, 12, 28, 60, 127, 255, 511]
theorem ensembleref02_Count.tab6 : rtab .any (opsOf Try.f53 6) = ensembleref02_Count.T6 := by kernel_rfl
theorem ensembleref02_Count.bits6 : waitsOk ensembleref02_Count.T6.2 ensembleref02_Count.B6 = true := by kernel_rfl
set_option maxHeartbeats 8000000 in
set_option maxRecDepth 100000 in
theorem ensembleref02_Count.calls (k : Nat) (A0 : Option Addr) (c0 : Nat) (l0 : List (S51)) (r1 : Int) (r2 : Int) (w : World) (hr0 : Kd.C k51 w A0 l0.length l0) (hc0 : l0.length ≤ c0) (h : ensembleref02_Count.f k l0 = some (r1, r2)) :
  Calls Try.prog 53 #[.slice A0 l0.length c0] w fun e w' => e = .returned (.agg #[.int .i64 r1, .int .i64 r2]) ∧ Below w.heap.size w w' := by
 have hu24 := Try.underlying24
 have HR0 := Aside0.mk hr0
 have HC0 := Aside0.mk hc0
 clear hr0 hc0
 have HB := Aside0.mk (Below.refl w.heap.size w)
 have H : (ensembleref02_Count.l0 k l0 0 0 0) = some (r1, r2) := h
 clear h
 have H' := Aside0.mk H
 clear H
 go_enter Try.func53, Try.ntmps53
 go_wp2_with (first | ((with_reducible refine gate_dst (N := 2) rfl ?_); refine bx 2 #[.int .i64 0, .int .i64 0] 24 ?_; intro gb606 hg w2 hbox hb; have BK606 := Aside0.mk (hbox); have GW606 := ge_ hg; have GE606 := ge_ hg; replace HB := hs_ hb; clear hb hbox hg) | ((with_reducible refine gate_dst (N := 3) rfl ?_); refine bx 3 #[.int .i64 0, .int .i64 0] 24 ?_; intro gb607 hg w3 hbox hb; have BK607 := Aside0.mk (hbox); have GW607 := ge_ hg; have GE607 := ge_ hg; have NB606_607 := nl_ BK606 hg; have NB607_606 := nr_ BK606 hg; replace BK606 := bk_ BK606 hb; replace HB := hs_ hb; clear hb hbox hg; have hnb4 := NB607_606.out; have hnc4 := NB606_607.out; obtain ⟨hcz5_0, hcz5_1, hfz5_0, hfz5_1⟩ := bz2_ BK607))
 go_loopg [4] k (fun kq v4 w' => ∃ (x4_1 : Int) (x608000_1 : Int) (x608001_1 : Int), v4 = .int .i64 x4_1 ∧ Aside0 (ensembleref02_Count.l0 kq l0 x4_1 x608000_1 x608001_1 = some (r1, r2)) ∧ Aside0 (kq ≤ k) ∧ Aside0 (w'.heap[gb606]? = some (.cells #[.int .i64 0, .int .i64 0] 24 (0, 0))) ∧ Aside0 (w'.heap[gb607]? = some (.cells #[.int .i64 x608000_1, .int .i64 x608001_1] 24 (0, 0))) ∧ Aside0 (Below w.heap.size w w'))
 case atStart => exact ⟨(0), (0), (0), Z2, H', ⟨Nat.le_refl _⟩, ⟨bs_⟩, ⟨bs_⟩, ⟨hb_⟩⟩
 case round =>
  clear H'
  try clear p2
  try clear c4
  try clear c5
  try clear hcz5_0
  try clear hcz5_1
  try clear hfz5_0
  try clear hfz5_1
  obtain ⟨x4_1, x608000_1, x608001_1, rfl, HA, HK1, BK606, BK607, HB⟩ := hrel
  cases gk with
  | zero => exact absurd HA.out (by simp [ensembleref02_Count.l0])
  | succ k1 =>
   have H := HA.out
   clear HA
   simp only [ensembleref02_Count.l0] at H
   by_cases c6 : x4_1 < (l0.length : Int)
   ·rw [if_pos c6] at H
    have c6b0 : decide (x4_1 < (l0.length : Int)) = true := decide_eq_true c6
    clear c6
    by_cases c7 : 0 ≤ x4_1
    ·rw [if_pos c7] at H
     have c7b0 : decide (0 ≤ x4_1) = true := decide_eq_true c7
     clear c7
     replace H := Option.bind_eq_some_iff.mp H
     obtain ⟨t609, A80, H⟩ := H
     replace H : (ensembleref02_Count.l0 k1 l0 (wrap64 (x4_1 + 1)) (wrap64 (x608000_1 + (t609.length : Int))) (wrap64 (x608001_1 + ((rd_T51 l0 x4_1).f2)))) = some (r1, r2) := H
     have A8 := Aside0.mk A80
     clear A80
     have H' := Aside0.mk H
     clear H
     try go_wp2
     replace BK606 := Aside0.mk (blk_drew BK606.out)
     replace BK607 := Aside0.mk (blk_drew BK607.out)
     replace HB := Aside0.mk (below_drew1 HB.out)
     have p608 : 0 ≤ (x4_1 : Int) := of_decide_eq_true Z1
     have q608 : x4_1 < (l0.length : Int) := of_decide_eq_true Z1
     obtain ⟨ad608, e608, hx608_0, hx608_1, hx608_2, hx608_3⟩ := at_T51 HR0.out x4_1 p608 q608
     have hw608_3 := hx608_3
     have hw608_2 := hx608_2
     have hw608_1 := hx608_1
     have hw608_0 := hx608_0
     cases e608
     replace hx608_0 := cx_ hx608_0
     replace hx608_1 := cx_ hx608_1
     replace hx608_2 := cx_ hx608_2
     replace hx608_3 := cx_ hx608_3
     replace p608 := eq_true p608
     replace q608 := eq_true q608
     refine start_ (n := 12) (S := fun w' => w'.cell? ⟨gb607, 0, none⟩ = some (.int .i64 x608000_1) ∧ w'.cell? ⟨gb607, 1, none⟩ = some (.int .i64 x608001_1) ∧ w'.cell? (ad608.add ((x4_1).toNat * 4)) = some (.int .i64 ((rd_T51 l0 x4_1).f0.f0)) ∧ w'.cell? ⟨(ad608.add ((x4_1).toNat * 4)).block, (ad608.add ((x4_1).toNat * 4)).off + 1, none⟩ = some (.int .i64 ((rd_T51 l0 x4_1).f0.f1)) ∧ w'.cell? ⟨(ad608.add ((x4_1).toNat * 4)).block, (ad608.add ((x4_1).toNat * 4)).off + 2, none⟩ = some (.int .u64 ((rd_T51 l0 x4_1).f1)) ∧ w'.cell? ⟨(ad608.add ((x4_1).toNat * 4)).block, (ad608.add ((x4_1).toNat * 4)).off + 3, none⟩ = some (.int .i64 ((rd_T51 l0 x4_1).f2))) (ds := [11]) (bm 12 0) (by kernel_rfl) rfl rfl ⟨(blk_cell BK607.out 0).trans rfl, (blk_cell BK607.out 1).trans rfl, ((HB.out.cell (World.block_lt_of_cell? w _ hw608_0)).trans hw608_0), ((HB.out.cell (World.block_lt_of_cell? w _ hw608_1)).trans hw608_1), ((HB.out.cell (World.block_lt_of_cell? w _ hw608_2)).trans hw608_2), ((HB.out.cell (World.block_lt_of_cell? w _ hw608_3)).trans hw608_3)⟩ (fun hHeld => ?_); refine with_tabW ensembleref02_Count.tab5 ensembleref02_Count.bits5 (fun HT_ HW_ => ?_)
     generalize wr.drew = w9 at BK606 BK607 HB hx608_0 hx608_1 hx608_2 hx608_3 hHeld ⊢
     refine pu 0 (some 12) (bm 12 1) ?_
     refine pu 2 (some 14) (bm 12 5) ?_
     refine pu 3 (some 15) (bm 12 13) ?_
     refine pu 4 (some 16) (bm 12 29) ?_
     refine pu 5 (some 17) (bm 12 61) ?_
     refine tk6 1 (some 13) (bm 12 63) ?_
     refine tk6 6 (some 18) (bm 12 127) ?_
     refine one_ (i := 7) (N := some 19) (bm 12 255) rfl rfl (one_of HT_.out (by kernel_rfl)) (by decide) (fun K hK => ?_)
     refine goes_ Try.func82 (by kernel_rfl) rfl #[.int .u64 ((rd_T51 l0 x4_1).f1)] (by rfl) rfl rfl Z0 ?_
     with_reducible refine (ensembleref01_Units.calls k1 ((rd_T51 l0 x4_1).f1) t609 _ A8.out).mono ?_
     rintro e w10 ⟨v610, rfl, ho0, hb⟩
     refine ⟨_, rfl, ?_⟩
     have HO611 := Aside0.mk (Kd.R_lower ho0 (below_size hb_))
     replace BK606 := bk_ BK606 hb
     replace BK607 := bk_ BK607 hb
     replace HB := hs_ hb
     (try clear hb)
     (try clear hb2)
     (try clear hk)
     (try clear hi)
     (try clear ho0)
     obtain ⟨Ao11, co11, eo11⟩ := Kd.R_slice HO611.out
     (first | subst eo11 | (injection eo11 with f1_ f2_ f3_; have f4_ := f1_.symm; have f5_ := f3_.symm; clear f1_ f2_ f3_; subst f4_; subst f5_))
     refine hK.out _ _ ⟨(blk_cell BK607.out 0).trans rfl, (blk_cell BK607.out 1).trans rfl, ((HB.out.cell (World.block_lt_of_cell? w _ hw608_0)).trans hw608_0), ((HB.out.cell (World.block_lt_of_cell? w _ hw608_1)).trans hw608_1), ((HB.out.cell (World.block_lt_of_cell? w _ hw608_2)).trans hw608_2), ((HB.out.cell (World.block_lt_of_cell? w _ hw608_3)).trans hw608_3)⟩ (fun hHeld => ?_)
     clear hK K
     refine norm_ (a' := ?_) ?_ ?_
     rotate_left
     ·show Act.put _ (some 19) _ = _
      simp only [Act.put, List.setIfInBounds_toArray, List.set_cons_zero, List.set_cons_succ, i64_w, i32_w]
      rfl
     refine pu 8 (some 20) (bm 12 511) ?_
     refine pu 9 (some 21) (bm 12 1023) ?_
     refine pu 10 (some 22) (bm 12 2047) ?_
     refine last_ (i := 11) (N := none) (bm 12 4095) rfl rfl (one_of HT_.out (by kernel_rfl)) (by decide) (fun K hK => ?_)
     have hs12 : w10.cell? ⟨gb607, 0, none⟩ = some (.int .i64 x608000_1) := (blk_cell BK607.out 0).trans rfl
     have hfs12 := blk_frozen BK607.out 0
     have hns12_0 := NB606_607.out
     have hms12_0 := NB607_606.out
     refine skip_ (w1 := ?_) (by rfl) rfl ?_ ?_
     rotate_left
     ·go_simp
      rfl
     refine hK.out _ _ ?_
     clear hK K
     refine done_ (done_of HT_.out (by kernel_rfl)) ?_
     try go_wp2
     have n0_ : Aside0 (Kd.R (Kd.int .i64) 3 (w10.setCell ⟨gb607, 0, none⟩ (.int .i64 (wrap64 (x608000_1 + (t609.length : Int))))) w.heap.size (fun _ => True) (.slice Ao11 t609.length co11) t609) := ⟨by (with_reducible repeat (first | apply Kd.R_alloc | apply Kd.R_drewN | apply Kd.R_drew)); exact Kd.R_mono (Kd.R_far (p := ⟨gb607, 0, none⟩) (Kd.R_types HO611.out BK607.out (by decide)) (fun _ hk => hk.2) (.int .i64 (wrap64 (x608000_1 + (t609.length : Int))))) (fun _ hk => trivial)⟩
     have n1_ : Aside0 ((w10.setCell ⟨gb607, 0, none⟩ (.int .i64 (wrap64 (x608000_1 + (t609.length : Int))))).heap[gb606]? = some (.cells #[.int .i64 0, .int .i64 0] 24 (0, 0))) := ⟨bs_⟩
     have n2_ : Aside0 ((w10.setCell ⟨gb607, 0, none⟩ (.int .i64 (wrap64 (x608000_1 + (t609.length : Int))))).heap[gb607]? = some (.cells #[.int .i64 (wrap64 (x608000_1 + (t609.length : Int))), .int .i64 x608001_1] 24 (0, 0))) := ⟨bs_⟩
     have n3_ : Aside0 (Below w.heap.size w (w10.setCell ⟨gb607, 0, none⟩ (.int .i64 (wrap64 (x608000_1 + (t609.length : Int)))))) := ⟨hb_⟩
     (try clear HO611)
     (try clear BK606)
     (try clear BK607)
     (try clear HB)
     generalize (w10.setCell ⟨gb607, 0, none⟩ (.int .i64 (wrap64 (x608000_1 + (t609.length : Int))))) = w13 at n0_ n1_ n2_ n3_ ⊢
     have HO611 := n0_
     have BK606 := n1_
     have BK607 := n2_
     have HB := n3_
     clear n0_ n1_ n2_ n3_
     replace HO611 := Aside0.mk (Kd.R_drew HO611.out)
     replace BK606 := Aside0.mk (blk_drew BK606.out)
     replace BK607 := Aside0.mk (blk_drew BK607.out)
     replace HB := Aside0.mk (below_drew1 HB.out)
     have p612 : 0 ≤ (x4_1 : Int) := of_decide_eq_true Z1
     have q612 : x4_1 < (l0.length : Int) := of_decide_eq_true Z1
     obtain ⟨ad612, e612, hx612_0, hx612_1, hx612_2, hx612_3⟩ := at_T51 HR0.out x4_1 p612 q612
     have hw612_3 := hx612_3
     have hw612_2 := hx612_2
     have hw612_1 := hx612_1
     have hw612_0 := hx612_0
     obtain rfl : ad608 = ad612 := (by injection e612)
     replace hx612_0 := cx_ hx612_0
     replace hx612_1 := cx_ hx612_1
     replace hx612_2 := cx_ hx612_2
     replace hx612_3 := cx_ hx612_3
     replace p612 := eq_true p612
     replace q612 := eq_true q612
     refine start_ (n := 10) (S := fun w' => w'.cell? ⟨gb607, 0, none⟩ = some (.int .i64 (wrap64 (x608000_1 + (t609.length : Int)))) ∧ w'.cell? ⟨gb607, 1, none⟩ = some (.int .i64 x608001_1) ∧ w'.cell? (ad608.add ((x4_1).toNat * 4)) = some (.int .i64 ((rd_T51 l0 x4_1).f0.f0)) ∧ w'.cell? ⟨(ad608.add ((x4_1).toNat * 4)).block, (ad608.add ((x4_1).toNat * 4)).off + 1, none⟩ = some (.int .i64 ((rd_T51 l0 x4_1).f0.f1)) ∧ w'.cell? ⟨(ad608.add ((x4_1).toNat * 4)).block, (ad608.add ((x4_1).toNat * 4)).off + 2, none⟩ = some (.int .u64 ((rd_T51 l0 x4_1).f1)) ∧ w'.cell? ⟨(ad608.add ((x4_1).toNat * 4)).block, (ad608.add ((x4_1).toNat * 4)).off + 3, none⟩ = some (.int .i64 ((rd_T51 l0 x4_1).f2))) (ds := [9]) (bm 10 0) (by kernel_rfl) rfl rfl ⟨(blk_cell BK607.out 0).trans rfl, (blk_cell BK607.out 1).trans rfl, ((HB.out.cell (World.block_lt_of_cell? w _ hw612_0)).trans hw612_0), ((HB.out.cell (World.block_lt_of_cell? w _ hw612_1)).trans hw612_1), ((HB.out.cell (World.block_lt_of_cell? w _ hw612_2)).trans hw612_2), ((HB.out.cell (World.block_lt_of_cell? w _ hw612_3)).trans hw612_3)⟩ (fun hHeld => ?_); refine with_tabW ensembleref02_Count.tab6 ensembleref02_Count.bits6 (fun HT_ HW_ => ?_)
     generalize w13.drew = w14 at HO611 BK606 BK607 HB hx612_0 hx612_1 hx612_2 hx612_3 hHeld ⊢
     refine pu 0 (some 23) (bm 10 1) ?_
     refine pu 2 (some 25) (bm 10 5) ?_
     refine pu 3 (some 26) (bm 10 13) ?_
     refine pu 4 (some 27) (bm 10 29) ?_
     refine pu 5 (some 28) (bm 10 61) ?_
     refine tk6 1 (some 24) (bm 10 63) ?_
     refine tk6 6 (some 29) (bm 10 127) ?_
     refine pu 7 (some 30) (bm 10 255) ?_
     refine pu 8 (some 31) (bm 10 511) ?_
     refine last_ (i := 9) (N := none) (bm 10 1023) rfl rfl (one_of HT_.out (by kernel_rfl)) (by decide) (fun K hK => ?_)
     have hs15 : w14.cell? ⟨gb607, 1, none⟩ = some (.int .i64 x608001_1) := (blk_cell BK607.out 1).trans rfl
     have hfs15 := blk_frozen BK607.out 1
     have hns15_0 := NB606_607.out
     have hms15_0 := NB607_606.out
     refine skip_ (w1 := ?_) (by rfl) rfl ?_ ?_
     rotate_left
     ·go_simp
      rfl
     refine hK.out _ _ ?_
     clear hK K
     refine done_ (done_of HT_.out (by kernel_rfl)) ?_
     try go_wp2
     go_roundg k1
     case measure => have := HK1.out; omega
     case rel => exact ⟨(wrap64 (x4_1 + 1)), (wrap64 (x608000_1 + (t609.length : Int))), (wrap64 (x608001_1 + ((rd_T51 l0 x4_1).f2))), Z2, H', ⟨by have := HK1.out; omega⟩, ⟨bs_⟩, ⟨bs_⟩, ⟨hb_⟩⟩
    ·rw [if_neg c7] at H
     exact absurd H (by simp)
   ·rw [if_neg c6] at H
    have c6b0 : decide (x4_1 < (l0.length : Int)) = false := decide_eq_false c6
    clear c6
    simp only [Option.some.injEq, Prod.mk.injEq] at H
    obtain ⟨rfl, rfl⟩ := H
    have hnb16 := NB607_606.out
    have hnc16 := NB606_607.out
    obtain ⟨hcz17_0, hcz17_1, hfz17_0, hfz17_1⟩ := bz2_ BK607
    obtain ⟨hcz18_0, hcz18_1, hfz18_0, hfz18_1⟩ := bz2_ BK606
    go_wp2
    refine bodyPost_ret (results_cell_row rfl _ _ gb606 24 #[.int .i64 x608000_1, .int .i64 x608001_1] (0, 0) _ rfl (by (with_reducible repeat (first | refine blk_drewN ?_ _ | refine blk_drew ?_ | refine blk_alloc ?_ _)); refine blk_put (cs := #[.int .i64 x608000_1, .int .i64 0]) ?_ 1 _ rfl; (with_reducible repeat (first | refine blk_drewN ?_ _ | refine blk_drew ?_ | refine blk_alloc ?_ _)); refine blk_put (cs := #[.int .i64 0, .int .i64 0]) ?_ 0 _ rfl; (with_reducible repeat (first | refine blk_drewN ?_ _ | refine blk_drew ?_ | refine blk_alloc ?_ _)); exact BK606.out) Try.underlying24 rfl (by kernel_rfl)) rfl ?_
    exact ⟨by first | rfl | (simp [errW_none, errW_some] <;> rfl) | (simp [*, errW_none, errW_some] <;> rfl), hb_⟩
end Go.Proofs.Ytckhjehibjdjdaa.P
namespace Go.Proofs.Ytckhjehibjdjdaa.P
open Go.RowKit Go.Proofs.YtckhjehibjdjdaaW.PrintWords Go.Proofs.YtckhjehibjdjdaaW.PrintLast Go.Proofs.YtckhjehibjdjdaaW.PrintMore
attribute [local go_sem] max2_int min2_int max_two min_two max_three min_three max_four min_four
set_option linter.unusedVariables false
set_option linter.unusedSimpArgs false
theorem eqA51 (d : Nat) (w : World) (x0 y0 : Int) (x1 y1 : Int) (x2 y2 : Int) (x3 y3 : Int) :
  (Op.equalIn (d + 3) 51 (.agg #[.int .i64 x0, .int .i64 x1, .int .u64 x2, .int .i64 x3]) (.agg #[.int .i64 y0, .int .i64 y1, .int .u64 y2, .int .i64 y3])).run Try.prog w = .ok ((x0 == y0 && (x1 == y1)) && (x2 == y2 && (x3 == y3))) w := by
 refine eqA_of Try.underlying51 (by kernel_rfl) ?_
 refine eqf_cons (by rfl) (by go_simp) (by go_simp) (eqA48 (d + 0) w _ _ _ _) ?_
 refine eqf_cons (by rfl) (by go_simp; rfl) (by go_simp; rfl) (by go_simp) ?_
 exact eqf_last (by rfl) (by go_simp; rfl) (by go_simp; rfl) (by go_simp)
end Go.Proofs.Ytckhjehibjdjdaa.P
namespace Go.Proofs.Ytckhjehibjdjdaa.P
open Go.RowKit Go.Proofs.YtckhjehibjdjdaaW.PrintWords Go.Proofs.YtckhjehibjdjdaaW.PrintLast Go.Proofs.YtckhjehibjdjdaaW.PrintMore
attribute [local go_sem] max2_int min2_int max_two min_two max_three min_three max_four min_four
set_option linter.unusedVariables false
set_option linter.unusedSimpArgs false
attribute [local go_sem high] eqA51
def ensembleref02_Same.l0 : Nat → List (S51) → List (S51) → Int → Option (Bool)
 | 0, _, _, _ => none
 | k + 1, x0, x1, x5 => if x5 < (x0.length : Int) then (if 0 ≤ x5 then (if x5 < (x1.length : Int) then (if ((!(((rd_T51 x0 x5).f0.f0) == ((rd_T51 x1 x5).f0.f0)) || (!(((rd_T51 x0 x5).f0.f1) == ((rd_T51 x1 x5).f0.f1)))) || (!(((rd_T51 x0 x5).f1) == ((rd_T51 x1 x5).f1)) || (!(((rd_T51 x0 x5).f2) == ((rd_T51 x1 x5).f2))))) = true then (some false) else (ensembleref02_Same.l0 k x0 x1 (wrap64 (x5 + 1)))) else (none)) else (none)) else (some true)
def ensembleref02_Same.f (k : Nat) (l0 : List (S51)) (l1 : List (S51)) : Option (Bool) := if (l0.length : Int) = (l1.length : Int) then (ensembleref02_Same.l0 k l0 l1 0) else (some false)
set_option maxHeartbeats 8000000 in
set_option maxRecDepth 100000 in
theorem ensembleref02_Same.calls (k : Nat) (A0 : Option Addr) (c0 : Nat) (l0 : List (S51)) (A1 : Option Addr) (c1 : Nat) (l1 : List (S51)) (r : Bool) (w : World) (hr0 : Kd.C k51 w A0 l0.length l0) (hc0 : l0.length ≤ c0) (hr1 : Kd.C k51 w A1 l1.length l1) (hc1 : l1.length ≤ c1) (h : ensembleref02_Same.f k l0 l1 = some r) :
  Calls Try.prog 54 #[.slice A0 l0.length c0, .slice A1 l1.length c1] w fun e w' => e = .returned (.bool r) ∧ Drawn0 w w' := by
 have hu51 := Try.underlying51
 have HR0 := Aside0.mk hr0
 have HC0 := Aside0.mk hc0
 clear hr0 hc0
 have HR1 := Aside0.mk hr1
 have HC1 := Aside0.mk hc1
 clear hr1 hc1
 have H : (if (l0.length : Int) = (l1.length : Int) then (ensembleref02_Same.l0 k l0 l1 0) else (some false)) = some r := h
 clear h
 by_cases c3 : (l0.length : Int) = (l1.length : Int)
 ·rw [if_pos c3] at H
  have c3b0 : ((l0.length : Int) == (l1.length : Int)) = true := beq_iff_eq.mpr c3
  have c3b1 : ((l0.length : Int) != (l1.length : Int)) = false := bne_eq_false_iff_eq.mpr c3
  have c3b2 : (l0.length == l1.length) = true := by first | simpa using c3 | (simp at c3 ⊢; omega)
  clear c3
  have H' := Aside0.mk H
  clear H
  go_enter Try.func54, Try.ntmps54
  go_wp2
  repeat (go_quiet (fail); try go_wp2)
  go_loopg [5] k (fun kq v5 w' => ∃ (x5_1 : Int), v5 = .int .i64 x5_1 ∧ Aside0 (ensembleref02_Same.l0 kq l0 l1 x5_1 = some r) ∧ Aside0 (kq ≤ k) ∧ Drawn0 w w')
  case atStart => exact ⟨(0), Z2, H', ⟨Nat.le_refl _⟩, by repeat (first | exact Drawn0.refl _ | apply Drawn0.step)⟩
  case round =>
   clear H'
   try clear c1
   try clear p2
   try clear c3
   try clear c3b0
   try clear c3b1
   try clear c3b2
   obtain ⟨x5_1, rfl, HA, HK1, ⟨m1, rfl⟩⟩ := hrel
   cases gk with
   | zero => exact absurd HA.out (by simp [ensembleref02_Same.l0])
   | succ k1 =>
    have H := HA.out
    clear HA
    simp only [ensembleref02_Same.l0] at H
    by_cases c4 : x5_1 < (l0.length : Int)
    ·rw [if_pos c4] at H
     have c4b0 : decide (x5_1 < (l0.length : Int)) = true := decide_eq_true c4
     clear c4
     by_cases c5 : 0 ≤ x5_1
     ·rw [if_pos c5] at H
      have c5b0 : decide (0 ≤ x5_1) = true := decide_eq_true c5
      clear c5
      by_cases c6 : x5_1 < (l1.length : Int)
      ·rw [if_pos c6] at H
       have c6b0 : decide (x5_1 < (l1.length : Int)) = true := decide_eq_true c6
       clear c6
       by_cases c7 : ((!(((rd_T51 l0 x5_1).f0.f0) == ((rd_T51 l1 x5_1).f0.f0)) || (!(((rd_T51 l0 x5_1).f0.f1) == ((rd_T51 l1 x5_1).f0.f1)))) || (!(((rd_T51 l0 x5_1).f1) == ((rd_T51 l1 x5_1).f1)) || (!(((rd_T51 l0 x5_1).f2) == ((rd_T51 l1 x5_1).f2))))) = true
       ·rw [if_pos c7] at H
        have c7b0 : ((!(((rd_T51 l0 x5_1).f0.f0) == ((rd_T51 l1 x5_1).f0.f0)) || (!(((rd_T51 l0 x5_1).f0.f1) == ((rd_T51 l1 x5_1).f0.f1)))) || (!(((rd_T51 l0 x5_1).f1) == ((rd_T51 l1 x5_1).f1)) || (!(((rd_T51 l0 x5_1).f2) == ((rd_T51 l1 x5_1).f2))))) = true := c7
        clear c7
        obtain rfl := Option.some.inj H
        have p613 : 0 ≤ (x5_1 : Int) := of_decide_eq_true Z1
        have q613 : x5_1 < (l0.length : Int) := of_decide_eq_true Z1
        obtain ⟨ad613, e613, hx613_0, hx613_1, hx613_2, hx613_3⟩ := at_T51 HR0.out x5_1 p613 q613
        cases e613
        replace p613 := eq_true p613
        replace q613 := eq_true q613
        have p614 : 0 ≤ (x5_1 : Int) := of_decide_eq_true Z1
        have q614 : x5_1 < (l1.length : Int) := of_decide_eq_true Z1
        obtain ⟨ad614, e614, hx614_0, hx614_1, hx614_2, hx614_3⟩ := at_T51 HR1.out x5_1 p614 q614
        cases e614
        replace p614 := eq_true p614
        replace q614 := eq_true q614
        go_wp2
        repeat (go_quiet (fail); try go_wp2)
        go_ret
        exact ⟨by first | rfl | (simp; done) | (simp [*]; done), by repeat (first | exact Drawn0.refl _ | apply Drawn0.step)⟩
       ·rw [if_neg c7] at H
        have c7b0 : ((!(((rd_T51 l0 x5_1).f0.f0) == ((rd_T51 l1 x5_1).f0.f0)) || (!(((rd_T51 l0 x5_1).f0.f1) == ((rd_T51 l1 x5_1).f0.f1)))) || (!(((rd_T51 l0 x5_1).f1) == ((rd_T51 l1 x5_1).f1)) || (!(((rd_T51 l0 x5_1).f2) == ((rd_T51 l1 x5_1).f2))))) = false := by simpa using c7
        clear c7
        have H' := Aside0.mk H
        clear H
        have p613 : 0 ≤ (x5_1 : Int) := of_decide_eq_true Z1
        have q613 : x5_1 < (l0.length : Int) := of_decide_eq_true Z1
        obtain ⟨ad613, e613, hx613_0, hx613_1, hx613_2, hx613_3⟩ := at_T51 HR0.out x5_1 p613 q613
        cases e613
        replace p613 := eq_true p613
        replace q613 := eq_true q613
        have p614 : 0 ≤ (x5_1 : Int) := of_decide_eq_true Z1
        have q614 : x5_1 < (l1.length : Int) := of_decide_eq_true Z1
        obtain ⟨ad614, e614, hx614_0, hx614_1, hx614_2, hx614_3⟩ := at_T51 HR1.out x5_1 p614 q614
        cases e614
        replace p614 := eq_true p614
        replace q614 := eq_true q614
        go_wp2
        repeat (go_quiet (fail); try go_wp2)
        go_roundg k1
        case measure => have := HK1.out; omega
        case rel => exact ⟨(wrap64 (x5_1 + 1)), Z2, H', ⟨by have := HK1.out; omega⟩, by repeat (first | exact Drawn0.refl _ | apply Drawn0.step)⟩
      ·rw [if_neg c6] at H
       exact absurd H (by simp)
     ·rw [if_neg c5] at H
      exact absurd H (by simp)
    ·rw [if_neg c4] at H
     have c4b0 : decide (x5_1 < (l0.length : Int)) = false := decide_eq_false c4
     clear c4
     obtain rfl := Option.some.inj H
     go_wp2
     repeat (go_quiet (fail); try go_wp2)
     go_ret
     exact ⟨by first | rfl | (simp; done) | (simp [*]; done), by repeat (first | exact Drawn0.refl _ | apply Drawn0.step)⟩
 ·rw [if_neg c3] at H
  have c3b0 : ((l0.length : Int) == (l1.length : Int)) = false := beq_eq_false_iff_ne.mpr c3
  have c3b1 : ((l0.length : Int) != (l1.length : Int)) = true := bne_iff_ne.mpr c3
  have c3b2 : (l0.length == l1.length) = false := by first | simpa using c3 | (simp at c3 ⊢; omega)
  obtain rfl := Option.some.inj H
  go_enter Try.func54, Try.ntmps54
  go_wp2
  repeat (go_quiet (fail); try go_wp2)
  go_ret
  exact ⟨by first | rfl | (simp; done) | (simp [*]; done), by repeat (first | exact Drawn0.refl _ | apply Drawn0.step)⟩
end Go.Proofs.Ytckhjehibjdjdaa.P
namespace Go.Proofs.Ytckhjehibjdjdaa.P
open Go.RowKit Go.Proofs.YtckhjehibjdjdaaW.PrintWords Go.Proofs.YtckhjehibjdjdaaW.PrintLast Go.Proofs.YtckhjehibjdjdaaW.PrintMore
attribute [local go_sem] max2_int min2_int max_two min_two max_three min_three max_four min_four
set_option linter.unusedVariables false
set_option linter.unusedSimpArgs false
def ensembleref04_Right.f (a0_0 : Int) (a0_1 : Int) (a0_2 : Int) (a0_3 : Int) : Option (Bool) := if a0_0 ≥ 0 then (if a0_0 ≤ 16 then (if a0_1 ≥ 0 then (if a0_1 ≤ 1024 then (if (wrap64 (a0_0 + a0_1)) > 0 then (if a0_2 ≥ 1 then (if a0_2 ≤ a0_3 then (some (decide (a0_3 ≤ 16))) else (some false)) else (some false)) else (some false)) else (some false)) else (some false)) else (some false)) else (some false)
set_option maxHeartbeats 8000000 in
set_option maxRecDepth 100000 in
theorem ensembleref04_Right.calls (a0_0 : Int) (a0_1 : Int) (a0_2 : Int) (a0_3 : Int) (r : Bool) (w : World) (h : ensembleref04_Right.f a0_0 a0_1 a0_2 a0_3 = some r) :
  Calls Try.prog 45 #[.agg #[.int .i64 a0_0, .int .i64 a0_1, .int .i64 a0_2, .int .i64 a0_3]] w fun e w' => e = .returned (.bool r) ∧ Below w.heap.size w w' := by
 have hu27 := Try.underlying27
 have HB := Aside0.mk (Below.refl w.heap.size w)
 have H : (if a0_0 ≥ 0 then (if a0_0 ≤ 16 then (if a0_1 ≥ 0 then (if a0_1 ≤ 1024 then (if (wrap64 (a0_0 + a0_1)) > 0 then (if a0_2 ≥ 1 then (if a0_2 ≤ a0_3 then (some (decide (a0_3 ≤ 16))) else (some false)) else (some false)) else (some false)) else (some false)) else (some false)) else (some false)) else (some false)) = some r := h
 clear h
 by_cases c2 : a0_0 ≥ 0
 ·rw [if_pos c2] at H
  have c2b0 : decide (0 ≤ a0_0) = true := decide_eq_true c2
  clear c2
  by_cases c3 : a0_0 ≤ 16
  ·rw [if_pos c3] at H
   have c3b0 : decide (a0_0 ≤ 16) = true := decide_eq_true c3
   clear c3
   by_cases c4 : a0_1 ≥ 0
   ·rw [if_pos c4] at H
    have c4b0 : decide (0 ≤ a0_1) = true := decide_eq_true c4
    clear c4
    by_cases c5 : a0_1 ≤ 1024
    ·rw [if_pos c5] at H
     have c5b0 : decide (a0_1 ≤ 1024) = true := decide_eq_true c5
     clear c5
     by_cases c6 : (wrap64 (a0_0 + a0_1)) > 0
     ·rw [if_pos c6] at H
      have c6b0 : decide (0 < (wrap64 (a0_0 + a0_1))) = true := decide_eq_true c6
      clear c6
      by_cases c7 : a0_2 ≥ 1
      ·rw [if_pos c7] at H
       have c7b0 : decide (1 ≤ a0_2) = true := decide_eq_true c7
       clear c7
       by_cases c8 : a0_2 ≤ a0_3
       ·rw [if_pos c8] at H
        have c8b0 : decide (a0_2 ≤ a0_3) = true := decide_eq_true c8
        clear c8
        obtain rfl := Option.some.inj H
        go_enter Try.func45, Try.ntmps45
        go_wp2_with (first | ((with_reducible refine gate_dst (N := 1) rfl ?_); refine bx 1 #[.int .i64 a0_0, .int .i64 a0_1, .int .i64 a0_2, .int .i64 a0_3] 27 ?_; intro gb131 hg w9 hbox hb; have BK131 := Aside0.mk (hbox); have GW131 := ge_ hg; have GE131 := ge_ hg; replace HB := hs_ hb; clear hb hbox hg; obtain ⟨hcz10_0, hcz10_1, hcz10_2, hcz10_3, hfz10_0, hfz10_1, hfz10_2, hfz10_3⟩ := bz4_ BK131))
        go_ret
        exact ⟨by first | rfl | (simp [errW_none, errW_some] <;> rfl) | (simp [*, errW_none, errW_some] <;> rfl), hb_⟩
       ·rw [if_neg c8] at H
        have c8b0 : decide (a0_2 ≤ a0_3) = false := decide_eq_false c8
        clear c8
        obtain rfl := Option.some.inj H
        go_enter Try.func45, Try.ntmps45
        go_wp2_with (first | ((with_reducible refine gate_dst (N := 1) rfl ?_); refine bx 1 #[.int .i64 a0_0, .int .i64 a0_1, .int .i64 a0_2, .int .i64 a0_3] 27 ?_; intro gb131 hg w11 hbox hb; have BK131 := Aside0.mk (hbox); have GW131 := ge_ hg; have GE131 := ge_ hg; replace HB := hs_ hb; clear hb hbox hg; obtain ⟨hcz12_0, hcz12_1, hcz12_2, hcz12_3, hfz12_0, hfz12_1, hfz12_2, hfz12_3⟩ := bz4_ BK131))
        go_ret
        exact ⟨by first | rfl | (simp [errW_none, errW_some] <;> rfl) | (simp [*, errW_none, errW_some] <;> rfl), hb_⟩
      ·rw [if_neg c7] at H
       have c7b0 : decide (1 ≤ a0_2) = false := decide_eq_false c7
       clear c7
       obtain rfl := Option.some.inj H
       go_enter Try.func45, Try.ntmps45
       go_wp2_with (first | ((with_reducible refine gate_dst (N := 1) rfl ?_); refine bx 1 #[.int .i64 a0_0, .int .i64 a0_1, .int .i64 a0_2, .int .i64 a0_3] 27 ?_; intro gb131 hg w13 hbox hb; have BK131 := Aside0.mk (hbox); have GW131 := ge_ hg; have GE131 := ge_ hg; replace HB := hs_ hb; clear hb hbox hg; obtain ⟨hcz14_0, hcz14_1, hcz14_2, hcz14_3, hfz14_0, hfz14_1, hfz14_2, hfz14_3⟩ := bz4_ BK131))
       go_ret
       exact ⟨by first | rfl | (simp [errW_none, errW_some] <;> rfl) | (simp [*, errW_none, errW_some] <;> rfl), hb_⟩
     ·rw [if_neg c6] at H
      have c6b0 : decide (0 < (wrap64 (a0_0 + a0_1))) = false := decide_eq_false c6
      clear c6
      obtain rfl := Option.some.inj H
      go_enter Try.func45, Try.ntmps45
      go_wp2_with (first | ((with_reducible refine gate_dst (N := 1) rfl ?_); refine bx 1 #[.int .i64 a0_0, .int .i64 a0_1, .int .i64 a0_2, .int .i64 a0_3] 27 ?_; intro gb131 hg w15 hbox hb; have BK131 := Aside0.mk (hbox); have GW131 := ge_ hg; have GE131 := ge_ hg; replace HB := hs_ hb; clear hb hbox hg; obtain ⟨hcz16_0, hcz16_1, hcz16_2, hcz16_3, hfz16_0, hfz16_1, hfz16_2, hfz16_3⟩ := bz4_ BK131))
      go_ret
      exact ⟨by first | rfl | (simp [errW_none, errW_some] <;> rfl) | (simp [*, errW_none, errW_some] <;> rfl), hb_⟩
    ·rw [if_neg c5] at H
     have c5b0 : decide (a0_1 ≤ 1024) = false := decide_eq_false c5
     clear c5
     obtain rfl := Option.some.inj H
     go_enter Try.func45, Try.ntmps45
     go_wp2_with (first | ((with_reducible refine gate_dst (N := 1) rfl ?_); refine bx 1 #[.int .i64 a0_0, .int .i64 a0_1, .int .i64 a0_2, .int .i64 a0_3] 27 ?_; intro gb131 hg w17 hbox hb; have BK131 := Aside0.mk (hbox); have GW131 := ge_ hg; have GE131 := ge_ hg; replace HB := hs_ hb; clear hb hbox hg; obtain ⟨hcz18_0, hcz18_1, hcz18_2, hcz18_3, hfz18_0, hfz18_1, hfz18_2, hfz18_3⟩ := bz4_ BK131))
     go_ret
     exact ⟨by first | rfl | (simp [errW_none, errW_some] <;> rfl) | (simp [*, errW_none, errW_some] <;> rfl), hb_⟩
   ·rw [if_neg c4] at H
    have c4b0 : decide (0 ≤ a0_1) = false := decide_eq_false c4
    clear c4
    obtain rfl := Option.some.inj H
    go_enter Try.func45, Try.ntmps45
    go_wp2_with (first | ((with_reducible refine gate_dst (N := 1) rfl ?_); refine bx 1 #[.int .i64 a0_0, .int .i64 a0_1, .int .i64 a0_2, .int .i64 a0_3] 27 ?_; intro gb131 hg w19 hbox hb; have BK131 := Aside0.mk (hbox); have GW131 := ge_ hg; have GE131 := ge_ hg; replace HB := hs_ hb; clear hb hbox hg; obtain ⟨hcz20_0, hcz20_1, hcz20_2, hcz20_3, hfz20_0, hfz20_1, hfz20_2, hfz20_3⟩ := bz4_ BK131))
    go_ret
    exact ⟨by first | rfl | (simp [errW_none, errW_some] <;> rfl) | (simp [*, errW_none, errW_some] <;> rfl), hb_⟩
  ·rw [if_neg c3] at H
   have c3b0 : decide (a0_0 ≤ 16) = false := decide_eq_false c3
   clear c3
   obtain rfl := Option.some.inj H
   go_enter Try.func45, Try.ntmps45
   go_wp2_with (first | ((with_reducible refine gate_dst (N := 1) rfl ?_); refine bx 1 #[.int .i64 a0_0, .int .i64 a0_1, .int .i64 a0_2, .int .i64 a0_3] 27 ?_; intro gb131 hg w21 hbox hb; have BK131 := Aside0.mk (hbox); have GW131 := ge_ hg; have GE131 := ge_ hg; replace HB := hs_ hb; clear hb hbox hg; obtain ⟨hcz22_0, hcz22_1, hcz22_2, hcz22_3, hfz22_0, hfz22_1, hfz22_2, hfz22_3⟩ := bz4_ BK131))
   go_ret
   exact ⟨by first | rfl | (simp [errW_none, errW_some] <;> rfl) | (simp [*, errW_none, errW_some] <;> rfl), hb_⟩
 ·rw [if_neg c2] at H
  have c2b0 : decide (0 ≤ a0_0) = false := decide_eq_false c2
  clear c2
  obtain rfl := Option.some.inj H
  go_enter Try.func45, Try.ntmps45
  go_wp2_with (first | ((with_reducible refine gate_dst (N := 1) rfl ?_); refine bx 1 #[.int .i64 a0_0, .int .i64 a0_1, .int .i64 a0_2, .int .i64 a0_3] 27 ?_; intro gb131 hg w23 hbox hb; have BK131 := Aside0.mk (hbox); have GW131 := ge_ hg; have GE131 := ge_ hg; replace HB := hs_ hb; clear hb hbox hg; obtain ⟨hcz24_0, hcz24_1, hcz24_2, hcz24_3, hfz24_0, hfz24_1, hfz24_2, hfz24_3⟩ := bz4_ BK131))
  go_ret
  exact ⟨by first | rfl | (simp [errW_none, errW_some] <;> rfl) | (simp [*, errW_none, errW_some] <;> rfl), hb_⟩
end Go.Proofs.Ytckhjehibjdjdaa.P
