/- WorkerRests: part 6 of the walk and of the plain law that it comes to. No condition. -/
import Derived.Test.YtckhjehibjdjdaaZWorkerRests5
import Derived.ArgAppend
import Derived.Below
import Derived.BigQuiet
import Derived.BigRegion
import Derived.Carry
import Derived.ChangeOld
import Derived.Deep.AppendLies
import Derived.Deep.CutBlock
import Derived.Deep.DeepCutAuto
import Derived.Deep.Draws
import Derived.Deep.LoopGhost
import Derived.Deep.OwnRows
import Derived.Deep.QuietTactic
import Derived.Deep.RegionHeld3
import Derived.Deep.Slices
import Derived.DeepKeys3
import Derived.KernelRfl
import Derived.Laws.Bits64
import Derived.Laws.Bits64b
import Derived.Laws.BitsLemmas
import Derived.Laws.BytesArg
import Derived.Laws.EntriesVeiled
import Derived.Laws.Externs
import Derived.Laws.IdiomCopy
import Derived.Laws.MakeOwn
import Derived.Laws.OwnMore
import Derived.Laws.Rows
import Derived.Laws.Slices
import Derived.Lib.AppendStr
import Derived.Lib.ConvBytes
import Derived.Lib.ReflectliteSlice
import Derived.Lib.ReflectliteSwap
import Derived.Lib.SliceRun
import Derived.LoopIn
import Derived.LoopN
import Derived.LoopNIn
import Derived.LoopTactic
import Derived.Maps.AppendAt
import Derived.Maps.Keyed
import Derived.Maps.Own
import Derived.Maps.OwnOps
import Derived.Maps.OwnSet
import Derived.Maps.Views
import Derived.OpenShut
import Derived.OrdersHeld
import Derived.Outline
import Derived.OwnWalk
import Derived.OwnWalkIn
import Derived.ProofKit
import Derived.RangeFuncBound
import Derived.RangeFuncBox
import Derived.RangeFuncCalls
import Derived.RangeFuncFrom
import Derived.RangeFuncLeaves
import Derived.RangeFuncNested
import Derived.RowKit
import Derived.RowKit3
import Derived.Shelf.Abstract
import Derived.Shelf.RegionOpen
import Derived.ShutString
import Derived.SizedLaws
import Derived.StillTailTactics
import Derived.Tactics
import Derived.TacticsInMore
import Derived.WalkKit
import Derived.WideLaws
set_option linter.unusedVariables false
set_option linter.unusedSimpArgs false
namespace Go.Proofs.Ytckhjehibjdjdaa.P
open Go.RowKit Go.Proofs.YtckhjehibjdjdaaW.PrintWords Go.Proofs.YtckhjehibjdjdaaW.PrintLast Go.Proofs.YtckhjehibjdjdaaW.PrintMore
open Go.Proofs.Ytckhjehibjdjdaa.Bits Go.Proofs.Ytckhjehibjdjdaa.Mp
def WorkerRests.Pure : Prop := ∀ (x0 : S86), wfd86 x0 → ∃ k, ensemblelaw15_WorkerRests.f k x0.f0 x0.f1 x0.f2 x0.f3 x0.f4 x0.f5 x0.f6 x0.f7 x0.f8 = some true
theorem head14_l (a0 a1 a2 a3 : Int) (view : List S51) (left : List S24) (ends : List S41) (waits : List S105) (runs : List S149) (hl : waits.length ≤ 1000000) (h0 : a1 ≠ 0) (d : Nat) :
  ∀ i : Nat, i ≤ waits.length → waits.length - i = d → Ev (fun k => ensembleref14_Head.l0 k (i : Int) a0 a1 a2 a3 view left ends waits runs) (headL a1 (waits.drop i)) := by
 induction d with
 | zero =>
  intro i hi hd
  obtain rfl : i = waits.length := by omega
  rw [List.drop_length, headL]
  exact Ev.step (f := fun _ => some (0, 0, 0, 0, 0, 0, false)) (fun k => by rw [ensembleref14_Head.l0, if_neg (by omega)]) (Ev.now _)
 | succ d ih =>
  intro i hi hd
  have hil : i < waits.length := by omega
  have hb := ih (i + 1) (by omega) (by omega)
  have e1 := nxt hl hil
  rw [List.drop_eq_getElem_cons hil, headL]
  by_cases hx : (waits[i]).f0.f0 = a1
  ·rw [if_pos ⟨h0, hx⟩]
   exact Ev.step (f := fun _ => some (_, _, _, _, _, _, true)) (fun k => by rw [ensembleref14_Head.l0, if_pos (by omega), if_pos (by omega), rd105' _ _ hil, if_pos hx]) (Ev.now _)
  ·rw [if_neg fun h => hx h.2]
   exact Ev.step (fun k => by rw [ensembleref14_Head.l0, if_pos (by omega), if_pos (by omega), rd105' _ _ hil, if_neg hx, e1]) hb
theorem headL_no : ∀ L : List S105, headL 0 L = (0, 0, 0, 0, 0, 0, false)
 | [] => rfl
 | x :: r => by rw [headL, if_neg (by simp), headL_no r]
theorem head14_ev (a0 a1 a2 a3 : Int) (view : List S51) (left : List S24) (ends : List S41) (waits : List S105) (runs : List S149) (hl : waits.length ≤ 1000000) : Ev (fun k => ensembleref14_Head.f k a0 a1 a2 a3 view left ends waits runs) (headL a1 waits) := by
 unfold ensembleref14_Head.f
 by_cases h0 : a1 = 0
 ·subst h0
  rw [headL_no]
  exact Ev.congr (fun k => by rw [if_pos rfl]) (Ev.now _)
 ·exact Ev.congr (fun k => by rw [if_neg h0]; rfl) (head14_l a0 a1 a2 a3 view left ends waits runs hl h0 _ 0 (Nat.zero_le _) rfl)
theorem headL_alone {h : Int} : ∀ {L : List S105}, (headL h L).2.2.2.2.2.2 ≠ false → h ≠ 0 ∧ ∃ x : S105, x.f0.f0 = h ∧ aloneL h L = [x] ∧ headL h L = (x.f0.f1, x.f0.f4.f2, x.f0.f4.f0, x.f0.f4.f1, x.f0.f4.f2, x.f0.f4.f3, true)
 | [], hh => absurd rfl hh
 | x :: r, hh => by
  by_cases c : h ≠ 0 ∧ x.f0.f0 = h
  ·exact ⟨c.1, x, c.2, by rw [aloneL, if_pos c.2], by rw [headL, if_pos c]⟩
  ·rw [headL, if_neg c] at hh ⊢
   obtain ⟨h0, y, hy, ha, hH⟩ := headL_alone hh
   exact ⟨h0, y, hy, by rw [aloneL, if_neg fun e => c ⟨h0, e⟩, ha], hH⟩
section
variable {view : List S51} {left : List S24} {ends : List S41} {waits : List S105} {runs : List S149}
theorem Sett.with (S : Sett view left ends waits runs) {w' : List S105} {r' : List S149} (hw : w'.length ≤ 150) (hr : r'.length ≤ 150) : Sett view left ends w' r' :=
 ⟨⟨S.F.ll, hw, hr, S.F.fp, S.F.lb, S.F.more⟩, S.F5, S.B, S.el, S.sl, S.vl⟩
theorem GotJ.fits {y : S88} {n : Int} {sl : List S52} (G : GotJ view left y n sl) (hn : y.f4.f2 ≤ n) : fitsB view (a7_ left y.f1).f0 (a7_ left y.f1).f1 y.f4.f2 y.f4.f0 y.f4.f1 y.f4.f2 y.f4.f3 = true := by
 have g0 := good_out0 G.gs
 have g1 := good_out1 G.gs
 obtain ⟨h1, h2, h3⟩ := canB_zero.1 (canB_le (by omega) (by omega) G.can hn)
 unfold fitsB rightB
 rw [G.gs]
 simp only [Bool.and_eq_true, decide_eq_true_eq]
 exact ⟨⟨⟨⟨⟨trivial, by omega⟩, by omega⟩, h2⟩, h3⟩, h1⟩
end
theorem Pure.WorkerRests : WorkerRests.Pure := by
 rintro ⟨a0, a1, a2, a3, view, left, ends, waits, runs⟩ w0
 simp only
 unfold wfd86 at w0
 simp only at w0
 refine Ev.rounds (g := fun k => ensemblelaw15_WorkerRests.f k a0 a1 a2 a3 view left ends waits runs) ?_
 refine Ev.congr (fun k => by unfold ensemblelaw15_WorkerRests.f; rfl) ?_
 obtain ⟨b, hb, hF⟩ := few15_ev a0 a1 a2 a3 view left ends waits runs w0.2.2.2.2.1.2 w0.2.2.2.2.2.2.1.2
 refine Ev.bind hb ?_
 cases b with
 | false => exact Ev.congr (fun k => by rw [if_pos rfl]) (Ev.now _)
 | true =>
  have S := (hF rfl).sett w0.2.2.2.2.1.2 w0.2.2.2.2.2.2.1.2
  have wl : waits.length ≤ 1000000 := by have := S.F.wl; omega
  obtain ⟨r, hr, hC⟩ := (S.with (w' := []) (r' := []) (by simp) (by simp)).choose (a0 := a0) (a1 := a1) (a2 := a2) (a3 := a3)
  obtain rfl : r = (0, 0, []) := by
   cases hC with
   | rest => rfl
   | start d x n sl hx => cases hx
   | grow x s hx => cases hx
  refine Ev.congr (fun k => by rw [if_neg (by decide)]) (Ev.bind hr ?_)
  refine Ev.congr (fun k => by rw [if_pos ⟨rfl, rfl, rfl⟩]) (Ev.bind (head14_ev a0 a1 a2 a3 view left ends waits runs wl) ?_)
  by_cases hq : (headL a1 waits).2.2.2.2.2.2 = false ∨ (headL a1 waits).1 < 0 ∨ (left.length : Int) ≤ (headL a1 waits).1
  ·exact Ev.congr (fun k => by rw [if_pos hq]) (Ev.now _)
  obtain ⟨h0, x, hx, ha, hH⟩ := headL_alone (h := a1) (L := waits) (fun e => hq (.inl e))
  refine Ev.congr (fun k => by rw [if_neg hq]) ?_
  rw [hH] at hq ⊢
  rw [ha]
  refine Ev.bind (fits12_ev view _ _ _ _ _ _ _ _ (by have := S.vl; omega) S.F5.V.free) ?_
  cases hf : fitsB view (a7_ left x.f0.f1).f0 (a7_ left x.f0.f1).f1 x.f0.f4.f2 x.f0.f4.f0 x.f0.f4.f1 x.f0.f4.f2 x.f0.f4.f3 with
  | true => exact Ev.congr (fun k => by rw [if_pos rfl]) (Ev.now _)
  | false =>
   obtain ⟨d, hd, hD⟩ := (S.with (w' := [x]) (r' := []) (by simp) (by simp)).choose (a0 := a0) (a1 := a1) (a2 := a2) (a3 := a3)
   refine Ev.congr (fun k => by rw [if_neg (by decide), if_pos wl]) (Ev.bind hd ?_)
   cases hD with
   | rest => exact Ev.congr (fun k => by rw [if_pos rfl]) (Ev.now _)
   | start d y n sl hy hh hn hl G =>
    obtain rfl := List.mem_singleton.1 hy
    rw [G.fits hn.1] at hf
    cases hf
   | grow y s hy => cases hy
end Go.Proofs.Ytckhjehibjdjdaa.P
namespace Go.Proofs.Ytckhjehibjdjdaa.row0
set_option maxRecDepth 100000
theorem and_mk {a b : Bool} (h : a = true) (k : b = true) : (a && b) = true := by rw [h, k]; rfl
def letters : List Char := List.map Char.ofNat [104, 97, 114, 110, 101, 115, 115, 32, 57, 100, 50, 54, 101, 98, 50, 54, 53, 56, 98, 49, 102, 51, 56, 49, 51, 55, 98, 54, 100, 49, 53, 55, 102, 53, 100, 49, 102, 101, 97, 49, 102, 56, 57, 57, 55, 98, 52, 55, 53, 51, 99, 98, 101, 48, 98, 98, 48, 97, 53, 54, 48, 102, 102, 54, 52, 98, 99, 52, 98, 52, 102, 52, 32, 99, 117, 116, 32, 97, 116, 32, 101, 110, 115, 101, 109, 98, 108, 101, 47, 101, 110, 115, 101, 109, 98, 108, 101, 108, 97, 119, 49, 50, 46, 80, 114, 111, 109, 105, 115, 101, 84, 101, 108, 108, 115, 32, 101, 110, 115, 101, 109, 98, 108, 101, 47, 101, 110, 115, 101, 109, 98, 108, 101, 108, 97, 119, 49, 50, 46, 80, 114, 111, 109, 105, 115, 101, 75, 101, 101, 112, 115, 32, 101, 110, 115, 101, 109, 98, 108, 101, 47, 101, 110, 115, 101, 109, 98, 108, 101, 108, 97, 119, 49, 50, 46, 80, 114, 111, 109, 105, 115, 101, 76, 101, 115, 115, 32, 101, 110, 115, 101, 109, 98, 108, 101, 47, 101, 110, 115, 101, 109, 98, 108, 101, 108, 97, 119, 49, 50, 46, 80, 114, 111, 109, 105, 115, 101, 79, 110, 108, 121, 32, 101, 110, 115, 101, 109, 98, 108, 101, 47, 101, 110, 115, 101, 109, 98, 108, 101, 108, 97, 119, 49, 50, 46, 80, 114, 111, 109, 105, 115, 101, 82, 111, 111, 109, 32, 101, 110, 115, 101, 109, 98, 108, 101, 47, 101, 110, 115, 101, 109, 98, 108, 101, 108, 97, 119, 49, 51, 46, 70, 105, 108, 108, 84, 101, 108, 108, 115, 32, 101, 110, 115, 101, 109, 98, 108, 101, 47, 101, 110, 115, 101, 109, 98, 108, 101, 108, 97, 119, 49, 51, 46, 70, 105, 108, 108, 76, 97, 116, 101, 32, 101, 110, 115, 101, 109, 98, 108, 101, 47, 101, 110, 115, 101, 109, 98, 108, 101, 108, 97, 119, 49, 51, 46, 70, 105, 108, 108, 78, 111, 110, 101, 32, 101, 110, 115, 101, 109, 98, 108, 101, 47, 101, 110, 115, 101, 109, 98, 108, 101, 108, 97, 119, 49, 51, 46, 70, 105, 108, 108, 77, 97, 110, 121, 32, 101, 110, 115, 101, 109, 98, 108, 101, 47, 101, 110, 115, 101, 109, 98, 108, 101, 108, 97, 119, 49, 51, 46, 70, 105, 108, 108, 80, 97, 115, 116, 32, 101, 110, 115, 101, 109, 98, 108, 101, 47, 101, 110, 115, 101, 109, 98, 108, 101, 108, 97, 119, 48, 53, 46, 80, 97, 99, 107, 70, 101, 119, 32, 101, 110, 115, 101, 109, 98, 108, 101, 47, 101, 110, 115, 101, 109, 98, 108, 101, 108, 97, 119, 48, 53, 46, 80, 97, 99, 107, 70, 114, 111, 110, 116, 32, 101, 110, 115, 101, 109, 98, 108, 101, 47, 101, 110, 115, 101, 109, 98, 108, 101, 108, 97, 119, 48, 53, 46, 80, 97, 99, 107, 84, 101, 108, 108, 115, 32, 101, 110, 115, 101, 109, 98, 108, 101, 47, 101, 110, 115, 101, 109, 98, 108, 101, 108, 97, 119, 48, 53, 46, 80, 97, 99, 107, 82, 111, 111, 109, 115, 32, 101, 110, 115, 101, 109, 98, 108, 101, 47, 101, 110, 115, 101, 109, 98, 108, 101, 108, 97, 119, 48, 53, 46, 80, 97, 99, 107, 76, 101, 102, 116, 32, 101, 110, 115, 101, 109, 98, 108, 101, 47, 101, 110, 115, 101, 109, 98, 108, 101, 108, 97, 119, 48, 53, 46, 80, 97, 99, 107, 77, 111, 114, 101, 32, 101, 110, 115, 101, 109, 98, 108, 101, 47, 101, 110, 115, 101, 109, 98, 108, 101, 108, 97, 119, 48, 53, 46, 80, 97, 99, 107, 87, 104, 111, 108, 101, 32, 101, 110, 115, 101, 109, 98, 108, 101, 47, 101, 110, 115, 101, 109, 98, 108, 101, 108, 97, 119, 49, 52, 46, 69, 108, 97, 115, 116, 105, 99, 77, 111, 115, 116, 32, 101, 110, 115, 101, 109, 98, 108, 101, 47, 101, 110, 115, 101, 109, 98, 108, 101, 108, 97, 119, 49, 52, 46, 69, 108, 97, 115, 116, 105, 99, 77, 111, 114, 101, 32, 101, 110, 115, 101, 109, 98, 108, 101, 47, 101, 110, 115, 101, 109, 98, 108, 101, 108, 97, 119, 49, 52, 46, 69, 108, 97, 115, 116, 105, 99, 83, 97, 102, 101, 32, 101, 110, 115, 101, 109, 98, 108, 101, 47, 101, 110, 115, 101, 109, 98, 108, 101, 108, 97, 119, 49, 53, 46, 87, 111, 114, 107, 101, 114, 77, 97, 121, 32, 101, 110, 115, 101, 109, 98, 108, 101, 47, 101, 110, 115, 101, 109, 98, 108, 101, 108, 97, 119, 49, 53, 46, 87, 111, 114, 107, 101, 114, 82, 101, 115, 116, 115]
theorem lit : Try.checked.prog.initOrder = String.ofList letters := by kernel_rfl
theorem lits : Try.checked.prog.initOrder.toList = letters := by rw [lit]; exact String.toList_ofList
def words : List (List Char) := List.map (List.map Char.ofNat) [[99, 117, 116], [97, 116], [101, 110, 115, 101, 109, 98, 108, 101, 47, 101, 110, 115, 101, 109, 98, 108, 101, 108, 97, 119, 49, 50, 46, 80, 114, 111, 109, 105, 115, 101, 84, 101, 108, 108, 115], [101, 110, 115, 101, 109, 98, 108, 101, 47, 101, 110, 115, 101, 109, 98, 108, 101, 108, 97, 119, 49, 50, 46, 80, 114, 111, 109, 105, 115, 101, 75, 101, 101, 112, 115], [101, 110, 115, 101, 109, 98, 108, 101, 47, 101, 110, 115, 101, 109, 98, 108, 101, 108, 97, 119, 49, 50, 46, 80, 114, 111, 109, 105, 115, 101, 76, 101, 115, 115], [101, 110, 115, 101, 109, 98, 108, 101, 47, 101, 110, 115, 101, 109, 98, 108, 101, 108, 97, 119, 49, 50, 46, 80, 114, 111, 109, 105, 115, 101, 79, 110, 108, 121], [101, 110, 115, 101, 109, 98, 108, 101, 47, 101, 110, 115, 101, 109, 98, 108, 101, 108, 97, 119, 49, 50, 46, 80, 114, 111, 109, 105, 115, 101, 82, 111, 111, 109], [101, 110, 115, 101, 109, 98, 108, 101, 47, 101, 110, 115, 101, 109, 98, 108, 101, 108, 97, 119, 49, 51, 46, 70, 105, 108, 108, 84, 101, 108, 108, 115], [101, 110, 115, 101, 109, 98, 108, 101, 47, 101, 110, 115, 101, 109, 98, 108, 101, 108, 97, 119, 49, 51, 46, 70, 105, 108, 108, 76, 97, 116, 101], [101, 110, 115, 101, 109, 98, 108, 101, 47, 101, 110, 115, 101, 109, 98, 108, 101, 108, 97, 119, 49, 51, 46, 70, 105, 108, 108, 78, 111, 110, 101], [101, 110, 115, 101, 109, 98, 108, 101, 47, 101, 110, 115, 101, 109, 98, 108, 101, 108, 97, 119, 49, 51, 46, 70, 105, 108, 108, 77, 97, 110, 121], [101, 110, 115, 101, 109, 98, 108, 101, 47, 101, 110, 115, 101, 109, 98, 108, 101, 108, 97, 119, 49, 51, 46, 70, 105, 108, 108, 80, 97, 115, 116], [101, 110, 115, 101, 109, 98, 108, 101, 47, 101, 110, 115, 101, 109, 98, 108, 101, 108, 97, 119, 48, 53, 46, 80, 97, 99, 107, 70, 101, 119], [101, 110, 115, 101, 109, 98, 108, 101, 47, 101, 110, 115, 101, 109, 98, 108, 101, 108, 97, 119, 48, 53, 46, 80, 97, 99, 107, 70, 114, 111, 110, 116], [101, 110, 115, 101, 109, 98, 108, 101, 47, 101, 110, 115, 101, 109, 98, 108, 101, 108, 97, 119, 48, 53, 46, 80, 97, 99, 107, 84, 101, 108, 108, 115], [101, 110, 115, 101, 109, 98, 108, 101, 47, 101, 110, 115, 101, 109, 98, 108, 101, 108, 97, 119, 48, 53, 46, 80, 97, 99, 107, 82, 111, 111, 109, 115], [101, 110, 115, 101, 109, 98, 108, 101, 47, 101, 110, 115, 101, 109, 98, 108, 101, 108, 97, 119, 48, 53, 46, 80, 97, 99, 107, 76, 101, 102, 116], [101, 110, 115, 101, 109, 98, 108, 101, 47, 101, 110, 115, 101, 109, 98, 108, 101, 108, 97, 119, 48, 53, 46, 80, 97, 99, 107, 77, 111, 114, 101], [101, 110, 115, 101, 109, 98, 108, 101, 47, 101, 110, 115, 101, 109, 98, 108, 101, 108, 97, 119, 48, 53, 46, 80, 97, 99, 107, 87, 104, 111, 108, 101], [101, 110, 115, 101, 109, 98, 108, 101, 47, 101, 110, 115, 101, 109, 98, 108, 101, 108, 97, 119, 49, 52, 46, 69, 108, 97, 115, 116, 105, 99, 77, 111, 115, 116], [101, 110, 115, 101, 109, 98, 108, 101, 47, 101, 110, 115, 101, 109, 98, 108, 101, 108, 97, 119, 49, 52, 46, 69, 108, 97, 115, 116, 105, 99, 77, 111, 114, 101], [101, 110, 115, 101, 109, 98, 108, 101, 47, 101, 110, 115, 101, 109, 98, 108, 101, 108, 97, 119, 49, 52, 46, 69, 108, 97, 115, 116, 105, 99, 83, 97, 102, 101], [101, 110, 115, 101, 109, 98, 108, 101, 47, 101, 110, 115, 101, 109, 98, 108, 101, 108, 97, 119, 49, 53, 46, 87, 111, 114, 107, 101, 114, 77, 97, 121], [101, 110, 115, 101, 109, 98, 108, 101, 47, 101, 110, 115, 101, 109, 98, 108, 101, 108, 97, 119, 49, 53, 46, 87, 111, 114, 107, 101, 114, 82, 101, 115, 116, 115]]
theorem wordsEq : behindMainWord (wordsSigns letters) = words := by kernel_rfl
theorem behind : behindMainWord (wordsSigns Try.checked.prog.initOrder.toList) = words := by rw [lits]; exact wordsEq
theorem headLifts_of {P : Program} {ws : List (List Char)} (h : behindMainWord (wordsSigns P.initOrder.toList) = ws) (h2 : ((stripLifts liftWords ws).2.head? == some "cut".toList) = true) (h3 : (stripLifts liftWords ws).1 = []) : P.headLifts = [] := by
 unfold Program.headLifts
 rw [h]
 simp only [h2, h3, if_true]
theorem headLifts : Try.checked.prog.headLifts = [] := headLifts_of behind (by kernel_rfl) (by kernel_rfl)
theorem liftsFinal_of {P : Program} {ws : List (List Char)} (h : behindMainWord (wordsSigns P.initOrder.toList) = ws) (hl : P.headLifts = []) (h1 : (ws.head? == some "carried".toList) = false) : P.liftsFinal = false := by
 unfold Program.liftsFinal
 rw [h, hl]
 simp only [h1, Bool.false_and, List.contains_nil, Bool.or_false]
theorem liftsFinal : Try.checked.prog.liftsFinal = false := liftsFinal_of behind headLifts (by kernel_rfl)
theorem make_of {P : Program} {c : List Char} {rest : List (List Char)} (h : behindMainWord (wordsSigns P.initOrder.toList) = c :: rest) (h1 : (c == "gc".toList || c == "spec".toList) = false) (h2 : (c == "cut".toList) = true) : P.make = some .cut := by
 unfold Program.make
 rw [h]
 simp only [h1, h2, Bool.true_or, if_true, Bool.false_eq_true, if_false]
theorem make : Try.checked.prog.make = some .cut := make_of (behind.trans (show words = _ :: _ from rfl)) (by kernel_rfl) (by kernel_rfl)
theorem mayEnter_of {P : Program} {c : List Char} {rest : List (List Char)} (h : behindMainWord (wordsSigns P.initOrder.toList) = c :: rest) (h2 : ((stripLifts liftWords (c :: rest)).2.head? == some "cut".toList) = true) (h3 : (stripLifts liftWords (c :: rest)).1 = []) (h4 : P.laysLater = false) (h5 : P.bearsReflect = false) (h6 : P.doorFits [] = true) : P.mayEnter = true := by
 unfold Program.mayEnter
 rw [h]
 simp only [h2, h3, h4, h5, h6, List.contains_nil, Bool.not_false, Bool.false_or, Bool.or_true, Bool.true_or, Bool.and_true, Bool.true_and]
theorem h4 : Try.checked.prog.laysLater = false := by kernel_rfl
theorem h5 : Try.checked.prog.bearsReflect = false := by kernel_rfl
theorem h6 : Try.checked.prog.doorFits [] = true := by kernel_rfl
theorem mayEnter : Try.checked.prog.mayEnter = true := mayEnter_of (behind.trans (show words = _ :: _ from rfl)) (by kernel_rfl) (by kernel_rfl) h4 h5 h6
end Go.Proofs.Ytckhjehibjdjdaa.row0
namespace Go.Proofs.Ytckhjehibjdjdaa.workerRests
open Go.ChangeShapes Go.WideShapes Go.ChangeAt Go.RowKit Go.Proofs.Ytckhjehibjdjdaa.P Go.Proofs.Ytckhjehibjdjdaa.Ob Go.Proofs.YtckhjehibjdjdaaW.PrintWords
open Go.ChangeMaps (open_string shut_string)
theorem own : ownKnob Try.prog.godebug = none := by kernel_rfl
theorem laidOut : laidOutB Try.prog = true := by kernel_rfl
set_option maxRecDepth 100000 in
theorem lifted (os : Os) (started : os.Started) (H : Type) (enc : TypeId × Value → H) :
  ReturnsInHanded {} Try.checked os 24 .any (Rows.workerRestsSpec.pre6 enc Try.prog Try.f24 Rows.workerRestsRow.domain false) (Rows.workerRestsSpec.post enc Try.prog Try.f24 false true false false) := by
 refine returnsInHanded_of_change_sized (C := Try.checked) own started (by kernel_rfl) Try.func24
  (ChangeSpec.witness6 (enc := enc) (C := Try.checked) false ⟨#[], #[.agg #[.int .i64 0, .int .i64 0, .int .i64 0, .int .i64 0, .slice none 0 0, .slice none 0 0, .slice none 0 0, .slice none 0 0, .slice none 0 0]], []⟩ 8 (by kernel_rfl) (by kernel_rfl) (by kernel_rfl) (by kernel_rfl)) ?_
 intro W base args ds gs before hval0 hW hcnd hsz0 _
 have hval : ∀ (j : Nat) t v, Try.f24.params[j]? = some t → args[j]? = some v → Value.okWide Try.prog W .any base t v := hval0
 have hW' := hW
 obtain ⟨p, q, hA0, hV, rfl, hfz, hnd⟩ := hW
 have hA : DataW.TrodAll enc Try.prog W 0 (fun _ => true) true Try.f24.params.toList args.toList ds p := hA0
 rw [Try.params24] at hA hval
 obtain ⟨v0, vs0, d0, ds0, p0, q0, hargs, rfl, rfl, h0, r0⟩ := trodAll_cons hA
 obtain ⟨rfl, rfl, rfl⟩ := trodAll_nil r0
 obtain rfl : args = #[v0] := by cases args; simp_all
 obtain ⟨rfl, rfl⟩ := trodVars_none hV
 have k0 := h0
 have lt0 : ∀ x ∈ p0, x.block < W.heap.size := by obtain ⟨m, hm⟩ := k0; exact DataW.trod_lt m _ _ _ hm
 obtain ⟨cs0, rfl, _⟩ := okWide_struct Try.underlying86 (hval 0 86 v0 rfl rfl)
 obtain ⟨x0, K0, w0⟩ := Opens.open o86 h0
 obtain ⟨A0_4, c0_4, A0_5, c0_5, A0_6, c0_6, A0_7, c0_7, A0_8, c0_8, e0, l0_4, g0_4, l0_5, g0_5, l0_6, g0_6, l0_7, g0_7, l0_8, g0_8⟩ := k86_open K0
 obtain rfl : cs0 = #[.int .i64 x0.f0, .int .i64 x0.f1, .int .i64 x0.f2, .int .i64 x0.f3, .slice A0_4 x0.f4.length c0_4, .slice A0_5 x0.f5.length c0_5, .slice A0_6 x0.f6.length c0_6, .slice A0_7 x0.f7.length c0_7, .slice A0_8 x0.f8.length c0_8] := by apply Array.toList_inj.1; exact e0
 clear hA0 hval0 hsz0
 obtain ⟨k, hk⟩ := Pure.WorkerRests x0 w0
 refine (ensemblelaw15_WorkerRests.calls k (x0.f0) (x0.f1) (x0.f2) (x0.f3) _ _ (x0.f4) _ _ (x0.f5) _ _ (x0.f6) _ _ (x0.f7) _ _ (x0.f8) true W g0_4 l0_4 g0_5 l0_5 g0_6 l0_6 g0_7 l0_7 g0_8 l0_8 hk).mono fun e W' ⟨he, bel⟩ => ?_
 subst he
 exact ⟨_, rfl, _, _, _, [], _, [], hW', trodAll_mk1 (shut_bool Try.underlying4 _), (trodAll_cons_mk (Below.trod laidOut (by kernel_rfl) (of_decide_eq_true (by kernel_rfl)) k0 bel lt0) trodAll_mk0), rfl, bel.frame _, fun h => by cases h⟩
set_option maxHeartbeats 8000000 in
theorem closedFacts : joinedFacts Try.checked.prog 24 Try.f24 Rows.workerRestsSpec Rows.workerRestsRow = true := by
 unfold joinedFacts
 repeat' (with_reducible (apply row0.and_mk))
 all_goals first | (with_reducible exact row0.mayEnter) | (rw [row0.liftsFinal]; kernel_rfl) | (rw [row0.make]; kernel_rfl) | (as_aux_lemma => kernel_rfl)
theorem over : Rows.workerRestsRow.holds Try.pinned (OpenSpec.ofChange Rows.workerRestsSpec) :=
 OpenClaim.holds_of_wide 24 Try.f24 rfl rfl rfl rfl rfl rfl rfl ⟨rfl, rfl, rfl, rfl, rfl⟩ rfl rfl rfl rfl rfl (by kernel_rfl) Try.func24 closedFacts
  (of_decide_eq_true (by kernel_rfl)) (by unfold Func.isWrapper; first | (rw [if_pos (by decide +kernel)]; kernel_rfl) | (rw [if_neg (by decide +kernel)]; exact ⟨rfl, rfl⟩))
  (fun os started H enc _ => lifted os started H enc)
theorem proved : Rows.WorkerRestsSaid := over
#print axioms proved
end Go.Proofs.Ytckhjehibjdjdaa.workerRests
namespace Go.Proofs.Ytckhjehibjdjdaa
theorem workerRests_holds : Rows.WorkerRestsSaid := workerRests.proved
end Go.Proofs.Ytckhjehibjdjdaa
