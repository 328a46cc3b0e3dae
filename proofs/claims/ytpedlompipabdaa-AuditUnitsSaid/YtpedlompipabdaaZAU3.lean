/- AuditUnits: part 3 of the walk and of the plain law that it comes to. No condition. -/
import Derived.Test.YtpedlompipabdaaZAU2
import Derived.ArgAppend
import Derived.Below
import Derived.BigQuiet
import Derived.BigRegion
import Derived.Carry
import Derived.Deep.AppendLies
import Derived.Deep.CutBlock
import Derived.Deep.DeepCutAuto
import Derived.Deep.Draws
import Derived.Deep.LoopGhost
import Derived.Deep.OwnRows
import Derived.Deep.QuietTactic
import Derived.Deep.RegionHeld3
import Derived.DeepKeys3
import Derived.KernelRfl
import Derived.Laws.Bits64
import Derived.Laws.Bits64b
import Derived.Laws.BitsLemmas
import Derived.Laws.BytesArg
import Derived.Laws.IdiomCopy
import Derived.Laws.MakeOwn
import Derived.Laws.OwnMore
import Derived.Laws.Rows
import Derived.Laws.Slices
import Derived.Lib.AppendStr
import Derived.Lib.ConvBytes
import Derived.Lib.SliceRun
import Derived.LoopTactic
import Derived.Maps.AppendAt
import Derived.Maps.Keyed
import Derived.Maps.Own
import Derived.Maps.OwnOps
import Derived.Maps.OwnSet
import Derived.Maps.Views
import Derived.OrdersHeld
import Derived.OwnWalk
import Derived.RowKit
import Derived.RowKit3
import Derived.Shelf.Abstract
import Derived.StillTailTactics
import Derived.Tactics
import Derived.WalkKit
import Derived.WideLaws
namespace Go.Proofs.Ytpedlompipabdaa.P
open Go.RowKit Go.Proofs.YtpedlompipabdaaW.PrintWords Go.Proofs.YtpedlompipabdaaW.PrintLast Go.Proofs.YtpedlompipabdaaW.PrintMore
set_option linter.unusedVariables false
set_option linter.unusedSimpArgs false
attribute [local go_sem] cellBx frozBx Sit.c0 Sit.c1 Sit.c2 Sit.c3 Sit.c4 Sit.c5 Sit.c6 Sit.c7 Sit.c8 Sit.c9 Sit.c10 Sit.c12 Sit.c13 Sit.c14 Sit.c15
attribute [local go_sem] Oper.semAt_some
def ownE (T : Sit) (id : Int) : Int := if (findG id T.lG).isSome = true then 0 else 3
def ownersR (T : Sit) : Int × Int := firstL (fun k => ownE T (rd_T62 T.lH (k : Int)).f0) (fun k => (rd_T62 T.lH (k : Int)).f0) 0 T.lH.length
def workE (T : Sit) (k id : Int) : Int := if id = 0 then 0 else match findG id T.lG with
 | none => 8
 | some r => if r.f1 = 2 then (if r.f8 = k then 0 else 8) else 8
def cntI (id : Int) : List Int → Int → Int
 | [], n => n
 | x :: l, n => cntI id l (if x = id then n + 1 else n)
def claimE (T : Sit) (r : S47) : Int := if r.f1 = 2 then (if cntI r.f0.f0 T.lW 0 = 1 then 0 else 8) else 0
def workersR (T : Sit) : Int × Int := if (T.lW.length : Int) = T.x2 then
    (if (firstL (fun k => workE T (k : Int) (rd T.lW (k : Int))) (fun k => (k : Int)) 0 T.lW.length).1 = 0 then firstL (fun k => claimE T (rd_T47 T.lG (k : Int))) (fun k => (rd_T47 T.lG (k : Int)).f0.f0) 0 T.lG.length
     else firstL (fun k => workE T (k : Int) (rd T.lW (k : Int))) (fun k => (k : Int)) 0 T.lW.length) else (13, 0)
set_option maxHeartbeats 8000000 in
set_option maxRecDepth 100000 in
theorem owners1 (T : Sit) (g p : Nat) (kk : Int) (h : S62) (A4 : Option Addr) (c4 : Nat) (w : World) (ha : Au w g T) (hp : Bx w p #[.pointer (some ⟨g, 0, none⟩)] 76) (hl : T.lG.length ≤ 1000000) :
  Calls Try.prog 45 (#[.int .i64 kk, .agg #[.int .i64 h.f0, .int .i64 h.f1, .int .i64 h.f2, .bool h.f3, .slice A4 h.f4.length c4]] ++ #[.pointer (some ⟨p, 0, none⟩)]) w fun e w' => e = .returned (.int .i64 (ownE T h.f0)) ∧ Below w.heap.size w w' := by
 have hu62 := Try.underlying62
 have hu76 := Try.underlying76
 have hu78 := Try.underlying78
 have hu35 := Try.underlying35
 have hu47 := Try.underlying47
 have hu45 := Try.underlying45
 have hu39 := Try.underlying39
 have hu4 := Try.underlying4
 have hu3 := Try.underlying3
 have : Be w w := ⟨Below.refl _ _⟩
 have HG := Aside0.mk hl
 clear hl
 obtain ⟨E, hE⟩ : ∃ E, ownE T h.f0 = E := ⟨_, rfl⟩
 rw [hE]
 unfold ownE at hE
 have HE := Aside0.mk hE
 clear hE
 show Calls Try.prog 45 #[.int .i64 kk, .agg #[.int .i64 h.f0, .int .i64 h.f1, .int .i64 h.f2, .bool h.f3, .slice A4 h.f4.length c4], .pointer (some ⟨p, 0, none⟩)] w _
 go_enter Try.func45, Try.ntmps45
 go_upto_region 1 with (first | ((with_reducible refine gate_dst (N := 4) rfl ?_); refine bxT 4 #[.int .i64 h.f0, .int .i64 h.f1, .int .i64 h.f2, .bool h.f3, .slice A4 h.f4.length c4] 62 ?_; intro g4 w4 _ _ _))
 go_upto_region 2 with ((go_at_call 46; refine (find_calls T g h.f0 _ inferInstance HG.out).mono ?_; rintro e wf ⟨rfl, hb⟩; have := Bl.mk hb; clear hb))
 obtain ⟨g6, w6, _, _, _, e1, e2⟩ := nameA wf #[.int .i64 ((findG h.f0 T.lG).getD z47).f0.f0, .int .i64 ((findG h.f0 T.lG).getD z47).f0.f1, .int .i64 ((findG h.f0 T.lG).getD z47).f0.f2, .int .i64 ((findG h.f0 T.lG).getD z47).f0.f3, .int .i64 ((findG h.f0 T.lG).getD z47).f0.f4.f0, .int .i64 ((findG h.f0 T.lG).getD z47).f0.f4.f1, .int .i64 ((findG h.f0 T.lG).getD z47).f0.f4.f2, .int .i64 ((findG h.f0 T.lG).getD z47).f0.f4.f3, .int .i64 ((findG h.f0 T.lG).getD z47).f1, .int .i64 ((findG h.f0 T.lG).getD z47).f2, .int .i64 ((findG h.f0 T.lG).getD z47).f3, .int .i64 ((findG h.f0 T.lG).getD z47).f4, .int .i64 ((findG h.f0 T.lG).getD z47).f5, .int .i64 ((findG h.f0 T.lG).getD z47).f6, .int .i64 ((findG h.f0 T.lG).getD z47).f7, .int .i64 ((findG h.f0 T.lG).getD z47).f8] 47
 rw [e1, e2]
 clear e1 e2
 have hh := HE.out
 clear HE
 cases hs : (findG h.f0 T.lG).isSome with
 | true =>
  rw [if_pos hs] at hh
  subst hh
  go_wp2
  go_ret
  exact ⟨rfl, Be.out⟩
 | false =>
  rw [if_neg (by rw [hs]; decide)] at hh
  subst hh
  go_wp2
  go_ret
  exact ⟨rfl, Be.out⟩
set_option maxHeartbeats 8000000 in
set_option maxRecDepth 100000 in
theorem owners_calls (T : Sit) (g : Nat) (w : World) (ha : Au w g T) (hq : T.lH.length ≤ 1000000) (hl : T.lG.length ≤ 1000000) : Calls Try.prog 24 #[.pointer (some ⟨g, 0, none⟩)] w fun e w' => e = .returned (.tuple #[.int .i64 (ownersR T).1, .int .i64 (ownersR T).2]) ∧ Below w.heap.size w w' := by
 have hu62 := Try.underlying62
 have hu76 := Try.underlying76
 have hu78 := Try.underlying78
 have hu27 := Try.underlying27
 have hu35 := Try.underlying35
 have hu31 := Try.underlying31
 have hu39 := Try.underlying39
 have hu3 := Try.underlying3
 have : Be w w := ⟨Below.refl _ _⟩
 have HG := Aside0.mk hl
 have HQ := Aside0.mk hq
 clear hl hq
 obtain ⟨⟨E, N⟩, hR⟩ : ∃ R, ownersR T = R := ⟨_, rfl⟩
 rw [hR]
 unfold ownersR at hR
 have H := Aside0.mk hR
 clear hR
 go_enter Try.func24, Try.ntmps24
 go_upto_region 1 with (first | ((with_reducible refine gate_dst (N := 1) rfl ?_); refine bxT 1 #[.pointer (some ⟨g, 0, none⟩)] 76 ?_; intro p w1 _ _ _))
 have HC := Aside0.mk (first62 45 #[.pointer (some ⟨p, 0, none⟩)] (fun args W => by kernel_rfl) none (fun k => ownE T (rd_T62 T.lH (k : Int)).f0) (fun k W => Be w W ∧ Bx W p #[.pointer (some ⟨g, 0, none⟩)] 76) T.AH T.cH T.lH w1 HQ.out (fun k e => by cases e) (fun k W h => (ha.ok.step h.1.out).H) (fun k W W' h hb => by
   obtain ⟨be, b1⟩ := h
   have := Bl.mk hb
   exact ⟨inferInstance, inferInstance⟩) ⟨inferInstance, inferInstance⟩ (fun k hk A4 c4 W h hx hxc => by
   obtain ⟨be, b1⟩ := h
   have hau : Au W g T := ⟨blk_below ha.box be.out, ha.ok.step be.out⟩
   refine (owners1 T g p _ _ A4 c4 W hau b1 HG.out).mono ?_
   rintro e W' ⟨rfl, hb⟩
   have := Bl.mk hb
   exact ⟨rfl, grown_ofb _ hb, fun _ => ⟨inferInstance, inferInstance⟩⟩))
 rw [H.out] at HC
 clear H
 go_wp2_with (go_at_call 32; refine HC.out.mono ?_; rintro e w5 ⟨rfl, hg5, _⟩; have := Bl.mk (grown_below0 hg5); clear hg5)
 go_ret2
 exact ⟨rfl, Be.out⟩
set_option maxHeartbeats 8000000 in
set_option maxRecDepth 100000 in
theorem workers1 (T : Sit) (g p : Nat) (k id : Int) (w : World) (ha : Au w g T) (hp : Bx w p #[.pointer (some ⟨g, 0, none⟩)] 76) (hl : T.lG.length ≤ 1000000) :
  Calls Try.prog 48 (#[.int .i64 k, .int .i64 id] ++ #[.pointer (some ⟨p, 0, none⟩)]) w fun e w' => e = .returned (.int .i64 (workE T k id)) ∧ Below w.heap.size w w' := by
 have hu62 := Try.underlying62
 have hu76 := Try.underlying76
 have hu78 := Try.underlying78
 have hu35 := Try.underlying35
 have hu47 := Try.underlying47
 have hu45 := Try.underlying45
 have hu39 := Try.underlying39
 have hu4 := Try.underlying4
 have hu3 := Try.underlying3
 have : Be w w := ⟨Below.refl _ _⟩
 have HG := Aside0.mk hl
 clear hl
 obtain ⟨E, hE⟩ : ∃ E, workE T k id = E := ⟨_, rfl⟩
 rw [hE]
 unfold workE at hE
 have HE := Aside0.mk hE
 clear hE
 show Calls Try.prog 48 #[.int .i64 k, .int .i64 id, .pointer (some ⟨p, 0, none⟩)] w _
 go_enter Try.func48, Try.ntmps48
 go_upto_region 2 with ((go_at_call 46; refine (find_calls T g id _ inferInstance HG.out).mono ?_; rintro e wf ⟨rfl, hb⟩; have := Bl.mk hb; clear hb))
 obtain ⟨g6, w6, _, _, _, e1, e2⟩ := nameA wf #[.int .i64 ((findG id T.lG).getD z47).f0.f0, .int .i64 ((findG id T.lG).getD z47).f0.f1, .int .i64 ((findG id T.lG).getD z47).f0.f2, .int .i64 ((findG id T.lG).getD z47).f0.f3, .int .i64 ((findG id T.lG).getD z47).f0.f4.f0, .int .i64 ((findG id T.lG).getD z47).f0.f4.f1, .int .i64 ((findG id T.lG).getD z47).f0.f4.f2, .int .i64 ((findG id T.lG).getD z47).f0.f4.f3, .int .i64 ((findG id T.lG).getD z47).f1, .int .i64 ((findG id T.lG).getD z47).f2, .int .i64 ((findG id T.lG).getD z47).f3, .int .i64 ((findG id T.lG).getD z47).f4, .int .i64 ((findG id T.lG).getD z47).f5, .int .i64 ((findG id T.lG).getD z47).f6, .int .i64 ((findG id T.lG).getD z47).f7, .int .i64 ((findG id T.lG).getD z47).f8] 47
 rw [e1, e2]
 clear e1 e2
 have hh := HE.out
 clear HE
 by_cases d1 : id = 0
 ·rw [if_pos d1] at hh
  subst hh
  have q1 : (id != 0) = false := by rw [d1]; rfl
  clear d1
  go_wp2
  go_ret
  exact ⟨rfl, Be.out⟩
 ·rw [if_neg d1] at hh
  have q1 : (id != 0) = true := bne_iff_ne.2 d1
  clear d1
  generalize findG id T.lG = o at *
  cases o with
  | none =>
   simp only [Option.isSome_none, Option.getD_none] at *
   subst hh
   go_wp2
   go_ret
   exact ⟨rfl, Be.out⟩
  | some r =>
   simp only [Option.isSome_some, Option.getD_some] at *
   by_cases d2 : r.f1 = 2
   ·rw [if_pos d2] at hh
    have q2 : (r.f1 != 2) = false := by rw [d2]; simp
    clear d2
    by_cases d3 : r.f8 = k
    ·rw [if_pos d3] at hh
     subst hh
     have q3 : (r.f8 != k) = false := by rw [d3]; simp
     clear d3
     go_wp2
     go_ret
     exact ⟨rfl, Be.out⟩
    ·rw [if_neg d3] at hh
     subst hh
     have q3 : (r.f8 != k) = true := bne_iff_ne.2 d3
     clear d3
     go_wp2
     go_ret
     exact ⟨rfl, Be.out⟩
   ·rw [if_neg d2] at hh
    subst hh
    have q2 : (r.f1 != 2) = true := bne_iff_ne.2 d2
    clear d2
    go_wp2
    go_ret
    exact ⟨rfl, Be.out⟩
set_option maxHeartbeats 8000000 in
set_option maxRecDepth 100000 in
theorem workers2 (T : Sit) (g p : Nat) (kk : Int) (r : S47) (w : World) (ha : Au w g T) (hp : Bx w p #[.pointer (some ⟨g, 0, none⟩)] 76) (hl : T.lW.length ≤ 1000000) :
  Calls Try.prog 50 (#[.int .i64 kk, .agg #[.int .i64 r.f0.f0, .int .i64 r.f0.f1, .int .i64 r.f0.f2, .int .i64 r.f0.f3, .int .i64 r.f0.f4.f0, .int .i64 r.f0.f4.f1, .int .i64 r.f0.f4.f2, .int .i64 r.f0.f4.f3, .int .i64 r.f1, .int .i64 r.f2, .int .i64 r.f3, .int .i64 r.f4, .int .i64 r.f5, .int .i64 r.f6, .int .i64 r.f7, .int .i64 r.f8]] ++ #[.pointer (some ⟨p, 0, none⟩)]) w fun e w' => e = .returned (.int .i64 (claimE T r)) ∧ Below w.heap.size w w' := by
 have hu28 := Try.underlying28
 have hu76 := Try.underlying76
 have hu78 := Try.underlying78
 have hu35 := Try.underlying35
 have hu47 := Try.underlying47
 have hu45 := Try.underlying45
 have hu39 := Try.underlying39
 have hu4 := Try.underlying4
 have hu3 := Try.underlying3
 have : Be w w := ⟨Below.refl _ _⟩
 have HL := Aside0.mk hl
 clear hl
 obtain ⟨E, hE⟩ : ∃ E, claimE T r = E := ⟨_, rfl⟩
 rw [hE]
 unfold claimE at hE
 obtain ⟨S, hS⟩ : ∃ S, cntI r.f0.f0 T.lW 0 = S := ⟨_, rfl⟩
 rw [hS] at hE
 have H := Aside0.mk hE
 have HS := Aside0.mk (show cntI r.f0.f0 (T.lW.drop 0) 0 = S from hS)
 clear hE hS
 show Calls Try.prog 50 #[.int .i64 kk, .agg #[.int .i64 r.f0.f0, .int .i64 r.f0.f1, .int .i64 r.f0.f2, .int .i64 r.f0.f3, .int .i64 r.f0.f4.f0, .int .i64 r.f0.f4.f1, .int .i64 r.f0.f4.f2, .int .i64 r.f0.f4.f3, .int .i64 r.f1, .int .i64 r.f2, .int .i64 r.f3, .int .i64 r.f4, .int .i64 r.f5, .int .i64 r.f6, .int .i64 r.f7, .int .i64 r.f8], .pointer (some ⟨p, 0, none⟩)] w _
 go_enter Try.func50, Try.ntmps50
 go_upto_region 1 with (first | ((with_reducible refine gate_dst (N := 4) rfl ?_); refine bxT 4 #[.int .i64 r.f0.f0, .int .i64 r.f0.f1, .int .i64 r.f0.f2, .int .i64 r.f0.f3, .int .i64 r.f0.f4.f0, .int .i64 r.f0.f4.f1, .int .i64 r.f0.f4.f2, .int .i64 r.f0.f4.f3, .int .i64 r.f1, .int .i64 r.f2, .int .i64 r.f3, .int .i64 r.f4, .int .i64 r.f5, .int .i64 r.f6, .int .i64 r.f7, .int .i64 r.f8] 47 ?_; intro g4 w4 _ _ _))
 go_upto_region 3 with (fail)
 go_loopw [6, 15] (fun v6 v15 wr => ∃ (i : Nat) (n : Int), i ≤ T.lW.length ∧ v6 = .int .i64 n ∧ v15 = .int .i64 (i : Int) ∧ Aside0 (0 ≤ n ∧ n ≤ i) ∧ Aside0 (cntI r.f0.f0 (T.lW.drop i) n = S) ∧ Bx wr g4 #[.int .i64 r.f0.f0, .int .i64 r.f0.f1, .int .i64 r.f0.f2, .int .i64 r.f0.f3, .int .i64 r.f0.f4.f0, .int .i64 r.f0.f4.f1, .int .i64 r.f0.f4.f2, .int .i64 r.f0.f4.f3, .int .i64 r.f1, .int .i64 r.f2, .int .i64 r.f3, .int .i64 r.f4, .int .i64 r.f5, .int .i64 r.f6, .int .i64 r.f7, .int .i64 r.f8] 47 ∧ Be w wr) (fun v6 v15 _ => T.lW.length - (intOf v15).toNat)
 case atStart => exact ⟨0, 0, Nat.zero_le _, rfl, rfl, ⟨by decide⟩, HS, inferInstance, inferInstance⟩
 case round =>
  clear HS
  obtain ⟨i, n, hi, rfl, rfl, HB, HA, b4, be⟩ := hrel
  have : Bl w wr := ⟨be.out⟩
  by_cases hlt : i < T.lW.length
  ·have hib : (i : Int) ≤ 1000000 := by have := HL.out; omega
   have hlt' : (i : Int) < T.lW.length := by omega
   have h0i : 0 ≤ (i : Int) := by omega
   obtain ⟨ad, ee, y0⟩ := Kd.at_int (ha.ok.step be.out).W (i : Int) h0i hlt'
   simp only [Int.toNat_natCast] at y0
   have hx : rd T.lW (i : Int) = T.lW[i] := by simp [rd, List.getD_eq_getElem?_getD, List.getElem?_eq_getElem hlt]
   have hh := HA.out
   rw [List.drop_eq_getElem_cons hlt, cntI] at hh
   rw [hx] at y0
   generalize T.lW[i] = x at *
   have HLT := Aside0.mk hlt
   have hb0 := HB.out
   have ce : T.cells[10]? = some (.slice (some ad) T.lW.length T.cW) := by rw [Sit.c10, ee]
   have e13 := Aside0.mk ee
   rw [ee]
   clear HA hlt hx ee
   by_cases d1 : x = r.f0.f0
   ·rw [if_pos d1] at hh
    have HA2 := Aside0.mk hh
    have q1 : (x == r.f0.f0) = true := beq_iff_eq.2 d1
    clear d1 hh
    go_wp2
    go_roundw
    case rel => exact ⟨i + 1, n + 1, HLT.out, by go_num, by go_num, ⟨by omega⟩, HA2, inferInstance, inferInstance⟩
    case measure => have := HLT.out; simp [intOf]; omega
   ·rw [if_neg d1] at hh
    have HA2 := Aside0.mk hh
    have q1 : (x == r.f0.f0) = false := beq_eq_false_iff_ne.2 d1
    clear d1 hh
    go_wp2
    go_roundw
    case rel => exact ⟨i + 1, n, HLT.out, rfl, by go_num, ⟨by omega⟩, HA2, inferInstance, inferInstance⟩
    case measure => have := HLT.out; simp [intOf]; omega
  ·obtain rfl : i = T.lW.length := by omega
   have hh := HA.out
   rw [List.drop_length, cntI] at hh
   subst hh
   clear HA
   have hh := H.out
   clear H
   by_cases d2 : r.f1 = 2
   ·rw [if_pos d2] at hh
    have q2 : (r.f1 == 2) = true := beq_iff_eq.2 d2
    clear d2
    by_cases d3 : n = 1
    ·rw [if_pos d3] at hh
     subst hh
     have q3 : (n != 1) = false := by rw [d3]; rfl
     clear d3
     go_wp2
     go_ret
     exact ⟨rfl, Be.out⟩
    ·rw [if_neg d3] at hh
     subst hh
     have q3 : (n != 1) = true := bne_iff_ne.2 d3
     clear d3
     go_wp2
     go_ret
     exact ⟨rfl, Be.out⟩
   ·rw [if_neg d2] at hh
    subst hh
    have q2 : (r.f1 == 2) = false := beq_eq_false_iff_ne.2 d2
    clear d2
    go_wp2
    go_ret
    exact ⟨rfl, Be.out⟩
set_option maxHeartbeats 8000000 in
set_option maxRecDepth 100000 in
theorem workers_calls (T : Sit) (g : Nat) (w : World) (ha : Au w g T) (hq : T.lW.length ≤ 1000000) (hl : T.lG.length ≤ 1000000) : Calls Try.prog 25 #[.pointer (some ⟨g, 0, none⟩)] w fun e w' => e = .returned (.tuple #[.int .i64 (workersR T).1, .int .i64 (workersR T).2]) ∧ Below w.heap.size w w' := by
 have hu28 := Try.underlying28
 have hu76 := Try.underlying76
 have hu78 := Try.underlying78
 have hu27 := Try.underlying27
 have hu35 := Try.underlying35
 have hu30 := Try.underlying30
 have hu39 := Try.underlying39
 have hu3 := Try.underlying3
 have : Be w w := ⟨Below.refl _ _⟩
 have HG := Aside0.mk hl
 have HQ := Aside0.mk hq
 clear hl hq
 obtain ⟨⟨E, N⟩, hR⟩ : ∃ R, workersR T = R := ⟨_, rfl⟩
 rw [hR]
 unfold workersR at hR
 obtain ⟨⟨e1, n1⟩, h1⟩ : ∃ R, firstL (fun k => workE T (k : Int) (rd T.lW (k : Int))) (fun k => (k : Int)) 0 T.lW.length = R := ⟨_, rfl⟩
 rw [h1] at hR
 have H := Aside0.mk hR
 have H1 := Aside0.mk h1
 clear hR h1
 go_enter Try.func25, Try.ntmps25
 go_upto_region 1 with (first | ((with_reducible refine gate_dst (N := 1) rfl ?_); refine bxT 1 #[.pointer (some ⟨g, 0, none⟩)] 76 ?_; intro p w1 _ _ _))
 have hh := H.out
 clear H
 by_cases d1 : (T.lW.length : Int) = T.x2
 ·rw [if_pos d1] at hh
  have q1 : ((T.lW.length : Int) != T.x2) = false := by rw [d1]; simp
  clear d1
  go_region
  go_upto_region 3 with (fail)
  clear q1
  have HC := Aside0.mk (first3 48 #[.pointer (some ⟨p, 0, none⟩)] (fun args W => by kernel_rfl) none (fun k => workE T (k : Int) (rd T.lW (k : Int))) (fun k W => Be w W ∧ Bx W p #[.pointer (some ⟨g, 0, none⟩)] 76) T.AW T.cW T.lW w1.drew HQ.out (fun k e => by cases e) (fun k W h => (ha.ok.step h.1.out).W) (fun k W W' h hb => by
    obtain ⟨be, b1⟩ := h
    have := Bl.mk hb
    exact ⟨inferInstance, inferInstance⟩) ⟨inferInstance, inferInstance⟩ (fun k hk W h => by
    obtain ⟨be, b1⟩ := h
    have hau : Au W g T := ⟨blk_below ha.box be.out, ha.ok.step be.out⟩
    refine (workers1 T g p _ _ W hau b1 HG.out).mono ?_
    rintro e W' ⟨rfl, hb⟩
    have := Bl.mk hb
    exact ⟨rfl, grown_ofb _ hb, fun _ => ⟨inferInstance, inferInstance⟩⟩))
  rw [H1.out] at HC
  clear H1
  go_upto_region 4 with (go_at_call 47; refine HC.out.mono ?_; rintro e w5 ⟨rfl, hg5, _⟩; have := Bl.mk (grown_below0 hg5); clear hg5)
  clear HC
  by_cases d2 : e1 = 0
  ·rw [if_pos d2] at hh
   have q2 : (e1 != 0) = false := by rw [d2]; rfl
   clear d2
   have HC := Aside0.mk (first47 50 #[.pointer (some ⟨p, 0, none⟩)] (fun args W => by kernel_rfl) none (fun k => claimE T (rd_T47 T.lG (k : Int))) (fun k W => Be w W ∧ Bx W p #[.pointer (some ⟨g, 0, none⟩)] 76) T.AG T.cG T.lG w5 HG.out (fun k e => by cases e) (fun k W h => (ha.ok.step h.1.out).G) (fun k W W' h hb => by
     obtain ⟨be, b1⟩ := h
     have := Bl.mk hb
     exact ⟨inferInstance, inferInstance⟩) ⟨inferInstance, inferInstance⟩ (fun k hk W h => by
     obtain ⟨be, b1⟩ := h
     have hau : Au W g T := ⟨blk_below ha.box be.out, ha.ok.step be.out⟩
     refine (workers2 T g p _ _ W hau b1 HQ.out).mono ?_
     rintro e W' ⟨rfl, hb⟩
     have := Bl.mk hb
     exact ⟨rfl, grown_ofb _ hb, fun _ => ⟨inferInstance, inferInstance⟩⟩))
   rw [hh] at HC
   clear hh
   go_wp2_with (go_at_call 42; refine HC.out.mono ?_; rintro e w6 ⟨rfl, hg5, _⟩; have := Bl.mk (grown_below0 hg5); clear hg5)
   go_ret2
   exact ⟨rfl, Be.out⟩
  ·rw [if_neg d2] at hh
   obtain ⟨rfl, rfl⟩ := Prod.mk.inj hh
   have q2 : (e1 != 0) = true := bne_iff_ne.2 d2
   clear d2 hh
   go_wp2
   go_ret2
   exact ⟨rfl, Be.out⟩
 ·rw [if_neg d1] at hh
  obtain ⟨rfl, rfl⟩ := Prod.mk.inj hh
  have q1 : ((T.lW.length : Int) != T.x2) = true := bne_iff_ne.2 d1
  clear d1 hh
  go_region
  go_wp2
  go_ret2
  exact ⟨rfl, Be.out⟩
end Go.Proofs.Ytpedlompipabdaa.P
namespace Go.Proofs.Ytpedlompipabdaa.P
open Go.RowKit Go.Proofs.YtpedlompipabdaaW.PrintWords Go.Proofs.YtpedlompipabdaaW.PrintLast Go.Proofs.YtpedlompipabdaaW.PrintMore
set_option linter.unusedVariables false
set_option linter.unusedSimpArgs false
attribute [local go_sem] cellBx frozBx Sit.c0 Sit.c1 Sit.c2 Sit.c3 Sit.c4 Sit.c5 Sit.c6 Sit.c7 Sit.c8 Sit.c9 Sit.c10 Sit.c12 Sit.c13 Sit.c14 Sit.c15
attribute [local go_sem] Oper.semAt_some
def headR (T : Sit) : Int × Int := if T.y2 = 0 then (if T.y3 = 0 then (0, 0) else (8, T.y2)) else match findG T.y2 T.lG with
 | none => (8, T.y2)
 | some r => if r.f1 = 1 then (0, 0) else if r.f1 = 2 then (0, 0) else (8, T.y2)
set_option maxHeartbeats 8000000 in
set_option maxRecDepth 100000 in
theorem head_calls (T : Sit) (g : Nat) (w : World) (ha : Au w g T) (hl : T.lG.length ≤ 1000000) : Calls Try.prog 26 #[.pointer (some ⟨g, 0, none⟩)] w fun e w' => e = .returned (.tuple #[.int .i64 (headR T).1, .int .i64 (headR T).2]) ∧ Below w.heap.size w w' := by
 have hu76 := Try.underlying76
 have hu78 := Try.underlying78
 have hu35 := Try.underlying35
 have hu47 := Try.underlying47
 have hu45 := Try.underlying45
 have hu39 := Try.underlying39
 have hu4 := Try.underlying4
 have hu3 := Try.underlying3
 have : Be w w := ⟨Below.refl _ _⟩
 have HG := Aside0.mk hl
 clear hl
 obtain ⟨⟨E, N⟩, hR⟩ : ∃ R, headR T = R := ⟨_, rfl⟩
 rw [hR]
 unfold headR at hR
 have H := Aside0.mk hR
 clear hR
 go_enter Try.func26, Try.ntmps26
 go_upto_region 2 with ((go_at_call 46; refine (find_calls T g T.y2 _ inferInstance HG.out).mono ?_; rintro e wf ⟨rfl, hb⟩; have := Bl.mk hb; clear hb))
 obtain ⟨g4, w4, _, _, _, e1, e2⟩ := nameA wf #[.int .i64 ((findG T.y2 T.lG).getD z47).f0.f0, .int .i64 ((findG T.y2 T.lG).getD z47).f0.f1, .int .i64 ((findG T.y2 T.lG).getD z47).f0.f2, .int .i64 ((findG T.y2 T.lG).getD z47).f0.f3, .int .i64 ((findG T.y2 T.lG).getD z47).f0.f4.f0, .int .i64 ((findG T.y2 T.lG).getD z47).f0.f4.f1, .int .i64 ((findG T.y2 T.lG).getD z47).f0.f4.f2, .int .i64 ((findG T.y2 T.lG).getD z47).f0.f4.f3, .int .i64 ((findG T.y2 T.lG).getD z47).f1, .int .i64 ((findG T.y2 T.lG).getD z47).f2, .int .i64 ((findG T.y2 T.lG).getD z47).f3, .int .i64 ((findG T.y2 T.lG).getD z47).f4, .int .i64 ((findG T.y2 T.lG).getD z47).f5, .int .i64 ((findG T.y2 T.lG).getD z47).f6, .int .i64 ((findG T.y2 T.lG).getD z47).f7, .int .i64 ((findG T.y2 T.lG).getD z47).f8] 47
 rw [e1, e2]
 clear e1 e2
 have hh := H.out
 clear H
 by_cases d1 : T.y2 = 0
 ·rw [if_pos d1] at hh
  have q1 : (T.y2 == 0) = true := beq_iff_eq.2 d1
  have q1' : (T.y2 != 0) = false := by rw [d1]; rfl
  clear d1
  by_cases d2 : T.y3 = 0
  ·rw [if_pos d2] at hh
   have q2 : (T.y3 == 0) = true := beq_iff_eq.2 d2
   clear d2
   obtain ⟨rfl, rfl⟩ := Prod.mk.inj hh
   clear hh
   go_wp2
   go_ret2
   exact ⟨rfl, Be.out⟩
  ·rw [if_neg d2] at hh
   have q2 : (T.y3 == 0) = false := beq_eq_false_iff_ne.2 d2
   clear d2
   obtain ⟨rfl, rfl⟩ := Prod.mk.inj hh
   clear hh
   go_wp2
   go_region
   go_wp2
   go_ret2
   exact ⟨rfl, Be.out⟩
 ·rw [if_neg d1] at hh
  have q1 : (T.y2 == 0) = false := beq_eq_false_iff_ne.2 d1
  have q1' : (T.y2 != 0) = true := bne_iff_ne.2 d1
  clear d1
  generalize findG T.y2 T.lG = o at *
  cases o with
  | none =>
   simp only [Option.isSome_none, Option.getD_none] at *
   obtain ⟨rfl, rfl⟩ := Prod.mk.inj hh
   clear hh
   go_wp2
   go_region
   go_wp2
   go_ret2
   exact ⟨rfl, Be.out⟩
  | some r =>
   simp only [Option.isSome_some, Option.getD_some] at *
   by_cases d2 : r.f1 = 1
   ·rw [if_pos d2] at hh
    have q2 : (r.f1 == 1) = true := beq_iff_eq.2 d2
    clear d2
    obtain ⟨rfl, rfl⟩ := Prod.mk.inj hh
    clear hh
    go_wp2
    go_ret2
    exact ⟨rfl, Be.out⟩
   ·rw [if_neg d2] at hh
    have q2 : (r.f1 == 1) = false := beq_eq_false_iff_ne.2 d2
    clear d2
    by_cases d3 : r.f1 = 2
    ·rw [if_pos d3] at hh
     have q3 : (r.f1 == 2) = true := beq_iff_eq.2 d3
     clear d3
     obtain ⟨rfl, rfl⟩ := Prod.mk.inj hh
     clear hh
     go_wp2
     go_ret2
     exact ⟨rfl, Be.out⟩
    ·rw [if_neg d3] at hh
     have q3 : (r.f1 == 2) = false := beq_eq_false_iff_ne.2 d3
     clear d3
     obtain ⟨rfl, rfl⟩ := Prod.mk.inj hh
     clear hh
     go_wp2
     go_region
     go_wp2
     go_ret2
     exact ⟨rfl, Be.out⟩
end Go.Proofs.Ytpedlompipabdaa.P
namespace Go.Proofs.Ytpedlompipabdaa.P
open Go.RowKit Go.Proofs.YtpedlompipabdaaW.PrintWords Go.Proofs.YtpedlompipabdaaW.PrintLast Go.Proofs.YtpedlompipabdaaW.PrintMore
set_option linter.unusedVariables false
set_option linter.unusedSimpArgs false
attribute [local go_sem] cellBx frozBx Sit.c0 Sit.c1 Sit.c2 Sit.c3 Sit.c4 Sit.c5 Sit.c6 Sit.c7 Sit.c8 Sit.c9 Sit.c10 Sit.c12 Sit.c13 Sit.c14 Sit.c15
attribute [local go_sem] Oper.semAt_some
def firstP : List (Int × Int) → Int × Int
 | [] => (0, 0)
 | x :: r => if x.1 = 0 then firstP r else x
def checkR (T : Sit) (wh : List S58) : Int × Int := firstP [holdsR T wh, queuesR T, gangsR T, ownersR T, workersR T, headR T]
structure Sit.Fit (T : Sit) : Prop where
 H : T.lH.length ≤ 1000000
 Q : T.lQ.length ≤ 1000000
 G : T.lG.length ≤ 1000000
 W : T.lW.length ≤ 1000000
 F : (frees T T.lH.length).length ≤ 1000000
 S : ∀ k, k < T.lH.length → spotsOk (frees T k) (rd_T62 T.lH (k : Int)).f4 = true
 M : ∀ h ∈ T.lH, h.f4.length ≤ 1000000 ∧ MaskOk h.f4
 I : ∀ h ∈ T.lH, (Lit.int .i64 h.f0).wf = true
 J : ∀ r ∈ T.lG, (Lit.int .i64 r.f0.f0).wf = true
theorem index80_0 (g : Nat) (w : World) : (Instr.index 80 (.agg #[.func (.func 21) #[.pointer (some ⟨g, 0, none⟩)] #[], .func (.func 22) #[.pointer (some ⟨g, 0, none⟩)] #[], .func (.func 23) #[.pointer (some ⟨g, 0, none⟩)] #[], .func (.func 24) #[.pointer (some ⟨g, 0, none⟩)] #[], .func (.func 25) #[.pointer (some ⟨g, 0, none⟩)] #[], .func (.func 26) #[.pointer (some ⟨g, 0, none⟩)] #[]]) (.int .i64 0)).run Try.prog w = .ok (.func (.func 21) #[.pointer (some ⟨g, 0, none⟩)] #[]) w := by
 have hu80 := Try.underlying80
 have hu79 := Try.underlying79
 simp [Instr.index, go_sem, hu80, hu79, part, isAgg, asAgg]
theorem index80_1 (g : Nat) (w : World) : (Instr.index 80 (.agg #[.func (.func 21) #[.pointer (some ⟨g, 0, none⟩)] #[], .func (.func 22) #[.pointer (some ⟨g, 0, none⟩)] #[], .func (.func 23) #[.pointer (some ⟨g, 0, none⟩)] #[], .func (.func 24) #[.pointer (some ⟨g, 0, none⟩)] #[], .func (.func 25) #[.pointer (some ⟨g, 0, none⟩)] #[], .func (.func 26) #[.pointer (some ⟨g, 0, none⟩)] #[]]) (.int .i64 1)).run Try.prog w = .ok (.func (.func 22) #[.pointer (some ⟨g, 0, none⟩)] #[]) w := by
 have hu80 := Try.underlying80
 have hu79 := Try.underlying79
 simp [Instr.index, go_sem, hu80, hu79, part, isAgg, asAgg]
theorem index80_2 (g : Nat) (w : World) : (Instr.index 80 (.agg #[.func (.func 21) #[.pointer (some ⟨g, 0, none⟩)] #[], .func (.func 22) #[.pointer (some ⟨g, 0, none⟩)] #[], .func (.func 23) #[.pointer (some ⟨g, 0, none⟩)] #[], .func (.func 24) #[.pointer (some ⟨g, 0, none⟩)] #[], .func (.func 25) #[.pointer (some ⟨g, 0, none⟩)] #[], .func (.func 26) #[.pointer (some ⟨g, 0, none⟩)] #[]]) (.int .i64 2)).run Try.prog w = .ok (.func (.func 23) #[.pointer (some ⟨g, 0, none⟩)] #[]) w := by
 have hu80 := Try.underlying80
 have hu79 := Try.underlying79
 simp [Instr.index, go_sem, hu80, hu79, part, isAgg, asAgg]
theorem index80_3 (g : Nat) (w : World) : (Instr.index 80 (.agg #[.func (.func 21) #[.pointer (some ⟨g, 0, none⟩)] #[], .func (.func 22) #[.pointer (some ⟨g, 0, none⟩)] #[], .func (.func 23) #[.pointer (some ⟨g, 0, none⟩)] #[], .func (.func 24) #[.pointer (some ⟨g, 0, none⟩)] #[], .func (.func 25) #[.pointer (some ⟨g, 0, none⟩)] #[], .func (.func 26) #[.pointer (some ⟨g, 0, none⟩)] #[]]) (.int .i64 3)).run Try.prog w = .ok (.func (.func 24) #[.pointer (some ⟨g, 0, none⟩)] #[]) w := by
 have hu80 := Try.underlying80
 have hu79 := Try.underlying79
 simp [Instr.index, go_sem, hu80, hu79, part, isAgg, asAgg]
theorem index80_4 (g : Nat) (w : World) : (Instr.index 80 (.agg #[.func (.func 21) #[.pointer (some ⟨g, 0, none⟩)] #[], .func (.func 22) #[.pointer (some ⟨g, 0, none⟩)] #[], .func (.func 23) #[.pointer (some ⟨g, 0, none⟩)] #[], .func (.func 24) #[.pointer (some ⟨g, 0, none⟩)] #[], .func (.func 25) #[.pointer (some ⟨g, 0, none⟩)] #[], .func (.func 26) #[.pointer (some ⟨g, 0, none⟩)] #[]]) (.int .i64 4)).run Try.prog w = .ok (.func (.func 25) #[.pointer (some ⟨g, 0, none⟩)] #[]) w := by
 have hu80 := Try.underlying80
 have hu79 := Try.underlying79
 simp [Instr.index, go_sem, hu80, hu79, part, isAgg, asAgg]
theorem index80_5 (g : Nat) (w : World) : (Instr.index 80 (.agg #[.func (.func 21) #[.pointer (some ⟨g, 0, none⟩)] #[], .func (.func 22) #[.pointer (some ⟨g, 0, none⟩)] #[], .func (.func 23) #[.pointer (some ⟨g, 0, none⟩)] #[], .func (.func 24) #[.pointer (some ⟨g, 0, none⟩)] #[], .func (.func 25) #[.pointer (some ⟨g, 0, none⟩)] #[], .func (.func 26) #[.pointer (some ⟨g, 0, none⟩)] #[]]) (.int .i64 5)).run Try.prog w = .ok (.func (.func 26) #[.pointer (some ⟨g, 0, none⟩)] #[]) w := by
 have hu80 := Try.underlying80
 have hu79 := Try.underlying79
 simp [Instr.index, go_sem, hu80, hu79, part, isAgg, asAgg]
set_option maxHeartbeats 8000000 in
set_option maxRecDepth 100000 in
theorem check_calls (T : Sit) (k : Nat) (wh : List S58) (w : World) (hok : T.Ok w) (hft : T.Fit) (hw : audit_whole.f k T.lN T.lQ T.x2 T.x3 T.x4 T.x5 = some wh) :
  Calls Try.prog 8 #[.agg #[.slice T.AN T.lN.length T.cN, .slice T.AQ T.lQ.length T.cQ, .int .i64 T.x2, .int .i64 T.x3, .int .i64 T.x4, .int .i64 T.x5], .agg #[.int .i64 T.y0, .int .i64 T.y1, .int .i64 T.y2, .int .i64 T.y3, .slice T.AW T.lW.length T.cW, .slice T.AD T.lD.length T.cD, .slice T.AG T.lG.length T.cG, .slice T.AH T.lH.length T.cH, .slice T.AF T.lF.length T.cF, .slice T.AU T.lU.length T.cU]] w fun e w' => e = .returned (.tuple #[.int .i64 (checkR T wh).1, .int .i64 (checkR T wh).2]) ∧ Below w.heap.size w w' := by
 have hu27 := Try.underlying27
 have hu35 := Try.underlying35
 have hu78 := Try.underlying78
 have hu80 := Try.underlying80
 have hu39 := Try.underlying39
 have hu3 := Try.underlying3
 have : Be w w := ⟨Below.refl _ _⟩
 have HT := Aside0.mk hft
 have HW := Aside0.mk hw
 have HK := Aside0.mk hok
 clear hft hw hok
 obtain ⟨⟨E, N⟩, hR⟩ : ∃ R, checkR T wh = R := ⟨_, rfl⟩
 rw [hR]
 unfold checkR at hR
 have H := Aside0.mk hR
 clear hR
 go_enter Try.func8, Try.ntmps8
 go_upto_region 3 with (first | ((with_reducible refine gate_dst (N := 2) rfl ?_); refine bxT 2 #[.slice T.AN T.lN.length T.cN, .slice T.AQ T.lQ.length T.cQ, .int .i64 T.x2, .int .i64 T.x3, .int .i64 T.x4, .int .i64 T.x5] 27 ?_; intro g2 w2 _ _ _) | ((with_reducible refine gate_dst (N := 3) rfl ?_); refine bxT 3 #[.int .i64 T.y0, .int .i64 T.y1, .int .i64 T.y2, .int .i64 T.y3, .slice T.AW T.lW.length T.cW, .slice T.AD T.lD.length T.cD, .slice T.AG T.lG.length T.cG, .slice T.AH T.lH.length T.cH, .slice T.AF T.lF.length T.cF, .slice T.AU T.lU.length T.cU] 35 ?_; intro g3 w3 _ _ _) | ((with_reducible refine gate_dst (N := 14) rfl ?_); refine bxT 14 (Sit.cells T) 78 ?_; intro g w4 _ _ _))
 have ha : Au w4 g T := ⟨Bx.out, HK.out.step (Be.out (W := w4))⟩
 go_loopw [28] (fun v28 wr => ∃ i : Nat, i ≤ 6 ∧ v28 = .int .i64 (i : Int) ∧ Aside0 (firstP ([holdsR T wh, queuesR T, gangsR T, ownersR T, workersR T, headR T].drop i) = (E, N)) ∧ Au wr g T ∧ Be w wr) (fun v28 _ => 6 - (intOf v28).toNat)
 case atStart => exact ⟨0, Nat.zero_le _, rfl, H, inferInstance, inferInstance⟩
 case round =>
  clear H
  obtain ⟨i, hi, rfl, HA, ha, be⟩ := hrel
  have hh := HA.out
  clear HA
  obtain rfl | rfl | rfl | rfl | rfl | rfl | rfl : i = 0 ∨ i = 1 ∨ i = 2 ∨ i = 3 ∨ i = 4 ∨ i = 5 ∨ i = 6 := by omega
  ·have qi := fun W => index80_0 g W
   have qj : ∀ W, (Instr.index 80 (.agg #[.func (.func 21) #[.pointer (some ⟨g, 0, none⟩)] #[], .func (.func 22) #[.pointer (some ⟨g, 0, none⟩)] #[], .func (.func 23) #[.pointer (some ⟨g, 0, none⟩)] #[], .func (.func 24) #[.pointer (some ⟨g, 0, none⟩)] #[], .func (.func 25) #[.pointer (some ⟨g, 0, none⟩)] #[], .func (.func 26) #[.pointer (some ⟨g, 0, none⟩)] #[]]) (.int .i64 ((0 : Nat) : Int))).run Try.prog W = .ok (.func (.func 21) #[.pointer (some ⟨g, 0, none⟩)] #[]) W := qi
   simp only [List.drop_zero] at hh
   rw [firstP] at hh
   have hc := Aside0.mk (holds_calls T g k wh wr ha HW.out HT.out.H HT.out.F HT.out.S)
   obtain ⟨⟨e1, n1⟩, hr⟩ : ∃ r, holdsR T wh = r := ⟨_, rfl⟩
   rw [hr] at hc hh
   clear hr
   simp only at hc hh
   by_cases d1 : e1 = 0
   ·rw [if_pos d1] at hh
    have HA2 := Aside0.mk hh
    have q1 : (e1 != 0) = false := by rw [d1]; rfl
    clear d1 hh
    go_wp2_with (go_at_call 21; refine hc.out.mono ?_; rintro e w5 ⟨rfl, hb⟩; have := Bl.mk hb; clear hb)
    go_roundw
    case rel => exact ⟨1, by omega, by go_num, HA2, inferInstance, inferInstance⟩
    case measure => simp [intOf]
   ·rw [if_neg d1] at hh
    obtain ⟨rfl, rfl⟩ := Prod.mk.inj hh
    have q1 : (e1 != 0) = true := bne_iff_ne.2 d1
    clear d1 hh
    go_wp2_with (go_at_call 21; refine hc.out.mono ?_; rintro e w5 ⟨rfl, hb⟩; have := Bl.mk hb; clear hb)
    go_ret2
    exact ⟨rfl, Be.out⟩
  ·have qi := fun W => index80_1 g W
   have qj : ∀ W, (Instr.index 80 (.agg #[.func (.func 21) #[.pointer (some ⟨g, 0, none⟩)] #[], .func (.func 22) #[.pointer (some ⟨g, 0, none⟩)] #[], .func (.func 23) #[.pointer (some ⟨g, 0, none⟩)] #[], .func (.func 24) #[.pointer (some ⟨g, 0, none⟩)] #[], .func (.func 25) #[.pointer (some ⟨g, 0, none⟩)] #[], .func (.func 26) #[.pointer (some ⟨g, 0, none⟩)] #[]]) (.int .i64 ((1 : Nat) : Int))).run Try.prog W = .ok (.func (.func 22) #[.pointer (some ⟨g, 0, none⟩)] #[]) W := qi
   simp only [List.drop] at hh
   rw [firstP] at hh
   have hc := Aside0.mk (queues_calls T g wr ha HT.out.Q HT.out.H HT.out.M)
   obtain ⟨⟨e1, n1⟩, hr⟩ : ∃ r, queuesR T = r := ⟨_, rfl⟩
   rw [hr] at hc hh
   clear hr
   simp only at hc hh
   by_cases d1 : e1 = 0
   ·rw [if_pos d1] at hh
    have HA2 := Aside0.mk hh
    have q1 : (e1 != 0) = false := by rw [d1]; rfl
    clear d1 hh
    go_wp2_with (go_at_call 22; refine hc.out.mono ?_; rintro e w5 ⟨rfl, hb⟩; have := Bl.mk hb; clear hb)
    go_roundw
    case rel => exact ⟨2, by omega, by go_num, HA2, inferInstance, inferInstance⟩
    case measure => simp [intOf]
   ·rw [if_neg d1] at hh
    obtain ⟨rfl, rfl⟩ := Prod.mk.inj hh
    have q1 : (e1 != 0) = true := bne_iff_ne.2 d1
    clear d1 hh
    go_wp2_with (go_at_call 22; refine hc.out.mono ?_; rintro e w5 ⟨rfl, hb⟩; have := Bl.mk hb; clear hb)
    go_ret2
    exact ⟨rfl, Be.out⟩
  ·have qi := fun W => index80_2 g W
   have qj : ∀ W, (Instr.index 80 (.agg #[.func (.func 21) #[.pointer (some ⟨g, 0, none⟩)] #[], .func (.func 22) #[.pointer (some ⟨g, 0, none⟩)] #[], .func (.func 23) #[.pointer (some ⟨g, 0, none⟩)] #[], .func (.func 24) #[.pointer (some ⟨g, 0, none⟩)] #[], .func (.func 25) #[.pointer (some ⟨g, 0, none⟩)] #[], .func (.func 26) #[.pointer (some ⟨g, 0, none⟩)] #[]]) (.int .i64 ((2 : Nat) : Int))).run Try.prog W = .ok (.func (.func 23) #[.pointer (some ⟨g, 0, none⟩)] #[]) W := qi
   simp only [List.drop] at hh
   rw [firstP] at hh
   have hc := Aside0.mk (gangs_calls T g wr ha HT.out.H HT.out.G HT.out.I HT.out.J)
   obtain ⟨⟨e1, n1⟩, hr⟩ : ∃ r, gangsR T = r := ⟨_, rfl⟩
   rw [hr] at hc hh
   clear hr
   simp only at hc hh
   by_cases d1 : e1 = 0
   ·rw [if_pos d1] at hh
    have HA2 := Aside0.mk hh
    have q1 : (e1 != 0) = false := by rw [d1]; rfl
    clear d1 hh
    go_wp2_with (go_at_call 23; refine hc.out.mono ?_; rintro e w5 ⟨rfl, hb⟩; have := Bl.mk hb; clear hb)
    go_roundw
    case rel => exact ⟨3, by omega, by go_num, HA2, inferInstance, inferInstance⟩
    case measure => simp [intOf]
   ·rw [if_neg d1] at hh
    obtain ⟨rfl, rfl⟩ := Prod.mk.inj hh
    have q1 : (e1 != 0) = true := bne_iff_ne.2 d1
    clear d1 hh
    go_wp2_with (go_at_call 23; refine hc.out.mono ?_; rintro e w5 ⟨rfl, hb⟩; have := Bl.mk hb; clear hb)
    go_ret2
    exact ⟨rfl, Be.out⟩
  ·have qi := fun W => index80_3 g W
   have qj : ∀ W, (Instr.index 80 (.agg #[.func (.func 21) #[.pointer (some ⟨g, 0, none⟩)] #[], .func (.func 22) #[.pointer (some ⟨g, 0, none⟩)] #[], .func (.func 23) #[.pointer (some ⟨g, 0, none⟩)] #[], .func (.func 24) #[.pointer (some ⟨g, 0, none⟩)] #[], .func (.func 25) #[.pointer (some ⟨g, 0, none⟩)] #[], .func (.func 26) #[.pointer (some ⟨g, 0, none⟩)] #[]]) (.int .i64 ((3 : Nat) : Int))).run Try.prog W = .ok (.func (.func 24) #[.pointer (some ⟨g, 0, none⟩)] #[]) W := qi
   simp only [List.drop] at hh
   rw [firstP] at hh
   have hc := Aside0.mk (owners_calls T g wr ha HT.out.H HT.out.G)
   obtain ⟨⟨e1, n1⟩, hr⟩ : ∃ r, ownersR T = r := ⟨_, rfl⟩
   rw [hr] at hc hh
   clear hr
   simp only at hc hh
   by_cases d1 : e1 = 0
   ·rw [if_pos d1] at hh
    have HA2 := Aside0.mk hh
    have q1 : (e1 != 0) = false := by rw [d1]; rfl
    clear d1 hh
    go_wp2_with (go_at_call 24; refine hc.out.mono ?_; rintro e w5 ⟨rfl, hb⟩; have := Bl.mk hb; clear hb)
    go_roundw
    case rel => exact ⟨4, by omega, by go_num, HA2, inferInstance, inferInstance⟩
    case measure => simp [intOf]
   ·rw [if_neg d1] at hh
    obtain ⟨rfl, rfl⟩ := Prod.mk.inj hh
    have q1 : (e1 != 0) = true := bne_iff_ne.2 d1
    clear d1 hh
    go_wp2_with (go_at_call 24; refine hc.out.mono ?_; rintro e w5 ⟨rfl, hb⟩; have := Bl.mk hb; clear hb)
    go_ret2
    exact ⟨rfl, Be.out⟩
  ·have qi := fun W => index80_4 g W
   have qj : ∀ W, (Instr.index 80 (.agg #[.func (.func 21) #[.pointer (some ⟨g, 0, none⟩)] #[], .func (.func 22) #[.pointer (some ⟨g, 0, none⟩)] #[], .func (.func 23) #[.pointer (some ⟨g, 0, none⟩)] #[], .func (.func 24) #[.pointer (some ⟨g, 0, none⟩)] #[], .func (.func 25) #[.pointer (some ⟨g, 0, none⟩)] #[], .func (.func 26) #[.pointer (some ⟨g, 0, none⟩)] #[]]) (.int .i64 ((4 : Nat) : Int))).run Try.prog W = .ok (.func (.func 25) #[.pointer (some ⟨g, 0, none⟩)] #[]) W := qi
   simp only [List.drop] at hh
   rw [firstP] at hh
   have hc := Aside0.mk (workers_calls T g wr ha HT.out.W HT.out.G)
   obtain ⟨⟨e1, n1⟩, hr⟩ : ∃ r, workersR T = r := ⟨_, rfl⟩
   rw [hr] at hc hh
   clear hr
   simp only at hc hh
   by_cases d1 : e1 = 0
   ·rw [if_pos d1] at hh
    have HA2 := Aside0.mk hh
    have q1 : (e1 != 0) = false := by rw [d1]; rfl
    clear d1 hh
    go_wp2_with (go_at_call 25; refine hc.out.mono ?_; rintro e w5 ⟨rfl, hb⟩; have := Bl.mk hb; clear hb)
    go_roundw
    case rel => exact ⟨5, by omega, by go_num, HA2, inferInstance, inferInstance⟩
    case measure => simp [intOf]
   ·rw [if_neg d1] at hh
    obtain ⟨rfl, rfl⟩ := Prod.mk.inj hh
    have q1 : (e1 != 0) = true := bne_iff_ne.2 d1
    clear d1 hh
    go_wp2_with (go_at_call 25; refine hc.out.mono ?_; rintro e w5 ⟨rfl, hb⟩; have := Bl.mk hb; clear hb)
    go_ret2
    exact ⟨rfl, Be.out⟩
  ·have qi := fun W => index80_5 g W
   have qj : ∀ W, (Instr.index 80 (.agg #[.func (.func 21) #[.pointer (some ⟨g, 0, none⟩)] #[], .func (.func 22) #[.pointer (some ⟨g, 0, none⟩)] #[], .func (.func 23) #[.pointer (some ⟨g, 0, none⟩)] #[], .func (.func 24) #[.pointer (some ⟨g, 0, none⟩)] #[], .func (.func 25) #[.pointer (some ⟨g, 0, none⟩)] #[], .func (.func 26) #[.pointer (some ⟨g, 0, none⟩)] #[]]) (.int .i64 ((5 : Nat) : Int))).run Try.prog W = .ok (.func (.func 26) #[.pointer (some ⟨g, 0, none⟩)] #[]) W := qi
   simp only [List.drop] at hh
   rw [firstP] at hh
   have hc := Aside0.mk (head_calls T g wr ha HT.out.G)
   obtain ⟨⟨e1, n1⟩, hr⟩ : ∃ r, headR T = r := ⟨_, rfl⟩
   rw [hr] at hc hh
   clear hr
   simp only at hc hh
   by_cases d1 : e1 = 0
   ·rw [if_pos d1] at hh
    have HA2 := Aside0.mk hh
    have q1 : (e1 != 0) = false := by rw [d1]; rfl
    clear d1 hh
    go_wp2_with (go_at_call 26; refine hc.out.mono ?_; rintro e w5 ⟨rfl, hb⟩; have := Bl.mk hb; clear hb)
    go_roundw
    case rel => exact ⟨6, by omega, by go_num, HA2, inferInstance, inferInstance⟩
    case measure => simp [intOf]
   ·rw [if_neg d1] at hh
    obtain ⟨rfl, rfl⟩ := Prod.mk.inj hh
    have q1 : (e1 != 0) = true := bne_iff_ne.2 d1
    clear d1 hh
    go_wp2_with (go_at_call 26; refine hc.out.mono ?_; rintro e w5 ⟨rfl, hb⟩; have := Bl.mk hb; clear hb)
    go_ret2
    exact ⟨rfl, Be.out⟩
  ·simp only [List.drop] at hh
   rw [firstP] at hh
   obtain ⟨rfl, rfl⟩ := Prod.mk.inj hh
   clear hh
   go_wp2
   go_ret2
   exact ⟨rfl, Be.out⟩
end Go.Proofs.Ytpedlompipabdaa.P
namespace Go.Proofs.Ytpedlompipabdaa.P
open Go.RowKit Go.Proofs.YtpedlompipabdaaW.PrintWords Go.Proofs.YtpedlompipabdaaW.PrintLast Go.Proofs.YtpedlompipabdaaW.PrintMore
attribute [local go_sem] max2_int min2_int max_two min_two max_three min_three max_four min_four
set_option linter.unusedVariables false
set_option linter.unusedSimpArgs false
def ensemblelaw19_usual.f  : Option ((List (S83)) × (List (S51)) × Int × Int × Int × Int) := some ((([(⟨(([(⟨4, 8⟩ : S84)] : List (S84)))⟩ : S83)] : List (S83))), (([(⟨(⟨9, 9⟩ : S49), 3⟩ : S51)] : List (S51))), 1, 2, 9, 4)
set_option maxHeartbeats 8000000 in
set_option maxRecDepth 100000 in
theorem ensemblelaw19_usual.calls  (r1 : List (S83)) (r2 : List (S51)) (r3 : Int) (r4 : Int) (r5 : Int) (r6 : Int) (w : World) (h : ensemblelaw19_usual.f  = some (r1, r2, r3, r4, r5, r6)) :
  Calls Try.prog 12 #[] w fun e w' => ∃ v0_ v1_ : Value, e = .returned (.agg #[v0_, v1_, .int .i64 r3, .int .i64 r4, .int .i64 r5, .int .i64 r6]) ∧ Kd.N k83 83 w' w.heap.size (fun k_ => (w.heap.size ≤ k_) ∧ some k_ ≠ (v1_ : Value).ownBlock) v0_ r1 ∧ Kd.R k51 51 w' w.heap.size (fun k_ => (w.heap.size ≤ k_)) v1_ r2 ∧ Below w.heap.size w w' := by
 have hu27 := Try.underlying27
 have hu84 := Try.underlying84
 have hu83 := Try.underlying83
 have hu24 := Try.underlying24
 have hu49 := Try.underlying49
 have hu51 := Try.underlying51
 have HB := Aside0.mk (Below.refl w.heap.size w)
 have H : (some ((([(⟨(([(⟨4, 8⟩ : S84)] : List (S84)))⟩ : S83)] : List (S83))), (([(⟨(⟨9, 9⟩ : S49), 3⟩ : S51)] : List (S51))), 1, 2, 9, 4)) = some (r1, r2, r3, r4, r5, r6) := h
 clear h
 obtain ⟨y174, hy174⟩ : ∃ y_ : List (S84), y_ = (([(⟨4, 8⟩ : S84)] : List (S84))) := ⟨_, rfl⟩
 replace H : (some ((([(⟨y174⟩ : S83)] : List (S83))), (([(⟨(⟨9, 9⟩ : S49), 3⟩ : S51)] : List (S51))), 1, 2, 9, 4)) = some (r1, r2, r3, r4, r5, r6) := by first | (rw [hy174]; with_reducible exact H) | (have H2_ := (Option.bind_some _ _).symm.trans H; rw [hy174]; with_reducible exact H2_) | (have H2_ := (Option.bind_some _ _).symm.trans H; with_reducible exact H2_) | with_reducible exact H | (rw [hy174]; exact H) | exact H
 have Ny174 := Aside0.mk hy174
 clear hy174
 obtain ⟨y177, hy177⟩ : ∃ y_ : List (S83), y_ = (([(⟨y174⟩ : S83)] : List (S83))) := ⟨_, rfl⟩
 replace H : (some (y177, (([(⟨(⟨9, 9⟩ : S49), 3⟩ : S51)] : List (S51))), 1, 2, 9, 4)) = some (r1, r2, r3, r4, r5, r6) := by first | (rw [hy177]; with_reducible exact H) | (have H2_ := (Option.bind_some _ _).symm.trans H; rw [hy177]; with_reducible exact H2_) | (have H2_ := (Option.bind_some _ _).symm.trans H; with_reducible exact H2_) | with_reducible exact H | (rw [hy177]; exact H) | exact H
 have Ny177 := Aside0.mk hy177
 clear hy177
 obtain ⟨y180, hy180⟩ : ∃ y_ : List (S51), y_ = (([(⟨(⟨9, 9⟩ : S49), 3⟩ : S51)] : List (S51))) := ⟨_, rfl⟩
 replace H : (some (y177, y180, 1, 2, 9, 4)) = some (r1, r2, r3, r4, r5, r6) := by first | (rw [hy180]; with_reducible exact H) | (have H2_ := (Option.bind_some _ _).symm.trans H; rw [hy180]; with_reducible exact H2_) | (have H2_ := (Option.bind_some _ _).symm.trans H; with_reducible exact H2_) | with_reducible exact H | (rw [hy180]; exact H) | exact H
 have Ny180 := Aside0.mk hy180
 clear hy180
 simp only [Option.some.injEq, Prod.mk.injEq] at H
 obtain ⟨rfl, rfl, rfl, rfl, rfl, rfl⟩ := H
 go_enter Try.func12, Try.ntmps12
 go_wp2_with (first | ((with_reducible refine gate_dst (N := 0) rfl ?_); refine box_event ?hg (N := 0) ?hd (cs := #[.slice none 0 0, .slice none 0 0, .int .i64 0, .int .i64 0, .int .i64 0, .int .i64 0]) (t := 27) ?hr ?_; (case hd => rfl); (case hg => rfl); (case hr => first | (go_simp; done) | (go_simp; rfl)); intro gb173 hg w1 hbox hb; have n0_ := Aside0.mk (below_step (by repeat (first | (with_reducible first | exact HB.out | apply below_alloc | apply pw_below_drewN | apply below_drew1) | exact HB.out)) hb); have n1_ := Aside0.mk (hbox); have n2_ := Aside0.mk ((by rw [hg]; exact (below_size (by repeat (first | (with_reducible first | exact HB.out | apply below_alloc | apply pw_below_drewN | apply below_drew1) | exact HB.out))) : w.heap.size ≤ gb173)); have n3_ := Aside0.mk ((by rw [hg]; exact (below_size (by repeat (first | (with_reducible first | exact HB.out | apply below_alloc | apply pw_below_drewN | apply below_drew1) | exact HB.out))) : w.heap.size ≤ gb173)); clear HB; have HB := n0_; have BK173 := n1_; have GW173 := n2_; have GE173 := n3_; clear n0_ n1_ n2_ n3_; clear hb hbox hg) | ((with_reducible refine gate_dst (N := 2) rfl ?_); refine Kd.R_lit k84 _ 84 ?hg (N := 2) ?hd (xs := ([(⟨4, 8⟩ : S84)] : List (S84))) (inner := [.int .i64 4, .int .i64 8]) (ok := fun _ => True) (okp := fun _ => True) ?hr ?hp (fun _ hk => hk) trivial (Below.refl _ _) (Nat.le_refl _) (by simp) ?_; (case hd => rfl); (case hg => rfl); (case hr => first | (go_simp; done) | (go_simp; rfl)); (case hp => exact (Reps.c2 (show Kd.M k84 _ _ _ (⟨4, 8⟩ : S84) [.int .i64 4, .int .i64 8] from (k84_mkM _ _ _ (⟨4, 8⟩ : S84) )) (Reps.none _ _))); intro v175 w2 ho3 hb hg_ hnew_; clear hg_ hnew_; (first | rw [← Ny174.out] at ho3 | (simp only [Int.reduceToNat] at ho3; rw [← Ny174.out] at ho3)); have n0_ := Aside0.mk (Kd.R_lower (Kd.R_newM (M := fun k_ => (w.heap.size ≤ k_)) ho3 (below_size (by repeat (first | (with_reducible first | exact HB.out | apply below_alloc | apply pw_below_drewN | apply below_drew1 | refine below_set ?_ GE173.out) | exact HB.out))) (fun k_ h_ => h_)) (below_size (by repeat (first | (with_reducible first | exact HB.out | apply below_alloc | apply pw_below_drewN | apply below_drew1 | refine below_set ?_ GE173.out) | exact HB.out)))); have n1_ := Aside0.mk (blk_below (g := gb173) (o := .cells #[.slice none 0 0, .slice none 0 0, .int .i64 0, .int .i64 0, .int .i64 0, .int .i64 0] 27 (0, 0)) (by (with_reducible repeat (first | refine blk_drewN ?_ _ | refine blk_drew ?_ | refine blk_alloc ?_ _)); exact BK173.out) hb); have n2_ := Aside0.mk (below_step (by repeat (first | (with_reducible first | exact HB.out | apply below_alloc | apply pw_below_drewN | apply below_drew1 | refine below_set ?_ GE173.out) | exact HB.out)) hb); clear BK173; clear HB; have HO176 := n0_; have BK173 := n1_; have HB := n2_; clear n0_ n1_ n2_; clear hb ho3; obtain ⟨Ao4, co4, eo4⟩ := Kd.R_slice HO176.out; subst eo4) | ((with_reducible refine gate_dst (N := 4) rfl ?_); refine Kd.N_lit k83 _ 83 ?hg (N' := 4) ?hd (xs := ([(⟨y174⟩ : S83)] : List (S83))) (inner := [.slice Ao4 y174.length co4]) (ok := (fun k_ => (w.heap.size ≤ k_) ∧ k_ ≠ gb173)) (okp := (fun k_ => (w.heap.size ≤ k_) ∧ k_ ≠ gb173)) ?hr ?hp (fun _ hk => hk) ((show ∀ k_, w2.heap.size ≤ k_ → (fun k_ => (w.heap.size ≤ k_) ∧ k_ ≠ gb173) k_ from fun k_ hk => ⟨(Nat.le_trans (below_size (by repeat (first | (with_reducible first | exact HB.out | apply below_alloc | apply pw_below_drewN | apply below_drew1 | refine below_set ?_ GE173.out) | exact HB.out))) hk), Kd.freshB (g := gb173) (o := .cells #[.slice none 0 0, .slice none 0 0, .int .i64 0, .int .i64 0, .int .i64 0, .int .i64 0] 27 (0, 0)) (by (with_reducible repeat (first | refine blk_drewN ?_ _ | refine blk_drew ?_ | refine blk_alloc ?_ _)); exact BK173.out) k_ hk⟩) _ (Nat.le_refl _)) (Below.refl _ _) (Nat.le_refl _) (by simp) ?_; (case hd => rfl); (case hg => rfl); (case hr => first | (go_simp; done) | (go_simp; rfl)); (case hp => exact (Reps.one (show Kd.FK k83 _ _ (⟨y174⟩ : S83) [.slice Ao4 y174.length co4] from (k83_mkF _ _ (⟨y174⟩ : S83) (Kd.R_reads' (Kd.R_mono (ok' := (fun k_ => (w.heap.size ≤ k_) ∧ k_ ≠ gb173)) (Kd.R_types (HO176.out) BK173.out (by decide)) (fun k_ hk => ⟨hk.1.1, hk.2⟩))).2.1 (Kd.R_F (Kd.R_mono (ok' := (fun k_ => (w.heap.size ≤ k_) ∧ k_ ≠ gb173)) (Kd.R_types (HO176.out) BK173.out (by decide)) (fun k_ hk => ⟨hk.1.1, hk.2⟩))))) (Reps.none _ _))); intro v178 w5 ho6 hb hg_ hnew_; clear hg_ hnew_; (first | rw [← Ny177.out] at ho6 | (simp only [Int.reduceToNat] at ho6; rw [← Ny177.out] at ho6)); have n0_ := Aside0.mk (Kd.N_lower ho6 (below_size (by repeat (first | (with_reducible first | exact HB.out | apply below_alloc | apply pw_below_drewN | apply below_drew1 | refine below_set ?_ GE173.out) | exact HB.out)))); have n1_ := Aside0.mk (blk_below (g := gb173) (o := .cells #[.slice none 0 0, .slice none 0 0, .int .i64 0, .int .i64 0, .int .i64 0, .int .i64 0] 27 (0, 0)) (by (with_reducible repeat (first | refine blk_drewN ?_ _ | refine blk_drew ?_ | refine blk_alloc ?_ _)); exact BK173.out) hb); have n2_ := Aside0.mk (below_step (by repeat (first | (with_reducible first | exact HB.out | apply below_alloc | apply pw_below_drewN | apply below_drew1 | refine below_set ?_ GE173.out) | exact HB.out)) hb); clear BK173; clear HB; clear HO176; have HO179 := n0_; have BK173 := n1_; have HB := n2_; clear n0_ n1_ n2_; clear hb ho6; obtain ⟨Ao7, co7, eo7⟩ := Kd.N_slice HO179.out; subst eo7) | ((with_reducible refine gate_dst (N := 8) rfl ?_); refine Kd.R_lit k51 _ 51 ?hg (N := 8) ?hd (xs := ([(⟨(⟨9, 9⟩ : S49), 3⟩ : S51)] : List (S51))) (inner := [.int .i64 9, .int .i64 9, .int .i64 3]) (ok := fun _ => True) (okp := fun _ => True) ?hr ?hp (fun _ hk => hk) trivial (Below.refl _ _) (Nat.le_refl _) (by simp) ?_; (case hd => rfl); (case hg => rfl); (case hr => first | (go_simp; done) | (go_simp; rfl)); (case hp => exact (Reps.c3 (show Kd.M k51 _ _ _ (⟨(⟨9, 9⟩ : S49), 3⟩ : S51) [.int .i64 9, .int .i64 9, .int .i64 3] from (k51_mkM _ _ _ (⟨(⟨9, 9⟩ : S49), 3⟩ : S51) )) (Reps.none _ _))); intro v181 w8 ho9 hb hg_ hnew_; clear hg_ hnew_; (first | rw [← Ny180.out] at ho9 | (simp only [Int.reduceToNat] at ho9; rw [← Ny180.out] at ho9)); have n0_ := Aside0.mk (Kd.N_elder' (by (with_reducible repeat (first | apply Kd.N_alloc | apply Kd.N_drewN | apply Kd.N_drew)); exact HO179.out) (Kd.R_base ho9) hb); have n1_ := Aside0.mk (Kd.R_lower (Kd.R_newM (M := fun k_ => (w.heap.size ≤ k_)) ho9 (below_size (by repeat (first | (with_reducible first | exact HB.out | apply below_alloc | apply pw_below_drewN | apply below_drew1 | refine below_set ?_ GE173.out) | exact HB.out))) (fun k_ h_ => h_)) (below_size (by repeat (first | (with_reducible first | exact HB.out | apply below_alloc | apply pw_below_drewN | apply below_drew1 | refine below_set ?_ GE173.out) | exact HB.out)))); have n2_ := Aside0.mk (blk_below (g := gb173) (o := .cells #[.slice none 0 0, .slice none 0 0, .int .i64 0, .int .i64 0, .int .i64 0, .int .i64 0] 27 (0, 0)) (by (with_reducible repeat (first | refine blk_drewN ?_ _ | refine blk_drew ?_ | refine blk_alloc ?_ _)); exact BK173.out) hb); have n3_ := Aside0.mk (below_step (by repeat (first | (with_reducible first | exact HB.out | apply below_alloc | apply pw_below_drewN | apply below_drew1 | refine below_set ?_ GE173.out) | exact HB.out)) hb); clear HO179; clear BK173; clear HB; have HO179 := n0_; have HO182 := n1_; have BK173 := n2_; have HB := n3_; clear n0_ n1_ n2_ n3_; clear hb ho9; obtain ⟨Ao10, co10, eo10⟩ := Kd.R_slice HO182.out; subst eo10; have hcz11_0 : w8.cell? ⟨gb173, 0, none⟩ = some (.slice none 0 0) := (blk_cell BK173.out 0).trans rfl; have hcz11_1 : w8.cell? ⟨gb173, 1, none⟩ = some (.slice none 0 0) := (blk_cell BK173.out 1).trans rfl; have hcz11_2 : w8.cell? ⟨gb173, 2, none⟩ = some (.int .i64 0) := (blk_cell BK173.out 2).trans rfl; have hcz11_3 : w8.cell? ⟨gb173, 3, none⟩ = some (.int .i64 0) := (blk_cell BK173.out 3).trans rfl; have hcz11_4 : w8.cell? ⟨gb173, 4, none⟩ = some (.int .i64 0) := (blk_cell BK173.out 4).trans rfl; have hcz11_5 : w8.cell? ⟨gb173, 5, none⟩ = some (.int .i64 0) := (blk_cell BK173.out 5).trans rfl; have hfz11_0 := blk_frozen BK173.out 0; have hfz11_1 := blk_frozen BK173.out 1; have hfz11_2 := blk_frozen BK173.out 2; have hfz11_3 := blk_frozen BK173.out 3; have hfz11_4 := blk_frozen BK173.out 4; have hfz11_5 := blk_frozen BK173.out 5))
 refine bodyPost_ret (results_cell_row rfl _ _ gb173 27 #[.slice Ao7 y177.length co7, .slice Ao10 y180.length co10, .int .i64 1, .int .i64 2, .int .i64 9, .int .i64 4] (0, 0) _ rfl (by (with_reducible repeat (first | refine blk_drewN ?_ _ | refine blk_drew ?_ | refine blk_alloc ?_ _)); refine blk_put (cs := #[.slice Ao7 y177.length co7, .slice Ao10 y180.length co10, .int .i64 1, .int .i64 2, .int .i64 9, .int .i64 0]) ?_ 5 _ rfl; (with_reducible repeat (first | refine blk_drewN ?_ _ | refine blk_drew ?_ | refine blk_alloc ?_ _)); refine blk_put (cs := #[.slice Ao7 y177.length co7, .slice Ao10 y180.length co10, .int .i64 1, .int .i64 2, .int .i64 0, .int .i64 0]) ?_ 4 _ rfl; (with_reducible repeat (first | refine blk_drewN ?_ _ | refine blk_drew ?_ | refine blk_alloc ?_ _)); refine blk_put (cs := #[.slice Ao7 y177.length co7, .slice Ao10 y180.length co10, .int .i64 1, .int .i64 0, .int .i64 0, .int .i64 0]) ?_ 3 _ rfl; (with_reducible repeat (first | refine blk_drewN ?_ _ | refine blk_drew ?_ | refine blk_alloc ?_ _)); refine blk_put (cs := #[.slice Ao7 y177.length co7, .slice Ao10 y180.length co10, .int .i64 0, .int .i64 0, .int .i64 0, .int .i64 0]) ?_ 2 _ rfl; (with_reducible repeat (first | refine blk_drewN ?_ _ | refine blk_drew ?_ | refine blk_alloc ?_ _)); refine blk_put (cs := #[.slice Ao7 y177.length co7, .slice none 0 0, .int .i64 0, .int .i64 0, .int .i64 0, .int .i64 0]) ?_ 1 _ rfl; (with_reducible repeat (first | refine blk_drewN ?_ _ | refine blk_drew ?_ | refine blk_alloc ?_ _)); refine blk_put (cs := #[.slice none 0 0, .slice none 0 0, .int .i64 0, .int .i64 0, .int .i64 0, .int .i64 0]) ?_ 0 _ rfl; (with_reducible repeat (first | refine blk_drewN ?_ _ | refine blk_drew ?_ | refine blk_alloc ?_ _)); exact BK173.out) Try.underlying27 rfl (by kernel_rfl)) rfl ?_
 exact ⟨_, _, by first | rfl | (simp [errW_none, errW_some] <;> rfl) | (simp [*, errW_none, errW_some] <;> rfl), by (with_reducible repeat (first | apply Kd.N_alloc | apply Kd.N_drewN | apply Kd.N_drew)); exact Kd.N_mono (Kd.N_far (p := ⟨gb173, 5, none⟩) (Kd.N_far (p := ⟨gb173, 4, none⟩) (Kd.N_far (p := ⟨gb173, 3, none⟩) (Kd.N_far (p := ⟨gb173, 2, none⟩) (Kd.N_far (p := ⟨gb173, 1, none⟩) (Kd.N_far (p := ⟨gb173, 0, none⟩) (Kd.N_mono HO179.out (fun k_ hk => (⟨hk, hk.1.2⟩ : _ ∧ k_ ≠ gb173))) (fun _ hk => hk.2) (.slice Ao7 y177.length co7)) (fun _ hk => hk.2) (.slice Ao10 y180.length co10)) (fun _ hk => hk.2) (.int .i64 1)) (fun _ hk => hk.2) (.int .i64 2)) (fun _ hk => hk.2) (.int .i64 9)) (fun _ hk => hk.2) (.int .i64 4)) (fun _ hk => ⟨hk.1.1.1, hk.1.2⟩), by (with_reducible repeat (first | apply Kd.R_alloc | apply Kd.R_drewN | apply Kd.R_drew)); exact Kd.R_mono (Kd.R_far (p := ⟨gb173, 5, none⟩) (Kd.R_far (p := ⟨gb173, 4, none⟩) (Kd.R_far (p := ⟨gb173, 3, none⟩) (Kd.R_far (p := ⟨gb173, 2, none⟩) (Kd.R_far (p := ⟨gb173, 1, none⟩) (Kd.R_far (p := ⟨gb173, 0, none⟩) (Kd.R_types HO182.out BK173.out (by decide)) (fun _ hk => hk.2) (.slice Ao7 y177.length co7)) (fun _ hk => hk.2) (.slice Ao10 y180.length co10)) (fun _ hk => hk.2) (.int .i64 1)) (fun _ hk => hk.2) (.int .i64 2)) (fun _ hk => hk.2) (.int .i64 9)) (fun _ hk => hk.2) (.int .i64 4)) (fun _ hk => hk.1.1), by repeat (first | (with_reducible first | exact HB.out | apply below_alloc | apply pw_below_drewN | apply below_drew1 | refine below_set ?_ GE173.out) | exact HB.out)⟩
end Go.Proofs.Ytpedlompipabdaa.P
namespace Go.Proofs.Ytpedlompipabdaa.P
open Go.RowKit Go.Proofs.YtpedlompipabdaaW.PrintWords Go.Proofs.YtpedlompipabdaaW.PrintLast Go.Proofs.YtpedlompipabdaaW.PrintMore
set_option linter.unusedVariables false
set_option linter.unusedSimpArgs false
attribute [local go_sem] cellBx frozBx Sit.c0 Sit.c1 Sit.c2 Sit.c3 Sit.c4 Sit.c5 Sit.c6 Sit.c7 Sit.c8 Sit.c9 Sit.c10 Sit.c12 Sit.c13 Sit.c14 Sit.c15
attribute [local go_sem] Oper.semAt_some
open Go.Shelf
theorem checkA (A0 A1 W D G H F U : Option Addr) (c0 c1 cW cD cG cH cF cU : Nat) (w : World) (h0 : Kd.C k83 w A0 1 [(⟨[⟨4, 8⟩]⟩ : S83)]) (l0 : 1 ≤ c0) (h1 : Kd.C k51 w A1 1 [(⟨⟨9, 9⟩, 3⟩ : S51)]) (l1 : 1 ≤ c1) (hW : RowV (Kd.int .i64) [0] (.slice W 1 cW) w) (hG : RowV k47 [] (.slice G 0 cG) w) (hH : RowV k62 [] (.slice H 0 cH) w) (hF : RowV k58 [(⟨⟨0, 0⟩, 15, 8⟩ : S58)] (.slice F 1 cF) w) (hU : RowV k49 [⟨0, 0⟩] (.slice U 1 cU) w) :
  Calls Try.prog 8 #[.agg #[.slice A0 1 c0, .slice A1 1 c1, .int .i64 1, .int .i64 2, .int .i64 9, .int .i64 4], .agg #[.int .i64 0, .int .i64 0, .int .i64 0, .int .i64 0, .slice W 1 cW, .slice D 1 cD, .slice G 0 cG, .slice H 0 cH, .slice F 1 cF, .slice U 1 cU]] w fun e w' => e = .returned (.tuple #[.int .i64 0, .int .i64 0]) ∧ Below w.heap.size w w' := by
 have hk : checkR (⟨A0, c0, [(⟨[⟨4, 8⟩]⟩ : S83)], A1, c1, [(⟨⟨9, 9⟩, 3⟩ : S51)], 1, 2, 9, 4, 0, 0, 0, 0, W, cW, [0], D, cD, [false], G, cG, [], H, cH, [], F, cF, [(⟨⟨0, 0⟩, 15, 8⟩ : S58)], U, cU, [⟨0, 0⟩]⟩ : Sit) [(⟨⟨0, 0⟩, 15, 8⟩ : S58)] = (0, 0) := by rfl
 obtain ⟨_, _, e, CW, LW⟩ := hW
 injection e with e1 e2 e3
 subst e1
 subst e3
 obtain ⟨_, _, e, CG, LG⟩ := hG
 injection e with e1 e2 e3
 subst e1
 subst e3
 obtain ⟨_, _, e, CH, LH⟩ := hH
 injection e with e1 e2 e3
 subst e1
 subst e3
 obtain ⟨_, _, e, CF, LF⟩ := hF
 injection e with e1 e2 e3
 subst e1
 subst e3
 obtain ⟨_, _, e, CU, LU⟩ := hU
 injection e with e1 e2 e3
 subst e1
 subst e3
 have hok : Sit.Ok (⟨A0, c0, [(⟨[⟨4, 8⟩]⟩ : S83)], A1, c1, [(⟨⟨9, 9⟩, 3⟩ : S51)], 1, 2, 9, 4, 0, 0, 0, 0, W, cW, [0], D, cD, [false], G, cG, [], H, cH, [], F, cF, [(⟨⟨0, 0⟩, 15, 8⟩ : S58)], U, cU, [⟨0, 0⟩]⟩ : Sit) w := ⟨h0, l0, h1, l1, CW, LW, CG, LG, CH, LH, CF, LF, CU, LU⟩
 have hft : Sit.Fit (⟨A0, c0, [(⟨[⟨4, 8⟩]⟩ : S83)], A1, c1, [(⟨⟨9, 9⟩, 3⟩ : S51)], 1, 2, 9, 4, 0, 0, 0, 0, W, cW, [0], D, cD, [false], G, cG, [], H, cH, [], F, cF, [(⟨⟨0, 0⟩, 15, 8⟩ : S58)], U, cU, [⟨0, 0⟩]⟩ : Sit) := ⟨Nat.le_of_ble_eq_true rfl, Nat.le_of_ble_eq_true rfl, Nat.le_of_ble_eq_true rfl, Nat.le_of_ble_eq_true rfl, Nat.le_of_ble_eq_true rfl, fun k hk => absurd hk (by simp), by simp, by simp, by simp⟩
 have hc := check_calls (⟨A0, c0, [(⟨[⟨4, 8⟩]⟩ : S83)], A1, c1, [(⟨⟨9, 9⟩, 3⟩ : S51)], 1, 2, 9, 4, 0, 0, 0, 0, W, cW, [0], D, cD, [false], G, cG, [], H, cH, [], F, cF, [(⟨⟨0, 0⟩, 15, 8⟩ : S58)], U, cU, [⟨0, 0⟩]⟩ : Sit) 80 [(⟨⟨0, 0⟩, 15, 8⟩ : S58)] w hok hft (by kernel_rfl)
 rw [hk] at hc
 exact hc
theorem checkB (A0 A1 W D G H F U : Option Addr) (c0 c1 cW cD cG cH cF cU : Nat) (w : World) (h0 : Kd.C k83 w A0 1 [(⟨[⟨4, 8⟩]⟩ : S83)]) (l0 : 1 ≤ c0) (h1 : Kd.C k51 w A1 1 [(⟨⟨9, 9⟩, 3⟩ : S51)]) (l1 : 1 ≤ c1) (hW : RowV (Kd.int .i64) [0] (.slice W 1 cW) w) (hG : RowV k47 [] (.slice G 0 cG) w) (hH : RowV k62 [(⟨5, 1, 0, false, []⟩ : S62)] (.slice H 1 cH) w) (hF : RowV k58 [(⟨⟨0, 0⟩, 15, 8⟩ : S58)] (.slice F 1 cF) w) (hU : RowV k49 [⟨0, 0⟩] (.slice U 1 cU) w) :
  Calls Try.prog 8 #[.agg #[.slice A0 1 c0, .slice A1 1 c1, .int .i64 1, .int .i64 2, .int .i64 9, .int .i64 4], .agg #[.int .i64 0, .int .i64 0, .int .i64 0, .int .i64 0, .slice W 1 cW, .slice D 1 cD, .slice G 0 cG, .slice H 1 cH, .slice F 1 cF, .slice U 1 cU]] w fun e w' => e = .returned (.tuple #[.int .i64 3, .int .i64 5]) ∧ Below w.heap.size w w' := by
 have hk : checkR (⟨A0, c0, [(⟨[⟨4, 8⟩]⟩ : S83)], A1, c1, [(⟨⟨9, 9⟩, 3⟩ : S51)], 1, 2, 9, 4, 0, 0, 0, 0, W, cW, [0], D, cD, [false], G, cG, [], H, cH, [(⟨5, 1, 0, false, []⟩ : S62)], F, cF, [(⟨⟨0, 0⟩, 15, 8⟩ : S58)], U, cU, [⟨0, 0⟩]⟩ : Sit) [(⟨⟨0, 0⟩, 15, 8⟩ : S58)] = (3, 5) := by rfl
 obtain ⟨_, _, e, CW, LW⟩ := hW
 injection e with e1 e2 e3
 subst e1
 subst e3
 obtain ⟨_, _, e, CG, LG⟩ := hG
 injection e with e1 e2 e3
 subst e1
 subst e3
 obtain ⟨_, _, e, CH, LH⟩ := hH
 injection e with e1 e2 e3
 subst e1
 subst e3
 obtain ⟨_, _, e, CF, LF⟩ := hF
 injection e with e1 e2 e3
 subst e1
 subst e3
 obtain ⟨_, _, e, CU, LU⟩ := hU
 injection e with e1 e2 e3
 subst e1
 subst e3
 have hok : Sit.Ok (⟨A0, c0, [(⟨[⟨4, 8⟩]⟩ : S83)], A1, c1, [(⟨⟨9, 9⟩, 3⟩ : S51)], 1, 2, 9, 4, 0, 0, 0, 0, W, cW, [0], D, cD, [false], G, cG, [], H, cH, [(⟨5, 1, 0, false, []⟩ : S62)], F, cF, [(⟨⟨0, 0⟩, 15, 8⟩ : S58)], U, cU, [⟨0, 0⟩]⟩ : Sit) w := ⟨h0, l0, h1, l1, CW, LW, CG, LG, CH, LH, CF, LF, CU, LU⟩
 have hft : Sit.Fit (⟨A0, c0, [(⟨[⟨4, 8⟩]⟩ : S83)], A1, c1, [(⟨⟨9, 9⟩, 3⟩ : S51)], 1, 2, 9, 4, 0, 0, 0, 0, W, cW, [0], D, cD, [false], G, cG, [], H, cH, [(⟨5, 1, 0, false, []⟩ : S62)], F, cF, [(⟨⟨0, 0⟩, 15, 8⟩ : S58)], U, cU, [⟨0, 0⟩]⟩ : Sit) := ⟨Nat.le_of_ble_eq_true rfl, Nat.le_of_ble_eq_true rfl, Nat.le_of_ble_eq_true rfl, Nat.le_of_ble_eq_true rfl, Nat.le_of_ble_eq_true rfl, fun k hk => by
  obtain rfl : k = 0 := by simpa using hk
  rfl, by simp [MaskOk], by
  intro h hh
  obtain rfl := List.mem_singleton.1 hh
  rfl, by simp⟩
 have hc := check_calls (⟨A0, c0, [(⟨[⟨4, 8⟩]⟩ : S83)], A1, c1, [(⟨⟨9, 9⟩, 3⟩ : S51)], 1, 2, 9, 4, 0, 0, 0, 0, W, cW, [0], D, cD, [false], G, cG, [], H, cH, [(⟨5, 1, 0, false, []⟩ : S62)], F, cF, [(⟨⟨0, 0⟩, 15, 8⟩ : S58)], U, cU, [⟨0, 0⟩]⟩ : Sit) 80 [(⟨⟨0, 0⟩, 15, 8⟩ : S58)] w hok hft (by kernel_rfl)
 rw [hk] at hc
 exact hc
class Bst (w : outParam World) (W : World) : Prop where
 out : Below w.heap.size w W
section
variable {w W W' : World} {g i n : Nat} {v : Value} {o : Obj}
instance bstDrew [b : Bst w W] : Bst w W.drew := ⟨below_drew1 b.out⟩
instance bstDrewN [b : Bst w W] : Bst w (W.drewN n) := ⟨pw_below_drewN b.out n⟩
instance bstAlloc [b : Bst w W] : Bst w (W.alloc o) := ⟨below_alloc b.out o⟩
instance bstBl [c : Bl W W'] [b : Bst w W] : Bst w W' := ⟨below_step b.out c.out⟩
theorem bstSet [b : Bst w W] (h : w.heap.size ≤ g) : Bst w (W.setCell ⟨g, i, none⟩ v) := ⟨below_set b.out h⟩
end
class Bsz (w : outParam World) (W : World) : Prop where
 out : Below w.heap.size w W
section
variable {w W W' : World} {n : Nat} {o : Obj}
instance bszDrew [b : Bsz w W] : Bsz w W.drew := ⟨below_drew1 b.out⟩
instance bszDrewN [b : Bsz w W] : Bsz w (W.drewN n) := ⟨pw_below_drewN b.out n⟩
instance bszAlloc [b : Bsz w W] : Bsz w (W.alloc o) := ⟨below_alloc b.out o⟩
instance bszBl [c : Bl W W'] [b : Bsz w W] : Bsz w W' := ⟨below_step b.out c.out⟩
end
set_option maxHeartbeats 8000000 in
set_option maxRecDepth 100000 in
theorem awake19 (w : World) : Calls Try.prog 5 #[] w fun e w' => e = .returned (.bool true) ∧ Below w.heap.size w w' := by
 have hu27 := Try.underlying27
 have hu35 := Try.underlying35
 have hu62 := Try.underlying62
 have hu31 := Try.underlying31
 have hu39 := Try.underlying39
 have hu3 := Try.underlying3
 have : Be w w := ⟨Below.refl _ _⟩
 go_enter Try.func5, Try.ntmps5
 go_upto_region 2 with (first | (go_at_call 12; refine (ensemblelaw19_usual.calls _ _ _ _ _ _ _ rfl).mono ?_; rintro e wu ⟨v0, v1, rfl, h0, h1, hb⟩; have := Bl.mk hb; clear hb; obtain ⟨A0, c0, rfl, l0, hC0⟩ := Kd.N_reads h0; obtain ⟨A1, c1, rfl, l1, hC1⟩ := Kd.R_reads h1; have HC0 := Aside0.mk (And.intro hC0 l0); have HC1 := Aside0.mk (And.intro hC1 l1); clear h0 h1 hC0 hC1 l0 l1) | (go_at_call 11; refine (new16 A0 A1 c0 c1 _ HC0.out.1 HC0.out.2 HC1.out.1 HC1.out.2).mono ?_; rintro e wn ⟨v, rfl, hs, hb⟩; have := Bl.mk hb; have HS := Aside0.mk hs; have hs' := hs; obtain ⟨gs, _, _, _, _, _, _, rfl, _⟩ := hs'; clear hb hs HC0 HC1) | (go_at_call 13; refine (state16 _ _ HS.out).mono ?_; rintro e wst ⟨v, rfl, hst, hb⟩; have := Bl.mk hb; clear hb HS; obtain ⟨W, D, G, H, F, U, cW, cD, cG, cH, cF, cU, rfl, r1, r2, r3, r4⟩ := hst; have R1 := Aside0.mk r1; have R3 := Aside0.mk r3; have R4 := Aside0.mk r4; clear r1 r2 r3 r4))
 obtain ⟨g1, w1, _, _, _, e1, e2⟩ := nameA wst #[.int .i64 0, .int .i64 0, .int .i64 0, .int .i64 0, .slice W 1 cW, .slice D 1 cD, .slice G 0 cG, .slice H 0 cH, .slice F 1 cF, .slice U 1 cU] 35
 rw [e1, e2]
 clear e1 e2
 have HBs := Aside0.mk (Be.out (W := wst))
 have hbw : Below wst.heap.size wst w1 := Bl.out
 have : Bst wst w1 := ⟨hbw⟩
 clear hbw
 go_region_held3 (fun w' => w'.cell? ⟨g1, 0, none⟩ = some (.int .i64 0) ∧ w'.cell? ⟨g1, 1, none⟩ = some (.int .i64 0) ∧ w'.cell? ⟨g1, 2, none⟩ = some (.int .i64 0) ∧ w'.cell? ⟨g1, 3, none⟩ = some (.int .i64 0) ∧ w'.cell? ⟨g1, 4, none⟩ = some (.slice W 1 cW) ∧ w'.cell? ⟨g1, 5, none⟩ = some (.slice D 1 cD) ∧ w'.cell? ⟨g1, 6, none⟩ = some (.slice G 0 cG) ∧ w'.cell? ⟨g1, 7, none⟩ = some (.slice H 0 cH) ∧ w'.cell? ⟨g1, 8, none⟩ = some (.slice F 1 cF) ∧ w'.cell? ⟨g1, 9, none⟩ = some (.slice U 1 cU)) ((repeat' (refine And.intro ?_ ?_)) <;> first | exact (cellBx _).trans rfl | assumption | exact pw_cell_below Bl.out (by assumption)) (first | (go_at_call 12; refine (ensemblelaw19_usual.calls _ _ _ _ _ _ _ rfl).mono ?_; rintro e wu ⟨v0, v1, rfl, h0, h1, hb⟩; have := Bl.mk hb; clear hb; obtain ⟨A0, c0, rfl, l0, hC0⟩ := Kd.N_reads h0; obtain ⟨A1, c1, rfl, l1, hC1⟩ := Kd.R_reads h1; have HC0 := Aside0.mk (And.intro hC0 l0); have HC1 := Aside0.mk (And.intro hC1 l1); clear h0 h1 hC0 hC1 l0 l1) | (go_at_call 8; refine (checkA A0 A1 W D G H F U c0 c1 cW cD cG cH cF cU _ HC0.out.1 HC0.out.2 HC1.out.1 HC1.out.2 (RowV.step R1.out Bst.out) ⟨G, cG, rfl, ⟨rfl, by simp, fun h => absurd h (by simp)⟩, Nat.zero_le _⟩ ⟨H, cH, rfl, ⟨rfl, by simp, fun h => absurd h (by simp)⟩, Nat.zero_le _⟩ (RowV.step R3.out Bst.out) (RowV.step R4.out Bst.out)).mono ?_; rintro e wc ⟨rfl, hb⟩; have := Bl.mk hb; clear hb))
 clear HC0 HC1
 have : Ge w g1 := inferInstance
 go_upto_region 4 with (first | ((with_reducible refine gate_dst (N := 16) rfl ?_); refine lit1 k62 16 62 (⟨5, 1, 0, false, []⟩ : S62) #[.int .i64 5, .int .i64 1, .int .i64 0, .bool false, .slice none 0 0] (fun W => k62_mk W _ (A4 := none) (c4 := 0) (Nat.le_refl _) ⟨rfl, by simp, fun h => absurd h (by simp)⟩) ?_; intro g9 w9 _ _ _ _))
 have hn9 : Nq g9 g1 := inferInstance
 have hge : wst.heap.size ≤ g1 := Nat.le_of_eq (‹Fr wst g1›.out.symm)
 generalize hz : World.setCell _ _ _ = wz
 have hbz : Bx wz g1 #[.int .i64 0, .int .i64 0, .int .i64 0, .int .i64 0, .slice W 1 cW, .slice D 1 cD, .slice G 0 cG, .slice (some ⟨g9, 0, none⟩) 1 1, .slice F 1 cF, .slice U 1 cU] 35 := by rw [← hz]; exact bxSetS (i := 7) (v := .slice (some ⟨g9, 0, none⟩) 1 1) (cs := #[.int .i64 0, .int .i64 0, .int .i64 0, .int .i64 0, .slice W 1 cW, .slice D 1 cD, .slice G 0 cG, .slice H 0 cH, .slice F 1 cF, .slice U 1 cU])
 have hb9 : Bx wz g9 #[.int .i64 5, .int .i64 1, .int .i64 0, .bool false, .slice none 0 0] 62 := by rw [← hz]; exact bxSetF
 have hbe : Be w wz := by rw [← hz]; exact beSet
 have hbst : Bst wst wz := by rw [← hz]; exact bstSet hge
 clear hz hge hn9
 have HRH := fun (W : World) (hb : Below wz.heap.size wz W) => (show RowV k62 [(⟨5, 1, 0, false, []⟩ : S62)] (.slice (some ⟨g9, 0, none⟩) 1 1) W from RowV.step (w := wz) ⟨_, _, rfl, rowBx (k62_mk wz _ (A4 := none) (c4 := 0) (Nat.le_refl _) ⟨rfl, by simp, fun h => absurd h (by simp)⟩), Nat.le_refl _⟩ hb)
 have HRH := Aside0.mk HRH
 have : Bsz wz wz := ⟨Below.refl _ _⟩
 go_region_held3 (fun w' => w'.cell? ⟨g1, 0, none⟩ = some (.int .i64 0) ∧ w'.cell? ⟨g1, 1, none⟩ = some (.int .i64 0) ∧ w'.cell? ⟨g1, 2, none⟩ = some (.int .i64 0) ∧ w'.cell? ⟨g1, 3, none⟩ = some (.int .i64 0) ∧ w'.cell? ⟨g1, 4, none⟩ = some (.slice W 1 cW) ∧ w'.cell? ⟨g1, 5, none⟩ = some (.slice D 1 cD) ∧ w'.cell? ⟨g1, 6, none⟩ = some (.slice G 0 cG) ∧ w'.cell? ⟨g1, 7, none⟩ = some (.slice (some ⟨g9, 0, none⟩) 1 1) ∧ w'.cell? ⟨g1, 8, none⟩ = some (.slice F 1 cF) ∧ w'.cell? ⟨g1, 9, none⟩ = some (.slice U 1 cU)) ((repeat' (refine And.intro ?_ ?_)) <;> first | exact (cellBx _).trans rfl | assumption | exact pw_cell_below Bl.out (by assumption)) (first | (go_at_call 12; refine (ensemblelaw19_usual.calls _ _ _ _ _ _ _ rfl).mono ?_; rintro e wu ⟨v0, v1, rfl, h0, h1, hb⟩; have := Bl.mk hb; clear hb; obtain ⟨A0, c0, rfl, l0, hC0⟩ := Kd.N_reads h0; obtain ⟨A1, c1, rfl, l1, hC1⟩ := Kd.R_reads h1; have HC0 := Aside0.mk (And.intro hC0 l0); have HC1 := Aside0.mk (And.intro hC1 l1); clear h0 h1 hC0 hC1 l0 l1) | (go_at_call 8; refine (checkB A0 A1 W D G (some ⟨g9, 0, none⟩) F U c0 c1 cW cD cG 1 cF cU _ HC0.out.1 HC0.out.2 HC1.out.1 HC1.out.2 (RowV.step R1.out Bst.out) ⟨G, cG, rfl, ⟨rfl, by simp, fun h => absurd h (by simp)⟩, Nat.zero_le _⟩ (HRH.out _ Bsz.out) (RowV.step R3.out Bst.out) (RowV.step R4.out Bst.out)).mono ?_; rintro e wc ⟨rfl, hb⟩; have := Bl.mk hb; clear hb))
 clear HC0 HC1
 go_wp2
 go_ret
 exact ⟨rfl, Be.out⟩
end Go.Proofs.Ytpedlompipabdaa.P
namespace Go.Proofs.Ytpedlompipabdaa.P
open Go.RowKit Go.Proofs.YtpedlompipabdaaW.PrintWords Go.Proofs.YtpedlompipabdaaW.PrintLast Go.Proofs.YtpedlompipabdaaW.PrintMore
set_option linter.unusedVariables false
set_option linter.unusedSimpArgs false
attribute [local go_sem] cellBx frozBx
attribute [local go_sem] Oper.semAt_some
def eqS (a b : S56) : Bool := a.f0 == b.f0 && a.f1 == b.f1
theorem neq56 (a b : S56) (w : World) : (binOp .neq 56 (.agg #[.int .i64 a.f0, .int .i64 a.f1]) (.agg #[.int .i64 b.f0, .int .i64 b.f1])).run Try.prog w = .ok (.bool (!eqS a b)) w := by
 have hu56 := Try.underlying56
 have hu3 := Try.underlying3
 unfold eqS
 go_simp
 repeat' split
 all_goals simp_all
def addM (x sp : S56) (m mk : Int) : Int := if eqS sp x = true then Go.bits .or .u64 mk m else mk
def addC (x sp : S56) (n cp : Int) : Int := if eqS sp x = true then wrap64 (cp + n) else cp
def addB (x sp : S56) (m mk : Int) : Bool := if eqS sp x = true then Go.bits .and .u64 mk m == 0 else true
set_option maxHeartbeats 8000000 in
set_option maxRecDepth 100000 in
theorem add_calls (g7 g8 g9 g10 i : Nat) (A : Option Addr) (c : Nat) (l : List S58) (sp : S56) (m n mk cp : Int) (w : World) (h7 : Bx w g7 #[.slice A l.length c] 32) (h8 : Bx w g8 #[.int .i64 (i : Int)] 3) (h9 : Bx w g9 #[.int .u64 mk] 54) (h10 : Bx w g10 #[.int .i64 cp] 3)
  (hl : Kd.C k58 w A l.length l) (hi : i < l.length) (hi1 : i ≤ 1000000) (n1 : Nq g10 g9) (n2 : Nq g9 g10) (hB : g9 ≤ w.heap.size) (hB2 : g9 ≤ g10) :
  Calls Try.prog 10 #[.agg #[.int .i64 sp.f0, .int .i64 sp.f1], .int .u64 m, .int .i64 n, .pointer (some ⟨g7, 0, none⟩), .pointer (some ⟨g8, 0, none⟩), .pointer (some ⟨g9, 0, none⟩), .pointer (some ⟨g10, 0, none⟩)] w fun e w' =>
   e = .returned (.bool (addB (rd_T58 l (i : Int)).f0 sp m mk)) ∧ Bx w' g9 #[.int .u64 (addM (rd_T58 l (i : Int)).f0 sp m mk)] 54 ∧ Bx w' g10 #[.int .i64 (addC (rd_T58 l (i : Int)).f0 sp n cp)] 3 ∧ Below g9 w w' := by
 have hu56 := Try.underlying56
 have hu32 := Try.underlying32
 have hu58 := Try.underlying58
 have hu54 := Try.underlying54
 have hu3 := Try.underlying3
 have hu4 := Try.underlying4
 have hlt' : (i : Int) < l.length := by omega
 have h0i : 0 ≤ (i : Int) := by omega
 have HL := Aside0.mk hl
 have : Be w w := ⟨Below.refl _ _⟩
 obtain ⟨x, hx⟩ : ∃ x, rd_T58 l (i : Int) = x := ⟨_, rfl⟩
 rw [hx]
 have HX := Aside0.mk hx
 have HI := Aside0.mk hi
 have HB := Aside0.mk (And.intro hB hB2)
 clear hl hx hi hB hB2
 unfold addB addM addC
 have q56 := neq56 sp x.f0
 cases hq : eqS sp x.f0 with
 | true =>
  simp only [↓reduceIte]
  rw [hq] at q56
  go_enter Try.func10, Try.ntmps10
  go_upto_region 1 with (first | ((with_reducible refine gate_dst (N := 7) rfl ?_); refine bxT 7 #[.int .i64 sp.f0, .int .i64 sp.f1] 56 ?_; intro g3 w3 hF3 hB3 hL3))
  obtain ⟨ad, ee, y0, y1, y2, y3⟩ := at_T58 (Kd.C_below HL.out (Be.out (W := w3))) (i : Int) h0i hlt'
  subst ee
  simp only [Int.toNat_natCast] at y0 y1 y2 y3
  rw [HX.out] at y0 y1
  clear y2 y3
  go_region
  go_wp2
  go_ret
  have hbl : Below g9 w w3 := (Be.out (W := w3)).mono HB.out.1
  exact ⟨rfl, bxDrew (h := bxSetF (e := n2) (h := bxSetS (i := 0) (v := .int .u64 (Go.bits .or .u64 mk m)) (cs := #[.int .u64 mk]))), bxDrew (h := bxSetS (i := 0) (v := .int .i64 (wrap64 (cp + n))) (cs := #[.int .i64 cp]) (h := bxSetF (e := n1))), Below.drew (Below.setCell (Below.setCell hbl (p := ⟨g9, 0, none⟩) (Nat.le_refl _) _) (p := ⟨g10, 0, none⟩) HB.out.2 _)⟩
 | false =>
  simp only [Bool.false_eq_true, ↓reduceIte]
  rw [hq] at q56
  go_enter Try.func10, Try.ntmps10
  go_upto_region 1 with (first | ((with_reducible refine gate_dst (N := 7) rfl ?_); refine bxT 7 #[.int .i64 sp.f0, .int .i64 sp.f1] 56 ?_; intro g3 w3 hF3 hB3 hL3))
  obtain ⟨ad, ee, y0, y1, y2, y3⟩ := at_T58 (Kd.C_below HL.out (Be.out (W := w3))) (i : Int) h0i hlt'
  subst ee
  simp only [Int.toNat_natCast] at y0 y1 y2 y3
  rw [HX.out] at y0 y1
  clear y2 y3
  go_region
  go_wp2
  go_ret
  have hbl : Below g9 w w3 := (Be.out (W := w3)).mono HB.out.1
  exact ⟨rfl, inferInstance, inferInstance, Below.drew hbl⟩
theorem bxBelow {B g : Nat} {W W' : World} {cs : Array Value} {t : TypeId} (h : Bx W g cs t) (hb : Below B W W') (hg : g < B) : Bx W' g cs t := ⟨by rw [hb.block g hg]; exact h.out⟩
theorem cellBelowD {B : Nat} {W W' : World} {p : Addr} {v : Value} (hb : Below B W.drew W') (h : W.cell? p = some v) (hp : p.block < B) : W'.cell? p = some v := (hb.cell hp).trans h
theorem bxBelowD {B g : Nat} {W W' : World} {cs : Array Value} {t : TypeId} (h : Bx W g cs t) (hb : Below B W.drew W') (hg : g < B) : Bx W' g cs t := bxBelow (bxDrew (h := h)) hb hg
theorem beBelowD {B : Nat} {w W W' : World} (h : Be w W) (hb : Below B W.drew W') (hg : w.heap.size ≤ B) : Be w W' := ⟨(h.out.drew).trans (hb.mono hg)⟩
theorem blBelowD {B C : Nat} {w W W' : World} (h : Below C w W) (hb : Below B W.drew W') (hg : C ≤ B) : Below C w W' := (h.drew).trans (hb.mono hg)
end Go.Proofs.Ytpedlompipabdaa.P
namespace Go.Proofs.Ytpedlompipabdaa.P
open Go.RowKit Go.Proofs.YtpedlompipabdaaW.PrintWords Go.Proofs.YtpedlompipabdaaW.PrintLast Go.Proofs.YtpedlompipabdaaW.PrintMore
attribute [local go_sem] max2_int min2_int max_two min_two max_three min_three max_four min_four
set_option linter.unusedVariables false
set_option linter.unusedSimpArgs false
mutual
def ensembleref02_Right.j0 : Nat → Bool → List (S83) → Option (Bool)
 | 0, _, _ => none
 | k + 1, x15, x102000 => if x15 = true then (some false) else (ensembleref02_Right.l0 k 0 x102000)
def ensembleref02_Right.l0 : Nat → Int → List (S83) → Option (Bool)
 | 0, _, _ => none
 | k + 1, x3, x102000 => if x3 < (x102000.length : Int) then (if 0 ≤ x3 then (if (((rd_T83 x102000 x3).f0).length : Int) < 1 then (ensembleref02_Right.j2 k x3 ((rd_T83 x102000 x3).f0) true x102000) else (ensembleref02_Right.j2 k x3 ((rd_T83 x102000 x3).f0) (decide ((((rd_T83 x102000 x3).f0).length : Int) > 4)) x102000)) else (none)) else (some true)
def ensembleref02_Right.j2 : Nat → Int → List (S84) → Bool → List (S83) → Option (Bool)
 | 0, _, _, _, _ => none
 | k + 1, x3, x4, x36, x102000 => if x36 = true then (some false) else (ensembleref02_Right.l1 k x3 x4 0 x102000)
def ensembleref02_Right.l1 : Nat → Int → List (S84) → Int → List (S83) → Option (Bool)
 | 0, _, _, _, _ => none
 | k + 1, x3, x4, x5, x102000 => if x5 < (x4.length : Int) then (if 0 ≤ x5 then (if ((rd_T84 x4 x5).f0) < 0 then (some false) else (if ((rd_T84 x4 x5).f0) > 16 then (some false) else (if ((rd_T84 x4 x5).f1) < 0 then (some false) else (if ((rd_T84 x4 x5).f1) > 1024 then (some false) else (ensembleref02_Right.l1 k x3 x4 (wrap64 (x5 + 1)) x102000))))) else (none)) else (ensembleref02_Right.l0 k (wrap64 (x3 + 1)) x102000)
end
def ensembleref02_Right.f (k : Nat) (l0_0 : List (S83)) : Option (Bool) := if (l0_0.length : Int) < 1 then (ensembleref02_Right.j0 k true l0_0) else (ensembleref02_Right.j0 k (decide ((l0_0.length : Int) > 16)) l0_0)
theorem ensembleref02_Right.mono_l : ∀ k, (∀ y0 y1, LeO (ensembleref02_Right.j0 k y0 y1) (ensembleref02_Right.j0 (k + 1) y0 y1)) ∧ (∀ y0 y1, LeO (ensembleref02_Right.l0 k y0 y1) (ensembleref02_Right.l0 (k + 1) y0 y1)) ∧ (∀ y0 y1 y2 y3, LeO (ensembleref02_Right.j2 k y0 y1 y2 y3) (ensembleref02_Right.j2 (k + 1) y0 y1 y2 y3)) ∧ (∀ y0 y1 y2 y3, LeO (ensembleref02_Right.l1 k y0 y1 y2 y3) (ensembleref02_Right.l1 (k + 1) y0 y1 y2 y3))
 | 0 => ⟨fun _ _ r h => by simp [ensembleref02_Right.j0] at h, fun _ _ r h => by simp [ensembleref02_Right.l0] at h, fun _ _ _ _ r h => by simp [ensembleref02_Right.j2] at h, fun _ _ _ _ r h => by simp [ensembleref02_Right.l1] at h⟩
 | k + 1 => by
  obtain ⟨ih0, ih1, ih2, ih3⟩ := ensembleref02_Right.mono_l k
  refine ⟨?_, ?_, ?_, ?_⟩
  ·intro y0 y1
   unfold ensembleref02_Right.j0
   repeat' first
   | (with_reducible exact ih0 _ _)
   | (with_reducible exact ih1 _ _)
   | (with_reducible exact ih2 _ _ _ _)
   | (with_reducible exact ih3 _ _ _ _)
   | (with_reducible exact LeO.refl _)
   | (with_reducible exact LeO.none _)
   | (with_reducible refine LeO.ite ?_ ?_)
   | (with_reducible refine LeO.bind ?_ (fun _ => ?_))
   | exact ih0 _ _
   | exact ih1 _ _
   | exact ih2 _ _ _ _
   | exact ih3 _ _ _ _
   | exact LeO.none _
   | refine LeO.ite ?_ ?_
   | refine LeO.bind ?_ (fun _ => ?_)
  ·intro y0 y1
   unfold ensembleref02_Right.l0
   repeat' first
   | (with_reducible exact ih0 _ _)
   | (with_reducible exact ih1 _ _)
   | (with_reducible exact ih2 _ _ _ _)
   | (with_reducible exact ih3 _ _ _ _)
   | (with_reducible exact LeO.refl _)
   | (with_reducible exact LeO.none _)
   | (with_reducible refine LeO.ite ?_ ?_)
   | (with_reducible refine LeO.bind ?_ (fun _ => ?_))
   | exact ih0 _ _
   | exact ih1 _ _
   | exact ih2 _ _ _ _
   | exact ih3 _ _ _ _
   | exact LeO.none _
   | refine LeO.ite ?_ ?_
   | refine LeO.bind ?_ (fun _ => ?_)
  ·intro y0 y1 y2 y3
   unfold ensembleref02_Right.j2
   repeat' first
   | (with_reducible exact ih0 _ _)
   | (with_reducible exact ih1 _ _)
   | (with_reducible exact ih2 _ _ _ _)
   | (with_reducible exact ih3 _ _ _ _)
   | (with_reducible exact LeO.refl _)
   | (with_reducible exact LeO.none _)
   | (with_reducible refine LeO.ite ?_ ?_)
   | (with_reducible refine LeO.bind ?_ (fun _ => ?_))
   | exact ih0 _ _
   | exact ih1 _ _
   | exact ih2 _ _ _ _
   | exact ih3 _ _ _ _
   | exact LeO.none _
   | refine LeO.ite ?_ ?_
   | refine LeO.bind ?_ (fun _ => ?_)
  ·intro y0 y1 y2 y3
   unfold ensembleref02_Right.l1
   repeat' first
   | (with_reducible exact ih0 _ _)
   | (with_reducible exact ih1 _ _)
   | (with_reducible exact ih2 _ _ _ _)
   | (with_reducible exact ih3 _ _ _ _)
   | (with_reducible exact LeO.refl _)
   | (with_reducible exact LeO.none _)
   | (with_reducible refine LeO.ite ?_ ?_)
   | (with_reducible refine LeO.bind ?_ (fun _ => ?_))
   | exact ih0 _ _
   | exact ih1 _ _
   | exact ih2 _ _ _ _
   | exact ih3 _ _ _ _
   | exact LeO.none _
   | refine LeO.ite ?_ ?_
   | refine LeO.bind ?_ (fun _ => ?_)
theorem ensembleref02_Right.mono : ∀ a0 k, LeO (ensembleref02_Right.f k a0) (ensembleref02_Right.f (k + 1) a0) := by
 intro a0 k
 obtain ⟨ih0, ih1, ih2, ih3⟩ := ensembleref02_Right.mono_l k
 unfold ensembleref02_Right.f
 repeat' first
   | (with_reducible exact ih0 _ _)
   | (with_reducible exact ih1 _ _)
   | (with_reducible exact ih2 _ _ _ _)
   | (with_reducible exact ih3 _ _ _ _)
   | (with_reducible exact LeO.refl _)
   | (with_reducible exact LeO.none _)
   | (with_reducible refine LeO.ite ?_ ?_)
   | (with_reducible refine LeO.bind ?_ (fun _ => ?_))
   | exact ih0 _ _
   | exact ih1 _ _
   | exact ih2 _ _ _ _
   | exact ih3 _ _ _ _
   | exact LeO.none _
   | refine LeO.ite ?_ ?_
   | refine LeO.bind ?_ (fun _ => ?_)
set_option maxHeartbeats 8000000 in
set_option maxRecDepth 100000 in
theorem ensembleref02_Right.calls (k : Nat) (A0_0 : Option Addr) (c0_0 : Nat) (l0_0 : List (S83)) (r : Bool) (w : World) (hr0_0 : Kd.C k83 w A0_0 l0_0.length l0_0) (hc0_0 : l0_0.length ≤ c0_0) (h : ensembleref02_Right.f k l0_0 = some r) :
  Calls Try.prog 14 #[.agg #[.slice A0_0 l0_0.length c0_0]] w fun e w' => e = .returned (.bool r) ∧ Below w.heap.size w w' := by
 have hu24 := Try.underlying24
 have HR0_0 := Aside0.mk hr0_0
 have HC0_0 := Aside0.mk hc0_0
 clear hr0_0 hc0_0
 have HB := Aside0.mk (Below.refl w.heap.size w)
 have H : (if (l0_0.length : Int) < 1 then (ensembleref02_Right.j0 k true l0_0) else (ensembleref02_Right.j0 k (decide ((l0_0.length : Int) > 16)) l0_0)) = some r := h
 clear h
 have HC2 := Aside0.mk H
 clear H
 go_enter Try.func14, Try.ntmps14
 go_upto_region 1 with (first | ((with_reducible refine gate_dst (N := 1) rfl ?_); (try (refine gate_guard (by rfl) ?_; dsimp only)); refine box_event ?hg (N := 1) ?hd (cs := #[.slice A0_0 l0_0.length c0_0]) (t := 24) ?hr ?_; (case hd => rfl); (case hg => rfl); (case hr => first | (go_simp; done) | (go_simp; rfl)); intro gb101 hg w3 hbox hb; have n0_ := Aside0.mk (below_step (by repeat (first | (with_reducible first | exact HB.out | apply below_alloc | apply pw_below_drewN | apply below_drew1) | exact HB.out)) hb); have n1_ := Aside0.mk (hbox); have n2_ := Aside0.mk ((by rw [hg]; exact (below_size (by repeat (first | (with_reducible first | exact HB.out | apply below_alloc | apply pw_below_drewN | apply below_drew1) | exact HB.out))) : w.heap.size ≤ gb101)); have n3_ := Aside0.mk ((by rw [hg]; exact (below_size (by repeat (first | (with_reducible first | exact HB.out | apply below_alloc | apply pw_below_drewN | apply below_drew1) | exact HB.out))) : w.heap.size ≤ gb101)); clear HB; have HB := n0_; have BK101 := n1_; have GW101 := n2_; have GE101 := n3_; clear n0_ n1_ n2_ n3_; clear hb hbox hg))
 (try simp only [Act.put, List.setIfInBounds_toArray, List.set_cons_zero, List.set_cons_succ])
 go_cut [15] (fun v15 wc => ∃ (kq : Nat) (x15_1 : Bool), v15 = .bool x15_1 ∧ Aside0 (ensembleref02_Right.j0 kq x15_1 l0_0 = some r) ∧ Aside0 (kq ≤ k) ∧ Aside0 (wc.heap[gb101]? = some (.cells #[(.slice A0_0 l0_0.length c0_0)] 24 (0, 0))) ∧ Aside0 (Below w.heap.size w wc))
 case first =>
  have H := HC2.out
  clear HC2
  by_cases c4 : (l0_0.length : Int) < 1
  ·rw [if_pos c4] at H
   have c4b0 : decide ((l0_0.length : Int) < 1) = true := decide_eq_true c4
   have c4b1 : decide (l0_0.length < 1) = true := decide_eq_true (by omega)
   clear c4
   (first | rw [c4b0] | (simp only [i64_w, i32_w]; rw [c4b0]) | skip)
   have H' := Aside0.mk H
   clear H
   have hcz5_0 : w3.cell? ⟨gb101, 0, none⟩ = some (.slice A0_0 l0_0.length c0_0) := (blk_cell BK101.out 0).trans rfl
   have hfz5_0 := blk_frozen BK101.out 0
   go_wp2
   go_meet
   case rel => exact ⟨_, (true), (by first | rfl | (simp; done) | (simp [*]; done)), H', ⟨by first | omega | exact Nat.le_refl _⟩, ⟨by (with_reducible repeat (first | refine blk_drewN ?_ _ | refine blk_drew ?_ | refine blk_alloc ?_ _)); exact BK101.out⟩, ⟨by repeat (first | (with_reducible first | exact HB.out | apply below_alloc | apply pw_below_drewN | apply below_drew1 | refine below_set ?_ GE101.out) | exact HB.out)⟩⟩
  ·rw [if_neg c4] at H
   have c4b0 : decide ((l0_0.length : Int) < 1) = false := decide_eq_false c4
   have c4b1 : decide (l0_0.length < 1) = false := decide_eq_false (by omega)
   clear c4
   (first | rw [c4b0] | (simp only [i64_w, i32_w]; rw [c4b0]) | skip)
   have H' := Aside0.mk H
   clear H
   have hcz6_0 : w3.cell? ⟨gb101, 0, none⟩ = some (.slice A0_0 l0_0.length c0_0) := (blk_cell BK101.out 0).trans rfl
   have hfz6_0 := blk_frozen BK101.out 0
   go_wp2
   go_meet
   case rel => exact ⟨_, (decide ((l0_0.length : Int) > 16)), (by first | rfl | (simp; done) | (simp [*]; done)), H', ⟨by first | omega | exact Nat.le_refl _⟩, ⟨by (with_reducible repeat (first | refine blk_drewN ?_ _ | refine blk_drew ?_ | refine blk_alloc ?_ _)); exact BK101.out⟩, ⟨by repeat (first | (with_reducible first | exact HB.out | apply below_alloc | apply pw_below_drewN | apply below_drew1 | refine below_set ?_ GE101.out) | exact HB.out)⟩⟩
 case rest =>
  clear HC2
  try clear c1
  try clear p2
  try clear c4
  try clear c4b0
  try clear c4b1
  try clear hcz5_0
  try clear hcz6_0
  try clear hfz5_0
  try clear hfz6_0
  obtain ⟨kq, x15_1, rfl, HA, HJ1, BK101, HB⟩ := hcut
  cases kq with
  | zero => exact absurd HA.out (by simp [ensembleref02_Right.j0])
  | succ kj1 =>
   have H := HA.out
   clear HA
   simp only [ensembleref02_Right.j0] at H
   by_cases c7 : x15_1 = true
   ·subst c7
    have H1 : (some false) = some r := by rw [if_pos rfl] at H; exact H
    clear H
    have H := H1
    clear H1
    obtain rfl := Option.some.inj H
    go_wp2
    go_ret
    exact ⟨by first | rfl | (simp [errW_none, errW_some] <;> rfl) | (simp [*, errW_none, errW_some] <;> rfl), by repeat (first | (with_reducible first | exact HB.out | apply below_alloc | apply pw_below_drewN | apply below_drew1 | refine below_set ?_ GE101.out) | exact HB.out)⟩
   ·replace c7 := Bool.eq_false_iff.mpr c7
    subst c7
    have H1 : (ensembleref02_Right.l0 kj1 0 l0_0) = some r := by rw [if_neg (show ¬ (false = true) by decide)] at H; exact H
    clear H
    have H := H1
    clear H1
    have H' := Aside0.mk H
    clear H
    go_wp2
    go_loopg [3] kj1 (fun kq v3 w' => ∃ (x3_2 : Int), v3 = .int .i64 x3_2 ∧ Aside0 (ensembleref02_Right.l0 kq x3_2 l0_0 = some r) ∧ Aside0 (kq ≤ kj1) ∧ Aside0 (w'.heap[gb101]? = some (.cells #[(.slice A0_0 l0_0.length c0_0)] 24 (0, 0))) ∧ Aside0 (Below w.heap.size w w'))
    case atStart => exact ⟨(0), (by first | rfl | (simp; done) | (simp [*]; done)), H', ⟨Nat.le_refl _⟩, ⟨by (with_reducible repeat (first | refine blk_drewN ?_ _ | refine blk_drew ?_ | refine blk_alloc ?_ _)); exact BK101.out⟩, ⟨by repeat (first | (with_reducible first | exact HB.out | apply below_alloc | apply pw_below_drewN | apply below_drew1 | refine below_set ?_ GE101.out) | exact HB.out)⟩⟩
    case round =>
     clear H'
     try clear c1
     try clear p2
     try clear c4
     try clear c4b0
     try clear c4b1
     try clear c7
     try clear hcz5_0
     try clear hcz6_0
     try clear hfz5_0
     try clear hfz6_0
     try clear p2
     obtain ⟨x3_2, rfl, HA, HK2, BK101, HB⟩ := hrel
     cases gk with
     | zero => exact absurd HA.out (by simp [ensembleref02_Right.l0])
     | succ k2 =>
      have H := HA.out
      clear HA
      simp only [ensembleref02_Right.l0] at H
      by_cases c8 : x3_2 < (l0_0.length : Int)
      ·rw [if_pos c8] at H
       have c8b0 : decide (x3_2 < (l0_0.length : Int)) = true := decide_eq_true c8
       clear c8
       by_cases c9 : 0 ≤ x3_2
       ·rw [if_pos c9] at H
        have c9b0 : decide (0 ≤ x3_2) = true := decide_eq_true c9
        clear c9
        have HC10 := Aside0.mk H
        clear H
        have hcz11_0 : wr.cell? ⟨gb101, 0, none⟩ = some (.slice A0_0 l0_0.length c0_0) := (blk_cell BK101.out 0).trans rfl
        have hfz11_0 := blk_frozen BK101.out 0
        have p102 : 0 ≤ (x3_2 : Int) := of_decide_eq_true (by first | (with_reducible assumption) | assumption)
        have q102 : x3_2 < (l0_0.length : Int) := of_decide_eq_true (by first | (with_reducible assumption) | assumption)
        obtain ⟨ad102, A102_0, c102_0, e102, hx102_0, hl102_0, hi102_0⟩ := at_T83 HR0_0.out x3_2 p102 q102
        cases e102
        replace hx102_0 := (HB.out.cell (World.block_lt_of_cell? w _ hx102_0)).trans hx102_0
        have HR102_0 := Aside0.mk hi102_0
        have HC102_0 := Aside0.mk hl102_0
        clear hi102_0 hl102_0
        replace p102 := eq_true p102
        replace q102 := eq_true q102
        go_upto_region 7 with (fail)
        go_cut [36] (fun v36 wc => ∃ (kq : Nat) (x36_9 : Bool), v36 = .bool x36_9 ∧ Aside0 (ensembleref02_Right.j2 kq x3_2 ((rd_T83 l0_0 x3_2).f0) x36_9 l0_0 = some r) ∧ Aside0 (kq ≤ k2) ∧ Aside0 (wc.heap[gb101]? = some (.cells #[(.slice (some ad102) l0_0.length c0_0)] 24 (0, 0))) ∧ Aside0 (Below w.heap.size w wc))
        case first =>
         have H := HC10.out
         clear HC10
         by_cases c12 : (((rd_T83 l0_0 x3_2).f0).length : Int) < 1
         ·rw [if_pos c12] at H
          have c12b0 : decide ((((rd_T83 l0_0 x3_2).f0).length : Int) < 1) = true := decide_eq_true c12
          have c12b1 : decide (((rd_T83 l0_0 x3_2).f0).length < 1) = true := decide_eq_true (by omega)
          clear c12
          (first | rw [c12b0] | (simp only [i64_w, i32_w]; rw [c12b0]) | skip)
          have H' := Aside0.mk H
          clear H
          go_wp2
          go_meet
          case rel => exact ⟨_, (true), (by first | rfl | (simp; done) | (simp [*]; done)), H', ⟨by have := HJ1.out; have := HK2.out; first | omega | exact Nat.le_refl _⟩, ⟨by (with_reducible repeat (first | refine blk_drewN ?_ _ | refine blk_drew ?_ | refine blk_alloc ?_ _)); exact BK101.out⟩, ⟨by repeat (first | (with_reducible first | exact HB.out | apply below_alloc | apply pw_below_drewN | apply below_drew1 | refine below_set ?_ GE101.out) | exact HB.out)⟩⟩
         ·rw [if_neg c12] at H
          have c12b0 : decide ((((rd_T83 l0_0 x3_2).f0).length : Int) < 1) = false := decide_eq_false c12
          have c12b1 : decide (((rd_T83 l0_0 x3_2).f0).length < 1) = false := decide_eq_false (by omega)
          clear c12
          (first | rw [c12b0] | (simp only [i64_w, i32_w]; rw [c12b0]) | skip)
          have H' := Aside0.mk H
          clear H
          go_wp2
          go_meet
          case rel => exact ⟨_, (decide ((((rd_T83 l0_0 x3_2).f0).length : Int) > 4)), (by first | rfl | (simp; done) | (simp [*]; done)), H', ⟨by have := HJ1.out; have := HK2.out; first | omega | exact Nat.le_refl _⟩, ⟨by (with_reducible repeat (first | refine blk_drewN ?_ _ | refine blk_drew ?_ | refine blk_alloc ?_ _)); exact BK101.out⟩, ⟨by repeat (first | (with_reducible first | exact HB.out | apply below_alloc | apply pw_below_drewN | apply below_drew1 | refine below_set ?_ GE101.out) | exact HB.out)⟩⟩
        case rest =>
         clear HC10
         try clear c1
         try clear p1
         try clear q1
         try clear hx1
         try clear p2
         try clear c4
         try clear c4b0
         try clear c4b1
         try clear c7
         try clear c8
         try clear c8b0
         try clear c9
         try clear c9b0
         try clear c10
         try clear p10
         try clear q10
         try clear hx10
         try clear c12
         try clear c12b0
         try clear c12b1
         try clear hcz11_0
         try clear hcz5_0
         try clear hcz6_0
         try clear hfz11_0
         try clear hfz5_0
         try clear hfz6_0
         try clear hx102_0
         try clear p102
         try clear p2
         try clear q102
         obtain ⟨kq, x36_9, rfl, HA, HJ9, BK101, HB⟩ := hcut
         cases kq with
         | zero => exact absurd HA.out (by simp [ensembleref02_Right.j2])
         | succ kj9 =>
          have H := HA.out
          clear HA
          simp only [ensembleref02_Right.j2] at H
          by_cases c13 : x36_9 = true
          ·subst c13
           have H1 : (some false) = some r := by rw [if_pos rfl] at H; exact H
           clear H
           have H := H1
           clear H1
           obtain rfl := Option.some.inj H
           go_wp2
           go_ret
           exact ⟨by first | rfl | (simp [errW_none, errW_some] <;> rfl) | (simp [*, errW_none, errW_some] <;> rfl), by repeat (first | (with_reducible first | exact HB.out | apply below_alloc | apply pw_below_drewN | apply below_drew1 | refine below_set ?_ GE101.out) | exact HB.out)⟩
          ·replace c13 := Bool.eq_false_iff.mpr c13
           subst c13
           have H1 : (ensembleref02_Right.l1 kj9 x3_2 ((rd_T83 l0_0 x3_2).f0) 0 l0_0) = some r := by rw [if_neg (show ¬ (false = true) by decide)] at H; exact H
           clear H
           have H := H1
           clear H1
           have H' := Aside0.mk H
           clear H
           go_wp2
           go_loopg [5] kj9 (fun kq v5 w' => ∃ (x5_4 : Int), v5 = .int .i64 x5_4 ∧ Aside0 (ensembleref02_Right.l1 kq x3_2 ((rd_T83 l0_0 x3_2).f0) x5_4 l0_0 = some r) ∧ Aside0 (kq ≤ kj9) ∧ Aside0 (w'.heap[gb101]? = some (.cells #[(.slice (some ad102) l0_0.length c0_0)] 24 (0, 0))) ∧ Aside0 (Below w.heap.size w w'))
           case atStart => exact ⟨(0), (by first | rfl | (simp; done) | (simp [*]; done)), H', ⟨Nat.le_refl _⟩, ⟨by (with_reducible repeat (first | refine blk_drewN ?_ _ | refine blk_drew ?_ | refine blk_alloc ?_ _)); exact BK101.out⟩, ⟨by repeat (first | (with_reducible first | exact HB.out | apply below_alloc | apply pw_below_drewN | apply below_drew1 | refine below_set ?_ GE101.out) | exact HB.out)⟩⟩
           case round =>
            clear H'
            try clear c1
            try clear p1
            try clear q1
            try clear hx1
            try clear p2
            try clear c4
            try clear c4b0
            try clear c4b1
            try clear c7
            try clear c8
            try clear c8b0
            try clear c9
            try clear c9b0
            try clear c10
            try clear p10
            try clear q10
            try clear hx10
            try clear c12
            try clear c12b0
            try clear c12b1
            try clear c13
            try clear hcz11_0
            try clear hcz5_0
            try clear hcz6_0
            try clear hfz11_0
            try clear hfz5_0
            try clear hfz6_0
            try clear hx102_0
            try clear p1
            try clear p10
            try clear p102
            try clear p2
            try clear q1
            try clear q10
            try clear q102
            obtain ⟨x5_4, rfl, HA, HK4, BK101, HB⟩ := hrel
            cases gk with
            | zero => exact absurd HA.out (by simp [ensembleref02_Right.l1])
            | succ k4 =>
             have H := HA.out
             clear HA
             simp only [ensembleref02_Right.l1] at H
             by_cases c14 : x5_4 < (((rd_T83 l0_0 x3_2).f0).length : Int)
             ·rw [if_pos c14] at H
              have c14b0 : decide (x5_4 < (((rd_T83 l0_0 x3_2).f0).length : Int)) = true := decide_eq_true c14
              clear c14
              by_cases c15 : 0 ≤ x5_4
              ·rw [if_pos c15] at H
               have c15b0 : decide (0 ≤ x5_4) = true := decide_eq_true c15
               clear c15
               by_cases c16 : ((rd_T84 ((rd_T83 l0_0 x3_2).f0) x5_4).f0) < 0
               ·rw [if_pos c16] at H
                have c16b0 : decide (((rd_T84 ((rd_T83 l0_0 x3_2).f0) x5_4).f0) < 0) = true := decide_eq_true c16
                clear c16
                obtain rfl := Option.some.inj H
                have p103 : 0 ≤ (x5_4 : Int) := of_decide_eq_true (by first | (with_reducible assumption) | assumption)
                have q103 : x5_4 < (((rd_T83 l0_0 x3_2).f0).length : Int) := of_decide_eq_true (by first | (with_reducible assumption) | assumption)
                obtain ⟨ad103, e103, hx103_0, hx103_1⟩ := at_T84 HR102_0.out x5_4 p103 q103
                cases e103
                replace hx103_0 := (HB.out.cell (World.block_lt_of_cell? w _ hx103_0)).trans hx103_0
                replace hx103_1 := (HB.out.cell (World.block_lt_of_cell? w _ hx103_1)).trans hx103_1
                replace p103 := eq_true p103
                replace q103 := eq_true q103
                go_wp2
                go_ret
                exact ⟨by first | rfl | (simp [errW_none, errW_some] <;> rfl) | (simp [*, errW_none, errW_some] <;> rfl), by repeat (first | (with_reducible first | exact HB.out | apply below_alloc | apply pw_below_drewN | apply below_drew1 | refine below_set ?_ GE101.out) | exact HB.out)⟩
               ·rw [if_neg c16] at H
                have c16b0 : decide (((rd_T84 ((rd_T83 l0_0 x3_2).f0) x5_4).f0) < 0) = false := decide_eq_false c16
                clear c16
                by_cases c17 : ((rd_T84 ((rd_T83 l0_0 x3_2).f0) x5_4).f0) > 16
                ·rw [if_pos c17] at H
                 have c17b0 : decide (16 < ((rd_T84 ((rd_T83 l0_0 x3_2).f0) x5_4).f0)) = true := decide_eq_true c17
                 clear c17
                 obtain rfl := Option.some.inj H
                 have p103 : 0 ≤ (x5_4 : Int) := of_decide_eq_true (by first | (with_reducible assumption) | assumption)
                 have q103 : x5_4 < (((rd_T83 l0_0 x3_2).f0).length : Int) := of_decide_eq_true (by first | (with_reducible assumption) | assumption)
                 obtain ⟨ad103, e103, hx103_0, hx103_1⟩ := at_T84 HR102_0.out x5_4 p103 q103
                 cases e103
                 replace hx103_0 := (HB.out.cell (World.block_lt_of_cell? w _ hx103_0)).trans hx103_0
                 replace hx103_1 := (HB.out.cell (World.block_lt_of_cell? w _ hx103_1)).trans hx103_1
                 replace p103 := eq_true p103
                 replace q103 := eq_true q103
                 have p104 : 0 ≤ (x5_4 : Int) := of_decide_eq_true (by first | (with_reducible assumption) | assumption)
                 have q104 : x5_4 < (((rd_T83 l0_0 x3_2).f0).length : Int) := of_decide_eq_true (by first | (with_reducible assumption) | assumption)
                 obtain ⟨ad104, e104, hx104_0, hx104_1⟩ := at_T84 HR102_0.out x5_4 p104 q104
                 obtain rfl : ad103 = ad104 := (by injection e104)
                 replace hx104_0 := (HB.out.cell (World.block_lt_of_cell? w _ hx104_0)).trans hx104_0
                 replace hx104_1 := (HB.out.cell (World.block_lt_of_cell? w _ hx104_1)).trans hx104_1
                 replace p104 := eq_true p104
                 replace q104 := eq_true q104
                 go_wp2
                 go_ret
                 exact ⟨by first | rfl | (simp [errW_none, errW_some] <;> rfl) | (simp [*, errW_none, errW_some] <;> rfl), by repeat (first | (with_reducible first | exact HB.out | apply below_alloc | apply pw_below_drewN | apply below_drew1 | refine below_set ?_ GE101.out) | exact HB.out)⟩
                ·rw [if_neg c17] at H
                 have c17b0 : decide (16 < ((rd_T84 ((rd_T83 l0_0 x3_2).f0) x5_4).f0)) = false := decide_eq_false c17
                 clear c17
                 by_cases c18 : ((rd_T84 ((rd_T83 l0_0 x3_2).f0) x5_4).f1) < 0
                 ·rw [if_pos c18] at H
                  have c18b0 : decide (((rd_T84 ((rd_T83 l0_0 x3_2).f0) x5_4).f1) < 0) = true := decide_eq_true c18
                  clear c18
                  obtain rfl := Option.some.inj H
                  have p103 : 0 ≤ (x5_4 : Int) := of_decide_eq_true (by first | (with_reducible assumption) | assumption)
                  have q103 : x5_4 < (((rd_T83 l0_0 x3_2).f0).length : Int) := of_decide_eq_true (by first | (with_reducible assumption) | assumption)
                  obtain ⟨ad103, e103, hx103_0, hx103_1⟩ := at_T84 HR102_0.out x5_4 p103 q103
                  cases e103
                  replace hx103_0 := (HB.out.cell (World.block_lt_of_cell? w _ hx103_0)).trans hx103_0
                  replace hx103_1 := (HB.out.cell (World.block_lt_of_cell? w _ hx103_1)).trans hx103_1
                  replace p103 := eq_true p103
                  replace q103 := eq_true q103
                  have p104 : 0 ≤ (x5_4 : Int) := of_decide_eq_true (by first | (with_reducible assumption) | assumption)
                  have q104 : x5_4 < (((rd_T83 l0_0 x3_2).f0).length : Int) := of_decide_eq_true (by first | (with_reducible assumption) | assumption)
                  obtain ⟨ad104, e104, hx104_0, hx104_1⟩ := at_T84 HR102_0.out x5_4 p104 q104
                  obtain rfl : ad103 = ad104 := (by injection e104)
                  replace hx104_0 := (HB.out.cell (World.block_lt_of_cell? w _ hx104_0)).trans hx104_0
                  replace hx104_1 := (HB.out.cell (World.block_lt_of_cell? w _ hx104_1)).trans hx104_1
                  replace p104 := eq_true p104
                  replace q104 := eq_true q104
                  have p105 : 0 ≤ (x5_4 : Int) := of_decide_eq_true (by first | (with_reducible assumption) | assumption)
                  have q105 : x5_4 < (((rd_T83 l0_0 x3_2).f0).length : Int) := of_decide_eq_true (by first | (with_reducible assumption) | assumption)
                  obtain ⟨ad105, e105, hx105_0, hx105_1⟩ := at_T84 HR102_0.out x5_4 p105 q105
                  obtain rfl : ad103 = ad105 := (by injection e105)
                  replace hx105_0 := (HB.out.cell (World.block_lt_of_cell? w _ hx105_0)).trans hx105_0
                  replace hx105_1 := (HB.out.cell (World.block_lt_of_cell? w _ hx105_1)).trans hx105_1
                  replace p105 := eq_true p105
                  replace q105 := eq_true q105
                  go_wp2
                  go_ret
                  exact ⟨by first | rfl | (simp [errW_none, errW_some] <;> rfl) | (simp [*, errW_none, errW_some] <;> rfl), by repeat (first | (with_reducible first | exact HB.out | apply below_alloc | apply pw_below_drewN | apply below_drew1 | refine below_set ?_ GE101.out) | exact HB.out)⟩
                 ·rw [if_neg c18] at H
                  have c18b0 : decide (((rd_T84 ((rd_T83 l0_0 x3_2).f0) x5_4).f1) < 0) = false := decide_eq_false c18
                  clear c18
                  by_cases c19 : ((rd_T84 ((rd_T83 l0_0 x3_2).f0) x5_4).f1) > 1024
                  ·rw [if_pos c19] at H
                   have c19b0 : decide (1024 < ((rd_T84 ((rd_T83 l0_0 x3_2).f0) x5_4).f1)) = true := decide_eq_true c19
                   clear c19
                   obtain rfl := Option.some.inj H
                   have p103 : 0 ≤ (x5_4 : Int) := of_decide_eq_true (by first | (with_reducible assumption) | assumption)
                   have q103 : x5_4 < (((rd_T83 l0_0 x3_2).f0).length : Int) := of_decide_eq_true (by first | (with_reducible assumption) | assumption)
                   obtain ⟨ad103, e103, hx103_0, hx103_1⟩ := at_T84 HR102_0.out x5_4 p103 q103
                   cases e103
                   replace hx103_0 := (HB.out.cell (World.block_lt_of_cell? w _ hx103_0)).trans hx103_0
                   replace hx103_1 := (HB.out.cell (World.block_lt_of_cell? w _ hx103_1)).trans hx103_1
                   replace p103 := eq_true p103
                   replace q103 := eq_true q103
                   have p104 : 0 ≤ (x5_4 : Int) := of_decide_eq_true (by first | (with_reducible assumption) | assumption)
                   have q104 : x5_4 < (((rd_T83 l0_0 x3_2).f0).length : Int) := of_decide_eq_true (by first | (with_reducible assumption) | assumption)
                   obtain ⟨ad104, e104, hx104_0, hx104_1⟩ := at_T84 HR102_0.out x5_4 p104 q104
                   obtain rfl : ad103 = ad104 := (by injection e104)
                   replace hx104_0 := (HB.out.cell (World.block_lt_of_cell? w _ hx104_0)).trans hx104_0
                   replace hx104_1 := (HB.out.cell (World.block_lt_of_cell? w _ hx104_1)).trans hx104_1
                   replace p104 := eq_true p104
                   replace q104 := eq_true q104
                   have p105 : 0 ≤ (x5_4 : Int) := of_decide_eq_true (by first | (with_reducible assumption) | assumption)
                   have q105 : x5_4 < (((rd_T83 l0_0 x3_2).f0).length : Int) := of_decide_eq_true (by first | (with_reducible assumption) | assumption)
                   obtain ⟨ad105, e105, hx105_0, hx105_1⟩ := at_T84 HR102_0.out x5_4 p105 q105
                   obtain rfl : ad103 = ad105 := (by injection e105)
                   replace hx105_0 := (HB.out.cell (World.block_lt_of_cell? w _ hx105_0)).trans hx105_0
                   replace hx105_1 := (HB.out.cell (World.block_lt_of_cell? w _ hx105_1)).trans hx105_1
                   replace p105 := eq_true p105
                   replace q105 := eq_true q105
                   have p106 : 0 ≤ (x5_4 : Int) := of_decide_eq_true (by first | (with_reducible assumption) | assumption)
                   have q106 : x5_4 < (((rd_T83 l0_0 x3_2).f0).length : Int) := of_decide_eq_true (by first | (with_reducible assumption) | assumption)
                   obtain ⟨ad106, e106, hx106_0, hx106_1⟩ := at_T84 HR102_0.out x5_4 p106 q106
                   obtain rfl : ad103 = ad106 := (by injection e106)
                   replace hx106_0 := (HB.out.cell (World.block_lt_of_cell? w _ hx106_0)).trans hx106_0
                   replace hx106_1 := (HB.out.cell (World.block_lt_of_cell? w _ hx106_1)).trans hx106_1
                   replace p106 := eq_true p106
                   replace q106 := eq_true q106
                   go_wp2
                   go_ret
                   exact ⟨by first | rfl | (simp [errW_none, errW_some] <;> rfl) | (simp [*, errW_none, errW_some] <;> rfl), by repeat (first | (with_reducible first | exact HB.out | apply below_alloc | apply pw_below_drewN | apply below_drew1 | refine below_set ?_ GE101.out) | exact HB.out)⟩
                  ·rw [if_neg c19] at H
                   have c19b0 : decide (1024 < ((rd_T84 ((rd_T83 l0_0 x3_2).f0) x5_4).f1)) = false := decide_eq_false c19
                   clear c19
                   have H' := Aside0.mk H
                   clear H
                   have p103 : 0 ≤ (x5_4 : Int) := of_decide_eq_true (by first | (with_reducible assumption) | assumption)
                   have q103 : x5_4 < (((rd_T83 l0_0 x3_2).f0).length : Int) := of_decide_eq_true (by first | (with_reducible assumption) | assumption)
                   obtain ⟨ad103, e103, hx103_0, hx103_1⟩ := at_T84 HR102_0.out x5_4 p103 q103
                   cases e103
                   replace hx103_0 := (HB.out.cell (World.block_lt_of_cell? w _ hx103_0)).trans hx103_0
                   replace hx103_1 := (HB.out.cell (World.block_lt_of_cell? w _ hx103_1)).trans hx103_1
                   replace p103 := eq_true p103
                   replace q103 := eq_true q103
                   have p104 : 0 ≤ (x5_4 : Int) := of_decide_eq_true (by first | (with_reducible assumption) | assumption)
                   have q104 : x5_4 < (((rd_T83 l0_0 x3_2).f0).length : Int) := of_decide_eq_true (by first | (with_reducible assumption) | assumption)
                   obtain ⟨ad104, e104, hx104_0, hx104_1⟩ := at_T84 HR102_0.out x5_4 p104 q104
                   obtain rfl : ad103 = ad104 := (by injection e104)
                   replace hx104_0 := (HB.out.cell (World.block_lt_of_cell? w _ hx104_0)).trans hx104_0
                   replace hx104_1 := (HB.out.cell (World.block_lt_of_cell? w _ hx104_1)).trans hx104_1
                   replace p104 := eq_true p104
                   replace q104 := eq_true q104
                   have p105 : 0 ≤ (x5_4 : Int) := of_decide_eq_true (by first | (with_reducible assumption) | assumption)
                   have q105 : x5_4 < (((rd_T83 l0_0 x3_2).f0).length : Int) := of_decide_eq_true (by first | (with_reducible assumption) | assumption)
                   obtain ⟨ad105, e105, hx105_0, hx105_1⟩ := at_T84 HR102_0.out x5_4 p105 q105
                   obtain rfl : ad103 = ad105 := (by injection e105)
                   replace hx105_0 := (HB.out.cell (World.block_lt_of_cell? w _ hx105_0)).trans hx105_0
                   replace hx105_1 := (HB.out.cell (World.block_lt_of_cell? w _ hx105_1)).trans hx105_1
                   replace p105 := eq_true p105
                   replace q105 := eq_true q105
                   have p106 : 0 ≤ (x5_4 : Int) := of_decide_eq_true (by first | (with_reducible assumption) | assumption)
                   have q106 : x5_4 < (((rd_T83 l0_0 x3_2).f0).length : Int) := of_decide_eq_true (by first | (with_reducible assumption) | assumption)
                   obtain ⟨ad106, e106, hx106_0, hx106_1⟩ := at_T84 HR102_0.out x5_4 p106 q106
                   obtain rfl : ad103 = ad106 := (by injection e106)
                   replace hx106_0 := (HB.out.cell (World.block_lt_of_cell? w _ hx106_0)).trans hx106_0
                   replace hx106_1 := (HB.out.cell (World.block_lt_of_cell? w _ hx106_1)).trans hx106_1
                   replace p106 := eq_true p106
                   replace q106 := eq_true q106
                   go_wp2
                   go_roundg k4
                   case measure => have := HJ1.out; have := HK2.out; have := HJ9.out; have := HK4.out; omega
                   case rel => exact ⟨(wrap64 (x5_4 + 1)), (by first | rfl | (simp; done) | (simp [*]; done)), H', ⟨by have := HJ1.out; have := HK2.out; have := HJ9.out; have := HK4.out; omega⟩, ⟨by (with_reducible repeat (first | refine blk_drewN ?_ _ | refine blk_drew ?_ | refine blk_alloc ?_ _)); exact BK101.out⟩, ⟨by repeat (first | (with_reducible first | exact HB.out | apply below_alloc | apply pw_below_drewN | apply below_drew1 | refine below_set ?_ GE101.out) | exact HB.out)⟩⟩
              ·rw [if_neg c15] at H
               exact absurd H (by simp)
             ·rw [if_neg c14] at H
              have c14b0 : decide (x5_4 < (((rd_T83 l0_0 x3_2).f0).length : Int)) = false := decide_eq_false c14
              clear c14
              have H' := Aside0.mk H
              clear H
              go_wp2
              go_roundg k4
              case measure => have := HJ1.out; have := HK2.out; have := HJ9.out; have := HK4.out; omega
              case rel => exact ⟨(wrap64 (x3_2 + 1)), (by first | rfl | (simp; done) | (simp [*]; done)), H', ⟨by have := HJ1.out; have := HK2.out; have := HJ9.out; have := HK4.out; omega⟩, ⟨by (with_reducible repeat (first | refine blk_drewN ?_ _ | refine blk_drew ?_ | refine blk_alloc ?_ _)); exact BK101.out⟩, ⟨by repeat (first | (with_reducible first | exact HB.out | apply below_alloc | apply pw_below_drewN | apply below_drew1 | refine below_set ?_ GE101.out) | exact HB.out)⟩⟩
       ·rw [if_neg c9] at H
        exact absurd H (by simp)
      ·rw [if_neg c8] at H
       have c8b0 : decide (x3_2 < (l0_0.length : Int)) = false := decide_eq_false c8
       clear c8
       obtain rfl := Option.some.inj H
       have hcz20_0 : wr.cell? ⟨gb101, 0, none⟩ = some (.slice A0_0 l0_0.length c0_0) := (blk_cell BK101.out 0).trans rfl
       have hfz20_0 := blk_frozen BK101.out 0
       go_wp2
       go_ret
       exact ⟨by first | rfl | (simp [errW_none, errW_some] <;> rfl) | (simp [*, errW_none, errW_some] <;> rfl), by repeat (first | (with_reducible first | exact HB.out | apply below_alloc | apply pw_below_drewN | apply below_drew1 | refine below_set ?_ GE101.out) | exact HB.out)⟩
end Go.Proofs.Ytpedlompipabdaa.P
namespace Go.Proofs.Ytpedlompipabdaa.P
open Go.RowKit Go.Proofs.YtpedlompipabdaaW.PrintWords Go.Proofs.YtpedlompipabdaaW.PrintLast Go.Proofs.YtpedlompipabdaaW.PrintMore
attribute [local go_sem] max2_int min2_int max_two min_two max_three min_three max_four min_four
set_option linter.unusedVariables false
set_option linter.unusedSimpArgs false
def ensembleref06_may.f (a0_0 : Int) (a0_1 : Int) : Option (Bool) := if a0_0 ≥ 0 then (if a0_0 ≤ 1048576 then (if a0_1 ≥ 0 then (some (decide (a0_1 ≤ 1048576))) else (some false)) else (some false)) else (some false)
set_option maxHeartbeats 8000000 in
set_option maxRecDepth 100000 in
theorem ensembleref06_may.calls (a0_0 : Int) (a0_1 : Int) (r : Bool) (w : World) (h : ensembleref06_may.f a0_0 a0_1 = some r) :
  Calls Try.prog 30 #[.agg #[.int .i64 a0_0, .int .i64 a0_1]] w fun e w' => e = .returned (.bool r) ∧ Below w.heap.size w w' := by
 have hu49 := Try.underlying49
 have HB := Aside0.mk (Below.refl w.heap.size w)
 have H : (if a0_0 ≥ 0 then (if a0_0 ≤ 1048576 then (if a0_1 ≥ 0 then (some (decide (a0_1 ≤ 1048576))) else (some false)) else (some false)) else (some false)) = some r := h
 clear h
 by_cases c2 : a0_0 ≥ 0
 ·rw [if_pos c2] at H
  have c2b0 : decide (0 ≤ a0_0) = true := decide_eq_true c2
  clear c2
  by_cases c3 : a0_0 ≤ 1048576
  ·rw [if_pos c3] at H
   have c3b0 : decide (a0_0 ≤ 1048576) = true := decide_eq_true c3
   clear c3
   by_cases c4 : a0_1 ≥ 0
   ·rw [if_pos c4] at H
    have c4b0 : decide (0 ≤ a0_1) = true := decide_eq_true c4
    clear c4
    obtain rfl := Option.some.inj H
    go_enter Try.func30, Try.ntmps30
    go_wp2_with (first | ((with_reducible refine gate_dst (N := 1) rfl ?_); refine box_event ?hg (N := 1) ?hd (cs := #[.int .i64 a0_0, .int .i64 a0_1]) (t := 49) ?hr ?_; (case hd => rfl); (case hg => rfl); (case hr => first | (go_simp; done) | (go_simp; rfl)); intro gb107 hg w5 hbox hb; have n0_ := Aside0.mk (below_step (by repeat (first | (with_reducible first | exact HB.out | apply below_alloc | apply pw_below_drewN | apply below_drew1) | exact HB.out)) hb); have n1_ := Aside0.mk (hbox); have n2_ := Aside0.mk ((by rw [hg]; exact (below_size (by repeat (first | (with_reducible first | exact HB.out | apply below_alloc | apply pw_below_drewN | apply below_drew1) | exact HB.out))) : w.heap.size ≤ gb107)); have n3_ := Aside0.mk ((by rw [hg]; exact (below_size (by repeat (first | (with_reducible first | exact HB.out | apply below_alloc | apply pw_below_drewN | apply below_drew1) | exact HB.out))) : w.heap.size ≤ gb107)); clear HB; have HB := n0_; have BK107 := n1_; have GW107 := n2_; have GE107 := n3_; clear n0_ n1_ n2_ n3_; clear hb hbox hg; have hcz6_0 : w5.cell? ⟨gb107, 0, none⟩ = some (.int .i64 a0_0) := (blk_cell BK107.out 0).trans rfl; have hcz6_1 : w5.cell? ⟨gb107, 1, none⟩ = some (.int .i64 a0_1) := (blk_cell BK107.out 1).trans rfl; have hfz6_0 := blk_frozen BK107.out 0; have hfz6_1 := blk_frozen BK107.out 1))
    go_ret
    exact ⟨by first | rfl | (simp [errW_none, errW_some] <;> rfl) | (simp [*, errW_none, errW_some] <;> rfl), by repeat (first | (with_reducible first | exact HB.out | apply below_alloc | apply pw_below_drewN | apply below_drew1 | refine below_set ?_ GE107.out) | exact HB.out)⟩
   ·rw [if_neg c4] at H
    have c4b0 : decide (0 ≤ a0_1) = false := decide_eq_false c4
    clear c4
    obtain rfl := Option.some.inj H
    go_enter Try.func30, Try.ntmps30
    go_wp2_with (first | ((with_reducible refine gate_dst (N := 1) rfl ?_); refine box_event ?hg (N := 1) ?hd (cs := #[.int .i64 a0_0, .int .i64 a0_1]) (t := 49) ?hr ?_; (case hd => rfl); (case hg => rfl); (case hr => first | (go_simp; done) | (go_simp; rfl)); intro gb107 hg w7 hbox hb; have n0_ := Aside0.mk (below_step (by repeat (first | (with_reducible first | exact HB.out | apply below_alloc | apply pw_below_drewN | apply below_drew1) | exact HB.out)) hb); have n1_ := Aside0.mk (hbox); have n2_ := Aside0.mk ((by rw [hg]; exact (below_size (by repeat (first | (with_reducible first | exact HB.out | apply below_alloc | apply pw_below_drewN | apply below_drew1) | exact HB.out))) : w.heap.size ≤ gb107)); have n3_ := Aside0.mk ((by rw [hg]; exact (below_size (by repeat (first | (with_reducible first | exact HB.out | apply below_alloc | apply pw_below_drewN | apply below_drew1) | exact HB.out))) : w.heap.size ≤ gb107)); clear HB; have HB := n0_; have BK107 := n1_; have GW107 := n2_; have GE107 := n3_; clear n0_ n1_ n2_ n3_; clear hb hbox hg; have hcz8_0 : w7.cell? ⟨gb107, 0, none⟩ = some (.int .i64 a0_0) := (blk_cell BK107.out 0).trans rfl; have hcz8_1 : w7.cell? ⟨gb107, 1, none⟩ = some (.int .i64 a0_1) := (blk_cell BK107.out 1).trans rfl; have hfz8_0 := blk_frozen BK107.out 0; have hfz8_1 := blk_frozen BK107.out 1))
    go_ret
    exact ⟨by first | rfl | (simp [errW_none, errW_some] <;> rfl) | (simp [*, errW_none, errW_some] <;> rfl), by repeat (first | (with_reducible first | exact HB.out | apply below_alloc | apply pw_below_drewN | apply below_drew1 | refine below_set ?_ GE107.out) | exact HB.out)⟩
  ·rw [if_neg c3] at H
   have c3b0 : decide (a0_0 ≤ 1048576) = false := decide_eq_false c3
   clear c3
   obtain rfl := Option.some.inj H
   go_enter Try.func30, Try.ntmps30
   go_wp2_with (first | ((with_reducible refine gate_dst (N := 1) rfl ?_); refine box_event ?hg (N := 1) ?hd (cs := #[.int .i64 a0_0, .int .i64 a0_1]) (t := 49) ?hr ?_; (case hd => rfl); (case hg => rfl); (case hr => first | (go_simp; done) | (go_simp; rfl)); intro gb107 hg w9 hbox hb; have n0_ := Aside0.mk (below_step (by repeat (first | (with_reducible first | exact HB.out | apply below_alloc | apply pw_below_drewN | apply below_drew1) | exact HB.out)) hb); have n1_ := Aside0.mk (hbox); have n2_ := Aside0.mk ((by rw [hg]; exact (below_size (by repeat (first | (with_reducible first | exact HB.out | apply below_alloc | apply pw_below_drewN | apply below_drew1) | exact HB.out))) : w.heap.size ≤ gb107)); have n3_ := Aside0.mk ((by rw [hg]; exact (below_size (by repeat (first | (with_reducible first | exact HB.out | apply below_alloc | apply pw_below_drewN | apply below_drew1) | exact HB.out))) : w.heap.size ≤ gb107)); clear HB; have HB := n0_; have BK107 := n1_; have GW107 := n2_; have GE107 := n3_; clear n0_ n1_ n2_ n3_; clear hb hbox hg; have hcz10_0 : w9.cell? ⟨gb107, 0, none⟩ = some (.int .i64 a0_0) := (blk_cell BK107.out 0).trans rfl; have hcz10_1 : w9.cell? ⟨gb107, 1, none⟩ = some (.int .i64 a0_1) := (blk_cell BK107.out 1).trans rfl; have hfz10_0 := blk_frozen BK107.out 0; have hfz10_1 := blk_frozen BK107.out 1))
   go_ret
   exact ⟨by first | rfl | (simp [errW_none, errW_some] <;> rfl) | (simp [*, errW_none, errW_some] <;> rfl), by repeat (first | (with_reducible first | exact HB.out | apply below_alloc | apply pw_below_drewN | apply below_drew1 | refine below_set ?_ GE107.out) | exact HB.out)⟩
 ·rw [if_neg c2] at H
  have c2b0 : decide (0 ≤ a0_0) = false := decide_eq_false c2
  clear c2
  obtain rfl := Option.some.inj H
  go_enter Try.func30, Try.ntmps30
  go_wp2_with (first | ((with_reducible refine gate_dst (N := 1) rfl ?_); refine box_event ?hg (N := 1) ?hd (cs := #[.int .i64 a0_0, .int .i64 a0_1]) (t := 49) ?hr ?_; (case hd => rfl); (case hg => rfl); (case hr => first | (go_simp; done) | (go_simp; rfl)); intro gb107 hg w11 hbox hb; have n0_ := Aside0.mk (below_step (by repeat (first | (with_reducible first | exact HB.out | apply below_alloc | apply pw_below_drewN | apply below_drew1) | exact HB.out)) hb); have n1_ := Aside0.mk (hbox); have n2_ := Aside0.mk ((by rw [hg]; exact (below_size (by repeat (first | (with_reducible first | exact HB.out | apply below_alloc | apply pw_below_drewN | apply below_drew1) | exact HB.out))) : w.heap.size ≤ gb107)); have n3_ := Aside0.mk ((by rw [hg]; exact (below_size (by repeat (first | (with_reducible first | exact HB.out | apply below_alloc | apply pw_below_drewN | apply below_drew1) | exact HB.out))) : w.heap.size ≤ gb107)); clear HB; have HB := n0_; have BK107 := n1_; have GW107 := n2_; have GE107 := n3_; clear n0_ n1_ n2_ n3_; clear hb hbox hg; have hcz12_0 : w11.cell? ⟨gb107, 0, none⟩ = some (.int .i64 a0_0) := (blk_cell BK107.out 0).trans rfl; have hcz12_1 : w11.cell? ⟨gb107, 1, none⟩ = some (.int .i64 a0_1) := (blk_cell BK107.out 1).trans rfl; have hfz12_0 := blk_frozen BK107.out 0; have hfz12_1 := blk_frozen BK107.out 1))
  go_ret
  exact ⟨by first | rfl | (simp [errW_none, errW_some] <;> rfl) | (simp [*, errW_none, errW_some] <;> rfl), by repeat (first | (with_reducible first | exact HB.out | apply below_alloc | apply pw_below_drewN | apply below_drew1 | refine below_set ?_ GE107.out) | exact HB.out)⟩
end Go.Proofs.Ytpedlompipabdaa.P
namespace Go.Proofs.Ytpedlompipabdaa.P
open Go.RowKit Go.Proofs.YtpedlompipabdaaW.PrintWords Go.Proofs.YtpedlompipabdaaW.PrintLast Go.Proofs.YtpedlompipabdaaW.PrintMore
attribute [local go_sem] max2_int min2_int max_two min_two max_three min_three max_four min_four
set_option linter.unusedVariables false
set_option linter.unusedSimpArgs false
mutual
def ensembleref06_Right.j0 : Nat → List (S49) → Bool → Option (Bool)
 | 0, _, _ => none
 | k + 1, x0, x11 => if x11 = true then (some false) else (ensembleref06_Right.l0 k x0 0)
def ensembleref06_Right.l0 : Nat → List (S49) → Int → Option (Bool)
 | 0, _, _ => none
 | k + 1, x0, x3 => if x3 < (x0.length : Int) then (if 0 ≤ x3 then ((ensembleref06_may.f ((rd_T49 x0 x3).f0) ((rd_T49 x0 x3).f1)).bind fun t109 => (if t109 = true then (ensembleref06_Right.l0 k x0 (wrap64 (x3 + 1))) else (some false))) else (none)) else (some true)
end
def ensembleref06_Right.f (k : Nat) (l0 : List (S49)) : Option (Bool) := if (l0.length : Int) < 1 then (ensembleref06_Right.j0 k l0 true) else (ensembleref06_Right.j0 k l0 (decide ((l0.length : Int) > 8)))
theorem ensembleref06_Right.mono_l : ∀ k, (∀ y0 y1, LeO (ensembleref06_Right.j0 k y0 y1) (ensembleref06_Right.j0 (k + 1) y0 y1)) ∧ (∀ y0 y1, LeO (ensembleref06_Right.l0 k y0 y1) (ensembleref06_Right.l0 (k + 1) y0 y1))
 | 0 => ⟨fun _ _ r h => by simp [ensembleref06_Right.j0] at h, fun _ _ r h => by simp [ensembleref06_Right.l0] at h⟩
 | k + 1 => by
  obtain ⟨ih0, ih1⟩ := ensembleref06_Right.mono_l k
  refine ⟨?_, ?_⟩
  ·intro y0 y1
   unfold ensembleref06_Right.j0
   repeat' first
   | (with_reducible exact ih0 _ _)
   | (with_reducible exact ih1 _ _)
   | (with_reducible exact LeO.refl _)
   | (with_reducible exact LeO.none _)
   | (with_reducible refine LeO.ite ?_ ?_)
   | (with_reducible refine LeO.bind ?_ (fun _ => ?_))
   | exact ih0 _ _
   | exact ih1 _ _
   | exact LeO.none _
   | refine LeO.ite ?_ ?_
   | refine LeO.bind ?_ (fun _ => ?_)
  ·intro y0 y1
   unfold ensembleref06_Right.l0
   repeat' first
   | (with_reducible exact ih0 _ _)
   | (with_reducible exact ih1 _ _)
   | (with_reducible exact LeO.refl _)
   | (with_reducible exact LeO.none _)
   | (with_reducible refine LeO.ite ?_ ?_)
   | (with_reducible refine LeO.bind ?_ (fun _ => ?_))
   | exact ih0 _ _
   | exact ih1 _ _
   | exact LeO.none _
   | refine LeO.ite ?_ ?_
   | refine LeO.bind ?_ (fun _ => ?_)
theorem ensembleref06_Right.mono : ∀ a0 k, LeO (ensembleref06_Right.f k a0) (ensembleref06_Right.f (k + 1) a0) := by
 intro a0 k
 obtain ⟨ih0, ih1⟩ := ensembleref06_Right.mono_l k
 unfold ensembleref06_Right.f
 repeat' first
   | (with_reducible exact ih0 _ _)
   | (with_reducible exact ih1 _ _)
   | (with_reducible exact LeO.refl _)
   | (with_reducible exact LeO.none _)
   | (with_reducible refine LeO.ite ?_ ?_)
   | (with_reducible refine LeO.bind ?_ (fun _ => ?_))
   | exact ih0 _ _
   | exact ih1 _ _
   | exact LeO.none _
   | refine LeO.ite ?_ ?_
   | refine LeO.bind ?_ (fun _ => ?_)
set_option maxHeartbeats 8000000 in
set_option maxRecDepth 100000 in
theorem ensembleref06_Right.calls (k : Nat) (A0 : Option Addr) (c0 : Nat) (l0 : List (S49)) (r : Bool) (w : World) (hr0 : Kd.C k49 w A0 l0.length l0) (hc0 : l0.length ≤ c0) (h : ensembleref06_Right.f k l0 = some r) :
  Calls Try.prog 15 #[.slice A0 l0.length c0] w fun e w' => e = .returned (.bool r) ∧ Below w.heap.size w w' := by
 have hu49 := Try.underlying49
 have HR0 := Aside0.mk hr0
 have HC0 := Aside0.mk hc0
 clear hr0 hc0
 have HB := Aside0.mk (Below.refl w.heap.size w)
 have H : (if (l0.length : Int) < 1 then (ensembleref06_Right.j0 k l0 true) else (ensembleref06_Right.j0 k l0 (decide ((l0.length : Int) > 8)))) = some r := h
 clear h
 have HC2 := Aside0.mk H
 clear H
 go_enter Try.func15, Try.ntmps15
 go_upto_region 1 with (fail)
 go_cut [11] (fun v11 wc => ∃ (kq : Nat) (x11_1 : Bool), v11 = .bool x11_1 ∧ Aside0 (ensembleref06_Right.j0 kq l0 x11_1 = some r) ∧ Aside0 (kq ≤ k) ∧ Aside0 (Below w.heap.size w wc))
 case first =>
  have H := HC2.out
  clear HC2
  by_cases c3 : (l0.length : Int) < 1
  ·rw [if_pos c3] at H
   have c3b0 : decide ((l0.length : Int) < 1) = true := decide_eq_true c3
   have c3b1 : decide (l0.length < 1) = true := decide_eq_true (by omega)
   clear c3
   (first | rw [c3b0] | (simp only [i64_w, i32_w]; rw [c3b0]) | skip)
   have H' := Aside0.mk H
   clear H
   go_wp2
   go_meet
   case rel => exact ⟨_, (true), (by first | rfl | (simp; done) | (simp [*]; done)), H', ⟨by first | omega | exact Nat.le_refl _⟩, ⟨by repeat (first | (with_reducible first | exact HB.out | apply below_alloc | apply pw_below_drewN | apply below_drew1) | exact HB.out)⟩⟩
  ·rw [if_neg c3] at H
   have c3b0 : decide ((l0.length : Int) < 1) = false := decide_eq_false c3
   have c3b1 : decide (l0.length < 1) = false := decide_eq_false (by omega)
   clear c3
   (first | rw [c3b0] | (simp only [i64_w, i32_w]; rw [c3b0]) | skip)
   have H' := Aside0.mk H
   clear H
   go_wp2
   go_meet
   case rel => exact ⟨_, (decide ((l0.length : Int) > 8)), (by first | rfl | (simp; done) | (simp [*]; done)), H', ⟨by first | omega | exact Nat.le_refl _⟩, ⟨by repeat (first | (with_reducible first | exact HB.out | apply below_alloc | apply pw_below_drewN | apply below_drew1) | exact HB.out)⟩⟩
 case rest =>
  clear HC2
  try clear c1
  try clear p2
  try clear c3
  try clear c3b0
  try clear c3b1
  obtain ⟨kq, x11_1, rfl, HA, HJ1, HB⟩ := hcut
  cases kq with
  | zero => exact absurd HA.out (by simp [ensembleref06_Right.j0])
  | succ kj1 =>
   have H := HA.out
   clear HA
   simp only [ensembleref06_Right.j0] at H
   by_cases c4 : x11_1 = true
   ·subst c4
    have H1 : (some false) = some r := by rw [if_pos rfl] at H; exact H
    clear H
    have H := H1
    clear H1
    obtain rfl := Option.some.inj H
    go_wp2
    go_ret
    exact ⟨by first | rfl | (simp [errW_none, errW_some] <;> rfl) | (simp [*, errW_none, errW_some] <;> rfl), by repeat (first | (with_reducible first | exact HB.out | apply below_alloc | apply pw_below_drewN | apply below_drew1) | exact HB.out)⟩
   ·replace c4 := Bool.eq_false_iff.mpr c4
    subst c4
    have H1 : (ensembleref06_Right.l0 kj1 l0 0) = some r := by rw [if_neg (show ¬ (false = true) by decide)] at H; exact H
    clear H
    have H := H1
    clear H1
    have H' := Aside0.mk H
    clear H
    go_wp2
    go_loopg [3] kj1 (fun kq v3 w' => ∃ (x3_2 : Int), v3 = .int .i64 x3_2 ∧ Aside0 (ensembleref06_Right.l0 kq l0 x3_2 = some r) ∧ Aside0 (kq ≤ kj1) ∧ Aside0 (Below w.heap.size w w'))
    case atStart => exact ⟨(0), (by first | rfl | (simp; done) | (simp [*]; done)), H', ⟨Nat.le_refl _⟩, ⟨by repeat (first | (with_reducible first | exact HB.out | apply below_alloc | apply pw_below_drewN | apply below_drew1) | exact HB.out)⟩⟩
    case round =>
     clear H'
     try clear c1
     try clear p2
     try clear c3
     try clear c3b0
     try clear c3b1
     try clear c4
     try clear p2
     obtain ⟨x3_2, rfl, HA, HK2, HB⟩ := hrel
     cases gk with
     | zero => exact absurd HA.out (by simp [ensembleref06_Right.l0])
     | succ k2 =>
      have H := HA.out
      clear HA
      simp only [ensembleref06_Right.l0] at H
      by_cases c5 : x3_2 < (l0.length : Int)
      ·rw [if_pos c5] at H
       have c5b0 : decide (x3_2 < (l0.length : Int)) = true := decide_eq_true c5
       clear c5
       by_cases c6 : 0 ≤ x3_2
       ·rw [if_pos c6] at H
        have c6b0 : decide (0 ≤ x3_2) = true := decide_eq_true c6
        clear c6
        replace H := Option.bind_eq_some_iff.mp H
        obtain ⟨t109, A70, H⟩ := H
        replace H : (if t109 = true then (ensembleref06_Right.l0 k2 l0 (wrap64 (x3_2 + 1))) else (some false)) = some r := H
        have A7 := Aside0.mk A70
        clear A70
        by_cases c8 : t109 = true
        ·subst c8
         have H1 : (ensembleref06_Right.l0 k2 l0 (wrap64 (x3_2 + 1))) = some r := by rw [if_pos rfl] at H; exact H
         clear H
         have H := H1
         clear H1
         have H' := Aside0.mk H
         clear H
         have p108 : 0 ≤ (x3_2 : Int) := of_decide_eq_true (by first | (with_reducible assumption) | assumption)
         have q108 : x3_2 < (l0.length : Int) := of_decide_eq_true (by first | (with_reducible assumption) | assumption)
         obtain ⟨ad108, e108, hx108_0, hx108_1⟩ := at_T49 HR0.out x3_2 p108 q108
         cases e108
         replace hx108_0 := (HB.out.cell (World.block_lt_of_cell? w _ hx108_0)).trans hx108_0
         replace hx108_1 := (HB.out.cell (World.block_lt_of_cell? w _ hx108_1)).trans hx108_1
         replace p108 := eq_true p108
         replace q108 := eq_true q108
         go_wp2_with (first | ((with_reducible refine gate_callee (f := 30) rfl ?_); refine goesL_ (some 22) rfl rfl Try.func30 (by kernel_rfl) rfl #[.agg #[.int .i64 ((rd_T49 l0 x3_2).f0), .int .i64 ((rd_T49 l0 x3_2).f1)]] rfl (by (try simp only [List.map_toArray, List.map_cons, List.map_nil]); first | done | rfl | (simp only [List.length_drop, List.length_take]; rfl)) ?_; (with_reducible refine (ensembleref06_may.calls ((rd_T49 l0 x3_2).f0) ((rd_T49 l0 x3_2).f1) true _ A7.out).mono ?_); rintro e w9 ⟨rfl, hb⟩; refine ⟨_, rfl, ?_⟩; have n0_ := Aside0.mk (below_step (by repeat (first | (with_reducible first | exact HB.out | apply below_alloc | apply pw_below_drewN | apply below_drew1) | exact HB.out)) hb); clear HB; have HB := n0_; clear n0_; (try clear hb); (try clear hb2); (try clear hk); (try clear hi)))
         go_roundg k2
         case measure => have := HJ1.out; have := HK2.out; omega
         case rel => exact ⟨(wrap64 (x3_2 + 1)), (by first | rfl | (simp; done) | (simp [*]; done)), H', ⟨by have := HJ1.out; have := HK2.out; omega⟩, ⟨by repeat (first | (with_reducible first | exact HB.out | apply below_alloc | apply pw_below_drewN | apply below_drew1) | exact HB.out)⟩⟩
        ·replace c8 := Bool.eq_false_iff.mpr c8
         subst c8
         have H1 : (some false) = some r := by rw [if_neg (show ¬ (false = true) by decide)] at H; exact H
         clear H
         have H := H1
         clear H1
         obtain rfl := Option.some.inj H
         have p108 : 0 ≤ (x3_2 : Int) := of_decide_eq_true (by first | (with_reducible assumption) | assumption)
         have q108 : x3_2 < (l0.length : Int) := of_decide_eq_true (by first | (with_reducible assumption) | assumption)
         obtain ⟨ad108, e108, hx108_0, hx108_1⟩ := at_T49 HR0.out x3_2 p108 q108
         cases e108
         replace hx108_0 := (HB.out.cell (World.block_lt_of_cell? w _ hx108_0)).trans hx108_0
         replace hx108_1 := (HB.out.cell (World.block_lt_of_cell? w _ hx108_1)).trans hx108_1
         replace p108 := eq_true p108
         replace q108 := eq_true q108
         go_wp2_with (first | ((with_reducible refine gate_callee (f := 30) rfl ?_); refine goesL_ (some 22) rfl rfl Try.func30 (by kernel_rfl) rfl #[.agg #[.int .i64 ((rd_T49 l0 x3_2).f0), .int .i64 ((rd_T49 l0 x3_2).f1)]] rfl (by (try simp only [List.map_toArray, List.map_cons, List.map_nil]); first | done | rfl | (simp only [List.length_drop, List.length_take]; rfl)) ?_; (with_reducible refine (ensembleref06_may.calls ((rd_T49 l0 x3_2).f0) ((rd_T49 l0 x3_2).f1) false _ A7.out).mono ?_); rintro e w10 ⟨rfl, hb⟩; refine ⟨_, rfl, ?_⟩; have n0_ := Aside0.mk (below_step (by repeat (first | (with_reducible first | exact HB.out | apply below_alloc | apply pw_below_drewN | apply below_drew1) | exact HB.out)) hb); clear HB; have HB := n0_; clear n0_; (try clear hb); (try clear hb2); (try clear hk); (try clear hi)))
         go_ret
         exact ⟨by first | rfl | (simp [errW_none, errW_some] <;> rfl) | (simp [*, errW_none, errW_some] <;> rfl), by repeat (first | (with_reducible first | exact HB.out | apply below_alloc | apply pw_below_drewN | apply below_drew1) | exact HB.out)⟩
       ·rw [if_neg c6] at H
        exact absurd H (by simp)
      ·rw [if_neg c5] at H
       have c5b0 : decide (x3_2 < (l0.length : Int)) = false := decide_eq_false c5
       clear c5
       obtain rfl := Option.some.inj H
       go_wp2
       go_ret
       exact ⟨by first | rfl | (simp [errW_none, errW_some] <;> rfl) | (simp [*, errW_none, errW_some] <;> rfl), by repeat (first | (with_reducible first | exact HB.out | apply below_alloc | apply pw_below_drewN | apply below_drew1) | exact HB.out)⟩
end Go.Proofs.Ytpedlompipabdaa.P
namespace Go.Proofs.Ytpedlompipabdaa.P
open Go.RowKit Go.Proofs.YtpedlompipabdaaW.PrintWords Go.Proofs.YtpedlompipabdaaW.PrintLast Go.Proofs.YtpedlompipabdaaW.PrintMore
attribute [local go_sem] max2_int min2_int max_two min_two max_three min_three max_four min_four
set_option linter.unusedVariables false
set_option linter.unusedSimpArgs false
mutual
def ensembleref10_Right.j0 : Nat → List Int → Bool → Option (Bool)
 | 0, _, _ => none
 | k + 1, x0, x11 => if x11 = true then (some false) else (ensembleref10_Right.l0 k x0 0)
def ensembleref10_Right.l0 : Nat → List Int → Int → Option (Bool)
 | 0, _, _ => none
 | k + 1, x0, x3 => if x3 < (x0.length : Int) then (if 0 ≤ x3 then (if (rd x0 x3) < 0 then (some false) else (if (rd x0 x3) > 16 then (some false) else (ensembleref10_Right.l0 k x0 (wrap64 (x3 + 1))))) else (none)) else (some true)
end
def ensembleref10_Right.f (k : Nat) (l0 : List Int) : Option (Bool) := if (l0.length : Int) < 1 then (ensembleref10_Right.j0 k l0 true) else (ensembleref10_Right.j0 k l0 (decide ((l0.length : Int) > 8)))
theorem ensembleref10_Right.mono_l : ∀ k, (∀ y0 y1, LeO (ensembleref10_Right.j0 k y0 y1) (ensembleref10_Right.j0 (k + 1) y0 y1)) ∧ (∀ y0 y1, LeO (ensembleref10_Right.l0 k y0 y1) (ensembleref10_Right.l0 (k + 1) y0 y1))
 | 0 => ⟨fun _ _ r h => by simp [ensembleref10_Right.j0] at h, fun _ _ r h => by simp [ensembleref10_Right.l0] at h⟩
 | k + 1 => by
  obtain ⟨ih0, ih1⟩ := ensembleref10_Right.mono_l k
  refine ⟨?_, ?_⟩
  ·intro y0 y1
   unfold ensembleref10_Right.j0
   repeat' first
   | (with_reducible exact ih0 _ _)
   | (with_reducible exact ih1 _ _)
   | (with_reducible exact LeO.refl _)
   | (with_reducible exact LeO.none _)
   | (with_reducible refine LeO.ite ?_ ?_)
   | (with_reducible refine LeO.bind ?_ (fun _ => ?_))
   | exact ih0 _ _
   | exact ih1 _ _
   | exact LeO.none _
   | refine LeO.ite ?_ ?_
   | refine LeO.bind ?_ (fun _ => ?_)
  ·intro y0 y1
   unfold ensembleref10_Right.l0
   repeat' first
   | (with_reducible exact ih0 _ _)
   | (with_reducible exact ih1 _ _)
   | (with_reducible exact LeO.refl _)
   | (with_reducible exact LeO.none _)
   | (with_reducible refine LeO.ite ?_ ?_)
   | (with_reducible refine LeO.bind ?_ (fun _ => ?_))
   | exact ih0 _ _
   | exact ih1 _ _
   | exact LeO.none _
   | refine LeO.ite ?_ ?_
   | refine LeO.bind ?_ (fun _ => ?_)
theorem ensembleref10_Right.mono : ∀ a0 k, LeO (ensembleref10_Right.f k a0) (ensembleref10_Right.f (k + 1) a0) := by
 intro a0 k
 obtain ⟨ih0, ih1⟩ := ensembleref10_Right.mono_l k
 unfold ensembleref10_Right.f
 repeat' first
   | (with_reducible exact ih0 _ _)
   | (with_reducible exact ih1 _ _)
   | (with_reducible exact LeO.refl _)
   | (with_reducible exact LeO.none _)
   | (with_reducible refine LeO.ite ?_ ?_)
   | (with_reducible refine LeO.bind ?_ (fun _ => ?_))
   | exact ih0 _ _
   | exact ih1 _ _
   | exact LeO.none _
   | refine LeO.ite ?_ ?_
   | refine LeO.bind ?_ (fun _ => ?_)
set_option maxHeartbeats 8000000 in
set_option maxRecDepth 100000 in
theorem ensembleref10_Right.calls (k : Nat) (A0 : Option Addr) (c0 : Nat) (l0 : List Int) (r : Bool) (w : World) (hr0 : Kd.C (Kd.int .i64) w A0 l0.length l0) (hc0 : l0.length ≤ c0) (h : ensembleref10_Right.f k l0 = some r) :
  Calls Try.prog 17 #[.slice A0 l0.length c0] w fun e w' => e = .returned (.bool r) ∧ Drawn0 w w' := by
 have HR0 := Aside0.mk hr0
 have HC0 := Aside0.mk hc0
 clear hr0 hc0
 have H : (if (l0.length : Int) < 1 then (ensembleref10_Right.j0 k l0 true) else (ensembleref10_Right.j0 k l0 (decide ((l0.length : Int) > 8)))) = some r := h
 clear h
 have HC2 := Aside0.mk H
 clear H
 go_enter Try.func17, Try.ntmps17
 go_upto_region 1 with (fail)
 go_cut [11] (fun v11 wc => ∃ (kq : Nat) (x11_1 : Bool), v11 = .bool x11_1 ∧ Aside0 (ensembleref10_Right.j0 kq l0 x11_1 = some r) ∧ Aside0 (kq ≤ k) ∧ Drawn0 w wc)
 case first =>
  have H := HC2.out
  clear HC2
  by_cases c3 : (l0.length : Int) < 1
  ·rw [if_pos c3] at H
   have c3b0 : decide ((l0.length : Int) < 1) = true := decide_eq_true c3
   have c3b1 : decide (l0.length < 1) = true := decide_eq_true (by omega)
   clear c3
   (first | rw [c3b0] | (simp only [i64_w, i32_w]; rw [c3b0]) | skip)
   have H' := Aside0.mk H
   clear H
   go_wp2
   go_meet
   case rel => exact ⟨_, (true), (by first | rfl | (simp; done) | (simp [*]; done)), H', ⟨by first | omega | exact Nat.le_refl _⟩, by repeat (first | exact Drawn0.refl _ | apply Drawn0.step)⟩
  ·rw [if_neg c3] at H
   have c3b0 : decide ((l0.length : Int) < 1) = false := decide_eq_false c3
   have c3b1 : decide (l0.length < 1) = false := decide_eq_false (by omega)
   clear c3
   (first | rw [c3b0] | (simp only [i64_w, i32_w]; rw [c3b0]) | skip)
   have H' := Aside0.mk H
   clear H
   go_wp2
   go_meet
   case rel => exact ⟨_, (decide ((l0.length : Int) > 8)), (by first | rfl | (simp; done) | (simp [*]; done)), H', ⟨by first | omega | exact Nat.le_refl _⟩, by repeat (first | exact Drawn0.refl _ | apply Drawn0.step)⟩
 case rest =>
  clear HC2
  try clear c1
  try clear p2
  try clear c3
  try clear c3b0
  try clear c3b1
  obtain ⟨kq, x11_1, rfl, HA, HJ1, ⟨mc1, rfl⟩⟩ := hcut
  cases kq with
  | zero => exact absurd HA.out (by simp [ensembleref10_Right.j0])
  | succ kj1 =>
   have H := HA.out
   clear HA
   simp only [ensembleref10_Right.j0] at H
   by_cases c4 : x11_1 = true
   ·subst c4
    have H1 : (some false) = some r := by rw [if_pos rfl] at H; exact H
    clear H
    have H := H1
    clear H1
    obtain rfl := Option.some.inj H
    go_wp2
    go_ret
    exact ⟨by first | rfl | (simp; done) | (simp [*]; done), by repeat (first | exact Drawn0.refl _ | apply Drawn0.step)⟩
   ·replace c4 := Bool.eq_false_iff.mpr c4
    subst c4
    have H1 : (ensembleref10_Right.l0 kj1 l0 0) = some r := by rw [if_neg (show ¬ (false = true) by decide)] at H; exact H
    clear H
    have H := H1
    clear H1
    have H' := Aside0.mk H
    clear H
    go_wp2
    go_loopg [3] kj1 (fun kq v3 w' => ∃ (x3_2 : Int), v3 = .int .i64 x3_2 ∧ Aside0 (ensembleref10_Right.l0 kq l0 x3_2 = some r) ∧ Aside0 (kq ≤ kj1) ∧ Drawn0 w w')
    case atStart => exact ⟨(0), (by first | rfl | (simp; done) | (simp [*]; done)), H', ⟨Nat.le_refl _⟩, by repeat (first | exact Drawn0.refl _ | apply Drawn0.step)⟩
    case round =>
     clear H'
     try clear c1
     try clear p2
     try clear c3
     try clear c3b0
     try clear c3b1
     try clear c4
     try clear p2
     obtain ⟨x3_2, rfl, HA, HK2, ⟨m2, rfl⟩⟩ := hrel
     cases gk with
     | zero => exact absurd HA.out (by simp [ensembleref10_Right.l0])
     | succ k2 =>
      have H := HA.out
      clear HA
      simp only [ensembleref10_Right.l0] at H
      by_cases c5 : x3_2 < (l0.length : Int)
      ·rw [if_pos c5] at H
       have c5b0 : decide (x3_2 < (l0.length : Int)) = true := decide_eq_true c5
       clear c5
       by_cases c6 : 0 ≤ x3_2
       ·rw [if_pos c6] at H
        have c6b0 : decide (0 ≤ x3_2) = true := decide_eq_true c6
        clear c6
        by_cases c7 : (rd l0 x3_2) < 0
        ·rw [if_pos c7] at H
         have c7b0 : decide ((rd l0 x3_2) < 0) = true := decide_eq_true c7
         clear c7
         obtain rfl := Option.some.inj H
         have p115 : 0 ≤ (x3_2 : Int) := of_decide_eq_true (by first | (with_reducible assumption) | assumption)
         have q115 : x3_2 < (l0.length : Int) := of_decide_eq_true (by first | (with_reducible assumption) | assumption)
         obtain ⟨ad115, e115, hx115_0⟩ := Kd.at_int HR0.out x3_2 p115 q115
         cases e115
         replace p115 := eq_true p115
         replace q115 := eq_true q115
         go_wp2
         go_ret
         exact ⟨by first | rfl | (simp; done) | (simp [*]; done), by repeat (first | exact Drawn0.refl _ | apply Drawn0.step)⟩
        ·rw [if_neg c7] at H
         have c7b0 : decide ((rd l0 x3_2) < 0) = false := decide_eq_false c7
         clear c7
         by_cases c8 : (rd l0 x3_2) > 16
         ·rw [if_pos c8] at H
          have c8b0 : decide (16 < (rd l0 x3_2)) = true := decide_eq_true c8
          clear c8
          obtain rfl := Option.some.inj H
          have p115 : 0 ≤ (x3_2 : Int) := of_decide_eq_true (by first | (with_reducible assumption) | assumption)
          have q115 : x3_2 < (l0.length : Int) := of_decide_eq_true (by first | (with_reducible assumption) | assumption)
          obtain ⟨ad115, e115, hx115_0⟩ := Kd.at_int HR0.out x3_2 p115 q115
          cases e115
          replace p115 := eq_true p115
          replace q115 := eq_true q115
          have p116 : 0 ≤ (x3_2 : Int) := of_decide_eq_true (by first | (with_reducible assumption) | assumption)
          have q116 : x3_2 < (l0.length : Int) := of_decide_eq_true (by first | (with_reducible assumption) | assumption)
          obtain ⟨ad116, e116, hx116_0⟩ := Kd.at_int HR0.out x3_2 p116 q116
          obtain rfl : ad115 = ad116 := (by injection e116)
          replace p116 := eq_true p116
          replace q116 := eq_true q116
          go_wp2
          go_ret
          exact ⟨by first | rfl | (simp; done) | (simp [*]; done), by repeat (first | exact Drawn0.refl _ | apply Drawn0.step)⟩
         ·rw [if_neg c8] at H
          have c8b0 : decide (16 < (rd l0 x3_2)) = false := decide_eq_false c8
          clear c8
          have H' := Aside0.mk H
          clear H
          have p115 : 0 ≤ (x3_2 : Int) := of_decide_eq_true (by first | (with_reducible assumption) | assumption)
          have q115 : x3_2 < (l0.length : Int) := of_decide_eq_true (by first | (with_reducible assumption) | assumption)
          obtain ⟨ad115, e115, hx115_0⟩ := Kd.at_int HR0.out x3_2 p115 q115
          cases e115
          replace p115 := eq_true p115
          replace q115 := eq_true q115
          have p116 : 0 ≤ (x3_2 : Int) := of_decide_eq_true (by first | (with_reducible assumption) | assumption)
          have q116 : x3_2 < (l0.length : Int) := of_decide_eq_true (by first | (with_reducible assumption) | assumption)
          obtain ⟨ad116, e116, hx116_0⟩ := Kd.at_int HR0.out x3_2 p116 q116
          obtain rfl : ad115 = ad116 := (by injection e116)
          replace p116 := eq_true p116
          replace q116 := eq_true q116
          go_wp2
          go_roundg k2
          case measure => have := HJ1.out; have := HK2.out; omega
          case rel => exact ⟨(wrap64 (x3_2 + 1)), (by first | rfl | (simp; done) | (simp [*]; done)), H', ⟨by have := HJ1.out; have := HK2.out; omega⟩, by repeat (first | exact Drawn0.refl _ | apply Drawn0.step)⟩
       ·rw [if_neg c6] at H
        exact absurd H (by simp)
      ·rw [if_neg c5] at H
       have c5b0 : decide (x3_2 < (l0.length : Int)) = false := decide_eq_false c5
       clear c5
       obtain rfl := Option.some.inj H
       go_wp2
       go_ret
       exact ⟨by first | rfl | (simp; done) | (simp [*]; done), by repeat (first | exact Drawn0.refl _ | apply Drawn0.step)⟩
end Go.Proofs.Ytpedlompipabdaa.P
namespace Go.Proofs.Ytpedlompipabdaa.P
open Go.RowKit Go.Proofs.YtpedlompipabdaaW.PrintWords Go.Proofs.YtpedlompipabdaaW.PrintLast Go.Proofs.YtpedlompipabdaaW.PrintMore
attribute [local go_sem] max2_int min2_int max_two min_two max_three min_three max_four min_four
set_option linter.unusedVariables false
set_option linter.unusedSimpArgs false
def ensembleref16_in.f (a0 : Int) (a1 : Int) (a2 : Int) : Option (Bool) := if a0 ≥ a1 then (some (decide (a0 ≤ a2))) else (some false)
set_option maxHeartbeats 8000000 in
set_option maxRecDepth 100000 in
theorem ensembleref16_in.calls (a0 : Int) (a1 : Int) (a2 : Int) (r : Bool) (w : World) (h : ensembleref16_in.f a0 a1 a2 = some r) :
  Calls Try.prog 19 #[.int .i64 a0, .int .i64 a1, .int .i64 a2] w fun e w' => e = .returned (.bool r) ∧ Drawn0 w w' := by
 have H : (if a0 ≥ a1 then (some (decide (a0 ≤ a2))) else (some false)) = some r := h
 clear h
 by_cases c4 : a0 ≥ a1
 ·rw [if_pos c4] at H
  have c4b0 : decide (a1 ≤ a0) = true := decide_eq_true c4
  clear c4
  obtain rfl := Option.some.inj H
  go_enter Try.func19, Try.ntmps19
  go_wp2
  go_ret
  exact ⟨by first | rfl | (simp; done) | (simp [*]; done), by repeat (first | exact Drawn0.refl _ | apply Drawn0.step)⟩
 ·rw [if_neg c4] at H
  have c4b0 : decide (a1 ≤ a0) = false := decide_eq_false c4
  clear c4
  obtain rfl := Option.some.inj H
  go_enter Try.func19, Try.ntmps19
  go_wp2
  go_ret
  exact ⟨by first | rfl | (simp; done) | (simp [*]; done), by repeat (first | exact Drawn0.refl _ | apply Drawn0.step)⟩
end Go.Proofs.Ytpedlompipabdaa.P
namespace Go.Proofs.Ytpedlompipabdaa.P
open Go.RowKit Go.Proofs.YtpedlompipabdaaW.PrintWords Go.Proofs.YtpedlompipabdaaW.PrintLast Go.Proofs.YtpedlompipabdaaW.PrintMore
attribute [local go_sem] max2_int min2_int max_two min_two max_three min_three max_four min_four
set_option linter.unusedVariables false
set_option linter.unusedSimpArgs false
def ensembleref16_Right.f (k : Nat) (l0_0 : List (S83)) (l0_1 : List (S51)) (a0_2 : Int) (a0_3 : Int) (a0_4 : Int) (a0_5 : Int) : Option (Bool) := (ensembleref02_Right.f k l0_0).bind fun t123 => (if t123 = true then ((ensembleref16_quotas.f k l0_0 l0_1 a0_2 a0_3 a0_4 a0_5).bind fun t124 => ((ensembleref06_Right.f k t124).bind fun t127 => (if t127 = true then ((ensembleref16_rooms.f k l0_0 l0_1 a0_2 a0_3 a0_4 a0_5).bind fun t128 => ((ensembleref10_Right.f k t128).bind fun t131 => (if t131 = true then ((ensembleref16_in.f a0_2 1 4).bind fun t132 => (if t132 = true then ((ensembleref16_in.f a0_3 0 64).bind fun t133 => (if t133 = true then ((ensembleref16_in.f a0_4 1 1024).bind fun t134 => (if t134 = true then ((ensembleref16_in.f a0_5 1 1024).bind fun t135 => (some t135)) else (some false))) else (some false))) else (some false))) else (some false)))) else (some false)))) else (some false))
theorem ensembleref16_Right.mono : ∀ a0 a1 a2 a3 a4 a5 k, LeO (ensembleref16_Right.f k a0 a1 a2 a3 a4 a5) (ensembleref16_Right.f (k + 1) a0 a1 a2 a3 a4 a5) := by
 intro a0 a1 a2 a3 a4 a5 k
 unfold ensembleref16_Right.f
 repeat' first
   | (with_reducible exact ensembleref02_Right.mono _ _)
   | (with_reducible exact ensembleref06_Right.mono _ _)
   | (with_reducible exact ensembleref10_Right.mono _ _)
   | (with_reducible exact ensembleref16_quotas.mono _ _ _ _ _ _ _)
   | (with_reducible exact ensembleref16_rooms.mono _ _ _ _ _ _ _)
   | (with_reducible exact LeO.refl _)
   | (with_reducible exact LeO.none _)
   | (with_reducible refine LeO.ite ?_ ?_)
   | (with_reducible refine LeO.bind ?_ (fun _ => ?_))
   | exact ensembleref02_Right.mono _ _
   | exact ensembleref06_Right.mono _ _
   | exact ensembleref10_Right.mono _ _
   | exact ensembleref16_quotas.mono _ _ _ _ _ _ _
   | exact ensembleref16_rooms.mono _ _ _ _ _ _ _
   | exact LeO.none _
   | refine LeO.ite ?_ ?_
   | refine LeO.bind ?_ (fun _ => ?_)
set_option maxHeartbeats 8000000 in
set_option maxRecDepth 100000 in
theorem ensembleref16_Right.calls (k : Nat) (A0_0 : Option Addr) (c0_0 : Nat) (l0_0 : List (S83)) (A0_1 : Option Addr) (c0_1 : Nat) (l0_1 : List (S51)) (a0_2 : Int) (a0_3 : Int) (a0_4 : Int) (a0_5 : Int) (r : Bool) (w : World) (hr0_0 : Kd.C k83 w A0_0 l0_0.length l0_0) (hc0_0 : l0_0.length ≤ c0_0) (hr0_1 : Kd.C k51 w A0_1 l0_1.length l0_1) (hc0_1 : l0_1.length ≤ c0_1) (h : ensembleref16_Right.f k l0_0 l0_1 a0_2 a0_3 a0_4 a0_5 = some r) :
  Calls Try.prog 6 #[.agg #[.slice A0_0 l0_0.length c0_0, .slice A0_1 l0_1.length c0_1, .int .i64 a0_2, .int .i64 a0_3, .int .i64 a0_4, .int .i64 a0_5]] w fun e w' => e = .returned (.bool r) ∧ Below w.heap.size w w' := by
 have hu27 := Try.underlying27
 have hu24 := Try.underlying24
 have HR0_0 := Aside0.mk hr0_0
 have HC0_0 := Aside0.mk hc0_0
 clear hr0_0 hc0_0
 have HR0_1 := Aside0.mk hr0_1
 have HC0_1 := Aside0.mk hc0_1
 clear hr0_1 hc0_1
 have HB := Aside0.mk (Below.refl w.heap.size w)
 have H : ((ensembleref02_Right.f k l0_0).bind fun t123 => (if t123 = true then ((ensembleref16_quotas.f k l0_0 l0_1 a0_2 a0_3 a0_4 a0_5).bind fun t124 => ((ensembleref06_Right.f k t124).bind fun t127 => (if t127 = true then ((ensembleref16_rooms.f k l0_0 l0_1 a0_2 a0_3 a0_4 a0_5).bind fun t128 => ((ensembleref10_Right.f k t128).bind fun t131 => (if t131 = true then ((ensembleref16_in.f a0_2 1 4).bind fun t132 => (if t132 = true then ((ensembleref16_in.f a0_3 0 64).bind fun t133 => (if t133 = true then ((ensembleref16_in.f a0_4 1 1024).bind fun t134 => (if t134 = true then ((ensembleref16_in.f a0_5 1 1024).bind fun t135 => (some t135)) else (some false))) else (some false))) else (some false))) else (some false)))) else (some false)))) else (some false))) = some r := h
 clear h
 replace H := Option.bind_eq_some_iff.mp H
 obtain ⟨t123, A20, H⟩ := H
 replace H : (if t123 = true then ((ensembleref16_quotas.f k l0_0 l0_1 a0_2 a0_3 a0_4 a0_5).bind fun t124 => ((ensembleref06_Right.f k t124).bind fun t127 => (if t127 = true then ((ensembleref16_rooms.f k l0_0 l0_1 a0_2 a0_3 a0_4 a0_5).bind fun t128 => ((ensembleref10_Right.f k t128).bind fun t131 => (if t131 = true then ((ensembleref16_in.f a0_2 1 4).bind fun t132 => (if t132 = true then ((ensembleref16_in.f a0_3 0 64).bind fun t133 => (if t133 = true then ((ensembleref16_in.f a0_4 1 1024).bind fun t134 => (if t134 = true then ((ensembleref16_in.f a0_5 1 1024).bind fun t135 => (some t135)) else (some false))) else (some false))) else (some false))) else (some false)))) else (some false)))) else (some false)) = some r := H
 have A2 := Aside0.mk A20
 clear A20
 by_cases c3 : t123 = true
 ·subst c3
  have H1 : ((ensembleref16_quotas.f k l0_0 l0_1 a0_2 a0_3 a0_4 a0_5).bind fun t124 => ((ensembleref06_Right.f k t124).bind fun t127 => (if t127 = true then ((ensembleref16_rooms.f k l0_0 l0_1 a0_2 a0_3 a0_4 a0_5).bind fun t128 => ((ensembleref10_Right.f k t128).bind fun t131 => (if t131 = true then ((ensembleref16_in.f a0_2 1 4).bind fun t132 => (if t132 = true then ((ensembleref16_in.f a0_3 0 64).bind fun t133 => (if t133 = true then ((ensembleref16_in.f a0_4 1 1024).bind fun t134 => (if t134 = true then ((ensembleref16_in.f a0_5 1 1024).bind fun t135 => (some t135)) else (some false))) else (some false))) else (some false))) else (some false)))) else (some false)))) = some r := by rw [if_pos rfl] at H; exact H
  clear H
  have H := H1
  clear H1
  replace H := Option.bind_eq_some_iff.mp H
  obtain ⟨t124, A40, H⟩ := H
  replace H : ((ensembleref06_Right.f k t124).bind fun t127 => (if t127 = true then ((ensembleref16_rooms.f k l0_0 l0_1 a0_2 a0_3 a0_4 a0_5).bind fun t128 => ((ensembleref10_Right.f k t128).bind fun t131 => (if t131 = true then ((ensembleref16_in.f a0_2 1 4).bind fun t132 => (if t132 = true then ((ensembleref16_in.f a0_3 0 64).bind fun t133 => (if t133 = true then ((ensembleref16_in.f a0_4 1 1024).bind fun t134 => (if t134 = true then ((ensembleref16_in.f a0_5 1 1024).bind fun t135 => (some t135)) else (some false))) else (some false))) else (some false))) else (some false)))) else (some false))) = some r := H
  have A4 := Aside0.mk A40
  clear A40
  replace H := Option.bind_eq_some_iff.mp H
  obtain ⟨t127, A50, H⟩ := H
  replace H : (if t127 = true then ((ensembleref16_rooms.f k l0_0 l0_1 a0_2 a0_3 a0_4 a0_5).bind fun t128 => ((ensembleref10_Right.f k t128).bind fun t131 => (if t131 = true then ((ensembleref16_in.f a0_2 1 4).bind fun t132 => (if t132 = true then ((ensembleref16_in.f a0_3 0 64).bind fun t133 => (if t133 = true then ((ensembleref16_in.f a0_4 1 1024).bind fun t134 => (if t134 = true then ((ensembleref16_in.f a0_5 1 1024).bind fun t135 => (some t135)) else (some false))) else (some false))) else (some false))) else (some false)))) else (some false)) = some r := H
  have A5 := Aside0.mk A50
  clear A50
  by_cases c6 : t127 = true
  ·subst c6
   have H1 : ((ensembleref16_rooms.f k l0_0 l0_1 a0_2 a0_3 a0_4 a0_5).bind fun t128 => ((ensembleref10_Right.f k t128).bind fun t131 => (if t131 = true then ((ensembleref16_in.f a0_2 1 4).bind fun t132 => (if t132 = true then ((ensembleref16_in.f a0_3 0 64).bind fun t133 => (if t133 = true then ((ensembleref16_in.f a0_4 1 1024).bind fun t134 => (if t134 = true then ((ensembleref16_in.f a0_5 1 1024).bind fun t135 => (some t135)) else (some false))) else (some false))) else (some false))) else (some false)))) = some r := by rw [if_pos rfl] at H; exact H
   clear H
   have H := H1
   clear H1
   replace H := Option.bind_eq_some_iff.mp H
   obtain ⟨t128, A70, H⟩ := H
   replace H : ((ensembleref10_Right.f k t128).bind fun t131 => (if t131 = true then ((ensembleref16_in.f a0_2 1 4).bind fun t132 => (if t132 = true then ((ensembleref16_in.f a0_3 0 64).bind fun t133 => (if t133 = true then ((ensembleref16_in.f a0_4 1 1024).bind fun t134 => (if t134 = true then ((ensembleref16_in.f a0_5 1 1024).bind fun t135 => (some t135)) else (some false))) else (some false))) else (some false))) else (some false))) = some r := H
   have A7 := Aside0.mk A70
   clear A70
   replace H := Option.bind_eq_some_iff.mp H
   obtain ⟨t131, A80, H⟩ := H
   replace H : (if t131 = true then ((ensembleref16_in.f a0_2 1 4).bind fun t132 => (if t132 = true then ((ensembleref16_in.f a0_3 0 64).bind fun t133 => (if t133 = true then ((ensembleref16_in.f a0_4 1 1024).bind fun t134 => (if t134 = true then ((ensembleref16_in.f a0_5 1 1024).bind fun t135 => (some t135)) else (some false))) else (some false))) else (some false))) else (some false)) = some r := H
   have A8 := Aside0.mk A80
   clear A80
   by_cases c9 : t131 = true
   ·subst c9
    have H1 : ((ensembleref16_in.f a0_2 1 4).bind fun t132 => (if t132 = true then ((ensembleref16_in.f a0_3 0 64).bind fun t133 => (if t133 = true then ((ensembleref16_in.f a0_4 1 1024).bind fun t134 => (if t134 = true then ((ensembleref16_in.f a0_5 1 1024).bind fun t135 => (some t135)) else (some false))) else (some false))) else (some false))) = some r := by rw [if_pos rfl] at H; exact H
    clear H
    have H := H1
    clear H1
    replace H := Option.bind_eq_some_iff.mp H
    obtain ⟨t132, A100, H⟩ := H
    replace H : (if t132 = true then ((ensembleref16_in.f a0_3 0 64).bind fun t133 => (if t133 = true then ((ensembleref16_in.f a0_4 1 1024).bind fun t134 => (if t134 = true then ((ensembleref16_in.f a0_5 1 1024).bind fun t135 => (some t135)) else (some false))) else (some false))) else (some false)) = some r := H
    have A10 := Aside0.mk A100
    clear A100
    by_cases c11 : t132 = true
    ·subst c11
     have H1 : ((ensembleref16_in.f a0_3 0 64).bind fun t133 => (if t133 = true then ((ensembleref16_in.f a0_4 1 1024).bind fun t134 => (if t134 = true then ((ensembleref16_in.f a0_5 1 1024).bind fun t135 => (some t135)) else (some false))) else (some false))) = some r := by rw [if_pos rfl] at H; exact H
     clear H
     have H := H1
     clear H1
     replace H := Option.bind_eq_some_iff.mp H
     obtain ⟨t133, A120, H⟩ := H
     replace H : (if t133 = true then ((ensembleref16_in.f a0_4 1 1024).bind fun t134 => (if t134 = true then ((ensembleref16_in.f a0_5 1 1024).bind fun t135 => (some t135)) else (some false))) else (some false)) = some r := H
     have A12 := Aside0.mk A120
     clear A120
     by_cases c13 : t133 = true
     ·subst c13
      have H1 : ((ensembleref16_in.f a0_4 1 1024).bind fun t134 => (if t134 = true then ((ensembleref16_in.f a0_5 1 1024).bind fun t135 => (some t135)) else (some false))) = some r := by rw [if_pos rfl] at H; exact H
      clear H
      have H := H1
      clear H1
      replace H := Option.bind_eq_some_iff.mp H
      obtain ⟨t134, A140, H⟩ := H
      replace H : (if t134 = true then ((ensembleref16_in.f a0_5 1 1024).bind fun t135 => (some t135)) else (some false)) = some r := H
      have A14 := Aside0.mk A140
      clear A140
      by_cases c15 : t134 = true
      ·subst c15
       have H1 : ((ensembleref16_in.f a0_5 1 1024).bind fun t135 => (some t135)) = some r := by rw [if_pos rfl] at H; exact H
       clear H
       have H := H1
       clear H1
       replace H := Option.bind_eq_some_iff.mp H
       obtain ⟨t135, A160, H⟩ := H
       replace H : (some t135) = some r := H
       have A16 := Aside0.mk A160
       clear A160
       obtain rfl := Option.some.inj H
       go_enter Try.func6, Try.ntmps6
       go_wp2_with (first | ((with_reducible refine gate_dst (N := 1) rfl ?_); refine box_event ?hg (N := 1) ?hd (cs := #[.slice A0_0 l0_0.length c0_0, .slice A0_1 l0_1.length c0_1, .int .i64 a0_2, .int .i64 a0_3, .int .i64 a0_4, .int .i64 a0_5]) (t := 27) ?hr ?_; (case hd => rfl); (case hg => rfl); (case hr => first | (go_simp; done) | (go_simp; rfl)); intro gb122 hg w17 hbox hb; have n0_ := Aside0.mk (below_step (by repeat (first | (with_reducible first | exact HB.out | apply below_alloc | apply pw_below_drewN | apply below_drew1) | exact HB.out)) hb); have n1_ := Aside0.mk (hbox); have n2_ := Aside0.mk ((by rw [hg]; exact (below_size (by repeat (first | (with_reducible first | exact HB.out | apply below_alloc | apply pw_below_drewN | apply below_drew1) | exact HB.out))) : w.heap.size ≤ gb122)); have n3_ := Aside0.mk ((by rw [hg]; exact (below_size (by repeat (first | (with_reducible first | exact HB.out | apply below_alloc | apply pw_below_drewN | apply below_drew1) | exact HB.out))) : w.heap.size ≤ gb122)); clear HB; have HB := n0_; have BK122 := n1_; have GW122 := n2_; have GE122 := n3_; clear n0_ n1_ n2_ n3_; clear hb hbox hg; have hcz18_0 : w17.cell? ⟨gb122, 0, none⟩ = some (.slice A0_0 l0_0.length c0_0) := (blk_cell BK122.out 0).trans rfl; have hcz18_1 : w17.cell? ⟨gb122, 1, none⟩ = some (.slice A0_1 l0_1.length c0_1) := (blk_cell BK122.out 1).trans rfl; have hcz18_2 : w17.cell? ⟨gb122, 2, none⟩ = some (.int .i64 a0_2) := (blk_cell BK122.out 2).trans rfl; have hcz18_3 : w17.cell? ⟨gb122, 3, none⟩ = some (.int .i64 a0_3) := (blk_cell BK122.out 3).trans rfl; have hcz18_4 : w17.cell? ⟨gb122, 4, none⟩ = some (.int .i64 a0_4) := (blk_cell BK122.out 4).trans rfl; have hcz18_5 : w17.cell? ⟨gb122, 5, none⟩ = some (.int .i64 a0_5) := (blk_cell BK122.out 5).trans rfl; have hfz18_0 := blk_frozen BK122.out 0; have hfz18_1 := blk_frozen BK122.out 1; have hfz18_2 := blk_frozen BK122.out 2; have hfz18_3 := blk_frozen BK122.out 3; have hfz18_4 := blk_frozen BK122.out 4; have hfz18_5 := blk_frozen BK122.out 5) | ((with_reducible refine gate_callee (f := 14) rfl ?_); refine goesL_ (some 5) rfl rfl Try.func14 (by kernel_rfl) rfl #[.agg #[.slice A0_0 l0_0.length c0_0]] rfl (by (try simp only [List.map_toArray, List.map_cons, List.map_nil]); first | done | rfl | (simp only [List.length_drop, List.length_take]; rfl)) ?_; (with_reducible refine (ensembleref02_Right.calls k _ _ l0_0 true _ ?side1 ?side2 A2.out).mono ?_); (case side1 => repeat (first | exact (Kd.C_below HR0_0.out HB.out) | (with_reducible refine Kd.C_alloc ?_ _) | (with_reducible refine Kd.C_drewN ?_ _) | (with_reducible refine Kd.C_drew ?_))); (case side2 => exact HC0_0.out); rintro e w19 ⟨rfl, hb⟩; refine ⟨_, rfl, ?_⟩; have n0_ := Aside0.mk (blk_below (g := gb122) (o := .cells #[.slice A0_0 l0_0.length c0_0, .slice A0_1 l0_1.length c0_1, .int .i64 a0_2, .int .i64 a0_3, .int .i64 a0_4, .int .i64 a0_5] 27 (0, 0)) (by (with_reducible repeat (first | refine blk_drewN ?_ _ | refine blk_drew ?_ | refine blk_alloc ?_ _)); exact BK122.out) hb); have n1_ := Aside0.mk (below_step (by repeat (first | (with_reducible first | exact HB.out | apply below_alloc | apply pw_below_drewN | apply below_drew1 | refine below_set ?_ GE122.out) | exact HB.out)) hb); clear BK122; clear HB; have BK122 := n0_; have HB := n1_; clear n0_ n1_; (try clear hb); (try clear hb2); (try clear hk); (try clear hi); have hcz20_0 : w19.cell? ⟨gb122, 0, none⟩ = some (.slice A0_0 l0_0.length c0_0) := (blk_cell BK122.out 0).trans rfl; have hcz20_1 : w19.cell? ⟨gb122, 1, none⟩ = some (.slice A0_1 l0_1.length c0_1) := (blk_cell BK122.out 1).trans rfl; have hcz20_2 : w19.cell? ⟨gb122, 2, none⟩ = some (.int .i64 a0_2) := (blk_cell BK122.out 2).trans rfl; have hcz20_3 : w19.cell? ⟨gb122, 3, none⟩ = some (.int .i64 a0_3) := (blk_cell BK122.out 3).trans rfl; have hcz20_4 : w19.cell? ⟨gb122, 4, none⟩ = some (.int .i64 a0_4) := (blk_cell BK122.out 4).trans rfl; have hcz20_5 : w19.cell? ⟨gb122, 5, none⟩ = some (.int .i64 a0_5) := (blk_cell BK122.out 5).trans rfl; have hfz20_0 := blk_frozen BK122.out 0; have hfz20_1 := blk_frozen BK122.out 1; have hfz20_2 := blk_frozen BK122.out 2; have hfz20_3 := blk_frozen BK122.out 3; have hfz20_4 := blk_frozen BK122.out 4; have hfz20_5 := blk_frozen BK122.out 5) | (go_at_call 16; (with_reducible refine (ensembleref16_quotas.calls k _ _ l0_0 _ _ l0_1 a0_2 a0_3 a0_4 a0_5 t124 _ ?side1 ?side2 ?side3 ?side4 A4.out).mono ?_); (case side1 => repeat (first | exact (Kd.C_below HR0_0.out HB.out) | (with_reducible refine Kd.C_alloc ?_ _) | (with_reducible refine Kd.C_drewN ?_ _) | (with_reducible refine Kd.C_drew ?_))); (case side2 => exact HC0_0.out); (case side3 => repeat (first | exact (Kd.C_below HR0_1.out HB.out) | (with_reducible refine Kd.C_alloc ?_ _) | (with_reducible refine Kd.C_drewN ?_ _) | (with_reducible refine Kd.C_drew ?_))); (case side4 => exact HC0_1.out); rintro e w21 ⟨v125, rfl, ho0, hb⟩; have n0_ := Aside0.mk (Kd.R_lower ho0 (below_size (by repeat (first | (with_reducible first | exact HB.out | apply below_alloc | apply pw_below_drewN | apply below_drew1 | refine below_set ?_ GE122.out) | exact HB.out)))); have n1_ := Aside0.mk (blk_below (g := gb122) (o := .cells #[.slice A0_0 l0_0.length c0_0, .slice A0_1 l0_1.length c0_1, .int .i64 a0_2, .int .i64 a0_3, .int .i64 a0_4, .int .i64 a0_5] 27 (0, 0)) (by (with_reducible repeat (first | refine blk_drewN ?_ _ | refine blk_drew ?_ | refine blk_alloc ?_ _)); exact BK122.out) hb); have n2_ := Aside0.mk (below_step (by repeat (first | (with_reducible first | exact HB.out | apply below_alloc | apply pw_below_drewN | apply below_drew1 | refine below_set ?_ GE122.out) | exact HB.out)) hb); clear BK122; clear HB; have HO126 := n0_; have BK122 := n1_; have HB := n2_; clear n0_ n1_ n2_; (try clear hb); (try clear hb2); (try clear hk); (try clear hi); (try clear ho0); obtain ⟨Ao22, co22, eo22⟩ := Kd.R_slice HO126.out; subst eo22) | (go_at_call 15; (with_reducible refine (ensembleref06_Right.calls k _ _ t124 true _ ?side1 ?side2 A5.out).mono ?_); (case side1 => repeat (first | exact (Kd.R_reads' HO126.out).2.2 | (with_reducible refine Kd.C_alloc ?_ _) | (with_reducible refine Kd.C_drewN ?_ _) | (with_reducible refine Kd.C_drew ?_))); (case side2 => exact (Kd.R_reads' HO126.out).2.1); rintro e w23 ⟨rfl, hb⟩; have n0_ := Aside0.mk (Kd.R_below (by (with_reducible repeat (first | apply Kd.R_alloc | apply Kd.R_drewN | apply Kd.R_drew)); exact HO126.out) hb); have n1_ := Aside0.mk (blk_below (g := gb122) (o := .cells #[.slice A0_0 l0_0.length c0_0, .slice A0_1 l0_1.length c0_1, .int .i64 a0_2, .int .i64 a0_3, .int .i64 a0_4, .int .i64 a0_5] 27 (0, 0)) (by (with_reducible repeat (first | refine blk_drewN ?_ _ | refine blk_drew ?_ | refine blk_alloc ?_ _)); exact BK122.out) hb); have n2_ := Aside0.mk (below_step (by repeat (first | (with_reducible first | exact HB.out | apply below_alloc | apply pw_below_drewN | apply below_drew1 | refine below_set ?_ GE122.out) | exact HB.out)) hb); clear HO126; clear BK122; clear HB; have HO126 := n0_; have BK122 := n1_; have HB := n2_; clear n0_ n1_ n2_; (try clear hb); (try clear hb2); (try clear hk); (try clear hi); have hcz24_0 : w23.cell? ⟨gb122, 0, none⟩ = some (.slice A0_0 l0_0.length c0_0) := (blk_cell BK122.out 0).trans rfl; have hcz24_1 : w23.cell? ⟨gb122, 1, none⟩ = some (.slice A0_1 l0_1.length c0_1) := (blk_cell BK122.out 1).trans rfl; have hcz24_2 : w23.cell? ⟨gb122, 2, none⟩ = some (.int .i64 a0_2) := (blk_cell BK122.out 2).trans rfl; have hcz24_3 : w23.cell? ⟨gb122, 3, none⟩ = some (.int .i64 a0_3) := (blk_cell BK122.out 3).trans rfl; have hcz24_4 : w23.cell? ⟨gb122, 4, none⟩ = some (.int .i64 a0_4) := (blk_cell BK122.out 4).trans rfl; have hcz24_5 : w23.cell? ⟨gb122, 5, none⟩ = some (.int .i64 a0_5) := (blk_cell BK122.out 5).trans rfl; have hfz24_0 := blk_frozen BK122.out 0; have hfz24_1 := blk_frozen BK122.out 1; have hfz24_2 := blk_frozen BK122.out 2; have hfz24_3 := blk_frozen BK122.out 3; have hfz24_4 := blk_frozen BK122.out 4; have hfz24_5 := blk_frozen BK122.out 5) | (go_at_call 18; (with_reducible refine (ensembleref16_rooms.calls k _ _ l0_0 _ _ l0_1 a0_2 a0_3 a0_4 a0_5 t128 _ ?side1 ?side2 ?side3 ?side4 A7.out).mono ?_); (case side1 => repeat (first | exact (Kd.C_below HR0_0.out HB.out) | (with_reducible refine Kd.C_alloc ?_ _) | (with_reducible refine Kd.C_drewN ?_ _) | (with_reducible refine Kd.C_drew ?_))); (case side2 => exact HC0_0.out); (case side3 => repeat (first | exact (Kd.C_below HR0_1.out HB.out) | (with_reducible refine Kd.C_alloc ?_ _) | (with_reducible refine Kd.C_drewN ?_ _) | (with_reducible refine Kd.C_drew ?_))); (case side4 => exact HC0_1.out); rintro e w25 ⟨v129, rfl, ho0, hb⟩; have n0_ := Aside0.mk (Kd.R_below (by (with_reducible repeat (first | apply Kd.R_alloc | apply Kd.R_drewN | apply Kd.R_drew)); exact HO126.out) hb); have n1_ := Aside0.mk (Kd.R_lower ho0 (below_size (by repeat (first | (with_reducible first | exact HB.out | apply below_alloc | apply pw_below_drewN | apply below_drew1 | refine below_set ?_ GE122.out) | exact HB.out)))); have n2_ := Aside0.mk (blk_below (g := gb122) (o := .cells #[.slice A0_0 l0_0.length c0_0, .slice A0_1 l0_1.length c0_1, .int .i64 a0_2, .int .i64 a0_3, .int .i64 a0_4, .int .i64 a0_5] 27 (0, 0)) (by (with_reducible repeat (first | refine blk_drewN ?_ _ | refine blk_drew ?_ | refine blk_alloc ?_ _)); exact BK122.out) hb); have n3_ := Aside0.mk (below_step (by repeat (first | (with_reducible first | exact HB.out | apply below_alloc | apply pw_below_drewN | apply below_drew1 | refine below_set ?_ GE122.out) | exact HB.out)) hb); clear HO126; clear BK122; clear HB; have HO126 := n0_; have HO130 := n1_; have BK122 := n2_; have HB := n3_; clear n0_ n1_ n2_ n3_; (try clear hb); (try clear hb2); (try clear hk); (try clear hi); (try clear ho0); obtain ⟨Ao26, co26, eo26⟩ := Kd.R_slice HO130.out; subst eo26) | (go_at_call 17; (with_reducible refine (ensembleref10_Right.calls k _ _ t128 true _ ?side1 ?side2 A8.out).mono ?_); (case side1 => repeat (first | exact (Kd.R_reads' HO130.out).2.2 | (with_reducible refine Kd.C_alloc ?_ _) | (with_reducible refine Kd.C_drewN ?_ _) | (with_reducible refine Kd.C_drew ?_))); (case side2 => exact (Kd.R_reads' HO130.out).2.1); rintro e w' ⟨rfl, ⟨nd, rfl⟩⟩; have hcz27_0 : w25.cell? ⟨gb122, 0, none⟩ = some (.slice A0_0 l0_0.length c0_0) := (blk_cell BK122.out 0).trans rfl; have hcz27_1 : w25.cell? ⟨gb122, 1, none⟩ = some (.slice A0_1 l0_1.length c0_1) := (blk_cell BK122.out 1).trans rfl; have hcz27_2 : w25.cell? ⟨gb122, 2, none⟩ = some (.int .i64 a0_2) := (blk_cell BK122.out 2).trans rfl; have hcz27_3 : w25.cell? ⟨gb122, 3, none⟩ = some (.int .i64 a0_3) := (blk_cell BK122.out 3).trans rfl; have hcz27_4 : w25.cell? ⟨gb122, 4, none⟩ = some (.int .i64 a0_4) := (blk_cell BK122.out 4).trans rfl; have hcz27_5 : w25.cell? ⟨gb122, 5, none⟩ = some (.int .i64 a0_5) := (blk_cell BK122.out 5).trans rfl; have hfz27_0 := blk_frozen BK122.out 0; have hfz27_1 := blk_frozen BK122.out 1; have hfz27_2 := blk_frozen BK122.out 2; have hfz27_3 := blk_frozen BK122.out 3; have hfz27_4 := blk_frozen BK122.out 4; have hfz27_5 := blk_frozen BK122.out 5) | (go_at_call 19; (with_reducible refine (ensembleref16_in.calls a0_2 1 4 true _ A10.out).mono ?_); rintro e w' ⟨rfl, ⟨nd, rfl⟩⟩) | (go_at_call 19; (with_reducible refine (ensembleref16_in.calls a0_3 0 64 true _ A12.out).mono ?_); rintro e w' ⟨rfl, ⟨nd, rfl⟩⟩) | (go_at_call 19; (with_reducible refine (ensembleref16_in.calls a0_4 1 1024 true _ A14.out).mono ?_); rintro e w' ⟨rfl, ⟨nd, rfl⟩⟩) | (go_at_call 19; (with_reducible refine (ensembleref16_in.calls a0_5 1 1024 t135 _ A16.out).mono ?_); rintro e w' ⟨rfl, ⟨nd, rfl⟩⟩))
       go_ret
       exact ⟨by first | rfl | (simp [errW_none, errW_some] <;> rfl) | (simp [*, errW_none, errW_some] <;> rfl), by repeat (first | (with_reducible first | exact HB.out | apply below_alloc | apply pw_below_drewN | apply below_drew1 | refine below_set ?_ GE122.out) | exact HB.out)⟩
      ·replace c15 := Bool.eq_false_iff.mpr c15
       subst c15
       have H1 : (some false) = some r := by rw [if_neg (show ¬ (false = true) by decide)] at H; exact H
       clear H
       have H := H1
       clear H1
       obtain rfl := Option.some.inj H
       go_enter Try.func6, Try.ntmps6
       go_wp2_with (first | ((with_reducible refine gate_dst (N := 1) rfl ?_); refine box_event ?hg (N := 1) ?hd (cs := #[.slice A0_0 l0_0.length c0_0, .slice A0_1 l0_1.length c0_1, .int .i64 a0_2, .int .i64 a0_3, .int .i64 a0_4, .int .i64 a0_5]) (t := 27) ?hr ?_; (case hd => rfl); (case hg => rfl); (case hr => first | (go_simp; done) | (go_simp; rfl)); intro gb122 hg w28 hbox hb; have n0_ := Aside0.mk (below_step (by repeat (first | (with_reducible first | exact HB.out | apply below_alloc | apply pw_below_drewN | apply below_drew1) | exact HB.out)) hb); have n1_ := Aside0.mk (hbox); have n2_ := Aside0.mk ((by rw [hg]; exact (below_size (by repeat (first | (with_reducible first | exact HB.out | apply below_alloc | apply pw_below_drewN | apply below_drew1) | exact HB.out))) : w.heap.size ≤ gb122)); have n3_ := Aside0.mk ((by rw [hg]; exact (below_size (by repeat (first | (with_reducible first | exact HB.out | apply below_alloc | apply pw_below_drewN | apply below_drew1) | exact HB.out))) : w.heap.size ≤ gb122)); clear HB; have HB := n0_; have BK122 := n1_; have GW122 := n2_; have GE122 := n3_; clear n0_ n1_ n2_ n3_; clear hb hbox hg; have hcz29_0 : w28.cell? ⟨gb122, 0, none⟩ = some (.slice A0_0 l0_0.length c0_0) := (blk_cell BK122.out 0).trans rfl; have hcz29_1 : w28.cell? ⟨gb122, 1, none⟩ = some (.slice A0_1 l0_1.length c0_1) := (blk_cell BK122.out 1).trans rfl; have hcz29_2 : w28.cell? ⟨gb122, 2, none⟩ = some (.int .i64 a0_2) := (blk_cell BK122.out 2).trans rfl; have hcz29_3 : w28.cell? ⟨gb122, 3, none⟩ = some (.int .i64 a0_3) := (blk_cell BK122.out 3).trans rfl; have hcz29_4 : w28.cell? ⟨gb122, 4, none⟩ = some (.int .i64 a0_4) := (blk_cell BK122.out 4).trans rfl; have hcz29_5 : w28.cell? ⟨gb122, 5, none⟩ = some (.int .i64 a0_5) := (blk_cell BK122.out 5).trans rfl; have hfz29_0 := blk_frozen BK122.out 0; have hfz29_1 := blk_frozen BK122.out 1; have hfz29_2 := blk_frozen BK122.out 2; have hfz29_3 := blk_frozen BK122.out 3; have hfz29_4 := blk_frozen BK122.out 4; have hfz29_5 := blk_frozen BK122.out 5) | ((with_reducible refine gate_callee (f := 14) rfl ?_); refine goesL_ (some 5) rfl rfl Try.func14 (by kernel_rfl) rfl #[.agg #[.slice A0_0 l0_0.length c0_0]] rfl (by (try simp only [List.map_toArray, List.map_cons, List.map_nil]); first | done | rfl | (simp only [List.length_drop, List.length_take]; rfl)) ?_; (with_reducible refine (ensembleref02_Right.calls k _ _ l0_0 true _ ?side1 ?side2 A2.out).mono ?_); (case side1 => repeat (first | exact (Kd.C_below HR0_0.out HB.out) | (with_reducible refine Kd.C_alloc ?_ _) | (with_reducible refine Kd.C_drewN ?_ _) | (with_reducible refine Kd.C_drew ?_))); (case side2 => exact HC0_0.out); rintro e w30 ⟨rfl, hb⟩; refine ⟨_, rfl, ?_⟩; have n0_ := Aside0.mk (blk_below (g := gb122) (o := .cells #[.slice A0_0 l0_0.length c0_0, .slice A0_1 l0_1.length c0_1, .int .i64 a0_2, .int .i64 a0_3, .int .i64 a0_4, .int .i64 a0_5] 27 (0, 0)) (by (with_reducible repeat (first | refine blk_drewN ?_ _ | refine blk_drew ?_ | refine blk_alloc ?_ _)); exact BK122.out) hb); have n1_ := Aside0.mk (below_step (by repeat (first | (with_reducible first | exact HB.out | apply below_alloc | apply pw_below_drewN | apply below_drew1 | refine below_set ?_ GE122.out) | exact HB.out)) hb); clear BK122; clear HB; have BK122 := n0_; have HB := n1_; clear n0_ n1_; (try clear hb); (try clear hb2); (try clear hk); (try clear hi); have hcz31_0 : w30.cell? ⟨gb122, 0, none⟩ = some (.slice A0_0 l0_0.length c0_0) := (blk_cell BK122.out 0).trans rfl; have hcz31_1 : w30.cell? ⟨gb122, 1, none⟩ = some (.slice A0_1 l0_1.length c0_1) := (blk_cell BK122.out 1).trans rfl; have hcz31_2 : w30.cell? ⟨gb122, 2, none⟩ = some (.int .i64 a0_2) := (blk_cell BK122.out 2).trans rfl; have hcz31_3 : w30.cell? ⟨gb122, 3, none⟩ = some (.int .i64 a0_3) := (blk_cell BK122.out 3).trans rfl; have hcz31_4 : w30.cell? ⟨gb122, 4, none⟩ = some (.int .i64 a0_4) := (blk_cell BK122.out 4).trans rfl; have hcz31_5 : w30.cell? ⟨gb122, 5, none⟩ = some (.int .i64 a0_5) := (blk_cell BK122.out 5).trans rfl; have hfz31_0 := blk_frozen BK122.out 0; have hfz31_1 := blk_frozen BK122.out 1; have hfz31_2 := blk_frozen BK122.out 2; have hfz31_3 := blk_frozen BK122.out 3; have hfz31_4 := blk_frozen BK122.out 4; have hfz31_5 := blk_frozen BK122.out 5) | (go_at_call 16; (with_reducible refine (ensembleref16_quotas.calls k _ _ l0_0 _ _ l0_1 a0_2 a0_3 a0_4 a0_5 t124 _ ?side1 ?side2 ?side3 ?side4 A4.out).mono ?_); (case side1 => repeat (first | exact (Kd.C_below HR0_0.out HB.out) | (with_reducible refine Kd.C_alloc ?_ _) | (with_reducible refine Kd.C_drewN ?_ _) | (with_reducible refine Kd.C_drew ?_))); (case side2 => exact HC0_0.out); (case side3 => repeat (first | exact (Kd.C_below HR0_1.out HB.out) | (with_reducible refine Kd.C_alloc ?_ _) | (with_reducible refine Kd.C_drewN ?_ _) | (with_reducible refine Kd.C_drew ?_))); (case side4 => exact HC0_1.out); rintro e w32 ⟨v125, rfl, ho0, hb⟩; have n0_ := Aside0.mk (Kd.R_lower ho0 (below_size (by repeat (first | (with_reducible first | exact HB.out | apply below_alloc | apply pw_below_drewN | apply below_drew1 | refine below_set ?_ GE122.out) | exact HB.out)))); have n1_ := Aside0.mk (blk_below (g := gb122) (o := .cells #[.slice A0_0 l0_0.length c0_0, .slice A0_1 l0_1.length c0_1, .int .i64 a0_2, .int .i64 a0_3, .int .i64 a0_4, .int .i64 a0_5] 27 (0, 0)) (by (with_reducible repeat (first | refine blk_drewN ?_ _ | refine blk_drew ?_ | refine blk_alloc ?_ _)); exact BK122.out) hb); have n2_ := Aside0.mk (below_step (by repeat (first | (with_reducible first | exact HB.out | apply below_alloc | apply pw_below_drewN | apply below_drew1 | refine below_set ?_ GE122.out) | exact HB.out)) hb); clear BK122; clear HB; have HO126 := n0_; have BK122 := n1_; have HB := n2_; clear n0_ n1_ n2_; (try clear hb); (try clear hb2); (try clear hk); (try clear hi); (try clear ho0); obtain ⟨Ao33, co33, eo33⟩ := Kd.R_slice HO126.out; subst eo33) | (go_at_call 15; (with_reducible refine (ensembleref06_Right.calls k _ _ t124 true _ ?side1 ?side2 A5.out).mono ?_); (case side1 => repeat (first | exact (Kd.R_reads' HO126.out).2.2 | (with_reducible refine Kd.C_alloc ?_ _) | (with_reducible refine Kd.C_drewN ?_ _) | (with_reducible refine Kd.C_drew ?_))); (case side2 => exact (Kd.R_reads' HO126.out).2.1); rintro e w34 ⟨rfl, hb⟩; have n0_ := Aside0.mk (Kd.R_below (by (with_reducible repeat (first | apply Kd.R_alloc | apply Kd.R_drewN | apply Kd.R_drew)); exact HO126.out) hb); have n1_ := Aside0.mk (blk_below (g := gb122) (o := .cells #[.slice A0_0 l0_0.length c0_0, .slice A0_1 l0_1.length c0_1, .int .i64 a0_2, .int .i64 a0_3, .int .i64 a0_4, .int .i64 a0_5] 27 (0, 0)) (by (with_reducible repeat (first | refine blk_drewN ?_ _ | refine blk_drew ?_ | refine blk_alloc ?_ _)); exact BK122.out) hb); have n2_ := Aside0.mk (below_step (by repeat (first | (with_reducible first | exact HB.out | apply below_alloc | apply pw_below_drewN | apply below_drew1 | refine below_set ?_ GE122.out) | exact HB.out)) hb); clear HO126; clear BK122; clear HB; have HO126 := n0_; have BK122 := n1_; have HB := n2_; clear n0_ n1_ n2_; (try clear hb); (try clear hb2); (try clear hk); (try clear hi); have hcz35_0 : w34.cell? ⟨gb122, 0, none⟩ = some (.slice A0_0 l0_0.length c0_0) := (blk_cell BK122.out 0).trans rfl; have hcz35_1 : w34.cell? ⟨gb122, 1, none⟩ = some (.slice A0_1 l0_1.length c0_1) := (blk_cell BK122.out 1).trans rfl; have hcz35_2 : w34.cell? ⟨gb122, 2, none⟩ = some (.int .i64 a0_2) := (blk_cell BK122.out 2).trans rfl; have hcz35_3 : w34.cell? ⟨gb122, 3, none⟩ = some (.int .i64 a0_3) := (blk_cell BK122.out 3).trans rfl; have hcz35_4 : w34.cell? ⟨gb122, 4, none⟩ = some (.int .i64 a0_4) := (blk_cell BK122.out 4).trans rfl; have hcz35_5 : w34.cell? ⟨gb122, 5, none⟩ = some (.int .i64 a0_5) := (blk_cell BK122.out 5).trans rfl; have hfz35_0 := blk_frozen BK122.out 0; have hfz35_1 := blk_frozen BK122.out 1; have hfz35_2 := blk_frozen BK122.out 2; have hfz35_3 := blk_frozen BK122.out 3; have hfz35_4 := blk_frozen BK122.out 4; have hfz35_5 := blk_frozen BK122.out 5) | (go_at_call 18; (with_reducible refine (ensembleref16_rooms.calls k _ _ l0_0 _ _ l0_1 a0_2 a0_3 a0_4 a0_5 t128 _ ?side1 ?side2 ?side3 ?side4 A7.out).mono ?_); (case side1 => repeat (first | exact (Kd.C_below HR0_0.out HB.out) | (with_reducible refine Kd.C_alloc ?_ _) | (with_reducible refine Kd.C_drewN ?_ _) | (with_reducible refine Kd.C_drew ?_))); (case side2 => exact HC0_0.out); (case side3 => repeat (first | exact (Kd.C_below HR0_1.out HB.out) | (with_reducible refine Kd.C_alloc ?_ _) | (with_reducible refine Kd.C_drewN ?_ _) | (with_reducible refine Kd.C_drew ?_))); (case side4 => exact HC0_1.out); rintro e w36 ⟨v129, rfl, ho0, hb⟩; have n0_ := Aside0.mk (Kd.R_below (by (with_reducible repeat (first | apply Kd.R_alloc | apply Kd.R_drewN | apply Kd.R_drew)); exact HO126.out) hb); have n1_ := Aside0.mk (Kd.R_lower ho0 (below_size (by repeat (first | (with_reducible first | exact HB.out | apply below_alloc | apply pw_below_drewN | apply below_drew1 | refine below_set ?_ GE122.out) | exact HB.out)))); have n2_ := Aside0.mk (blk_below (g := gb122) (o := .cells #[.slice A0_0 l0_0.length c0_0, .slice A0_1 l0_1.length c0_1, .int .i64 a0_2, .int .i64 a0_3, .int .i64 a0_4, .int .i64 a0_5] 27 (0, 0)) (by (with_reducible repeat (first | refine blk_drewN ?_ _ | refine blk_drew ?_ | refine blk_alloc ?_ _)); exact BK122.out) hb); have n3_ := Aside0.mk (below_step (by repeat (first | (with_reducible first | exact HB.out | apply below_alloc | apply pw_below_drewN | apply below_drew1 | refine below_set ?_ GE122.out) | exact HB.out)) hb); clear HO126; clear BK122; clear HB; have HO126 := n0_; have HO130 := n1_; have BK122 := n2_; have HB := n3_; clear n0_ n1_ n2_ n3_; (try clear hb); (try clear hb2); (try clear hk); (try clear hi); (try clear ho0); obtain ⟨Ao37, co37, eo37⟩ := Kd.R_slice HO130.out; subst eo37) | (go_at_call 17; (with_reducible refine (ensembleref10_Right.calls k _ _ t128 true _ ?side1 ?side2 A8.out).mono ?_); (case side1 => repeat (first | exact (Kd.R_reads' HO130.out).2.2 | (with_reducible refine Kd.C_alloc ?_ _) | (with_reducible refine Kd.C_drewN ?_ _) | (with_reducible refine Kd.C_drew ?_))); (case side2 => exact (Kd.R_reads' HO130.out).2.1); rintro e w' ⟨rfl, ⟨nd, rfl⟩⟩; have hcz38_0 : w36.cell? ⟨gb122, 0, none⟩ = some (.slice A0_0 l0_0.length c0_0) := (blk_cell BK122.out 0).trans rfl; have hcz38_1 : w36.cell? ⟨gb122, 1, none⟩ = some (.slice A0_1 l0_1.length c0_1) := (blk_cell BK122.out 1).trans rfl; have hcz38_2 : w36.cell? ⟨gb122, 2, none⟩ = some (.int .i64 a0_2) := (blk_cell BK122.out 2).trans rfl; have hcz38_3 : w36.cell? ⟨gb122, 3, none⟩ = some (.int .i64 a0_3) := (blk_cell BK122.out 3).trans rfl; have hcz38_4 : w36.cell? ⟨gb122, 4, none⟩ = some (.int .i64 a0_4) := (blk_cell BK122.out 4).trans rfl; have hcz38_5 : w36.cell? ⟨gb122, 5, none⟩ = some (.int .i64 a0_5) := (blk_cell BK122.out 5).trans rfl; have hfz38_0 := blk_frozen BK122.out 0; have hfz38_1 := blk_frozen BK122.out 1; have hfz38_2 := blk_frozen BK122.out 2; have hfz38_3 := blk_frozen BK122.out 3; have hfz38_4 := blk_frozen BK122.out 4; have hfz38_5 := blk_frozen BK122.out 5) | (go_at_call 19; (with_reducible refine (ensembleref16_in.calls a0_2 1 4 true _ A10.out).mono ?_); rintro e w' ⟨rfl, ⟨nd, rfl⟩⟩) | (go_at_call 19; (with_reducible refine (ensembleref16_in.calls a0_3 0 64 true _ A12.out).mono ?_); rintro e w' ⟨rfl, ⟨nd, rfl⟩⟩) | (go_at_call 19; (with_reducible refine (ensembleref16_in.calls a0_4 1 1024 false _ A14.out).mono ?_); rintro e w' ⟨rfl, ⟨nd, rfl⟩⟩))
       go_ret
       exact ⟨by first | rfl | (simp [errW_none, errW_some] <;> rfl) | (simp [*, errW_none, errW_some] <;> rfl), by repeat (first | (with_reducible first | exact HB.out | apply below_alloc | apply pw_below_drewN | apply below_drew1 | refine below_set ?_ GE122.out) | exact HB.out)⟩
     ·replace c13 := Bool.eq_false_iff.mpr c13
      subst c13
      have H1 : (some false) = some r := by rw [if_neg (show ¬ (false = true) by decide)] at H; exact H
      clear H
      have H := H1
      clear H1
      obtain rfl := Option.some.inj H
      go_enter Try.func6, Try.ntmps6
      go_wp2_with (first | ((with_reducible refine gate_dst (N := 1) rfl ?_); refine box_event ?hg (N := 1) ?hd (cs := #[.slice A0_0 l0_0.length c0_0, .slice A0_1 l0_1.length c0_1, .int .i64 a0_2, .int .i64 a0_3, .int .i64 a0_4, .int .i64 a0_5]) (t := 27) ?hr ?_; (case hd => rfl); (case hg => rfl); (case hr => first | (go_simp; done) | (go_simp; rfl)); intro gb122 hg w39 hbox hb; have n0_ := Aside0.mk (below_step (by repeat (first | (with_reducible first | exact HB.out | apply below_alloc | apply pw_below_drewN | apply below_drew1) | exact HB.out)) hb); have n1_ := Aside0.mk (hbox); have n2_ := Aside0.mk ((by rw [hg]; exact (below_size (by repeat (first | (with_reducible first | exact HB.out | apply below_alloc | apply pw_below_drewN | apply below_drew1) | exact HB.out))) : w.heap.size ≤ gb122)); have n3_ := Aside0.mk ((by rw [hg]; exact (below_size (by repeat (first | (with_reducible first | exact HB.out | apply below_alloc | apply pw_below_drewN | apply below_drew1) | exact HB.out))) : w.heap.size ≤ gb122)); clear HB; have HB := n0_; have BK122 := n1_; have GW122 := n2_; have GE122 := n3_; clear n0_ n1_ n2_ n3_; clear hb hbox hg; have hcz40_0 : w39.cell? ⟨gb122, 0, none⟩ = some (.slice A0_0 l0_0.length c0_0) := (blk_cell BK122.out 0).trans rfl; have hcz40_1 : w39.cell? ⟨gb122, 1, none⟩ = some (.slice A0_1 l0_1.length c0_1) := (blk_cell BK122.out 1).trans rfl; have hcz40_2 : w39.cell? ⟨gb122, 2, none⟩ = some (.int .i64 a0_2) := (blk_cell BK122.out 2).trans rfl; have hcz40_3 : w39.cell? ⟨gb122, 3, none⟩ = some (.int .i64 a0_3) := (blk_cell BK122.out 3).trans rfl; have hcz40_4 : w39.cell? ⟨gb122, 4, none⟩ = some (.int .i64 a0_4) := (blk_cell BK122.out 4).trans rfl; have hcz40_5 : w39.cell? ⟨gb122, 5, none⟩ = some (.int .i64 a0_5) := (blk_cell BK122.out 5).trans rfl; have hfz40_0 := blk_frozen BK122.out 0; have hfz40_1 := blk_frozen BK122.out 1; have hfz40_2 := blk_frozen BK122.out 2; have hfz40_3 := blk_frozen BK122.out 3; have hfz40_4 := blk_frozen BK122.out 4; have hfz40_5 := blk_frozen BK122.out 5) | ((with_reducible refine gate_callee (f := 14) rfl ?_); refine goesL_ (some 5) rfl rfl Try.func14 (by kernel_rfl) rfl #[.agg #[.slice A0_0 l0_0.length c0_0]] rfl (by (try simp only [List.map_toArray, List.map_cons, List.map_nil]); first | done | rfl | (simp only [List.length_drop, List.length_take]; rfl)) ?_; (with_reducible refine (ensembleref02_Right.calls k _ _ l0_0 true _ ?side1 ?side2 A2.out).mono ?_); (case side1 => repeat (first | exact (Kd.C_below HR0_0.out HB.out) | (with_reducible refine Kd.C_alloc ?_ _) | (with_reducible refine Kd.C_drewN ?_ _) | (with_reducible refine Kd.C_drew ?_))); (case side2 => exact HC0_0.out); rintro e w41 ⟨rfl, hb⟩; refine ⟨_, rfl, ?_⟩; have n0_ := Aside0.mk (blk_below (g := gb122) (o := .cells #[.slice A0_0 l0_0.length c0_0, .slice A0_1 l0_1.length c0_1, .int .i64 a0_2, .int .i64 a0_3, .int .i64 a0_4, .int .i64 a0_5] 27 (0, 0)) (by (with_reducible repeat (first | refine blk_drewN ?_ _ | refine blk_drew ?_ | refine blk_alloc ?_ _)); exact BK122.out) hb); have n1_ := Aside0.mk (below_step (by repeat (first | (with_reducible first | exact HB.out | apply below_alloc | apply pw_below_drewN | apply below_drew1 | refine below_set ?_ GE122.out) | exact HB.out)) hb); clear BK122; clear HB; have BK122 := n0_; have HB := n1_; clear n0_ n1_; (try clear hb); (try clear hb2); (try clear hk); (try clear hi); have hcz42_0 : w41.cell? ⟨gb122, 0, none⟩ = some (.slice A0_0 l0_0.length c0_0) := (blk_cell BK122.out 0).trans rfl; have hcz42_1 : w41.cell? ⟨gb122, 1, none⟩ = some (.slice A0_1 l0_1.length c0_1) := (blk_cell BK122.out 1).trans rfl; have hcz42_2 : w41.cell? ⟨gb122, 2, none⟩ = some (.int .i64 a0_2) := (blk_cell BK122.out 2).trans rfl; have hcz42_3 : w41.cell? ⟨gb122, 3, none⟩ = some (.int .i64 a0_3) := (blk_cell BK122.out 3).trans rfl; have hcz42_4 : w41.cell? ⟨gb122, 4, none⟩ = some (.int .i64 a0_4) := (blk_cell BK122.out 4).trans rfl; have hcz42_5 : w41.cell? ⟨gb122, 5, none⟩ = some (.int .i64 a0_5) := (blk_cell BK122.out 5).trans rfl; have hfz42_0 := blk_frozen BK122.out 0; have hfz42_1 := blk_frozen BK122.out 1; have hfz42_2 := blk_frozen BK122.out 2; have hfz42_3 := blk_frozen BK122.out 3; have hfz42_4 := blk_frozen BK122.out 4; have hfz42_5 := blk_frozen BK122.out 5) | (go_at_call 16; (with_reducible refine (ensembleref16_quotas.calls k _ _ l0_0 _ _ l0_1 a0_2 a0_3 a0_4 a0_5 t124 _ ?side1 ?side2 ?side3 ?side4 A4.out).mono ?_); (case side1 => repeat (first | exact (Kd.C_below HR0_0.out HB.out) | (with_reducible refine Kd.C_alloc ?_ _) | (with_reducible refine Kd.C_drewN ?_ _) | (with_reducible refine Kd.C_drew ?_))); (case side2 => exact HC0_0.out); (case side3 => repeat (first | exact (Kd.C_below HR0_1.out HB.out) | (with_reducible refine Kd.C_alloc ?_ _) | (with_reducible refine Kd.C_drewN ?_ _) | (with_reducible refine Kd.C_drew ?_))); (case side4 => exact HC0_1.out); rintro e w43 ⟨v125, rfl, ho0, hb⟩; have n0_ := Aside0.mk (Kd.R_lower ho0 (below_size (by repeat (first | (with_reducible first | exact HB.out | apply below_alloc | apply pw_below_drewN | apply below_drew1 | refine below_set ?_ GE122.out) | exact HB.out)))); have n1_ := Aside0.mk (blk_below (g := gb122) (o := .cells #[.slice A0_0 l0_0.length c0_0, .slice A0_1 l0_1.length c0_1, .int .i64 a0_2, .int .i64 a0_3, .int .i64 a0_4, .int .i64 a0_5] 27 (0, 0)) (by (with_reducible repeat (first | refine blk_drewN ?_ _ | refine blk_drew ?_ | refine blk_alloc ?_ _)); exact BK122.out) hb); have n2_ := Aside0.mk (below_step (by repeat (first | (with_reducible first | exact HB.out | apply below_alloc | apply pw_below_drewN | apply below_drew1 | refine below_set ?_ GE122.out) | exact HB.out)) hb); clear BK122; clear HB; have HO126 := n0_; have BK122 := n1_; have HB := n2_; clear n0_ n1_ n2_; (try clear hb); (try clear hb2); (try clear hk); (try clear hi); (try clear ho0); obtain ⟨Ao44, co44, eo44⟩ := Kd.R_slice HO126.out; subst eo44) | (go_at_call 15; (with_reducible refine (ensembleref06_Right.calls k _ _ t124 true _ ?side1 ?side2 A5.out).mono ?_); (case side1 => repeat (first | exact (Kd.R_reads' HO126.out).2.2 | (with_reducible refine Kd.C_alloc ?_ _) | (with_reducible refine Kd.C_drewN ?_ _) | (with_reducible refine Kd.C_drew ?_))); (case side2 => exact (Kd.R_reads' HO126.out).2.1); rintro e w45 ⟨rfl, hb⟩; have n0_ := Aside0.mk (Kd.R_below (by (with_reducible repeat (first | apply Kd.R_alloc | apply Kd.R_drewN | apply Kd.R_drew)); exact HO126.out) hb); have n1_ := Aside0.mk (blk_below (g := gb122) (o := .cells #[.slice A0_0 l0_0.length c0_0, .slice A0_1 l0_1.length c0_1, .int .i64 a0_2, .int .i64 a0_3, .int .i64 a0_4, .int .i64 a0_5] 27 (0, 0)) (by (with_reducible repeat (first | refine blk_drewN ?_ _ | refine blk_drew ?_ | refine blk_alloc ?_ _)); exact BK122.out) hb); have n2_ := Aside0.mk (below_step (by repeat (first | (with_reducible first | exact HB.out | apply below_alloc | apply pw_below_drewN | apply below_drew1 | refine below_set ?_ GE122.out) | exact HB.out)) hb); clear HO126; clear BK122; clear HB; have HO126 := n0_; have BK122 := n1_; have HB := n2_; clear n0_ n1_ n2_; (try clear hb); (try clear hb2); (try clear hk); (try clear hi); have hcz46_0 : w45.cell? ⟨gb122, 0, none⟩ = some (.slice A0_0 l0_0.length c0_0) := (blk_cell BK122.out 0).trans rfl; have hcz46_1 : w45.cell? ⟨gb122, 1, none⟩ = some (.slice A0_1 l0_1.length c0_1) := (blk_cell BK122.out 1).trans rfl; have hcz46_2 : w45.cell? ⟨gb122, 2, none⟩ = some (.int .i64 a0_2) := (blk_cell BK122.out 2).trans rfl; have hcz46_3 : w45.cell? ⟨gb122, 3, none⟩ = some (.int .i64 a0_3) := (blk_cell BK122.out 3).trans rfl; have hcz46_4 : w45.cell? ⟨gb122, 4, none⟩ = some (.int .i64 a0_4) := (blk_cell BK122.out 4).trans rfl; have hcz46_5 : w45.cell? ⟨gb122, 5, none⟩ = some (.int .i64 a0_5) := (blk_cell BK122.out 5).trans rfl; have hfz46_0 := blk_frozen BK122.out 0; have hfz46_1 := blk_frozen BK122.out 1; have hfz46_2 := blk_frozen BK122.out 2; have hfz46_3 := blk_frozen BK122.out 3; have hfz46_4 := blk_frozen BK122.out 4; have hfz46_5 := blk_frozen BK122.out 5) | (go_at_call 18; (with_reducible refine (ensembleref16_rooms.calls k _ _ l0_0 _ _ l0_1 a0_2 a0_3 a0_4 a0_5 t128 _ ?side1 ?side2 ?side3 ?side4 A7.out).mono ?_); (case side1 => repeat (first | exact (Kd.C_below HR0_0.out HB.out) | (with_reducible refine Kd.C_alloc ?_ _) | (with_reducible refine Kd.C_drewN ?_ _) | (with_reducible refine Kd.C_drew ?_))); (case side2 => exact HC0_0.out); (case side3 => repeat (first | exact (Kd.C_below HR0_1.out HB.out) | (with_reducible refine Kd.C_alloc ?_ _) | (with_reducible refine Kd.C_drewN ?_ _) | (with_reducible refine Kd.C_drew ?_))); (case side4 => exact HC0_1.out); rintro e w47 ⟨v129, rfl, ho0, hb⟩; have n0_ := Aside0.mk (Kd.R_below (by (with_reducible repeat (first | apply Kd.R_alloc | apply Kd.R_drewN | apply Kd.R_drew)); exact HO126.out) hb); have n1_ := Aside0.mk (Kd.R_lower ho0 (below_size (by repeat (first | (with_reducible first | exact HB.out | apply below_alloc | apply pw_below_drewN | apply below_drew1 | refine below_set ?_ GE122.out) | exact HB.out)))); have n2_ := Aside0.mk (blk_below (g := gb122) (o := .cells #[.slice A0_0 l0_0.length c0_0, .slice A0_1 l0_1.length c0_1, .int .i64 a0_2, .int .i64 a0_3, .int .i64 a0_4, .int .i64 a0_5] 27 (0, 0)) (by (with_reducible repeat (first | refine blk_drewN ?_ _ | refine blk_drew ?_ | refine blk_alloc ?_ _)); exact BK122.out) hb); have n3_ := Aside0.mk (below_step (by repeat (first | (with_reducible first | exact HB.out | apply below_alloc | apply pw_below_drewN | apply below_drew1 | refine below_set ?_ GE122.out) | exact HB.out)) hb); clear HO126; clear BK122; clear HB; have HO126 := n0_; have HO130 := n1_; have BK122 := n2_; have HB := n3_; clear n0_ n1_ n2_ n3_; (try clear hb); (try clear hb2); (try clear hk); (try clear hi); (try clear ho0); obtain ⟨Ao48, co48, eo48⟩ := Kd.R_slice HO130.out; subst eo48) | (go_at_call 17; (with_reducible refine (ensembleref10_Right.calls k _ _ t128 true _ ?side1 ?side2 A8.out).mono ?_); (case side1 => repeat (first | exact (Kd.R_reads' HO130.out).2.2 | (with_reducible refine Kd.C_alloc ?_ _) | (with_reducible refine Kd.C_drewN ?_ _) | (with_reducible refine Kd.C_drew ?_))); (case side2 => exact (Kd.R_reads' HO130.out).2.1); rintro e w' ⟨rfl, ⟨nd, rfl⟩⟩; have hcz49_0 : w47.cell? ⟨gb122, 0, none⟩ = some (.slice A0_0 l0_0.length c0_0) := (blk_cell BK122.out 0).trans rfl; have hcz49_1 : w47.cell? ⟨gb122, 1, none⟩ = some (.slice A0_1 l0_1.length c0_1) := (blk_cell BK122.out 1).trans rfl; have hcz49_2 : w47.cell? ⟨gb122, 2, none⟩ = some (.int .i64 a0_2) := (blk_cell BK122.out 2).trans rfl; have hcz49_3 : w47.cell? ⟨gb122, 3, none⟩ = some (.int .i64 a0_3) := (blk_cell BK122.out 3).trans rfl; have hcz49_4 : w47.cell? ⟨gb122, 4, none⟩ = some (.int .i64 a0_4) := (blk_cell BK122.out 4).trans rfl; have hcz49_5 : w47.cell? ⟨gb122, 5, none⟩ = some (.int .i64 a0_5) := (blk_cell BK122.out 5).trans rfl; have hfz49_0 := blk_frozen BK122.out 0; have hfz49_1 := blk_frozen BK122.out 1; have hfz49_2 := blk_frozen BK122.out 2; have hfz49_3 := blk_frozen BK122.out 3; have hfz49_4 := blk_frozen BK122.out 4; have hfz49_5 := blk_frozen BK122.out 5) | (go_at_call 19; (with_reducible refine (ensembleref16_in.calls a0_2 1 4 true _ A10.out).mono ?_); rintro e w' ⟨rfl, ⟨nd, rfl⟩⟩) | (go_at_call 19; (with_reducible refine (ensembleref16_in.calls a0_3 0 64 false _ A12.out).mono ?_); rintro e w' ⟨rfl, ⟨nd, rfl⟩⟩))
      go_ret
      exact ⟨by first | rfl | (simp [errW_none, errW_some] <;> rfl) | (simp [*, errW_none, errW_some] <;> rfl), by repeat (first | (with_reducible first | exact HB.out | apply below_alloc | apply pw_below_drewN | apply below_drew1 | refine below_set ?_ GE122.out) | exact HB.out)⟩
    ·replace c11 := Bool.eq_false_iff.mpr c11
     subst c11
     have H1 : (some false) = some r := by rw [if_neg (show ¬ (false = true) by decide)] at H; exact H
     clear H
     have H := H1
     clear H1
     obtain rfl := Option.some.inj H
     go_enter Try.func6, Try.ntmps6
     go_wp2_with (first | ((with_reducible refine gate_dst (N := 1) rfl ?_); refine box_event ?hg (N := 1) ?hd (cs := #[.slice A0_0 l0_0.length c0_0, .slice A0_1 l0_1.length c0_1, .int .i64 a0_2, .int .i64 a0_3, .int .i64 a0_4, .int .i64 a0_5]) (t := 27) ?hr ?_; (case hd => rfl); (case hg => rfl); (case hr => first | (go_simp; done) | (go_simp; rfl)); intro gb122 hg w50 hbox hb; have n0_ := Aside0.mk (below_step (by repeat (first | (with_reducible first | exact HB.out | apply below_alloc | apply pw_below_drewN | apply below_drew1) | exact HB.out)) hb); have n1_ := Aside0.mk (hbox); have n2_ := Aside0.mk ((by rw [hg]; exact (below_size (by repeat (first | (with_reducible first | exact HB.out | apply below_alloc | apply pw_below_drewN | apply below_drew1) | exact HB.out))) : w.heap.size ≤ gb122)); have n3_ := Aside0.mk ((by rw [hg]; exact (below_size (by repeat (first | (with_reducible first | exact HB.out | apply below_alloc | apply pw_below_drewN | apply below_drew1) | exact HB.out))) : w.heap.size ≤ gb122)); clear HB; have HB := n0_; have BK122 := n1_; have GW122 := n2_; have GE122 := n3_; clear n0_ n1_ n2_ n3_; clear hb hbox hg; have hcz51_0 : w50.cell? ⟨gb122, 0, none⟩ = some (.slice A0_0 l0_0.length c0_0) := (blk_cell BK122.out 0).trans rfl; have hcz51_1 : w50.cell? ⟨gb122, 1, none⟩ = some (.slice A0_1 l0_1.length c0_1) := (blk_cell BK122.out 1).trans rfl; have hcz51_2 : w50.cell? ⟨gb122, 2, none⟩ = some (.int .i64 a0_2) := (blk_cell BK122.out 2).trans rfl; have hcz51_3 : w50.cell? ⟨gb122, 3, none⟩ = some (.int .i64 a0_3) := (blk_cell BK122.out 3).trans rfl; have hcz51_4 : w50.cell? ⟨gb122, 4, none⟩ = some (.int .i64 a0_4) := (blk_cell BK122.out 4).trans rfl; have hcz51_5 : w50.cell? ⟨gb122, 5, none⟩ = some (.int .i64 a0_5) := (blk_cell BK122.out 5).trans rfl; have hfz51_0 := blk_frozen BK122.out 0; have hfz51_1 := blk_frozen BK122.out 1; have hfz51_2 := blk_frozen BK122.out 2; have hfz51_3 := blk_frozen BK122.out 3; have hfz51_4 := blk_frozen BK122.out 4; have hfz51_5 := blk_frozen BK122.out 5) | ((with_reducible refine gate_callee (f := 14) rfl ?_); refine goesL_ (some 5) rfl rfl Try.func14 (by kernel_rfl) rfl #[.agg #[.slice A0_0 l0_0.length c0_0]] rfl (by (try simp only [List.map_toArray, List.map_cons, List.map_nil]); first | done | rfl | (simp only [List.length_drop, List.length_take]; rfl)) ?_; (with_reducible refine (ensembleref02_Right.calls k _ _ l0_0 true _ ?side1 ?side2 A2.out).mono ?_); (case side1 => repeat (first | exact (Kd.C_below HR0_0.out HB.out) | (with_reducible refine Kd.C_alloc ?_ _) | (with_reducible refine Kd.C_drewN ?_ _) | (with_reducible refine Kd.C_drew ?_))); (case side2 => exact HC0_0.out); rintro e w52 ⟨rfl, hb⟩; refine ⟨_, rfl, ?_⟩; have n0_ := Aside0.mk (blk_below (g := gb122) (o := .cells #[.slice A0_0 l0_0.length c0_0, .slice A0_1 l0_1.length c0_1, .int .i64 a0_2, .int .i64 a0_3, .int .i64 a0_4, .int .i64 a0_5] 27 (0, 0)) (by (with_reducible repeat (first | refine blk_drewN ?_ _ | refine blk_drew ?_ | refine blk_alloc ?_ _)); exact BK122.out) hb); have n1_ := Aside0.mk (below_step (by repeat (first | (with_reducible first | exact HB.out | apply below_alloc | apply pw_below_drewN | apply below_drew1 | refine below_set ?_ GE122.out) | exact HB.out)) hb); clear BK122; clear HB; have BK122 := n0_; have HB := n1_; clear n0_ n1_; (try clear hb); (try clear hb2); (try clear hk); (try clear hi); have hcz53_0 : w52.cell? ⟨gb122, 0, none⟩ = some (.slice A0_0 l0_0.length c0_0) := (blk_cell BK122.out 0).trans rfl; have hcz53_1 : w52.cell? ⟨gb122, 1, none⟩ = some (.slice A0_1 l0_1.length c0_1) := (blk_cell BK122.out 1).trans rfl; have hcz53_2 : w52.cell? ⟨gb122, 2, none⟩ = some (.int .i64 a0_2) := (blk_cell BK122.out 2).trans rfl; have hcz53_3 : w52.cell? ⟨gb122, 3, none⟩ = some (.int .i64 a0_3) := (blk_cell BK122.out 3).trans rfl; have hcz53_4 : w52.cell? ⟨gb122, 4, none⟩ = some (.int .i64 a0_4) := (blk_cell BK122.out 4).trans rfl; have hcz53_5 : w52.cell? ⟨gb122, 5, none⟩ = some (.int .i64 a0_5) := (blk_cell BK122.out 5).trans rfl; have hfz53_0 := blk_frozen BK122.out 0; have hfz53_1 := blk_frozen BK122.out 1; have hfz53_2 := blk_frozen BK122.out 2; have hfz53_3 := blk_frozen BK122.out 3; have hfz53_4 := blk_frozen BK122.out 4; have hfz53_5 := blk_frozen BK122.out 5) | (go_at_call 16; (with_reducible refine (ensembleref16_quotas.calls k _ _ l0_0 _ _ l0_1 a0_2 a0_3 a0_4 a0_5 t124 _ ?side1 ?side2 ?side3 ?side4 A4.out).mono ?_); (case side1 => repeat (first | exact (Kd.C_below HR0_0.out HB.out) | (with_reducible refine Kd.C_alloc ?_ _) | (with_reducible refine Kd.C_drewN ?_ _) | (with_reducible refine Kd.C_drew ?_))); (case side2 => exact HC0_0.out); (case side3 => repeat (first | exact (Kd.C_below HR0_1.out HB.out) | (with_reducible refine Kd.C_alloc ?_ _) | (with_reducible refine Kd.C_drewN ?_ _) | (with_reducible refine Kd.C_drew ?_))); (case side4 => exact HC0_1.out); rintro e w54 ⟨v125, rfl, ho0, hb⟩; have n0_ := Aside0.mk (Kd.R_lower ho0 (below_size (by repeat (first | (with_reducible first | exact HB.out | apply below_alloc | apply pw_below_drewN | apply below_drew1 | refine below_set ?_ GE122.out) | exact HB.out)))); have n1_ := Aside0.mk (blk_below (g := gb122) (o := .cells #[.slice A0_0 l0_0.length c0_0, .slice A0_1 l0_1.length c0_1, .int .i64 a0_2, .int .i64 a0_3, .int .i64 a0_4, .int .i64 a0_5] 27 (0, 0)) (by (with_reducible repeat (first | refine blk_drewN ?_ _ | refine blk_drew ?_ | refine blk_alloc ?_ _)); exact BK122.out) hb); have n2_ := Aside0.mk (below_step (by repeat (first | (with_reducible first | exact HB.out | apply below_alloc | apply pw_below_drewN | apply below_drew1 | refine below_set ?_ GE122.out) | exact HB.out)) hb); clear BK122; clear HB; have HO126 := n0_; have BK122 := n1_; have HB := n2_; clear n0_ n1_ n2_; (try clear hb); (try clear hb2); (try clear hk); (try clear hi); (try clear ho0); obtain ⟨Ao55, co55, eo55⟩ := Kd.R_slice HO126.out; subst eo55) | (go_at_call 15; (with_reducible refine (ensembleref06_Right.calls k _ _ t124 true _ ?side1 ?side2 A5.out).mono ?_); (case side1 => repeat (first | exact (Kd.R_reads' HO126.out).2.2 | (with_reducible refine Kd.C_alloc ?_ _) | (with_reducible refine Kd.C_drewN ?_ _) | (with_reducible refine Kd.C_drew ?_))); (case side2 => exact (Kd.R_reads' HO126.out).2.1); rintro e w56 ⟨rfl, hb⟩; have n0_ := Aside0.mk (Kd.R_below (by (with_reducible repeat (first | apply Kd.R_alloc | apply Kd.R_drewN | apply Kd.R_drew)); exact HO126.out) hb); have n1_ := Aside0.mk (blk_below (g := gb122) (o := .cells #[.slice A0_0 l0_0.length c0_0, .slice A0_1 l0_1.length c0_1, .int .i64 a0_2, .int .i64 a0_3, .int .i64 a0_4, .int .i64 a0_5] 27 (0, 0)) (by (with_reducible repeat (first | refine blk_drewN ?_ _ | refine blk_drew ?_ | refine blk_alloc ?_ _)); exact BK122.out) hb); have n2_ := Aside0.mk (below_step (by repeat (first | (with_reducible first | exact HB.out | apply below_alloc | apply pw_below_drewN | apply below_drew1 | refine below_set ?_ GE122.out) | exact HB.out)) hb); clear HO126; clear BK122; clear HB; have HO126 := n0_; have BK122 := n1_; have HB := n2_; clear n0_ n1_ n2_; (try clear hb); (try clear hb2); (try clear hk); (try clear hi); have hcz57_0 : w56.cell? ⟨gb122, 0, none⟩ = some (.slice A0_0 l0_0.length c0_0) := (blk_cell BK122.out 0).trans rfl; have hcz57_1 : w56.cell? ⟨gb122, 1, none⟩ = some (.slice A0_1 l0_1.length c0_1) := (blk_cell BK122.out 1).trans rfl; have hcz57_2 : w56.cell? ⟨gb122, 2, none⟩ = some (.int .i64 a0_2) := (blk_cell BK122.out 2).trans rfl; have hcz57_3 : w56.cell? ⟨gb122, 3, none⟩ = some (.int .i64 a0_3) := (blk_cell BK122.out 3).trans rfl; have hcz57_4 : w56.cell? ⟨gb122, 4, none⟩ = some (.int .i64 a0_4) := (blk_cell BK122.out 4).trans rfl; have hcz57_5 : w56.cell? ⟨gb122, 5, none⟩ = some (.int .i64 a0_5) := (blk_cell BK122.out 5).trans rfl; have hfz57_0 := blk_frozen BK122.out 0; have hfz57_1 := blk_frozen BK122.out 1; have hfz57_2 := blk_frozen BK122.out 2; have hfz57_3 := blk_frozen BK122.out 3; have hfz57_4 := blk_frozen BK122.out 4; have hfz57_5 := blk_frozen BK122.out 5) | (go_at_call 18; (with_reducible refine (ensembleref16_rooms.calls k _ _ l0_0 _ _ l0_1 a0_2 a0_3 a0_4 a0_5 t128 _ ?side1 ?side2 ?side3 ?side4 A7.out).mono ?_); (case side1 => repeat (first | exact (Kd.C_below HR0_0.out HB.out) | (with_reducible refine Kd.C_alloc ?_ _) | (with_reducible refine Kd.C_drewN ?_ _) | (with_reducible refine Kd.C_drew ?_))); (case side2 => exact HC0_0.out); (case side3 => repeat (first | exact (Kd.C_below HR0_1.out HB.out) | (with_reducible refine Kd.C_alloc ?_ _) | (with_reducible refine Kd.C_drewN ?_ _) | (with_reducible refine Kd.C_drew ?_))); (case side4 => exact HC0_1.out); rintro e w58 ⟨v129, rfl, ho0, hb⟩; have n0_ := Aside0.mk (Kd.R_below (by (with_reducible repeat (first | apply Kd.R_alloc | apply Kd.R_drewN | apply Kd.R_drew)); exact HO126.out) hb); have n1_ := Aside0.mk (Kd.R_lower ho0 (below_size (by repeat (first | (with_reducible first | exact HB.out | apply below_alloc | apply pw_below_drewN | apply below_drew1 | refine below_set ?_ GE122.out) | exact HB.out)))); have n2_ := Aside0.mk (blk_below (g := gb122) (o := .cells #[.slice A0_0 l0_0.length c0_0, .slice A0_1 l0_1.length c0_1, .int .i64 a0_2, .int .i64 a0_3, .int .i64 a0_4, .int .i64 a0_5] 27 (0, 0)) (by (with_reducible repeat (first | refine blk_drewN ?_ _ | refine blk_drew ?_ | refine blk_alloc ?_ _)); exact BK122.out) hb); have n3_ := Aside0.mk (below_step (by repeat (first | (with_reducible first | exact HB.out | apply below_alloc | apply pw_below_drewN | apply below_drew1 | refine below_set ?_ GE122.out) | exact HB.out)) hb); clear HO126; clear BK122; clear HB; have HO126 := n0_; have HO130 := n1_; have BK122 := n2_; have HB := n3_; clear n0_ n1_ n2_ n3_; (try clear hb); (try clear hb2); (try clear hk); (try clear hi); (try clear ho0); obtain ⟨Ao59, co59, eo59⟩ := Kd.R_slice HO130.out; subst eo59) | (go_at_call 17; (with_reducible refine (ensembleref10_Right.calls k _ _ t128 true _ ?side1 ?side2 A8.out).mono ?_); (case side1 => repeat (first | exact (Kd.R_reads' HO130.out).2.2 | (with_reducible refine Kd.C_alloc ?_ _) | (with_reducible refine Kd.C_drewN ?_ _) | (with_reducible refine Kd.C_drew ?_))); (case side2 => exact (Kd.R_reads' HO130.out).2.1); rintro e w' ⟨rfl, ⟨nd, rfl⟩⟩; have hcz60_0 : w58.cell? ⟨gb122, 0, none⟩ = some (.slice A0_0 l0_0.length c0_0) := (blk_cell BK122.out 0).trans rfl; have hcz60_1 : w58.cell? ⟨gb122, 1, none⟩ = some (.slice A0_1 l0_1.length c0_1) := (blk_cell BK122.out 1).trans rfl; have hcz60_2 : w58.cell? ⟨gb122, 2, none⟩ = some (.int .i64 a0_2) := (blk_cell BK122.out 2).trans rfl; have hcz60_3 : w58.cell? ⟨gb122, 3, none⟩ = some (.int .i64 a0_3) := (blk_cell BK122.out 3).trans rfl; have hcz60_4 : w58.cell? ⟨gb122, 4, none⟩ = some (.int .i64 a0_4) := (blk_cell BK122.out 4).trans rfl; have hcz60_5 : w58.cell? ⟨gb122, 5, none⟩ = some (.int .i64 a0_5) := (blk_cell BK122.out 5).trans rfl; have hfz60_0 := blk_frozen BK122.out 0; have hfz60_1 := blk_frozen BK122.out 1; have hfz60_2 := blk_frozen BK122.out 2; have hfz60_3 := blk_frozen BK122.out 3; have hfz60_4 := blk_frozen BK122.out 4; have hfz60_5 := blk_frozen BK122.out 5) | (go_at_call 19; (with_reducible refine (ensembleref16_in.calls a0_2 1 4 false _ A10.out).mono ?_); rintro e w' ⟨rfl, ⟨nd, rfl⟩⟩))
     go_ret
     exact ⟨by first | rfl | (simp [errW_none, errW_some] <;> rfl) | (simp [*, errW_none, errW_some] <;> rfl), by repeat (first | (with_reducible first | exact HB.out | apply below_alloc | apply pw_below_drewN | apply below_drew1 | refine below_set ?_ GE122.out) | exact HB.out)⟩
   ·replace c9 := Bool.eq_false_iff.mpr c9
    subst c9
    have H1 : (some false) = some r := by rw [if_neg (show ¬ (false = true) by decide)] at H; exact H
    clear H
    have H := H1
    clear H1
    obtain rfl := Option.some.inj H
    go_enter Try.func6, Try.ntmps6
    go_wp2_with (first | ((with_reducible refine gate_dst (N := 1) rfl ?_); refine box_event ?hg (N := 1) ?hd (cs := #[.slice A0_0 l0_0.length c0_0, .slice A0_1 l0_1.length c0_1, .int .i64 a0_2, .int .i64 a0_3, .int .i64 a0_4, .int .i64 a0_5]) (t := 27) ?hr ?_; (case hd => rfl); (case hg => rfl); (case hr => first | (go_simp; done) | (go_simp; rfl)); intro gb122 hg w61 hbox hb; have n0_ := Aside0.mk (below_step (by repeat (first | (with_reducible first | exact HB.out | apply below_alloc | apply pw_below_drewN | apply below_drew1) | exact HB.out)) hb); have n1_ := Aside0.mk (hbox); have n2_ := Aside0.mk ((by rw [hg]; exact (below_size (by repeat (first | (with_reducible first | exact HB.out | apply below_alloc | apply pw_below_drewN | apply below_drew1) | exact HB.out))) : w.heap.size ≤ gb122)); have n3_ := Aside0.mk ((by rw [hg]; exact (below_size (by repeat (first | (with_reducible first | exact HB.out | apply below_alloc | apply pw_below_drewN | apply below_drew1) | exact HB.out))) : w.heap.size ≤ gb122)); clear HB; have HB := n0_; have BK122 := n1_; have GW122 := n2_; have GE122 := n3_; clear n0_ n1_ n2_ n3_; clear hb hbox hg; have hcz62_0 : w61.cell? ⟨gb122, 0, none⟩ = some (.slice A0_0 l0_0.length c0_0) := (blk_cell BK122.out 0).trans rfl; have hcz62_1 : w61.cell? ⟨gb122, 1, none⟩ = some (.slice A0_1 l0_1.length c0_1) := (blk_cell BK122.out 1).trans rfl; have hcz62_2 : w61.cell? ⟨gb122, 2, none⟩ = some (.int .i64 a0_2) := (blk_cell BK122.out 2).trans rfl; have hcz62_3 : w61.cell? ⟨gb122, 3, none⟩ = some (.int .i64 a0_3) := (blk_cell BK122.out 3).trans rfl; have hcz62_4 : w61.cell? ⟨gb122, 4, none⟩ = some (.int .i64 a0_4) := (blk_cell BK122.out 4).trans rfl; have hcz62_5 : w61.cell? ⟨gb122, 5, none⟩ = some (.int .i64 a0_5) := (blk_cell BK122.out 5).trans rfl; have hfz62_0 := blk_frozen BK122.out 0; have hfz62_1 := blk_frozen BK122.out 1; have hfz62_2 := blk_frozen BK122.out 2; have hfz62_3 := blk_frozen BK122.out 3; have hfz62_4 := blk_frozen BK122.out 4; have hfz62_5 := blk_frozen BK122.out 5) | ((with_reducible refine gate_callee (f := 14) rfl ?_); refine goesL_ (some 5) rfl rfl Try.func14 (by kernel_rfl) rfl #[.agg #[.slice A0_0 l0_0.length c0_0]] rfl (by (try simp only [List.map_toArray, List.map_cons, List.map_nil]); first | done | rfl | (simp only [List.length_drop, List.length_take]; rfl)) ?_; (with_reducible refine (ensembleref02_Right.calls k _ _ l0_0 true _ ?side1 ?side2 A2.out).mono ?_); (case side1 => repeat (first | exact (Kd.C_below HR0_0.out HB.out) | (with_reducible refine Kd.C_alloc ?_ _) | (with_reducible refine Kd.C_drewN ?_ _) | (with_reducible refine Kd.C_drew ?_))); (case side2 => exact HC0_0.out); rintro e w63 ⟨rfl, hb⟩; refine ⟨_, rfl, ?_⟩; have n0_ := Aside0.mk (blk_below (g := gb122) (o := .cells #[.slice A0_0 l0_0.length c0_0, .slice A0_1 l0_1.length c0_1, .int .i64 a0_2, .int .i64 a0_3, .int .i64 a0_4, .int .i64 a0_5] 27 (0, 0)) (by (with_reducible repeat (first | refine blk_drewN ?_ _ | refine blk_drew ?_ | refine blk_alloc ?_ _)); exact BK122.out) hb); have n1_ := Aside0.mk (below_step (by repeat (first | (with_reducible first | exact HB.out | apply below_alloc | apply pw_below_drewN | apply below_drew1 | refine below_set ?_ GE122.out) | exact HB.out)) hb); clear BK122; clear HB; have BK122 := n0_; have HB := n1_; clear n0_ n1_; (try clear hb); (try clear hb2); (try clear hk); (try clear hi); have hcz64_0 : w63.cell? ⟨gb122, 0, none⟩ = some (.slice A0_0 l0_0.length c0_0) := (blk_cell BK122.out 0).trans rfl; have hcz64_1 : w63.cell? ⟨gb122, 1, none⟩ = some (.slice A0_1 l0_1.length c0_1) := (blk_cell BK122.out 1).trans rfl; have hcz64_2 : w63.cell? ⟨gb122, 2, none⟩ = some (.int .i64 a0_2) := (blk_cell BK122.out 2).trans rfl; have hcz64_3 : w63.cell? ⟨gb122, 3, none⟩ = some (.int .i64 a0_3) := (blk_cell BK122.out 3).trans rfl; have hcz64_4 : w63.cell? ⟨gb122, 4, none⟩ = some (.int .i64 a0_4) := (blk_cell BK122.out 4).trans rfl; have hcz64_5 : w63.cell? ⟨gb122, 5, none⟩ = some (.int .i64 a0_5) := (blk_cell BK122.out 5).trans rfl; have hfz64_0 := blk_frozen BK122.out 0; have hfz64_1 := blk_frozen BK122.out 1; have hfz64_2 := blk_frozen BK122.out 2; have hfz64_3 := blk_frozen BK122.out 3; have hfz64_4 := blk_frozen BK122.out 4; have hfz64_5 := blk_frozen BK122.out 5) | (go_at_call 16; (with_reducible refine (ensembleref16_quotas.calls k _ _ l0_0 _ _ l0_1 a0_2 a0_3 a0_4 a0_5 t124 _ ?side1 ?side2 ?side3 ?side4 A4.out).mono ?_); (case side1 => repeat (first | exact (Kd.C_below HR0_0.out HB.out) | (with_reducible refine Kd.C_alloc ?_ _) | (with_reducible refine Kd.C_drewN ?_ _) | (with_reducible refine Kd.C_drew ?_))); (case side2 => exact HC0_0.out); (case side3 => repeat (first | exact (Kd.C_below HR0_1.out HB.out) | (with_reducible refine Kd.C_alloc ?_ _) | (with_reducible refine Kd.C_drewN ?_ _) | (with_reducible refine Kd.C_drew ?_))); (case side4 => exact HC0_1.out); rintro e w65 ⟨v125, rfl, ho0, hb⟩; have n0_ := Aside0.mk (Kd.R_lower ho0 (below_size (by repeat (first | (with_reducible first | exact HB.out | apply below_alloc | apply pw_below_drewN | apply below_drew1 | refine below_set ?_ GE122.out) | exact HB.out)))); have n1_ := Aside0.mk (blk_below (g := gb122) (o := .cells #[.slice A0_0 l0_0.length c0_0, .slice A0_1 l0_1.length c0_1, .int .i64 a0_2, .int .i64 a0_3, .int .i64 a0_4, .int .i64 a0_5] 27 (0, 0)) (by (with_reducible repeat (first | refine blk_drewN ?_ _ | refine blk_drew ?_ | refine blk_alloc ?_ _)); exact BK122.out) hb); have n2_ := Aside0.mk (below_step (by repeat (first | (with_reducible first | exact HB.out | apply below_alloc | apply pw_below_drewN | apply below_drew1 | refine below_set ?_ GE122.out) | exact HB.out)) hb); clear BK122; clear HB; have HO126 := n0_; have BK122 := n1_; have HB := n2_; clear n0_ n1_ n2_; (try clear hb); (try clear hb2); (try clear hk); (try clear hi); (try clear ho0); obtain ⟨Ao66, co66, eo66⟩ := Kd.R_slice HO126.out; subst eo66) | (go_at_call 15; (with_reducible refine (ensembleref06_Right.calls k _ _ t124 true _ ?side1 ?side2 A5.out).mono ?_); (case side1 => repeat (first | exact (Kd.R_reads' HO126.out).2.2 | (with_reducible refine Kd.C_alloc ?_ _) | (with_reducible refine Kd.C_drewN ?_ _) | (with_reducible refine Kd.C_drew ?_))); (case side2 => exact (Kd.R_reads' HO126.out).2.1); rintro e w67 ⟨rfl, hb⟩; have n0_ := Aside0.mk (Kd.R_below (by (with_reducible repeat (first | apply Kd.R_alloc | apply Kd.R_drewN | apply Kd.R_drew)); exact HO126.out) hb); have n1_ := Aside0.mk (blk_below (g := gb122) (o := .cells #[.slice A0_0 l0_0.length c0_0, .slice A0_1 l0_1.length c0_1, .int .i64 a0_2, .int .i64 a0_3, .int .i64 a0_4, .int .i64 a0_5] 27 (0, 0)) (by (with_reducible repeat (first | refine blk_drewN ?_ _ | refine blk_drew ?_ | refine blk_alloc ?_ _)); exact BK122.out) hb); have n2_ := Aside0.mk (below_step (by repeat (first | (with_reducible first | exact HB.out | apply below_alloc | apply pw_below_drewN | apply below_drew1 | refine below_set ?_ GE122.out) | exact HB.out)) hb); clear HO126; clear BK122; clear HB; have HO126 := n0_; have BK122 := n1_; have HB := n2_; clear n0_ n1_ n2_; (try clear hb); (try clear hb2); (try clear hk); (try clear hi); have hcz68_0 : w67.cell? ⟨gb122, 0, none⟩ = some (.slice A0_0 l0_0.length c0_0) := (blk_cell BK122.out 0).trans rfl; have hcz68_1 : w67.cell? ⟨gb122, 1, none⟩ = some (.slice A0_1 l0_1.length c0_1) := (blk_cell BK122.out 1).trans rfl; have hcz68_2 : w67.cell? ⟨gb122, 2, none⟩ = some (.int .i64 a0_2) := (blk_cell BK122.out 2).trans rfl; have hcz68_3 : w67.cell? ⟨gb122, 3, none⟩ = some (.int .i64 a0_3) := (blk_cell BK122.out 3).trans rfl; have hcz68_4 : w67.cell? ⟨gb122, 4, none⟩ = some (.int .i64 a0_4) := (blk_cell BK122.out 4).trans rfl; have hcz68_5 : w67.cell? ⟨gb122, 5, none⟩ = some (.int .i64 a0_5) := (blk_cell BK122.out 5).trans rfl; have hfz68_0 := blk_frozen BK122.out 0; have hfz68_1 := blk_frozen BK122.out 1; have hfz68_2 := blk_frozen BK122.out 2; have hfz68_3 := blk_frozen BK122.out 3; have hfz68_4 := blk_frozen BK122.out 4; have hfz68_5 := blk_frozen BK122.out 5) | (go_at_call 18; (with_reducible refine (ensembleref16_rooms.calls k _ _ l0_0 _ _ l0_1 a0_2 a0_3 a0_4 a0_5 t128 _ ?side1 ?side2 ?side3 ?side4 A7.out).mono ?_); (case side1 => repeat (first | exact (Kd.C_below HR0_0.out HB.out) | (with_reducible refine Kd.C_alloc ?_ _) | (with_reducible refine Kd.C_drewN ?_ _) | (with_reducible refine Kd.C_drew ?_))); (case side2 => exact HC0_0.out); (case side3 => repeat (first | exact (Kd.C_below HR0_1.out HB.out) | (with_reducible refine Kd.C_alloc ?_ _) | (with_reducible refine Kd.C_drewN ?_ _) | (with_reducible refine Kd.C_drew ?_))); (case side4 => exact HC0_1.out); rintro e w69 ⟨v129, rfl, ho0, hb⟩; have n0_ := Aside0.mk (Kd.R_below (by (with_reducible repeat (first | apply Kd.R_alloc | apply Kd.R_drewN | apply Kd.R_drew)); exact HO126.out) hb); have n1_ := Aside0.mk (Kd.R_lower ho0 (below_size (by repeat (first | (with_reducible first | exact HB.out | apply below_alloc | apply pw_below_drewN | apply below_drew1 | refine below_set ?_ GE122.out) | exact HB.out)))); have n2_ := Aside0.mk (blk_below (g := gb122) (o := .cells #[.slice A0_0 l0_0.length c0_0, .slice A0_1 l0_1.length c0_1, .int .i64 a0_2, .int .i64 a0_3, .int .i64 a0_4, .int .i64 a0_5] 27 (0, 0)) (by (with_reducible repeat (first | refine blk_drewN ?_ _ | refine blk_drew ?_ | refine blk_alloc ?_ _)); exact BK122.out) hb); have n3_ := Aside0.mk (below_step (by repeat (first | (with_reducible first | exact HB.out | apply below_alloc | apply pw_below_drewN | apply below_drew1 | refine below_set ?_ GE122.out) | exact HB.out)) hb); clear HO126; clear BK122; clear HB; have HO126 := n0_; have HO130 := n1_; have BK122 := n2_; have HB := n3_; clear n0_ n1_ n2_ n3_; (try clear hb); (try clear hb2); (try clear hk); (try clear hi); (try clear ho0); obtain ⟨Ao70, co70, eo70⟩ := Kd.R_slice HO130.out; subst eo70) | (go_at_call 17; (with_reducible refine (ensembleref10_Right.calls k _ _ t128 false _ ?side1 ?side2 A8.out).mono ?_); (case side1 => repeat (first | exact (Kd.R_reads' HO130.out).2.2 | (with_reducible refine Kd.C_alloc ?_ _) | (with_reducible refine Kd.C_drewN ?_ _) | (with_reducible refine Kd.C_drew ?_))); (case side2 => exact (Kd.R_reads' HO130.out).2.1); rintro e w' ⟨rfl, ⟨nd, rfl⟩⟩))
    go_ret
    exact ⟨by first | rfl | (simp [errW_none, errW_some] <;> rfl) | (simp [*, errW_none, errW_some] <;> rfl), by repeat (first | (with_reducible first | exact HB.out | apply below_alloc | apply pw_below_drewN | apply below_drew1 | refine below_set ?_ GE122.out) | exact HB.out)⟩
  ·replace c6 := Bool.eq_false_iff.mpr c6
   subst c6
   have H1 : (some false) = some r := by rw [if_neg (show ¬ (false = true) by decide)] at H; exact H
   clear H
   have H := H1
   clear H1
   obtain rfl := Option.some.inj H
   go_enter Try.func6, Try.ntmps6
   go_wp2_with (first | ((with_reducible refine gate_dst (N := 1) rfl ?_); refine box_event ?hg (N := 1) ?hd (cs := #[.slice A0_0 l0_0.length c0_0, .slice A0_1 l0_1.length c0_1, .int .i64 a0_2, .int .i64 a0_3, .int .i64 a0_4, .int .i64 a0_5]) (t := 27) ?hr ?_; (case hd => rfl); (case hg => rfl); (case hr => first | (go_simp; done) | (go_simp; rfl)); intro gb122 hg w71 hbox hb; have n0_ := Aside0.mk (below_step (by repeat (first | (with_reducible first | exact HB.out | apply below_alloc | apply pw_below_drewN | apply below_drew1) | exact HB.out)) hb); have n1_ := Aside0.mk (hbox); have n2_ := Aside0.mk ((by rw [hg]; exact (below_size (by repeat (first | (with_reducible first | exact HB.out | apply below_alloc | apply pw_below_drewN | apply below_drew1) | exact HB.out))) : w.heap.size ≤ gb122)); have n3_ := Aside0.mk ((by rw [hg]; exact (below_size (by repeat (first | (with_reducible first | exact HB.out | apply below_alloc | apply pw_below_drewN | apply below_drew1) | exact HB.out))) : w.heap.size ≤ gb122)); clear HB; have HB := n0_; have BK122 := n1_; have GW122 := n2_; have GE122 := n3_; clear n0_ n1_ n2_ n3_; clear hb hbox hg; have hcz72_0 : w71.cell? ⟨gb122, 0, none⟩ = some (.slice A0_0 l0_0.length c0_0) := (blk_cell BK122.out 0).trans rfl; have hcz72_1 : w71.cell? ⟨gb122, 1, none⟩ = some (.slice A0_1 l0_1.length c0_1) := (blk_cell BK122.out 1).trans rfl; have hcz72_2 : w71.cell? ⟨gb122, 2, none⟩ = some (.int .i64 a0_2) := (blk_cell BK122.out 2).trans rfl; have hcz72_3 : w71.cell? ⟨gb122, 3, none⟩ = some (.int .i64 a0_3) := (blk_cell BK122.out 3).trans rfl; have hcz72_4 : w71.cell? ⟨gb122, 4, none⟩ = some (.int .i64 a0_4) := (blk_cell BK122.out 4).trans rfl; have hcz72_5 : w71.cell? ⟨gb122, 5, none⟩ = some (.int .i64 a0_5) := (blk_cell BK122.out 5).trans rfl; have hfz72_0 := blk_frozen BK122.out 0; have hfz72_1 := blk_frozen BK122.out 1; have hfz72_2 := blk_frozen BK122.out 2; have hfz72_3 := blk_frozen BK122.out 3; have hfz72_4 := blk_frozen BK122.out 4; have hfz72_5 := blk_frozen BK122.out 5) | ((with_reducible refine gate_callee (f := 14) rfl ?_); refine goesL_ (some 5) rfl rfl Try.func14 (by kernel_rfl) rfl #[.agg #[.slice A0_0 l0_0.length c0_0]] rfl (by (try simp only [List.map_toArray, List.map_cons, List.map_nil]); first | done | rfl | (simp only [List.length_drop, List.length_take]; rfl)) ?_; (with_reducible refine (ensembleref02_Right.calls k _ _ l0_0 true _ ?side1 ?side2 A2.out).mono ?_); (case side1 => repeat (first | exact (Kd.C_below HR0_0.out HB.out) | (with_reducible refine Kd.C_alloc ?_ _) | (with_reducible refine Kd.C_drewN ?_ _) | (with_reducible refine Kd.C_drew ?_))); (case side2 => exact HC0_0.out); rintro e w73 ⟨rfl, hb⟩; refine ⟨_, rfl, ?_⟩; have n0_ := Aside0.mk (blk_below (g := gb122) (o := .cells #[.slice A0_0 l0_0.length c0_0, .slice A0_1 l0_1.length c0_1, .int .i64 a0_2, .int .i64 a0_3, .int .i64 a0_4, .int .i64 a0_5] 27 (0, 0)) (by (with_reducible repeat (first | refine blk_drewN ?_ _ | refine blk_drew ?_ | refine blk_alloc ?_ _)); exact BK122.out) hb); have n1_ := Aside0.mk (below_step (by repeat (first | (with_reducible first | exact HB.out | apply below_alloc | apply pw_below_drewN | apply below_drew1 | refine below_set ?_ GE122.out) | exact HB.out)) hb); clear BK122; clear HB; have BK122 := n0_; have HB := n1_; clear n0_ n1_; (try clear hb); (try clear hb2); (try clear hk); (try clear hi); have hcz74_0 : w73.cell? ⟨gb122, 0, none⟩ = some (.slice A0_0 l0_0.length c0_0) := (blk_cell BK122.out 0).trans rfl; have hcz74_1 : w73.cell? ⟨gb122, 1, none⟩ = some (.slice A0_1 l0_1.length c0_1) := (blk_cell BK122.out 1).trans rfl; have hcz74_2 : w73.cell? ⟨gb122, 2, none⟩ = some (.int .i64 a0_2) := (blk_cell BK122.out 2).trans rfl; have hcz74_3 : w73.cell? ⟨gb122, 3, none⟩ = some (.int .i64 a0_3) := (blk_cell BK122.out 3).trans rfl; have hcz74_4 : w73.cell? ⟨gb122, 4, none⟩ = some (.int .i64 a0_4) := (blk_cell BK122.out 4).trans rfl; have hcz74_5 : w73.cell? ⟨gb122, 5, none⟩ = some (.int .i64 a0_5) := (blk_cell BK122.out 5).trans rfl; have hfz74_0 := blk_frozen BK122.out 0; have hfz74_1 := blk_frozen BK122.out 1; have hfz74_2 := blk_frozen BK122.out 2; have hfz74_3 := blk_frozen BK122.out 3; have hfz74_4 := blk_frozen BK122.out 4; have hfz74_5 := blk_frozen BK122.out 5) | (go_at_call 16; (with_reducible refine (ensembleref16_quotas.calls k _ _ l0_0 _ _ l0_1 a0_2 a0_3 a0_4 a0_5 t124 _ ?side1 ?side2 ?side3 ?side4 A4.out).mono ?_); (case side1 => repeat (first | exact (Kd.C_below HR0_0.out HB.out) | (with_reducible refine Kd.C_alloc ?_ _) | (with_reducible refine Kd.C_drewN ?_ _) | (with_reducible refine Kd.C_drew ?_))); (case side2 => exact HC0_0.out); (case side3 => repeat (first | exact (Kd.C_below HR0_1.out HB.out) | (with_reducible refine Kd.C_alloc ?_ _) | (with_reducible refine Kd.C_drewN ?_ _) | (with_reducible refine Kd.C_drew ?_))); (case side4 => exact HC0_1.out); rintro e w75 ⟨v125, rfl, ho0, hb⟩; have n0_ := Aside0.mk (Kd.R_lower ho0 (below_size (by repeat (first | (with_reducible first | exact HB.out | apply below_alloc | apply pw_below_drewN | apply below_drew1 | refine below_set ?_ GE122.out) | exact HB.out)))); have n1_ := Aside0.mk (blk_below (g := gb122) (o := .cells #[.slice A0_0 l0_0.length c0_0, .slice A0_1 l0_1.length c0_1, .int .i64 a0_2, .int .i64 a0_3, .int .i64 a0_4, .int .i64 a0_5] 27 (0, 0)) (by (with_reducible repeat (first | refine blk_drewN ?_ _ | refine blk_drew ?_ | refine blk_alloc ?_ _)); exact BK122.out) hb); have n2_ := Aside0.mk (below_step (by repeat (first | (with_reducible first | exact HB.out | apply below_alloc | apply pw_below_drewN | apply below_drew1 | refine below_set ?_ GE122.out) | exact HB.out)) hb); clear BK122; clear HB; have HO126 := n0_; have BK122 := n1_; have HB := n2_; clear n0_ n1_ n2_; (try clear hb); (try clear hb2); (try clear hk); (try clear hi); (try clear ho0); obtain ⟨Ao76, co76, eo76⟩ := Kd.R_slice HO126.out; subst eo76) | (go_at_call 15; (with_reducible refine (ensembleref06_Right.calls k _ _ t124 false _ ?side1 ?side2 A5.out).mono ?_); (case side1 => repeat (first | exact (Kd.R_reads' HO126.out).2.2 | (with_reducible refine Kd.C_alloc ?_ _) | (with_reducible refine Kd.C_drewN ?_ _) | (with_reducible refine Kd.C_drew ?_))); (case side2 => exact (Kd.R_reads' HO126.out).2.1); rintro e w77 ⟨rfl, hb⟩; have n0_ := Aside0.mk (Kd.R_below (by (with_reducible repeat (first | apply Kd.R_alloc | apply Kd.R_drewN | apply Kd.R_drew)); exact HO126.out) hb); have n1_ := Aside0.mk (blk_below (g := gb122) (o := .cells #[.slice A0_0 l0_0.length c0_0, .slice A0_1 l0_1.length c0_1, .int .i64 a0_2, .int .i64 a0_3, .int .i64 a0_4, .int .i64 a0_5] 27 (0, 0)) (by (with_reducible repeat (first | refine blk_drewN ?_ _ | refine blk_drew ?_ | refine blk_alloc ?_ _)); exact BK122.out) hb); have n2_ := Aside0.mk (below_step (by repeat (first | (with_reducible first | exact HB.out | apply below_alloc | apply pw_below_drewN | apply below_drew1 | refine below_set ?_ GE122.out) | exact HB.out)) hb); clear HO126; clear BK122; clear HB; have HO126 := n0_; have BK122 := n1_; have HB := n2_; clear n0_ n1_ n2_; (try clear hb); (try clear hb2); (try clear hk); (try clear hi)))
   go_ret
   exact ⟨by first | rfl | (simp [errW_none, errW_some] <;> rfl) | (simp [*, errW_none, errW_some] <;> rfl), by repeat (first | (with_reducible first | exact HB.out | apply below_alloc | apply pw_below_drewN | apply below_drew1 | refine below_set ?_ GE122.out) | exact HB.out)⟩
 ·replace c3 := Bool.eq_false_iff.mpr c3
  subst c3
  have H1 : (some false) = some r := by rw [if_neg (show ¬ (false = true) by decide)] at H; exact H
  clear H
  have H := H1
  clear H1
  obtain rfl := Option.some.inj H
  go_enter Try.func6, Try.ntmps6
  go_wp2_with (first | ((with_reducible refine gate_dst (N := 1) rfl ?_); refine box_event ?hg (N := 1) ?hd (cs := #[.slice A0_0 l0_0.length c0_0, .slice A0_1 l0_1.length c0_1, .int .i64 a0_2, .int .i64 a0_3, .int .i64 a0_4, .int .i64 a0_5]) (t := 27) ?hr ?_; (case hd => rfl); (case hg => rfl); (case hr => first | (go_simp; done) | (go_simp; rfl)); intro gb122 hg w78 hbox hb; have n0_ := Aside0.mk (below_step (by repeat (first | (with_reducible first | exact HB.out | apply below_alloc | apply pw_below_drewN | apply below_drew1) | exact HB.out)) hb); have n1_ := Aside0.mk (hbox); have n2_ := Aside0.mk ((by rw [hg]; exact (below_size (by repeat (first | (with_reducible first | exact HB.out | apply below_alloc | apply pw_below_drewN | apply below_drew1) | exact HB.out))) : w.heap.size ≤ gb122)); have n3_ := Aside0.mk ((by rw [hg]; exact (below_size (by repeat (first | (with_reducible first | exact HB.out | apply below_alloc | apply pw_below_drewN | apply below_drew1) | exact HB.out))) : w.heap.size ≤ gb122)); clear HB; have HB := n0_; have BK122 := n1_; have GW122 := n2_; have GE122 := n3_; clear n0_ n1_ n2_ n3_; clear hb hbox hg; have hcz79_0 : w78.cell? ⟨gb122, 0, none⟩ = some (.slice A0_0 l0_0.length c0_0) := (blk_cell BK122.out 0).trans rfl; have hcz79_1 : w78.cell? ⟨gb122, 1, none⟩ = some (.slice A0_1 l0_1.length c0_1) := (blk_cell BK122.out 1).trans rfl; have hcz79_2 : w78.cell? ⟨gb122, 2, none⟩ = some (.int .i64 a0_2) := (blk_cell BK122.out 2).trans rfl; have hcz79_3 : w78.cell? ⟨gb122, 3, none⟩ = some (.int .i64 a0_3) := (blk_cell BK122.out 3).trans rfl; have hcz79_4 : w78.cell? ⟨gb122, 4, none⟩ = some (.int .i64 a0_4) := (blk_cell BK122.out 4).trans rfl; have hcz79_5 : w78.cell? ⟨gb122, 5, none⟩ = some (.int .i64 a0_5) := (blk_cell BK122.out 5).trans rfl; have hfz79_0 := blk_frozen BK122.out 0; have hfz79_1 := blk_frozen BK122.out 1; have hfz79_2 := blk_frozen BK122.out 2; have hfz79_3 := blk_frozen BK122.out 3; have hfz79_4 := blk_frozen BK122.out 4; have hfz79_5 := blk_frozen BK122.out 5) | ((with_reducible refine gate_callee (f := 14) rfl ?_); refine goesL_ (some 5) rfl rfl Try.func14 (by kernel_rfl) rfl #[.agg #[.slice A0_0 l0_0.length c0_0]] rfl (by (try simp only [List.map_toArray, List.map_cons, List.map_nil]); first | done | rfl | (simp only [List.length_drop, List.length_take]; rfl)) ?_; (with_reducible refine (ensembleref02_Right.calls k _ _ l0_0 false _ ?side1 ?side2 A2.out).mono ?_); (case side1 => repeat (first | exact (Kd.C_below HR0_0.out HB.out) | (with_reducible refine Kd.C_alloc ?_ _) | (with_reducible refine Kd.C_drewN ?_ _) | (with_reducible refine Kd.C_drew ?_))); (case side2 => exact HC0_0.out); rintro e w80 ⟨rfl, hb⟩; refine ⟨_, rfl, ?_⟩; have n0_ := Aside0.mk (blk_below (g := gb122) (o := .cells #[.slice A0_0 l0_0.length c0_0, .slice A0_1 l0_1.length c0_1, .int .i64 a0_2, .int .i64 a0_3, .int .i64 a0_4, .int .i64 a0_5] 27 (0, 0)) (by (with_reducible repeat (first | refine blk_drewN ?_ _ | refine blk_drew ?_ | refine blk_alloc ?_ _)); exact BK122.out) hb); have n1_ := Aside0.mk (below_step (by repeat (first | (with_reducible first | exact HB.out | apply below_alloc | apply pw_below_drewN | apply below_drew1 | refine below_set ?_ GE122.out) | exact HB.out)) hb); clear BK122; clear HB; have BK122 := n0_; have HB := n1_; clear n0_ n1_; (try clear hb); (try clear hb2); (try clear hk); (try clear hi)))
  go_ret
  exact ⟨by first | rfl | (simp [errW_none, errW_some] <;> rfl) | (simp [*, errW_none, errW_some] <;> rfl), by repeat (first | (with_reducible first | exact HB.out | apply below_alloc | apply pw_below_drewN | apply below_drew1 | refine below_set ?_ GE122.out) | exact HB.out)⟩
end Go.Proofs.Ytpedlompipabdaa.P
namespace Go.Proofs.Ytpedlompipabdaa.P
open Go.RowKit Go.Proofs.YtpedlompipabdaaW.PrintWords Go.Proofs.YtpedlompipabdaaW.PrintLast Go.Proofs.YtpedlompipabdaaW.PrintMore
attribute [local go_sem] max2_int min2_int max_two min_two max_three min_three max_four min_four
set_option linter.unusedVariables false
set_option linter.unusedSimpArgs false
theorem eqA56 (d : Nat) (w : World) (x0 y0 : Int) (x1 y1 : Int) :
  (Op.equalIn (d + 2) 56 (.agg #[.int .i64 x0, .int .i64 x1]) (.agg #[.int .i64 y0, .int .i64 y1])).run Try.prog w = .ok (x0 == y0 && (x1 == y1)) w := by
 refine eqA_of Try.underlying56 (by kernel_rfl) ?_
 refine eqf_cons (by rfl) (by go_simp; rfl) (by go_simp; rfl) (by go_simp) ?_
 exact eqf_last (by rfl) (by go_simp; rfl) (by go_simp; rfl) (by go_simp)
end Go.Proofs.Ytpedlompipabdaa.P
namespace Go.Proofs.Ytpedlompipabdaa.P
open Go.RowKit Go.Proofs.YtpedlompipabdaaW.PrintWords Go.Proofs.YtpedlompipabdaaW.PrintLast Go.Proofs.YtpedlompipabdaaW.PrintMore
attribute [local go_sem] max2_int min2_int max_two min_two max_three min_three max_four min_four
set_option linter.unusedVariables false
set_option linter.unusedSimpArgs false
attribute [local go_sem high] eqA56
def ensembleref05_find.l0 : Nat → List (S58) → Int → Int → Int → Option (Int)
 | 0, _, _, _, _ => none
 | k + 1, x0, x5, x137000, x137001 => if x5 < (x0.length : Int) then (if 0 ≤ x5 then (if (((rd_T58 x0 x5).f0.f0) == x137000 && (((rd_T58 x0 x5).f0.f1) == x137001)) = true then (some x5) else (ensembleref05_find.l0 k x0 (wrap64 (x5 + 1)) x137000 x137001)) else (none)) else (some (-1))
def ensembleref05_find.f (k : Nat) (l0 : List (S58)) (a1_0 : Int) (a1_1 : Int) : Option (Int) := ensembleref05_find.l0 k l0 0 a1_0 a1_1
theorem ensembleref05_find.mono_l : ∀ k, (∀ y0 y1 y2 y3, LeO (ensembleref05_find.l0 k y0 y1 y2 y3) (ensembleref05_find.l0 (k + 1) y0 y1 y2 y3))
 | 0 => fun _ _ _ _ r h => by simp [ensembleref05_find.l0] at h
 | k + 1 => by
  have ih0 := ensembleref05_find.mono_l k
  ·intro y0 y1 y2 y3
   unfold ensembleref05_find.l0
   repeat' first
   | (with_reducible exact ih0 _ _ _ _)
   | (with_reducible exact LeO.refl _)
   | (with_reducible exact LeO.none _)
   | (with_reducible refine LeO.ite ?_ ?_)
   | (with_reducible refine LeO.bind ?_ (fun _ => ?_))
   | exact ih0 _ _ _ _
   | exact LeO.none _
   | refine LeO.ite ?_ ?_
   | refine LeO.bind ?_ (fun _ => ?_)
theorem ensembleref05_find.mono : ∀ a0 a1 a2 k, LeO (ensembleref05_find.f k a0 a1 a2) (ensembleref05_find.f (k + 1) a0 a1 a2) := by
 intro a0 a1 a2 k
 have ih0 := ensembleref05_find.mono_l k
 unfold ensembleref05_find.f
 repeat' first
   | (with_reducible exact ih0 _ _ _ _)
   | (with_reducible exact LeO.refl _)
   | (with_reducible exact LeO.none _)
   | (with_reducible refine LeO.ite ?_ ?_)
   | (with_reducible refine LeO.bind ?_ (fun _ => ?_))
   | exact ih0 _ _ _ _
   | exact LeO.none _
   | refine LeO.ite ?_ ?_
   | refine LeO.bind ?_ (fun _ => ?_)
set_option maxHeartbeats 8000000 in
set_option maxRecDepth 100000 in
theorem ensembleref05_find.calls (k : Nat) (A0 : Option Addr) (c0 : Nat) (l0 : List (S58)) (a1_0 : Int) (a1_1 : Int) (r : Int) (w : World) (hr0 : Kd.C k58 w A0 l0.length l0) (hc0 : l0.length ≤ c0) (h : ensembleref05_find.f k l0 a1_0 a1_1 = some r) :
  Calls Try.prog 31 #[.slice A0 l0.length c0, .agg #[.int .i64 a1_0, .int .i64 a1_1]] w fun e w' => e = .returned (.int .i64 r) ∧ Below w.heap.size w w' := by
 have hu56 := Try.underlying56
 have HR0 := Aside0.mk hr0
 have HC0 := Aside0.mk hc0
 clear hr0 hc0
 have HB := Aside0.mk (Below.refl w.heap.size w)
 have H : (ensembleref05_find.l0 k l0 0 a1_0 a1_1) = some r := h
 clear h
 have H' := Aside0.mk H
 clear H
 go_enter Try.func31, Try.ntmps31
 go_wp2_with (first | ((with_reducible refine gate_dst (N := 3) rfl ?_); refine box_event ?hg (N := 3) ?hd (cs := #[.int .i64 a1_0, .int .i64 a1_1]) (t := 56) ?hr ?_; (case hd => rfl); (case hg => rfl); (case hr => first | (go_simp; done) | (go_simp; rfl)); intro gb136 hg w3 hbox hb; have n0_ := Aside0.mk (below_step (by repeat (first | (with_reducible first | exact HB.out | apply below_alloc | apply pw_below_drewN | apply below_drew1) | exact HB.out)) hb); have n1_ := Aside0.mk (hbox); have n2_ := Aside0.mk ((by rw [hg]; exact (below_size (by repeat (first | (with_reducible first | exact HB.out | apply below_alloc | apply pw_below_drewN | apply below_drew1) | exact HB.out))) : w.heap.size ≤ gb136)); have n3_ := Aside0.mk ((by rw [hg]; exact (below_size (by repeat (first | (with_reducible first | exact HB.out | apply below_alloc | apply pw_below_drewN | apply below_drew1) | exact HB.out))) : w.heap.size ≤ gb136)); clear HB; have HB := n0_; have BK136 := n1_; have GW136 := n2_; have GE136 := n3_; clear n0_ n1_ n2_ n3_; clear hb hbox hg))
 repeat (go_quiet (first | ((with_reducible refine gate_dst (N := 3) rfl ?_); refine box_event ?hg (N := 3) ?hd (cs := #[.int .i64 a1_0, .int .i64 a1_1]) (t := 56) ?hr ?_; (case hd => rfl); (case hg => rfl); (case hr => first | (go_simp; done) | (go_simp; rfl)); intro gb136 hg w3 hbox hb; have n0_ := Aside0.mk (below_step (by repeat (first | (with_reducible first | exact HB.out | apply below_alloc | apply pw_below_drewN | apply below_drew1) | exact HB.out)) hb); have n1_ := Aside0.mk (hbox); have n2_ := Aside0.mk ((by rw [hg]; exact (below_size (by repeat (first | (with_reducible first | exact HB.out | apply below_alloc | apply pw_below_drewN | apply below_drew1) | exact HB.out))) : w.heap.size ≤ gb136)); have n3_ := Aside0.mk ((by rw [hg]; exact (below_size (by repeat (first | (with_reducible first | exact HB.out | apply below_alloc | apply pw_below_drewN | apply below_drew1) | exact HB.out))) : w.heap.size ≤ gb136)); clear HB; have HB := n0_; have BK136 := n1_; have GW136 := n2_; have GE136 := n3_; clear n0_ n1_ n2_ n3_; clear hb hbox hg)); try go_wp2_with (first | ((with_reducible refine gate_dst (N := 3) rfl ?_); refine box_event ?hg (N := 3) ?hd (cs := #[.int .i64 a1_0, .int .i64 a1_1]) (t := 56) ?hr ?_; (case hd => rfl); (case hg => rfl); (case hr => first | (go_simp; done) | (go_simp; rfl)); intro gb136 hg w3 hbox hb; have n0_ := Aside0.mk (below_step (by repeat (first | (with_reducible first | exact HB.out | apply below_alloc | apply pw_below_drewN | apply below_drew1) | exact HB.out)) hb); have n1_ := Aside0.mk (hbox); have n2_ := Aside0.mk ((by rw [hg]; exact (below_size (by repeat (first | (with_reducible first | exact HB.out | apply below_alloc | apply pw_below_drewN | apply below_drew1) | exact HB.out))) : w.heap.size ≤ gb136)); have n3_ := Aside0.mk ((by rw [hg]; exact (below_size (by repeat (first | (with_reducible first | exact HB.out | apply below_alloc | apply pw_below_drewN | apply below_drew1) | exact HB.out))) : w.heap.size ≤ gb136)); clear HB; have HB := n0_; have BK136 := n1_; have GW136 := n2_; have GE136 := n3_; clear n0_ n1_ n2_ n3_; clear hb hbox hg)))
 go_loopg [5] k (fun kq v5 w' => ∃ (x5_1 : Int), v5 = .int .i64 x5_1 ∧ Aside0 (ensembleref05_find.l0 kq l0 x5_1 a1_0 a1_1 = some r) ∧ Aside0 (kq ≤ k) ∧ Aside0 (w'.heap[gb136]? = some (.cells #[.int .i64 a1_0, .int .i64 a1_1] 56 (0, 0))) ∧ Aside0 (Below w.heap.size w w'))
 case atStart => exact ⟨(0), (by first | rfl | (simp; done) | (simp [*]; done)), H', ⟨Nat.le_refl _⟩, ⟨by (with_reducible repeat (first | refine blk_drewN ?_ _ | refine blk_drew ?_ | refine blk_alloc ?_ _)); exact BK136.out⟩, ⟨by repeat (first | (with_reducible first | exact HB.out | apply below_alloc | apply pw_below_drewN | apply below_drew1 | refine below_set ?_ GE136.out) | exact HB.out)⟩⟩
 case round =>
  clear H'
  try clear p2
  try clear c3
  obtain ⟨x5_1, rfl, HA, HK1, BK136, HB⟩ := hrel
  cases gk with
  | zero => exact absurd HA.out (by simp [ensembleref05_find.l0])
  | succ k1 =>
   have H := HA.out
   clear HA
   simp only [ensembleref05_find.l0] at H
   by_cases c4 : x5_1 < (l0.length : Int)
   ·rw [if_pos c4] at H
    have c4b0 : decide (x5_1 < (l0.length : Int)) = true := decide_eq_true c4
    clear c4
    by_cases c5 : 0 ≤ x5_1
    ·rw [if_pos c5] at H
     have c5b0 : decide (0 ≤ x5_1) = true := decide_eq_true c5
     clear c5
     by_cases c6 : (((rd_T58 l0 x5_1).f0.f0) == a1_0 && (((rd_T58 l0 x5_1).f0.f1) == a1_1)) = true
     ·rw [if_pos c6] at H
      have c6b0 : (((rd_T58 l0 x5_1).f0.f0) == a1_0 && (((rd_T58 l0 x5_1).f0.f1) == a1_1)) = true := c6
      (try (have c6b1 : decide (((rd_T58 l0 x5_1).f0.f0) = a1_0 && (((rd_T58 l0 x5_1).f0.f1) == a1_1)) = true := by simpa using c6))
      (try (have c6b2 : (((rd_T58 l0 x5_1).f0.f0) == a1_0 && (((rd_T58 l0 x5_1).f0.f1) == a1_1)) = true := by simpa using c6))
      clear c6
      obtain rfl := Option.some.inj H
      have p137 : 0 ≤ (x5_1 : Int) := of_decide_eq_true (by first | (with_reducible assumption) | assumption)
      have q137 : x5_1 < (l0.length : Int) := of_decide_eq_true (by first | (with_reducible assumption) | assumption)
      obtain ⟨ad137, e137, hx137_0, hx137_1, hx137_2, hx137_3⟩ := at_T58 HR0.out x5_1 p137 q137
      cases e137
      replace hx137_0 := (HB.out.cell (World.block_lt_of_cell? w _ hx137_0)).trans hx137_0
      replace hx137_1 := (HB.out.cell (World.block_lt_of_cell? w _ hx137_1)).trans hx137_1
      replace hx137_2 := (HB.out.cell (World.block_lt_of_cell? w _ hx137_2)).trans hx137_2
      replace hx137_3 := (HB.out.cell (World.block_lt_of_cell? w _ hx137_3)).trans hx137_3
      replace p137 := eq_true p137
      replace q137 := eq_true q137
      have hcz7_0 : wr.cell? ⟨gb136, 0, none⟩ = some (.int .i64 a1_0) := (blk_cell BK136.out 0).trans rfl
      have hcz7_1 : wr.cell? ⟨gb136, 1, none⟩ = some (.int .i64 a1_1) := (blk_cell BK136.out 1).trans rfl
      have hfz7_0 := blk_frozen BK136.out 0
      have hfz7_1 := blk_frozen BK136.out 1
      go_wp2
      repeat (go_quiet (fail); try go_wp2)
      go_ret
      exact ⟨by first | rfl | (simp [errW_none, errW_some] <;> rfl) | (simp [*, errW_none, errW_some] <;> rfl), by repeat (first | (with_reducible first | exact HB.out | apply below_alloc | apply pw_below_drewN | apply below_drew1 | refine below_set ?_ GE136.out) | exact HB.out)⟩
     ·rw [if_neg c6] at H
      have c6b0 : (((rd_T58 l0 x5_1).f0.f0) == a1_0 && (((rd_T58 l0 x5_1).f0.f1) == a1_1)) = false := by simpa using c6
      (try (have c6b1 : decide (((rd_T58 l0 x5_1).f0.f0) = a1_0 && (((rd_T58 l0 x5_1).f0.f1) == a1_1)) = false := by simpa using c6))
      (try (have c6b2 : (((rd_T58 l0 x5_1).f0.f0) == a1_0 && (((rd_T58 l0 x5_1).f0.f1) == a1_1)) = false := by simpa using c6))
      (try (have c6b3 : ¬ (((rd_T58 l0 x5_1).f0.f0) = a1_0 && (((rd_T58 l0 x5_1).f0.f1) == a1_1)) := by simpa using c6))
      clear c6
      have H' := Aside0.mk H
      clear H
      have p137 : 0 ≤ (x5_1 : Int) := of_decide_eq_true (by first | (with_reducible assumption) | assumption)
      have q137 : x5_1 < (l0.length : Int) := of_decide_eq_true (by first | (with_reducible assumption) | assumption)
      obtain ⟨ad137, e137, hx137_0, hx137_1, hx137_2, hx137_3⟩ := at_T58 HR0.out x5_1 p137 q137
      cases e137
      replace hx137_0 := (HB.out.cell (World.block_lt_of_cell? w _ hx137_0)).trans hx137_0
      replace hx137_1 := (HB.out.cell (World.block_lt_of_cell? w _ hx137_1)).trans hx137_1
      replace hx137_2 := (HB.out.cell (World.block_lt_of_cell? w _ hx137_2)).trans hx137_2
      replace hx137_3 := (HB.out.cell (World.block_lt_of_cell? w _ hx137_3)).trans hx137_3
      replace p137 := eq_true p137
      replace q137 := eq_true q137
      have hcz8_0 : wr.cell? ⟨gb136, 0, none⟩ = some (.int .i64 a1_0) := (blk_cell BK136.out 0).trans rfl
      have hcz8_1 : wr.cell? ⟨gb136, 1, none⟩ = some (.int .i64 a1_1) := (blk_cell BK136.out 1).trans rfl
      have hfz8_0 := blk_frozen BK136.out 0
      have hfz8_1 := blk_frozen BK136.out 1
      go_wp2
      repeat (go_quiet (fail); try go_wp2)
      go_roundg k1
      case measure => have := HK1.out; omega
      case rel => exact ⟨(wrap64 (x5_1 + 1)), (by first | rfl | (simp; done) | (simp [*]; done)), H', ⟨by have := HK1.out; omega⟩, ⟨by (with_reducible repeat (first | refine blk_drewN ?_ _ | refine blk_drew ?_ | refine blk_alloc ?_ _)); exact BK136.out⟩, ⟨by repeat (first | (with_reducible first | exact HB.out | apply below_alloc | apply pw_below_drewN | apply below_drew1 | refine below_set ?_ GE136.out) | exact HB.out)⟩⟩
    ·rw [if_neg c5] at H
     exact absurd H (by simp)
   ·rw [if_neg c4] at H
    have c4b0 : decide (x5_1 < (l0.length : Int)) = false := decide_eq_false c4
    clear c4
    obtain rfl := Option.some.inj H
    go_wp2
    repeat (go_quiet (fail); try go_wp2)
    go_ret
    exact ⟨by first | rfl | (simp [errW_none, errW_some] <;> rfl) | (simp [*, errW_none, errW_some] <;> rfl), by repeat (first | (with_reducible first | exact HB.out | apply below_alloc | apply pw_below_drewN | apply below_drew1 | refine below_set ?_ GE136.out) | exact HB.out)⟩
end Go.Proofs.Ytpedlompipabdaa.P
