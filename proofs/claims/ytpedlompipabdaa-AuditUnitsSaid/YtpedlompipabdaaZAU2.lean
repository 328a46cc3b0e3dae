/- AuditUnits: part 2 of the walk and of the plain law that it comes to. No condition. -/
import Derived.Test.YtpedlompipabdaaZAU1
import Derived.ArgAppend
import Derived.Below
import Derived.BigQuiet
import Derived.BigRegion
import Derived.Carry
import Derived.Deep.AppendLies
import Derived.Deep.CutBlock
import Derived.Deep.DeepCutAuto
import Derived.Deep.Draws
import Derived.Deep.LoopGhost
import Derived.Deep.OwnRows
import Derived.Deep.QuietTactic
import Derived.Deep.RegionHeld3
import Derived.DeepKeys3
import Derived.KernelRfl
import Derived.Laws.Bits64
import Derived.Laws.Bits64b
import Derived.Laws.BitsLemmas
import Derived.Laws.BytesArg
import Derived.Laws.IdiomCopy
import Derived.Laws.MakeOwn
import Derived.Laws.OwnMore
import Derived.Laws.Rows
import Derived.Laws.Slices
import Derived.Lib.AppendStr
import Derived.Lib.ConvBytes
import Derived.Lib.SliceRun
import Derived.LoopTactic
import Derived.Maps.AppendAt
import Derived.Maps.Keyed
import Derived.Maps.Own
import Derived.Maps.OwnOps
import Derived.Maps.OwnSet
import Derived.Maps.Views
import Derived.OrdersHeld
import Derived.OwnWalk
import Derived.RowKit
import Derived.RowKit3
import Derived.Shelf.Abstract
import Derived.StillTailTactics
import Derived.Tactics
import Derived.WalkKit
import Derived.WideLaws
namespace Go.Proofs.Ytpedlompipabdaa.P
open Go.RowKit Go.Proofs.YtpedlompipabdaaW.PrintWords Go.Proofs.YtpedlompipabdaaW.PrintLast Go.Proofs.YtpedlompipabdaaW.PrintMore
set_option linter.unusedVariables false
set_option linter.unusedSimpArgs false
attribute [local go_sem] cellBx frozBx Sit.c0 Sit.c1 Sit.c2 Sit.c3 Sit.c4 Sit.c5 Sit.c6 Sit.c7 Sit.c8 Sit.c9 Sit.c10 Sit.c12 Sit.c13 Sit.c14 Sit.c15
attribute [local go_sem] Oper.semAt_some
open Go.Shelf
def R13.T1 : Bool × List (List Nat × List Nat) := (true, [([], []), ([0], [0]), ([1], [1]), ([2], [2]), ([], []), ([4], [4]), ([5], [5]), ([6], [6]), ([7], [7]), ([8], [8]), ([9], [9]), ([10], [10]), ([], []), ([12], [12]), ([13], [13]), ([14], [14]), ([], []), ([16], [16]), ([17], [17]), ([18], [18]), ([], []), ([], []), ([21], [21]), ([22], [22]), ([23], [23]), ([20, 24], [20, 24]), ([], []), ([], []), ([27], [27]), ([28], [28]), ([29], [29]), ([30], [30]), ([31], [31]), ([32], [32]), ([33], [33]), ([34], [34]), ([35], [35]), ([26, 36, 25], [26, 36]), ([], []), ([], []), ([39], [39]), ([40], [40]), ([41], [41]), ([42], [42]), ([43], [43]), ([44], [44]), ([38, 45, 37], [38, 45]), ([], []), ([], []), ([48], [48]), ([49], [49]), ([50], [50]), ([51], [51]), ([52], [52]), ([53], [53]), ([47, 54, 46], [47, 54]), ([], []), ([56], [56]), ([57], [57]), ([58], [58]), ([59], [59]), ([60], [60]), ([61], [61]), ([62, 55], [62]), ([], []), ([], []), ([65], [65]), ([66], [66]), ([67], [67]), ([68], [68]), ([69], [69]), ([70], [70]), ([71], [71]), ([72], [72]), ([73], [73]), ([64, 74, 63], [64, 74]), ([3, 11, 15, 19, 25, 37, 46, 55, 63, 75], [3, 11, 15, 19, 25, 37, 46, 55, 63, 75]), ([76, 75, 0, 1, 2, 3, 4, 5, 6, 7, 8, 9, 10, 11, 12, 13, 14, 15, 16, 17, 18, 19, 20, 21, 22, 23, 24, 25, 26, 27, 28, 29, 30, 31, 32, 33, 34, 35, 36, 37, 38, 39, 40, 41, 42, 43, 44, 45, 46, 47, 48, 49, 50, 51, 52, 53, 54, 55, 56, 57, 58, 59, 60, 61, 62, 63, 64, 65, 66, 67, 68, 69, 70, 71, 72, 73, 74, 75, 76], [76])])
def R13.B1 : List Nat := [0, 1, 3, 7, 0, 16, 48, 112, 240, 496, 1008, 2032, 0, 4096, 12288, 28672, 0, 65536, 196608, 458752, 0, 0, 2097152, 6291456, 14680064, 32505856, 0, 0, 134217728, 402653184, 939524096, 2013265920, 4160749568, 8455716864, 17045651456, 34225520640, 68585259008, 137437904896, 0, 0, 549755813888, 1649267441664, 3848290697216, 8246337208320, 17042430230528, 34634616274944, 70368743129088, 0, 0, 281474976710656, 844424930131968, 1970324836974592, 4222124650659840, 8725724278030336, 17732923532771328, 36028797017915392, 0, 72057594037927936, 216172782113783808, 504403158265495552, 1080863910568919040, 2233785415175766016, 4539628424389459968, 9223372036853727232, 0, 0, 36893488147419103232, 110680464442257309696, 258254417031933722624, 553402322211286548480, 1143698132569992200192, 2324289753287403503616, 4685472994722226110464, 9407839477591871324160, 18852572443331161751552, 37778931862957160660992, 75557863725914323419135, 151115727451828646838271]
theorem R13.tab1 : rtab .any (opsOf Try.f13 1) = R13.T1 := by kernel_rfl
theorem R13.bits1 : waitsOk R13.T1.2 R13.B1 = true := by kernel_rfl
section
variable {W w : World} {g : Nat} {t : TypeId} {a0 a1 a2 a3 a4 a5 a6 a7 a8 a9 v0 v1 v2 v3 v4 v5 v6 v7 v8 v9 : Value}
theorem store10 [h : Bx W g #[a0, a1, a2, a3, a4, a5, a6, a7, a8, a9] t] : Bx ((((((((((W.setCell ⟨g, 0, none⟩ v0).setCell ⟨g, 1, none⟩ v1).setCell ⟨g, 2, none⟩ v2).setCell ⟨g, 3, none⟩ v3).setCell ⟨g, 4, none⟩ v4).setCell ⟨g, 5, none⟩ v5).setCell ⟨g, 6, none⟩ v6).setCell ⟨g, 7, none⟩ v7).setCell ⟨g, 8, none⟩ v8).setCell ⟨g, 9, none⟩ v9) g #[v0, v1, v2, v3, v4, v5, v6, v7, v8, v9] t :=
 have h : Bx _ g #[v0, a1, a2, a3, a4, a5, a6, a7, a8, a9] t := bxSetS (h := h) (i := 0) (v := v0)
 have h : Bx _ g #[v0, v1, a2, a3, a4, a5, a6, a7, a8, a9] t := bxSetS (h := h) (i := 1) (v := v1)
 have h : Bx _ g #[v0, v1, v2, a3, a4, a5, a6, a7, a8, a9] t := bxSetS (h := h) (i := 2) (v := v2)
 have h : Bx _ g #[v0, v1, v2, v3, a4, a5, a6, a7, a8, a9] t := bxSetS (h := h) (i := 3) (v := v3)
 have h : Bx _ g #[v0, v1, v2, v3, v4, a5, a6, a7, a8, a9] t := bxSetS (h := h) (i := 4) (v := v4)
 have h : Bx _ g #[v0, v1, v2, v3, v4, v5, a6, a7, a8, a9] t := bxSetS (h := h) (i := 5) (v := v5)
 have h : Bx _ g #[v0, v1, v2, v3, v4, v5, v6, a7, a8, a9] t := bxSetS (h := h) (i := 6) (v := v6)
 have h : Bx _ g #[v0, v1, v2, v3, v4, v5, v6, v7, a8, a9] t := bxSetS (h := h) (i := 7) (v := v7)
 have h : Bx _ g #[v0, v1, v2, v3, v4, v5, v6, v7, v8, a9] t := bxSetS (h := h) (i := 8) (v := v8)
 bxSetS (h := h) (i := 9) (v := v9)
theorem store10b [e : Ge w g] [b : Be w W] : Be w ((((((((((W.setCell ⟨g, 0, none⟩ v0).setCell ⟨g, 1, none⟩ v1).setCell ⟨g, 2, none⟩ v2).setCell ⟨g, 3, none⟩ v3).setCell ⟨g, 4, none⟩ v4).setCell ⟨g, 5, none⟩ v5).setCell ⟨g, 6, none⟩ v6).setCell ⟨g, 7, none⟩ v7).setCell ⟨g, 8, none⟩ v8).setCell ⟨g, 9, none⟩ v9) := inferInstance
theorem store10r {α : Type} {k : Kd α} {l : List α} {v : Value} (h : RowV k l v W) (hK : ∀ W W' x c, k.K W x c → k.K W' x c) (hne : ∀ A n c, v = .slice (some A) n c → A.block ≠ g) : RowV k l v ((((((((((W.setCell ⟨g, 0, none⟩ v0).setCell ⟨g, 1, none⟩ v1).setCell ⟨g, 2, none⟩ v2).setCell ⟨g, 3, none⟩ v3).setCell ⟨g, 4, none⟩ v4).setCell ⟨g, 5, none⟩ v5).setCell ⟨g, 6, none⟩ v6).setCell ⟨g, 7, none⟩ v7).setCell ⟨g, 8, none⟩ v8).setCell ⟨g, 9, none⟩ v9) :=
 RowV.far (RowV.far (RowV.far (RowV.far (RowV.far (RowV.far (RowV.far (RowV.far (RowV.far (RowV.far (h) hK hne) hK hne) hK hne) hK hne) hK hne) hK hne) hK hne) hK hne) hK hne) hK hne
end
def StV (v : Value) (w : World) : Prop := ∃ (W D G H F U : Option Addr) (cW cD cG cH cF cU : Nat), v = .agg #[.int .i64 0, .int .i64 0, .int .i64 0, .int .i64 0, .slice W 1 cW, .slice D 1 cD, .slice G 0 cG, .slice H 0 cH, .slice F 1 cF, .slice U 1 cU] ∧ RowV (Kd.int .i64) [0] (.slice W 1 cW) w ∧ RowV Kd.bool [false] (.slice D 1 cD) w ∧ RowV k58 [(⟨⟨0, 0⟩, 15, 8⟩ : S58)] (.slice F 1 cF) w ∧ RowV k49 [⟨0, 0⟩] (.slice U 1 cU) w
def StT (v : Value) (w : World) : Prop := ∃ (W D G H F U : Option Addr) (cW cD cG cH cF cU : Nat), v = .agg #[.int .i64 0, .int .i64 0, .int .i64 0, .int .i64 0, .slice W 1 cW, .slice D 1 cD, .slice G 0 cG, .slice H 0 cH, .slice F 1 cF, .slice U 1 cU] ∧ (RowV (Kd.int .i64) [0] (.slice W 1 cW) w ∧ RowV Kd.bool [false] (.slice D 1 cD) w ∧ RowV k58 [(⟨⟨0, 0⟩, 15, 8⟩ : S58)] (.slice F 1 cF) w ∧ RowV k49 [⟨0, 0⟩] (.slice U 1 cU) w) ∧ OfT 3 (.slice W 1 cW) w ∧ OfT 49 (.slice U 1 cU) w
theorem StT.step {v : Value} {w w' : World} (h : StT v w) (hb : Below w.heap.size w w') : StT v w' := by
 obtain ⟨W, D, G, H, F, U, cW, cD, cG, cH, cF, cU, h1, ⟨h2, h3, h4, h5⟩, h6, h7⟩ := h
 exact ⟨W, D, G, H, F, U, cW, cD, cG, cH, cF, cU, h1, ⟨h2.step hb, h3.step hb, h4.step hb, h5.step hb⟩, h6.step hb, h7.step hb⟩
def post13 : Nat → Value → World → Prop
 | 20, v, w => Lit0 3 1 v w
 | 25, v, w => RowV (Kd.int .i64) [0] v w ∧ OfT 3 v w
 | 26, v, w => Lit0 4 1 v w
 | 37, v, w => RowV Kd.bool [false] v w
 | 38, v, w => Lit0 47 16 v w
 | 46, v, w => RowV k47 [] v w
 | 47, v, w => Lit0 62 5 v w
 | 55, v, w => RowV k62 [] v w
 | 63, v, w => RowV k58 [(⟨⟨0, 0⟩, 15, 8⟩ : S58)] v w
 | 64, v, w => Lit0 49 2 v w
 | 75, v, w => RowV k49 [⟨0, 0⟩] v w ∧ OfT 49 v w
 | 76, v, w => StT v w
 | _, _, _ => True
theorem post13_st (i : Nat) (v : Value) (w w' : World) (h : post13 i v w) (hb : Below w.heap.size w w') : post13 i v w' := by
 unfold post13 at h ⊢
 split at h
 ·exact h.step hb
 ·exact ⟨h.1.step hb, h.2.step hb⟩
 ·exact h.step hb
 ·exact h.step hb
 ·exact h.step hb
 ·exact h.step hb
 ·exact h.step hb
 ·exact h.step hb
 ·exact h.step hb
 ·exact h.step hb
 ·exact ⟨h.1.step hb, h.2.step hb⟩
 ·exact h.step hb
 ·trivial
set_option maxHeartbeats 8000000 in
set_option maxRecDepth 100000 in
theorem state16 (v : Value) (w : World) (hs : Sys v w) : Calls Try.prog 13 #[v] w fun e w' => ∃ v, e = .returned v ∧ StV v w' ∧ Below w.heap.size w w' := by
 have hu96 := Try.underlying96
 have hu65 := Try.underlying65
 have hu86 := Try.underlying86
 have hu88 := Try.underlying88
 have hu93 := Try.underlying93
 have hu102 := Try.underlying102
 have hu99 := Try.underlying99
 have hu98 := Try.underlying98
 have hu100 := Try.underlying100
 have hu105 := Try.underlying105
 have hu28 := Try.underlying28
 have hu29 := Try.underlying29
 have hu30 := Try.underlying30
 have hu31 := Try.underlying31
 have hu32 := Try.underlying32
 have hu33 := Try.underlying33
 have hu35 := Try.underlying35
 have hu3 := Try.underlying3
 have : Be w w := ⟨Below.refl _ _⟩
 obtain ⟨gs, gb, gl, n_, q_, r_, _, rfl, bs, bb, hl, ⟨Aw, cw, rfl, hW, lW⟩⟩ := hs
 have bs2 : Bx w gs #[n_, q_, .int .i64 1, .int .i64 2, .int .i64 9, .int .i64 4, .int .i64 0, .pointer (some ⟨gb, 0, none⟩), r_, .pointer (some ⟨gl, 0, none⟩), .slice Aw 1 cw, .int .i64 0, .int .i64 0] 96 := bs
 obtain ⟨_, gp, ga, e, bl, hp, hac⟩ := hl
 injection e with e
 injection e with e
 injection e with e
 subst e
 have HP := Aside0.mk hp
 obtain ⟨_, va, vt, _, e, bp, _, _, ⟨Ad, cd, rfl, hD, lD⟩⟩ := hp
 injection e with e
 injection e with e
 injection e with e
 subst e
 obtain ⟨_, qv, _, e, ba, ⟨Au, cu, rfl, hU, lU⟩⟩ := hac
 injection e with e
 injection e with e
 injection e with e
 subst e
 have bp2 : Bx w gp #[va, vt, .slice Ad 1 cd] 98 := bp
 have ba2 : Bx w ga #[qv, .slice Au 1 cu] 105 := ba
 clear bs bp ba
 have HRW := Aside0.mk hW
 have HRD := Aside0.mk hD
 have HRU := Aside0.mk hU
 clear hW hD hU lW lD lU
 go_enter Try.func13, Try.ntmps13
 go_upto_region 1 with (fail)
 obtain ⟨g2, w1, _, _, _, e1, e2⟩ := nameA w #[.int .i64 0, .int .i64 0, .int .i64 0, .int .i64 0, .slice none 0 0, .slice none 0 0, .slice none 0 0, .slice none 0 0, .slice none 0 0, .slice none 0 0] 35
 rw [e1, e2]
 clear e1 e2
 refine start_ (n := 78) (S := fun w' => w'.cell? ⟨gs, 6, none⟩ = some (.int .i64 0) ∧ w'.cell? ⟨gs, 7, none⟩ = some (.pointer (some ⟨gb, 0, none⟩)) ∧ w'.cell? ⟨gs, 9, none⟩ = some (.pointer (some ⟨gl, 0, none⟩)) ∧ w'.cell? ⟨gs, 10, none⟩ = some (.slice Aw 1 cw) ∧ w'.cell? ⟨gs, 11, none⟩ = some (.int .i64 0) ∧ w'.cell? ⟨gs, 12, none⟩ = some (.int .i64 0) ∧ w'.cell? ⟨gb, 0, none⟩ = some (.slice none 0 0) ∧ w'.cell? ⟨gl, 0, none⟩ = some (.pointer (some ⟨gp, 0, none⟩)) ∧ w'.cell? ⟨gl, 1, none⟩ = some (.pointer (some ⟨ga, 0, none⟩)) ∧ w'.cell? ⟨gl, 2, none⟩ = some (.slice none 0 0) ∧ w'.cell? ⟨gp, 2, none⟩ = some (.slice Ad 1 cd) ∧ w'.cell? ⟨ga, 1, none⟩ = some (.slice Au 1 cu)) (ds := [77]) #[false, false, false, false, false, false, false, false, false, false, false, false, false, false, false, false, false, false, false, false, false, false, false, false, false, false, false, false, false, false, false, false, false, false, false, false, false, false, false, false, false, false, false, false, false, false, false, false, false, false, false, false, false, false, false, false, false, false, false, false, false, false, false, false, false, false, false, false, false, false, false, false, false, false, false, false, false, false] (by kernel_rfl) rfl rfl ⟨(cellBx _).trans rfl, (cellBx _).trans rfl, (cellBx _).trans rfl, (cellBx _).trans rfl, (cellBx _).trans rfl, (cellBx _).trans rfl, (cellBx _).trans rfl, (cellBx _).trans rfl, (cellBx _).trans rfl, (cellBx _).trans rfl, (cellBx _).trans rfl, (cellBx _).trans rfl⟩ (fun hHeld => ?_)
 refine with_tabW R13.tab1 R13.bits1 (fun HT_ HW_ => ?_)
 refine pure_ (i := 0) (N := some 3) (v := ?_) (a' := ?_) #[true, false, false, false, false, false, false, false, false, false, false, false, false, false, false, false, false, false, false, false, false, false, false, false, false, false, false, false, false, false, false, false, false, false, false, false, false, false, false, false, false, false, false, false, false, false, false, false, false, false, false, false, false, false, false, false, false, false, false, false, false, false, false, false, false, false, false, false, false, false, false, false, false, false, false, false, false, false] rfl rfl (any_of HT_.out (by kernel_rfl)) (fun _ _ _ h => h) (Or.inl ⟨by rfl, ?_⟩) ?_ ?_
 rotate_left
 ·intro w'
  go_simp
  with_reducible rfl
 rotate_left
 ·simp only [Act.put, List.setIfInBounds_toArray, List.set_cons_zero, List.set_cons_succ, i64_w, i32_w]
  rfl
 refine pure_ (i := 1) (N := some 4) (v := ?_) (a' := ?_) #[true, true, false, false, false, false, false, false, false, false, false, false, false, false, false, false, false, false, false, false, false, false, false, false, false, false, false, false, false, false, false, false, false, false, false, false, false, false, false, false, false, false, false, false, false, false, false, false, false, false, false, false, false, false, false, false, false, false, false, false, false, false, false, false, false, false, false, false, false, false, false, false, false, false, false, false, false, false] rfl rfl (any_of HT_.out (by kernel_rfl)) (fun _ _ _ h => h) (Or.inl ⟨by rfl, ?_⟩) ?_ ?_
 rotate_left
 ·intro w'
  go_simp
  with_reducible rfl
 rotate_left
 ·simp only [Act.put, List.setIfInBounds_toArray, List.set_cons_zero, List.set_cons_succ, i64_w, i32_w]
  rfl
 refine pure_ (i := 2) (N := some 5) (v := ?_) (a' := ?_) #[true, true, true, false, false, false, false, false, false, false, false, false, false, false, false, false, false, false, false, false, false, false, false, false, false, false, false, false, false, false, false, false, false, false, false, false, false, false, false, false, false, false, false, false, false, false, false, false, false, false, false, false, false, false, false, false, false, false, false, false, false, false, false, false, false, false, false, false, false, false, false, false, false, false, false, false, false, false] rfl rfl (any_of HT_.out (by kernel_rfl)) (fun _ _ _ h => h) (Or.inl ⟨by rfl, ?_⟩) ?_ ?_
 rotate_left
 ·intro w'
  go_simp
  with_reducible rfl
 rotate_left
 ·simp only [Act.put, List.setIfInBounds_toArray, List.set_cons_zero, List.set_cons_succ, i64_w, i32_w]
  rfl
 refine take_ (i := 3) (N := some 6) (v := ?_) (a' := ?_) #[true, true, true, true, false, false, false, false, false, false, false, false, false, false, false, false, false, false, false, false, false, false, false, false, false, false, false, false, false, false, false, false, false, false, false, false, false, false, false, false, false, false, false, false, false, false, false, false, false, false, false, false, false, false, false, false, false, false, false, false, false, false, false, false, false, false, false, false, false, false, false, false, false, false, false, false, false, false] rfl rfl (take_ofW HT_.out HW_.out (by kernel_rfl)) (fun _ _ _ h => h) (Or.inl ⟨by rfl, ?_⟩) hHeld ?_ ?_
 rotate_left
 ·rintro w' ⟨s0, s1, s2, s3, s4, s5, s6, s7, s8, s9, s10, s11⟩
  go_simp
  with_reducible rfl
 rotate_left
 ·simp only [Act.put, List.setIfInBounds_toArray, List.set_cons_zero, List.set_cons_succ, i64_w, i32_w]
  rfl
 refine pure_ (i := 4) (N := some 7) (v := ?_) (a' := ?_) #[true, true, true, true, true, false, false, false, false, false, false, false, false, false, false, false, false, false, false, false, false, false, false, false, false, false, false, false, false, false, false, false, false, false, false, false, false, false, false, false, false, false, false, false, false, false, false, false, false, false, false, false, false, false, false, false, false, false, false, false, false, false, false, false, false, false, false, false, false, false, false, false, false, false, false, false, false, false] rfl rfl (any_of HT_.out (by kernel_rfl)) (fun _ _ _ h => h) (Or.inl ⟨by rfl, ?_⟩) ?_ ?_
 rotate_left
 ·intro w'
  go_simp
  with_reducible rfl
 rotate_left
 ·simp only [Act.put, List.setIfInBounds_toArray, List.set_cons_zero, List.set_cons_succ, i64_w, i32_w]
  rfl
 refine pure_ (i := 5) (N := some 8) (v := ?_) (a' := ?_) #[true, true, true, true, true, true, false, false, false, false, false, false, false, false, false, false, false, false, false, false, false, false, false, false, false, false, false, false, false, false, false, false, false, false, false, false, false, false, false, false, false, false, false, false, false, false, false, false, false, false, false, false, false, false, false, false, false, false, false, false, false, false, false, false, false, false, false, false, false, false, false, false, false, false, false, false, false, false] rfl rfl (any_of HT_.out (by kernel_rfl)) (fun _ _ _ h => h) (Or.inl ⟨by rfl, ?_⟩) ?_ ?_
 rotate_left
 ·intro w'
  go_simp
  with_reducible rfl
 rotate_left
 ·simp only [Act.put, List.setIfInBounds_toArray, List.set_cons_zero, List.set_cons_succ, i64_w, i32_w]
  rfl
 refine pure_ (i := 6) (N := some 9) (v := ?_) (a' := ?_) #[true, true, true, true, true, true, true, false, false, false, false, false, false, false, false, false, false, false, false, false, false, false, false, false, false, false, false, false, false, false, false, false, false, false, false, false, false, false, false, false, false, false, false, false, false, false, false, false, false, false, false, false, false, false, false, false, false, false, false, false, false, false, false, false, false, false, false, false, false, false, false, false, false, false, false, false, false, false] rfl rfl (any_of HT_.out (by kernel_rfl)) (fun _ _ _ h => h) (Or.inl ⟨by rfl, ?_⟩) ?_ ?_
 rotate_left
 ·intro w'
  go_simp
  with_reducible rfl
 rotate_left
 ·simp only [Act.put, List.setIfInBounds_toArray, List.set_cons_zero, List.set_cons_succ, i64_w, i32_w]
  rfl
 refine take_ (i := 7) (N := some 10) (v := ?_) (a' := ?_) #[true, true, true, true, true, true, true, true, false, false, false, false, false, false, false, false, false, false, false, false, false, false, false, false, false, false, false, false, false, false, false, false, false, false, false, false, false, false, false, false, false, false, false, false, false, false, false, false, false, false, false, false, false, false, false, false, false, false, false, false, false, false, false, false, false, false, false, false, false, false, false, false, false, false, false, false, false, false] rfl rfl (take_ofW HT_.out HW_.out (by kernel_rfl)) (fun _ _ _ h => h) (Or.inl ⟨by rfl, ?_⟩) hHeld ?_ ?_
 rotate_left
 ·rintro w' ⟨s0, s1, s2, s3, s4, s5, s6, s7, s8, s9, s10, s11⟩
  go_simp
  with_reducible rfl
 rotate_left
 ·simp only [Act.put, List.setIfInBounds_toArray, List.set_cons_zero, List.set_cons_succ, i64_w, i32_w]
  rfl
 refine pure_ (i := 8) (N := some 11) (v := ?_) (a' := ?_) #[true, true, true, true, true, true, true, true, true, false, false, false, false, false, false, false, false, false, false, false, false, false, false, false, false, false, false, false, false, false, false, false, false, false, false, false, false, false, false, false, false, false, false, false, false, false, false, false, false, false, false, false, false, false, false, false, false, false, false, false, false, false, false, false, false, false, false, false, false, false, false, false, false, false, false, false, false, false] rfl rfl (any_of HT_.out (by kernel_rfl)) (fun _ _ _ h => h) (Or.inl ⟨by rfl, ?_⟩) ?_ ?_
 rotate_left
 ·intro w'
  go_simp
  with_reducible rfl
 rotate_left
 ·simp only [Act.put, List.setIfInBounds_toArray, List.set_cons_zero, List.set_cons_succ, i64_w, i32_w]
  rfl
 refine pure_ (i := 9) (N := some 12) (v := ?_) (a' := ?_) #[true, true, true, true, true, true, true, true, true, true, false, false, false, false, false, false, false, false, false, false, false, false, false, false, false, false, false, false, false, false, false, false, false, false, false, false, false, false, false, false, false, false, false, false, false, false, false, false, false, false, false, false, false, false, false, false, false, false, false, false, false, false, false, false, false, false, false, false, false, false, false, false, false, false, false, false, false, false] rfl rfl (any_of HT_.out (by kernel_rfl)) (fun _ _ _ h => h) (Or.inl ⟨by rfl, ?_⟩) ?_ ?_
 rotate_left
 ·intro w'
  go_simp
  with_reducible rfl
 rotate_left
 ·simp only [Act.put, List.setIfInBounds_toArray, List.set_cons_zero, List.set_cons_succ, i64_w, i32_w]
  rfl
 refine take_ (i := 10) (N := some 13) (v := ?_) (a' := ?_) #[true, true, true, true, true, true, true, true, true, true, true, false, false, false, false, false, false, false, false, false, false, false, false, false, false, false, false, false, false, false, false, false, false, false, false, false, false, false, false, false, false, false, false, false, false, false, false, false, false, false, false, false, false, false, false, false, false, false, false, false, false, false, false, false, false, false, false, false, false, false, false, false, false, false, false, false, false, false] rfl rfl (take_ofW HT_.out HW_.out (by kernel_rfl)) (fun _ _ _ h => h) (Or.inl ⟨by rfl, ?_⟩) hHeld ?_ ?_
 rotate_left
 ·rintro w' ⟨s0, s1, s2, s3, s4, s5, s6, s7, s8, s9, s10, s11⟩
  go_simp
  with_reducible rfl
 rotate_left
 ·simp only [Act.put, List.setIfInBounds_toArray, List.set_cons_zero, List.set_cons_succ, i64_w, i32_w]
  rfl
 refine pure_ (i := 11) (N := some 14) (v := ?_) (a' := ?_) #[true, true, true, true, true, true, true, true, true, true, true, true, false, false, false, false, false, false, false, false, false, false, false, false, false, false, false, false, false, false, false, false, false, false, false, false, false, false, false, false, false, false, false, false, false, false, false, false, false, false, false, false, false, false, false, false, false, false, false, false, false, false, false, false, false, false, false, false, false, false, false, false, false, false, false, false, false, false] rfl rfl (any_of HT_.out (by kernel_rfl)) (fun _ _ _ h => h) (Or.inl ⟨by rfl, ?_⟩) ?_ ?_
 rotate_left
 ·intro w'
  go_simp
  with_reducible rfl
 rotate_left
 ·simp only [Act.put, List.setIfInBounds_toArray, List.set_cons_zero, List.set_cons_succ, i64_w, i32_w]
  rfl
 refine pure_ (i := 12) (N := some 15) (v := ?_) (a' := ?_) #[true, true, true, true, true, true, true, true, true, true, true, true, true, false, false, false, false, false, false, false, false, false, false, false, false, false, false, false, false, false, false, false, false, false, false, false, false, false, false, false, false, false, false, false, false, false, false, false, false, false, false, false, false, false, false, false, false, false, false, false, false, false, false, false, false, false, false, false, false, false, false, false, false, false, false, false, false, false] rfl rfl (any_of HT_.out (by kernel_rfl)) (fun _ _ _ h => h) (Or.inl ⟨by rfl, ?_⟩) ?_ ?_
 rotate_left
 ·intro w'
  go_simp
  with_reducible rfl
 rotate_left
 ·simp only [Act.put, List.setIfInBounds_toArray, List.set_cons_zero, List.set_cons_succ, i64_w, i32_w]
  rfl
 refine pure_ (i := 13) (N := some 16) (v := ?_) (a' := ?_) #[true, true, true, true, true, true, true, true, true, true, true, true, true, true, false, false, false, false, false, false, false, false, false, false, false, false, false, false, false, false, false, false, false, false, false, false, false, false, false, false, false, false, false, false, false, false, false, false, false, false, false, false, false, false, false, false, false, false, false, false, false, false, false, false, false, false, false, false, false, false, false, false, false, false, false, false, false, false] rfl rfl (any_of HT_.out (by kernel_rfl)) (fun _ _ _ h => h) (Or.inl ⟨by rfl, ?_⟩) ?_ ?_
 rotate_left
 ·intro w'
  go_simp
  with_reducible rfl
 rotate_left
 ·simp only [Act.put, List.setIfInBounds_toArray, List.set_cons_zero, List.set_cons_succ, i64_w, i32_w]
  rfl
 refine pure_ (i := 14) (N := some 17) (v := ?_) (a' := ?_) #[true, true, true, true, true, true, true, true, true, true, true, true, true, true, true, false, false, false, false, false, false, false, false, false, false, false, false, false, false, false, false, false, false, false, false, false, false, false, false, false, false, false, false, false, false, false, false, false, false, false, false, false, false, false, false, false, false, false, false, false, false, false, false, false, false, false, false, false, false, false, false, false, false, false, false, false, false, false] rfl rfl (any_of HT_.out (by kernel_rfl)) (fun _ _ _ h => h) (Or.inl ⟨by rfl, ?_⟩) ?_ ?_
 rotate_left
 ·intro w'
  go_simp
  with_reducible rfl
 rotate_left
 ·simp only [Act.put, List.setIfInBounds_toArray, List.set_cons_zero, List.set_cons_succ, i64_w, i32_w]
  rfl
 refine take_ (i := 15) (N := some 18) (v := ?_) (a' := ?_) #[true, true, true, true, true, true, true, true, true, true, true, true, true, true, true, true, false, false, false, false, false, false, false, false, false, false, false, false, false, false, false, false, false, false, false, false, false, false, false, false, false, false, false, false, false, false, false, false, false, false, false, false, false, false, false, false, false, false, false, false, false, false, false, false, false, false, false, false, false, false, false, false, false, false, false, false, false, false] rfl rfl (take_ofW HT_.out HW_.out (by kernel_rfl)) (fun _ _ _ h => h) (Or.inl ⟨by rfl, ?_⟩) hHeld ?_ ?_
 rotate_left
 ·rintro w' ⟨s0, s1, s2, s3, s4, s5, s6, s7, s8, s9, s10, s11⟩
  go_simp
  with_reducible rfl
 rotate_left
 ·simp only [Act.put, List.setIfInBounds_toArray, List.set_cons_zero, List.set_cons_succ, i64_w, i32_w]
  rfl
 refine pure_ (i := 16) (N := some 19) (v := ?_) (a' := ?_) #[true, true, true, true, true, true, true, true, true, true, true, true, true, true, true, true, true, false, false, false, false, false, false, false, false, false, false, false, false, false, false, false, false, false, false, false, false, false, false, false, false, false, false, false, false, false, false, false, false, false, false, false, false, false, false, false, false, false, false, false, false, false, false, false, false, false, false, false, false, false, false, false, false, false, false, false, false, false] rfl rfl (any_of HT_.out (by kernel_rfl)) (fun _ _ _ h => h) (Or.inl ⟨by rfl, ?_⟩) ?_ ?_
 rotate_left
 ·intro w'
  go_simp
  with_reducible rfl
 rotate_left
 ·simp only [Act.put, List.setIfInBounds_toArray, List.set_cons_zero, List.set_cons_succ, i64_w, i32_w]
  rfl
 refine pure_ (i := 17) (N := some 20) (v := ?_) (a' := ?_) #[true, true, true, true, true, true, true, true, true, true, true, true, true, true, true, true, true, true, false, false, false, false, false, false, false, false, false, false, false, false, false, false, false, false, false, false, false, false, false, false, false, false, false, false, false, false, false, false, false, false, false, false, false, false, false, false, false, false, false, false, false, false, false, false, false, false, false, false, false, false, false, false, false, false, false, false, false, false] rfl rfl (any_of HT_.out (by kernel_rfl)) (fun _ _ _ h => h) (Or.inl ⟨by rfl, ?_⟩) ?_ ?_
 rotate_left
 ·intro w'
  go_simp
  with_reducible rfl
 rotate_left
 ·simp only [Act.put, List.setIfInBounds_toArray, List.set_cons_zero, List.set_cons_succ, i64_w, i32_w]
  rfl
 refine pure_ (i := 18) (N := some 21) (v := ?_) (a' := ?_) #[true, true, true, true, true, true, true, true, true, true, true, true, true, true, true, true, true, true, true, false, false, false, false, false, false, false, false, false, false, false, false, false, false, false, false, false, false, false, false, false, false, false, false, false, false, false, false, false, false, false, false, false, false, false, false, false, false, false, false, false, false, false, false, false, false, false, false, false, false, false, false, false, false, false, false, false, false, false] rfl rfl (any_of HT_.out (by kernel_rfl)) (fun _ _ _ h => h) (Or.inl ⟨by rfl, ?_⟩) ?_ ?_
 rotate_left
 ·intro w'
  go_simp
  with_reducible rfl
 rotate_left
 ·simp only [Act.put, List.setIfInBounds_toArray, List.set_cons_zero, List.set_cons_succ, i64_w, i32_w]
  rfl
 refine take_ (i := 19) (N := some 22) (v := ?_) (a' := ?_) #[true, true, true, true, true, true, true, true, true, true, true, true, true, true, true, true, true, true, true, true, false, false, false, false, false, false, false, false, false, false, false, false, false, false, false, false, false, false, false, false, false, false, false, false, false, false, false, false, false, false, false, false, false, false, false, false, false, false, false, false, false, false, false, false, false, false, false, false, false, false, false, false, false, false, false, false, false, false] rfl rfl (take_ofW HT_.out HW_.out (by kernel_rfl)) (fun _ _ _ h => h) (Or.inl ⟨by rfl, ?_⟩) hHeld ?_ ?_
 rotate_left
 ·rintro w' ⟨s0, s1, s2, s3, s4, s5, s6, s7, s8, s9, s10, s11⟩
  go_simp
  with_reducible rfl
 rotate_left
 ·simp only [Act.put, List.setIfInBounds_toArray, List.set_cons_zero, List.set_cons_succ, i64_w, i32_w]
  rfl
 refine pure_ (i := 21) (N := some 24) (v := ?_) (a' := ?_) #[true, true, true, true, true, true, true, true, true, true, true, true, true, true, true, true, true, true, true, true, false, true, false, false, false, false, false, false, false, false, false, false, false, false, false, false, false, false, false, false, false, false, false, false, false, false, false, false, false, false, false, false, false, false, false, false, false, false, false, false, false, false, false, false, false, false, false, false, false, false, false, false, false, false, false, false, false, false] rfl rfl (any_of HT_.out (by kernel_rfl)) (fun _ _ _ h => h) (Or.inl ⟨by rfl, ?_⟩) ?_ ?_
 rotate_left
 ·intro w'
  go_simp
  with_reducible rfl
 rotate_left
 ·simp only [Act.put, List.setIfInBounds_toArray, List.set_cons_zero, List.set_cons_succ, i64_w, i32_w]
  rfl
 refine pure_ (i := 22) (N := some 25) (v := ?_) (a' := ?_) #[true, true, true, true, true, true, true, true, true, true, true, true, true, true, true, true, true, true, true, true, false, true, true, false, false, false, false, false, false, false, false, false, false, false, false, false, false, false, false, false, false, false, false, false, false, false, false, false, false, false, false, false, false, false, false, false, false, false, false, false, false, false, false, false, false, false, false, false, false, false, false, false, false, false, false, false, false, false] rfl rfl (any_of HT_.out (by kernel_rfl)) (fun _ _ _ h => h) (Or.inl ⟨by rfl, ?_⟩) ?_ ?_
 rotate_left
 ·intro w'
  go_simp
  with_reducible rfl
 rotate_left
 ·simp only [Act.put, List.setIfInBounds_toArray, List.set_cons_zero, List.set_cons_succ, i64_w, i32_w]
  rfl
 refine pure_ (i := 23) (N := some 26) (v := ?_) (a' := ?_) #[true, true, true, true, true, true, true, true, true, true, true, true, true, true, true, true, true, true, true, true, false, true, true, true, false, false, false, false, false, false, false, false, false, false, false, false, false, false, false, false, false, false, false, false, false, false, false, false, false, false, false, false, false, false, false, false, false, false, false, false, false, false, false, false, false, false, false, false, false, false, false, false, false, false, false, false, false, false] rfl rfl (any_of HT_.out (by kernel_rfl)) (fun _ _ _ h => h) (Or.inl ⟨by rfl, ?_⟩) ?_ ?_
 rotate_left
 ·intro w'
  go_simp
  with_reducible rfl
 rotate_left
 ·simp only [Act.put, List.setIfInBounds_toArray, List.set_cons_zero, List.set_cons_succ, i64_w, i32_w]
  rfl
 refine take_ (i := 24) (N := some 27) (v := ?_) (a' := ?_) #[true, true, true, true, true, true, true, true, true, true, true, true, true, true, true, true, true, true, true, true, false, true, true, true, true, false, false, false, false, false, false, false, false, false, false, false, false, false, false, false, false, false, false, false, false, false, false, false, false, false, false, false, false, false, false, false, false, false, false, false, false, false, false, false, false, false, false, false, false, false, false, false, false, false, false, false, false, false] rfl rfl (take_ofW HT_.out HW_.out (by kernel_rfl)) (fun _ _ _ h => h) (Or.inl ⟨by rfl, ?_⟩) hHeld ?_ ?_
 rotate_left
 ·rintro w' ⟨s0, s1, s2, s3, s4, s5, s6, s7, s8, s9, s10, s11⟩
  go_simp
  with_reducible rfl
 rotate_left
 ·simp only [Act.put, List.setIfInBounds_toArray, List.set_cons_zero, List.set_cons_succ, i64_w, i32_w]
  rfl
 refine pure_ (i := 27) (N := some 30) (v := ?_) (a' := ?_) #[true, true, true, true, true, true, true, true, true, true, true, true, true, true, true, true, true, true, true, true, false, true, true, true, true, false, false, true, false, false, false, false, false, false, false, false, false, false, false, false, false, false, false, false, false, false, false, false, false, false, false, false, false, false, false, false, false, false, false, false, false, false, false, false, false, false, false, false, false, false, false, false, false, false, false, false, false, false] rfl rfl (any_of HT_.out (by kernel_rfl)) (fun _ _ _ h => h) (Or.inl ⟨by rfl, ?_⟩) ?_ ?_
 rotate_left
 ·intro w'
  go_simp
  with_reducible rfl
 rotate_left
 ·simp only [Act.put, List.setIfInBounds_toArray, List.set_cons_zero, List.set_cons_succ, i64_w, i32_w]
  rfl
 refine pure_ (i := 28) (N := some 31) (v := ?_) (a' := ?_) #[true, true, true, true, true, true, true, true, true, true, true, true, true, true, true, true, true, true, true, true, false, true, true, true, true, false, false, true, true, false, false, false, false, false, false, false, false, false, false, false, false, false, false, false, false, false, false, false, false, false, false, false, false, false, false, false, false, false, false, false, false, false, false, false, false, false, false, false, false, false, false, false, false, false, false, false, false, false] rfl rfl (any_of HT_.out (by kernel_rfl)) (fun _ _ _ h => h) (Or.inl ⟨by rfl, ?_⟩) ?_ ?_
 rotate_left
 ·intro w'
  go_simp
  with_reducible rfl
 rotate_left
 ·simp only [Act.put, List.setIfInBounds_toArray, List.set_cons_zero, List.set_cons_succ, i64_w, i32_w]
  rfl
 refine pure_ (i := 29) (N := some 32) (v := ?_) (a' := ?_) #[true, true, true, true, true, true, true, true, true, true, true, true, true, true, true, true, true, true, true, true, false, true, true, true, true, false, false, true, true, true, false, false, false, false, false, false, false, false, false, false, false, false, false, false, false, false, false, false, false, false, false, false, false, false, false, false, false, false, false, false, false, false, false, false, false, false, false, false, false, false, false, false, false, false, false, false, false, false] rfl rfl (any_of HT_.out (by kernel_rfl)) (fun _ _ _ h => h) (Or.inl ⟨by rfl, ?_⟩) ?_ ?_
 rotate_left
 ·intro w'
  go_simp
  with_reducible rfl
 rotate_left
 ·simp only [Act.put, List.setIfInBounds_toArray, List.set_cons_zero, List.set_cons_succ, i64_w, i32_w]
  rfl
 refine take_ (i := 30) (N := some 33) (v := ?_) (a' := ?_) #[true, true, true, true, true, true, true, true, true, true, true, true, true, true, true, true, true, true, true, true, false, true, true, true, true, false, false, true, true, true, true, false, false, false, false, false, false, false, false, false, false, false, false, false, false, false, false, false, false, false, false, false, false, false, false, false, false, false, false, false, false, false, false, false, false, false, false, false, false, false, false, false, false, false, false, false, false, false] rfl rfl (take_ofW HT_.out HW_.out (by kernel_rfl)) (fun _ _ _ h => h) (Or.inl ⟨by rfl, ?_⟩) hHeld ?_ ?_
 rotate_left
 ·rintro w' ⟨s0, s1, s2, s3, s4, s5, s6, s7, s8, s9, s10, s11⟩
  go_simp
  with_reducible rfl
 rotate_left
 ·simp only [Act.put, List.setIfInBounds_toArray, List.set_cons_zero, List.set_cons_succ, i64_w, i32_w]
  rfl
 refine pure_ (i := 31) (N := some 34) (v := ?_) (a' := ?_) #[true, true, true, true, true, true, true, true, true, true, true, true, true, true, true, true, true, true, true, true, false, true, true, true, true, false, false, true, true, true, true, true, false, false, false, false, false, false, false, false, false, false, false, false, false, false, false, false, false, false, false, false, false, false, false, false, false, false, false, false, false, false, false, false, false, false, false, false, false, false, false, false, false, false, false, false, false, false] rfl rfl (any_of HT_.out (by kernel_rfl)) (fun _ _ _ h => h) (Or.inl ⟨by rfl, ?_⟩) ?_ ?_
 rotate_left
 ·intro w'
  go_simp
  with_reducible rfl
 rotate_left
 ·simp only [Act.put, List.setIfInBounds_toArray, List.set_cons_zero, List.set_cons_succ, i64_w, i32_w]
  rfl
 refine pure_ (i := 32) (N := some 35) (v := ?_) (a' := ?_) #[true, true, true, true, true, true, true, true, true, true, true, true, true, true, true, true, true, true, true, true, false, true, true, true, true, false, false, true, true, true, true, true, true, false, false, false, false, false, false, false, false, false, false, false, false, false, false, false, false, false, false, false, false, false, false, false, false, false, false, false, false, false, false, false, false, false, false, false, false, false, false, false, false, false, false, false, false, false] rfl rfl (any_of HT_.out (by kernel_rfl)) (fun _ _ _ h => h) (Or.inl ⟨by rfl, ?_⟩) ?_ ?_
 rotate_left
 ·intro w'
  go_simp
  with_reducible rfl
 rotate_left
 ·simp only [Act.put, List.setIfInBounds_toArray, List.set_cons_zero, List.set_cons_succ, i64_w, i32_w]
  rfl
 refine take_ (i := 33) (N := some 36) (v := ?_) (a' := ?_) #[true, true, true, true, true, true, true, true, true, true, true, true, true, true, true, true, true, true, true, true, false, true, true, true, true, false, false, true, true, true, true, true, true, true, false, false, false, false, false, false, false, false, false, false, false, false, false, false, false, false, false, false, false, false, false, false, false, false, false, false, false, false, false, false, false, false, false, false, false, false, false, false, false, false, false, false, false, false] rfl rfl (take_ofW HT_.out HW_.out (by kernel_rfl)) (fun _ _ _ h => h) (Or.inl ⟨by rfl, ?_⟩) hHeld ?_ ?_
 rotate_left
 ·rintro w' ⟨s0, s1, s2, s3, s4, s5, s6, s7, s8, s9, s10, s11⟩
  go_simp
  with_reducible rfl
 rotate_left
 ·simp only [Act.put, List.setIfInBounds_toArray, List.set_cons_zero, List.set_cons_succ, i64_w, i32_w]
  rfl
 refine pure_ (i := 34) (N := some 37) (v := ?_) (a' := ?_) #[true, true, true, true, true, true, true, true, true, true, true, true, true, true, true, true, true, true, true, true, false, true, true, true, true, false, false, true, true, true, true, true, true, true, true, false, false, false, false, false, false, false, false, false, false, false, false, false, false, false, false, false, false, false, false, false, false, false, false, false, false, false, false, false, false, false, false, false, false, false, false, false, false, false, false, false, false, false] rfl rfl (any_of HT_.out (by kernel_rfl)) (fun _ _ _ h => h) (Or.inl ⟨by rfl, ?_⟩) ?_ ?_
 rotate_left
 ·intro w'
  go_simp
  with_reducible rfl
 rotate_left
 ·simp only [Act.put, List.setIfInBounds_toArray, List.set_cons_zero, List.set_cons_succ, i64_w, i32_w]
  rfl
 refine pure_ (i := 35) (N := some 38) (v := ?_) (a' := ?_) #[true, true, true, true, true, true, true, true, true, true, true, true, true, true, true, true, true, true, true, true, false, true, true, true, true, false, false, true, true, true, true, true, true, true, true, true, false, false, false, false, false, false, false, false, false, false, false, false, false, false, false, false, false, false, false, false, false, false, false, false, false, false, false, false, false, false, false, false, false, false, false, false, false, false, false, false, false, false] rfl rfl (any_of HT_.out (by kernel_rfl)) (fun _ _ _ h => h) (Or.inl ⟨by rfl, ?_⟩) ?_ ?_
 rotate_left
 ·intro w'
  go_simp
  with_reducible rfl
 rotate_left
 ·simp only [Act.put, List.setIfInBounds_toArray, List.set_cons_zero, List.set_cons_succ, i64_w, i32_w]
  rfl
 refine take_ (i := 36) (N := some 39) (v := ?_) (a' := ?_) #[true, true, true, true, true, true, true, true, true, true, true, true, true, true, true, true, true, true, true, true, false, true, true, true, true, false, false, true, true, true, true, true, true, true, true, true, true, false, false, false, false, false, false, false, false, false, false, false, false, false, false, false, false, false, false, false, false, false, false, false, false, false, false, false, false, false, false, false, false, false, false, false, false, false, false, false, false, false] rfl rfl (take_ofW HT_.out HW_.out (by kernel_rfl)) (fun _ _ _ h => h) (Or.inl ⟨by rfl, ?_⟩) hHeld ?_ ?_
 rotate_left
 ·rintro w' ⟨s0, s1, s2, s3, s4, s5, s6, s7, s8, s9, s10, s11⟩
  go_simp
  with_reducible rfl
 rotate_left
 ·simp only [Act.put, List.setIfInBounds_toArray, List.set_cons_zero, List.set_cons_succ, i64_w, i32_w]
  rfl
 refine pure_ (i := 39) (N := some 42) (v := ?_) (a' := ?_) #[true, true, true, true, true, true, true, true, true, true, true, true, true, true, true, true, true, true, true, true, false, true, true, true, true, false, false, true, true, true, true, true, true, true, true, true, true, false, false, true, false, false, false, false, false, false, false, false, false, false, false, false, false, false, false, false, false, false, false, false, false, false, false, false, false, false, false, false, false, false, false, false, false, false, false, false, false, false] rfl rfl (any_of HT_.out (by kernel_rfl)) (fun _ _ _ h => h) (Or.inl ⟨by rfl, ?_⟩) ?_ ?_
 rotate_left
 ·intro w'
  go_simp
  with_reducible rfl
 rotate_left
 ·simp only [Act.put, List.setIfInBounds_toArray, List.set_cons_zero, List.set_cons_succ, i64_w, i32_w]
  rfl
 refine pure_ (i := 40) (N := some 43) (v := ?_) (a' := ?_) #[true, true, true, true, true, true, true, true, true, true, true, true, true, true, true, true, true, true, true, true, false, true, true, true, true, false, false, true, true, true, true, true, true, true, true, true, true, false, false, true, true, false, false, false, false, false, false, false, false, false, false, false, false, false, false, false, false, false, false, false, false, false, false, false, false, false, false, false, false, false, false, false, false, false, false, false, false, false] rfl rfl (any_of HT_.out (by kernel_rfl)) (fun _ _ _ h => h) (Or.inl ⟨by rfl, ?_⟩) ?_ ?_
 rotate_left
 ·intro w'
  go_simp
  with_reducible rfl
 rotate_left
 ·simp only [Act.put, List.setIfInBounds_toArray, List.set_cons_zero, List.set_cons_succ, i64_w, i32_w]
  rfl
 refine pure_ (i := 41) (N := some 44) (v := ?_) (a' := ?_) #[true, true, true, true, true, true, true, true, true, true, true, true, true, true, true, true, true, true, true, true, false, true, true, true, true, false, false, true, true, true, true, true, true, true, true, true, true, false, false, true, true, true, false, false, false, false, false, false, false, false, false, false, false, false, false, false, false, false, false, false, false, false, false, false, false, false, false, false, false, false, false, false, false, false, false, false, false, false] rfl rfl (any_of HT_.out (by kernel_rfl)) (fun _ _ _ h => h) (Or.inl ⟨by rfl, ?_⟩) ?_ ?_
 rotate_left
 ·intro w'
  go_simp
  with_reducible rfl
 rotate_left
 ·simp only [Act.put, List.setIfInBounds_toArray, List.set_cons_zero, List.set_cons_succ, i64_w, i32_w]
  rfl
 refine take_ (i := 42) (N := some 45) (v := ?_) (a' := ?_) #[true, true, true, true, true, true, true, true, true, true, true, true, true, true, true, true, true, true, true, true, false, true, true, true, true, false, false, true, true, true, true, true, true, true, true, true, true, false, false, true, true, true, true, false, false, false, false, false, false, false, false, false, false, false, false, false, false, false, false, false, false, false, false, false, false, false, false, false, false, false, false, false, false, false, false, false, false, false] rfl rfl (take_ofW HT_.out HW_.out (by kernel_rfl)) (fun _ _ _ h => h) (Or.inl ⟨by rfl, ?_⟩) hHeld ?_ ?_
 rotate_left
 ·rintro w' ⟨s0, s1, s2, s3, s4, s5, s6, s7, s8, s9, s10, s11⟩
  go_simp
  with_reducible rfl
 rotate_left
 ·simp only [Act.put, List.setIfInBounds_toArray, List.set_cons_zero, List.set_cons_succ, i64_w, i32_w]
  rfl
 refine pure_ (i := 43) (N := some 46) (v := ?_) (a' := ?_) #[true, true, true, true, true, true, true, true, true, true, true, true, true, true, true, true, true, true, true, true, false, true, true, true, true, false, false, true, true, true, true, true, true, true, true, true, true, false, false, true, true, true, true, true, false, false, false, false, false, false, false, false, false, false, false, false, false, false, false, false, false, false, false, false, false, false, false, false, false, false, false, false, false, false, false, false, false, false] rfl rfl (any_of HT_.out (by kernel_rfl)) (fun _ _ _ h => h) (Or.inl ⟨by rfl, ?_⟩) ?_ ?_
 rotate_left
 ·intro w'
  go_simp
  with_reducible rfl
 rotate_left
 ·simp only [Act.put, List.setIfInBounds_toArray, List.set_cons_zero, List.set_cons_succ, i64_w, i32_w]
  rfl
 refine pure_ (i := 44) (N := some 47) (v := ?_) (a' := ?_) #[true, true, true, true, true, true, true, true, true, true, true, true, true, true, true, true, true, true, true, true, false, true, true, true, true, false, false, true, true, true, true, true, true, true, true, true, true, false, false, true, true, true, true, true, true, false, false, false, false, false, false, false, false, false, false, false, false, false, false, false, false, false, false, false, false, false, false, false, false, false, false, false, false, false, false, false, false, false] rfl rfl (any_of HT_.out (by kernel_rfl)) (fun _ _ _ h => h) (Or.inl ⟨by rfl, ?_⟩) ?_ ?_
 rotate_left
 ·intro w'
  go_simp
  with_reducible rfl
 rotate_left
 ·simp only [Act.put, List.setIfInBounds_toArray, List.set_cons_zero, List.set_cons_succ, i64_w, i32_w]
  rfl
 refine take_ (i := 45) (N := some 48) (v := ?_) (a' := ?_) #[true, true, true, true, true, true, true, true, true, true, true, true, true, true, true, true, true, true, true, true, false, true, true, true, true, false, false, true, true, true, true, true, true, true, true, true, true, false, false, true, true, true, true, true, true, true, false, false, false, false, false, false, false, false, false, false, false, false, false, false, false, false, false, false, false, false, false, false, false, false, false, false, false, false, false, false, false, false] rfl rfl (take_ofW HT_.out HW_.out (by kernel_rfl)) (fun _ _ _ h => h) (Or.inl ⟨by rfl, ?_⟩) hHeld ?_ ?_
 rotate_left
 ·rintro w' ⟨s0, s1, s2, s3, s4, s5, s6, s7, s8, s9, s10, s11⟩
  go_simp
  with_reducible rfl
 rotate_left
 ·simp only [Act.put, List.setIfInBounds_toArray, List.set_cons_zero, List.set_cons_succ, i64_w, i32_w]
  rfl
 refine pure_ (i := 48) (N := some 51) (v := ?_) (a' := ?_) #[true, true, true, true, true, true, true, true, true, true, true, true, true, true, true, true, true, true, true, true, false, true, true, true, true, false, false, true, true, true, true, true, true, true, true, true, true, false, false, true, true, true, true, true, true, true, false, false, true, false, false, false, false, false, false, false, false, false, false, false, false, false, false, false, false, false, false, false, false, false, false, false, false, false, false, false, false, false] rfl rfl (any_of HT_.out (by kernel_rfl)) (fun _ _ _ h => h) (Or.inl ⟨by rfl, ?_⟩) ?_ ?_
 rotate_left
 ·intro w'
  go_simp
  with_reducible rfl
 rotate_left
 ·simp only [Act.put, List.setIfInBounds_toArray, List.set_cons_zero, List.set_cons_succ, i64_w, i32_w]
  rfl
 refine pure_ (i := 49) (N := some 52) (v := ?_) (a' := ?_) #[true, true, true, true, true, true, true, true, true, true, true, true, true, true, true, true, true, true, true, true, false, true, true, true, true, false, false, true, true, true, true, true, true, true, true, true, true, false, false, true, true, true, true, true, true, true, false, false, true, true, false, false, false, false, false, false, false, false, false, false, false, false, false, false, false, false, false, false, false, false, false, false, false, false, false, false, false, false] rfl rfl (any_of HT_.out (by kernel_rfl)) (fun _ _ _ h => h) (Or.inl ⟨by rfl, ?_⟩) ?_ ?_
 rotate_left
 ·intro w'
  go_simp
  with_reducible rfl
 rotate_left
 ·simp only [Act.put, List.setIfInBounds_toArray, List.set_cons_zero, List.set_cons_succ, i64_w, i32_w]
  rfl
 refine pure_ (i := 50) (N := some 53) (v := ?_) (a' := ?_) #[true, true, true, true, true, true, true, true, true, true, true, true, true, true, true, true, true, true, true, true, false, true, true, true, true, false, false, true, true, true, true, true, true, true, true, true, true, false, false, true, true, true, true, true, true, true, false, false, true, true, true, false, false, false, false, false, false, false, false, false, false, false, false, false, false, false, false, false, false, false, false, false, false, false, false, false, false, false] rfl rfl (any_of HT_.out (by kernel_rfl)) (fun _ _ _ h => h) (Or.inl ⟨by rfl, ?_⟩) ?_ ?_
 rotate_left
 ·intro w'
  go_simp
  with_reducible rfl
 rotate_left
 ·simp only [Act.put, List.setIfInBounds_toArray, List.set_cons_zero, List.set_cons_succ, i64_w, i32_w]
  rfl
 refine take_ (i := 51) (N := some 54) (v := ?_) (a' := ?_) #[true, true, true, true, true, true, true, true, true, true, true, true, true, true, true, true, true, true, true, true, false, true, true, true, true, false, false, true, true, true, true, true, true, true, true, true, true, false, false, true, true, true, true, true, true, true, false, false, true, true, true, true, false, false, false, false, false, false, false, false, false, false, false, false, false, false, false, false, false, false, false, false, false, false, false, false, false, false] rfl rfl (take_ofW HT_.out HW_.out (by kernel_rfl)) (fun _ _ _ h => h) (Or.inl ⟨by rfl, ?_⟩) hHeld ?_ ?_
 rotate_left
 ·rintro w' ⟨s0, s1, s2, s3, s4, s5, s6, s7, s8, s9, s10, s11⟩
  go_simp
  with_reducible rfl
 rotate_left
 ·simp only [Act.put, List.setIfInBounds_toArray, List.set_cons_zero, List.set_cons_succ, i64_w, i32_w]
  rfl
 refine pure_ (i := 52) (N := some 55) (v := ?_) (a' := ?_) #[true, true, true, true, true, true, true, true, true, true, true, true, true, true, true, true, true, true, true, true, false, true, true, true, true, false, false, true, true, true, true, true, true, true, true, true, true, false, false, true, true, true, true, true, true, true, false, false, true, true, true, true, true, false, false, false, false, false, false, false, false, false, false, false, false, false, false, false, false, false, false, false, false, false, false, false, false, false] rfl rfl (any_of HT_.out (by kernel_rfl)) (fun _ _ _ h => h) (Or.inl ⟨by rfl, ?_⟩) ?_ ?_
 rotate_left
 ·intro w'
  go_simp
  with_reducible rfl
 rotate_left
 ·simp only [Act.put, List.setIfInBounds_toArray, List.set_cons_zero, List.set_cons_succ, i64_w, i32_w]
  rfl
 refine pure_ (i := 53) (N := some 56) (v := ?_) (a' := ?_) #[true, true, true, true, true, true, true, true, true, true, true, true, true, true, true, true, true, true, true, true, false, true, true, true, true, false, false, true, true, true, true, true, true, true, true, true, true, false, false, true, true, true, true, true, true, true, false, false, true, true, true, true, true, true, false, false, false, false, false, false, false, false, false, false, false, false, false, false, false, false, false, false, false, false, false, false, false, false] rfl rfl (any_of HT_.out (by kernel_rfl)) (fun _ _ _ h => h) (Or.inl ⟨by rfl, ?_⟩) ?_ ?_
 rotate_left
 ·intro w'
  go_simp
  with_reducible rfl
 rotate_left
 ·simp only [Act.put, List.setIfInBounds_toArray, List.set_cons_zero, List.set_cons_succ, i64_w, i32_w]
  rfl
 refine take_ (i := 54) (N := some 57) (v := ?_) (a' := ?_) #[true, true, true, true, true, true, true, true, true, true, true, true, true, true, true, true, true, true, true, true, false, true, true, true, true, false, false, true, true, true, true, true, true, true, true, true, true, false, false, true, true, true, true, true, true, true, false, false, true, true, true, true, true, true, true, false, false, false, false, false, false, false, false, false, false, false, false, false, false, false, false, false, false, false, false, false, false, false] rfl rfl (take_ofW HT_.out HW_.out (by kernel_rfl)) (fun _ _ _ h => h) (Or.inl ⟨by rfl, ?_⟩) hHeld ?_ ?_
 rotate_left
 ·rintro w' ⟨s0, s1, s2, s3, s4, s5, s6, s7, s8, s9, s10, s11⟩
  go_simp
  with_reducible rfl
 rotate_left
 ·simp only [Act.put, List.setIfInBounds_toArray, List.set_cons_zero, List.set_cons_succ, i64_w, i32_w]
  rfl
 refine pure_ (i := 56) (N := some 59) (v := ?_) (a' := ?_) #[true, true, true, true, true, true, true, true, true, true, true, true, true, true, true, true, true, true, true, true, false, true, true, true, true, false, false, true, true, true, true, true, true, true, true, true, true, false, false, true, true, true, true, true, true, true, false, false, true, true, true, true, true, true, true, false, true, false, false, false, false, false, false, false, false, false, false, false, false, false, false, false, false, false, false, false, false, false] rfl rfl (any_of HT_.out (by kernel_rfl)) (fun _ _ _ h => h) (Or.inl ⟨by rfl, ?_⟩) ?_ ?_
 rotate_left
 ·intro w'
  go_simp
  with_reducible rfl
 rotate_left
 ·simp only [Act.put, List.setIfInBounds_toArray, List.set_cons_zero, List.set_cons_succ, i64_w, i32_w]
  rfl
 refine pure_ (i := 57) (N := some 60) (v := ?_) (a' := ?_) #[true, true, true, true, true, true, true, true, true, true, true, true, true, true, true, true, true, true, true, true, false, true, true, true, true, false, false, true, true, true, true, true, true, true, true, true, true, false, false, true, true, true, true, true, true, true, false, false, true, true, true, true, true, true, true, false, true, true, false, false, false, false, false, false, false, false, false, false, false, false, false, false, false, false, false, false, false, false] rfl rfl (any_of HT_.out (by kernel_rfl)) (fun _ _ _ h => h) (Or.inl ⟨by rfl, ?_⟩) ?_ ?_
 rotate_left
 ·intro w'
  go_simp
  with_reducible rfl
 rotate_left
 ·simp only [Act.put, List.setIfInBounds_toArray, List.set_cons_zero, List.set_cons_succ, i64_w, i32_w]
  rfl
 refine pure_ (i := 58) (N := some 61) (v := ?_) (a' := ?_) #[true, true, true, true, true, true, true, true, true, true, true, true, true, true, true, true, true, true, true, true, false, true, true, true, true, false, false, true, true, true, true, true, true, true, true, true, true, false, false, true, true, true, true, true, true, true, false, false, true, true, true, true, true, true, true, false, true, true, true, false, false, false, false, false, false, false, false, false, false, false, false, false, false, false, false, false, false, false] rfl rfl (any_of HT_.out (by kernel_rfl)) (fun _ _ _ h => h) (Or.inl ⟨by rfl, ?_⟩) ?_ ?_
 rotate_left
 ·intro w'
  go_simp
  with_reducible rfl
 rotate_left
 ·simp only [Act.put, List.setIfInBounds_toArray, List.set_cons_zero, List.set_cons_succ, i64_w, i32_w]
  rfl
 refine take_ (i := 59) (N := some 62) (v := ?_) (a' := ?_) #[true, true, true, true, true, true, true, true, true, true, true, true, true, true, true, true, true, true, true, true, false, true, true, true, true, false, false, true, true, true, true, true, true, true, true, true, true, false, false, true, true, true, true, true, true, true, false, false, true, true, true, true, true, true, true, false, true, true, true, true, false, false, false, false, false, false, false, false, false, false, false, false, false, false, false, false, false, false] rfl rfl (take_ofW HT_.out HW_.out (by kernel_rfl)) (fun _ _ _ h => h) (Or.inl ⟨by rfl, ?_⟩) hHeld ?_ ?_
 rotate_left
 ·rintro w' ⟨s0, s1, s2, s3, s4, s5, s6, s7, s8, s9, s10, s11⟩
  go_simp
  with_reducible rfl
 rotate_left
 ·simp only [Act.put, List.setIfInBounds_toArray, List.set_cons_zero, List.set_cons_succ, i64_w, i32_w]
  rfl
 refine pure_ (i := 60) (N := some 63) (v := ?_) (a' := ?_) #[true, true, true, true, true, true, true, true, true, true, true, true, true, true, true, true, true, true, true, true, false, true, true, true, true, false, false, true, true, true, true, true, true, true, true, true, true, false, false, true, true, true, true, true, true, true, false, false, true, true, true, true, true, true, true, false, true, true, true, true, true, false, false, false, false, false, false, false, false, false, false, false, false, false, false, false, false, false] rfl rfl (any_of HT_.out (by kernel_rfl)) (fun _ _ _ h => h) (Or.inl ⟨by rfl, ?_⟩) ?_ ?_
 rotate_left
 ·intro w'
  go_simp
  with_reducible rfl
 rotate_left
 ·simp only [Act.put, List.setIfInBounds_toArray, List.set_cons_zero, List.set_cons_succ, i64_w, i32_w]
  rfl
 refine pure_ (i := 61) (N := some 64) (v := ?_) (a' := ?_) #[true, true, true, true, true, true, true, true, true, true, true, true, true, true, true, true, true, true, true, true, false, true, true, true, true, false, false, true, true, true, true, true, true, true, true, true, true, false, false, true, true, true, true, true, true, true, false, false, true, true, true, true, true, true, true, false, true, true, true, true, true, true, false, false, false, false, false, false, false, false, false, false, false, false, false, false, false, false] rfl rfl (any_of HT_.out (by kernel_rfl)) (fun _ _ _ h => h) (Or.inl ⟨by rfl, ?_⟩) ?_ ?_
 rotate_left
 ·intro w'
  go_simp
  with_reducible rfl
 rotate_left
 ·simp only [Act.put, List.setIfInBounds_toArray, List.set_cons_zero, List.set_cons_succ, i64_w, i32_w]
  rfl
 refine take_ (i := 62) (N := some 65) (v := ?_) (a' := ?_) #[true, true, true, true, true, true, true, true, true, true, true, true, true, true, true, true, true, true, true, true, false, true, true, true, true, false, false, true, true, true, true, true, true, true, true, true, true, false, false, true, true, true, true, true, true, true, false, false, true, true, true, true, true, true, true, false, true, true, true, true, true, true, true, false, false, false, false, false, false, false, false, false, false, false, false, false, false, false] rfl rfl (take_ofW HT_.out HW_.out (by kernel_rfl)) (fun _ _ _ h => h) (Or.inl ⟨by rfl, ?_⟩) hHeld ?_ ?_
 rotate_left
 ·rintro w' ⟨s0, s1, s2, s3, s4, s5, s6, s7, s8, s9, s10, s11⟩
  go_simp
  with_reducible rfl
 rotate_left
 ·simp only [Act.put, List.setIfInBounds_toArray, List.set_cons_zero, List.set_cons_succ, i64_w, i32_w]
  rfl
 refine pure_ (i := 65) (N := some 68) (v := ?_) (a' := ?_) #[true, true, true, true, true, true, true, true, true, true, true, true, true, true, true, true, true, true, true, true, false, true, true, true, true, false, false, true, true, true, true, true, true, true, true, true, true, false, false, true, true, true, true, true, true, true, false, false, true, true, true, true, true, true, true, false, true, true, true, true, true, true, true, false, false, true, false, false, false, false, false, false, false, false, false, false, false, false] rfl rfl (any_of HT_.out (by kernel_rfl)) (fun _ _ _ h => h) (Or.inl ⟨by rfl, ?_⟩) ?_ ?_
 rotate_left
 ·intro w'
  go_simp
  with_reducible rfl
 rotate_left
 ·simp only [Act.put, List.setIfInBounds_toArray, List.set_cons_zero, List.set_cons_succ, i64_w, i32_w]
  rfl
 refine pure_ (i := 66) (N := some 69) (v := ?_) (a' := ?_) #[true, true, true, true, true, true, true, true, true, true, true, true, true, true, true, true, true, true, true, true, false, true, true, true, true, false, false, true, true, true, true, true, true, true, true, true, true, false, false, true, true, true, true, true, true, true, false, false, true, true, true, true, true, true, true, false, true, true, true, true, true, true, true, false, false, true, true, false, false, false, false, false, false, false, false, false, false, false] rfl rfl (any_of HT_.out (by kernel_rfl)) (fun _ _ _ h => h) (Or.inl ⟨by rfl, ?_⟩) ?_ ?_
 rotate_left
 ·intro w'
  go_simp
  with_reducible rfl
 rotate_left
 ·simp only [Act.put, List.setIfInBounds_toArray, List.set_cons_zero, List.set_cons_succ, i64_w, i32_w]
  rfl
 refine pure_ (i := 67) (N := some 70) (v := ?_) (a' := ?_) #[true, true, true, true, true, true, true, true, true, true, true, true, true, true, true, true, true, true, true, true, false, true, true, true, true, false, false, true, true, true, true, true, true, true, true, true, true, false, false, true, true, true, true, true, true, true, false, false, true, true, true, true, true, true, true, false, true, true, true, true, true, true, true, false, false, true, true, true, false, false, false, false, false, false, false, false, false, false] rfl rfl (any_of HT_.out (by kernel_rfl)) (fun _ _ _ h => h) (Or.inl ⟨by rfl, ?_⟩) ?_ ?_
 rotate_left
 ·intro w'
  go_simp
  with_reducible rfl
 rotate_left
 ·simp only [Act.put, List.setIfInBounds_toArray, List.set_cons_zero, List.set_cons_succ, i64_w, i32_w]
  rfl
 refine take_ (i := 68) (N := some 71) (v := ?_) (a' := ?_) #[true, true, true, true, true, true, true, true, true, true, true, true, true, true, true, true, true, true, true, true, false, true, true, true, true, false, false, true, true, true, true, true, true, true, true, true, true, false, false, true, true, true, true, true, true, true, false, false, true, true, true, true, true, true, true, false, true, true, true, true, true, true, true, false, false, true, true, true, true, false, false, false, false, false, false, false, false, false] rfl rfl (take_ofW HT_.out HW_.out (by kernel_rfl)) (fun _ _ _ h => h) (Or.inl ⟨by rfl, ?_⟩) hHeld ?_ ?_
 rotate_left
 ·rintro w' ⟨s0, s1, s2, s3, s4, s5, s6, s7, s8, s9, s10, s11⟩
  go_simp
  with_reducible rfl
 rotate_left
 ·simp only [Act.put, List.setIfInBounds_toArray, List.set_cons_zero, List.set_cons_succ, i64_w, i32_w]
  rfl
 refine pure_ (i := 69) (N := some 72) (v := ?_) (a' := ?_) #[true, true, true, true, true, true, true, true, true, true, true, true, true, true, true, true, true, true, true, true, false, true, true, true, true, false, false, true, true, true, true, true, true, true, true, true, true, false, false, true, true, true, true, true, true, true, false, false, true, true, true, true, true, true, true, false, true, true, true, true, true, true, true, false, false, true, true, true, true, true, false, false, false, false, false, false, false, false] rfl rfl (any_of HT_.out (by kernel_rfl)) (fun _ _ _ h => h) (Or.inl ⟨by rfl, ?_⟩) ?_ ?_
 rotate_left
 ·intro w'
  go_simp
  with_reducible rfl
 rotate_left
 ·simp only [Act.put, List.setIfInBounds_toArray, List.set_cons_zero, List.set_cons_succ, i64_w, i32_w]
  rfl
 refine pure_ (i := 70) (N := some 73) (v := ?_) (a' := ?_) #[true, true, true, true, true, true, true, true, true, true, true, true, true, true, true, true, true, true, true, true, false, true, true, true, true, false, false, true, true, true, true, true, true, true, true, true, true, false, false, true, true, true, true, true, true, true, false, false, true, true, true, true, true, true, true, false, true, true, true, true, true, true, true, false, false, true, true, true, true, true, true, false, false, false, false, false, false, false] rfl rfl (any_of HT_.out (by kernel_rfl)) (fun _ _ _ h => h) (Or.inl ⟨by rfl, ?_⟩) ?_ ?_
 rotate_left
 ·intro w'
  go_simp
  with_reducible rfl
 rotate_left
 ·simp only [Act.put, List.setIfInBounds_toArray, List.set_cons_zero, List.set_cons_succ, i64_w, i32_w]
  rfl
 refine take_ (i := 71) (N := some 74) (v := ?_) (a' := ?_) #[true, true, true, true, true, true, true, true, true, true, true, true, true, true, true, true, true, true, true, true, false, true, true, true, true, false, false, true, true, true, true, true, true, true, true, true, true, false, false, true, true, true, true, true, true, true, false, false, true, true, true, true, true, true, true, false, true, true, true, true, true, true, true, false, false, true, true, true, true, true, true, true, false, false, false, false, false, false] rfl rfl (take_ofW HT_.out HW_.out (by kernel_rfl)) (fun _ _ _ h => h) (Or.inl ⟨by rfl, ?_⟩) hHeld ?_ ?_
 rotate_left
 ·rintro w' ⟨s0, s1, s2, s3, s4, s5, s6, s7, s8, s9, s10, s11⟩
  go_simp
  with_reducible rfl
 rotate_left
 ·simp only [Act.put, List.setIfInBounds_toArray, List.set_cons_zero, List.set_cons_succ, i64_w, i32_w]
  rfl
 refine pure_ (i := 72) (N := some 75) (v := ?_) (a' := ?_) #[true, true, true, true, true, true, true, true, true, true, true, true, true, true, true, true, true, true, true, true, false, true, true, true, true, false, false, true, true, true, true, true, true, true, true, true, true, false, false, true, true, true, true, true, true, true, false, false, true, true, true, true, true, true, true, false, true, true, true, true, true, true, true, false, false, true, true, true, true, true, true, true, true, false, false, false, false, false] rfl rfl (any_of HT_.out (by kernel_rfl)) (fun _ _ _ h => h) (Or.inl ⟨by rfl, ?_⟩) ?_ ?_
 rotate_left
 ·intro w'
  go_simp
  with_reducible rfl
 rotate_left
 ·simp only [Act.put, List.setIfInBounds_toArray, List.set_cons_zero, List.set_cons_succ, i64_w, i32_w]
  rfl
 refine pure_ (i := 73) (N := some 76) (v := ?_) (a' := ?_) #[true, true, true, true, true, true, true, true, true, true, true, true, true, true, true, true, true, true, true, true, false, true, true, true, true, false, false, true, true, true, true, true, true, true, true, true, true, false, false, true, true, true, true, true, true, true, false, false, true, true, true, true, true, true, true, false, true, true, true, true, true, true, true, false, false, true, true, true, true, true, true, true, true, true, false, false, false, false] rfl rfl (any_of HT_.out (by kernel_rfl)) (fun _ _ _ h => h) (Or.inl ⟨by rfl, ?_⟩) ?_ ?_
 rotate_left
 ·intro w'
  go_simp
  with_reducible rfl
 rotate_left
 ·simp only [Act.put, List.setIfInBounds_toArray, List.set_cons_zero, List.set_cons_succ, i64_w, i32_w]
  rfl
 refine take_ (i := 74) (N := some 77) (v := ?_) (a' := ?_) #[true, true, true, true, true, true, true, true, true, true, true, true, true, true, true, true, true, true, true, true, false, true, true, true, true, false, false, true, true, true, true, true, true, true, true, true, true, false, false, true, true, true, true, true, true, true, false, false, true, true, true, true, true, true, true, false, true, true, true, true, true, true, true, false, false, true, true, true, true, true, true, true, true, true, true, false, false, false] rfl rfl (take_ofW HT_.out HW_.out (by kernel_rfl)) (fun _ _ _ h => h) (Or.inl ⟨by rfl, ?_⟩) hHeld ?_ ?_
 rotate_left
 ·rintro w' ⟨s0, s1, s2, s3, s4, s5, s6, s7, s8, s9, s10, s11⟩
  go_simp
  with_reducible rfl
 rotate_left
 ·simp only [Act.put, List.setIfInBounds_toArray, List.set_cons_zero, List.set_cons_succ, i64_w, i32_w]
  rfl
 refine anyI HT_.out [(20, 23), (25, 28), (26, 29), (37, 40), (38, 41), (46, 49), (47, 50), (55, 58), (63, 66), (64, 67), (75, 78), (76, 79)] #[true, true, true, true, true, true, true, true, true, true, true, true, true, true, true, true, true, true, true, true, true, true, true, true, true, true, true, true, true, true, true, true, true, true, true, true, true, true, true, true, true, true, true, true, true, true, true, true, true, true, true, true, true, true, true, true, true, true, true, true, true, true, true, true, true, true, true, true, true, true, true, true, true, true, true, true, true, false] (post13) (by kernel_rfl) (by kernel_rfl) (by kernel_rfl) (by rfl) (post13_st) ?hS ?step 1 ?fin rfl
 case hS => exact fun w' hb => ⟨pw_cell_below hb hHeld.1, pw_cell_below hb hHeld.2.1, pw_cell_below hb hHeld.2.2.1, pw_cell_below hb hHeld.2.2.2.1, pw_cell_below hb hHeld.2.2.2.2.1, pw_cell_below hb hHeld.2.2.2.2.2.1, pw_cell_below hb hHeld.2.2.2.2.2.2.1, pw_cell_below hb hHeld.2.2.2.2.2.2.2.1, pw_cell_below hb hHeld.2.2.2.2.2.2.2.2.1, pw_cell_below hb hHeld.2.2.2.2.2.2.2.2.2.1, pw_cell_below hb hHeld.2.2.2.2.2.2.2.2.2.2.1, pw_cell_below hb hHeld.2.2.2.2.2.2.2.2.2.2.2⟩
 case step =>
  intro p hp o ho a w2 hb hev hpost K hK
  simp only [List.mem_cons, List.not_mem_nil, or_false] at hp
  rcases hp with rfl | rfl | rfl | rfl | rfl | rfl | rfl | rfl | rfl | rfl | rfl | rfl
  ·obtain rfl := Option.some.inj ho
   clear ho
   refine value_ rfl rfl (w1 := w2.alloc (.cells #[] 3)) (v := .slice (some ⟨w2.heap.size, 0, none⟩) 0 0) (by first | (go_simp; done) | (go_simp; rfl)) (hK _ _ (below_alloc (Below.refl _ _) _) (Lit0.new _ _ _))
  ·obtain rfl := Option.some.inj ho
   clear ho
   have h27 : a.eval (.tmp 27) = .slice Aw 1 cw := (hev 27 (by decide)).trans rfl
   have hp0 := (show Lit0 3 _ (a.eval (.tmp 23)) w2 from (hpost (20, 23) (by simp) (by kernel_rfl)))
   exact appT_step (Kd.int .i64) rfl rfl (.tmp 23) (.tmp 27) 28 3 (.int .i64 0) 8 rfl Try.underlying28 (by kernel_rfl) rfl (by decide) (ys := [0]) rfl h27 hp0 (Kd.C_below HRW.out ((Be.out (W := w1.drew)).trans (hb.mono (Be.out (W := w1.drew)).size))) (by decide) (by decide) (by decide) (fun v1 w1 h1 h2 h3 => hK _ _ h1 ⟨h2, h3⟩)
  ·obtain rfl := Option.some.inj ho
   clear ho
   refine value_ rfl rfl (w1 := w2.alloc (.cells #[] 4)) (v := .slice (some ⟨w2.heap.size, 0, none⟩) 0 0) (by first | (go_simp; done) | (go_simp; rfl)) (hK _ _ (below_alloc (Below.refl _ _) _) (Lit0.new _ _ _))
  ·obtain rfl := Option.some.inj ho
   clear ho
   have h39 : a.eval (.tmp 39) = .slice Ad 1 cd := (hev 39 (by decide)).trans rfl
   have hp0 := (show Lit0 4 _ (a.eval (.tmp 29)) w2 from (hpost (26, 29) (by simp) (by kernel_rfl)))
   exact appE_step Kd.bool rfl rfl (.tmp 29) (.tmp 39) 29 4 (.bool false) 1 rfl Try.underlying29 (by kernel_rfl) rfl (by decide) (ys := [false]) rfl h39 hp0 (Kd.C_below HRD.out ((Be.out (W := w1.drew)).trans (hb.mono (Be.out (W := w1.drew)).size))) (by decide) (by decide) (by decide) (fun v1 w1 h1 h2 => hK _ _ h1 h2)
  ·obtain rfl := Option.some.inj ho
   clear ho
   refine value_ rfl rfl (w1 := w2.alloc (.cells #[] 47)) (v := .slice (some ⟨w2.heap.size, 0, none⟩) 0 0) (by first | (go_simp; done) | (go_simp; rfl)) (hK _ _ (below_alloc (Below.refl _ _) _) (Lit0.new _ _ _))
  ·obtain rfl := Option.some.inj ho
   clear ho
   have h48 : a.eval (.tmp 48) = .slice none 0 0 := (hev 48 (by decide)).trans rfl
   have hp0 := (show Lit0 47 _ (a.eval (.tmp 41)) w2 from (hpost (38, 41) (by simp) (by kernel_rfl)))
   exact appN_step k47 rfl rfl (.tmp 41) (.tmp 48) 30 47 (.agg #[.int .i64 0, .int .i64 0, .int .i64 0, .int .i64 0, .int .i64 0, .int .i64 0, .int .i64 0, .int .i64 0, .int .i64 0, .int .i64 0, .int .i64 0, .int .i64 0, .int .i64 0, .int .i64 0, .int .i64 0, .int .i64 0]) 128 rfl Try.underlying30 (by kernel_rfl) rfl h48 hp0 (fun h => hK _ _ (Below.refl _ _) h)
  ·obtain rfl := Option.some.inj ho
   clear ho
   refine value_ rfl rfl (w1 := w2.alloc (.cells #[] 62)) (v := .slice (some ⟨w2.heap.size, 0, none⟩) 0 0) (by first | (go_simp; done) | (go_simp; rfl)) (hK _ _ (below_alloc (Below.refl _ _) _) (Lit0.new _ _ _))
  ·obtain rfl := Option.some.inj ho
   clear ho
   have h57 : a.eval (.tmp 57) = .slice none 0 0 := (hev 57 (by decide)).trans rfl
   have hp0 := (show Lit0 62 _ (a.eval (.tmp 50)) w2 from (hpost (47, 50) (by simp) (by kernel_rfl)))
   exact appN_step k62 rfl rfl (.tmp 50) (.tmp 57) 31 62 (.agg #[.int .i64 0, .int .i64 0, .int .i64 0, .bool false, .slice none 0 0]) 56 rfl Try.underlying31 (by kernel_rfl) rfl h57 hp0 (fun h => hK _ _ (Below.refl _ _) h)
  ·obtain rfl := Option.some.inj ho
   clear ho
   have h65 : a.eval (.tmp 65) = .pointer (some ⟨gp, 0, none⟩) := (hev 65 (by decide)).trans rfl
   refine goes_ Try.func29 (by kernel_rfl) rfl #[.pointer (some ⟨gp, 0, none⟩)] rfl rfl rfl (by simp [h65]) ?_
   refine (free03 gp w2 (HP.out.step ((Be.out (W := w1.drew)).trans (hb.mono (Be.out (W := w1.drew)).size)))).mono ?_
   rintro e w3 ⟨v, rfl, ho, hb3⟩
   exact ⟨_, rfl, hK _ _ hb3 ho⟩
  ·obtain rfl := Option.some.inj ho
   clear ho
   refine value_ rfl rfl (w1 := w2.alloc (.cells #[] 49)) (v := .slice (some ⟨w2.heap.size, 0, none⟩) 0 0) (by first | (go_simp; done) | (go_simp; rfl)) (hK _ _ (below_alloc (Below.refl _ _) _) (Lit0.new _ _ _))
  ·obtain rfl := Option.some.inj ho
   clear ho
   have h77 : a.eval (.tmp 77) = .slice Au 1 cu := (hev 77 (by decide)).trans rfl
   have hp0 := (show Lit0 49 _ (a.eval (.tmp 67)) w2 from (hpost (64, 67) (by simp) (by kernel_rfl)))
   exact appT_step k49 rfl rfl (.tmp 67) (.tmp 77) 33 49 (.agg #[.int .i64 0, .int .i64 0]) 16 rfl Try.underlying33 (by kernel_rfl) rfl (by decide) (ys := [⟨0, 0⟩]) rfl h77 hp0 (Kd.C_below HRU.out ((Be.out (W := w1.drew)).trans (hb.mono (Be.out (W := w1.drew)).size))) (by decide) (by decide) (by decide) (fun v1 w1 h1 h2 h3 => hK _ _ h1 ⟨h2, h3⟩)
  ·obtain rfl := Option.some.inj ho
   clear ho
   have h6 : a.eval (.tmp 6) = .int .i64 0 := (hev 6 (by decide)).trans rfl
   have h14 : a.eval (.tmp 14) = .int .i64 0 := (hev 14 (by decide)).trans rfl
   have h18 : a.eval (.tmp 18) = .int .i64 0 := (hev 18 (by decide)).trans rfl
   have h22 : a.eval (.tmp 22) = .int .i64 0 := (hev 22 (by decide)).trans rfl
   obtain ⟨⟨W, cW, h28, r28, l28⟩, t28⟩ := (show RowV (Kd.int .i64) [0] (a.eval (.tmp 28)) w2 ∧ OfT 3 (a.eval (.tmp 28)) w2 from (hpost (25, 28) (by simp) (by kernel_rfl)))
   obtain ⟨D, cD, h40, r40, l40⟩ := (show RowV Kd.bool [false] (a.eval (.tmp 40)) w2 from (hpost (37, 40) (by simp) (by kernel_rfl)))
   obtain ⟨G, cG, h49, r49, l49⟩ := (show RowV k47 [] (a.eval (.tmp 49)) w2 from (hpost (46, 49) (by simp) (by kernel_rfl)))
   obtain ⟨H, cH, h58, r58, l58⟩ := (show RowV k62 [] (a.eval (.tmp 58)) w2 from (hpost (55, 58) (by simp) (by kernel_rfl)))
   obtain ⟨F, cF, h66, r66, l66⟩ := (show RowV k58 [(⟨⟨0, 0⟩, 15, 8⟩ : S58)] (a.eval (.tmp 66)) w2 from (hpost (63, 66) (by simp) (by kernel_rfl)))
   obtain ⟨⟨U, cU, h78, r78, l78⟩, t78⟩ := (show RowV k49 [⟨0, 0⟩] (a.eval (.tmp 78)) w2 ∧ OfT 49 (a.eval (.tmp 78)) w2 from (hpost (75, 78) (by simp) (by kernel_rfl)))
   rw [h28] at t28
   rw [h78] at t78
   have e6 := ev_get h6
   have e14 := ev_get h14
   have e18 := ev_get h18
   have e22 := ev_get h22
   have e28 := ev_get h28
   have e40 := ev_get h40
   have e49 := ev_get h49
   have e58 := ev_get h58
   have e66 := ev_get h66
   have e78 := ev_get h78
   refine value_ rfl rfl (w1 := w2) (v := .agg #[.int .i64 0, .int .i64 0, .int .i64 0, .int .i64 0, .slice W 1 cW, .slice D 1 cD, .slice G 0 cG, .slice H 0 cH, .slice F 1 cF, .slice U 1 cU]) (by first | (go_simp; done) | (go_simp; rfl)) (hK _ _ (Below.refl _ _) ⟨W, D, G, H, F, U, cW, cD, cG, cH, cF, cU, rfl, ⟨⟨W, cW, rfl, r28, l28⟩, ⟨D, cD, rfl, r40, l40⟩, ⟨F, cF, rfl, r66, l66⟩, ⟨U, cU, rfl, r78, l78⟩⟩, t28, t78⟩)
 case fin =>
  intro f w2 hb hpost
  have hacc := (show StT (f 79) w2 from hpost (76, 79) (by simp))
  simp only [putL, List.map, Act.put, List.setIfInBounds_toArray, List.set_cons_zero, List.set_cons_succ]
  generalize f 23 = u23 at *
  generalize f 28 = u28 at *
  generalize f 29 = u29 at *
  generalize f 40 = u40 at *
  generalize f 41 = u41 at *
  generalize f 49 = u49 at *
  generalize f 50 = u50 at *
  generalize f 58 = u58 at *
  generalize f 66 = u66 at *
  generalize f 67 = u67 at *
  generalize f 78 = u78 at *
  generalize f 79 = u79 at *
  have : Bl w1.drew w2 := ⟨hb⟩
  have : Ge w g2 := inferInstance
  have hbe : Be w w2 := inferInstance
  have hz0 := fun i => frozBx (W := w2) (g := g2) i
  obtain ⟨W, D, G, H, F, U, cW, cD, cG, cH, cF, cU, rfl, ⟨r1, r2, r3, r4⟩, t1, t2⟩ := hacc
  clear hpost
  refine last_ (i := 77) (N := none) #[true, true, true, true, true, true, true, true, true, true, true, true, true, true, true, true, true, true, true, true, true, true, true, true, true, true, true, true, true, true, true, true, true, true, true, true, true, true, true, true, true, true, true, true, true, true, true, true, true, true, true, true, true, true, true, true, true, true, true, true, true, true, true, true, true, true, true, true, true, true, true, true, true, true, true, true, true, true] rfl rfl (one_of HT_.out (by kernel_rfl)) (by decide) (fun K hK => ?_)
  refine skip_ (w1 := ?_) (by rfl) rfl ?_ ?_
  rotate_left
  ·go_simp
   rfl
  refine hK.out _ _ ?_
  clear hK K
  refine done_ (done_of HT_.out (by kernel_rfl)) ?_
  generalize hz : World.setCell _ _ _ = wz
  have hbz : Bx wz g2 #[.int .i64 0, .int .i64 0, .int .i64 0, .int .i64 0, .slice W 1 cW, .slice D 1 cD, .slice G 0 cG, .slice H 0 cH, .slice F 1 cF, .slice U 1 cU] 35 := by rw [← hz]; exact store10
  have : Be w wz := by rw [← hz]; exact store10b
  have n3 : ∀ A n c, Value.slice F 1 cF = .slice (some A) n c → A.block ≠ g2 := fun A n c e => by
   injection e with e1
   subst e1
   obtain ⟨ad, c', e, _, _, y2, _⟩ := r3.open58
   injection e with e
   injection e with e
   subst e
   exact notIn (w := w2) (ad := ⟨A.block, A.off + 2, none⟩) y2 (by simp)
  have n2 : ∀ A n c, Value.slice D 1 cD = .slice (some A) n c → A.block ≠ g2 := fun A n c e => by
   injection e with e1
   subst e1
   obtain ⟨_, _, e, hC, _⟩ := r2
   injection e with e
   subst e
   obtain ⟨bd, eb, z0⟩ := Kd.at_bool hC 0 (by decide) (by decide)
   injection eb with eb
   subst eb
   exact notIn (w := w2) (v := .bool false) (by simpa [Addr.add, rdOf] using z0) (by simp)
  have HS := Aside0.mk (show StV (.agg #[.int .i64 0, .int .i64 0, .int .i64 0, .int .i64 0, .slice W 1 cW, .slice D 1 cD, .slice G 0 cG, .slice H 0 cH, .slice F 1 cF, .slice U 1 cU]) wz by
   refine ⟨W, D, G, H, F, U, cW, cD, cG, cH, cF, cU, rfl, ?_, ?_, ?_, ?_⟩
   ·rw [← hz]; exact store10r r1 (fun _ _ _ _ h => h) (t1.ne (by decide))
   ·rw [← hz]; exact store10r r2 (fun _ _ _ _ h => h) n2
   ·rw [← hz]; exact store10r r3 (fun _ _ _ _ h => h) n3
   ·rw [← hz]; exact store10r r4 (fun _ _ _ _ h => h) (t2.ne (by decide)))
  clear hz r1 r2 r3 r4 t1 t2 n2 n3
  go_wp2
  refine bodyPost_ret (results_c1 rfl _ _ g2 35 _ (0, 0) _ rfl Bx.out Try.underlying35 rfl (by kernel_rfl)) rfl ?_
  exact ⟨_, rfl, HS.out, Be.out⟩
end Go.Proofs.Ytpedlompipabdaa.P
namespace Go.Proofs.Ytpedlompipabdaa.P
open Go.RowKit Go.Proofs.YtpedlompipabdaaW.PrintWords Go.Proofs.YtpedlompipabdaaW.PrintLast Go.Proofs.YtpedlompipabdaaW.PrintMore
set_option linter.unusedVariables false
set_option linter.unusedSimpArgs false
attribute [local go_sem] cellBx frozBx Sit.c0 Sit.c1 Sit.c2 Sit.c3 Sit.c4 Sit.c5 Sit.c6 Sit.c7 Sit.c8 Sit.c9 Sit.c10 Sit.c12 Sit.c13 Sit.c14 Sit.c15
attribute [local go_sem] Oper.semAt_some
def holdE (T : Sit) (fl : List S58) (k : Nat) (x : S62) : Int :=
 if x.f1 < 0 then 3 else if (T.lQ.length : Int) ≤ x.f1 then 3 else if x.f4.length = 0 then 1 else if 16 < x.f4.length then 1 else
 if 0 < k ∧ x.f0 ≤ (rd_T62 T.lH ((k : Int) - 1)).f0 then 4 else if (turned51 moreE moreF fl x.f4).2 = 0 then 0 else 5
set_option maxHeartbeats 8000000 in
set_option maxRecDepth 100000 in
theorem holds1 (T : Sit) (g p fr k : Nat) (x : S62) (A4 A : Option Addr) (c4 c : Nat) (fl : List S58) (w : World) (ha : Au w g T) (hp : Bx w p #[.pointer (some ⟨g, 0, none⟩)] 76) (hf : Bx w fr #[.slice A fl.length c] 32) (hF : Kd.C k58 w A fl.length fl) (hFc : fl.length ≤ c) (hx : Kd.C k63 w A4 x.f4.length x.f4) (hxc : x.f4.length ≤ c4) (hk : k < T.lH.length) (hk1 : k ≤ 1000000) (hok : spotsOk fl x.f4 = true) :
  Calls Try.prog 33 (#[.int .i64 (k : Int), .agg #[.int .i64 x.f0, .int .i64 x.f1, .int .i64 x.f2, .bool x.f3, .slice A4 x.f4.length c4]] ++ #[.pointer (some ⟨p, 0, none⟩), .pointer (some ⟨fr, 0, none⟩)]) w fun e w' => e = .returned (.int .i64 (holdE T fl k x)) ∧ w.grownBy w' (some fr) ∧ (holdE T fl k x = 0 → ∃ A' c', Bx w' fr #[.slice A' (turned51 moreE moreF fl x.f4).1.length c'] 32 ∧ Kd.C k58 w' A' (turned51 moreE moreF fl x.f4).1.length (turned51 moreE moreF fl x.f4).1 ∧ (turned51 moreE moreF fl x.f4).1.length ≤ c') := by
 have hu62 := Try.underlying62
 have hu76 := Try.underlying76
 have hu78 := Try.underlying78
 have hu27 := Try.underlying27
 have hu35 := Try.underlying35
 have hu25 := Try.underlying25
 have hu31 := Try.underlying31
 have hu60 := Try.underlying60
 have hu32 := Try.underlying32
 have hu39 := Try.underlying39
 have hu3 := Try.underlying3
 have : Be w w := ⟨Below.refl _ _⟩
 have HF := Aside0.mk hF
 have HFC := Aside0.mk hFc
 have HX := Aside0.mk hx
 have HXC := Aside0.mk hxc
 have HOK := Aside0.mk hok
 have HK := Aside0.mk hk
 clear hF hFc hx hxc hok hk
 obtain ⟨E, hE⟩ : ∃ E, holdE T fl k x = E := ⟨_, rfl⟩
 rw [hE]
 unfold holdE at hE
 have H := Aside0.mk hE
 clear hE
 show Calls Try.prog 33 #[.int .i64 (k : Int), .agg #[.int .i64 x.f0, .int .i64 x.f1, .int .i64 x.f2, .bool x.f3, .slice A4 x.f4.length c4], .pointer (some ⟨p, 0, none⟩), .pointer (some ⟨fr, 0, none⟩)] w _
 go_enter Try.func33, Try.ntmps33
 go_upto_region 1 with (first | ((with_reducible refine gate_dst (N := 5) rfl ?_); refine bxT 5 #[.int .i64 x.f0, .int .i64 x.f1, .int .i64 x.f2, .bool x.f3, .slice A4 x.f4.length c4] 62 ?_; intro g5 w5 _ _ _))
 have hh := H.out
 clear H
 by_cases d1 : x.f1 < 0
 ·rw [if_pos d1] at hh
  subst hh
  have q1 : decide (x.f1 < 0) = true := decide_eq_true (by first | exact d1 | omega)
  clear d1
  go_region
  go_wp2
  go_ret
  first | exact ⟨rfl, grown_ofb _ Be.out, fun e => absurd e (by decide)⟩ | exact ⟨rfl, grown_ofb _ Be.out⟩
 ·rw [if_neg d1] at hh
  have q1 : decide (x.f1 < 0) = false := decide_eq_false (by first | exact d1 | omega)
  by_cases d2 : (T.lQ.length : Int) ≤ x.f1
  ·rw [if_pos d2] at hh
   subst hh
   have q2 : decide (x.f1 ≥ (T.lQ.length : Int)) = true := decide_eq_true (by first | exact d2 | omega)
   clear d2
   go_region
   go_wp2
   go_ret
   first | exact ⟨rfl, grown_ofb _ Be.out, fun e => absurd e (by decide)⟩ | exact ⟨rfl, grown_ofb _ Be.out⟩
  ·rw [if_neg d2] at hh
   have q2 : decide (x.f1 ≥ (T.lQ.length : Int)) = false := decide_eq_false (by first | exact d2 | omega)
   go_region
   go_upto_region 3 with (fail)
   clear q1 q2 d1 d2
   by_cases d3 : x.f4.length = 0
   ·rw [if_pos d3] at hh
    subst hh
    have q3 : (((x.f4.length : Int) == 0)) = true := beq_iff_eq.2 (by omega)
    clear d3
    go_wp2
    go_ret
    first | exact ⟨rfl, grown_ofb _ Be.out, fun e => absurd e (by decide)⟩ | exact ⟨rfl, grown_ofb _ Be.out⟩
   ·rw [if_neg d3] at hh
    have q3 : (((x.f4.length : Int) == 0)) = false := beq_eq_false_iff_ne.2 (by omega)
    by_cases d4 : 16 < x.f4.length
    ·rw [if_pos d4] at hh
     subst hh
     have q4 : decide ((x.f4.length : Int) > 16) = true := decide_eq_true (by first | exact d4 | omega)
     clear d4
     go_wp2
     go_ret
     first | exact ⟨rfl, grown_ofb _ Be.out, fun e => absurd e (by decide)⟩ | exact ⟨rfl, grown_ofb _ Be.out⟩
    ·rw [if_neg d4] at hh
     have q4 : decide ((x.f4.length : Int) > 16) = false := decide_eq_false (by first | exact d4 | omega)
     go_upto_region 5 with (fail)
     clear q3 q4 d3 d4
     by_cases d5 : 0 < k
     ·obtain ⟨m, rfl⟩ : ∃ m, k = m + 1 := ⟨k - 1, by omega⟩
      have q5 : decide (((m + 1 : Nat) : Int) > 0) = true := decide_eq_true (by omega)
      have e1 : ((m + 1 : Nat) : Int) - 1 = (m : Int) := by omega
      have hml : (m : Int) < T.lH.length := by have := HK.out; omega
      have h0m : 0 ≤ (m : Int) := by omega
      rw [e1] at hh
      obtain ⟨ad, Ap, cp, ee, y0, _⟩ := at_T62 (ha.ok.step (Be.out (W := w5.drew))).H (m : Int) h0m hml
      simp only [Int.toNat_natCast] at y0
      generalize rd_T62 T.lH (m : Int) = pr at *
      by_cases d6 : x.f0 ≤ pr.f0
      ·rw [if_pos ⟨by omega, d6⟩] at hh
       subst hh
       have q6 : decide (pr.f0 ≥ x.f0) = true := decide_eq_true (by omega)
       clear d6 d5
       have ce : T.cells[13]? = some (.slice (some ad) T.lH.length T.cH) := by rw [Sit.c13, ee]
       go_region
       go_wp2
       go_ret
       first | exact ⟨rfl, grown_ofb _ Be.out, fun e => absurd e (by decide)⟩ | exact ⟨rfl, grown_ofb _ Be.out⟩
      ·rw [if_neg (fun c => d6 c.2)] at hh
       have q6 : decide (pr.f0 ≥ x.f0) = false := decide_eq_false (by omega)
       clear d6 d5
       go_region
       have HE := Aside0.mk hh
       clear hh
       obtain ⟨⟨r1, r2⟩, hr⟩ : ∃ r, turned51 moreE moreF fl x.f4 = r := ⟨_, rfl⟩
       have HM := Aside0.mk (show pack_More.f fl x.f4 = some (r1, r2) by unfold pack_More.f; rw [if_pos HOK.out, hr])
       rw [hr] at HE
       have HR := Aside0.mk hr
       clear hr
       go_upto_region 8 with ((go_at_call 34; refine (pack_More.calls _ _ _ _ _ _ _ _ _ (Kd.C_below HF.out Be.out) HFC.out (Kd.C_below HX.out Be.out) HXC.out HM.out).mono ?_; rintro e w7 ⟨v7, rfl, ho, hb⟩; have := Bl.mk hb; obtain ⟨A7, c7, rfl, hc7, _⟩ := Kd.R_reads ho; have HO7 := Aside0.mk ho; have HL7 := Aside0.mk hc7; clear ho hb hc7))
       have hh := HE.out
       clear HE
       by_cases d8 : r2 = 0
       ·rw [if_pos d8] at hh
        subst hh
        have q8 : (r2 != 0) = false := by rw [d8]; rfl
        clear d8
        go_wp2
        go_ret
        rw [HR.out]
        have HO := roFar (g := fr) (j := 0) (u := .slice A7 r1.length c7) HO7.out (by decide)
        have hB : Bx (w7.setCell ⟨fr, 0, none⟩ (.slice A7 r1.length c7)) fr #[.slice A7 r1.length c7] 32 := bxSetS (cs := #[.slice A fl.length c])
        exact ⟨rfl, grown_set (grown_ofb _ Be.out), ⟨A7, c7, hB, (Kd.R_reads' HO).2.2, HL7.out⟩⟩
       ·rw [if_neg d8] at hh
        subst hh
        have q8 : (r2 != 0) = true := bne_iff_ne.2 d8
        clear d8
        go_wp2
        go_ret
        first | exact ⟨rfl, grown_ofb _ Be.out, fun e => absurd e (by decide)⟩ | exact ⟨rfl, grown_ofb _ Be.out⟩
     ·rw [if_neg (fun c => d5 c.1)] at hh
      have q5 : decide ((k : Int) > 0) = false := decide_eq_false (by omega)
      go_region
      have HE := Aside0.mk hh
      clear hh
      obtain ⟨⟨r1, r2⟩, hr⟩ : ∃ r, turned51 moreE moreF fl x.f4 = r := ⟨_, rfl⟩
      have HM := Aside0.mk (show pack_More.f fl x.f4 = some (r1, r2) by unfold pack_More.f; rw [if_pos HOK.out, hr])
      rw [hr] at HE
      have HR := Aside0.mk hr
      clear hr
      go_upto_region 8 with ((go_at_call 34; refine (pack_More.calls _ _ _ _ _ _ _ _ _ (Kd.C_below HF.out Be.out) HFC.out (Kd.C_below HX.out Be.out) HXC.out HM.out).mono ?_; rintro e w7 ⟨v7, rfl, ho, hb⟩; have := Bl.mk hb; obtain ⟨A7, c7, rfl, hc7, _⟩ := Kd.R_reads ho; have HO7 := Aside0.mk ho; have HL7 := Aside0.mk hc7; clear ho hb hc7))
      have hh := HE.out
      clear HE
      by_cases d8 : r2 = 0
      ·rw [if_pos d8] at hh
       subst hh
       have q8 : (r2 != 0) = false := by rw [d8]; rfl
       clear d8
       go_wp2
       go_ret
       rw [HR.out]
       have HO := roFar (g := fr) (j := 0) (u := .slice A7 r1.length c7) HO7.out (by decide)
       have hB : Bx (w7.setCell ⟨fr, 0, none⟩ (.slice A7 r1.length c7)) fr #[.slice A7 r1.length c7] 32 := bxSetS (cs := #[.slice A fl.length c])
       exact ⟨rfl, grown_set (grown_ofb _ Be.out), ⟨A7, c7, hB, (Kd.R_reads' HO).2.2, HL7.out⟩⟩
      ·rw [if_neg d8] at hh
       subst hh
       have q8 : (r2 != 0) = true := bne_iff_ne.2 d8
       clear d8
       go_wp2
       go_ret
       first | exact ⟨rfl, grown_ofb _ Be.out, fun e => absurd e (by decide)⟩ | exact ⟨rfl, grown_ofb _ Be.out⟩
end Go.Proofs.Ytpedlompipabdaa.P
namespace Go.Proofs.Ytpedlompipabdaa.P
open Go.RowKit Go.Proofs.YtpedlompipabdaaW.PrintWords Go.Proofs.YtpedlompipabdaaW.PrintLast Go.Proofs.YtpedlompipabdaaW.PrintMore
set_option linter.unusedVariables false
set_option linter.unusedSimpArgs false
attribute [local go_sem] cellBx frozBx
def eqF (a b : S58) : Bool := a.f0.f0 == b.f0.f0 && a.f0.f1 == b.f0.f1 && a.f1 == b.f1 && a.f2 == b.f2
def cF (a : S58) : Value := .agg #[.int .i64 a.f0.f0, .int .i64 a.f0.f1, .int .u64 a.f1, .int .i64 a.f2]
theorem neq58 (a b : S58) (w : World) : (binOp .neq 58 (.agg #[.int .i64 a.f0.f0, .int .i64 a.f0.f1, .int .u64 a.f1, .int .i64 a.f2]) (.agg #[.int .i64 b.f0.f0, .int .i64 b.f0.f1, .int .u64 b.f1, .int .i64 b.f2])).run Try.prog w = .ok (.bool (!eqF a b)) w := by
 have hu58 := Try.underlying58
 have hu56 := Try.underlying56
 have hu54 := Try.underlying54
 have hu3 := Try.underlying3
 unfold eqF
 go_simp
 repeat' split
 all_goals simp_all
def sameF : List S58 → List S58 → Bool
 | [], [] => true
 | a :: l, b :: m => eqF a b && sameF l m
 | _, _ => false
set_option maxHeartbeats 8000000 in
set_option maxRecDepth 100000 in
theorem equalF (A B : Option Addr) (c d : Nat) (l m : List S58) (w : World) (hl : Kd.C k58 w A l.length l) (hm : Kd.C k58 w B m.length m) (hn : l.length ≤ 1000000) : Calls Try.prog 36 #[.slice A l.length c, .slice B m.length d] w fun e w' => e = .returned (.bool (sameF l m)) ∧ Below w.heap.size w w' := by
 have hu32 := Try.underlying32
 have hu58 := Try.underlying58
 have hu56 := Try.underlying56
 have hu54 := Try.underlying54
 have hu3 := Try.underlying3
 have : Be w w := ⟨Below.refl _ _⟩
 obtain ⟨R, hR⟩ : ∃ R, sameF l m = R := ⟨_, rfl⟩
 rw [hR]
 have HL := Aside0.mk hl
 have HM := Aside0.mk hm
 have HN := Aside0.mk hn
 clear hl hm hn
 go_enter Try.func36, Try.ntmps36
 by_cases d1 : l.length = m.length
 ·have q1 : ((l.length : Int) != (m.length : Int)) = false := by simp; omega
  have HA0 := Aside0.mk (show sameF (l.drop 0) (m.drop 0) = R from hR)
  clear hR
  have HD := Aside0.mk d1
  clear d1
  go_upto_region 4 with (fail)
  clear q1
  go_loopw [13] (fun v13 wr => ∃ i : Nat, i ≤ l.length ∧ v13 = .int .i64 (i : Int) ∧ Aside0 (sameF (l.drop i) (m.drop i) = R) ∧ Be w wr) (fun v13 _ => l.length - (intOf v13).toNat)
  case atStart => exact ⟨0, Nat.zero_le _, rfl, HA0, inferInstance⟩
  case round =>
   clear HA0
   obtain ⟨i, hi, rfl, HA, be⟩ := hrel
   by_cases hlt : i < l.length
   ·have hib : (i : Int) ≤ 1000000 := by have := HN.out; omega
    have hlt' : (i : Int) < l.length := by omega
    have hlm : (i : Int) < m.length := by have := HD.out; omega
    have h0i : 0 ≤ (i : Int) := by omega
    obtain ⟨ad, ee, y0, y1, y2, y3⟩ := at_T58 (Kd.C_below HL.out be.out) (i : Int) h0i hlt'
    subst ee
    obtain ⟨bd, ee, z0, z1, z2, z3⟩ := at_T58 (Kd.C_below HM.out be.out) (i : Int) h0i hlm
    subst ee
    simp only [Int.toNat_natCast] at y0 y1 y2 y3 z0 z1 z2 z3
    have e1 : l.drop i = rd_T58 l (i : Int) :: l.drop (i + 1) := by rw [List.drop_eq_getElem_cons hlt]; simp [rd_T58, List.getD_eq_getElem?_getD, List.getElem?_eq_getElem hlt]
    have e2 : m.drop i = rd_T58 m (i : Int) :: m.drop (i + 1) := by have hlt := HD.out ▸ hlt; rw [List.drop_eq_getElem_cons hlt]; simp [rd_T58, List.getD_eq_getElem?_getD, List.getElem?_eq_getElem hlt]
    have hh := HA.out
    rw [e1, e2, sameF] at hh
    clear HA e1 e2
    generalize rd_T58 l (i : Int) = a at *
    generalize rd_T58 m (i : Int) = b at *
    have HLT := Aside0.mk hlt
    clear hlt
    go_upto_region 6 with (fail)
    have q58 := neq58 a b
    cases hq : eqF a b with
    | true =>
     rw [hq, Bool.true_and] at hh
     have HA2 := Aside0.mk hh
     clear hh
     rw [hq] at q58
     go_region
     go_wp2
     go_roundw
     case rel => exact ⟨i + 1, HLT.out, by go_num, HA2, inferInstance⟩
     case measure => have := HLT.out; simp [intOf]; omega
    | false =>
     rw [hq, Bool.false_and] at hh
     subst hh
     rw [hq] at q58
     go_region
     go_wp2
     go_ret
     exact ⟨rfl, Be.out⟩
   ·obtain rfl : i = l.length := by omega
    have hh := HA.out
    rw [List.drop_length, show m.drop l.length = [] by rw [HD.out]; exact List.drop_length, sameF] at hh
    subst hh
    clear HA
    go_wp2
    go_ret
    exact ⟨rfl, Be.out⟩
 ·have q1 : ((l.length : Int) != (m.length : Int)) = true := by simp; omega
  have hs : ∀ (l m : List S58), l.length ≠ m.length → sameF l m = false := by
   intro l
   induction l with
   | nil => intro m h; cases m with
    | nil => exact absurd rfl h
    | cons b m => rfl
   | cons a l ih => intro m h; cases m with
    | nil => rfl
    | cons b m => rw [sameF, ih m (fun e => h (by simp [e])), Bool.and_false]
  rw [hs _ _ d1] at hR
  subst hR
  clear d1 hs
  go_wp2
  go_ret
  exact ⟨rfl, Be.out⟩
end Go.Proofs.Ytpedlompipabdaa.P
namespace Go.Proofs.Ytpedlompipabdaa.P
open Go.RowKit Go.Proofs.YtpedlompipabdaaW.PrintWords Go.Proofs.YtpedlompipabdaaW.PrintLast Go.Proofs.YtpedlompipabdaaW.PrintMore
set_option linter.unusedVariables false
set_option linter.unusedSimpArgs false
attribute [local go_sem] cellBx frozBx
set_option maxHeartbeats 8000000 in
set_option maxRecDepth 100000 in
theorem name62 (k : Int) (x : S62) (A4 : Option Addr) (c4 : Nat) (w : World) : Calls Try.prog 35 #[.int .i64 k, .agg #[.int .i64 x.f0, .int .i64 x.f1, .int .i64 x.f2, .bool x.f3, .slice A4 x.f4.length c4]] w fun e w' => e = .returned (.int .i64 x.f0) ∧ Below w.heap.size w w' := by
 have hu31 := Try.underlying31
 have hu62 := Try.underlying62
 have hu39 := Try.underlying39
 have : Be w w := ⟨Below.refl _ _⟩
 go_enter Try.func35, Try.ntmps35
 go_wp2_with (((with_reducible refine gate_dst (N := 3) rfl ?_); refine bxT 3 #[.int .i64 x.f0, .int .i64 x.f1, .int .i64 x.f2, .bool x.f3, .slice A4 x.f4.length c4] 62 ?_; intro g3 w3 _ _ _))
 go_ret
 exact ⟨rfl, Be.out⟩
set_option maxHeartbeats 8000000 in
set_option maxRecDepth 100000 in
theorem first62 (f : Nat) (lb : Array Value) (hent : ∀ args W, (callFunc f args).run Try.prog W = .ok (.enter f args) W) (r : Option Nat) (E : Nat → Int) (I : Nat → World → Prop) (A : Option Addr) (c : Nat) (l : List S62) (w : World) (hl : l.length ≤ 1000000) (hr : ∀ k, r = some k → k < w.heap.size) (hC : ∀ k W, I k W → Kd.C k62 W A l.length l) (hI : ∀ k W W', I k W → Below W.heap.size W W' → I k W') (h0 : I 0 w)
  (hs : ∀ k, k < l.length → ∀ A4 c4 W, I k W → Kd.C k63 W A4 (rd_T62 l (k : Int)).f4.length (rd_T62 l (k : Int)).f4 → (rd_T62 l (k : Int)).f4.length ≤ c4 → Calls Try.prog f (#[.int .i64 (k : Int), .agg #[.int .i64 (rd_T62 l (k : Int)).f0, .int .i64 (rd_T62 l (k : Int)).f1, .int .i64 (rd_T62 l (k : Int)).f2, .bool (rd_T62 l (k : Int)).f3, .slice A4 (rd_T62 l (k : Int)).f4.length c4]] ++ lb) W fun e W' => e = .returned (.int .i64 (E k)) ∧ W.grownBy W' r ∧ (E k = 0 → I (k + 1) W')) :
  Calls Try.prog 32 #[.slice A l.length c, .func (.func f) #[] lb, .func (.func 35) #[] #[]] w fun e w' => e = .returned (.tuple #[.int .i64 (firstL E (fun k => (rd_T62 l (k : Int)).f0) 0 l.length).1, .int .i64 (firstL E (fun k => (rd_T62 l (k : Int)).f0) 0 l.length).2]) ∧ w.grownBy w' r ∧ ((firstL E (fun k => (rd_T62 l (k : Int)).f0) 0 l.length).1 = 0 → I l.length w') := by
 have hu31 := Try.underlying31
 have hu62 := Try.underlying62
 have hu39 := Try.underlying39
 obtain ⟨res, hres⟩ : ∃ res, firstL E (fun k => (rd_T62 l (k : Int)).f0) 0 l.length = res := ⟨_, rfl⟩
 rw [hres]
 have HA0 := Aside0.mk (show firstL E (fun k => (rd_T62 l (k : Int)).f0) 0 (l.length - 0) = res from hres)
 have HL := Aside0.mk hl
 have HR := Aside0.mk hr
 have HC := Aside0.mk hC
 have HI := Aside0.mk hI
 have H0 := Aside0.mk h0
 have HS := Aside0.mk hs
 clear hres hl hr hC hI h0 hs
 go_enter Try.func32, Try.ntmps32
 go_wp2
 go_loopw [13] (fun v13 wr => ∃ i : Nat, i ≤ l.length ∧ v13 = .int .i64 (i : Int) ∧ Aside0 (firstL E (fun k => (rd_T62 l (k : Int)).f0) i (l.length - i) = res) ∧ Aside0 (I i wr) ∧ Aside0 (w.grownBy wr r)) (fun v13 _ => l.length - (intOf v13).toNat)
 case atStart => exact ⟨0, Nat.zero_le _, rfl, HA0, H0, ⟨grown_refl _ _⟩⟩
 case round =>
  clear HA0 H0
  obtain ⟨i, hi, rfl, HA, HJ, HG⟩ := hrel
  by_cases hlt : i < l.length
  ·have hib : (i : Int) ≤ 1000000 := by have := HL.out; omega
   have hlt' : (i : Int) < l.length := by omega
   have h0i : 0 ≤ (i : Int) := by omega
   obtain ⟨ad, A4, c4, ee, y0, y1, y2, y3, y4, l4, g4⟩ := at_T62 (HC.out _ _ HJ.out) (i : Int) (by omega) (by omega)
   subst ee
   simp only [Int.toNat_natCast] at y0 y1 y2 y3 y4
   have G4 := Aside0.mk g4
   have L4 := Aside0.mk l4
   clear g4 l4
   have ha := HA.out
   rw [show l.length - i = (l.length - (i + 1)) + 1 by omega, firstL] at ha
   have HA2 := Aside0.mk ha
   have HLT := Aside0.mk hlt
   clear HA ha hlt
   obtain ⟨x, hx⟩ : ∃ x, rd_T62 l (i : Int) = x := ⟨_, rfl⟩
   rw [hx] at y0 y1 y2 y3 y4
   rw [hx] at G4 L4
   have HX := Aside0.mk hx
   clear hx
   go_upto_region 4 with (fail)
   obtain ⟨g9, w9, _, _, _, e1, e2⟩ := nameA wr #[.int .i64 x.f0, .int .i64 x.f1, .int .i64 x.f2, .bool x.f3, .slice A4 x.f4.length c4] 62
   rw [e1, e2]
   clear e1 e2 y0 y1 y2 y3 y4
   have HJ9 := Aside0.mk (HI.out _ _ w9 HJ.out Bl.out)
   have HG9 := Aside0.mk (grown_below (W' := w9) HG.out Bl.out)
   have G9 := Aside0.mk (Kd.C_below G4.out (Bl.out (W' := w9)))
   have hn9 : some g9 ≠ r := fun e => by have h1 := HR.out _ e.symm; have h2 := HG.out.size; have h3 := (‹Fr wr g9›).out; omega
   have HN9 := Aside0.mk hn9
   clear HJ HG hn9
   go_wp2_with (fail)
   have hcall := HS.out i HLT.out A4 c4 w9 HJ9.out (by rw [HX.out]; exact G9.out) (by rw [HX.out]; exact L4.out)
   rw [HX.out] at hcall
   refine hcall.mono ?_
   clear hcall
   rintro e W' ⟨rfl, hg, hj⟩
   have : Bx W' g9 #[.int .i64 x.f0, .int .i64 x.f1, .int .i64 x.f2, .bool x.f3, .slice A4 x.f4.length c4] 62 := ⟨(hg.block g9 (blk_lt Bx.out) HN9.out).trans Bx.out⟩
   have HGW := Aside0.mk (grown_trans HG9.out hg)
   have HJW := Aside0.mk hj
   clear hg hj HJ9 HG9
   have ha := HA2.out
   clear HA2
   by_cases h0 : E i = 0
   ·rw [if_pos h0] at ha
    have HA3 := Aside0.mk ha
    have HJ2 := Aside0.mk (HJW.out h0)
    have t : (E i != 0) = false := by rw [h0]; rfl
    clear ha h0 HJW
    go_wp2
    go_roundw
    case rel => exact ⟨i + 1, HLT.out, by go_num, HA3, HJ2, HGW⟩
    case measure => have := HLT.out; simp [intOf]; omega
   ·rw [if_neg h0] at ha
    have t : (E i != 0) = true := bne_iff_ne.2 h0
    have HE := Aside0.mk h0
    have HA3 := Aside0.mk ha
    clear ha h0 HJW
    go_wp2_with (go_at_call 35; refine (name62 _ x _ _ _).mono ?_; rintro e W2 ⟨rfl, hb⟩; have HB2 := Aside0.mk hb; clear hb)
    go_ret2
    rw [← HA3.out]
    rw [HX.out]
    exact ⟨rfl, grown_below HGW.out HB2.out, fun e => absurd e HE.out⟩
  ·obtain rfl : i = l.length := by omega
   have ha := HA.out
   rw [Nat.sub_self, firstL] at ha
   have HA3 := Aside0.mk ha
   clear ha HA
   go_wp2
   go_ret2
   rw [← HA3.out]
   exact ⟨rfl, HG.out, fun _ => HJ.out⟩
end Go.Proofs.Ytpedlompipabdaa.P
namespace Go.Proofs.Ytpedlompipabdaa.P
open Go.RowKit Go.Proofs.YtpedlompipabdaaW.PrintWords Go.Proofs.YtpedlompipabdaaW.PrintLast Go.Proofs.YtpedlompipabdaaW.PrintMore
attribute [local go_sem] max2_int min2_int max_two min_two max_three min_three max_four min_four
set_option linter.unusedVariables false
set_option linter.unusedSimpArgs false
def mask_First.f (a0 : Int) : Option (Int) := some (IntKind.u64.wrap ((IntKind.u64.wrap (2 ^ (mx 0 (mn a0 64)).toNat)) - 1))
set_option maxHeartbeats 8000000 in
set_option maxRecDepth 100000 in
theorem mask_First.calls (a0 : Int) (r : Int) (w : World) (h : mask_First.f a0 = some r) :
  Calls Try.prog 56 #[.int .i64 a0] w fun e w' => e = .returned (.int .u64 r) ∧ Below w.heap.size w w' := by
 have HB := Aside0.mk (Below.refl w.heap.size w)
 have H : (some (IntKind.u64.wrap ((IntKind.u64.wrap (2 ^ (mx 0 (mn a0 64)).toNat)) - 1))) = some r := h
 clear h
 obtain ⟨ji2, hji2⟩ : ∃ j_ : Int, (mn a0 64) = j_ := ⟨_, rfl⟩
 replace H : (some (IntKind.u64.wrap ((IntKind.u64.wrap (2 ^ (mx 0 (ji2)).toNat)) - 1))) = some r := by first | (rw [hji2] at H; exact H) | (simp only [hji2] at H ⊢; exact H)
 (try (have hji2h : ji2 ≤ 64 := by (rw [← hji2]; unfold mn; (repeat' split) <;> omega)))
 (try (have hji2g : ji2 ≤ 64 := by omega))
 have hji2_ : (if 64 < a0 then 64 else a0) = ji2 := hji2
 obtain ⟨ji3, hji3⟩ : ∃ j_ : Int, (mx 0 (ji2)) = j_ := ⟨_, rfl⟩
 replace H : (some (IntKind.u64.wrap ((IntKind.u64.wrap (2 ^ (ji3).toNat)) - 1))) = some r := by first | (rw [hji3] at H; exact H) | (simp only [hji3] at H ⊢; exact H)
 have hji3_ : (if 0 < (ji2) then (ji2) else 0) = ji3 := hji3
 obtain rfl := Option.some.inj H
 go_enter Try.func56, Try.ntmps56
 go_wp2
 go_ret
 exact ⟨by first | rfl | (simp [errW_none, errW_some] <;> rfl) | (simp only [← hji2, ← hji3]; first | rfl | (simp [errW_none, errW_some] <;> rfl)) | (simp [*, errW_none, errW_some] <;> rfl), by repeat (first | (with_reducible first | exact HB.out | apply below_alloc | apply pw_below_drewN | apply below_drew1) | exact HB.out)⟩
end Go.Proofs.Ytpedlompipabdaa.P
namespace Go.Proofs.Ytpedlompipabdaa.P
open Go.RowKit Go.Proofs.YtpedlompipabdaaW.PrintWords Go.Proofs.YtpedlompipabdaaW.PrintLast Go.Proofs.YtpedlompipabdaaW.PrintMore
attribute [local go_sem] max2_int min2_int max_two min_two max_three min_three max_four min_four
set_option linter.unusedVariables false
set_option linter.unusedSimpArgs false
mutual
def audit_whole.l0 : Nat → List (S58) → List (S83) → Int → Int → Option ((List (S58)))
 | 0, _, _, _, _ => none
 | k + 1, x3, x10, x11, x12 => if x12 < x11 then (if 0 ≤ x12 then (if x12 < (x10.length : Int) then (audit_whole.l1 k x3 x12 x10 x11 x12 ((rd_T83 x10 x12).f0) (((rd_T83 x10 x12).f0).length : Int) 0) else (none)) else (none)) else (some x3)
def audit_whole.l1 : Nat → List (S58) → Int → List (S83) → Int → Int → List (S84) → Int → Int → Option ((List (S58)))
 | 0, _, _, _, _, _, _, _, _ => none
 | k + 1, x3, x4, x10, x11, x12, x18, x19, x20 => if x20 < x19 then (if 0 ≤ x20 then (if x20 < (x18.length : Int) then ((mask_First.f ((rd_T84 x18 x20).f0)).bind fun t164 => (if x3.length < 4398046511104 then (audit_whole.l1 k (x3 ++ [(⟨(⟨x4, x20⟩ : S56), t164, (rd_T84 x18 x20).f1⟩ : S58)]) x4 x10 x11 x12 x18 x19 (wrap64 (x20 + 1))) else (none))) else (none)) else (none)) else (audit_whole.l0 k x3 x10 x11 (wrap64 (x12 + 1)))
end
def audit_whole.f (k : Nat) (l0_0 : List (S83)) (l0_1 : List (S51)) (a0_2 : Int) (a0_3 : Int) (a0_4 : Int) (a0_5 : Int) : Option ((List (S58))) := audit_whole.l0 k ([] : List (S58)) l0_0 (l0_0.length : Int) 0
def audit_whole.T8 : Bool × List (List Nat × List Nat) := (true, [([], []), ([], []), ([], []), ([1, 2], [1, 2]), ([], []), ([4], [4]), ([5], [5]), ([], []), ([7], [7]), ([3, 6, 8], [3, 6, 8]), ([9], [9]), ([0, 10, 6], [0, 10]), ([11, 11, 0, 1, 2, 3, 4, 5, 6, 7, 8, 9, 10, 11], [0, 11])])
def audit_whole.B8 : List Nat := [0, 0, 0, 6, 0, 16, 48, 0, 128, 510, 1022, 2047, 4095]
theorem audit_whole.tab8 : rtab .any (opsOf Try.f37 8) = audit_whole.T8 := by kernel_rfl
theorem audit_whole.bits8 : waitsOk audit_whole.T8.2 audit_whole.B8 = true := by kernel_rfl
set_option maxHeartbeats 8000000 in
set_option maxRecDepth 100000 in
theorem audit_whole.calls (k : Nat) (A0_0 : Option Addr) (c0_0 : Nat) (l0_0 : List (S83)) (A0_1 : Option Addr) (c0_1 : Nat) (l0_1 : List (S51)) (a0_2 : Int) (a0_3 : Int) (a0_4 : Int) (a0_5 : Int) (r : List (S58)) (w : World) (hr0_0 : Kd.C k83 w A0_0 l0_0.length l0_0) (hc0_0 : l0_0.length ≤ c0_0) (hr0_1 : Kd.C k51 w A0_1 l0_1.length l0_1) (hc0_1 : l0_1.length ≤ c0_1) (h : audit_whole.f k l0_0 l0_1 a0_2 a0_3 a0_4 a0_5 = some r) :
  Calls Try.prog 37 #[.agg #[.slice A0_0 l0_0.length c0_0, .slice A0_1 l0_1.length c0_1, .int .i64 a0_2, .int .i64 a0_3, .int .i64 a0_4, .int .i64 a0_5]] w fun e w' => ∃ v0_ : Value, e = .returned (v0_) ∧ Kd.R k58 58 w' w.heap.size (fun _ => True) v0_ r ∧ Below w.heap.size w w' := by
 have hu27 := Try.underlying27
 have hu83 := Try.underlying83
 have hu84 := Try.underlying84
 have hu56 := Try.underlying56
 have hu58 := Try.underlying58
 have HR0_0 := Aside0.mk hr0_0
 have HC0_0 := Aside0.mk hc0_0
 clear hr0_0 hc0_0
 have HR0_1 := Aside0.mk hr0_1
 have HC0_1 := Aside0.mk hc0_1
 clear hr0_1 hc0_1
 have HB := Aside0.mk (Below.refl w.heap.size w)
 have H : (audit_whole.l0 k ([] : List (S58)) l0_0 (l0_0.length : Int) 0) = some r := h
 clear h
 have H' := Aside0.mk H
 clear H
 go_enter Try.func37, Try.ntmps37
 go_wp2_with (first | ((with_reducible refine gate_dst (N := 1) rfl ?_); refine box_event ?hg (N := 1) ?hd (cs := #[.slice A0_0 l0_0.length c0_0, .slice A0_1 l0_1.length c0_1, .int .i64 a0_2, .int .i64 a0_3, .int .i64 a0_4, .int .i64 a0_5]) (t := 27) ?hr ?_; (case hd => rfl); (case hg => rfl); (case hr => first | (go_simp; done) | (go_simp; rfl)); intro gb159 hg w2 hbox hb; have n0_ := Aside0.mk (below_step (by repeat (first | (with_reducible first | exact HB.out | apply below_alloc | apply pw_below_drewN | apply below_drew1) | exact HB.out)) hb); have n1_ := Aside0.mk (hbox); have n2_ := Aside0.mk ((by rw [hg]; exact (below_size (by repeat (first | (with_reducible first | exact HB.out | apply below_alloc | apply pw_below_drewN | apply below_drew1) | exact HB.out))) : w.heap.size ≤ gb159)); have n3_ := Aside0.mk ((by rw [hg]; exact (below_size (by repeat (first | (with_reducible first | exact HB.out | apply below_alloc | apply pw_below_drewN | apply below_drew1) | exact HB.out))) : w.heap.size ≤ gb159)); clear HB; have HB := n0_; have BK159 := n1_; have GW159 := n2_; have GE159 := n3_; clear n0_ n1_ n2_ n3_; clear hb hbox hg; have hcz3_0 : w2.cell? ⟨gb159, 0, none⟩ = some (.slice A0_0 l0_0.length c0_0) := (blk_cell BK159.out 0).trans rfl; have hcz3_1 : w2.cell? ⟨gb159, 1, none⟩ = some (.slice A0_1 l0_1.length c0_1) := (blk_cell BK159.out 1).trans rfl; have hcz3_2 : w2.cell? ⟨gb159, 2, none⟩ = some (.int .i64 a0_2) := (blk_cell BK159.out 2).trans rfl; have hcz3_3 : w2.cell? ⟨gb159, 3, none⟩ = some (.int .i64 a0_3) := (blk_cell BK159.out 3).trans rfl; have hcz3_4 : w2.cell? ⟨gb159, 4, none⟩ = some (.int .i64 a0_4) := (blk_cell BK159.out 4).trans rfl; have hcz3_5 : w2.cell? ⟨gb159, 5, none⟩ = some (.int .i64 a0_5) := (blk_cell BK159.out 5).trans rfl; have hfz3_0 := blk_frozen BK159.out 0; have hfz3_1 := blk_frozen BK159.out 1; have hfz3_2 := blk_frozen BK159.out 2; have hfz3_3 := blk_frozen BK159.out 3; have hfz3_4 := blk_frozen BK159.out 4; have hfz3_5 := blk_frozen BK159.out 5))
 go_loopg [3, 12] k (fun kq v3 v12 w' => ∃ (x3_1 : List (S58)) (x12_1 : Int), v12 = .int .i64 x12_1 ∧ Aside0 (audit_whole.l0 kq x3_1 l0_0 (l0_0.length : Int) x12_1 = some r) ∧ Aside0 (kq ≤ k) ∧ Aside0 (Kd.R k58 58 w' w.heap.size (fun _ => True) v3 x3_1) ∧ Aside0 (w'.heap[gb159]? = some (.cells #[(.slice A0_0 l0_0.length c0_0), (.slice A0_1 l0_1.length c0_1), .int .i64 a0_2, .int .i64 a0_3, .int .i64 a0_4, .int .i64 a0_5] 27 (0, 0))) ∧ Aside0 (Below w.heap.size w w'))
 case atStart => exact ⟨(([] : List (S58))), (0), (by first | rfl | (simp; done) | (simp [*]; done)), H', ⟨Nat.le_refl _⟩, ⟨by first | exact Kd.R_nil _ _ _ _ _ | exact Kd.N_nil _ _ _ _ _ | exact Kd.V_nil _ _ _ _ _ | exact Kd.Q_nil _ _ _ _ _ | exact Kd.S_nil _ _ _ _ _⟩, ⟨by (with_reducible repeat (first | refine blk_drewN ?_ _ | refine blk_drew ?_ | refine blk_alloc ?_ _)); exact BK159.out⟩, ⟨by repeat (first | (with_reducible first | exact HB.out | apply below_alloc | apply pw_below_drewN | apply below_drew1 | refine below_set ?_ GE159.out) | exact HB.out)⟩⟩
 case round =>
  clear H'
  try clear p2
  try clear c3
  try clear hcz3_0
  try clear hcz3_1
  try clear hcz3_2
  try clear hcz3_3
  try clear hcz3_4
  try clear hcz3_5
  try clear hfz3_0
  try clear hfz3_1
  try clear hfz3_2
  try clear hfz3_3
  try clear hfz3_4
  try clear hfz3_5
  obtain ⟨x3_1, x12_1, rfl, HA, HK1, HO_3, BK159, HB⟩ := hrel
  cases gk with
  | zero => exact absurd HA.out (by simp [audit_whole.l0])
  | succ k1 =>
   have H := HA.out
   clear HA
   simp only [audit_whole.l0] at H
   by_cases c4 : x12_1 < (l0_0.length : Int)
   ·rw [if_pos c4] at H
    have c4b0 : decide (x12_1 < (l0_0.length : Int)) = true := decide_eq_true c4
    clear c4
    by_cases c5 : 0 ≤ x12_1
    ·rw [if_pos c5] at H
     have c5b0 : decide (0 ≤ x12_1) = true := decide_eq_true c5
     clear c5
     by_cases c6 : x12_1 < (l0_0.length : Int)
     ·rw [if_pos c6] at H
      have c6b0 : decide (x12_1 < (l0_0.length : Int)) = true := decide_eq_true c6
      clear c6
      have H' := Aside0.mk H
      clear H
      have p160 : 0 ≤ (x12_1 : Int) := of_decide_eq_true (by first | (with_reducible assumption) | assumption)
      have q160 : x12_1 < (l0_0.length : Int) := of_decide_eq_true (by first | (with_reducible assumption) | assumption)
      obtain ⟨ad160, A160_0, c160_0, e160, hx160_0, hl160_0, hi160_0⟩ := at_T83 HR0_0.out x12_1 p160 q160
      cases e160
      replace hx160_0 := (HB.out.cell (World.block_lt_of_cell? w _ hx160_0)).trans hx160_0
      have HR160_0 := Aside0.mk hi160_0
      have HC160_0 := Aside0.mk hl160_0
      clear hi160_0 hl160_0
      replace p160 := eq_true p160
      replace q160 := eq_true q160
      go_wp2_with (first | ((with_reducible refine gate_dst (N := 5) rfl ?_); refine box_event ?hg (N := 5) ?hd (cs := #[.slice none 0 0]) (t := 83) ?hr ?_; (case hd => rfl); (case hg => rfl); (case hr => first | (go_simp; done) | (go_simp; rfl)); intro gb161 hg w7 hbox hb; have n0_ := Aside0.mk (Kd.R_below (by (with_reducible repeat (first | apply Kd.R_alloc | apply Kd.R_drewN | apply Kd.R_drew)); exact HO_3.out) hb); have n1_ := Aside0.mk (blk_below (g := gb159) (o := .cells #[.slice (some ad160) l0_0.length c0_0, .slice A0_1 l0_1.length c0_1, .int .i64 a0_2, .int .i64 a0_3, .int .i64 a0_4, .int .i64 a0_5] 27 (0, 0)) (by (with_reducible repeat (first | refine blk_drewN ?_ _ | refine blk_drew ?_ | refine blk_alloc ?_ _)); exact BK159.out) hb); have n2_ := Aside0.mk (below_step (by repeat (first | (with_reducible first | exact HB.out | apply below_alloc | apply pw_below_drewN | apply below_drew1 | refine below_set ?_ GE159.out) | exact HB.out)) hb); have n3_ := Aside0.mk (hbox); have n4_ := Aside0.mk ((by rw [hg]; exact (below_size (by repeat (first | (with_reducible first | exact HB.out | apply below_alloc | apply pw_below_drewN | apply below_drew1 | refine below_set ?_ GE159.out) | exact HB.out))) : w.heap.size ≤ gb161)); have n5_ := Aside0.mk ((by rw [hg]; exact (below_size (by repeat (first | (with_reducible first | exact HB.out | apply below_alloc | apply pw_below_drewN | apply below_drew1 | refine below_set ?_ GE159.out) | exact HB.out))) : w.heap.size ≤ gb161)); have n6_ := Aside0.mk ((by rw [hg]; exact Nat.ne_of_lt (blk_lt (g := gb159) (o := .cells #[.slice (some ad160) l0_0.length c0_0, .slice A0_1 l0_1.length c0_1, .int .i64 a0_2, .int .i64 a0_3, .int .i64 a0_4, .int .i64 a0_5] 27 (0, 0)) (by (with_reducible repeat (first | refine blk_drewN ?_ _ | refine blk_drew ?_ | refine blk_alloc ?_ _)); exact BK159.out)) : gb159 ≠ gb161)); have n7_ := Aside0.mk ((by rw [hg]; exact Nat.ne_of_gt (blk_lt (g := gb159) (o := .cells #[.slice (some ad160) l0_0.length c0_0, .slice A0_1 l0_1.length c0_1, .int .i64 a0_2, .int .i64 a0_3, .int .i64 a0_4, .int .i64 a0_5] 27 (0, 0)) (by (with_reducible repeat (first | refine blk_drewN ?_ _ | refine blk_drew ?_ | refine blk_alloc ?_ _)); exact BK159.out)) : gb161 ≠ gb159)); clear HO_3; clear BK159; clear HB; have HO_3 := n0_; have BK159 := n1_; have HB := n2_; have BK161 := n3_; have GW161 := n4_; have GE161 := n5_; have NB159_161 := n6_; have NB161_159 := n7_; clear n0_ n1_ n2_ n3_ n4_ n5_ n6_ n7_; clear hb hbox hg; have hnb8 := NB161_159.out; have hnc8 := NB159_161.out; have hcz9_0 : w7.cell? ⟨gb161, 0, none⟩ = some (.slice none 0 0) := (blk_cell BK161.out 0).trans rfl; have hfz9_0 := blk_frozen BK161.out 0))
      go_loopg [3, 20] k1 (fun kq v3 v20 w' => ∃ (x3_2 : List (S58)) (x20_2 : Int), v20 = .int .i64 x20_2 ∧ Aside0 (audit_whole.l1 kq x3_2 x12_1 l0_0 (l0_0.length : Int) x12_1 ((rd_T83 l0_0 x12_1).f0) (((rd_T83 l0_0 x12_1).f0).length : Int) x20_2 = some r) ∧ Aside0 (kq ≤ k1) ∧ Aside0 (Kd.R k58 58 w' w.heap.size (fun _ => True) v3 x3_2) ∧ Aside0 (w'.heap[gb159]? = some (.cells #[(.slice (some ad160) l0_0.length c0_0), (.slice A0_1 l0_1.length c0_1), .int .i64 a0_2, .int .i64 a0_3, .int .i64 a0_4, .int .i64 a0_5] 27 (0, 0))) ∧ Aside0 (w'.heap[gb161]? = some (.cells #[(.slice A160_0 ((rd_T83 l0_0 x12_1).f0).length c160_0)] 83 (0, 0))) ∧ Aside0 (Below w.heap.size w w'))
      case atStart => exact ⟨(x3_1), (0), (by first | rfl | (simp; done) | (simp [*]; done)), H', ⟨Nat.le_refl _⟩, ⟨by (with_reducible repeat (first | apply Kd.R_alloc | apply Kd.R_drewN | apply Kd.R_drew)); exact Kd.R_mono (Kd.R_far (p := ⟨gb161, 0, none⟩) (Kd.R_types HO_3.out BK161.out (by decide)) (fun _ hk => hk.2) (.slice A160_0 ((rd_T83 l0_0 x12_1).f0).length c160_0)) (fun _ hk => trivial)⟩, ⟨by (with_reducible repeat (first | refine blk_drewN ?_ _ | refine blk_drew ?_ | refine blk_alloc ?_ _)); refine blk_far ?_ NB159_161.out _; (with_reducible repeat (first | refine blk_drewN ?_ _ | refine blk_drew ?_ | refine blk_alloc ?_ _)); exact BK159.out⟩, ⟨by (with_reducible repeat (first | refine blk_drewN ?_ _ | refine blk_drew ?_ | refine blk_alloc ?_ _)); refine blk_put (cs := #[.slice none 0 0]) ?_ 0 _ rfl; (with_reducible repeat (first | refine blk_drewN ?_ _ | refine blk_drew ?_ | refine blk_alloc ?_ _)); exact BK161.out⟩, ⟨by repeat (first | (with_reducible first | exact HB.out | apply below_alloc | apply pw_below_drewN | apply below_drew1 | refine below_set ?_ GE159.out | refine below_set ?_ GE161.out) | exact HB.out)⟩⟩
      case round =>
       clear H'
       try clear c1
       try clear p1
       try clear q1
       try clear hx1
       try clear p2
       try clear c3
       try clear c4
       try clear c4b0
       try clear c5
       try clear c5b0
       try clear c6
       try clear c6b0
       try clear c8
       try clear hcz3_0
       try clear hcz3_1
       try clear hcz3_2
       try clear hcz3_3
       try clear hcz3_4
       try clear hcz3_5
       try clear hcz9_0
       try clear hfz3_0
       try clear hfz3_1
       try clear hfz3_2
       try clear hfz3_3
       try clear hfz3_4
       try clear hfz3_5
       try clear hfz9_0
       try clear hx160_0
       try clear p160
       try clear p2
       try clear q160
       obtain ⟨x3_2, x20_2, rfl, HA, HK2, HO_3, BK159, BK161, HB⟩ := hrel
       cases gk with
       | zero => exact absurd HA.out (by simp [audit_whole.l1])
       | succ k2 =>
        have H := HA.out
        clear HA
        simp only [audit_whole.l1] at H
        by_cases c10 : x20_2 < (((rd_T83 l0_0 x12_1).f0).length : Int)
        ·rw [if_pos c10] at H
         have c10b0 : decide (x20_2 < (((rd_T83 l0_0 x12_1).f0).length : Int)) = true := decide_eq_true c10
         clear c10
         by_cases c11 : 0 ≤ x20_2
         ·rw [if_pos c11] at H
          have c11b0 : decide (0 ≤ x20_2) = true := decide_eq_true c11
          clear c11
          by_cases c12 : x20_2 < (((rd_T83 l0_0 x12_1).f0).length : Int)
          ·rw [if_pos c12] at H
           have c12b0 : decide (x20_2 < (((rd_T83 l0_0 x12_1).f0).length : Int)) = true := decide_eq_true c12
           clear c12
           replace H := Option.bind_eq_some_iff.mp H
           obtain ⟨t164, A130, H⟩ := H
           replace H : (if x3_2.length < 4398046511104 then (audit_whole.l1 k2 (x3_2 ++ [(⟨(⟨x12_1, x20_2⟩ : S56), t164, (rd_T84 ((rd_T83 l0_0 x12_1).f0) x20_2).f1⟩ : S58)]) x12_1 l0_0 (l0_0.length : Int) x12_1 ((rd_T83 l0_0 x12_1).f0) (((rd_T83 l0_0 x12_1).f0).length : Int) (wrap64 (x20_2 + 1))) else (none)) = some r := H
           have A13 := Aside0.mk A130
           clear A130
           by_cases c14 : x3_2.length < 4398046511104
           ·rw [if_pos c14] at H
            have LMc14 := Aside0.mk c14
            clear c14
            obtain ⟨y165, hy165⟩ : ∃ y_ : List (S58), y_ = (x3_2 ++ [(⟨(⟨x12_1, x20_2⟩ : S56), t164, (rd_T84 ((rd_T83 l0_0 x12_1).f0) x20_2).f1⟩ : S58)]) := ⟨_, rfl⟩
            replace H : (audit_whole.l1 k2 y165 x12_1 l0_0 (l0_0.length : Int) x12_1 ((rd_T83 l0_0 x12_1).f0) (((rd_T83 l0_0 x12_1).f0).length : Int) (wrap64 (x20_2 + 1))) = some r := by first | (rw [hy165]; with_reducible exact H) | (have H2_ := (Option.bind_some _ _).symm.trans H; rw [hy165]; with_reducible exact H2_) | (have H2_ := (Option.bind_some _ _).symm.trans H; with_reducible exact H2_) | with_reducible exact H | (rw [hy165]; exact H) | exact H
            have Ny165 := Aside0.mk hy165
            clear hy165
            have H' := Aside0.mk H
            clear H
            have p162 : 0 ≤ (x20_2 : Int) := of_decide_eq_true (by first | (with_reducible assumption) | assumption)
            have q162 : x20_2 < (((rd_T83 l0_0 x12_1).f0).length : Int) := of_decide_eq_true (by first | (with_reducible assumption) | assumption)
            obtain ⟨ad162, e162, hx162_0, hx162_1⟩ := at_T84 HR160_0.out x20_2 p162 q162
            cases e162
            replace hx162_0 := (HB.out.cell (World.block_lt_of_cell? w _ hx162_0)).trans hx162_0
            replace hx162_1 := (HB.out.cell (World.block_lt_of_cell? w _ hx162_1)).trans hx162_1
            replace p162 := eq_true p162
            replace q162 := eq_true q162
            try go_wp2_with (first | ((with_reducible refine gate_dst (N := 7) rfl ?_); refine box_event ?hg (N := 7) ?hd (cs := #[.int .i64 0, .int .i64 0]) (t := 84) ?hr ?_; (case hd => rfl); (case hg => rfl); (case hr => first | (go_simp; done) | (go_simp; rfl)); intro gb163 hg w15 hbox hb; have n0_ := Aside0.mk (Kd.R_below (by (with_reducible repeat (first | apply Kd.R_alloc | apply Kd.R_drewN | apply Kd.R_drew)); exact HO_3.out) hb); have n1_ := Aside0.mk (blk_below (g := gb159) (o := .cells #[.slice (some ad160) l0_0.length c0_0, .slice A0_1 l0_1.length c0_1, .int .i64 a0_2, .int .i64 a0_3, .int .i64 a0_4, .int .i64 a0_5] 27 (0, 0)) (by (with_reducible repeat (first | refine blk_drewN ?_ _ | refine blk_drew ?_ | refine blk_alloc ?_ _)); exact BK159.out) hb); have n2_ := Aside0.mk (blk_below (g := gb161) (o := .cells #[.slice (some ad162) ((rd_T83 l0_0 x12_1).f0).length c160_0] 83 (0, 0)) (by (with_reducible repeat (first | refine blk_drewN ?_ _ | refine blk_drew ?_ | refine blk_alloc ?_ _)); exact BK161.out) hb); have n3_ := Aside0.mk (below_step (by repeat (first | (with_reducible first | exact HB.out | apply below_alloc | apply pw_below_drewN | apply below_drew1 | refine below_set ?_ GE159.out | refine below_set ?_ GE161.out) | exact HB.out)) hb); have n4_ := Aside0.mk (hbox); have n5_ := Aside0.mk ((by rw [hg]; exact (below_size (by repeat (first | (with_reducible first | exact HB.out | apply below_alloc | apply pw_below_drewN | apply below_drew1 | refine below_set ?_ GE159.out | refine below_set ?_ GE161.out) | exact HB.out))) : w.heap.size ≤ gb163)); have n6_ := Aside0.mk ((by rw [hg]; exact (below_size (by repeat (first | (with_reducible first | exact HB.out | apply below_alloc | apply pw_below_drewN | apply below_drew1 | refine below_set ?_ GE159.out | refine below_set ?_ GE161.out) | exact HB.out))) : w.heap.size ≤ gb163)); have n7_ := Aside0.mk ((by rw [hg]; exact Nat.ne_of_lt (blk_lt (g := gb159) (o := .cells #[.slice (some ad160) l0_0.length c0_0, .slice A0_1 l0_1.length c0_1, .int .i64 a0_2, .int .i64 a0_3, .int .i64 a0_4, .int .i64 a0_5] 27 (0, 0)) (by (with_reducible repeat (first | refine blk_drewN ?_ _ | refine blk_drew ?_ | refine blk_alloc ?_ _)); exact BK159.out)) : gb159 ≠ gb163)); have n8_ := Aside0.mk ((by rw [hg]; exact Nat.ne_of_gt (blk_lt (g := gb159) (o := .cells #[.slice (some ad160) l0_0.length c0_0, .slice A0_1 l0_1.length c0_1, .int .i64 a0_2, .int .i64 a0_3, .int .i64 a0_4, .int .i64 a0_5] 27 (0, 0)) (by (with_reducible repeat (first | refine blk_drewN ?_ _ | refine blk_drew ?_ | refine blk_alloc ?_ _)); exact BK159.out)) : gb163 ≠ gb159)); have n9_ := Aside0.mk ((by rw [hg]; exact Nat.ne_of_lt (blk_lt (g := gb161) (o := .cells #[.slice (some ad162) ((rd_T83 l0_0 x12_1).f0).length c160_0] 83 (0, 0)) (by (with_reducible repeat (first | refine blk_drewN ?_ _ | refine blk_drew ?_ | refine blk_alloc ?_ _)); exact BK161.out)) : gb161 ≠ gb163)); have n10_ := Aside0.mk ((by rw [hg]; exact Nat.ne_of_gt (blk_lt (g := gb161) (o := .cells #[.slice (some ad162) ((rd_T83 l0_0 x12_1).f0).length c160_0] 83 (0, 0)) (by (with_reducible repeat (first | refine blk_drewN ?_ _ | refine blk_drew ?_ | refine blk_alloc ?_ _)); exact BK161.out)) : gb163 ≠ gb161)); clear HO_3; clear BK159; clear BK161; clear HB; have HO_3 := n0_; have BK159 := n1_; have BK161 := n2_; have HB := n3_; have BK163 := n4_; have GW163 := n5_; have GE163 := n6_; have NB159_163 := n7_; have NB163_159 := n8_; have NB161_163 := n9_; have NB163_161 := n10_; clear n0_ n1_ n2_ n3_ n4_ n5_ n6_ n7_ n8_ n9_ n10_; clear hb hbox hg; have hnb16 := NB163_159.out; have hnc16 := NB159_163.out; have hnb17 := NB163_161.out; have hnc17 := NB161_163.out; have hcz18_0 : w15.cell? ⟨gb163, 0, none⟩ = some (.int .i64 0) := (blk_cell BK163.out 0).trans rfl; have hcz18_1 : w15.cell? ⟨gb163, 1, none⟩ = some (.int .i64 0) := (blk_cell BK163.out 1).trans rfl; have hfz18_0 := blk_frozen BK163.out 0; have hfz18_1 := blk_frozen BK163.out 1))
            have n0_ : Aside0 (Kd.R k58 58 ((w15.setCell ⟨gb163, 0, none⟩ (.int .i64 ((rd_T84 ((rd_T83 l0_0 x12_1).f0) x20_2).f0))).setCell ⟨gb163, 1, none⟩ (.int .i64 ((rd_T84 ((rd_T83 l0_0 x12_1).f0) x20_2).f1))) w.heap.size (fun _ => True) u3 x3_2) := ⟨by (with_reducible repeat (first | apply Kd.R_alloc | apply Kd.R_drewN | apply Kd.R_drew)); exact Kd.R_mono (Kd.R_far (p := ⟨gb163, 1, none⟩) (Kd.R_far (p := ⟨gb163, 0, none⟩) (Kd.R_types HO_3.out BK163.out (by decide)) (fun _ hk => hk.2) (.int .i64 ((rd_T84 ((rd_T83 l0_0 x12_1).f0) x20_2).f0))) (fun _ hk => hk.2) (.int .i64 ((rd_T84 ((rd_T83 l0_0 x12_1).f0) x20_2).f1))) (fun _ hk => trivial)⟩
            have n1_ : Aside0 (((w15.setCell ⟨gb163, 0, none⟩ (.int .i64 ((rd_T84 ((rd_T83 l0_0 x12_1).f0) x20_2).f0))).setCell ⟨gb163, 1, none⟩ (.int .i64 ((rd_T84 ((rd_T83 l0_0 x12_1).f0) x20_2).f1))).heap[gb159]? = some (.cells #[.slice (some ad160) l0_0.length c0_0, .slice A0_1 l0_1.length c0_1, .int .i64 a0_2, .int .i64 a0_3, .int .i64 a0_4, .int .i64 a0_5] 27 (0, 0))) := ⟨by (with_reducible repeat (first | refine blk_drewN ?_ _ | refine blk_drew ?_ | refine blk_alloc ?_ _)); refine blk_far ?_ NB159_163.out _; (with_reducible repeat (first | refine blk_drewN ?_ _ | refine blk_drew ?_ | refine blk_alloc ?_ _)); refine blk_far ?_ NB159_163.out _; (with_reducible repeat (first | refine blk_drewN ?_ _ | refine blk_drew ?_ | refine blk_alloc ?_ _)); exact BK159.out⟩
            have n2_ : Aside0 (((w15.setCell ⟨gb163, 0, none⟩ (.int .i64 ((rd_T84 ((rd_T83 l0_0 x12_1).f0) x20_2).f0))).setCell ⟨gb163, 1, none⟩ (.int .i64 ((rd_T84 ((rd_T83 l0_0 x12_1).f0) x20_2).f1))).heap[gb161]? = some (.cells #[.slice (some ad162) ((rd_T83 l0_0 x12_1).f0).length c160_0] 83 (0, 0))) := ⟨by (with_reducible repeat (first | refine blk_drewN ?_ _ | refine blk_drew ?_ | refine blk_alloc ?_ _)); refine blk_far ?_ NB161_163.out _; (with_reducible repeat (first | refine blk_drewN ?_ _ | refine blk_drew ?_ | refine blk_alloc ?_ _)); refine blk_far ?_ NB161_163.out _; (with_reducible repeat (first | refine blk_drewN ?_ _ | refine blk_drew ?_ | refine blk_alloc ?_ _)); exact BK161.out⟩
            have n3_ : Aside0 (((w15.setCell ⟨gb163, 0, none⟩ (.int .i64 ((rd_T84 ((rd_T83 l0_0 x12_1).f0) x20_2).f0))).setCell ⟨gb163, 1, none⟩ (.int .i64 ((rd_T84 ((rd_T83 l0_0 x12_1).f0) x20_2).f1))).heap[gb163]? = some (.cells #[.int .i64 ((rd_T84 ((rd_T83 l0_0 x12_1).f0) x20_2).f0), .int .i64 ((rd_T84 ((rd_T83 l0_0 x12_1).f0) x20_2).f1)] 84 (0, 0))) := ⟨by (with_reducible repeat (first | refine blk_drewN ?_ _ | refine blk_drew ?_ | refine blk_alloc ?_ _)); refine blk_put (cs := #[.int .i64 ((rd_T84 ((rd_T83 l0_0 x12_1).f0) x20_2).f0), .int .i64 0]) ?_ 1 _ rfl; (with_reducible repeat (first | refine blk_drewN ?_ _ | refine blk_drew ?_ | refine blk_alloc ?_ _)); refine blk_put (cs := #[.int .i64 0, .int .i64 0]) ?_ 0 _ rfl; (with_reducible repeat (first | refine blk_drewN ?_ _ | refine blk_drew ?_ | refine blk_alloc ?_ _)); exact BK163.out⟩
            have n4_ : Aside0 (Below w.heap.size w ((w15.setCell ⟨gb163, 0, none⟩ (.int .i64 ((rd_T84 ((rd_T83 l0_0 x12_1).f0) x20_2).f0))).setCell ⟨gb163, 1, none⟩ (.int .i64 ((rd_T84 ((rd_T83 l0_0 x12_1).f0) x20_2).f1)))) := ⟨by repeat (first | (with_reducible first | exact HB.out | apply below_alloc | apply pw_below_drewN | apply below_drew1 | refine below_set ?_ GE159.out | refine below_set ?_ GE161.out | refine below_set ?_ GE163.out) | exact HB.out)⟩
            (try clear HO_3)
            (try clear BK159)
            (try clear BK161)
            (try clear BK163)
            (try clear HB)
            generalize ((w15.setCell ⟨gb163, 0, none⟩ (.int .i64 ((rd_T84 ((rd_T83 l0_0 x12_1).f0) x20_2).f0))).setCell ⟨gb163, 1, none⟩ (.int .i64 ((rd_T84 ((rd_T83 l0_0 x12_1).f0) x20_2).f1))) = w19 at n0_ n1_ n2_ n3_ n4_ ⊢
            have HO_3 := n0_
            have BK159 := n1_
            have BK161 := n2_
            have BK163 := n3_
            have HB := n4_
            clear n0_ n1_ n2_ n3_ n4_
            have n0_ := Aside0.mk (Kd.R_drew HO_3.out)
            have n1_ := Aside0.mk (blk_drew BK159.out)
            have n2_ := Aside0.mk (blk_drew BK161.out)
            have n3_ := Aside0.mk (blk_drew BK163.out)
            have n4_ := Aside0.mk (below_drew1 HB.out)
            clear HO_3
            clear BK159
            clear BK161
            clear BK163
            clear HB
            have HO_3 := n0_
            have BK159 := n1_
            have BK161 := n2_
            have BK163 := n3_
            have HB := n4_
            clear n0_ n1_ n2_ n3_ n4_
            refine start_ (n := 13) (S := fun w' => w'.cell? ⟨gb163, 0, none⟩ = some (.int .i64 ((rd_T84 ((rd_T83 l0_0 x12_1).f0) x20_2).f0)) ∧ w'.cell? ⟨gb163, 1, none⟩ = some (.int .i64 ((rd_T84 ((rd_T83 l0_0 x12_1).f0) x20_2).f1))) (ds := []) #[false, false, false, false, false, false, false, false, false, false, false, false, false] (by kernel_rfl) rfl rfl ⟨(blk_cell BK163.out 0).trans rfl, (blk_cell BK163.out 1).trans rfl⟩ (fun hHeld => ?_); refine with_tabW audit_whole.tab8 audit_whole.bits8 (fun HT_ HW_ => ?_)
            generalize w19.drew = w20 at HO_3 BK159 BK161 BK163 HB hHeld ⊢
            refine pure_ (i := 0) (N := some 25) (v := ?_) (a' := ?_) #[true, false, false, false, false, false, false, false, false, false, false, false, false] rfl rfl (any_of HT_.out (by kernel_rfl)) (fun _ _ _ h => h) (Or.inl ⟨by rfl, ?_⟩) ?_ ?_
            rotate_left
            ·intro w'
             go_simp
             with_reducible rfl
            rotate_left
            ·simp only [Act.put, List.setIfInBounds_toArray, List.set_cons_zero, List.set_cons_succ, i64_w, i32_w]
             rfl
            refine pure_ (i := 1) (N := some 26) (v := ?_) (a' := ?_) #[true, true, false, false, false, false, false, false, false, false, false, false, false] rfl rfl (any_of HT_.out (by kernel_rfl)) (fun _ _ _ h => h) (Or.inl ⟨by rfl, ?_⟩) ?_ ?_
            rotate_left
            ·intro w'
             go_simp
             with_reducible rfl
            rotate_left
            ·simp only [Act.put, List.setIfInBounds_toArray, List.set_cons_zero, List.set_cons_succ, i64_w, i32_w]
             rfl
            refine pure_ (i := 2) (N := some 27) (v := ?_) (a' := ?_) #[true, true, true, false, false, false, false, false, false, false, false, false, false] rfl rfl (any_of HT_.out (by kernel_rfl)) (fun _ _ _ h => h) (Or.inl ⟨by rfl, ?_⟩) ?_ ?_
            rotate_left
            ·intro w'
             go_simp
             with_reducible rfl
            rotate_left
            ·simp only [Act.put, List.setIfInBounds_toArray, List.set_cons_zero, List.set_cons_succ, i64_w, i32_w]
             rfl
            refine pure_ (i := 3) (N := some 28) (v := ?_) (a' := ?_) #[true, true, true, true, false, false, false, false, false, false, false, false, false] rfl rfl (any_of HT_.out (by kernel_rfl)) (fun _ _ _ h => h) (Or.inl ⟨by rfl, ?_⟩) ?_ ?_
            rotate_left
            ·intro w'
             go_simp
             with_reducible rfl
            rotate_left
            ·simp only [Act.put, List.setIfInBounds_toArray, List.set_cons_zero, List.set_cons_succ, i64_w, i32_w]
             rfl
            refine pure_ (i := 4) (N := some 29) (v := ?_) (a' := ?_) #[true, true, true, true, true, false, false, false, false, false, false, false, false] rfl rfl (any_of HT_.out (by kernel_rfl)) (fun _ _ _ h => h) (Or.inl ⟨by rfl, ?_⟩) ?_ ?_
            rotate_left
            ·intro w'
             go_simp
             with_reducible rfl
            rotate_left
            ·simp only [Act.put, List.setIfInBounds_toArray, List.set_cons_zero, List.set_cons_succ, i64_w, i32_w]
             rfl
            refine pure_ (i := 7) (N := some 32) (v := ?_) (a' := ?_) #[true, true, true, true, true, false, false, true, false, false, false, false, false] rfl rfl (any_of HT_.out (by kernel_rfl)) (fun _ _ _ h => h) (Or.inl ⟨by rfl, ?_⟩) ?_ ?_
            rotate_left
            ·intro w'
             go_simp
             with_reducible rfl
            rotate_left
            ·simp only [Act.put, List.setIfInBounds_toArray, List.set_cons_zero, List.set_cons_succ, i64_w, i32_w]
             rfl
            refine take_ (i := 5) (N := some 30) (v := ?_) (a' := ?_) #[true, true, true, true, true, true, false, true, false, false, false, false, false] rfl rfl (take_ofW HT_.out HW_.out (by kernel_rfl)) (fun _ _ _ h => h) (Or.inl ⟨by rfl, ?_⟩) hHeld ?_ ?_
            rotate_left
            ·rintro w' ⟨s0, s1⟩
             go_simp
             with_reducible rfl
            rotate_left
            ·simp only [Act.put, List.setIfInBounds_toArray, List.set_cons_zero, List.set_cons_succ, i64_w, i32_w]
             rfl
            refine take_ (i := 8) (N := some 33) (v := ?_) (a' := ?_) #[true, true, true, true, true, true, false, true, true, false, false, false, false] rfl rfl (take_ofW HT_.out HW_.out (by kernel_rfl)) (fun _ _ _ h => h) (Or.inl ⟨by rfl, ?_⟩) hHeld ?_ ?_
            rotate_left
            ·rintro w' ⟨s0, s1⟩
             go_simp
             with_reducible rfl
            rotate_left
            ·simp only [Act.put, List.setIfInBounds_toArray, List.set_cons_zero, List.set_cons_succ, i64_w, i32_w]
             rfl
            refine one_ (i := 6) (N := some 31) #[true, true, true, true, true, true, true, true, true, false, false, false, false] rfl rfl (one_of HT_.out (by kernel_rfl)) (by decide) (fun K hK => ?_)
            refine goes_ Try.func56 (by kernel_rfl) rfl #[.int .i64 ((rd_T84 ((rd_T83 l0_0 x12_1).f0) x20_2).f0)] (by rfl) rfl rfl (by (try simp only [List.map_toArray, List.map_cons, List.map_nil]); first | done | rfl | (simp only [List.length_drop, List.length_take]; rfl)) ?_
            with_reducible refine (mask_First.calls ((rd_T84 ((rd_T83 l0_0 x12_1).f0) x20_2).f0) t164 _ A13.out).mono ?_
            rintro e w21 ⟨rfl, hb⟩
            refine ⟨_, rfl, ?_⟩
            have n0_ := Aside0.mk (Kd.R_below (by (with_reducible repeat (first | apply Kd.R_alloc | apply Kd.R_drewN | apply Kd.R_drew)); exact HO_3.out) hb)
            have n1_ := Aside0.mk (blk_below (g := gb159) (o := .cells #[.slice (some ad160) l0_0.length c0_0, .slice A0_1 l0_1.length c0_1, .int .i64 a0_2, .int .i64 a0_3, .int .i64 a0_4, .int .i64 a0_5] 27 (0, 0)) (by (with_reducible repeat (first | refine blk_drewN ?_ _ | refine blk_drew ?_ | refine blk_alloc ?_ _)); exact BK159.out) hb)
            have n2_ := Aside0.mk (blk_below (g := gb161) (o := .cells #[.slice (some ad162) ((rd_T83 l0_0 x12_1).f0).length c160_0] 83 (0, 0)) (by (with_reducible repeat (first | refine blk_drewN ?_ _ | refine blk_drew ?_ | refine blk_alloc ?_ _)); exact BK161.out) hb)
            have n3_ := Aside0.mk (blk_below (g := gb163) (o := .cells #[.int .i64 ((rd_T84 ((rd_T83 l0_0 x12_1).f0) x20_2).f0), .int .i64 ((rd_T84 ((rd_T83 l0_0 x12_1).f0) x20_2).f1)] 84 (0, 0)) (by (with_reducible repeat (first | refine blk_drewN ?_ _ | refine blk_drew ?_ | refine blk_alloc ?_ _)); exact BK163.out) hb)
            have n4_ := Aside0.mk (below_step (by repeat (first | (with_reducible first | exact HB.out | apply below_alloc | apply pw_below_drewN | apply below_drew1 | refine below_set ?_ GE159.out | refine below_set ?_ GE161.out | refine below_set ?_ GE163.out) | exact HB.out)) hb)
            clear HO_3
            clear BK159
            clear BK161
            clear BK163
            clear HB
            have HO_3 := n0_
            have BK159 := n1_
            have BK161 := n2_
            have BK163 := n3_
            have HB := n4_
            clear n0_ n1_ n2_ n3_ n4_
            (try clear hb)
            (try clear hb2)
            (try clear hk)
            (try clear hi)
            refine hK.out _ _ ⟨(blk_cell BK163.out 0).trans rfl, (blk_cell BK163.out 1).trans rfl⟩ (fun hHeld => ?_)
            clear hK K
            refine norm_ (a' := ?_) ?_ ?_
            rotate_left
            ·show Act.put _ (some 31) _ = _
             simp only [Act.put, List.setIfInBounds_toArray, List.set_cons_zero, List.set_cons_succ, i64_w, i32_w]
             rfl
            refine pure_ (i := 9) (N := some 34) (v := ?_) (a' := ?_) #[true, true, true, true, true, true, true, true, true, true, false, false, false] rfl rfl (any_of HT_.out (by kernel_rfl)) (fun _ _ _ h => h) (Or.inl ⟨by rfl, ?_⟩) ?_ ?_
            rotate_left
            ·intro w'
             go_simp
             with_reducible rfl
            rotate_left
            ·simp only [Act.put, List.setIfInBounds_toArray, List.set_cons_zero, List.set_cons_succ, i64_w, i32_w]
             rfl
            refine one_ (i := 10) (N := some 35) #[true, true, true, true, true, true, true, true, true, true, true, false, false] rfl rfl (one_of HT_.out (by kernel_rfl)) (by decide) (fun K hK => ?_)
            refine value_ (w1 := ?_) (v := ?_) (by rfl) rfl ?_ ?_
            rotate_left 2
            ·go_simp
             constructor
             ·rfl
             ·rfl
            refine hK.out _ _ ⟨(blk_cell (blk_alloc BK163.out _) 0).trans rfl, (blk_cell (blk_alloc BK163.out _) 1).trans rfl⟩ (fun hHeld => ?_)
            clear hK K
            refine norm_ (a' := ?_) ?_ ?_
            rotate_left
            ·show Act.put _ (some 35) _ = _
             simp only [Act.put, List.setIfInBounds_toArray, List.set_cons_zero, List.set_cons_succ, i64_w, i32_w]
             rfl
            refine one_ (i := 11) (N := some 36) #[true, true, true, true, true, true, true, true, true, true, true, true, false] rfl rfl (one_of HT_.out (by kernel_rfl)) (by decide) (fun K hK => ?_)
            refine Kd.R_append_step k58 (w0 := w) w.heap.size (by rfl) (.tmp 25) (.tmp 35) 32 58 (.agg #[(.int .i64 0), (.int .i64 0), (.int .u64 0), (.int .i64 0)]) 32 rfl Try.underlying32 info58 rfl (by decide) (by omega) u3 x3_2 (⟨(⟨x12_1, x20_2⟩ : S56), t164, (rd_T84 ((rd_T83 l0_0 x12_1).f0) x20_2).f1⟩ : S58) [.int .i64 x12_1, .int .i64 x20_2, .int .u64 t164, .int .i64 ((rd_T84 ((rd_T83 l0_0 x12_1).f0) x20_2).f1)] (fun _ => True) (fun _ => False) rfl rfl ?aP (fun _ hk => hk.elim) ?aF ?aO ?aB ?aS ?aL ?_
            (case aP => exact k58_mkM _ _ _ (⟨(⟨x12_1, x20_2⟩ : S56), t164, (rd_T84 ((rd_T83 l0_0 x12_1).f0) x20_2).f1⟩ : S58))
            (case aB => exact (by repeat (first | (with_reducible first | exact HB.out | apply below_alloc | apply pw_below_drewN | apply below_drew1 | refine below_set ?_ GE159.out | refine below_set ?_ GE161.out | refine below_set ?_ GE163.out) | exact HB.out)))
            (case aF => exact (fun _ _ => trivial))
            (case aO => exact (by (with_reducible repeat (first | apply Kd.R_alloc | apply Kd.R_drewN | apply Kd.R_drew)); exact HO_3.out))
            (case aS => exact (below_size (by repeat (first | (with_reducible first | exact HB.out | apply below_alloc | apply pw_below_drewN | apply below_drew1 | refine below_set ?_ GE159.out | refine below_set ?_ GE161.out | refine below_set ?_ GE163.out) | exact HB.out))))
            (case aL => have := LMc14.out; omega)
            intro v166 w22 ho hb hg hat
            rw [← Ny165.out] at ho
            have n0_ := Aside0.mk (blk_grown (g := gb159) (o := .cells #[.slice (some ad160) l0_0.length c0_0, .slice A0_1 l0_1.length c0_1, .int .i64 a0_2, .int .i64 a0_3, .int .i64 a0_4, .int .i64 a0_5] 27 (0, 0)) (by (with_reducible repeat (first | refine blk_drewN ?_ _ | refine blk_drew ?_ | refine blk_alloc ?_ _)); exact BK159.out) hg (Kd.R_ne HO_3.out BK159.out (by decide)))
            have n1_ := Aside0.mk (blk_grown (g := gb161) (o := .cells #[.slice (some ad162) ((rd_T83 l0_0 x12_1).f0).length c160_0] 83 (0, 0)) (by (with_reducible repeat (first | refine blk_drewN ?_ _ | refine blk_drew ?_ | refine blk_alloc ?_ _)); exact BK161.out) hg (Kd.R_ne HO_3.out BK161.out (by decide)))
            have n2_ := Aside0.mk (blk_grown (g := gb163) (o := .cells #[.int .i64 ((rd_T84 ((rd_T83 l0_0 x12_1).f0) x20_2).f0), .int .i64 ((rd_T84 ((rd_T83 l0_0 x12_1).f0) x20_2).f1)] 84 (0, 0)) (by (with_reducible repeat (first | refine blk_drewN ?_ _ | refine blk_drew ?_ | refine blk_alloc ?_ _)); exact BK163.out) hg (Kd.R_ne HO_3.out BK163.out (by decide)))
            have n3_ := Aside0.mk (hb)
            have n4_ := Aside0.mk (ho)
            clear BK159
            clear BK161
            clear BK163
            clear HB
            clear HO_3
            have BK159 := n0_
            have BK161 := n1_
            have BK163 := n2_
            have HB := n3_
            have HO167 := n4_
            clear n0_ n1_ n2_ n3_ n4_
            clear ho hb hg hat
            refine hK.out _ _ ⟨(blk_cell BK163.out 0).trans rfl, (blk_cell BK163.out 1).trans rfl⟩ (fun hHeld => ?_)
            clear hK K
            refine norm_ (a' := ?_) ?_ ?_
            rotate_left
            ·show Act.put _ (some 36) _ = _
             simp only [Act.put, List.setIfInBounds_toArray, List.set_cons_zero, List.set_cons_succ, i64_w, i32_w]
             rfl
            refine pure_ (i := 12) (N := some 3) (v := ?_) (a' := ?_) #[true, true, true, true, true, true, true, true, true, true, true, true, true] rfl rfl (any_of HT_.out (by kernel_rfl)) (fun _ _ _ h => h) (Or.inl ⟨by rfl, ?_⟩) ?_ ?_
            rotate_left
            ·intro w'
             go_simp
             with_reducible rfl
            rotate_left
            ·simp only [Act.put, List.setIfInBounds_toArray, List.set_cons_zero, List.set_cons_succ, i64_w, i32_w]
             rfl
            refine done_ (done_of HT_.out (by kernel_rfl)) ?_
            try go_wp2
            go_roundg k2
            case measure => have := HK1.out; have := HK2.out; omega
            case rel => exact ⟨(y165), (wrap64 (x20_2 + 1)), (by first | rfl | (simp; done) | (simp [*]; done)), H', ⟨by have := HK1.out; have := HK2.out; omega⟩, ⟨by (with_reducible repeat (first | apply Kd.R_alloc | apply Kd.R_drewN | apply Kd.R_drew)); exact HO167.out⟩, ⟨by (with_reducible repeat (first | refine blk_drewN ?_ _ | refine blk_drew ?_ | refine blk_alloc ?_ _)); exact BK159.out⟩, ⟨by (with_reducible repeat (first | refine blk_drewN ?_ _ | refine blk_drew ?_ | refine blk_alloc ?_ _)); exact BK161.out⟩, ⟨by repeat (first | (with_reducible first | exact HB.out | apply below_alloc | apply pw_below_drewN | apply below_drew1 | refine below_set ?_ GE159.out | refine below_set ?_ GE161.out | refine below_set ?_ GE163.out) | exact HB.out)⟩⟩
           ·rw [if_neg c14] at H
            exact absurd H (by simp)
          ·rw [if_neg c12] at H
           exact absurd H (by simp)
         ·rw [if_neg c11] at H
          exact absurd H (by simp)
        ·rw [if_neg c10] at H
         have c10b0 : decide (x20_2 < (((rd_T83 l0_0 x12_1).f0).length : Int)) = false := decide_eq_false c10
         clear c10
         have H' := Aside0.mk H
         clear H
         go_wp2
         go_roundg k2
         case measure => have := HK1.out; have := HK2.out; omega
         case rel => exact ⟨(x3_2), (wrap64 (x12_1 + 1)), (by first | rfl | (simp; done) | (simp [*]; done)), H', ⟨by have := HK1.out; have := HK2.out; omega⟩, ⟨by (with_reducible repeat (first | apply Kd.R_alloc | apply Kd.R_drewN | apply Kd.R_drew)); exact HO_3.out⟩, ⟨by (with_reducible repeat (first | refine blk_drewN ?_ _ | refine blk_drew ?_ | refine blk_alloc ?_ _)); exact BK159.out⟩, ⟨by repeat (first | (with_reducible first | exact HB.out | apply below_alloc | apply pw_below_drewN | apply below_drew1 | refine below_set ?_ GE159.out | refine below_set ?_ GE161.out) | exact HB.out)⟩⟩
     ·rw [if_neg c6] at H
      exact absurd H (by simp)
    ·rw [if_neg c5] at H
     exact absurd H (by simp)
   ·rw [if_neg c4] at H
    have c4b0 : decide (x12_1 < (l0_0.length : Int)) = false := decide_eq_false c4
    clear c4
    obtain rfl := Option.some.inj H
    go_wp2
    go_ret
    exact ⟨_, by first | rfl | (simp [errW_none, errW_some] <;> rfl) | (simp [*, errW_none, errW_some] <;> rfl), by (with_reducible repeat (first | apply Kd.R_alloc | apply Kd.R_drewN | apply Kd.R_drew)); exact HO_3.out, by repeat (first | (with_reducible first | exact HB.out | apply below_alloc | apply pw_below_drewN | apply below_drew1 | refine below_set ?_ GE159.out) | exact HB.out)⟩
end Go.Proofs.Ytpedlompipabdaa.P
namespace Go.Proofs.Ytpedlompipabdaa.P
open Go.RowKit Go.Proofs.YtpedlompipabdaaW.PrintWords Go.Proofs.YtpedlompipabdaaW.PrintLast Go.Proofs.YtpedlompipabdaaW.PrintMore
set_option linter.unusedVariables false
set_option linter.unusedSimpArgs false
attribute [local go_sem] cellBx frozBx Sit.c0 Sit.c1 Sit.c2 Sit.c3 Sit.c4 Sit.c5 Sit.c6 Sit.c7 Sit.c8 Sit.c9 Sit.c10 Sit.c12 Sit.c13 Sit.c14 Sit.c15
attribute [local go_sem] Oper.semAt_some
def frees (T : Sit) : Nat → List S58
 | 0 => T.lF
 | k + 1 => (turned51 moreE moreF (frees T k) (rd_T62 T.lH (k : Int)).f4).1
def holdsL (T : Sit) : Int × Int := firstL (fun k => holdE T (frees T k) k (rd_T62 T.lH (k : Int))) (fun k => (rd_T62 T.lH (k : Int)).f0) 0 T.lH.length
def holdsR (T : Sit) (wh : List S58) : Int × Int := if (holdsL T).1 = 0 then (if sameF (frees T T.lH.length) wh = true then (0, (holdsL T).2) else (13, 0)) else holdsL T
set_option maxHeartbeats 8000000 in
set_option maxRecDepth 100000 in
theorem holds_calls (T : Sit) (g k : Nat) (wh : List S58) (w : World) (ha : Au w g T) (hw : audit_whole.f k T.lN T.lQ T.x2 T.x3 T.x4 T.x5 = some wh) (hn : T.lH.length ≤ 1000000) (hf : (frees T T.lH.length).length ≤ 1000000) (hok : ∀ k, k < T.lH.length → spotsOk (frees T k) (rd_T62 T.lH (k : Int)).f4 = true) :
  Calls Try.prog 21 #[.pointer (some ⟨g, 0, none⟩)] w fun e w' => e = .returned (.tuple #[.int .i64 (holdsR T wh).1, .int .i64 (holdsR T wh).2]) ∧ Below w.heap.size w w' := by
 have hu62 := Try.underlying62
 have hu76 := Try.underlying76
 have hu78 := Try.underlying78
 have hu27 := Try.underlying27
 have hu35 := Try.underlying35
 have hu25 := Try.underlying25
 have hu31 := Try.underlying31
 have hu60 := Try.underlying60
 have hu32 := Try.underlying32
 have hu39 := Try.underlying39
 have hu3 := Try.underlying3
 have : Be w w := ⟨Below.refl _ _⟩
 have HW := Aside0.mk hw
 have HN := Aside0.mk hn
 have HOK := Aside0.mk hok
 have HFL := Aside0.mk hf
 clear hw hn hok hf
 obtain ⟨⟨E, N⟩, hR⟩ : ∃ R, holdsR T wh = R := ⟨_, rfl⟩
 rw [hR]
 unfold holdsR at hR
 have H := Aside0.mk hR
 clear hR
 go_enter Try.func21, Try.ntmps21
 go_upto_region 1 with (first | ((with_reducible refine gate_dst (N := 1) rfl ?_); refine bxT 1 #[.pointer (some ⟨g, 0, none⟩)] 76 ?_; intro p w1 _ _ _))
 go_upto_region 2 with (fail)
 obtain ⟨fr, w4, _, _, _, e1, e2⟩ := nameA w1 #[.slice T.AF T.lF.length T.cF] 32
 rw [e1, e2]
 clear e1 e2
 have hfw : w.heap.size ≤ fr := (inferInstance : Ge w fr).out
 have hpf : p ≠ fr := (inferInstance : Nq p fr).out
 have hgf : g ≠ fr := by have := blk_lt ha.box; omega
 have hI0 : (fun k W => Be w W ∧ Bx W p #[.pointer (some ⟨g, 0, none⟩)] 76 ∧ ∃ A c, Bx W fr #[.slice A (frees T k).length c] 32 ∧ Kd.C k58 W A (frees T k).length (frees T k) ∧ (frees T k).length ≤ c) 0 w4 := ⟨inferInstance, inferInstance, T.AF, T.cF, inferInstance, (ha.ok.step (Be.out (W := w4))).F, ha.ok.Fc⟩
 have HC := Aside0.mk (first62 33 #[.pointer (some ⟨p, 0, none⟩), .pointer (some ⟨fr, 0, none⟩)] (fun args W => by kernel_rfl) (some fr) (fun k => holdE T (frees T k) k (rd_T62 T.lH (k : Int))) (fun k W => Be w W ∧ Bx W p #[.pointer (some ⟨g, 0, none⟩)] 76 ∧ ∃ A c, Bx W fr #[.slice A (frees T k).length c] 32 ∧ Kd.C k58 W A (frees T k).length (frees T k) ∧ (frees T k).length ≤ c) T.AH T.cH T.lH w4 HN.out (fun k e => by cases e; exact blk_lt (Bx.out (W := w4) (g := fr))) (fun k W h => (ha.ok.step h.1.out).H) (fun k W W' h hb => by
   obtain ⟨be, b1, A, c, b2, h3, h4⟩ := h
   have := Bl.mk hb
   exact ⟨inferInstance, inferInstance, A, c, inferInstance, Kd.C_below h3 hb, h4⟩) hI0 (fun k hk A4 c4 W h hx hxc => by
   obtain ⟨be, b1, A, c, b2, h3, h4⟩ := h
   have hau : Au W g T := ⟨blk_below ha.box be.out, ha.ok.step be.out⟩
   refine (holds1 T g p fr k _ A4 A c4 c _ W hau b1 b2 h3 h4 hx hxc hk (by have := HN.out; omega) (HOK.out k hk)).mono ?_
   rintro e W' ⟨rfl, hg, hz⟩
   refine ⟨rfl, hg, fun h0 => ?_⟩
   obtain ⟨A', c', b3, h5, h6⟩ := hz h0
   exact ⟨⟨below_grown be.out hg hfw⟩, ⟨(hg.block p (blk_lt b1.out) (by simpa using hpf)).trans b1.out⟩, A', c', b3, h5, h6⟩))
 change Aside0 (Calls Try.prog 32 _ w4 fun e w' => e = .returned (.tuple #[.int .i64 (holdsL T).1, .int .i64 (holdsL T).2]) ∧ w4.grownBy w' (some fr) ∧ ((holdsL T).1 = 0 → _)) at HC
 obtain ⟨⟨e1, n1⟩, hL⟩ : ∃ r, holdsL T = r := ⟨_, rfl⟩
 rw [hL] at HC
 have hh := H.out
 rw [hL] at hh
 clear H hI0 hL
 go_upto_region 3 with (go_at_call 32; refine HC.out.mono ?_; rintro e w5 ⟨rfl, hg5, hz5⟩; have HG5 := Aside0.mk hg5; have HZ5 := Aside0.mk hz5; clear hg5 hz5)
 clear HC
 by_cases d1 : e1 = 0
 ·rw [if_pos d1] at hh
  have q1 : (e1 == 0) = true := beq_iff_eq.2 d1
  obtain ⟨be5, bp5, A5, c5, b5, hK5, hc5⟩ := HZ5.out d1
  have : Rw k58 w5 A5 c5 (frees T T.lH.length) := ⟨hK5, hc5⟩
  have : Bx w5 g T.cells 78 := ⟨blk_below ha.box be5.out⟩
  have HD1 := Aside0.mk d1
  clear HZ5 d1 hK5 hc5
  go_region_held3 (fun w' => w'.cell? ⟨fr, 0, none⟩ = some (.slice A5 (frees T T.lH.length).length c5) ∧ w'.cell? ⟨p, 0, none⟩ = some (.pointer (some ⟨g, 0, none⟩)) ∧ w'.cell? ⟨g, 0, none⟩ = some (.slice T.AN T.lN.length T.cN) ∧ w'.cell? ⟨g, 1, none⟩ = some (.slice T.AQ T.lQ.length T.cQ) ∧ w'.cell? ⟨g, 2, none⟩ = some (.int .i64 T.x2) ∧ w'.cell? ⟨g, 3, none⟩ = some (.int .i64 T.x3) ∧ w'.cell? ⟨g, 4, none⟩ = some (.int .i64 T.x4) ∧ w'.cell? ⟨g, 5, none⟩ = some (.int .i64 T.x5)) ((repeat' (refine And.intro ?_ ?_)) <;> first | exact (cellBx _).trans rfl | assumption | exact pw_cell_below Bl.out (by assumption)) (first | (go_at_call 37; refine (audit_whole.calls _ _ _ _ _ _ _ _ _ _ _ _ _ (ha.ok.step Be.out).N ha.ok.Nc (ha.ok.step Be.out).Q ha.ok.Qc HW.out).mono ?_; rintro e wv ⟨v, rfl, ho, hb⟩; have := Bl.mk hb; obtain ⟨Aw, cw, rfl, hcw, _⟩ := Kd.R_reads ho; have HOW := Aside0.mk ho; clear ho hb hcw) | (go_at_call 36; refine (equalF _ _ _ _ _ _ _ Rw.out (Kd.R_reads' HOW.out).2.2 HFL.out).mono ?_; rintro e ws ⟨rfl, hb⟩; have := Bl.mk hb; clear hb))
  cases hs : sameF (frees T T.lH.length) wh with
  | true =>
   rw [if_pos hs] at hh
   obtain ⟨rfl, rfl⟩ := Prod.mk.inj hh
   go_wp2
   obtain rfl := HD1.out
   go_ret2
   exact ⟨rfl, Be.out⟩
  | false =>
   rw [if_neg (by rw [hs]; decide)] at hh
   obtain ⟨rfl, rfl⟩ := Prod.mk.inj hh
   go_wp2
   go_ret2
   exact ⟨rfl, Be.out⟩
 ·rw [if_neg d1] at hh
  obtain ⟨rfl, rfl⟩ := Prod.mk.inj hh
  have q1 : (e1 == 0) = false := beq_eq_false_iff_ne.2 d1
  have HB5 := Aside0.mk (below_grown (Be.out (W := w4)) HG5.out hfw)
  clear d1 HZ5 HG5
  have : Be w w5 := ⟨HB5.out⟩
  go_region
  go_wp2
  go_ret2
  exact ⟨rfl, Be.out⟩
end Go.Proofs.Ytpedlompipabdaa.P
namespace Go.Proofs.Ytpedlompipabdaa.P
open Go.RowKit Go.Proofs.YtpedlompipabdaaW.PrintWords Go.Proofs.YtpedlompipabdaaW.PrintLast Go.Proofs.YtpedlompipabdaaW.PrintMore
set_option linter.unusedVariables false
set_option linter.unusedSimpArgs false
attribute [local go_sem] cellBx frozBx
set_option maxHeartbeats 8000000 in
set_option maxRecDepth 100000 in
theorem name51 (k : Int) (x : S51) (w : World) : Calls Try.prog 41 #[.int .i64 k, .agg #[.int .i64 x.f0.f0, .int .i64 x.f0.f1, .int .i64 x.f1]] w fun e w' => e = .returned (.int .i64 k) ∧ Below w.heap.size w w' := by
 have hu25 := Try.underlying25
 have hu51 := Try.underlying51
 have hu49 := Try.underlying49
 have hu39 := Try.underlying39
 have : Be w w := ⟨Below.refl _ _⟩
 go_enter Try.func41, Try.ntmps41
 go_wp2_with (((with_reducible refine gate_dst (N := 3) rfl ?_); refine bxT 3 #[.int .i64 x.f0.f0, .int .i64 x.f0.f1, .int .i64 x.f1] 51 ?_; intro g3 w3 _ _ _))
 go_ret
 exact ⟨rfl, Be.out⟩
set_option maxHeartbeats 8000000 in
set_option maxRecDepth 100000 in
theorem first51 (f : Nat) (lb : Array Value) (hent : ∀ args W, (callFunc f args).run Try.prog W = .ok (.enter f args) W) (r : Option Nat) (E : Nat → Int) (I : Nat → World → Prop) (A : Option Addr) (c : Nat) (l : List S51) (w : World) (hl : l.length ≤ 1000000) (hr : ∀ k, r = some k → k < w.heap.size) (hC : ∀ k W, I k W → Kd.C k51 W A l.length l) (hI : ∀ k W W', I k W → Below W.heap.size W W' → I k W') (h0 : I 0 w)
  (hs : ∀ k, k < l.length → ∀ W, I k W → Calls Try.prog f (#[.int .i64 (k : Int), .agg #[.int .i64 (rd_T51 l (k : Int)).f0.f0, .int .i64 (rd_T51 l (k : Int)).f0.f1, .int .i64 (rd_T51 l (k : Int)).f1]] ++ lb) W fun e W' => e = .returned (.int .i64 (E k)) ∧ W.grownBy W' r ∧ (E k = 0 → I (k + 1) W')) :
  Calls Try.prog 38 #[.slice A l.length c, .func (.func f) #[] lb, .func (.func 41) #[] #[]] w fun e w' => e = .returned (.tuple #[.int .i64 (firstL E (fun k => (k : Int)) 0 l.length).1, .int .i64 (firstL E (fun k => (k : Int)) 0 l.length).2]) ∧ w.grownBy w' r ∧ ((firstL E (fun k => (k : Int)) 0 l.length).1 = 0 → I l.length w') := by
 have hu25 := Try.underlying25
 have hu51 := Try.underlying51
 have hu49 := Try.underlying49
 have hu39 := Try.underlying39
 obtain ⟨res, hres⟩ : ∃ res, firstL E (fun k => (k : Int)) 0 l.length = res := ⟨_, rfl⟩
 rw [hres]
 have HA0 := Aside0.mk (show firstL E (fun k => (k : Int)) 0 (l.length - 0) = res from hres)
 have HL := Aside0.mk hl
 have HR := Aside0.mk hr
 have HC := Aside0.mk hC
 have HI := Aside0.mk hI
 have H0 := Aside0.mk h0
 have HS := Aside0.mk hs
 clear hres hl hr hC hI h0 hs
 go_enter Try.func38, Try.ntmps38
 go_wp2
 go_loopw [13] (fun v13 wr => ∃ i : Nat, i ≤ l.length ∧ v13 = .int .i64 (i : Int) ∧ Aside0 (firstL E (fun k => (k : Int)) i (l.length - i) = res) ∧ Aside0 (I i wr) ∧ Aside0 (w.grownBy wr r)) (fun v13 _ => l.length - (intOf v13).toNat)
 case atStart => exact ⟨0, Nat.zero_le _, rfl, HA0, H0, ⟨grown_refl _ _⟩⟩
 case round =>
  clear HA0 H0
  obtain ⟨i, hi, rfl, HA, HJ, HG⟩ := hrel
  by_cases hlt : i < l.length
  ·have hib : (i : Int) ≤ 1000000 := by have := HL.out; omega
   have hlt' : (i : Int) < l.length := by omega
   have h0i : 0 ≤ (i : Int) := by omega
   obtain ⟨ad, ee, y0, y1, y2⟩ := at_T51 (HC.out _ _ HJ.out) (i : Int) (by omega) (by omega)
   subst ee
   simp only [Int.toNat_natCast] at y0 y1 y2
   have ha := HA.out
   rw [show l.length - i = (l.length - (i + 1)) + 1 by omega, firstL] at ha
   have HA2 := Aside0.mk ha
   have HLT := Aside0.mk hlt
   clear HA ha hlt
   obtain ⟨x, hx⟩ : ∃ x, rd_T51 l (i : Int) = x := ⟨_, rfl⟩
   rw [hx] at y0 y1 y2
   have HX := Aside0.mk hx
   clear hx
   go_upto_region 4 with (fail)
   obtain ⟨g9, w9, _, _, _, e1, e2⟩ := nameA wr #[.int .i64 x.f0.f0, .int .i64 x.f0.f1, .int .i64 x.f1] 51
   rw [e1, e2]
   clear e1 e2 y0 y1 y2
   have HJ9 := Aside0.mk (HI.out _ _ w9 HJ.out Bl.out)
   have HG9 := Aside0.mk (grown_below (W' := w9) HG.out Bl.out)
   have hn9 : some g9 ≠ r := fun e => by have h1 := HR.out _ e.symm; have h2 := HG.out.size; have h3 := (‹Fr wr g9›).out; omega
   have HN9 := Aside0.mk hn9
   clear HJ HG hn9
   go_wp2_with (fail)
   have hcall := HS.out i HLT.out w9 HJ9.out
   rw [HX.out] at hcall
   refine hcall.mono ?_
   clear hcall
   rintro e W' ⟨rfl, hg, hj⟩
   have : Bx W' g9 #[.int .i64 x.f0.f0, .int .i64 x.f0.f1, .int .i64 x.f1] 51 := ⟨(hg.block g9 (blk_lt Bx.out) HN9.out).trans Bx.out⟩
   have HGW := Aside0.mk (grown_trans HG9.out hg)
   have HJW := Aside0.mk hj
   clear hg hj HJ9 HG9
   have ha := HA2.out
   clear HA2
   by_cases h0 : E i = 0
   ·rw [if_pos h0] at ha
    have HA3 := Aside0.mk ha
    have HJ2 := Aside0.mk (HJW.out h0)
    have t : (E i != 0) = false := by rw [h0]; rfl
    clear ha h0 HJW
    go_wp2
    go_roundw
    case rel => exact ⟨i + 1, HLT.out, by go_num, HA3, HJ2, HGW⟩
    case measure => have := HLT.out; simp [intOf]; omega
   ·rw [if_neg h0] at ha
    have t : (E i != 0) = true := bne_iff_ne.2 h0
    have HE := Aside0.mk h0
    have HA3 := Aside0.mk ha
    clear ha h0 HJW
    go_wp2_with (go_at_call 41; refine (name51 _ x _).mono ?_; rintro e W2 ⟨rfl, hb⟩; have HB2 := Aside0.mk hb; clear hb)
    go_ret2
    rw [← HA3.out]
    exact ⟨rfl, grown_below HGW.out HB2.out, fun e => absurd e HE.out⟩
  ·obtain rfl : i = l.length := by omega
   have ha := HA.out
   rw [Nat.sub_self, firstL] at ha
   have HA3 := Aside0.mk ha
   clear ha HA
   go_wp2
   go_ret2
   rw [← HA3.out]
   exact ⟨rfl, HG.out, fun _ => HJ.out⟩
end Go.Proofs.Ytpedlompipabdaa.P
namespace Go.Proofs.Ytpedlompipabdaa.Bits
def pos (m : Nat) : List Nat := (List.range 64).filter fun i => m.testBit i
def popN (m : Nat) : Nat := (pos m).length
def popI (m : Int) : Int := (popN m.toNat : Int)
end Go.Proofs.Ytpedlompipabdaa.Bits
namespace Go.Proofs.Ytpedlompipabdaa.Bits
set_option linter.unusedVariables false
set_option linter.unusedSimpArgs false
def glue : List Nat → Nat
 | [] => 0
 | r :: l => 256 * glue l + r
def maskN (s : Nat) : Nat → Nat
 | 0 => 0
 | k + 1 => 256 * maskN s k + s
theorem and_split (q p r s : Nat) (hr : r < 256) (hs : s < 256) : (256 * q + r) &&& (256 * p + s) = 256 * (q &&& p) + (r &&& s) := by
 apply Nat.eq_of_testBit_eq
 intro j
 have hrs : (r &&& s) < 2 ^ 8 := Nat.lt_of_le_of_lt Nat.and_le_left hr
 have e1 := Nat.testBit_two_pow_mul_add q (i := 8) hr j
 have e2 := Nat.testBit_two_pow_mul_add p (i := 8) hs j
 have e3 := Nat.testBit_two_pow_mul_add (q &&& p) (i := 8) hrs j
 rw [show (2 : Nat) ^ 8 = 256 from rfl] at e1 e2 e3
 rw [Nat.testBit_and, e1, e2, e3]
 split <;> simp
theorem and_shift (q p r s j : Nat) (hj : j ≤ 8) (hr : r < 256) (hs : s < 2 ^ (8 - j)) : ((256 * q + r) / 2 ^ j) &&& (256 * p + s) = 256 * ((q / 2 ^ j) &&& p) + ((r / 2 ^ j) &&& s) := by
 have hs' : s < 256 := Nat.lt_of_lt_of_le hs (by have := Nat.pow_le_pow_right (n := 2) (by omega) (show 8 - j ≤ 8 by omega); simpa using this)
 apply Nat.eq_of_testBit_eq
 intro i
 have hrs : ((r / 2 ^ j) &&& s) < 2 ^ 8 := Nat.lt_of_le_of_lt Nat.and_le_right hs'
 have e1 := Nat.testBit_two_pow_mul_add q (i := 8) hr (i + j)
 have e2 := Nat.testBit_two_pow_mul_add p (i := 8) hs' i
 have e3 := Nat.testBit_two_pow_mul_add ((q / 2 ^ j) &&& p) (i := 8) hrs i
 rw [show (2 : Nat) ^ 8 = 256 from rfl] at e1 e2 e3
 rw [Nat.testBit_and, e2, e3, Nat.testBit_div_two_pow, e1]
 by_cases hi : i < 8
 ·rw [if_pos hi, if_pos hi, Nat.testBit_and, Nat.testBit_div_two_pow]
  by_cases h2 : i + j < 8
  ·rw [if_pos h2]
  ·rw [if_neg h2]
   have : s.testBit i = false := by
    apply Nat.testBit_lt_two_pow
    exact Nat.lt_of_lt_of_le hs (Nat.pow_le_pow_right (by omega) (by omega))
   rw [this]; simp
 ·rw [if_neg hi, if_neg hi, if_neg (by omega), Nat.testBit_and, Nat.testBit_div_two_pow]
  rw [show i + j - 8 = i - 8 + j by omega]
theorem glue_and (s : Nat) (hs : s < 256) : ∀ l : List Nat, (∀ r ∈ l, r < 256) → glue l &&& maskN s l.length = glue (l.map fun r => r &&& s)
 | [], _ => by simp [glue, maskN]
 | r :: l, h => by
  rw [glue, List.length_cons, maskN, and_split _ _ _ _ (h r (by simp)) hs, glue_and s hs l (fun x hx => h x (by simp [hx]))]; rfl
theorem glue_shift (s j : Nat) (hj : j ≤ 8) (hs : s < 2 ^ (8 - j)) : ∀ l : List Nat, (∀ r ∈ l, r < 256) → (glue l / 2 ^ j) &&& maskN s l.length = glue (l.map fun r => (r / 2 ^ j) &&& s)
 | [], _ => by simp [glue, maskN]
 | r :: l, h => by
  rw [glue, List.length_cons, maskN, and_shift _ _ _ _ _ hj (h r (by simp)) hs, glue_shift s j hj hs l (fun x hx => h x (by simp [hx]))]; rfl
theorem glue_add (f g : Nat → Nat) : ∀ l : List Nat, glue (l.map f) + glue (l.map g) = glue (l.map fun r => f r + g r)
 | [] => rfl
 | r :: l => by have := glue_add f g l; simp only [List.map_cons, glue] at *; omega
def s1 (r : Nat) : Nat := ((r / 2) &&& 85) + (r &&& 85)
def s2 (r : Nat) : Nat := ((r / 4) &&& 51) + (r &&& 51)
theorem s1_lt : ∀ r, r < 256 → s1 r < 256 := by decide +kernel
theorem s2_two : ∀ r, r < 256 → s2 (s1 r) % 16 ≤ 4 ∧ s2 (s1 r) / 16 ≤ 4 ∧ s2 (s1 r) % 16 + s2 (s1 r) / 16 = (List.range 8).countP (fun j => r.testBit j) := by decide +kernel
def bytes (m : Nat) : List Nat := [m % 256, m / 256 % 256, m / 65536 % 256, m / 16777216 % 256, m / 4294967296 % 256, m / 1099511627776 % 256, m / 281474976710656 % 256, m / 72057594037927936 % 256]
theorem glue_bytes (m : Nat) (h : m < 18446744073709551616) : glue (bytes m) = m := by
 simp only [glue, bytes]; omega
theorem bytes_lt (m : Nat) : ∀ r ∈ bytes m, r < 256 := by
 intro r hr
 simp only [bytes, List.mem_cons, List.not_mem_nil, or_false] at hr
 omega
def pairs (m : Nat) : Nat := ((m / 2) &&& 6148914691236517205) + (m &&& 6148914691236517205)
def fours (m : Nat) : Nat := ((m / 4) &&& 3689348814741910323) + (m &&& 3689348814741910323)
theorem pairs_eq (l : List Nat) (hl : l.length = 8) (h : ∀ r ∈ l, r < 256) : pairs (glue l) = glue (l.map s1) := by
 have e : (6148914691236517205 : Nat) = maskN 85 l.length := by rw [hl]; rfl
 unfold pairs
 rw [e, glue_and 85 (by omega) l h]
 have := glue_shift 85 1 (by omega) (by decide) l h
 rw [Nat.pow_one] at this
 rw [this, glue_add]
 rfl
theorem fours_eq (l : List Nat) (hl : l.length = 8) (h : ∀ r ∈ l, r < 256) : fours (glue l) = glue (l.map s2) := by
 have e : (3689348814741910323 : Nat) = maskN 51 l.length := by rw [hl]; rfl
 unfold fours
 rw [e, glue_and 51 (by omega) l h]
 have := glue_shift 51 2 (by omega) (by decide) l h
 rw [show (2 : Nat) ^ 2 = 4 from rfl] at this
 rw [this, glue_add]
 rfl
theorem and15 (u v : Nat) (hv : v < 16) (hu : u < 16) : (16 * u + v) &&& 15 = v := by
 have h : ∀ u, u < 16 → ∀ v, v < 16 → (16 * u + v) &&& 15 = v := by decide +kernel
 exact h u hu v hv
def eights (b : Nat) : Nat := ((b / 16 + b) % 18446744073709551616) &&& 1085102592571150095
theorem eights_eq (h0 h1 h2 h3 h4 h5 h6 h7 l0 l1 l2 l3 l4 l5 l6 l7 : Nat)
  (a0 : h0 ≤ 4) (a1 : h1 ≤ 4) (a2 : h2 ≤ 4) (a3 : h3 ≤ 4) (a4 : h4 ≤ 4) (a5 : h5 ≤ 4) (a6 : h6 ≤ 4) (a7 : h7 ≤ 4)
  (b0 : l0 ≤ 4) (b1 : l1 ≤ 4) (b2 : l2 ≤ 4) (b3 : l3 ≤ 4) (b4 : l4 ≤ 4) (b5 : l5 ≤ 4) (b6 : l6 ≤ 4) (b7 : l7 ≤ 4) :
  eights (glue [16 * h0 + l0, 16 * h1 + l1, 16 * h2 + l2, 16 * h3 + l3, 16 * h4 + l4, 16 * h5 + l5, 16 * h6 + l6, 16 * h7 + l7]) = glue [h0 + l0, h1 + l1, h2 + l2, h3 + l3, h4 + l4, h5 + l5, h6 + l6, h7 + l7] := by
 have e : (glue [16 * h0 + l0, 16 * h1 + l1, 16 * h2 + l2, 16 * h3 + l3, 16 * h4 + l4, 16 * h5 + l5, 16 * h6 + l6, 16 * h7 + l7] / 16 + glue [16 * h0 + l0, 16 * h1 + l1, 16 * h2 + l2, 16 * h3 + l3, 16 * h4 + l4, 16 * h5 + l5, 16 * h6 + l6, 16 * h7 + l7]) % 18446744073709551616
   = glue [16 * (h0 + l1) + (h0 + l0), 16 * (h1 + l2) + (h1 + l1), 16 * (h2 + l3) + (h2 + l2), 16 * (h3 + l4) + (h3 + l3), 16 * (h4 + l5) + (h4 + l4), 16 * (h5 + l6) + (h5 + l5), 16 * (h6 + l7) + (h6 + l6), 16 * h7 + (h7 + l7)] := by
  simp only [glue]; omega
 unfold eights
 rw [e]
 have e2 : (1085102592571150095 : Nat) = maskN 15 8 := rfl
 rw [e2, show (8 : Nat) = [16 * (h0 + l1) + (h0 + l0), 16 * (h1 + l2) + (h1 + l1), 16 * (h2 + l3) + (h2 + l2), 16 * (h3 + l4) + (h3 + l3), 16 * (h4 + l5) + (h4 + l4), 16 * (h5 + l6) + (h5 + l5), 16 * (h6 + l7) + (h6 + l6), 16 * h7 + (h7 + l7)].length from rfl, glue_and 15 (by omega)]
 ·simp only [List.map_cons, List.map_nil]
  rw [and15 _ _ (by omega) (by omega), and15 _ _ (by omega) (by omega), and15 _ _ (by omega) (by omega), and15 _ _ (by omega) (by omega), and15 _ _ (by omega) (by omega), and15 _ _ (by omega) (by omega), and15 _ _ (by omega) (by omega), and15 _ _ (by omega) (by omega)]
 ·intro r hr
  simp only [List.mem_cons, List.not_mem_nil, or_false] at hr
  omega
def tops (c : Nat) : Nat :=
 let d := (c + c / 256) % 18446744073709551616
 let e := (d + d / 65536) % 18446744073709551616
 ((e + e / 4294967296) % 18446744073709551616) % 128
theorem tops_eq (v0 v1 v2 v3 v4 v5 v6 v7 : Nat) (a0 : v0 ≤ 8) (a1 : v1 ≤ 8) (a2 : v2 ≤ 8) (a3 : v3 ≤ 8) (a4 : v4 ≤ 8) (a5 : v5 ≤ 8) (a6 : v6 ≤ 8) (a7 : v7 ≤ 8) :
  tops (glue [v0, v1, v2, v3, v4, v5, v6, v7]) = v0 + v1 + v2 + v3 + v4 + v5 + v6 + v7 := by
 have q1 : glue [v0, v1, v2, v3, v4, v5, v6, v7] / 256 = glue [v1, v2, v3, v4, v5, v6, v7] := by
  simp only [glue]; omega
 have e1 : (glue [v0, v1, v2, v3, v4, v5, v6, v7] + glue [v1, v2, v3, v4, v5, v6, v7]) % 18446744073709551616 = glue [v0 + v1, v1 + v2, v2 + v3, v3 + v4, v4 + v5, v5 + v6, v6 + v7, v7] := by
  rw [Nat.mod_eq_of_lt (by simp only [glue]; omega)]; simp only [glue]; omega
 have q2 : glue [v0 + v1, v1 + v2, v2 + v3, v3 + v4, v4 + v5, v5 + v6, v6 + v7, v7] / 65536 = glue [v2 + v3, v3 + v4, v4 + v5, v5 + v6, v6 + v7, v7] := by
  simp only [glue]; omega
 have e2 : (glue [v0 + v1, v1 + v2, v2 + v3, v3 + v4, v4 + v5, v5 + v6, v6 + v7, v7] + glue [v2 + v3, v3 + v4, v4 + v5, v5 + v6, v6 + v7, v7]) % 18446744073709551616 = glue [v0 + v1 + v2 + v3, v1 + v2 + v3 + v4, v2 + v3 + v4 + v5, v3 + v4 + v5 + v6, v4 + v5 + v6 + v7, v5 + v6 + v7, v6 + v7, v7] := by
  rw [Nat.mod_eq_of_lt (by simp only [glue]; omega)]; simp only [glue]; omega
 have q3 : glue [v0 + v1 + v2 + v3, v1 + v2 + v3 + v4, v2 + v3 + v4 + v5, v3 + v4 + v5 + v6, v4 + v5 + v6 + v7, v5 + v6 + v7, v6 + v7, v7] / 4294967296 = glue [v4 + v5 + v6 + v7, v5 + v6 + v7, v6 + v7, v7] := by
  simp only [glue]; omega
 have e3 : ((glue [v0 + v1 + v2 + v3, v1 + v2 + v3 + v4, v2 + v3 + v4 + v5, v3 + v4 + v5 + v6, v4 + v5 + v6 + v7, v5 + v6 + v7, v6 + v7, v7] + glue [v4 + v5 + v6 + v7, v5 + v6 + v7, v6 + v7, v7]) % 18446744073709551616) % 128 = v0 + v1 + v2 + v3 + v4 + v5 + v6 + v7 := by
  rw [Nat.mod_eq_of_lt (b := 18446744073709551616) (by clear q1 e1 q2 e2 q3; simp only [glue]; omega)]
  clear q1 e1 q2 e2 q3
  simp only [glue]
  omega
 unfold tops
 simp only [q1, e1, q2, e2, q3]
 exact e3
theorem countP_range64 (p : Nat → Bool) : (List.range 64).countP p = (List.range 8).countP (fun j => p j) + (List.range 8).countP (fun j => p (j + 8)) + (List.range 8).countP (fun j => p (j + 16)) + (List.range 8).countP (fun j => p (j + 24)) + (List.range 8).countP (fun j => p (j + 32)) + (List.range 8).countP (fun j => p (j + 40)) + (List.range 8).countP (fun j => p (j + 48)) + (List.range 8).countP (fun j => p (j + 56)) := by
 have e : List.range 64 = List.range 8 ++ (List.range 8).map (· + 8) ++ (List.range 8).map (· + 16) ++ (List.range 8).map (· + 24) ++ (List.range 8).map (· + 32) ++ (List.range 8).map (· + 40) ++ (List.range 8).map (· + 48) ++ (List.range 8).map (· + 56) := by decide
 rw [e]
 simp only [List.countP_append, List.countP_map]
 rfl
theorem byte_bits (m k : Nat) : (List.range 8).countP (fun j => m.testBit (j + k)) = (List.range 8).countP (fun j => (m / 2 ^ k % 256).testBit j) := by
 apply List.countP_congr
 intro j hj
 rw [List.mem_range] at hj
 rw [show (256 : Nat) = 2 ^ 8 from rfl, Nat.testBit_mod_two_pow, Nat.testBit_div_two_pow]
 simp [hj]
theorem popN_swar (m : Nat) (h : m < 18446744073709551616) : tops (eights (fours (pairs m))) = popN m := by
 have hp : popN m = (List.range 64).countP (fun j => m.testBit j) := by
  unfold popN pos; rw [List.countP_eq_length_filter]
 have e0 := byte_bits m 0
 have e1 := byte_bits m 8
 have e2 := byte_bits m 16
 have e3 := byte_bits m 24
 have e4 := byte_bits m 32
 have e5 := byte_bits m 40
 have e6 := byte_bits m 48
 have e7 := byte_bits m 56
 simp only [Nat.add_zero, Nat.pow_zero, Nat.div_one] at e0
 rw [show (2 : Nat) ^ 8 = 256 from rfl] at e1
 rw [show (2 : Nat) ^ 16 = 65536 from rfl] at e2
 rw [show (2 : Nat) ^ 24 = 16777216 from rfl] at e3
 rw [show (2 : Nat) ^ 32 = 4294967296 from rfl] at e4
 rw [show (2 : Nat) ^ 40 = 1099511627776 from rfl] at e5
 rw [show (2 : Nat) ^ 48 = 281474976710656 from rfl] at e6
 rw [show (2 : Nat) ^ 56 = 72057594037927936 from rfl] at e7
 rw [hp, countP_range64, e0, e1, e2, e3, e4, e5, e6, e7]
 have hg := glue_bytes m h
 rw [show pairs m = pairs (glue (bytes m)) by rw [hg], pairs_eq _ rfl (bytes_lt m), fours_eq _ (by simp [bytes]) (by
  intro r hr
  obtain ⟨x, hx, rfl⟩ := List.mem_map.1 hr
  exact s1_lt x (bytes_lt m x hx))]
 simp only [bytes, List.map_cons, List.map_nil]
 have q0 := s2_two (m % 256) (by omega)
 have q1 := s2_two (m / 256 % 256) (by omega)
 have q2 := s2_two (m / 65536 % 256) (by omega)
 have q3 := s2_two (m / 16777216 % 256) (by omega)
 have q4 := s2_two (m / 4294967296 % 256) (by omega)
 have q5 := s2_two (m / 1099511627776 % 256) (by omega)
 have q6 := s2_two (m / 281474976710656 % 256) (by omega)
 have q7 := s2_two (m / 72057594037927936 % 256) (by omega)
 have g : ∀ x : Nat, x = 16 * (x / 16) + x % 16 := fun x => by omega
 rw [g (s2 (s1 (m % 256))), g (s2 (s1 (m / 256 % 256))), g (s2 (s1 (m / 65536 % 256))), g (s2 (s1 (m / 16777216 % 256))), g (s2 (s1 (m / 4294967296 % 256))), g (s2 (s1 (m / 1099511627776 % 256))), g (s2 (s1 (m / 281474976710656 % 256))), g (s2 (s1 (m / 72057594037927936 % 256)))]
 rw [eights_eq _ _ _ _ _ _ _ _ _ _ _ _ _ _ _ _ q0.2.1 q1.2.1 q2.2.1 q3.2.1 q4.2.1 q5.2.1 q6.2.1 q7.2.1 q0.1 q1.1 q2.1 q3.1 q4.1 q5.1 q6.1 q7.1,
  tops_eq _ _ _ _ _ _ _ _ (by omega) (by omega) (by omega) (by omega) (by omega) (by omega) (by omega) (by omega)]
 omega
theorem wrapN (x : Nat) : IntKind.u64.wrap (x : Int) = ((x % 18446744073709551616 : Nat) : Int) := by
 rw [IntKind.wrap_u64]; omega
theorem andN (x y : Nat) (hx : x < 18446744073709551616) (hy : y < 18446744073709551616) : Go.bits .and .u64 (x : Int) (y : Int) = ((x &&& y : Nat) : Int) := bits_and_u64_nat x y hx hy
theorem and_le (x y : Nat) : x &&& y ≤ y := Nat.and_le_right
end Go.Proofs.Ytpedlompipabdaa.Bits
namespace Go.Proofs.Ytpedlompipabdaa.P
open Go.RowKit Go.Shelf Go.Proofs.YtpedlompipabdaaW.PrintWords Go.Proofs.YtpedlompipabdaaW.PrintLast Go.Proofs.YtpedlompipabdaaW.PrintMore
open Go.Proofs.Ytpedlompipabdaa.Bits
attribute [local go_sem] Oper.semAt_some
set_option linter.unusedVariables false
set_option linter.unusedSimpArgs false
theorem and127 (x : Nat) (h : x < 18446744073709551616) : Go.bits .and .i64 (wrap64 (x : Int)) 127 = ((x % 128 : Nat) : Int) := by
 have h1 : (BitVec.ofInt 64 (wrap64 (x : Int))).toNat = x := by
  rw [BitVec.toNat_ofInt]
  unfold wrap64
  omega
 have h2 : (BitVec.ofInt 64 (127 : Int)).toNat = 127 := by decide
 show IntKind.i64.wrap ((BitVec.ofInt 64 (wrap64 (x : Int)) &&& BitVec.ofInt 64 (127 : Int)).toNat : Int) = _
 rw [BitVec.toNat_and, h1, h2, show (127 : Nat) = 2 ^ 7 - 1 from rfl, Nat.and_two_pow_sub_one_eq_mod, IntKind.wrap_i64]
 omega
theorem ones_int (m : Nat) (hm : m < 18446744073709551616) (a b c d e f : Int)
  (ha : a = IntKind.u64.wrap (Go.bits .and .u64 ((m : Int) / 2) 6148914691236517205 + Go.bits .and .u64 (m : Int) 6148914691236517205))
  (hb : b = IntKind.u64.wrap (Go.bits .and .u64 (a / 4) 3689348814741910323 + Go.bits .and .u64 a 3689348814741910323))
  (hc : c = Go.bits .and .u64 (IntKind.u64.wrap (b / 16 + b)) 1085102592571150095)
  (hd : d = IntKind.u64.wrap (c + c / 256)) (he : e = IntKind.u64.wrap (d + d / 65536)) (hf : f = IntKind.u64.wrap (e + e / 4294967296)) :
  Go.bits .and .i64 (wrap64 f) 127 = popI (m : Int) := by
 have A : a = ((pairs m : Nat) : Int) := by
  rw [ha, show (m : Int) / 2 = ((m / 2 : Nat) : Int) by omega, show (6148914691236517205 : Int) = ((6148914691236517205 : Nat) : Int) from rfl, andN _ _ (by omega) (by omega), andN _ _ hm (by omega), ← Int.natCast_add, wrapN]
  have := and_le (m / 2) 6148914691236517205
  have := and_le m 6148914691236517205
  unfold pairs
  omega
 have pl : pairs m < 18446744073709551616 := by
  have := and_le (m / 2) 6148914691236517205
  have := and_le m 6148914691236517205
  unfold pairs
  omega
 have B : b = ((fours (pairs m) : Nat) : Int) := by
  rw [hb, A, show ((pairs m : Nat) : Int) / 4 = ((pairs m / 4 : Nat) : Int) by omega, show (3689348814741910323 : Int) = ((3689348814741910323 : Nat) : Int) from rfl, andN _ _ (by omega) (by omega), andN _ _ pl (by omega), ← Int.natCast_add, wrapN]
  have := and_le (pairs m / 4) 3689348814741910323
  have := and_le (pairs m) 3689348814741910323
  unfold fours
  omega
 have C : c = ((eights (fours (pairs m)) : Nat) : Int) := by
  rw [hc, B, show ((fours (pairs m) : Nat) : Int) / 16 + ((fours (pairs m) : Nat) : Int) = ((fours (pairs m) / 16 + fours (pairs m) : Nat) : Int) by omega, wrapN, show (1085102592571150095 : Int) = ((1085102592571150095 : Nat) : Int) from rfl, andN _ _ (by omega) (by omega)]
  rfl
 generalize hx : eights (fours (pairs m)) = x at C
 have D : d = (((x + x / 256) % 18446744073709551616 : Nat) : Int) := by
  rw [hd, C, show (x : Int) + (x : Int) / 256 = ((x + x / 256 : Nat) : Int) by omega, wrapN]
 generalize hy : (x + x / 256) % 18446744073709551616 = y at D
 have E : e = (((y + y / 65536) % 18446744073709551616 : Nat) : Int) := by
  rw [he, D, show (y : Int) + (y : Int) / 65536 = ((y + y / 65536 : Nat) : Int) by omega, wrapN]
 generalize hz : (y + y / 65536) % 18446744073709551616 = z at E
 have F : f = (((z + z / 4294967296) % 18446744073709551616 : Nat) : Int) := by
  rw [hf, E, show (z : Int) + (z : Int) / 4294967296 = ((z + z / 4294967296 : Nat) : Int) by omega, wrapN]
 rw [F, and127 _ (by omega)]
 unfold popI
 rw [Int.toNat_natCast, ← popN_swar m hm, hx]
 unfold tops
 simp only [hy, hz]
set_option maxHeartbeats 2000000 in
set_option maxRecDepth 100000 in
theorem ones_any (m : Nat) (hm : m < 2 ^ 64) (w : World) : Calls Try.prog 61 #[.int .u64 (m : Int)] w fun e w' => e = .returned (.int .i64 (popI (m : Int))) ∧ w' = w := by
 have hu54 := Try.underlying54
 have H := fun v (h : v = popI (m : Int)) => (congrArg (fun v => Ending.returned (.int .i64 v)) h)
 go_enter Try.func61, Try.ntmps61
 go_wp2
 go_ret
 refine ⟨H _ (ones_int m hm _ _ _ _ _ _ rfl rfl rfl rfl rfl rfl), rfl⟩
theorem count_any (m : Int) (h0 : 0 ≤ m) (h1 : m < 18446744073709551616) (w : World) : Calls Try.prog 57 #[.int .u64 m] w fun e w' => e = .returned (.int .i64 (popI m)) ∧ w' = w := by
 have hu54 := Try.underlying54
 obtain ⟨m, rfl⟩ := Int.eq_ofNat_of_zero_le h0
 have H := Aside0.mk (fun w => ones_any m (by omega) w)
 clear h0 h1
 go_enter Try.func57, Try.ntmps57
 go_wp2_with (go_at_call 61; refine (H.out _).mono ?_; rintro e w' ⟨rfl, rfl⟩)
 go_ret
 exact ⟨rfl, rfl⟩
def mask_Count.f (a0 : Int) : Option Int := if 0 ≤ a0 ∧ a0 < 18446744073709551616 then some (popI a0) else none
theorem mask_Count.calls (a0 : Int) (r : Int) (w : World) (h : mask_Count.f a0 = some r) :
  Calls Try.prog 57 #[.int .u64 a0] w fun e w' => e = .returned (.int .i64 r) ∧ Drawn0 w w' := by
 unfold mask_Count.f at h
 split at h
 ·rename_i hh
  obtain rfl := Option.some.inj h
  exact (count_any a0 hh.1 hh.2 w).mono fun e w' h => ⟨h.1, by rw [h.2]; exact Drawn0.refl _⟩
 ·cases h
end Go.Proofs.Ytpedlompipabdaa.P
namespace Go.Proofs.Ytpedlompipabdaa.P
open Go.RowKit Go.Proofs.YtpedlompipabdaaW.PrintWords Go.Proofs.YtpedlompipabdaaW.PrintLast Go.Proofs.YtpedlompipabdaaW.PrintMore
attribute [local go_sem] max2_int min2_int max_two min_two max_three min_three max_four min_four
set_option linter.unusedVariables false
set_option linter.unusedSimpArgs false
def audit_units.l0 : Nat → List (S63) → Int → Int → Int → Int → Option (Int × Int)
 | 0, _, _, _, _, _ => none
 | k + 1, x7, x8, x9, x169000, x169001 => if x9 < x8 then (if 0 ≤ x9 then (if x9 < (x7.length : Int) then ((mask_Count.f ((rd_T63 x7 x9).f1)).bind fun t172 => (audit_units.l0 k x7 x8 (wrap64 (x9 + 1)) (wrap64 (x169000 + t172)) (wrap64 (x169001 + ((rd_T63 x7 x9).f2))))) else (none)) else (none)) else (some (x169000, x169001))
def audit_units.f (k : Nat) (a0_0 : Int) (a0_1 : Int) (l1 : List (S63)) : Option (Int × Int) := audit_units.l0 k l1 (l1.length : Int) 0 a0_0 a0_1
def audit_units.T4 : Bool × List (List Nat × List Nat) := (true, [([], []), ([0], [0]), ([], []), ([2], [2]), ([3], [3]), ([1, 4], [1, 4]), ([0, 1, 2, 3, 4, 5], []), ([6, 5, 4, 0, 1, 2, 3, 4, 5], [5, 6])])
def audit_units.B4 : List Nat := [0, 1, 0, 4, 12, 31, 63, 127]
theorem audit_units.tab4 : rtab .any (opsOf Try.f40 4) = audit_units.T4 := by kernel_rfl
theorem audit_units.bits4 : waitsOk audit_units.T4.2 audit_units.B4 = true := by kernel_rfl
set_option maxHeartbeats 8000000 in
set_option maxRecDepth 100000 in
theorem audit_units.calls (k : Nat) (a0_0 : Int) (a0_1 : Int) (A1 : Option Addr) (c1 : Nat) (l1 : List (S63)) (r1 : Int) (r2 : Int) (w : World) (hr1 : Kd.C k63 w A1 l1.length l1) (hc1 : l1.length ≤ c1) (h : audit_units.f k a0_0 a0_1 l1 = some (r1, r2)) :
  Calls Try.prog 40 #[.agg #[.int .i64 a0_0, .int .i64 a0_1], .slice A1 l1.length c1] w fun e w' => e = .returned (.agg #[.int .i64 r1, .int .i64 r2]) ∧ Below w.heap.size w w' := by
 have hu49 := Try.underlying49
 have hu63 := Try.underlying63
 have HR1 := Aside0.mk hr1
 have HC1 := Aside0.mk hc1
 clear hr1 hc1
 have HB := Aside0.mk (Below.refl w.heap.size w)
 have H : (audit_units.l0 k l1 (l1.length : Int) 0 a0_0 a0_1) = some (r1, r2) := h
 clear h
 have H' := Aside0.mk H
 clear H
 go_enter Try.func40, Try.ntmps40
 go_wp2_with (first | ((with_reducible refine gate_dst (N := 2) rfl ?_); refine box_event ?hg (N := 2) ?hd (cs := #[.int .i64 a0_0, .int .i64 a0_1]) (t := 49) ?hr ?_; (case hd => rfl); (case hg => rfl); (case hr => first | (go_simp; done) | (go_simp; rfl)); intro gb168 hg w3 hbox hb; have n0_ := Aside0.mk (below_step (by repeat (first | (with_reducible first | exact HB.out | apply below_alloc | apply pw_below_drewN | apply below_drew1) | exact HB.out)) hb); have n1_ := Aside0.mk (hbox); have n2_ := Aside0.mk ((by rw [hg]; exact (below_size (by repeat (first | (with_reducible first | exact HB.out | apply below_alloc | apply pw_below_drewN | apply below_drew1) | exact HB.out))) : w.heap.size ≤ gb168)); have n3_ := Aside0.mk ((by rw [hg]; exact (below_size (by repeat (first | (with_reducible first | exact HB.out | apply below_alloc | apply pw_below_drewN | apply below_drew1) | exact HB.out))) : w.heap.size ≤ gb168)); clear HB; have HB := n0_; have BK168 := n1_; have GW168 := n2_; have GE168 := n3_; clear n0_ n1_ n2_ n3_; clear hb hbox hg) | ((with_reducible refine gate_dst (N := 4) rfl ?_); refine box_event ?hg (N := 4) ?hd (cs := #[.int .i64 0, .int .i64 0]) (t := 49) ?hr ?_; (case hd => rfl); (case hg => rfl); (case hr => first | (go_simp; done) | (go_simp; rfl)); intro gb169 hg w4 hbox hb; have n0_ := Aside0.mk (blk_below (g := gb168) (o := .cells #[.int .i64 a0_0, .int .i64 a0_1] 49 (0, 0)) (by (with_reducible repeat (first | refine blk_drewN ?_ _ | refine blk_drew ?_ | refine blk_alloc ?_ _)); exact BK168.out) hb); have n1_ := Aside0.mk (below_step (by repeat (first | (with_reducible first | exact HB.out | apply below_alloc | apply pw_below_drewN | apply below_drew1 | refine below_set ?_ GE168.out) | exact HB.out)) hb); have n2_ := Aside0.mk (hbox); have n3_ := Aside0.mk ((by rw [hg]; exact (below_size (by repeat (first | (with_reducible first | exact HB.out | apply below_alloc | apply pw_below_drewN | apply below_drew1 | refine below_set ?_ GE168.out) | exact HB.out))) : w.heap.size ≤ gb169)); have n4_ := Aside0.mk ((by rw [hg]; exact (below_size (by repeat (first | (with_reducible first | exact HB.out | apply below_alloc | apply pw_below_drewN | apply below_drew1 | refine below_set ?_ GE168.out) | exact HB.out))) : w.heap.size ≤ gb169)); have n5_ := Aside0.mk ((by rw [hg]; exact Nat.ne_of_lt (blk_lt (g := gb168) (o := .cells #[.int .i64 a0_0, .int .i64 a0_1] 49 (0, 0)) (by (with_reducible repeat (first | refine blk_drewN ?_ _ | refine blk_drew ?_ | refine blk_alloc ?_ _)); exact BK168.out)) : gb168 ≠ gb169)); have n6_ := Aside0.mk ((by rw [hg]; exact Nat.ne_of_gt (blk_lt (g := gb168) (o := .cells #[.int .i64 a0_0, .int .i64 a0_1] 49 (0, 0)) (by (with_reducible repeat (first | refine blk_drewN ?_ _ | refine blk_drew ?_ | refine blk_alloc ?_ _)); exact BK168.out)) : gb169 ≠ gb168)); clear BK168; clear HB; have BK168 := n0_; have HB := n1_; have BK169 := n2_; have GW169 := n3_; have GE169 := n4_; have NB168_169 := n5_; have NB169_168 := n6_; clear n0_ n1_ n2_ n3_ n4_ n5_ n6_; clear hb hbox hg))
 go_loopg [9] k (fun kq v9 w' => ∃ (x9_1 : Int) (x169000_1 : Int) (x169001_1 : Int), v9 = .int .i64 x9_1 ∧ Aside0 (audit_units.l0 kq l1 (l1.length : Int) x9_1 x169000_1 x169001_1 = some (r1, r2)) ∧ Aside0 (kq ≤ k) ∧ Aside0 (w'.heap[gb168]? = some (.cells #[.int .i64 x169000_1, .int .i64 x169001_1] 49 (0, 0))) ∧ Aside0 (w'.heap[gb169]? = some (.cells #[.int .i64 0, .int .i64 0] 49 (0, 0))) ∧ Aside0 (Below w.heap.size w w'))
 case atStart => exact ⟨(0), (a0_0), (a0_1), (by first | rfl | (simp; done) | (simp [*]; done)), H', ⟨Nat.le_refl _⟩, ⟨by (with_reducible repeat (first | refine blk_drewN ?_ _ | refine blk_drew ?_ | refine blk_alloc ?_ _)); exact BK168.out⟩, ⟨by (with_reducible repeat (first | refine blk_drewN ?_ _ | refine blk_drew ?_ | refine blk_alloc ?_ _)); exact BK169.out⟩, ⟨by repeat (first | (with_reducible first | exact HB.out | apply below_alloc | apply pw_below_drewN | apply below_drew1 | refine below_set ?_ GE168.out | refine below_set ?_ GE169.out) | exact HB.out)⟩⟩
 case round =>
  clear H'
  try clear c1
  try clear p2
  try clear c4
  obtain ⟨x9_1, x169000_1, x169001_1, rfl, HA, HK1, BK168, BK169, HB⟩ := hrel
  cases gk with
  | zero => exact absurd HA.out (by simp [audit_units.l0])
  | succ k1 =>
   have H := HA.out
   clear HA
   simp only [audit_units.l0] at H
   by_cases c5 : x9_1 < (l1.length : Int)
   ·rw [if_pos c5] at H
    have c5b0 : decide (x9_1 < (l1.length : Int)) = true := decide_eq_true c5
    clear c5
    by_cases c6 : 0 ≤ x9_1
    ·rw [if_pos c6] at H
     have c6b0 : decide (0 ≤ x9_1) = true := decide_eq_true c6
     clear c6
     by_cases c7 : x9_1 < (l1.length : Int)
     ·rw [if_pos c7] at H
      have c7b0 : decide (x9_1 < (l1.length : Int)) = true := decide_eq_true c7
      clear c7
      replace H := Option.bind_eq_some_iff.mp H
      obtain ⟨t172, A80, H⟩ := H
      replace H : (audit_units.l0 k1 l1 (l1.length : Int) (wrap64 (x9_1 + 1)) (wrap64 (x169000_1 + t172)) (wrap64 (x169001_1 + ((rd_T63 l1 x9_1).f2)))) = some (r1, r2) := H
      have A8 := Aside0.mk A80
      clear A80
      have H' := Aside0.mk H
      clear H
      have p170 : 0 ≤ (x9_1 : Int) := of_decide_eq_true (by first | (with_reducible assumption) | assumption)
      have q170 : x9_1 < (l1.length : Int) := of_decide_eq_true (by first | (with_reducible assumption) | assumption)
      obtain ⟨ad170, e170, hx170_0, hx170_1, hx170_2, hx170_3⟩ := at_T63 HR1.out x9_1 p170 q170
      cases e170
      replace hx170_0 := (HB.out.cell (World.block_lt_of_cell? w _ hx170_0)).trans hx170_0
      replace hx170_1 := (HB.out.cell (World.block_lt_of_cell? w _ hx170_1)).trans hx170_1
      replace hx170_2 := (HB.out.cell (World.block_lt_of_cell? w _ hx170_2)).trans hx170_2
      replace hx170_3 := (HB.out.cell (World.block_lt_of_cell? w _ hx170_3)).trans hx170_3
      replace p170 := eq_true p170
      replace q170 := eq_true q170
      try go_wp2_with (first | ((with_reducible refine gate_dst (N := 6) rfl ?_); refine box_event ?hg (N := 6) ?hd (cs := #[.int .i64 0, .int .i64 0, .int .u64 0, .int .i64 0]) (t := 63) ?hr ?_; (case hd => rfl); (case hg => rfl); (case hr => first | (go_simp; done) | (go_simp; rfl)); intro gb171 hg w9 hbox hb; have n0_ := Aside0.mk (blk_below (g := gb168) (o := .cells #[.int .i64 x169000_1, .int .i64 x169001_1] 49 (0, 0)) (by (with_reducible repeat (first | refine blk_drewN ?_ _ | refine blk_drew ?_ | refine blk_alloc ?_ _)); exact BK168.out) hb); have n1_ := Aside0.mk (blk_below (g := gb169) (o := .cells #[.int .i64 0, .int .i64 0] 49 (0, 0)) (by (with_reducible repeat (first | refine blk_drewN ?_ _ | refine blk_drew ?_ | refine blk_alloc ?_ _)); exact BK169.out) hb); have n2_ := Aside0.mk (below_step (by repeat (first | (with_reducible first | exact HB.out | apply below_alloc | apply pw_below_drewN | apply below_drew1 | refine below_set ?_ GE168.out | refine below_set ?_ GE169.out) | exact HB.out)) hb); have n3_ := Aside0.mk (hbox); have n4_ := Aside0.mk ((by rw [hg]; exact (below_size (by repeat (first | (with_reducible first | exact HB.out | apply below_alloc | apply pw_below_drewN | apply below_drew1 | refine below_set ?_ GE168.out | refine below_set ?_ GE169.out) | exact HB.out))) : w.heap.size ≤ gb171)); have n5_ := Aside0.mk ((by rw [hg]; exact (below_size (by repeat (first | (with_reducible first | exact HB.out | apply below_alloc | apply pw_below_drewN | apply below_drew1 | refine below_set ?_ GE168.out | refine below_set ?_ GE169.out) | exact HB.out))) : w.heap.size ≤ gb171)); have n6_ := Aside0.mk ((by rw [hg]; exact Nat.ne_of_lt (blk_lt (g := gb168) (o := .cells #[.int .i64 x169000_1, .int .i64 x169001_1] 49 (0, 0)) (by (with_reducible repeat (first | refine blk_drewN ?_ _ | refine blk_drew ?_ | refine blk_alloc ?_ _)); exact BK168.out)) : gb168 ≠ gb171)); have n7_ := Aside0.mk ((by rw [hg]; exact Nat.ne_of_gt (blk_lt (g := gb168) (o := .cells #[.int .i64 x169000_1, .int .i64 x169001_1] 49 (0, 0)) (by (with_reducible repeat (first | refine blk_drewN ?_ _ | refine blk_drew ?_ | refine blk_alloc ?_ _)); exact BK168.out)) : gb171 ≠ gb168)); have n8_ := Aside0.mk ((by rw [hg]; exact Nat.ne_of_lt (blk_lt (g := gb169) (o := .cells #[.int .i64 0, .int .i64 0] 49 (0, 0)) (by (with_reducible repeat (first | refine blk_drewN ?_ _ | refine blk_drew ?_ | refine blk_alloc ?_ _)); exact BK169.out)) : gb169 ≠ gb171)); have n9_ := Aside0.mk ((by rw [hg]; exact Nat.ne_of_gt (blk_lt (g := gb169) (o := .cells #[.int .i64 0, .int .i64 0] 49 (0, 0)) (by (with_reducible repeat (first | refine blk_drewN ?_ _ | refine blk_drew ?_ | refine blk_alloc ?_ _)); exact BK169.out)) : gb171 ≠ gb169)); clear BK168; clear BK169; clear HB; have BK168 := n0_; have BK169 := n1_; have HB := n2_; have BK171 := n3_; have GW171 := n4_; have GE171 := n5_; have NB168_171 := n6_; have NB171_168 := n7_; have NB169_171 := n8_; have NB171_169 := n9_; clear n0_ n1_ n2_ n3_ n4_ n5_ n6_ n7_ n8_ n9_; clear hb hbox hg; have hnb10 := NB171_168.out; have hnc10 := NB168_171.out; have hnb11 := NB171_169.out; have hnc11 := NB169_171.out; have hcz12_0 : w9.cell? ⟨gb171, 0, none⟩ = some (.int .i64 0) := (blk_cell BK171.out 0).trans rfl; have hcz12_1 : w9.cell? ⟨gb171, 1, none⟩ = some (.int .i64 0) := (blk_cell BK171.out 1).trans rfl; have hcz12_2 : w9.cell? ⟨gb171, 2, none⟩ = some (.int .u64 0) := (blk_cell BK171.out 2).trans rfl; have hcz12_3 : w9.cell? ⟨gb171, 3, none⟩ = some (.int .i64 0) := (blk_cell BK171.out 3).trans rfl; have hfz12_0 := blk_frozen BK171.out 0; have hfz12_1 := blk_frozen BK171.out 1; have hfz12_2 := blk_frozen BK171.out 2; have hfz12_3 := blk_frozen BK171.out 3))
      have n0_ : Aside0 (((((w9.setCell ⟨gb171, 0, none⟩ (.int .i64 ((rd_T63 l1 x9_1).f0.f0))).setCell ⟨gb171, 1, none⟩ (.int .i64 ((rd_T63 l1 x9_1).f0.f1))).setCell ⟨gb171, 2, none⟩ (.int .u64 ((rd_T63 l1 x9_1).f1))).setCell ⟨gb171, 3, none⟩ (.int .i64 ((rd_T63 l1 x9_1).f2))).heap[gb168]? = some (.cells #[.int .i64 x169000_1, .int .i64 x169001_1] 49 (0, 0))) := ⟨by (with_reducible repeat (first | refine blk_drewN ?_ _ | refine blk_drew ?_ | refine blk_alloc ?_ _)); refine blk_far ?_ NB168_171.out _; (with_reducible repeat (first | refine blk_drewN ?_ _ | refine blk_drew ?_ | refine blk_alloc ?_ _)); refine blk_far ?_ NB168_171.out _; (with_reducible repeat (first | refine blk_drewN ?_ _ | refine blk_drew ?_ | refine blk_alloc ?_ _)); refine blk_far ?_ NB168_171.out _; (with_reducible repeat (first | refine blk_drewN ?_ _ | refine blk_drew ?_ | refine blk_alloc ?_ _)); refine blk_far ?_ NB168_171.out _; (with_reducible repeat (first | refine blk_drewN ?_ _ | refine blk_drew ?_ | refine blk_alloc ?_ _)); exact BK168.out⟩
      have n1_ : Aside0 (((((w9.setCell ⟨gb171, 0, none⟩ (.int .i64 ((rd_T63 l1 x9_1).f0.f0))).setCell ⟨gb171, 1, none⟩ (.int .i64 ((rd_T63 l1 x9_1).f0.f1))).setCell ⟨gb171, 2, none⟩ (.int .u64 ((rd_T63 l1 x9_1).f1))).setCell ⟨gb171, 3, none⟩ (.int .i64 ((rd_T63 l1 x9_1).f2))).heap[gb169]? = some (.cells #[.int .i64 0, .int .i64 0] 49 (0, 0))) := ⟨by (with_reducible repeat (first | refine blk_drewN ?_ _ | refine blk_drew ?_ | refine blk_alloc ?_ _)); refine blk_far ?_ NB169_171.out _; (with_reducible repeat (first | refine blk_drewN ?_ _ | refine blk_drew ?_ | refine blk_alloc ?_ _)); refine blk_far ?_ NB169_171.out _; (with_reducible repeat (first | refine blk_drewN ?_ _ | refine blk_drew ?_ | refine blk_alloc ?_ _)); refine blk_far ?_ NB169_171.out _; (with_reducible repeat (first | refine blk_drewN ?_ _ | refine blk_drew ?_ | refine blk_alloc ?_ _)); refine blk_far ?_ NB169_171.out _; (with_reducible repeat (first | refine blk_drewN ?_ _ | refine blk_drew ?_ | refine blk_alloc ?_ _)); exact BK169.out⟩
      have n2_ : Aside0 (((((w9.setCell ⟨gb171, 0, none⟩ (.int .i64 ((rd_T63 l1 x9_1).f0.f0))).setCell ⟨gb171, 1, none⟩ (.int .i64 ((rd_T63 l1 x9_1).f0.f1))).setCell ⟨gb171, 2, none⟩ (.int .u64 ((rd_T63 l1 x9_1).f1))).setCell ⟨gb171, 3, none⟩ (.int .i64 ((rd_T63 l1 x9_1).f2))).heap[gb171]? = some (.cells #[.int .i64 ((rd_T63 l1 x9_1).f0.f0), .int .i64 ((rd_T63 l1 x9_1).f0.f1), .int .u64 ((rd_T63 l1 x9_1).f1), .int .i64 ((rd_T63 l1 x9_1).f2)] 63 (0, 0))) := ⟨by (with_reducible repeat (first | refine blk_drewN ?_ _ | refine blk_drew ?_ | refine blk_alloc ?_ _)); refine blk_put (cs := #[.int .i64 ((rd_T63 l1 x9_1).f0.f0), .int .i64 ((rd_T63 l1 x9_1).f0.f1), .int .u64 ((rd_T63 l1 x9_1).f1), .int .i64 0]) ?_ 3 _ rfl; (with_reducible repeat (first | refine blk_drewN ?_ _ | refine blk_drew ?_ | refine blk_alloc ?_ _)); refine blk_put (cs := #[.int .i64 ((rd_T63 l1 x9_1).f0.f0), .int .i64 ((rd_T63 l1 x9_1).f0.f1), .int .u64 0, .int .i64 0]) ?_ 2 _ rfl; (with_reducible repeat (first | refine blk_drewN ?_ _ | refine blk_drew ?_ | refine blk_alloc ?_ _)); refine blk_put (cs := #[.int .i64 ((rd_T63 l1 x9_1).f0.f0), .int .i64 0, .int .u64 0, .int .i64 0]) ?_ 1 _ rfl; (with_reducible repeat (first | refine blk_drewN ?_ _ | refine blk_drew ?_ | refine blk_alloc ?_ _)); refine blk_put (cs := #[.int .i64 0, .int .i64 0, .int .u64 0, .int .i64 0]) ?_ 0 _ rfl; (with_reducible repeat (first | refine blk_drewN ?_ _ | refine blk_drew ?_ | refine blk_alloc ?_ _)); exact BK171.out⟩
      have n3_ : Aside0 (Below w.heap.size w ((((w9.setCell ⟨gb171, 0, none⟩ (.int .i64 ((rd_T63 l1 x9_1).f0.f0))).setCell ⟨gb171, 1, none⟩ (.int .i64 ((rd_T63 l1 x9_1).f0.f1))).setCell ⟨gb171, 2, none⟩ (.int .u64 ((rd_T63 l1 x9_1).f1))).setCell ⟨gb171, 3, none⟩ (.int .i64 ((rd_T63 l1 x9_1).f2)))) := ⟨by repeat (first | (with_reducible first | exact HB.out | apply below_alloc | apply pw_below_drewN | apply below_drew1 | refine below_set ?_ GE168.out | refine below_set ?_ GE169.out | refine below_set ?_ GE171.out) | exact HB.out)⟩
      (try clear BK168)
      (try clear BK169)
      (try clear BK171)
      (try clear HB)
      generalize ((((w9.setCell ⟨gb171, 0, none⟩ (.int .i64 ((rd_T63 l1 x9_1).f0.f0))).setCell ⟨gb171, 1, none⟩ (.int .i64 ((rd_T63 l1 x9_1).f0.f1))).setCell ⟨gb171, 2, none⟩ (.int .u64 ((rd_T63 l1 x9_1).f1))).setCell ⟨gb171, 3, none⟩ (.int .i64 ((rd_T63 l1 x9_1).f2))) = w13 at n0_ n1_ n2_ n3_ ⊢
      have BK168 := n0_
      have BK169 := n1_
      have BK171 := n2_
      have HB := n3_
      clear n0_ n1_ n2_ n3_
      have n0_ := Aside0.mk (blk_drew BK168.out)
      have n1_ := Aside0.mk (blk_drew BK169.out)
      have n2_ := Aside0.mk (blk_drew BK171.out)
      have n3_ := Aside0.mk (below_drew1 HB.out)
      clear BK168
      clear BK169
      clear BK171
      clear HB
      have BK168 := n0_
      have BK169 := n1_
      have BK171 := n2_
      have HB := n3_
      clear n0_ n1_ n2_ n3_
      refine start_ (n := 8) (S := fun w' => w'.cell? ⟨gb168, 0, none⟩ = some (.int .i64 x169000_1) ∧ w'.cell? ⟨gb168, 1, none⟩ = some (.int .i64 x169001_1) ∧ w'.cell? ⟨gb171, 0, none⟩ = some (.int .i64 ((rd_T63 l1 x9_1).f0.f0)) ∧ w'.cell? ⟨gb171, 1, none⟩ = some (.int .i64 ((rd_T63 l1 x9_1).f0.f1)) ∧ w'.cell? ⟨gb171, 2, none⟩ = some (.int .u64 ((rd_T63 l1 x9_1).f1)) ∧ w'.cell? ⟨gb171, 3, none⟩ = some (.int .i64 ((rd_T63 l1 x9_1).f2))) (ds := [7]) #[false, false, false, false, false, false, false, false] (by kernel_rfl) rfl rfl ⟨(blk_cell BK168.out 0).trans rfl, (blk_cell BK168.out 1).trans rfl, (blk_cell BK171.out 0).trans rfl, (blk_cell BK171.out 1).trans rfl, (blk_cell BK171.out 2).trans rfl, (blk_cell BK171.out 3).trans rfl⟩ (fun hHeld => ?_); refine with_tabW audit_units.tab4 audit_units.bits4 (fun HT_ HW_ => ?_)
      generalize w13.drew = w14 at BK168 BK169 BK171 HB hHeld ⊢
      refine pure_ (i := 0) (N := some 13) (v := ?_) (a' := ?_) #[true, false, false, false, false, false, false, false] rfl rfl (any_of HT_.out (by kernel_rfl)) (fun _ _ _ h => h) (Or.inl ⟨by rfl, ?_⟩) ?_ ?_
      rotate_left
      ·intro w'
       go_simp
       with_reducible rfl
      rotate_left
      ·simp only [Act.put, List.setIfInBounds_toArray, List.set_cons_zero, List.set_cons_succ, i64_w, i32_w]
       rfl
      refine pure_ (i := 2) (N := some 15) (v := ?_) (a' := ?_) #[true, false, true, false, false, false, false, false] rfl rfl (any_of HT_.out (by kernel_rfl)) (fun _ _ _ h => h) (Or.inl ⟨by rfl, ?_⟩) ?_ ?_
      rotate_left
      ·intro w'
       go_simp
       with_reducible rfl
      rotate_left
      ·simp only [Act.put, List.setIfInBounds_toArray, List.set_cons_zero, List.set_cons_succ, i64_w, i32_w]
       rfl
      refine take_ (i := 1) (N := some 14) (v := ?_) (a' := ?_) #[true, true, true, false, false, false, false, false] rfl rfl (take_ofW HT_.out HW_.out (by kernel_rfl)) (fun _ _ _ h => h) (Or.inl ⟨by rfl, ?_⟩) hHeld ?_ ?_
      rotate_left
      ·rintro w' ⟨s0, s1, s2, s3, s4, s5⟩
       go_simp
       with_reducible rfl
      rotate_left
      ·simp only [Act.put, List.setIfInBounds_toArray, List.set_cons_zero, List.set_cons_succ, i64_w, i32_w]
       rfl
      refine take_ (i := 3) (N := some 16) (v := ?_) (a' := ?_) #[true, true, true, true, false, false, false, false] rfl rfl (take_ofW HT_.out HW_.out (by kernel_rfl)) (fun _ _ _ h => h) (Or.inl ⟨by rfl, ?_⟩) hHeld ?_ ?_
      rotate_left
      ·rintro w' ⟨s0, s1, s2, s3, s4, s5⟩
       go_simp
       with_reducible rfl
      rotate_left
      ·simp only [Act.put, List.setIfInBounds_toArray, List.set_cons_zero, List.set_cons_succ, i64_w, i32_w]
       rfl
      refine one_ (i := 4) (N := some 17) #[true, true, true, true, true, false, false, false] rfl rfl (one_of HT_.out (by kernel_rfl)) (by decide) (fun K hK => ?_)
      refine goes_ Try.func57 (by kernel_rfl) rfl #[.int .u64 ((rd_T63 l1 x9_1).f1)] (by rfl) rfl rfl (by (try simp only [List.map_toArray, List.map_cons, List.map_nil]); first | done | rfl | (simp only [List.length_drop, List.length_take]; rfl)) ?_
      with_reducible refine (mask_Count.calls ((rd_T63 l1 x9_1).f1) t172 _ A8.out).mono ?_
      rintro e w' ⟨rfl, ⟨nd, rfl⟩⟩
      refine ⟨_, rfl, ?_⟩
      refine hK.out _ _ ⟨(blk_cell BK168.out 0).trans rfl, (blk_cell BK168.out 1).trans rfl, (blk_cell BK171.out 0).trans rfl, (blk_cell BK171.out 1).trans rfl, (blk_cell BK171.out 2).trans rfl, (blk_cell BK171.out 3).trans rfl⟩ (fun hHeld => ?_)
      clear hK K
      refine norm_ (a' := ?_) ?_ ?_
      rotate_left
      ·show Act.put _ (some 17) _ = _
       simp only [Act.put, List.setIfInBounds_toArray, List.set_cons_zero, List.set_cons_succ, i64_w, i32_w]
       rfl
      refine pure_ (i := 5) (N := some 18) (v := ?_) (a' := ?_) #[true, true, true, true, true, true, false, false] rfl rfl (any_of HT_.out (by kernel_rfl)) (fun _ _ _ h => h) (Or.inl ⟨by rfl, ?_⟩) ?_ ?_
      rotate_left
      ·intro w'
       go_simp
       with_reducible rfl
      rotate_left
      ·simp only [Act.put, List.setIfInBounds_toArray, List.set_cons_zero, List.set_cons_succ, i64_w, i32_w]
       rfl
      refine pure_ (i := 6) (N := some 19) (v := ?_) (a' := ?_) #[true, true, true, true, true, true, true, false] rfl rfl (any_of HT_.out (by kernel_rfl)) (fun _ _ _ h => h) (Or.inl ⟨by rfl, ?_⟩) ?_ ?_
      rotate_left
      ·intro w'
       go_simp
       with_reducible rfl
      rotate_left
      ·simp only [Act.put, List.setIfInBounds_toArray, List.set_cons_zero, List.set_cons_succ, i64_w, i32_w]
       rfl
      refine last_ (i := 7) (N := none) #[true, true, true, true, true, true, true, true] rfl rfl (one_of HT_.out (by kernel_rfl)) (by decide) (fun K hK => ?_)
      have hs15 : w14.cell? ⟨gb168, 0, none⟩ = some (.int .i64 x169000_1) := (blk_cell BK168.out 0).trans rfl
      have hfs15 := blk_frozen BK168.out 0
      have hns15_1 := NB169_168.out
      have hns15_2 := NB171_168.out
      have hms15_1 := NB168_169.out
      have hms15_2 := NB168_171.out
      refine skip_ (w1 := ?_) (by rfl) rfl ?_ ?_
      rotate_left
      ·go_simp
       rfl
      refine hK.out _ _ ?_
      clear hK K
      refine done_ (done_of HT_.out (by kernel_rfl)) ?_
      have hnb16 := NB168_169.out
      have hnc16 := NB169_168.out
      have hcz17_0 : w14.cell? ⟨gb168, 0, none⟩ = some (.int .i64 x169000_1) := (blk_cell BK168.out 0).trans rfl
      have hcz17_1 : w14.cell? ⟨gb168, 1, none⟩ = some (.int .i64 x169001_1) := (blk_cell BK168.out 1).trans rfl
      have hfz17_0 := blk_frozen BK168.out 0
      have hfz17_1 := blk_frozen BK168.out 1
      have hcz18_0 : w14.cell? ⟨gb171, 0, none⟩ = some (.int .i64 ((rd_T63 l1 x9_1).f0.f0)) := (blk_cell BK171.out 0).trans rfl
      have hcz18_1 : w14.cell? ⟨gb171, 1, none⟩ = some (.int .i64 ((rd_T63 l1 x9_1).f0.f1)) := (blk_cell BK171.out 1).trans rfl
      have hcz18_2 : w14.cell? ⟨gb171, 2, none⟩ = some (.int .u64 ((rd_T63 l1 x9_1).f1)) := (blk_cell BK171.out 2).trans rfl
      have hcz18_3 : w14.cell? ⟨gb171, 3, none⟩ = some (.int .i64 ((rd_T63 l1 x9_1).f2)) := (blk_cell BK171.out 3).trans rfl
      have hfz18_0 := blk_frozen BK171.out 0
      have hfz18_1 := blk_frozen BK171.out 1
      have hfz18_2 := blk_frozen BK171.out 2
      have hfz18_3 := blk_frozen BK171.out 3
      try go_wp2
      go_roundg k1
      case measure => have := HK1.out; omega
      case rel => exact ⟨(wrap64 (x9_1 + 1)), (wrap64 (x169000_1 + t172)), (wrap64 (x169001_1 + ((rd_T63 l1 x9_1).f2))), (by first | rfl | (simp; done) | (simp [*]; done)), H', ⟨by have := HK1.out; omega⟩, ⟨by (with_reducible repeat (first | refine blk_drewN ?_ _ | refine blk_drew ?_ | refine blk_alloc ?_ _)); refine blk_put (cs := #[.int .i64 (wrap64 (x169000_1 + t172)), .int .i64 x169001_1]) ?_ 1 _ rfl; (with_reducible repeat (first | refine blk_drewN ?_ _ | refine blk_drew ?_ | refine blk_alloc ?_ _)); refine blk_put (cs := #[.int .i64 x169000_1, .int .i64 x169001_1]) ?_ 0 _ rfl; (with_reducible repeat (first | refine blk_drewN ?_ _ | refine blk_drew ?_ | refine blk_alloc ?_ _)); exact BK168.out⟩, ⟨by (with_reducible repeat (first | refine blk_drewN ?_ _ | refine blk_drew ?_ | refine blk_alloc ?_ _)); refine blk_far ?_ NB169_168.out _; (with_reducible repeat (first | refine blk_drewN ?_ _ | refine blk_drew ?_ | refine blk_alloc ?_ _)); refine blk_far ?_ NB169_168.out _; (with_reducible repeat (first | refine blk_drewN ?_ _ | refine blk_drew ?_ | refine blk_alloc ?_ _)); exact BK169.out⟩, ⟨by repeat (first | (with_reducible first | exact HB.out | apply below_alloc | apply pw_below_drewN | apply below_drew1 | refine below_set ?_ GE168.out | refine below_set ?_ GE169.out | refine below_set ?_ GE171.out) | exact HB.out)⟩⟩
     ·rw [if_neg c7] at H
      exact absurd H (by simp)
    ·rw [if_neg c6] at H
     exact absurd H (by simp)
   ·rw [if_neg c5] at H
    have c5b0 : decide (x9_1 < (l1.length : Int)) = false := decide_eq_false c5
    clear c5
    simp only [Option.some.injEq, Prod.mk.injEq] at H
    obtain ⟨rfl, rfl⟩ := H
    have hnb19 := NB168_169.out
    have hnc19 := NB169_168.out
    have hcz20_0 : wr.cell? ⟨gb168, 0, none⟩ = some (.int .i64 x169000_1) := (blk_cell BK168.out 0).trans rfl
    have hcz20_1 : wr.cell? ⟨gb168, 1, none⟩ = some (.int .i64 x169001_1) := (blk_cell BK168.out 1).trans rfl
    have hfz20_0 := blk_frozen BK168.out 0
    have hfz20_1 := blk_frozen BK168.out 1
    have hcz21_0 : wr.cell? ⟨gb169, 0, none⟩ = some (.int .i64 0) := (blk_cell BK169.out 0).trans rfl
    have hcz21_1 : wr.cell? ⟨gb169, 1, none⟩ = some (.int .i64 0) := (blk_cell BK169.out 1).trans rfl
    have hfz21_0 := blk_frozen BK169.out 0
    have hfz21_1 := blk_frozen BK169.out 1
    go_wp2
    refine bodyPost_ret (results_cell_row rfl _ _ gb169 49 #[.int .i64 x169000_1, .int .i64 x169001_1] (0, 0) _ rfl (by (with_reducible repeat (first | refine blk_drewN ?_ _ | refine blk_drew ?_ | refine blk_alloc ?_ _)); refine blk_put (cs := #[.int .i64 x169000_1, .int .i64 0]) ?_ 1 _ rfl; (with_reducible repeat (first | refine blk_drewN ?_ _ | refine blk_drew ?_ | refine blk_alloc ?_ _)); refine blk_put (cs := #[.int .i64 0, .int .i64 0]) ?_ 0 _ rfl; (with_reducible repeat (first | refine blk_drewN ?_ _ | refine blk_drew ?_ | refine blk_alloc ?_ _)); exact BK169.out) Try.underlying49 rfl (by kernel_rfl)) rfl ?_
    exact ⟨by first | rfl | (simp [errW_none, errW_some] <;> rfl) | (simp [*, errW_none, errW_some] <;> rfl), by repeat (first | (with_reducible first | exact HB.out | apply below_alloc | apply pw_below_drewN | apply below_drew1 | refine below_set ?_ GE168.out | refine below_set ?_ GE169.out) | exact HB.out)⟩
end Go.Proofs.Ytpedlompipabdaa.P
namespace Go.Proofs.Ytpedlompipabdaa.P
open Go.RowKit Go.Proofs.YtpedlompipabdaaW.PrintWords Go.Proofs.YtpedlompipabdaaW.PrintLast Go.Proofs.YtpedlompipabdaaW.PrintMore
set_option linter.unusedVariables false
set_option linter.unusedSimpArgs false
attribute [local go_sem] cellBx frozBx Sit.c0 Sit.c1 Sit.c2 Sit.c3 Sit.c4 Sit.c5 Sit.c6 Sit.c7 Sit.c8 Sit.c9 Sit.c10 Sit.c12 Sit.c13 Sit.c14 Sit.c15
attribute [local go_sem] Oper.semAt_some
open Go.Proofs.Ytpedlompipabdaa.Bits
def uStep (u : Int × Int) (s : S63) : Int × Int := (wrap64 (u.1 + popI s.f1), wrap64 (u.2 + s.f2))
def unitsV (u : Int × Int) (l : List S63) : Int × Int := l.foldl uStep u
def MaskOk (l : List S63) : Prop := ∀ s ∈ l, 0 ≤ s.f1 ∧ s.f1 < 18446744073709551616
theorem units_f (l : List S63) (hl : l.length ≤ 1000000) (hm : MaskOk l) (a b : Int) : audit_units.f (l.length + 1) a b l = some (unitsV (a, b) l) := by
 have main : ∀ d i a b, i + d = l.length → audit_units.l0 (d + 1) l (l.length : Int) (i : Int) a b = some (unitsV (a, b) (l.drop i)) := by
  intro d
  induction d with
  | zero =>
   intro i a b h
   rw [audit_units.l0, if_neg (show ¬ (i : Int) < (l.length : Int) by omega), List.drop_eq_nil_of_le (by omega)]
   rfl
  | succ d ih =>
   intro i a b h
   have hlt : i < l.length := by omega
   have hx : rd_T63 l (i : Int) = l[i] := by simp [rd_T63, List.getD_eq_getElem?_getD, List.getElem?_eq_getElem hlt]
   have hb := hm _ (List.getElem_mem hlt)
   have hc : mask_Count.f l[i].f1 = some (popI l[i].f1) := by unfold mask_Count.f; rw [if_pos hb]
   rw [audit_units.l0, if_pos (show (i : Int) < (l.length : Int) by omega), if_pos (show (0 : Int) ≤ (i : Int) by omega), if_pos (show (i : Int) < (l.length : Int) by omega), hx, hc, Option.bind_some, show wrap64 ((i : Int) + 1) = ((i + 1 : Nat) : Int) by unfold wrap64; omega, ih (i + 1) _ _ (by omega), List.drop_eq_getElem_cons hlt]
   rfl
 have := main l.length 0 a b (by omega)
 rw [List.drop_zero] at this
 exact this
def qSum (k : Int) (u : Int × Int) : List S62 → Int × Int
 | [] => u
 | h :: r => qSum k (if h.f1 = k then unitsV u h.f4 else u) r
def eqU (a b : S49) : Bool := a.f0 == b.f0 && a.f1 == b.f1
theorem neq49 (a b c d : Int) (w : World) : (binOp .neq 49 (.agg #[.int .i64 a, .int .i64 b]) (.agg #[.int .i64 c, .int .i64 d])).run Try.prog w = .ok (.bool (!eqU ⟨a, b⟩ ⟨c, d⟩)) w := by
 have hu49 := Try.underlying49
 have hu3 := Try.underlying3
 unfold eqU
 go_simp
 repeat' split
 all_goals simp_all
def queueE (T : Sit) (k : Nat) : Int :=
 if eqU ⟨(qSum k (0, 0) T.lH).1, (qSum k (0, 0) T.lH).2⟩ (rd_T49 T.lU (k : Int)) = false then 13 else
 if (rd_T51 T.lQ (k : Int)).f0.f0 < (qSum k (0, 0) T.lH).1 then 6 else if (rd_T51 T.lQ (k : Int)).f0.f1 < (qSum k (0, 0) T.lH).2 then 6 else 0
set_option maxHeartbeats 8000000 in
set_option maxRecDepth 100000 in
theorem queues1 (T : Sit) (g p k : Nat) (w : World) (ha : Au w g T) (hp : Bx w p #[.pointer (some ⟨g, 0, none⟩)] 76) (hk : k < T.lU.length) (hk1 : k ≤ 1000000) (hn : T.lH.length ≤ 1000000) (hm : ∀ h ∈ T.lH, h.f4.length ≤ 1000000 ∧ MaskOk h.f4) :
  Calls Try.prog 39 (#[.int .i64 (k : Int), .agg #[.int .i64 (rd_T51 T.lQ (k : Int)).f0.f0, .int .i64 (rd_T51 T.lQ (k : Int)).f0.f1, .int .i64 (rd_T51 T.lQ (k : Int)).f1]] ++ #[.pointer (some ⟨p, 0, none⟩)]) w fun e w' => e = .returned (.int .i64 (queueE T k)) ∧ Below w.heap.size w w' := by
 have hu62 := Try.underlying62
 have hu76 := Try.underlying76
 have hu78 := Try.underlying78
 have hu27 := Try.underlying27
 have hu35 := Try.underlying35
 have hu25 := Try.underlying25
 have hu31 := Try.underlying31
 have hu33 := Try.underlying33
 have hu49 := Try.underlying49
 have hu51 := Try.underlying51
 have hu60 := Try.underlying60
 have hu39 := Try.underlying39
 have hu3 := Try.underlying3
 have : Be w w := ⟨Below.refl _ _⟩
 have HN := Aside0.mk hn
 have HM := Aside0.mk hm
 have HK := Aside0.mk hk
 clear hn hm hk
 obtain ⟨E, hE⟩ : ∃ E, queueE T k = E := ⟨_, rfl⟩
 rw [hE]
 unfold queueE at hE
 obtain ⟨x, hx⟩ : ∃ x, (rd_T51 T.lQ (k : Int)) = x := ⟨_, rfl⟩
 rw [hx] at hE ⊢
 clear hx
 obtain ⟨S, hS⟩ : ∃ S, qSum k (0, 0) T.lH = S := ⟨_, rfl⟩
 rw [hS] at hE
 have H := Aside0.mk hE
 have HS := Aside0.mk (show qSum k (0, 0) (T.lH.drop 0) = S from hS)
 clear hE hS
 show Calls Try.prog 39 #[.int .i64 (k : Int), .agg #[.int .i64 x.f0.f0, .int .i64 x.f0.f1, .int .i64 x.f1], .pointer (some ⟨p, 0, none⟩)] w _
 go_enter Try.func39, Try.ntmps39
 go_upto_region 1 with (first | ((with_reducible refine gate_dst (N := 4) rfl ?_); refine bxT 4 #[.int .i64 x.f0.f0, .int .i64 x.f0.f1, .int .i64 x.f1] 51 ?_; intro g4 w4 _ _ _))
 go_upto_region 2 with (fail)
 obtain ⟨g6, w6, _, _, _, e1, e2⟩ := nameA w4 #[.int .i64 0, .int .i64 0] 49
 rw [e1, e2]
 clear e1 e2
 go_upto_region 3 with (fail)
 have hg46 : g4 ≠ g6 := (inferInstance : Nq g4 g6).out
 go_loopw [15] (fun v15 wr => ∃ (i : Nat) (u : Int × Int), i ≤ T.lH.length ∧ v15 = .int .i64 (i : Int) ∧ Aside0 (qSum k u (T.lH.drop i) = S) ∧ Bx wr g4 #[.int .i64 x.f0.f0, .int .i64 x.f0.f1, .int .i64 x.f1] 51 ∧ Bx wr g6 #[.int .i64 u.1, .int .i64 u.2] 49 ∧ Be w wr) (fun v15 _ => T.lH.length - (intOf v15).toNat)
 case atStart => exact ⟨0, (0, 0), Nat.zero_le _, rfl, HS, inferInstance, inferInstance, inferInstance⟩
 case round =>
  clear HS
  obtain ⟨i, ⟨u1, u2⟩, hi, rfl, HA, b4, b6, be⟩ := hrel
  have : Bl w wr := ⟨be.out⟩
  simp only at b6
  by_cases hlt : i < T.lH.length
  ·have hib : (i : Int) ≤ 1000000 := by have := HN.out; omega
   have hlt' : (i : Int) < T.lH.length := by omega
   have h0i : 0 ≤ (i : Int) := by omega
   obtain ⟨ad, A4, c4, ee, y0, y1, y2, y3, y4, l4, g4'⟩ := at_T62 (ha.ok.step be.out).H (i : Int) h0i hlt'
   simp only [Int.toNat_natCast] at y0 y1 y2 y3 y4
   have hx : rd_T62 T.lH (i : Int) = T.lH[i] := by simp [rd_T62, List.getD_eq_getElem?_getD, List.getElem?_eq_getElem hlt]
   have hM := HM.out _ (List.getElem_mem hlt)
   have hh := HA.out
   rw [List.drop_eq_getElem_cons hlt, qSum] at hh
   rw [hx] at y0 y1 y2 y3 y4 l4 g4'
   generalize T.lH[i] = h at *
   have HLT := Aside0.mk hlt
   have HM1 := Aside0.mk hM
   have : Rw k63 wr A4 c4 h.f4 := ⟨g4', l4⟩
   have HL4 := Aside0.mk l4
   have ce : T.cells[13]? = some (.slice (some ad) T.lH.length T.cH) := by rw [Sit.c13, ee]
   have e13 := Aside0.mk ee
   rw [ee]
   clear HA hlt hM l4 g4' ee hx
   have HA := Aside0.mk hh
   clear hh
   go_upto_region 5 with (fail)
   obtain ⟨g8, w8, _, _, _, e1, e2⟩ := nameA wr #[.int .i64 h.f0, .int .i64 h.f1, .int .i64 h.f2, .bool h.f3, .slice A4 h.f4.length c4] 62
   rw [e1, e2]
   clear e1 e2
   clear y0 y1 y2 y3 y4
   have hh := HA.out
   clear HA
   by_cases d1 : h.f1 = (k : Int)
   ·rw [if_pos d1] at hh
    have q1 : (h.f1 == (k : Int)) = true := beq_iff_eq.2 d1
    clear d1
    obtain ⟨⟨v1, v2⟩, hv⟩ : ∃ v, unitsV (u1, u2) h.f4 = v := ⟨_, rfl⟩
    have HU := Aside0.mk ((units_f h.f4 HM1.out.1 HM1.out.2 u1 u2).trans (congrArg some hv))
    rw [hv] at hh
    clear hv
    have HA2 := Aside0.mk hh
    clear hh
    go_wp2_with ((go_at_call 40; refine (audit_units.calls _ _ _ _ _ _ _ _ _ Rw.out HL4.out HU.out).mono ?_; rintro e wu ⟨rfl, hb⟩; have := Bl.mk hb; clear hb))
    have : Ge w g6 := inferInstance
    have hb4 : Bx ((wu.setCell ⟨g6, 0, none⟩ (.int .i64 v1)).setCell ⟨g6, 1, none⟩ (.int .i64 v2)) g4 #[.int .i64 x.f0.f0, .int .i64 x.f0.f1, .int .i64 x.f1] 51 := by
     have : Nq g4 g6 := ⟨hg46⟩
     infer_instance
    have hb6 : Bx ((wu.setCell ⟨g6, 0, none⟩ (.int .i64 v1)).setCell ⟨g6, 1, none⟩ (.int .i64 v2)) g6 #[.int .i64 v1, .int .i64 v2] 49 := bxSetS (cs := #[.int .i64 v1, .int .i64 u2]) (h := bxSetS (cs := #[.int .i64 u1, .int .i64 u2]))
    go_roundw
    case rel => exact ⟨i + 1, (v1, v2), HLT.out, by go_num, HA2, hb4, hb6, inferInstance⟩
    case measure => have := HLT.out; simp [intOf]; omega
   ·rw [if_neg d1] at hh
    have q1 : (h.f1 == (k : Int)) = false := beq_eq_false_iff_ne.2 d1
    clear d1
    have HA2 := Aside0.mk hh
    clear hh
    go_wp2
    go_roundw
    case rel => exact ⟨i + 1, (u1, u2), HLT.out, by go_num, HA2, inferInstance, inferInstance, inferInstance⟩
    case measure => have := HLT.out; simp [intOf]; omega
  ·obtain rfl : i = T.lH.length := by omega
   have hh := HA.out
   rw [List.drop_length, qSum] at hh
   subst hh
   clear HA
   obtain ⟨ad, ee, y0, y1⟩ := at_T49 (ha.ok.step (Be.out (W := wr))).U (k : Int) (by omega) (by have := HK.out; omega)
   simp only [Int.toNat_natCast] at y0 y1
   have ce : T.cells[15]? = some (.slice (some ad) T.lU.length T.cU) := by rw [Sit.c15, ee]
   have hkU : (k : Int) < T.lU.length := by have := HK.out; omega
   have h0k : 0 ≤ (k : Int) := by omega
   have hh := H.out
   clear H ee
   generalize rd_T49 T.lU (k : Int) = U at *
   obtain ⟨U0, U1⟩ := U
   simp only at hh y0 y1
   have q49 := neq49 u1 u2 U0 U1
   go_upto_region 8 with (fail)
   cases hq : eqU ⟨u1, u2⟩ ⟨U0, U1⟩ with
   | false =>
    rw [if_pos hq] at hh
    subst hh
    rw [hq] at q49
    go_region
    go_wp2
    go_ret
    exact ⟨rfl, Be.out⟩
   | true =>
    rw [if_neg (by rw [hq]; decide)] at hh
    rw [hq] at q49
    go_region
    clear q49 y0 y1 ce hq
    by_cases d2 : x.f0.f0 < u1
    ·rw [if_pos d2] at hh
     subst hh
     have q2 : decide (u1 > x.f0.f0) = true := decide_eq_true d2
     clear d2
     go_wp2
     go_ret
     exact ⟨rfl, Be.out⟩
    ·rw [if_neg d2] at hh
     have q2 : decide (u1 > x.f0.f0) = false := decide_eq_false d2
     clear d2
     by_cases d3 : x.f0.f1 < u2
     ·rw [if_pos d3] at hh
      subst hh
      have q3 : decide (u2 > x.f0.f1) = true := decide_eq_true d3
      clear d3
      go_wp2
      go_ret
      exact ⟨rfl, Be.out⟩
     ·rw [if_neg d3] at hh
      subst hh
      have q3 : decide (u2 > x.f0.f1) = false := decide_eq_false d3
      clear d3
      go_wp2
      go_ret
      exact ⟨rfl, Be.out⟩
def queuesR (T : Sit) : Int × Int := if T.lU.length = T.lQ.length then firstL (queueE T) (fun k => (k : Int)) 0 T.lQ.length else (13, 0)
set_option maxHeartbeats 8000000 in
set_option maxRecDepth 100000 in
theorem queues_calls (T : Sit) (g : Nat) (w : World) (ha : Au w g T) (hq : T.lQ.length ≤ 1000000) (hn : T.lH.length ≤ 1000000) (hm : ∀ h ∈ T.lH, h.f4.length ≤ 1000000 ∧ MaskOk h.f4) :
  Calls Try.prog 22 #[.pointer (some ⟨g, 0, none⟩)] w fun e w' => e = .returned (.tuple #[.int .i64 (queuesR T).1, .int .i64 (queuesR T).2]) ∧ Below w.heap.size w w' := by
 have hu62 := Try.underlying62
 have hu76 := Try.underlying76
 have hu78 := Try.underlying78
 have hu27 := Try.underlying27
 have hu35 := Try.underlying35
 have hu25 := Try.underlying25
 have hu31 := Try.underlying31
 have hu33 := Try.underlying33
 have hu49 := Try.underlying49
 have hu51 := Try.underlying51
 have hu60 := Try.underlying60
 have hu39 := Try.underlying39
 have hu3 := Try.underlying3
 have : Be w w := ⟨Below.refl _ _⟩
 have HN := Aside0.mk hn
 have HM := Aside0.mk hm
 have HQ := Aside0.mk hq
 clear hn hm hq
 obtain ⟨⟨E, N⟩, hR⟩ : ∃ R, queuesR T = R := ⟨_, rfl⟩
 rw [hR]
 unfold queuesR at hR
 have H := Aside0.mk hR
 clear hR
 go_enter Try.func22, Try.ntmps22
 go_upto_region 1 with (first | ((with_reducible refine gate_dst (N := 1) rfl ?_); refine bxT 1 #[.pointer (some ⟨g, 0, none⟩)] 76 ?_; intro p w1 _ _ _))
 have hh := H.out
 clear H
 by_cases d1 : T.lU.length = T.lQ.length
 ·rw [if_pos d1] at hh
  have q1 : ((T.lU.length : Int) != (T.lQ.length : Int)) = false := by simp; omega
  have HD := Aside0.mk d1
  clear d1
  go_region
  go_upto_region 3 with (fail)
  clear q1
  have HC := Aside0.mk (first51 39 #[.pointer (some ⟨p, 0, none⟩)] (fun args W => by kernel_rfl) none (queueE T) (fun k W => Be w W ∧ Bx W p #[.pointer (some ⟨g, 0, none⟩)] 76) T.AQ T.cQ T.lQ w1.drew HQ.out (fun k e => by cases e) (fun k W h => (ha.ok.step h.1.out).Q) (fun k W W' h hb => by
    obtain ⟨be, b1⟩ := h
    have := Bl.mk hb
    exact ⟨inferInstance, inferInstance⟩) ⟨inferInstance, inferInstance⟩ (fun k hk W h => by
    obtain ⟨be, b1⟩ := h
    have hau : Au W g T := ⟨blk_below ha.box be.out, ha.ok.step be.out⟩
    refine (queues1 T g p k W hau b1 (by have := HD.out; omega) (by have := HQ.out; omega) HN.out HM.out).mono ?_
    rintro e W' ⟨rfl, hb⟩
    have := Bl.mk hb
    exact ⟨rfl, grown_ofb _ hb, fun _ => ⟨inferInstance, inferInstance⟩⟩))
  rw [hh] at HC
  clear hh
  go_wp2_with (go_at_call 38; refine HC.out.mono ?_; rintro e w5 ⟨rfl, hg5, _⟩; have := Bl.mk (grown_below0 hg5); clear hg5)
  go_ret2
  exact ⟨rfl, Be.out⟩
 ·rw [if_neg d1] at hh
  obtain ⟨rfl, rfl⟩ := Prod.mk.inj hh
  have q1 : ((T.lU.length : Int) != (T.lQ.length : Int)) = true := by simp; omega
  clear d1 hh
  go_region
  go_wp2
  go_ret2
  exact ⟨rfl, Be.out⟩
end Go.Proofs.Ytpedlompipabdaa.P
namespace Go.Proofs.Ytpedlompipabdaa.Mp
open Go.RowKit Go.Maps Go.ChangeMaps
set_option linter.unusedVariables false
set_option linter.unusedSimpArgs false
def MapV (W : World) (b : Nat) (f : Int → Option Value) : Prop :=
 ∃ es clock, W.heap[b]? = some (.map es clock) ∧ (∀ e ∈ es.toList, ∃ i, e.key = .int .i64 i ∧ (Lit.int .i64 i).wf = true) ∧
  (∀ e ∈ es.toList, ∀ i, e.key = .int .i64 i → f i = some e.val) ∧ ∀ i v, f i = some v → ∃ e ∈ es.toList, e.key = .int .i64 i
def updV (f : Int → Option Value) (i : Int) (v : Value) : Int → Option Value := fun j => if j = i then some v else f j
variable {P : Program} {k e : TypeId} {w : World} {b : Nat} {f : Int → Option Value}
theorem MapV.made (w : World) : MapV (w.alloc (.map #[] 0)) w.heap.size (fun _ => none) :=
 ⟨#[], 0, heap_alloc_new _ _, by simp, by simp, by simp⟩
theorem MapV.lt (h : MapV w b f) : b < w.heap.size := by
 obtain ⟨es, cl, hb, _⟩ := h
 exact (Array.getElem?_eq_some_iff.1 hb).1
theorem MapV.move {w1 : World} (h : MapV w b f) (hm : w1.heap[b]? = w.heap[b]?) : MapV w1 b f := by
 obtain ⟨es, cl, hb, r⟩ := h
 exact ⟨es, cl, hm.trans hb, r⟩
theorem MapV.below {w1 : World} (h : MapV w b f) (hb : Below w.heap.size w w1) : MapV w1 b f := h.move (hb.block b h.lt)
theorem MapV.alloc (h : MapV w b f) (o : Obj) : MapV (w.alloc o) b f := h.below ((Below.refl _ _).alloc (Nat.le_refl _) o)
theorem keysV {es : Array MapEntry} (hk : P.underlying k = some (.int .i64)) (h : ∀ e ∈ es.toList, ∃ i, e.key = .int .i64 i ∧ (Lit.int .i64 i).wf = true) : ∀ e ∈ es.toList, ∃ l, keyOf P k e.key = some l := by
 intro e he
 obtain ⟨i, h1, h2⟩ := h e he
 exact ⟨_, by rw [h1]; exact keyOf_int_mk hk h2⟩
theorem MapV.look (h : MapV w b f) {t : TypeId} (ht : P.underlying t = some (.map k e)) (hk : P.underlying k = some (.int .i64)) {z : Value} (hz : (zeroValue e).run P w = .ok z w) {i : Int} (hi : (Lit.int .i64 i).wf = true) :
  (Instr.lookup t (.map (some b)) (.int .i64 i) true).run P w = .ok (.tuple #[(f i).getD z, .bool (f i).isSome]) w := by
 obtain ⟨es, cl, hb, h1, h2, h3⟩ := h
 have K := int_keyed hk
 have hkey := keyOf_int_mk hk hi
 rcases K.find w hkey es.toList (keysV hk h1) with ⟨e1, e2⟩ | ⟨j, e0, e1, e2, e3⟩
 ·have hf : f i = none := by
   cases hf : f i with
   | none => rfl
   | some v =>
    obtain ⟨e, he, hei⟩ := h3 i v hf
    exact absurd hei (e2 e he)
  simp [Instr.lookup, run_underlying ht, MapKept.run_getObj_map hb, K.check w _ hkey, e1, hz, Result.andThen, hf]
 ·have hf : f i = some e0.val := h2 e0 (List.mem_iff_getElem?.2 ⟨j, e2⟩) i e3
  simp [Instr.lookup, run_underlying ht, MapKept.run_getObj_map hb, K.check w _ hkey, e1, Result.andThen, hf]
def MapW (W : World) (b : Nat) (f : Int → Option Value) : Prop :=
 ∃ es clock, W.heap[b]? = some (.map es clock) ∧ (es.toList.map (·.key)).Nodup ∧ (∀ e ∈ es.toList, ∃ i, e.key = .int .i64 i ∧ (Lit.int .i64 i).wf = true) ∧
  (∀ e ∈ es.toList, ∀ i, e.key = .int .i64 i → f i = some e.val) ∧ ∀ i v, f i = some v → ∃ e ∈ es.toList, e.key = .int .i64 i
theorem MapW.v (h : MapW w b f) : MapV w b f := let ⟨es, cl, h1, _, h2⟩ := h; ⟨es, cl, h1, h2⟩
theorem MapW.made (w : World) : MapW (w.alloc (.map #[] 0)) w.heap.size (fun _ => none) :=
 ⟨#[], 0, heap_alloc_new _ _, by simp, by simp, by simp, by simp⟩
theorem MapW.lt (h : MapW w b f) : b < w.heap.size := h.v.lt
theorem MapW.move {w1 : World} (h : MapW w b f) (hm : w1.heap[b]? = w.heap[b]?) : MapW w1 b f := by
 obtain ⟨es, cl, hb, r⟩ := h
 exact ⟨es, cl, hm.trans hb, r⟩
theorem MapW.below {w1 : World} (h : MapW w b f) (hb : Below w.heap.size w w1) : MapW w1 b f := h.move (hb.block b h.lt)
theorem MapW.update (h : MapW w b f) {t : TypeId} (ht : P.underlying t = some (.map k e)) (hk : P.underlying k = some (.int .i64)) {i : Int} (hi : (Lit.int .i64 i).wf = true) (v : Value) :
  ∃ w', (Instr.mapUpdate t (.map (some b)) (.int .i64 i) v).run P w = .ok () w' ∧ MapW w' b (updV f i v) ∧ w.grownBy w' (some b) := by
 obtain ⟨es, cl, hb, h0, h1, h2, h3⟩ := h
 have K := int_keyed hk
 have hkey := keyOf_int_mk hk hi
 rcases K.find w hkey es.toList (keysV hk h1) with ⟨e1, e2⟩ | ⟨j, e0, e1, e2, e3⟩
 ·refine ⟨setBlock w b (.map (es.push ⟨.int .i64 i, v, cl⟩) (cl + 1)), by simp [Instr.mapUpdate, run_underlying ht, MapKept.run_getObj_map hb, K.check w _ hkey, e1, MapKept.run_setObj_map _ hb, Result.andThen, setBlock],
   ⟨_, _, heap_setBlock_same hb _, ?_, ?_, ?_, ?_⟩, ⟨rfl, rfl, rfl, by simp [setBlock], fun i _ hi => heap_setBlock_other hb _ (fun e => hi (by rw [e]))⟩⟩
  ·rw [Array.toList_push, List.map_append, List.nodup_append]
   refine ⟨h0, by simp, fun x hx y hy => ?_⟩
   obtain ⟨e, he, rfl⟩ := List.mem_map.1 hx
   have : y = .int .i64 i := by simpa using hy
   rw [this]; exact e2 e he
  ·intro e he
   rw [Array.toList_push, List.mem_append] at he
   rcases he with he | he
   ·exact h1 e he
   ·obtain rfl := List.mem_singleton.1 he
    exact ⟨i, rfl, hi⟩
  ·intro e he j hj
   rw [Array.toList_push, List.mem_append] at he
   rcases he with he | he
   ·unfold updV
    rw [if_neg (fun c => e2 e he (by rw [hj, c]))]
    exact h2 e he j hj
   ·obtain rfl := List.mem_singleton.1 he
    have : i = j := by simpa using hj
    unfold updV; rw [if_pos this.symm]
  ·intro j u hj
   unfold updV at hj
   split at hj
   ·rename_i c
    exact ⟨⟨.int .i64 i, v, cl⟩, by simp, by rw [c]⟩
   ·obtain ⟨e, he, hee⟩ := h3 j u hj
    exact ⟨e, by simp [he], hee⟩
 ·have hj : es[j]? = some e0 := by simpa using e2
  have hl : (es.modify j fun e => { e with key := .int .i64 i, val := v }).toList = es.toList.set j { e0 with key := .int .i64 i, val := v } := by
   rw [Array.toList_modify, modify_eq_set _ _ _ _ e2]
  have hjl := (List.getElem?_eq_some_iff.1 e2).1
  have hkeys : (es.toList.set j { e0 with key := .int .i64 i, val := v }).map (·.key) = es.toList.map (·.key) := by
   apply List.ext_getElem?
   intro n
   rw [List.getElem?_map, List.getElem?_map, List.getElem?_set]
   split
   ·rename_i c
    subst c
    rw [e2]
    simp [e3]
   ·rfl
  refine ⟨setBlock w b (.map (es.modify j fun e => { e with key := .int .i64 i, val := v }) cl), by simp [Instr.mapUpdate, run_underlying ht, MapKept.run_getObj_map hb, K.check w _ hkey, e1, hj, e3, K.stays w hkey, MapKept.run_setObj_map _ hb, Result.andThen, setBlock],
   ⟨_, _, heap_setBlock_same hb _, ?_, ?_, ?_, ?_⟩, ⟨rfl, rfl, rfl, by simp [setBlock], fun i _ hi => heap_setBlock_other hb _ (fun e => hi (by rw [e]))⟩⟩
  ·rw [hl, hkeys]; exact h0
  ·intro e he
   rw [hl] at he
   rcases List.mem_or_eq_of_mem_set he with he | rfl
   ·exact h1 e he
   ·exact ⟨i, rfl, hi⟩
  ·intro e he n hn
   rw [hl] at he
   obtain ⟨m, hm⟩ := List.mem_iff_getElem?.1 he
   rw [List.getElem?_set] at hm
   unfold updV
   split at hm
   ·rename_i c
    subst c
    obtain rfl := Option.some.inj hm
    have : i = n := by simpa using hn
    rw [if_pos this.symm]
   ·rename_i c
    rw [if_neg]
    ·exact h2 e (List.mem_iff_getElem?.2 ⟨m, hm⟩) n hn
    ·intro en
     subst en
     have a1 : (es.toList.map (·.key))[j]? = some (.int .i64 n) := by rw [List.getElem?_map, e2]; simp [e3]
     have a2 : (es.toList.map (·.key))[m]? = some (.int .i64 n) := by rw [List.getElem?_map, hm]; simp [hn]
     obtain ⟨b1, b2⟩ := List.getElem?_eq_some_iff.1 a1
     obtain ⟨b3, b4⟩ := List.getElem?_eq_some_iff.1 a2
     exact c ((List.getElem_inj h0).1 (b2.trans b4.symm))
  ·intro n u hn
   rw [hl]
   unfold updV at hn
   split at hn
   ·rename_i c
    refine ⟨{ e0 with key := .int .i64 i, val := v }, List.mem_iff_getElem?.2 ⟨j, ?_⟩, by rw [c]⟩
    rw [List.getElem?_set_self hjl]
   ·rename_i c
    obtain ⟨e, he, hee⟩ := h3 n u hn
    obtain ⟨m, hm⟩ := List.mem_iff_getElem?.1 he
    refine ⟨e, List.mem_iff_getElem?.2 ⟨m, ?_⟩, hee⟩
    rw [List.getElem?_set_ne]
    ·exact hm
    ·intro em
     subst em
     rw [e2] at hm
     obtain rfl := Option.some.inj hm
     rw [e3] at hee
     exact c (by simpa using hee.symm)
variable {ops : Array Oper} {rest : List Oper} {o : Oper} {a : Act} {Q : Exit → Act → World → Prop}
theorem wp_lookup_V (hg : o.guard = none) (m x : Operand) (t : TypeId) (hop : o.op = Op.lookup t m x true)
  (ht : P.underlying t = some (.map k e)) (hk : P.underlying k = some (.int .i64)) {z : Value} (hz : (zeroValue e).run P w = .ok z w)
  (hm : a.eval m = .map (some b)) (h : MapV w b f) (i : Int) (hx : a.eval x = .int .i64 i) (hi : (Lit.int .i64 i).wf = true)
  (hK : wpList P ops Q rest (a.put o.dst (.tuple #[(f i).getD z, .bool (f i).isSome])) w) : wpList P ops Q (o :: rest) a w := by
 refine wpList_plain hg fun K' hK' => ?_
 have hrun := h.look ht hk hz hi
 unfold Oper.wp
 simp [execOp, hop, hm, hx, hrun, Result.andThen]
 exact hK' _ _ hK
theorem wp_update_V (hg : o.guard = none) (m x v : Operand) (t : TypeId) (hop : o.op = Op.mapUpdate t m x v)
  (ht : P.underlying t = some (.map k e)) (hk : P.underlying k = some (.int .i64))
  (hm : a.eval m = .map (some b)) (h : MapW w b f) (i : Int) (u : Value) (hx : a.eval x = .int .i64 i) (hv : a.eval v = u) (hi : (Lit.int .i64 i).wf = true)
  (hK : ∀ w', MapW w' b (updV f i u) → w.grownBy w' (some b) → wpList P ops Q rest (a.put o.dst undef) w') : wpList P ops Q (o :: rest) a w := by
 refine wpList_plain hg fun K' hK' => ?_
 obtain ⟨w', hrun, r1, r2⟩ := h.update ht hk hi u
 unfold Oper.wp
 simp [execOp, hop, hm, hx, hv, hrun, Result.andThen]
 exact hK' _ _ (hK w' r1 r2)
end Go.Proofs.Ytpedlompipabdaa.Mp
namespace Go.Proofs.Ytpedlompipabdaa.P
open Go.RowKit Go.Proofs.YtpedlompipabdaaW.PrintWords Go.Proofs.YtpedlompipabdaaW.PrintLast Go.Proofs.YtpedlompipabdaaW.PrintMore
set_option linter.unusedVariables false
set_option linter.unusedSimpArgs false
attribute [local go_sem] cellBx frozBx Sit.c0 Sit.c1 Sit.c2 Sit.c3 Sit.c4 Sit.c5 Sit.c6 Sit.c7 Sit.c8 Sit.c9 Sit.c10 Sit.c12 Sit.c13 Sit.c14 Sit.c15
attribute [local go_sem] Oper.semAt_some
open Go.Proofs.Ytpedlompipabdaa.Mp
theorem zero62 (w : World) : (zeroValue 62).run Try.prog w = .ok (.agg #[.int .i64 0, .int .i64 0, .int .i64 0, .bool false, .slice none 0 0]) w := by kernel_rfl
def HoldV (w : World) (o : Option S62) (v : Option Value) : Prop := match o with
 | none => v = none
 | some h => ∃ A c, v = some (.agg #[.int .i64 h.f0, .int .i64 h.f1, .int .i64 h.f2, .bool h.f3, .slice A h.f4.length c]) ∧ Kd.C k63 w A h.f4.length h.f4 ∧ h.f4.length ≤ c
theorem HoldV.step {w W : World} {o : Option S62} {v : Option Value} (h : HoldV w o v) (hb : Below w.heap.size w W) : HoldV W o v := by
 cases o with
 | none => exact h
 | some x => obtain ⟨A, c, h1, h2, h3⟩ := h; exact ⟨A, c, h1, Kd.C_below h2 hb, h3⟩
def gangE (T : Sit) (o : Option S62) (r : S47) : Int :=
 if r.f1 < 1 then 8 else if 6 < r.f1 then 8 else match o with
 | none => if r.f1 = 2 then 3 else if r.f1 = 3 then 3 else if r.f4 = 0 then 0 else 1
 | some h => if r.f1 = 2 then (if (h.f4.length : Int) = r.f4 then (if h.f3 = true then 8 else if h.f1 = r.f0.f1 then (if r.f4 < r.f0.f4.f2 then 1 else if r.f0.f4.f3 < r.f4 then 1 else 0) else 8) else 8)
  else if r.f1 = 3 then (if (h.f4.length : Int) = r.f4 then (if h.f3 = false then 8 else if h.f1 = r.f0.f1 then (if r.f4 < r.f0.f4.f2 then 1 else if r.f0.f4.f3 < r.f4 then 1 else if r.f6 ≤ T.y0 then 9 else 0) else 8) else 8) else 3
set_option maxHeartbeats 8000000 in
set_option maxRecDepth 100000 in
theorem gangs1 (T : Sit) (g p mp b : Nat) (f : Int → Option Value) (o : Option S62) (r : S47) (kk : Int) (w : World) (ha : Au w g T) (hp : Bx w p #[.pointer (some ⟨g, 0, none⟩)] 76) (hmp : Bx w mp #[.map (some b)] 119) (hM : MapV w b f) (hO : HoldV w o (f r.f0.f0)) (hid : (Lit.int .i64 r.f0.f0).wf = true) :
  Calls Try.prog 43 (#[.int .i64 kk, .agg #[.int .i64 r.f0.f0, .int .i64 r.f0.f1, .int .i64 r.f0.f2, .int .i64 r.f0.f3, .int .i64 r.f0.f4.f0, .int .i64 r.f0.f4.f1, .int .i64 r.f0.f4.f2, .int .i64 r.f0.f4.f3, .int .i64 r.f1, .int .i64 r.f2, .int .i64 r.f3, .int .i64 r.f4, .int .i64 r.f5, .int .i64 r.f6, .int .i64 r.f7, .int .i64 r.f8]] ++ #[.pointer (some ⟨mp, 0, none⟩), .pointer (some ⟨p, 0, none⟩)]) w fun e w' => e = .returned (.int .i64 (gangE T o r)) ∧ Below w.heap.size w w' := by
 have hu62 := Try.underlying62
 have hu76 := Try.underlying76
 have hu78 := Try.underlying78
 have hu27 := Try.underlying27
 have hu35 := Try.underlying35
 have hu47 := Try.underlying47
 have hu45 := Try.underlying45
 have hu43 := Try.underlying43
 have hu119 := Try.underlying119
 have hu60 := Try.underlying60
 have hu39 := Try.underlying39
 have hu4 := Try.underlying4
 have hu3 := Try.underlying3
 have : Be w w := ⟨Below.refl _ _⟩
 have HM := Aside0.mk hM
 have HO := Aside0.mk hO
 have HID := Aside0.mk hid
 clear hM hO hid
 obtain ⟨E, hE⟩ : ∃ E, gangE T o r = E := ⟨_, rfl⟩
 rw [hE]
 unfold gangE at hE
 show Calls Try.prog 43 #[.int .i64 kk, .agg #[.int .i64 r.f0.f0, .int .i64 r.f0.f1, .int .i64 r.f0.f2, .int .i64 r.f0.f3, .int .i64 r.f0.f4.f0, .int .i64 r.f0.f4.f1, .int .i64 r.f0.f4.f2, .int .i64 r.f0.f4.f3, .int .i64 r.f1, .int .i64 r.f2, .int .i64 r.f3, .int .i64 r.f4, .int .i64 r.f5, .int .i64 r.f6, .int .i64 r.f7, .int .i64 r.f8], .pointer (some ⟨mp, 0, none⟩), .pointer (some ⟨p, 0, none⟩)] w _
 have hh := hE
 clear hE
 go_enter Try.func43, Try.ntmps43
 go_upto_region 1 with (first | ((with_reducible refine gate_dst (N := 5) rfl ?_); refine bxT 5 #[.int .i64 r.f0.f0, .int .i64 r.f0.f1, .int .i64 r.f0.f2, .int .i64 r.f0.f3, .int .i64 r.f0.f4.f0, .int .i64 r.f0.f4.f1, .int .i64 r.f0.f4.f2, .int .i64 r.f0.f4.f3, .int .i64 r.f1, .int .i64 r.f2, .int .i64 r.f3, .int .i64 r.f4, .int .i64 r.f5, .int .i64 r.f6, .int .i64 r.f7, .int .i64 r.f8] 47 ?_; intro g5 w5 _ _ _))
 by_cases a1 : r.f1 < 1
 ·rw [if_pos a1] at hh
  subst hh
  have q1 : decide (r.f1 < 1) = true := decide_eq_true (by first | exact a1 | omega)
  clear a1
  go_wp2
  go_ret
  exact ⟨rfl, Be.out⟩
 ·rw [if_neg a1] at hh
  have q1 : decide (r.f1 < 1) = false := decide_eq_false (by first | exact a1 | omega)
  clear a1
  by_cases a2 : 6 < r.f1
  ·rw [if_pos a2] at hh
   subst hh
   have q2 : decide (r.f1 > 6) = true := decide_eq_true (by first | exact a2 | omega)
   clear a2
   go_wp2
   go_ret
   exact ⟨rfl, Be.out⟩
  ·rw [if_neg a2] at hh
   have q2 : decide (r.f1 > 6) = false := decide_eq_false (by first | exact a2 | omega)
   clear a2
   go_upto_region 3 with (fail)
   clear q1 q2
   cases o with
   | none =>
    have HF := Aside0.mk (show f r.f0.f0 = none from HO.out)
    clear HO
    simp only at hh
    go_upto_region 4 with ((at_lookup; refine wp_lookup_V rfl _ _ 119 rfl Try.underlying119 Try.underlying3 (zero62 _) rfl (HM.out.below Be.out) _ rfl HID.out ?_; rw [HF.out]; simp only [Option.getD_none, Option.isSome_none]))
    obtain ⟨g7, w7, _, _, _, e1, e2⟩ := nameA w5 #[.int .i64 0, .int .i64 0, .int .i64 0, .bool false, .slice none 0 0] 62
    rw [e1, e2]
    clear e1 e2
    by_cases d2 : r.f1 = 2
    ·rw [if_pos d2] at hh
     subst hh
     have s2 : (r.f1 == 2) = true := beq_iff_eq.2 d2
     clear d2
     go_wp2
     go_ret
     exact ⟨rfl, Be.out⟩
    ·rw [if_neg d2] at hh
     have s2 : (r.f1 == 2) = false := beq_eq_false_iff_ne.2 d2
     clear d2
     by_cases d3 : r.f1 = 3
     ·rw [if_pos d3] at hh
      subst hh
      have s3 : (r.f1 == 3) = true := beq_iff_eq.2 d3
      clear d3
      go_wp2
      go_ret
      exact ⟨rfl, Be.out⟩
     ·rw [if_neg d3] at hh
      have s3 : (r.f1 == 3) = false := beq_eq_false_iff_ne.2 d3
      clear d3
      by_cases d4 : r.f4 = 0
      ·rw [if_pos d4] at hh
       subst hh
       have m0 : (r.f4 != 0) = false := by rw [d4]; rfl
       clear d4
       go_wp2
       go_region
       go_wp2
       go_ret
       exact ⟨rfl, Be.out⟩
      ·rw [if_neg d4] at hh
       subst hh
       have m0 : (r.f4 != 0) = true := bne_iff_ne.2 d4
       clear d4
       go_wp2
       go_ret
       exact ⟨rfl, Be.out⟩
   | some h =>
    obtain ⟨A7, c7, hf, g63, l63⟩ := HO.out
    have HF := Aside0.mk hf
    clear HO hf g63 l63
    simp only at hh
    obtain ⟨h0, h1, h2, h3, h4⟩ := h
    simp only at hh HF
    go_upto_region 4 with ((at_lookup; refine wp_lookup_V rfl _ _ 119 rfl Try.underlying119 Try.underlying3 (zero62 _) rfl (HM.out.below Be.out) _ rfl HID.out ?_; rw [HF.out]; simp only [Option.getD_some, Option.isSome_some]))
    obtain ⟨g7, w7, _, _, _, e1, e2⟩ := nameA w5 #[.int .i64 h0, .int .i64 h1, .int .i64 h2, .bool h3, .slice A7 h4.length c7] 62
    rw [e1, e2]
    clear e1 e2
    by_cases d2 : r.f1 = 2
    ·rw [if_pos d2] at hh
     have s2 : (r.f1 == 2) = true := beq_iff_eq.2 d2
     have s3 : (r.f1 == 3) = false := beq_eq_false_iff_ne.2 (by omega)
     clear d2
     by_cases d4 : (h4.length : Int) = r.f4
     ·rw [if_pos d4] at hh
      have m4 : ((h4.length : Int) != r.f4) = false := by rw [d4]; simp
      clear d4
      cases h3 with
      | false =>
       rw [if_neg (by decide)] at hh
       by_cases d5 : h1 = r.f0.f1
       ·rw [if_pos d5] at hh
        have m5 : (h1 != r.f0.f1) = false := by rw [d5]; simp
        clear d5
        by_cases d6 : r.f4 < r.f0.f4.f2
        ·rw [if_pos d6] at hh
         subst hh
         have m6 : decide (r.f4 < r.f0.f4.f2) = true := decide_eq_true (by first | exact d6 | omega)
         clear d6
         go_wp2
         go_ret
         exact ⟨rfl, Be.out⟩
        ·rw [if_neg d6] at hh
         have m6 : decide (r.f4 < r.f0.f4.f2) = false := decide_eq_false (by first | exact d6 | omega)
         clear d6
         by_cases d7 : r.f0.f4.f3 < r.f4
         ·rw [if_pos d7] at hh
          subst hh
          have m7 : decide (r.f4 > r.f0.f4.f3) = true := decide_eq_true (by first | exact d7 | omega)
          clear d7
          go_wp2
          go_ret
          exact ⟨rfl, Be.out⟩
         ·rw [if_neg d7] at hh
          have m7 : decide (r.f4 > r.f0.f4.f3) = false := decide_eq_false (by first | exact d7 | omega)
          clear d7
          subst hh
          go_wp2
          go_region
          go_wp2
          go_ret
          exact ⟨rfl, Be.out⟩
       ·rw [if_neg d5] at hh
        subst hh
        have m5 : (h1 != r.f0.f1) = true := bne_iff_ne.2 d5
        clear d5
        go_wp2
        go_ret
        exact ⟨rfl, Be.out⟩
      | true =>
       rw [if_pos rfl] at hh
       subst hh
       go_wp2
       go_ret
       exact ⟨rfl, Be.out⟩
     ·rw [if_neg d4] at hh
      subst hh
      have m4 : ((h4.length : Int) != r.f4) = true := bne_iff_ne.2 d4
      clear d4
      go_wp2
      go_ret
      exact ⟨rfl, Be.out⟩
    ·rw [if_neg d2] at hh
     have s2 : (r.f1 == 2) = false := beq_eq_false_iff_ne.2 d2
     clear d2
     by_cases d3 : r.f1 = 3
     ·rw [if_pos d3] at hh
      have s3 : (r.f1 == 3) = true := beq_iff_eq.2 d3
      clear d3
      by_cases d4 : (h4.length : Int) = r.f4
      ·rw [if_pos d4] at hh
       have m4 : ((h4.length : Int) != r.f4) = false := by rw [d4]; simp
       clear d4
       cases h3 with
       | false =>
        rw [if_pos rfl] at hh
        subst hh
        go_wp2
        go_ret
        exact ⟨rfl, Be.out⟩
       | true =>
        rw [if_neg (by decide)] at hh
        by_cases d5 : h1 = r.f0.f1
        ·rw [if_pos d5] at hh
         have m5 : (h1 != r.f0.f1) = false := by rw [d5]; simp
         clear d5
         by_cases d6 : r.f4 < r.f0.f4.f2
         ·rw [if_pos d6] at hh
          subst hh
          have m6 : decide (r.f4 < r.f0.f4.f2) = true := decide_eq_true (by first | exact d6 | omega)
          clear d6
          go_wp2
          go_ret
          exact ⟨rfl, Be.out⟩
         ·rw [if_neg d6] at hh
          have m6 : decide (r.f4 < r.f0.f4.f2) = false := decide_eq_false (by first | exact d6 | omega)
          clear d6
          by_cases d7 : r.f0.f4.f3 < r.f4
          ·rw [if_pos d7] at hh
           subst hh
           have m7 : decide (r.f4 > r.f0.f4.f3) = true := decide_eq_true (by first | exact d7 | omega)
           clear d7
           go_wp2
           go_ret
           exact ⟨rfl, Be.out⟩
          ·rw [if_neg d7] at hh
           have m7 : decide (r.f4 > r.f0.f4.f3) = false := decide_eq_false (by first | exact d7 | omega)
           clear d7
           by_cases d8 : r.f6 ≤ T.y0
           ·rw [if_pos d8] at hh
            subst hh
            have m8 : decide (r.f6 ≤ T.y0) = true := decide_eq_true (by first | exact d8 | omega)
            clear d8
            go_wp2
            go_region
            go_wp2
            go_ret
            exact ⟨rfl, Be.out⟩
           ·rw [if_neg d8] at hh
            subst hh
            have m8 : decide (r.f6 ≤ T.y0) = false := decide_eq_false (by first | exact d8 | omega)
            clear d8
            go_wp2
            go_region
            go_wp2
            go_ret
            exact ⟨rfl, Be.out⟩
        ·rw [if_neg d5] at hh
         subst hh
         have m5 : (h1 != r.f0.f1) = true := bne_iff_ne.2 d5
         clear d5
         go_wp2
         go_ret
         exact ⟨rfl, Be.out⟩
      ·rw [if_neg d4] at hh
       subst hh
       have m4 : ((h4.length : Int) != r.f4) = true := bne_iff_ne.2 d4
       clear d4
       go_wp2
       go_ret
       exact ⟨rfl, Be.out⟩
     ·rw [if_neg d3] at hh
      subst hh
      have s3 : (r.f1 == 3) = false := beq_eq_false_iff_ne.2 d3
      clear d3
      go_wp2
      go_ret
      exact ⟨rfl, Be.out⟩
end Go.Proofs.Ytpedlompipabdaa.P
namespace Go.Proofs.Ytpedlompipabdaa.P
open Go.RowKit Go.Proofs.YtpedlompipabdaaW.PrintWords Go.Proofs.YtpedlompipabdaaW.PrintLast Go.Proofs.YtpedlompipabdaaW.PrintMore
set_option linter.unusedVariables false
set_option linter.unusedSimpArgs false
attribute [local go_sem] cellBx frozBx
set_option maxHeartbeats 8000000 in
set_option maxRecDepth 100000 in
theorem name47 (k : Int) (x : S47) (w : World) : Calls Try.prog 44 #[.int .i64 k, .agg #[.int .i64 x.f0.f0, .int .i64 x.f0.f1, .int .i64 x.f0.f2, .int .i64 x.f0.f3, .int .i64 x.f0.f4.f0, .int .i64 x.f0.f4.f1, .int .i64 x.f0.f4.f2, .int .i64 x.f0.f4.f3, .int .i64 x.f1, .int .i64 x.f2, .int .i64 x.f3, .int .i64 x.f4, .int .i64 x.f5, .int .i64 x.f6, .int .i64 x.f7, .int .i64 x.f8]] w fun e w' => e = .returned (.int .i64 x.f0.f0) ∧ Below w.heap.size w w' := by
 have hu30 := Try.underlying30
 have hu47 := Try.underlying47
 have hu45 := Try.underlying45
 have hu43 := Try.underlying43
 have hu39 := Try.underlying39
 have : Be w w := ⟨Below.refl _ _⟩
 go_enter Try.func44, Try.ntmps44
 go_wp2_with (((with_reducible refine gate_dst (N := 3) rfl ?_); refine bxT 3 #[.int .i64 x.f0.f0, .int .i64 x.f0.f1, .int .i64 x.f0.f2, .int .i64 x.f0.f3, .int .i64 x.f0.f4.f0, .int .i64 x.f0.f4.f1, .int .i64 x.f0.f4.f2, .int .i64 x.f0.f4.f3, .int .i64 x.f1, .int .i64 x.f2, .int .i64 x.f3, .int .i64 x.f4, .int .i64 x.f5, .int .i64 x.f6, .int .i64 x.f7, .int .i64 x.f8] 47 ?_; intro g3 w3 _ _ _))
 go_ret
 exact ⟨rfl, Be.out⟩
set_option maxHeartbeats 8000000 in
set_option maxRecDepth 100000 in
theorem first47 (f : Nat) (lb : Array Value) (hent : ∀ args W, (callFunc f args).run Try.prog W = .ok (.enter f args) W) (r : Option Nat) (E : Nat → Int) (I : Nat → World → Prop) (A : Option Addr) (c : Nat) (l : List S47) (w : World) (hl : l.length ≤ 1000000) (hr : ∀ k, r = some k → k < w.heap.size) (hC : ∀ k W, I k W → Kd.C k47 W A l.length l) (hI : ∀ k W W', I k W → Below W.heap.size W W' → I k W') (h0 : I 0 w)
  (hs : ∀ k, k < l.length → ∀ W, I k W → Calls Try.prog f (#[.int .i64 (k : Int), .agg #[.int .i64 (rd_T47 l (k : Int)).f0.f0, .int .i64 (rd_T47 l (k : Int)).f0.f1, .int .i64 (rd_T47 l (k : Int)).f0.f2, .int .i64 (rd_T47 l (k : Int)).f0.f3, .int .i64 (rd_T47 l (k : Int)).f0.f4.f0, .int .i64 (rd_T47 l (k : Int)).f0.f4.f1, .int .i64 (rd_T47 l (k : Int)).f0.f4.f2, .int .i64 (rd_T47 l (k : Int)).f0.f4.f3, .int .i64 (rd_T47 l (k : Int)).f1, .int .i64 (rd_T47 l (k : Int)).f2, .int .i64 (rd_T47 l (k : Int)).f3, .int .i64 (rd_T47 l (k : Int)).f4, .int .i64 (rd_T47 l (k : Int)).f5, .int .i64 (rd_T47 l (k : Int)).f6, .int .i64 (rd_T47 l (k : Int)).f7, .int .i64 (rd_T47 l (k : Int)).f8]] ++ lb) W fun e W' => e = .returned (.int .i64 (E k)) ∧ W.grownBy W' r ∧ (E k = 0 → I (k + 1) W')) :
  Calls Try.prog 42 #[.slice A l.length c, .func (.func f) #[] lb, .func (.func 44) #[] #[]] w fun e w' => e = .returned (.tuple #[.int .i64 (firstL E (fun k => (rd_T47 l (k : Int)).f0.f0) 0 l.length).1, .int .i64 (firstL E (fun k => (rd_T47 l (k : Int)).f0.f0) 0 l.length).2]) ∧ w.grownBy w' r ∧ ((firstL E (fun k => (rd_T47 l (k : Int)).f0.f0) 0 l.length).1 = 0 → I l.length w') := by
 have hu30 := Try.underlying30
 have hu47 := Try.underlying47
 have hu45 := Try.underlying45
 have hu43 := Try.underlying43
 have hu39 := Try.underlying39
 obtain ⟨res, hres⟩ : ∃ res, firstL E (fun k => (rd_T47 l (k : Int)).f0.f0) 0 l.length = res := ⟨_, rfl⟩
 rw [hres]
 have HA0 := Aside0.mk (show firstL E (fun k => (rd_T47 l (k : Int)).f0.f0) 0 (l.length - 0) = res from hres)
 have HL := Aside0.mk hl
 have HR := Aside0.mk hr
 have HC := Aside0.mk hC
 have HI := Aside0.mk hI
 have H0 := Aside0.mk h0
 have HS := Aside0.mk hs
 clear hres hl hr hC hI h0 hs
 go_enter Try.func42, Try.ntmps42
 go_wp2
 go_loopw [13] (fun v13 wr => ∃ i : Nat, i ≤ l.length ∧ v13 = .int .i64 (i : Int) ∧ Aside0 (firstL E (fun k => (rd_T47 l (k : Int)).f0.f0) i (l.length - i) = res) ∧ Aside0 (I i wr) ∧ Aside0 (w.grownBy wr r)) (fun v13 _ => l.length - (intOf v13).toNat)
 case atStart => exact ⟨0, Nat.zero_le _, rfl, HA0, H0, ⟨grown_refl _ _⟩⟩
 case round =>
  clear HA0 H0
  obtain ⟨i, hi, rfl, HA, HJ, HG⟩ := hrel
  by_cases hlt : i < l.length
  ·have hib : (i : Int) ≤ 1000000 := by have := HL.out; omega
   have hlt' : (i : Int) < l.length := by omega
   have h0i : 0 ≤ (i : Int) := by omega
   obtain ⟨ad, ee, y0, y1, y2, y3, y4, y5, y6, y7, y8, y9, y10, y11, y12, y13, y14, y15⟩ := at_T47 (HC.out _ _ HJ.out) (i : Int) (by omega) (by omega)
   subst ee
   simp only [Int.toNat_natCast] at y0 y1 y2 y3 y4 y5 y6 y7 y8 y9 y10 y11 y12 y13 y14 y15
   have ha := HA.out
   rw [show l.length - i = (l.length - (i + 1)) + 1 by omega, firstL] at ha
   have HA2 := Aside0.mk ha
   have HLT := Aside0.mk hlt
   clear HA ha hlt
   obtain ⟨x, hx⟩ : ∃ x, rd_T47 l (i : Int) = x := ⟨_, rfl⟩
   rw [hx] at y0 y1 y2 y3 y4 y5 y6 y7 y8 y9 y10 y11 y12 y13 y14 y15
   have HX := Aside0.mk hx
   clear hx
   go_upto_region 4 with (fail)
   obtain ⟨g9, w9, _, _, _, e1, e2⟩ := nameA wr #[.int .i64 x.f0.f0, .int .i64 x.f0.f1, .int .i64 x.f0.f2, .int .i64 x.f0.f3, .int .i64 x.f0.f4.f0, .int .i64 x.f0.f4.f1, .int .i64 x.f0.f4.f2, .int .i64 x.f0.f4.f3, .int .i64 x.f1, .int .i64 x.f2, .int .i64 x.f3, .int .i64 x.f4, .int .i64 x.f5, .int .i64 x.f6, .int .i64 x.f7, .int .i64 x.f8] 47
   rw [e1, e2]
   clear e1 e2 y0 y1 y2 y3 y4 y5 y6 y7 y8 y9 y10 y11 y12 y13 y14 y15
   have HJ9 := Aside0.mk (HI.out _ _ w9 HJ.out Bl.out)
   have HG9 := Aside0.mk (grown_below (W' := w9) HG.out Bl.out)
   have hn9 : some g9 ≠ r := fun e => by have h1 := HR.out _ e.symm; have h2 := HG.out.size; have h3 := (‹Fr wr g9›).out; omega
   have HN9 := Aside0.mk hn9
   clear HJ HG hn9
   go_wp2_with (fail)
   have hcall := HS.out i HLT.out w9 HJ9.out
   rw [HX.out] at hcall
   refine hcall.mono ?_
   clear hcall
   rintro e W' ⟨rfl, hg, hj⟩
   have : Bx W' g9 #[.int .i64 x.f0.f0, .int .i64 x.f0.f1, .int .i64 x.f0.f2, .int .i64 x.f0.f3, .int .i64 x.f0.f4.f0, .int .i64 x.f0.f4.f1, .int .i64 x.f0.f4.f2, .int .i64 x.f0.f4.f3, .int .i64 x.f1, .int .i64 x.f2, .int .i64 x.f3, .int .i64 x.f4, .int .i64 x.f5, .int .i64 x.f6, .int .i64 x.f7, .int .i64 x.f8] 47 := ⟨(hg.block g9 (blk_lt Bx.out) HN9.out).trans Bx.out⟩
   have HGW := Aside0.mk (grown_trans HG9.out hg)
   have HJW := Aside0.mk hj
   clear hg hj HJ9 HG9
   have ha := HA2.out
   clear HA2
   by_cases h0 : E i = 0
   ·rw [if_pos h0] at ha
    have HA3 := Aside0.mk ha
    have HJ2 := Aside0.mk (HJW.out h0)
    have t : (E i != 0) = false := by rw [h0]; rfl
    clear ha h0 HJW
    go_wp2
    go_roundw
    case rel => exact ⟨i + 1, HLT.out, by go_num, HA3, HJ2, HGW⟩
    case measure => have := HLT.out; simp [intOf]; omega
   ·rw [if_neg h0] at ha
    have t : (E i != 0) = true := bne_iff_ne.2 h0
    have HE := Aside0.mk h0
    have HA3 := Aside0.mk ha
    clear ha h0 HJW
    go_wp2_with (go_at_call 44; refine (name47 _ x _).mono ?_; rintro e W2 ⟨rfl, hb⟩; have HB2 := Aside0.mk hb; clear hb)
    go_ret2
    rw [← HA3.out]
    rw [HX.out]
    exact ⟨rfl, grown_below HGW.out HB2.out, fun e => absurd e HE.out⟩
  ·obtain rfl : i = l.length := by omega
   have ha := HA.out
   rw [Nat.sub_self, firstL] at ha
   have HA3 := Aside0.mk ha
   clear ha HA
   go_wp2
   go_ret2
   rw [← HA3.out]
   exact ⟨rfl, HG.out, fun _ => HJ.out⟩
end Go.Proofs.Ytpedlompipabdaa.P
namespace Go.Proofs.Ytpedlompipabdaa.P
open Go.RowKit Go.Proofs.YtpedlompipabdaaW.PrintWords Go.Proofs.YtpedlompipabdaaW.PrintLast Go.Proofs.YtpedlompipabdaaW.PrintMore
set_option linter.unusedVariables false
set_option linter.unusedSimpArgs false
attribute [local go_sem] cellBx frozBx Sit.c0 Sit.c1 Sit.c2 Sit.c3 Sit.c4 Sit.c5 Sit.c6 Sit.c7 Sit.c8 Sit.c9 Sit.c10 Sit.c12 Sit.c13 Sit.c14 Sit.c15
attribute [local go_sem] Oper.semAt_some
open Go.Proofs.Ytpedlompipabdaa.Mp
def lastH (n : Int) : List S62 → Option S62 → Option S62
 | [], o => o
 | h :: r, o => lastH n r (if h.f0 = n then some h else o)
def gangsR (T : Sit) : Int × Int := firstL (fun k => gangE T (lastH (rd_T47 T.lG (k : Int)).f0.f0 T.lH none) (rd_T47 T.lG (k : Int))) (fun k => (rd_T47 T.lG (k : Int)).f0.f0) 0 T.lG.length
set_option maxHeartbeats 8000000 in
set_option maxRecDepth 100000 in
theorem gangs_calls (T : Sit) (g : Nat) (w : World) (ha : Au w g T) (hn : T.lH.length ≤ 1000000) (hq : T.lG.length ≤ 1000000) (hi : ∀ h ∈ T.lH, (Lit.int .i64 h.f0).wf = true) (hj : ∀ r ∈ T.lG, (Lit.int .i64 r.f0.f0).wf = true) :
  Calls Try.prog 23 #[.pointer (some ⟨g, 0, none⟩)] w fun e w' => e = .returned (.tuple #[.int .i64 (gangsR T).1, .int .i64 (gangsR T).2]) ∧ Below w.heap.size w w' := by
 have hu62 := Try.underlying62
 have hu76 := Try.underlying76
 have hu78 := Try.underlying78
 have hu27 := Try.underlying27
 have hu35 := Try.underlying35
 have hu47 := Try.underlying47
 have hu45 := Try.underlying45
 have hu43 := Try.underlying43
 have hu119 := Try.underlying119
 have hu60 := Try.underlying60
 have hu31 := Try.underlying31
 have hu30 := Try.underlying30
 have hu39 := Try.underlying39
 have hu4 := Try.underlying4
 have hu3 := Try.underlying3
 have hmm := @run_makeMap Try.prog
 have : Be w w := ⟨Below.refl _ _⟩
 have HN := Aside0.mk hn
 have HQ := Aside0.mk hq
 have HI := Aside0.mk hi
 have HJ := Aside0.mk hj
 clear hn hq hi hj
 obtain ⟨⟨E, N⟩, hR⟩ : ∃ R, gangsR T = R := ⟨_, rfl⟩
 rw [hR]
 unfold gangsR at hR
 have H := Aside0.mk hR
 clear hR
 go_enter Try.func23, Try.ntmps23
 go_upto_region 1 with (first | ((with_reducible refine gate_dst (N := 1) rfl ?_); refine bxT 1 #[.pointer (some ⟨g, 0, none⟩)] 76 ?_; intro p w1 _ _ _))
 go_upto_region 2 with (fail)
 have hM0 := MapW.made w1
 have hBm : Below w1.heap.size w1 (w1.alloc (.map #[] 0)) := below_alloc (Below.refl _ _) _
 have esz : w1.heap.size + 1 = (w1.alloc (.map #[] 0)).heap.size := by simp
 rw [esz]
 clear esz
 obtain ⟨wm, hwm⟩ : ∃ wm, w1.alloc (.map #[] 0) = wm := ⟨_, rfl⟩
 rw [hwm] at hM0 hBm ⊢
 clear hwm
 have hpb : p < w1.heap.size := blk_lt (Bx.out (W := w1) (g := p))
 have hwb : w.heap.size ≤ w1.heap.size := (Be.out (W := w1)).size
 have := Bl.mk hBm
 obtain ⟨b, hb⟩ : ∃ b, w1.heap.size = b := ⟨_, rfl⟩
 rw [hb] at hM0 hpb hwb ⊢
 clear hb hBm
 obtain ⟨mp, w4, _, _, _, e1, e2⟩ := nameA wm #[.map (some b)] 119
 rw [e1, e2]
 clear e1 e2
 have hmb : b < mp := by have := hM0.lt; rw [(inferInstance : Fr wm mp).out]; exact this
 have HM0 := Aside0.mk (hM0.below (Bl.out (W' := w4)))
 clear hM0
 go_upto_region 3 with (fail)
 go_loopw [14] (fun v14 wr => ∃ (i : Nat) (f : Int → Option Value) (acc : Int → Option S62), i ≤ T.lH.length ∧ v14 = .int .i64 (i : Int) ∧ Aside0 (∀ n, lastH n (T.lH.drop i) (acc n) = lastH n T.lH none) ∧ Aside0 (MapW wr b f) ∧ Aside0 (∀ n, HoldV w (acc n) (f n)) ∧ Bx wr p #[.pointer (some ⟨g, 0, none⟩)] 76 ∧ Bx wr mp #[.map (some b)] 119 ∧ Be w wr) (fun v14 _ => T.lH.length - (intOf v14).toNat)
 case atStart => exact ⟨0, _, fun _ => none, Nat.zero_le _, rfl, ⟨fun n => rfl⟩, HM0, ⟨fun n => rfl⟩, inferInstance, inferInstance, inferInstance⟩
 case round =>
  clear HM0
  obtain ⟨i, f, acc, hi, rfl, HA, HM, HV, bp, bm, be⟩ := hrel
  have : Bl w wr := ⟨be.out⟩
  by_cases hlt : i < T.lH.length
  ·have hib : (i : Int) ≤ 1000000 := by have := HN.out; omega
   have hlt' : (i : Int) < T.lH.length := by omega
   have h0i : 0 ≤ (i : Int) := by omega
   obtain ⟨ad, A4, c4, ee, y0, y1, y2, y3, y4, l4, g4⟩ := at_T62 ha.ok.H (i : Int) h0i hlt'
   simp only [Int.toNat_natCast] at y0 y1 y2 y3 y4
   have hx : rd_T62 T.lH (i : Int) = T.lH[i] := by simp [rd_T62, List.getD_eq_getElem?_getD, List.getElem?_eq_getElem hlt]
   replace y0 := pw_cell_below be.out y0
   replace y1 := pw_cell_below be.out y1
   replace y2 := pw_cell_below be.out y2
   replace y3 := pw_cell_below be.out y3
   replace y4 := pw_cell_below be.out y4
   have hM := HI.out _ (List.getElem_mem hlt)
   have hh := fun n => HA.out n
   rw [List.drop_eq_getElem_cons hlt] at hh
   simp only [lastH] at hh
   rw [hx] at y0 y1 y2 y3 y4 l4 g4
   generalize T.lH[i] = h at *
   have HLT := Aside0.mk hlt
   have HM1 := Aside0.mk hM
   have G4 := Aside0.mk g4
   have L4 := Aside0.mk l4
   have e13 := Aside0.mk ee
   rw [ee]
   clear HA hlt hM l4 g4 ee hx
   have HA := Aside0.mk hh
   clear hh
   go_upto_region 5 with (fail)
   obtain ⟨g6, w6, _, _, _, e1, e2⟩ := nameA wr #[.int .i64 h.f0, .int .i64 h.f1, .int .i64 h.f2, .bool h.f3, .slice A4 h.f4.length c4] 62
   rw [e1, e2]
   clear e1 e2
   clear y0 y1 y2 y3 y4
   have HM6 := Aside0.mk (HM.out.below (Bl.out (W' := w6)))
   clear HM
   go_wp2_with (at_mapUpdate; refine wp_update_V rfl _ _ _ 119 rfl Try.underlying119 Try.underlying3 rfl HM6.out _ _ rfl rfl HM1.out ?_; intro w7 hm7 hg7)
   have b7 : Bx w7 p #[.pointer (some ⟨g, 0, none⟩)] 76 := ⟨(hg7.block p (blk_lt Bx.out) (by simp; omega)).trans (Bx.out (W := w6))⟩
   have m7 : Bx w7 mp #[.map (some b)] 119 := ⟨(hg7.block mp (blk_lt Bx.out) (by simp; omega)).trans (Bx.out (W := w6))⟩
   have be7 : Be w w7 := ⟨below_grown (Be.out (W := w6)) hg7 hwb⟩
   go_roundw
   case rel => exact ⟨i + 1, _, fun n => if h.f0 = n then some h else acc n, HLT.out, by go_num, HA, ⟨hm7⟩, ⟨fun n => by
      unfold updV
      by_cases hn : h.f0 = n
      ·subst hn; rw [if_pos rfl]; show HoldV w (if h.f0 = h.f0 then some h else acc h.f0) _; rw [if_pos rfl]; exact ⟨A4, c4, rfl, G4.out, L4.out⟩
      ·rw [if_neg (fun e => hn e.symm)]; show HoldV w (if h.f0 = n then some h else acc n) _; rw [if_neg hn]; exact HV.out n⟩, b7, m7, be7⟩
   case measure => have := HLT.out; simp [intOf]; omega
  ·obtain rfl : i = T.lH.length := by omega
   have hacc : ∀ n, acc n = lastH n T.lH none := fun n => by have := HA.out n; rw [List.drop_length] at this; exact this
   have HV2 := Aside0.mk (fun n => hacc n ▸ HV.out n)
   clear HA HV hacc
   have hh := H.out
   clear H
   have HC := Aside0.mk (first47 43 #[.pointer (some ⟨mp, 0, none⟩), .pointer (some ⟨p, 0, none⟩)] (fun args W => by kernel_rfl) none (fun k => gangE T (lastH (rd_T47 T.lG (k : Int)).f0.f0 T.lH none) (rd_T47 T.lG (k : Int))) (fun k W => Be w W ∧ Bx W p #[.pointer (some ⟨g, 0, none⟩)] 76 ∧ Bx W mp #[.map (some b)] 119 ∧ MapV W b f) T.AG T.cG T.lG wr HQ.out (fun k e => by cases e) (fun k W h => (ha.ok.step h.1.out).G) (fun k W W' h hb => by
     obtain ⟨be, b1, b2, b3⟩ := h
     have := Bl.mk hb
     exact ⟨inferInstance, inferInstance, inferInstance, b3.below hb⟩) ⟨inferInstance, inferInstance, inferInstance, HM.out.v⟩ (fun k hk W h => by
     obtain ⟨be, b1, b2, b3⟩ := h
     have hau : Au W g T := ⟨blk_below ha.box be.out, ha.ok.step be.out⟩
     have hr : rd_T47 T.lG (k : Int) ∈ T.lG := by rw [show rd_T47 T.lG (k : Int) = T.lG[k] by simp [rd_T47, List.getD_eq_getElem?_getD, List.getElem?_eq_getElem hk]]; exact List.getElem_mem hk
     refine (gangs1 T g p mp b f _ _ _ W hau b1 b2 b3 ((HV2.out _).step be.out) (HJ.out _ hr)).mono ?_
     rintro e W' ⟨rfl, hb⟩
     have := Bl.mk hb
     exact ⟨rfl, grown_ofb _ hb, fun _ => ⟨inferInstance, inferInstance, inferInstance, b3.below hb⟩⟩))
   rw [hh] at HC
   clear hh HV2 HM
   go_wp2_with (go_at_call 42; refine HC.out.mono ?_; rintro e w5 ⟨rfl, hg5, _⟩; have := Bl.mk (grown_below0 hg5); clear hg5)
   go_ret2
   exact ⟨rfl, Be.out⟩
end Go.Proofs.Ytpedlompipabdaa.P
namespace Go.Proofs.Ytpedlompipabdaa.P
open Go.RowKit Go.Proofs.YtpedlompipabdaaW.PrintWords Go.Proofs.YtpedlompipabdaaW.PrintLast Go.Proofs.YtpedlompipabdaaW.PrintMore
set_option linter.unusedVariables false
set_option linter.unusedSimpArgs false
attribute [local go_sem] cellBx frozBx Sit.c0 Sit.c1 Sit.c2 Sit.c3 Sit.c4 Sit.c5 Sit.c6 Sit.c7 Sit.c8 Sit.c9 Sit.c10 Sit.c12 Sit.c13 Sit.c14 Sit.c15
attribute [local go_sem] Oper.semAt_some
def findI (id : Int) : List S47 → Int → Int
 | [], _ => -1
 | r :: l, i => if r.f0.f0 = id then i else findI id l (i + 1)
def findG (id : Int) : List S47 → Option S47
 | [] => none
 | r :: l => if r.f0.f0 = id then some r else findG id l
theorem findI_spec (id : Int) : ∀ (l : List S47) (i : Int), (findI id l i = -1 ∧ findG id l = none) ∨ ∃ k : Nat, k < l.length ∧ findI id l i = i + k ∧ findG id l = some (rd_T47 l (k : Int))
 | [], i => .inl ⟨rfl, rfl⟩
 | r :: l, i => by
  by_cases h : r.f0.f0 = id
  ·exact .inr ⟨0, by simp, by rw [findI, if_pos h]; simp, by rw [findG, if_pos h]; rfl⟩
  ·rcases findI_spec id l (i + 1) with ⟨h1, h2⟩ | ⟨k, h1, h2, h3⟩
   ·exact .inl ⟨by rw [findI, if_neg h, h1], by rw [findG, if_neg h, h2]⟩
   ·refine .inr ⟨k + 1, by simp; omega, by rw [findI, if_neg h, h2]; omega, ?_⟩
    rw [findG, if_neg h, h3]
    have e : ((k + 1 : Nat) : Int).toNat = k + 1 := by omega
    simp [rd_T47, e]
set_option maxHeartbeats 8000000 in
set_option maxRecDepth 100000 in
theorem find1 (r : S47) (q : Nat) (id : Int) (w : World) (hq : Bx w q #[.int .i64 id] 3) : Calls Try.prog 59 (#[.agg #[.int .i64 r.f0.f0, .int .i64 r.f0.f1, .int .i64 r.f0.f2, .int .i64 r.f0.f3, .int .i64 r.f0.f4.f0, .int .i64 r.f0.f4.f1, .int .i64 r.f0.f4.f2, .int .i64 r.f0.f4.f3, .int .i64 r.f1, .int .i64 r.f2, .int .i64 r.f3, .int .i64 r.f4, .int .i64 r.f5, .int .i64 r.f6, .int .i64 r.f7, .int .i64 r.f8]] ++ #[.pointer (some ⟨q, 0, none⟩)]) w fun e w' => e = .returned (.bool (r.f0.f0 == id)) ∧ Below w.heap.size w w' := by
 have hu47 := Try.underlying47
 have hu45 := Try.underlying45
 have hu43 := Try.underlying43
 have hu3 := Try.underlying3
 have : Be w w := ⟨Below.refl _ _⟩
 show Calls Try.prog 59 #[.agg #[.int .i64 r.f0.f0, .int .i64 r.f0.f1, .int .i64 r.f0.f2, .int .i64 r.f0.f3, .int .i64 r.f0.f4.f0, .int .i64 r.f0.f4.f1, .int .i64 r.f0.f4.f2, .int .i64 r.f0.f4.f3, .int .i64 r.f1, .int .i64 r.f2, .int .i64 r.f3, .int .i64 r.f4, .int .i64 r.f5, .int .i64 r.f6, .int .i64 r.f7, .int .i64 r.f8], .pointer (some ⟨q, 0, none⟩)] w _
 go_enter Try.func59, Try.ntmps59
 go_wp2_with (((with_reducible refine gate_dst (N := 2) rfl ?_); refine bxT 2 #[.int .i64 r.f0.f0, .int .i64 r.f0.f1, .int .i64 r.f0.f2, .int .i64 r.f0.f3, .int .i64 r.f0.f4.f0, .int .i64 r.f0.f4.f1, .int .i64 r.f0.f4.f2, .int .i64 r.f0.f4.f3, .int .i64 r.f1, .int .i64 r.f2, .int .i64 r.f3, .int .i64 r.f4, .int .i64 r.f5, .int .i64 r.f6, .int .i64 r.f7, .int .i64 r.f8] 47 ?_; intro g2 w2 _ _ _))
 go_ret
 exact ⟨rfl, Be.out⟩
set_option maxHeartbeats 8000000 in
set_option maxRecDepth 100000 in
theorem indexF (A : Option Addr) (c : Nat) (l : List S47) (q : Nat) (id : Int) (w : World) (hr : Kd.C k47 w A l.length l) (hl : l.length ≤ 1000000) (hq : Bx w q #[.int .i64 id] 3) : Calls Try.prog 58 #[.slice A l.length c, .func (.func 59) #[] #[.pointer (some ⟨q, 0, none⟩)]] w fun e w' => e = .returned (.int .i64 (findI id l 0)) ∧ Below w.heap.size w w' := by
 have hu30 := Try.underlying30
 have hu47 := Try.underlying47
 have hu45 := Try.underlying45
 have hu43 := Try.underlying43
 have hu3 := Try.underlying3
 have : Be w w := ⟨Below.refl _ _⟩
 have HR := Aside0.mk hr
 have HL := Aside0.mk hl
 clear hr hl
 obtain ⟨R, hR⟩ : ∃ R, findI id l 0 = R := ⟨_, rfl⟩
 rw [hR]
 have HA0 := Aside0.mk (show findI id (l.drop 0) ((0 : Nat) : Int) = R from hR)
 clear hR
 go_enter Try.func58, Try.ntmps58
 go_upto_region 2 with (fail)
 go_loopw [8] (fun v8 wr => ∃ i : Nat, i ≤ l.length ∧ v8 = .int .i64 (i : Int) ∧ Aside0 (findI id (l.drop i) (i : Int) = R) ∧ Bx wr q #[.int .i64 id] 3 ∧ Be w wr) (fun v8 _ => l.length - (intOf v8).toNat)
 case atStart => exact ⟨0, Nat.zero_le _, rfl, HA0, inferInstance, inferInstance⟩
 case round =>
  clear HA0
  obtain ⟨i, hi, rfl, HA, bq, be⟩ := hrel
  by_cases hlt : i < l.length
  ·have hib : (i : Int) ≤ 1000000 := by have := HL.out; omega
   have hlt' : (i : Int) < l.length := by omega
   have h0i : 0 ≤ (i : Int) := by omega
   obtain ⟨ad, ee, y0, y1, y2, y3, y4, y5, y6, y7, y8, y9, y10, y11, y12, y13, y14, y15⟩ := at_T47 (Kd.C_below HR.out be.out) (i : Int) h0i hlt'
   subst ee
   simp only [Int.toNat_natCast] at y0 y1 y2 y3 y4 y5 y6 y7 y8 y9 y10 y11 y12 y13 y14 y15
   have hx : rd_T47 l (i : Int) = l[i] := by simp [rd_T47, List.getD_eq_getElem?_getD, List.getElem?_eq_getElem hlt]
   have hh := HA.out
   rw [List.drop_eq_getElem_cons hlt, findI] at hh
   rw [hx] at y0 y1 y2 y3 y4 y5 y6 y7 y8 y9 y10 y11 y12 y13 y14 y15
   generalize l[i] = r at *
   have HLT := Aside0.mk hlt
   clear HA hlt hx
   by_cases d1 : r.f0.f0 = id
   ·rw [if_pos d1] at hh
    subst hh
    have q1 : (r.f0.f0 == id) = true := beq_iff_eq.2 d1
    clear d1
    go_wp2_with (go_at_call 59; refine (find1 r q id _ inferInstance).mono ?_; rintro e w5 ⟨rfl, hb⟩; have := Bl.mk hb; clear hb)
    go_ret
    exact ⟨rfl, Be.out⟩
   ·rw [if_neg d1] at hh
    have q1 : (r.f0.f0 == id) = false := beq_eq_false_iff_ne.2 d1
    clear d1
    have HA2 := Aside0.mk (show findI id (l.drop (i + 1)) ((i + 1 : Nat) : Int) = R by rw [show ((i + 1 : Nat) : Int) = (i : Int) + 1 by omega]; exact hh)
    clear hh
    go_wp2_with (go_at_call 59; refine (find1 r q id _ inferInstance).mono ?_; rintro e w5 ⟨rfl, hb⟩; have := Bl.mk hb; clear hb)
    go_roundw
    case rel => exact ⟨i + 1, HLT.out, by go_num, HA2, inferInstance, inferInstance⟩
    case measure => have := HLT.out; simp [intOf]; omega
  ·obtain rfl : i = l.length := by omega
   have hh := HA.out
   rw [List.drop_length, findI] at hh
   subst hh
   clear HA
   go_wp2
   go_ret
   exact ⟨rfl, Be.out⟩
section
variable {W w : World} {g : Nat} {t : TypeId} {a0 a1 a2 a3 a4 a5 a6 a7 a8 a9 a10 a11 a12 a13 a14 a15 v0 v1 v2 v3 v4 v5 v6 v7 v8 v9 v10 v11 v12 v13 v14 v15 : Value}
theorem store16 [h : Bx W g #[a0, a1, a2, a3, a4, a5, a6, a7, a8, a9, a10, a11, a12, a13, a14, a15] t] : Bx ((((((((((((((((W.setCell ⟨g, 0, none⟩ v0).setCell ⟨g, 1, none⟩ v1).setCell ⟨g, 2, none⟩ v2).setCell ⟨g, 3, none⟩ v3).setCell ⟨g, 4, none⟩ v4).setCell ⟨g, 5, none⟩ v5).setCell ⟨g, 6, none⟩ v6).setCell ⟨g, 7, none⟩ v7).setCell ⟨g, 8, none⟩ v8).setCell ⟨g, 9, none⟩ v9).setCell ⟨g, 10, none⟩ v10).setCell ⟨g, 11, none⟩ v11).setCell ⟨g, 12, none⟩ v12).setCell ⟨g, 13, none⟩ v13).setCell ⟨g, 14, none⟩ v14).setCell ⟨g, 15, none⟩ v15) g #[v0, v1, v2, v3, v4, v5, v6, v7, v8, v9, v10, v11, v12, v13, v14, v15] t :=
 have h : Bx _ g #[v0, a1, a2, a3, a4, a5, a6, a7, a8, a9, a10, a11, a12, a13, a14, a15] t := bxSetS (h := h) (i := 0) (v := v0)
 have h : Bx _ g #[v0, v1, a2, a3, a4, a5, a6, a7, a8, a9, a10, a11, a12, a13, a14, a15] t := bxSetS (h := h) (i := 1) (v := v1)
 have h : Bx _ g #[v0, v1, v2, a3, a4, a5, a6, a7, a8, a9, a10, a11, a12, a13, a14, a15] t := bxSetS (h := h) (i := 2) (v := v2)
 have h : Bx _ g #[v0, v1, v2, v3, a4, a5, a6, a7, a8, a9, a10, a11, a12, a13, a14, a15] t := bxSetS (h := h) (i := 3) (v := v3)
 have h : Bx _ g #[v0, v1, v2, v3, v4, a5, a6, a7, a8, a9, a10, a11, a12, a13, a14, a15] t := bxSetS (h := h) (i := 4) (v := v4)
 have h : Bx _ g #[v0, v1, v2, v3, v4, v5, a6, a7, a8, a9, a10, a11, a12, a13, a14, a15] t := bxSetS (h := h) (i := 5) (v := v5)
 have h : Bx _ g #[v0, v1, v2, v3, v4, v5, v6, a7, a8, a9, a10, a11, a12, a13, a14, a15] t := bxSetS (h := h) (i := 6) (v := v6)
 have h : Bx _ g #[v0, v1, v2, v3, v4, v5, v6, v7, a8, a9, a10, a11, a12, a13, a14, a15] t := bxSetS (h := h) (i := 7) (v := v7)
 have h : Bx _ g #[v0, v1, v2, v3, v4, v5, v6, v7, v8, a9, a10, a11, a12, a13, a14, a15] t := bxSetS (h := h) (i := 8) (v := v8)
 have h : Bx _ g #[v0, v1, v2, v3, v4, v5, v6, v7, v8, v9, a10, a11, a12, a13, a14, a15] t := bxSetS (h := h) (i := 9) (v := v9)
 have h : Bx _ g #[v0, v1, v2, v3, v4, v5, v6, v7, v8, v9, v10, a11, a12, a13, a14, a15] t := bxSetS (h := h) (i := 10) (v := v10)
 have h : Bx _ g #[v0, v1, v2, v3, v4, v5, v6, v7, v8, v9, v10, v11, a12, a13, a14, a15] t := bxSetS (h := h) (i := 11) (v := v11)
 have h : Bx _ g #[v0, v1, v2, v3, v4, v5, v6, v7, v8, v9, v10, v11, v12, a13, a14, a15] t := bxSetS (h := h) (i := 12) (v := v12)
 have h : Bx _ g #[v0, v1, v2, v3, v4, v5, v6, v7, v8, v9, v10, v11, v12, v13, a14, a15] t := bxSetS (h := h) (i := 13) (v := v13)
 have h : Bx _ g #[v0, v1, v2, v3, v4, v5, v6, v7, v8, v9, v10, v11, v12, v13, v14, a15] t := bxSetS (h := h) (i := 14) (v := v14)
 bxSetS (h := h) (i := 15) (v := v15)
theorem store16b [e : Ge w g] [b : Be w W] : Be w ((((((((((((((((W.setCell ⟨g, 0, none⟩ v0).setCell ⟨g, 1, none⟩ v1).setCell ⟨g, 2, none⟩ v2).setCell ⟨g, 3, none⟩ v3).setCell ⟨g, 4, none⟩ v4).setCell ⟨g, 5, none⟩ v5).setCell ⟨g, 6, none⟩ v6).setCell ⟨g, 7, none⟩ v7).setCell ⟨g, 8, none⟩ v8).setCell ⟨g, 9, none⟩ v9).setCell ⟨g, 10, none⟩ v10).setCell ⟨g, 11, none⟩ v11).setCell ⟨g, 12, none⟩ v12).setCell ⟨g, 13, none⟩ v13).setCell ⟨g, 14, none⟩ v14).setCell ⟨g, 15, none⟩ v15) := inferInstance
end
set_option maxHeartbeats 8000000 in
set_option maxRecDepth 100000 in
theorem find_calls (T : Sit) (g : Nat) (id : Int) (w : World) (ha : Au w g T) (hl : T.lG.length ≤ 1000000) : Calls Try.prog 46 #[.pointer (some ⟨g, 0, none⟩), .int .i64 id] w fun e w' => e = .returned (.tuple #[.agg #[.int .i64 ((findG id T.lG).getD z47).f0.f0, .int .i64 ((findG id T.lG).getD z47).f0.f1, .int .i64 ((findG id T.lG).getD z47).f0.f2, .int .i64 ((findG id T.lG).getD z47).f0.f3, .int .i64 ((findG id T.lG).getD z47).f0.f4.f0, .int .i64 ((findG id T.lG).getD z47).f0.f4.f1, .int .i64 ((findG id T.lG).getD z47).f0.f4.f2, .int .i64 ((findG id T.lG).getD z47).f0.f4.f3, .int .i64 ((findG id T.lG).getD z47).f1, .int .i64 ((findG id T.lG).getD z47).f2, .int .i64 ((findG id T.lG).getD z47).f3, .int .i64 ((findG id T.lG).getD z47).f4, .int .i64 ((findG id T.lG).getD z47).f5, .int .i64 ((findG id T.lG).getD z47).f6, .int .i64 ((findG id T.lG).getD z47).f7, .int .i64 ((findG id T.lG).getD z47).f8], .bool (findG id T.lG).isSome]) ∧ Below w.heap.size w w' := by
 have hu76 := Try.underlying76
 have hu78 := Try.underlying78
 have hu35 := Try.underlying35
 have hu30 := Try.underlying30
 have hu47 := Try.underlying47
 have hu45 := Try.underlying45
 have hu43 := Try.underlying43
 have hu3 := Try.underlying3
 have : Be w w := ⟨Below.refl _ _⟩
 have HL := Aside0.mk hl
 clear hl
 have hI := findI_spec id T.lG 0
 obtain ⟨I, hi⟩ : ∃ I, findI id T.lG 0 = I := ⟨_, rfl⟩
 rw [hi] at hI
 have HI := Aside0.mk hi
 have HO := Aside0.mk hI
 clear hi hI
 go_enter Try.func46, Try.ntmps46
 go_upto_region 1 with (first | ((with_reducible refine gate_dst (N := 3) rfl ?_); refine bxT 3 #[.int .i64 id] 3 ?_; intro g3 w3 _ _ _))
 obtain ⟨g4, w4, _, _, _, e1, e2⟩ := nameA w3 #[.int .i64 0, .int .i64 0, .int .i64 0, .int .i64 0, .int .i64 0, .int .i64 0, .int .i64 0, .int .i64 0, .int .i64 0, .int .i64 0, .int .i64 0, .int .i64 0, .int .i64 0, .int .i64 0, .int .i64 0, .int .i64 0] 47
 rw [e1, e2]
 clear e1 e2
 go_upto_region 2 with (go_at_call 58; refine (indexF _ _ T.lG g3 id _ (ha.ok.step Be.out).G HL.out inferInstance).mono ?_; rintro e w5 ⟨rfl, hb⟩; have := Bl.mk hb; clear hb)
 rw [HI.out]
 clear HI
 rcases HO.out with ⟨h1, h2⟩ | ⟨k, h1, h2, h3⟩
 ·subst h1
  have H2 := Aside0.mk h2
  clear h2 HO
  go_wp2
  generalize hz : World.setCell _ _ _ = wz
  have hb : Bx wz g4 #[.int .i64 0, .int .i64 0, .int .i64 0, .int .i64 0, .int .i64 0, .int .i64 0, .int .i64 0, .int .i64 0, .int .i64 0, .int .i64 0, .int .i64 0, .int .i64 0, .int .i64 0, .int .i64 0, .int .i64 0, .int .i64 0] 47 := by rw [← hz]; exact store16
  have : Be w wz := by rw [← hz]; exact store16b
  clear hz
  refine bodyPost_ret (results_ct rfl _ _ g4 47 _ (0, 0) _ rfl Bx.out Try.underlying47 rfl (by kernel_rfl)) rfl ?_
  rw [H2.out]
  exact ⟨rfl, Be.out⟩
 ·have e1 : I = (k : Int) := by omega
  subst e1
  have H3 := Aside0.mk h3
  have hkl : (k : Int) < T.lG.length := by omega
  have h0k : 0 ≤ (k : Int) := by omega
  clear h3 h2 HO
  have q1 : decide ((k : Int) < 0) = false := decide_eq_false (by omega)
  obtain ⟨ad, ee, y0, y1, y2, y3, y4, y5, y6, y7, y8, y9, y10, y11, y12, y13, y14, y15⟩ := at_T47 (ha.ok.step (Be.out (W := w5))).G (k : Int) h0k hkl
  simp only [Int.toNat_natCast] at y0 y1 y2 y3 y4 y5 y6 y7 y8 y9 y10 y11 y12 y13 y14 y15
  have ce : T.cells[12]? = some (.slice (some ad) T.lG.length T.cG) := by rw [Sit.c12, ee]
  generalize rd_T47 T.lG (k : Int) = r at *
  clear ee h1
  go_wp2
  generalize hz : World.setCell _ _ _ = wz
  have hb : Bx wz g4 #[.int .i64 r.f0.f0, .int .i64 r.f0.f1, .int .i64 r.f0.f2, .int .i64 r.f0.f3, .int .i64 r.f0.f4.f0, .int .i64 r.f0.f4.f1, .int .i64 r.f0.f4.f2, .int .i64 r.f0.f4.f3, .int .i64 r.f1, .int .i64 r.f2, .int .i64 r.f3, .int .i64 r.f4, .int .i64 r.f5, .int .i64 r.f6, .int .i64 r.f7, .int .i64 r.f8] 47 := by rw [← hz]; exact store16
  have : Be w wz := by rw [← hz]; exact store16b
  clear hz
  refine bodyPost_ret (results_ct rfl _ _ g4 47 _ (0, 0) _ rfl Bx.out Try.underlying47 rfl (by kernel_rfl)) rfl ?_
  rw [H3.out]
  exact ⟨rfl, Be.out⟩
end Go.Proofs.Ytpedlompipabdaa.P
namespace Go.Proofs.Ytpedlompipabdaa.P
open Go.RowKit Go.Proofs.YtpedlompipabdaaW.PrintWords Go.Proofs.YtpedlompipabdaaW.PrintLast Go.Proofs.YtpedlompipabdaaW.PrintMore
set_option linter.unusedVariables false
set_option linter.unusedSimpArgs false
attribute [local go_sem] cellBx frozBx
set_option maxHeartbeats 8000000 in
set_option maxRecDepth 100000 in
theorem name3 (k : Int) (x : Int) (w : World) : Calls Try.prog 49 #[.int .i64 k, .int .i64 x] w fun e w' => e = .returned (.int .i64 k) ∧ Below w.heap.size w w' := by
 have hu28 := Try.underlying28
 have hu39 := Try.underlying39
 have hu3 := Try.underlying3
 have : Be w w := ⟨Below.refl _ _⟩
 go_enter Try.func49, Try.ntmps49
 go_wp2
 go_ret
 exact ⟨rfl, Be.out⟩
set_option maxHeartbeats 8000000 in
set_option maxRecDepth 100000 in
theorem first3 (f : Nat) (lb : Array Value) (hent : ∀ args W, (callFunc f args).run Try.prog W = .ok (.enter f args) W) (r : Option Nat) (E : Nat → Int) (I : Nat → World → Prop) (A : Option Addr) (c : Nat) (l : List Int) (w : World) (hl : l.length ≤ 1000000) (hr : ∀ k, r = some k → k < w.heap.size) (hC : ∀ k W, I k W → Kd.C (Kd.int .i64) W A l.length l) (hI : ∀ k W W', I k W → Below W.heap.size W W' → I k W') (h0 : I 0 w)
  (hs : ∀ k, k < l.length → ∀ W, I k W → Calls Try.prog f (#[.int .i64 (k : Int), .int .i64 (rd l (k : Int))] ++ lb) W fun e W' => e = .returned (.int .i64 (E k)) ∧ W.grownBy W' r ∧ (E k = 0 → I (k + 1) W')) :
  Calls Try.prog 47 #[.slice A l.length c, .func (.func f) #[] lb, .func (.func 49) #[] #[]] w fun e w' => e = .returned (.tuple #[.int .i64 (firstL E (fun k => (k : Int)) 0 l.length).1, .int .i64 (firstL E (fun k => (k : Int)) 0 l.length).2]) ∧ w.grownBy w' r ∧ ((firstL E (fun k => (k : Int)) 0 l.length).1 = 0 → I l.length w') := by
 have hu28 := Try.underlying28
 have hu39 := Try.underlying39
 have hu3 := Try.underlying3
 obtain ⟨res, hres⟩ : ∃ res, firstL E (fun k => (k : Int)) 0 l.length = res := ⟨_, rfl⟩
 rw [hres]
 have HA0 := Aside0.mk (show firstL E (fun k => (k : Int)) 0 (l.length - 0) = res from hres)
 have HL := Aside0.mk hl
 have HR := Aside0.mk hr
 have HC := Aside0.mk hC
 have HI := Aside0.mk hI
 have H0 := Aside0.mk h0
 have HS := Aside0.mk hs
 clear hres hl hr hC hI h0 hs
 go_enter Try.func47, Try.ntmps47
 go_wp2
 go_loopw [13] (fun v13 wr => ∃ i : Nat, i ≤ l.length ∧ v13 = .int .i64 (i : Int) ∧ Aside0 (firstL E (fun k => (k : Int)) i (l.length - i) = res) ∧ Aside0 (I i wr) ∧ Aside0 (w.grownBy wr r)) (fun v13 _ => l.length - (intOf v13).toNat)
 case atStart => exact ⟨0, Nat.zero_le _, rfl, HA0, H0, ⟨grown_refl _ _⟩⟩
 case round =>
  clear HA0 H0
  obtain ⟨i, hi, rfl, HA, HJ, HG⟩ := hrel
  by_cases hlt : i < l.length
  ·have hib : (i : Int) ≤ 1000000 := by have := HL.out; omega
   have hlt' : (i : Int) < l.length := by omega
   have h0i : 0 ≤ (i : Int) := by omega
   obtain ⟨ad, ee, y0⟩ := Kd.at_int (HC.out _ _ HJ.out) (i : Int) (by omega) (by omega)
   subst ee
   simp only [Int.toNat_natCast] at y0
   have ha := HA.out
   rw [show l.length - i = (l.length - (i + 1)) + 1 by omega, firstL] at ha
   have HA2 := Aside0.mk ha
   have HLT := Aside0.mk hlt
   clear HA ha hlt
   obtain ⟨x, hx⟩ : ∃ x, rd l (i : Int) = x := ⟨_, rfl⟩
   rw [hx] at y0
   have HX := Aside0.mk hx
   clear hx
   have HJ9 := HJ
   have HG9 := HG
   clear HJ HG
   obtain ⟨w9, hw9⟩ : ∃ w9, wr = w9 := ⟨_, rfl⟩
   subst hw9
   go_wp2_with (fail)
   have hcall := HS.out i HLT.out wr HJ9.out
   rw [HX.out] at hcall
   refine hcall.mono ?_
   clear hcall
   rintro e W' ⟨rfl, hg, hj⟩
   have HGW := Aside0.mk (grown_trans HG9.out hg)
   have HJW := Aside0.mk hj
   clear hg hj HJ9 HG9
   have ha := HA2.out
   clear HA2
   by_cases h0 : E i = 0
   ·rw [if_pos h0] at ha
    have HA3 := Aside0.mk ha
    have HJ2 := Aside0.mk (HJW.out h0)
    have t : (E i != 0) = false := by rw [h0]; rfl
    clear ha h0 HJW
    go_wp2
    go_roundw
    case rel => exact ⟨i + 1, HLT.out, by go_num, HA3, HJ2, HGW⟩
    case measure => have := HLT.out; simp [intOf]; omega
   ·rw [if_neg h0] at ha
    have t : (E i != 0) = true := bne_iff_ne.2 h0
    have HE := Aside0.mk h0
    have HA3 := Aside0.mk ha
    clear ha h0 HJW
    go_wp2_with (go_at_call 49; refine (name3 _ x _).mono ?_; rintro e W2 ⟨rfl, hb⟩; have HB2 := Aside0.mk hb; clear hb)
    go_ret2
    rw [← HA3.out]
    exact ⟨rfl, grown_below HGW.out HB2.out, fun e => absurd e HE.out⟩
  ·obtain rfl : i = l.length := by omega
   have ha := HA.out
   rw [Nat.sub_self, firstL] at ha
   have HA3 := Aside0.mk ha
   clear ha HA
   go_wp2
   go_ret2
   rw [← HA3.out]
   exact ⟨rfl, HG.out, fun _ => HJ.out⟩
end Go.Proofs.Ytpedlompipabdaa.P
