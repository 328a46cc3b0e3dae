/- WorkerMay: part 4 of the walk and of the plain law that it comes to. No condition. -/
import Derived.Test.YtckhjehibjdjdaaZWorkerMay3
import Derived.ArgAppend
import Derived.Below
import Derived.BigQuiet
import Derived.BigRegion
import Derived.Carry
import Derived.Deep.AppendLies
import Derived.Deep.CutBlock
import Derived.Deep.DeepCutAuto
import Derived.Deep.Draws
import Derived.Deep.LoopGhost
import Derived.Deep.OwnRows
import Derived.Deep.QuietTactic
import Derived.Deep.RegionHeld3
import Derived.DeepKeys3
import Derived.KernelRfl
import Derived.Laws.Bits64
import Derived.Laws.Bits64b
import Derived.Laws.BitsLemmas
import Derived.Laws.BytesArg
import Derived.Laws.EntriesVeiled
import Derived.Laws.Externs
import Derived.Laws.IdiomCopy
import Derived.Laws.MakeOwn
import Derived.Laws.OwnMore
import Derived.Laws.Rows
import Derived.Laws.Slices
import Derived.Lib.AppendStr
import Derived.Lib.ConvBytes
import Derived.Lib.ReflectliteSlice
import Derived.Lib.ReflectliteSwap
import Derived.Lib.SliceRun
import Derived.LoopIn
import Derived.LoopN
import Derived.LoopNIn
import Derived.LoopTactic
import Derived.Maps.AppendAt
import Derived.Maps.Keyed
import Derived.Maps.Own
import Derived.Maps.OwnOps
import Derived.Maps.OwnSet
import Derived.Maps.Views
import Derived.OrdersHeld
import Derived.Outline
import Derived.OwnWalk
import Derived.OwnWalkIn
import Derived.RangeFuncBound
import Derived.RangeFuncBox
import Derived.RangeFuncCalls
import Derived.RangeFuncFrom
import Derived.RangeFuncLeaves
import Derived.RangeFuncNested
import Derived.RowKit
import Derived.RowKit3
import Derived.Shelf.Abstract
import Derived.Shelf.RegionOpen
import Derived.StillTailTactics
import Derived.Tactics
import Derived.TacticsInMore
import Derived.WalkKit
import Derived.WideLaws
set_option linter.unusedVariables false
set_option linter.unusedSimpArgs false
namespace Go.Proofs.Ytckhjehibjdjdaa.P
open Go.RowKit Go.Shelf Go.Proofs.YtckhjehibjdjdaaW.PrintWords Go.Proofs.YtckhjehibjdjdaaW.PrintLast Go.Proofs.YtckhjehibjdjdaaW.PrintMore
open Go.Proofs.Ytckhjehibjdjdaa.RF
attribute [local go_sem] Oper.semAt_some
set_option maxHeartbeats 8000000 in
set_option maxRecDepth 100000 in
theorem try_calls (ks : Nat) (a0_0 a0_1 a0_2 a0_3 : Int) (A0_4 : Option Addr) (c0_4 : Nat) (l0_4 : List (S51)) (A0_5 : Option Addr) (c0_5 : Nat) (l0_5 : List (S24)) (A0_6 : Option Addr) (c0_6 : Nat) (l0_6 : List (S41)) (A0_7 : Option Addr) (c0_7 : Nat) (l0_7 : List (S105)) (A0_8 : Option Addr) (c0_8 : Nat) (l0_8 : List (S149)) (a1_0 a1_1 a1_2 a1_3 a1_4 a1_5 a1_6 a1_7 u n : Int) (p : List S52 × Int) (b : Bool) (g3 g4 g5 : Nat) (w : World) (hr0_4 : Kd.C k51 w A0_4 l0_4.length l0_4) (hc0_4 : l0_4.length ≤ c0_4) (hr0_5 : Kd.C k24 w A0_5 l0_5.length l0_5) (hc0_5 : l0_5.length ≤ c0_5) (hr0_6 : Kd.C k41 w A0_6 l0_6.length l0_6) (hc0_6 : l0_6.length ≤ c0_6) (hr0_7 : Kd.C k105 w A0_7 l0_7.length l0_7) (hc0_7 : l0_7.length ≤ c0_7) (hr0_8 : Kd.C k149 w A0_8 l0_8.length l0_8) (hc0_8 : l0_8.length ≤ c0_8)
  (b3 : w.heap[g3]? = some (.cells #[.int .i64 a0_0, .int .i64 a0_1, .int .i64 a0_2, .int .i64 a0_3, .slice A0_4 l0_4.length c0_4, .slice A0_5 l0_5.length c0_5, .slice A0_6 l0_6.length c0_6, .slice A0_7 l0_7.length c0_7, .slice A0_8 l0_8.length c0_8] 86 (0, 0))) (b4 : w.heap[g4]? = some (.cells #[.int .i64 a1_0, .int .i64 a1_1, .int .i64 a1_2, .int .i64 a1_3, .int .i64 a1_4, .int .i64 a1_5, .int .i64 a1_6, .int .i64 a1_7] 88 (0, 0))) (b5 : w.heap[g5]? = some (.cells #[.int .i64 u] 3 (0, 0)))
  (hp : pack_Place.f l0_4 a1_4 a1_5 a1_6 a1_7 n = some p) (hs : elastic_safe.f ks a0_0 a0_1 a0_2 a0_3 l0_4 l0_5 l0_6 l0_7 l0_8 a1_0 a1_1 u false p.1 = some b) :
  Calls Try.prog 96 #[.int .i64 n, .pointer (some ⟨g3, 0, none⟩), .pointer (some ⟨g4, 0, none⟩), .pointer (some ⟨g5, 0, none⟩)] w fun e w' => ∃ v, e = .returned (.tuple #[v, .bool b]) ∧ Kd.R k52 52 w' w.heap.size (fun _ => True) v p.1 ∧ Below w.heap.size w w' := by
 have hu86 := Try.underlying86
 have hu88 := Try.underlying88
 have hu27 := Try.underlying27
 have hu41 := Try.underlying41
 have hu39 := Try.underlying39
 have hu32 := Try.underlying32
 have hu139 := Try.underlying139
 have hu3 := Try.underlying3
 have HR0_4 := m_ hr0_4
 have HC0_4 := m_ hc0_4
 clear hr0_4 hc0_4
 have HR0_5 := m_ hr0_5
 have HC0_5 := m_ hc0_5
 clear hr0_5 hc0_5
 have HR0_6 := m_ hr0_6
 have HC0_6 := m_ hc0_6
 clear hr0_6 hc0_6
 have HR0_7 := m_ hr0_7
 have HC0_7 := m_ hc0_7
 clear hr0_7 hc0_7
 have HR0_8 := m_ hr0_8
 have HC0_8 := m_ hc0_8
 clear hr0_8 hc0_8
 have HXg3 := m_ b3
 have HXg4 := m_ b4
 have HXg5 := m_ b5
 have HP := m_ hp
 have HS := m_ hs
 have HB := m_ (Below.refl w.heap.size w)
 clear b3 b4 b5 hp hs
 obtain ⟨cg3_0, cg3_1, cg3_2, cg3_3, cg3_4, cg3_5, cg3_6, cg3_7, cg3_8⟩ := cz9_ HXg3
 obtain ⟨cg4_0, cg4_1, cg4_2, cg4_3, cg4_4, cg4_5, cg4_6, cg4_7⟩ := cz8_ HXg4
 have cg5_0 : w.cell? ⟨g5, 0, none⟩ = some (.int .i64 u) := (a0_ HXg5.out 0).trans rfl
 go_enter Try.func96, Try.ntmps96
 go_wp2_with (first | (go_at_call 46; refine (pack_Place.calls _ _ l0_4 a1_4 a1_5 a1_6 a1_7 n _ _ _ (Kd.C_below HR0_4.out HB.out) HC0_4.out HP.out).mono ?_; rintro e wp ⟨vp, rfl, hrp, hbp⟩; obtain ⟨Ap, cp, rfl⟩ := Kd.R_slice hrp; have HRP := m_ hrp; clear cg3_0 cg3_1 cg3_2 cg3_3 cg3_4 cg3_5 cg3_6 cg3_7 cg3_8 cg4_0 cg4_1 cg4_2 cg4_3 cg4_4 cg4_5 cg4_6 cg4_7 cg5_0; replace HXg3 := m_ (a1_ HXg3.out hbp); replace HXg4 := m_ (a1_ HXg4.out hbp); replace HXg5 := m_ (a1_ HXg5.out hbp); replace HB := m_ (b0_ HB.out hbp); clear hbp hrp; obtain ⟨cg3_0, cg3_1, cg3_2, cg3_3, cg3_4, cg3_5, cg3_6, cg3_7, cg3_8⟩ := cz9_ HXg3; obtain ⟨cg4_0, cg4_1, cg4_2, cg4_3, cg4_4, cg4_5, cg4_6, cg4_7⟩ := cz8_ HXg4; have cg5_0 : wp.cell? ⟨g5, 0, none⟩ = some (.int .i64 u) := (a0_ HXg5.out 0).trans rfl) | (go_at_call 97; refine (elastic_safe.calls ks a0_0 a0_1 a0_2 a0_3 _ _ l0_4 _ _ l0_5 _ _ l0_6 _ _ l0_7 _ _ l0_8 a1_0 a1_1 u false _ _ p.1 _ _ (Kd.C_below HR0_4.out (HB.out)) HC0_4.out (Kd.C_below HR0_5.out (HB.out)) HC0_5.out (Kd.C_below HR0_6.out (HB.out)) HC0_6.out (Kd.C_below HR0_7.out (HB.out)) HC0_7.out (Kd.C_below HR0_8.out (HB.out)) HC0_8.out (Kd.R_reads' HRP.out).2.2 (Kd.R_reads' HRP.out).2.1 HS.out).mono ?_; rintro e ws ⟨rfl, hbs⟩; clear cg3_0 cg3_1 cg3_2 cg3_3 cg3_4 cg3_5 cg3_6 cg3_7 cg3_8 cg4_0 cg4_1 cg4_2 cg4_3 cg4_4 cg4_5 cg4_6 cg4_7 cg5_0; replace HXg3 := m_ (a1_ HXg3.out hbs); replace HXg4 := m_ (a1_ HXg4.out hbs); replace HXg5 := m_ (a1_ HXg5.out hbs); replace HRP := m_ (Kd.R_below HRP.out hbs); replace HB := m_ (b0_ HB.out hbs); clear hbs))
 go_ret2
 exact ⟨_, rfl, HRP.out, HB.out⟩
def fillTs (k : Nat) (a0_0 a0_1 a0_2 a0_3 : Int) (l0_4 : List S51) (l0_5 : List S24) (l0_6 : List S41) (l0_7 : List S105) (l0_8 : List S149) (id q g c mn mx u : Int) : List Int → Option (List (List S52 × Bool))
 | [] => some []
 | n :: r => (pack_Place.f l0_4 g c mn mx n).bind fun p => (elastic_safe.f k a0_0 a0_1 a0_2 a0_3 l0_4 l0_5 l0_6 l0_7 l0_8 id q u false p.1).bind fun b => (fillTs k a0_0 a0_1 a0_2 a0_3 l0_4 l0_5 l0_6 l0_7 l0_8 id q g c mn mx u r).bind fun t => some ((p.1, b) :: t)
def fillR (t : List (List S52 × Bool)) : List S52 × Int := match t.find? (fun x => x.2) with | some x => (x.1, 0) | none => ([], 5)
def elastic_Fill.f (k : Nat) (a0_0 a0_1 a0_2 a0_3 : Int) (l0_4 : List (S51)) (l0_5 : List (S24)) (l0_6 : List (S41)) (l0_7 : List (S105)) (l0_8 : List (S149)) (a1_0 a1_1 a1_2 a1_3 a1_4 a1_5 a1_6 a1_7 a2 : Int) : Option ((List (S52)) × Int) :=
 (elastic_Most.f a0_0 a0_1 a0_2 a0_3 l0_4 l0_5 l0_6 l0_7 l0_8 a1_0 a1_1 a1_2 a1_3 a1_4 a1_5 a1_6 a1_7).bind fun m => if m.2 = 0 then (if -1000000 ≤ a1_6 ∧ a1_6 ≤ 1000000 ∧ m.1.length ≤ 1000000 then (fillTs k a0_0 a0_1 a0_2 a0_3 l0_4 l0_5 l0_6 l0_7 l0_8 a1_0 a1_1 a1_4 a1_5 a1_6 a1_7 a2 (downL m.1.length a1_6)).bind fun t => some (fillR t) else none) else some ([], m.2)
theorem fillTs_get {k : Nat} {a0_0 a0_1 a0_2 a0_3 : Int} {l0_4 : List S51} {l0_5 : List S24} {l0_6 : List S41} {l0_7 : List S105} {l0_8 : List S149} {id q g c mn mx u : Int} : ∀ {L : List Int} {t : List (List S52 × Bool)}, fillTs k a0_0 a0_1 a0_2 a0_3 l0_4 l0_5 l0_6 l0_7 l0_8 id q g c mn mx u L = some t →
  t.length = L.length ∧ ∀ (i : Nat) (n : Int), L[i]? = some n → ∃ (p : List S52 × Int) (b : Bool), t[i]? = some (p.1, b) ∧ pack_Place.f l0_4 g c mn mx n = some p ∧ elastic_safe.f k a0_0 a0_1 a0_2 a0_3 l0_4 l0_5 l0_6 l0_7 l0_8 id q u false p.1 = some b
 | [], t, h => by
  have h := Option.some.inj h
  subst h
  refine ⟨rfl, fun i n hn => ?_⟩
  simp at hn
 | m :: r, t, h => by
  rw [fillTs] at h
  obtain ⟨p, hp, h⟩ := Option.bind_eq_some_iff.1 h
  obtain ⟨b, hb, h⟩ := Option.bind_eq_some_iff.1 h
  obtain ⟨t', ht, h⟩ := Option.bind_eq_some_iff.1 h
  cases h
  obtain ⟨hl, ih⟩ := fillTs_get ht
  refine ⟨by simp [hl], fun i n hn => ?_⟩
  cases i with
  | zero => cases hn; exact ⟨p, b, rfl, hp, hb⟩
  | succ i => exact ih i n hn
theorem results58 {tmps : Array Value} {w : World} {g4 g5 : Nat} {v u : Value} {t t' : TypeId} (h4 : tmps.getD 6 undef = .pointer (some ⟨g4, 0, none⟩)) (h5 : tmps.getD 7 undef = .pointer (some ⟨g5, 0, none⟩))
  (b4 : w.heap[g4]? = some (.cells #[v] t (0, 0))) (b5 : w.heap[g5]? = some (.cells #[u] t' (0, 0))) : (results Try.f58 tmps).run Try.prog w = .ok (.tuple #[v, u]) w := by
 have h4' : tmps[6]?.getD undef = .pointer (some ⟨g4, 0, none⟩) := by simpa using h4
 have h5' : tmps[7]?.getD undef = .pointer (some ⟨g5, 0, none⟩) := by simpa using h5
 have c4 : w.cell? ⟨g4, 0, none⟩ = some v := (a0_ b4 0).trans rfl
 have c5 : w.cell? ⟨g5, 0, none⟩ = some u := (a0_ b5 0).trans rfl
 have hu39 := Try.underlying39
 have hu32 := Try.underlying32
 simp [results, Try.f58, go_sem, h4', h5', c4, c5, hu39, hu32]
set_option maxHeartbeats 8000000 in
set_option maxRecDepth 100000 in
theorem fill_no (a0_0 a0_1 a0_2 a0_3 : Int) (A0_4 : Option Addr) (c0_4 : Nat) (l0_4 : List (S51)) (A0_5 : Option Addr) (c0_5 : Nat) (l0_5 : List (S24)) (A0_6 : Option Addr) (c0_6 : Nat) (l0_6 : List (S41)) (A0_7 : Option Addr) (c0_7 : Nat) (l0_7 : List (S105)) (A0_8 : Option Addr) (c0_8 : Nat) (l0_8 : List (S149)) (a1_0 a1_1 a1_2 a1_3 a1_4 a1_5 a1_6 a1_7 u : Int) (ms : List S52) (e0 : Int) (w : World) (hr0_4 : Kd.C k51 w A0_4 l0_4.length l0_4) (hc0_4 : l0_4.length ≤ c0_4) (hr0_5 : Kd.C k24 w A0_5 l0_5.length l0_5) (hc0_5 : l0_5.length ≤ c0_5) (hr0_6 : Kd.C k41 w A0_6 l0_6.length l0_6) (hc0_6 : l0_6.length ≤ c0_6) (hr0_7 : Kd.C k105 w A0_7 l0_7.length l0_7) (hc0_7 : l0_7.length ≤ c0_7) (hr0_8 : Kd.C k149 w A0_8 l0_8.length l0_8) (hc0_8 : l0_8.length ≤ c0_8) (hM : elastic_Most.f a0_0 a0_1 a0_2 a0_3 l0_4 l0_5 l0_6 l0_7 l0_8 a1_0 a1_1 a1_2 a1_3 a1_4 a1_5 a1_6 a1_7 = some (ms, e0)) (he : e0 ≠ 0) :
  Calls Try.prog 58 #[.agg #[.int .i64 a0_0, .int .i64 a0_1, .int .i64 a0_2, .int .i64 a0_3, .slice A0_4 l0_4.length c0_4, .slice A0_5 l0_5.length c0_5, .slice A0_6 l0_6.length c0_6, .slice A0_7 l0_7.length c0_7, .slice A0_8 l0_8.length c0_8], .agg #[.int .i64 a1_0, .int .i64 a1_1, .int .i64 a1_2, .int .i64 a1_3, .int .i64 a1_4, .int .i64 a1_5, .int .i64 a1_6, .int .i64 a1_7], .int .i64 u] w fun e w' => ∃ v0_ : Value, e = .returned (.tuple #[v0_, .int .i64 e0]) ∧ Kd.R k52 52 w' w.heap.size (fun _ => True) v0_ [] ∧ Below w.heap.size w w' := by
 have hu86 := Try.underlying86
 have hu88 := Try.underlying88
 have hu27 := Try.underlying27
 have hu41 := Try.underlying41
 have hu39 := Try.underlying39
 have hu32 := Try.underlying32
 have hu139 := Try.underlying139
 have hu3 := Try.underlying3
 have HR0_4 := m_ hr0_4
 have HC0_4 := m_ hc0_4
 clear hr0_4 hc0_4
 have HR0_5 := m_ hr0_5
 have HC0_5 := m_ hc0_5
 clear hr0_5 hc0_5
 have HR0_6 := m_ hr0_6
 have HC0_6 := m_ hc0_6
 clear hr0_6 hc0_6
 have HR0_7 := m_ hr0_7
 have HC0_7 := m_ hc0_7
 clear hr0_7 hc0_7
 have HR0_8 := m_ hr0_8
 have HC0_8 := m_ hc0_8
 clear hr0_8 hc0_8
 have HM := m_ hM
 have HB := m_ (Below.refl w.heap.size w)
 have t0 : (e0 != 0) = true := by simpa using he
 clear hM he
 refine calls_marks Try.func58 rfl ?_
 simp only [Try.ntmps58, List.size_toArray, List.length_cons, List.length_nil, Nat.reduceAdd, Nat.reduceSub, Array.replicate_succ, Array.replicate_zero, List.push_toArray, List.append_toArray, List.nil_append, List.cons_append]
 go_wp2_with (first | ((with_reducible refine a3_ (N := 3) rfl ?_); refine bx 3 #[.int .i64 a0_0, .int .i64 a0_1, .int .i64 a0_2, .int .i64 a0_3, .slice A0_4 l0_4.length c0_4, .slice A0_5 l0_5.length c0_5, .slice A0_6 l0_6.length c0_6, .slice A0_7 l0_7.length c0_7, .slice A0_8 l0_8.length c0_8] 86 ?_; intro g3 hgg3 wg3 hxg3 hbg3; have Gg3 : w.heap.size ≤ g3 := Z5; replace HB := m_ (b0_ HB.out hbg3); have HXg3 := m_ hxg3; clear hgg3 hxg3 hbg3) | ((with_reducible refine a3_ (N := 4) rfl ?_); refine bx 4 #[.int .i64 a1_0, .int .i64 a1_1, .int .i64 a1_2, .int .i64 a1_3, .int .i64 a1_4, .int .i64 a1_5, .int .i64 a1_6, .int .i64 a1_7] 88 ?_; intro g4 hgg4 wg4 hxg4 hbg4; have Ng3_g4 := m_ (show g3 ≠ g4 from by have := c6_ HXg3.out; omega); replace HXg3 := m_ (a1_ HXg3.out hbg4); have Gg4 : w.heap.size ≤ g4 := Z5; replace HB := m_ (b0_ HB.out hbg4); have HXg4 := m_ hxg4; clear hgg4 hxg4 hbg4) | ((with_reducible refine a3_ (N := 5) rfl ?_); refine bx 5 #[.int .i64 u] 3 ?_; intro g5 hgg5 wg5 hxg5 hbg5; have Ng3_g5 := m_ (show g3 ≠ g5 from by have := c6_ HXg3.out; omega); have Ng4_g5 := m_ (show g4 ≠ g5 from by have := c6_ HXg4.out; omega); replace HXg3 := m_ (a1_ HXg3.out hbg5); replace HXg4 := m_ (a1_ HXg4.out hbg5); have Gg5 : w.heap.size ≤ g5 := Z5; replace HB := m_ (b0_ HB.out hbg5); have HXg5 := m_ hxg5; clear hgg5 hxg5 hbg5) | ((with_reducible refine a3_ (N := 6) rfl ?_); refine bx 6 #[.slice none 0 0] 39 ?_; intro g6 hgg6 wg6 hxg6 hbg6; have Ng3_g6 := m_ (show g3 ≠ g6 from by have := c6_ HXg3.out; omega); have Ng4_g6 := m_ (show g4 ≠ g6 from by have := c6_ HXg4.out; omega); have Ng5_g6 := m_ (show g5 ≠ g6 from by have := c6_ HXg5.out; omega); replace HXg3 := m_ (a1_ HXg3.out hbg6); replace HXg4 := m_ (a1_ HXg4.out hbg6); replace HXg5 := m_ (a1_ HXg5.out hbg6); have Gg6 : w.heap.size ≤ g6 := Z5; replace HB := m_ (b0_ HB.out hbg6); have HXg6 := m_ hxg6; clear hgg6 hxg6 hbg6) | ((with_reducible refine a3_ (N := 7) rfl ?_); refine bx 7 #[.int .i64 0] 32 ?_; intro g7 hgg7 wg7 hxg7 hbg7; have Ng3_g7 := m_ (show g3 ≠ g7 from by have := c6_ HXg3.out; omega); have Ng4_g7 := m_ (show g4 ≠ g7 from by have := c6_ HXg4.out; omega); have Ng5_g7 := m_ (show g5 ≠ g7 from by have := c6_ HXg5.out; omega); have Ng6_g7 := m_ (show g6 ≠ g7 from by have := c6_ HXg6.out; omega); replace HXg3 := m_ (a1_ HXg3.out hbg7); replace HXg4 := m_ (a1_ HXg4.out hbg7); replace HXg5 := m_ (a1_ HXg5.out hbg7); replace HXg6 := m_ (a1_ HXg6.out hbg7); have Gg7 : w.heap.size ≤ g7 := Z5; replace HB := m_ (b0_ HB.out hbg7); have HXg7 := m_ hxg7; clear hgg7 hxg7 hbg7; obtain ⟨cg3_0, cg3_1, cg3_2, cg3_3, cg3_4, cg3_5, cg3_6, cg3_7, cg3_8⟩ := cz9_ HXg3; obtain ⟨cg4_0, cg4_1, cg4_2, cg4_3, cg4_4, cg4_5, cg4_6, cg4_7⟩ := cz8_ HXg4) | (go_at_call 57; refine (elastic_Most.calls a0_0 a0_1 a0_2 a0_3 _ _ l0_4 _ _ l0_5 _ _ l0_6 _ _ l0_7 _ _ l0_8 a1_0 a1_1 a1_2 a1_3 a1_4 a1_5 a1_6 a1_7 ms e0 _ (Kd.C_below HR0_4.out (HB.out)) HC0_4.out (Kd.C_below HR0_5.out (HB.out)) HC0_5.out (Kd.C_below HR0_6.out (HB.out)) HC0_6.out (Kd.C_below HR0_7.out (HB.out)) HC0_7.out (Kd.C_below HR0_8.out (HB.out)) HC0_8.out HM.out).mono ?_; rintro e w8 ⟨vm, rfl, hrm, hb8⟩; obtain ⟨Am, cm, rfl⟩ := Kd.R_slice hrm; clear cg3_0 cg3_1 cg3_2 cg3_3 cg3_4 cg3_5 cg3_6 cg3_7 cg3_8 cg4_0 cg4_1 cg4_2 cg4_3 cg4_4 cg4_5 cg4_6 cg4_7; replace HXg3 := m_ (a1_ HXg3.out hb8); replace HXg4 := m_ (a1_ HXg4.out hb8); replace HXg5 := m_ (a1_ HXg5.out hb8); replace HXg6 := m_ (a1_ HXg6.out hb8); replace HXg7 := m_ (a1_ HXg7.out hb8); replace HB := m_ (b0_ HB.out hb8); clear hb8 hrm; have zg6 : w8.frozen? ⟨g6, 0, none⟩ = false := a2_ HXg6.out 0; have zg7 : w8.frozen? ⟨g7, 0, none⟩ = false := a2_ HXg7.out 0; have cg6_0 : w8.cell? ⟨g6, 0, none⟩ = some (.slice none 0 0) := (a0_ HXg6.out 0).trans rfl; have cg7_0 : w8.cell? ⟨g7, 0, none⟩ = some (.int .i64 0) := (a0_ HXg7.out 0).trans rfl; have n67 := Ng6_g7.out))
 have h6 : ((w8.setCell ⟨g6, 0, none⟩ (.slice none 0 0)).setCell ⟨g7, 0, none⟩ (.int .i64 e0)).heap[g6]? = some (.cells #[.slice none 0 0] 39 (0, 0)) := c7_ (d4_ HXg6.out 0 _ rfl) n67 _
 have h7 : ((w8.setCell ⟨g6, 0, none⟩ (.slice none 0 0)).setCell ⟨g7, 0, none⟩ (.int .i64 e0)).heap[g7]? = some (.cells #[.int .i64 e0] 32 (0, 0)) := d4_ (c7_ HXg7.out n67.symm _) 0 _ rfl
 exact marks_ret0 (results58 rfl rfl h6 h7) ⟨_, rfl, Kd.R_nil _ _ _ _ _, b6_ (b6_ HB.out Gg6) Gg7⟩
set_option maxHeartbeats 8000000 in
set_option maxRecDepth 100000 in
theorem fill_yes (ks : Nat) (a0_0 a0_1 a0_2 a0_3 : Int) (A0_4 : Option Addr) (c0_4 : Nat) (l0_4 : List (S51)) (A0_5 : Option Addr) (c0_5 : Nat) (l0_5 : List (S24)) (A0_6 : Option Addr) (c0_6 : Nat) (l0_6 : List (S41)) (A0_7 : Option Addr) (c0_7 : Nat) (l0_7 : List (S105)) (A0_8 : Option Addr) (c0_8 : Nat) (l0_8 : List (S149)) (a1_0 a1_1 a1_2 a1_3 a1_4 a1_5 a1_6 a1_7 u : Int) (ms : List S52) (ts : List (List S52 × Bool)) (rr : List S52 × Int) (w : World) (hr0_4 : Kd.C k51 w A0_4 l0_4.length l0_4) (hc0_4 : l0_4.length ≤ c0_4) (hr0_5 : Kd.C k24 w A0_5 l0_5.length l0_5) (hc0_5 : l0_5.length ≤ c0_5) (hr0_6 : Kd.C k41 w A0_6 l0_6.length l0_6) (hc0_6 : l0_6.length ≤ c0_6) (hr0_7 : Kd.C k105 w A0_7 l0_7.length l0_7) (hc0_7 : l0_7.length ≤ c0_7) (hr0_8 : Kd.C k149 w A0_8 l0_8.length l0_8) (hc0_8 : l0_8.length ≤ c0_8) (hM : elastic_Most.f a0_0 a0_1 a0_2 a0_3 l0_4 l0_5 l0_6 l0_7 l0_8 a1_0 a1_1 a1_2 a1_3 a1_4 a1_5 a1_6 a1_7 = some (ms, 0))
  (hmn : (-1000000 ≤ a1_6 ∧ a1_6 ≤ 1000000) ∧ ms.length ≤ 1000000) (hts : fillTs ks a0_0 a0_1 a0_2 a0_3 l0_4 l0_5 l0_6 l0_7 l0_8 a1_0 a1_1 a1_4 a1_5 a1_6 a1_7 u (downL ms.length a1_6) = some ts) (hR : rr = fillR ts) :
  Calls Try.prog 58 #[.agg #[.int .i64 a0_0, .int .i64 a0_1, .int .i64 a0_2, .int .i64 a0_3, .slice A0_4 l0_4.length c0_4, .slice A0_5 l0_5.length c0_5, .slice A0_6 l0_6.length c0_6, .slice A0_7 l0_7.length c0_7, .slice A0_8 l0_8.length c0_8], .agg #[.int .i64 a1_0, .int .i64 a1_1, .int .i64 a1_2, .int .i64 a1_3, .int .i64 a1_4, .int .i64 a1_5, .int .i64 a1_6, .int .i64 a1_7], .int .i64 u] w fun e w' => ∃ v0_ : Value, e = .returned (.tuple #[v0_, .int .i64 rr.2]) ∧ Kd.R k52 52 w' w.heap.size (fun _ => True) v0_ rr.1 ∧ Below w.heap.size w w' := by
 have hu86 := Try.underlying86
 have hu88 := Try.underlying88
 have hu27 := Try.underlying27
 have hu41 := Try.underlying41
 have hu39 := Try.underlying39
 have hu32 := Try.underlying32
 have hu139 := Try.underlying139
 have hu3 := Try.underlying3
 have HR0_4 := m_ hr0_4
 have HC0_4 := m_ hc0_4
 clear hr0_4 hc0_4
 have HR0_5 := m_ hr0_5
 have HC0_5 := m_ hc0_5
 clear hr0_5 hc0_5
 have HR0_6 := m_ hr0_6
 have HC0_6 := m_ hc0_6
 clear hr0_6 hc0_6
 have HR0_7 := m_ hr0_7
 have HC0_7 := m_ hc0_7
 clear hr0_7 hc0_7
 have HR0_8 := m_ hr0_8
 have HC0_8 := m_ hc0_8
 clear hr0_8 hc0_8
 have HM := m_ hM
 have HTS := m_ (fillTs_get hts)
 have HMN := m_ hmn
 have HRR := m_ hR
 have HB := m_ (Below.refl w.heap.size w)
 clear hM hts hmn hR
 refine calls_marks Try.func58 rfl ?_
 simp only [Try.ntmps58, List.size_toArray, List.length_cons, List.length_nil, Nat.reduceAdd, Nat.reduceSub, Array.replicate_succ, Array.replicate_zero, List.push_toArray, List.append_toArray, List.nil_append, List.cons_append]
 go_upto_region 4 with (first | ((with_reducible refine a3_ (N := 3) rfl ?_); refine bx 3 #[.int .i64 a0_0, .int .i64 a0_1, .int .i64 a0_2, .int .i64 a0_3, .slice A0_4 l0_4.length c0_4, .slice A0_5 l0_5.length c0_5, .slice A0_6 l0_6.length c0_6, .slice A0_7 l0_7.length c0_7, .slice A0_8 l0_8.length c0_8] 86 ?_; intro g3 hgg3 wg3 hxg3 hbg3; have Gg3 : w.heap.size ≤ g3 := Z5; replace HB := m_ (b0_ HB.out hbg3); have HXg3 := m_ hxg3; clear hgg3 hxg3 hbg3) | ((with_reducible refine a3_ (N := 4) rfl ?_); refine bx 4 #[.int .i64 a1_0, .int .i64 a1_1, .int .i64 a1_2, .int .i64 a1_3, .int .i64 a1_4, .int .i64 a1_5, .int .i64 a1_6, .int .i64 a1_7] 88 ?_; intro g4 hgg4 wg4 hxg4 hbg4; have Ng3_g4 := m_ (show g3 ≠ g4 from by have := c6_ HXg3.out; omega); replace HXg3 := m_ (a1_ HXg3.out hbg4); have Gg4 : w.heap.size ≤ g4 := Z5; replace HB := m_ (b0_ HB.out hbg4); have HXg4 := m_ hxg4; clear hgg4 hxg4 hbg4) | ((with_reducible refine a3_ (N := 5) rfl ?_); refine bx 5 #[.int .i64 u] 3 ?_; intro g5 hgg5 wg5 hxg5 hbg5; have Ng3_g5 := m_ (show g3 ≠ g5 from by have := c6_ HXg3.out; omega); have Ng4_g5 := m_ (show g4 ≠ g5 from by have := c6_ HXg4.out; omega); replace HXg3 := m_ (a1_ HXg3.out hbg5); replace HXg4 := m_ (a1_ HXg4.out hbg5); have Gg5 : w.heap.size ≤ g5 := Z5; replace HB := m_ (b0_ HB.out hbg5); have HXg5 := m_ hxg5; clear hgg5 hxg5 hbg5) | ((with_reducible refine a3_ (N := 6) rfl ?_); refine bx 6 #[.slice none 0 0] 39 ?_; intro g6 hgg6 wg6 hxg6 hbg6; have Ng3_g6 := m_ (show g3 ≠ g6 from by have := c6_ HXg3.out; omega); have Ng4_g6 := m_ (show g4 ≠ g6 from by have := c6_ HXg4.out; omega); have Ng5_g6 := m_ (show g5 ≠ g6 from by have := c6_ HXg5.out; omega); replace HXg3 := m_ (a1_ HXg3.out hbg6); replace HXg4 := m_ (a1_ HXg4.out hbg6); replace HXg5 := m_ (a1_ HXg5.out hbg6); have Gg6 : w.heap.size ≤ g6 := Z5; replace HB := m_ (b0_ HB.out hbg6); have HXg6 := m_ hxg6; clear hgg6 hxg6 hbg6) | ((with_reducible refine a3_ (N := 7) rfl ?_); refine bx 7 #[.int .i64 0] 32 ?_; intro g7 hgg7 wg7 hxg7 hbg7; have Ng3_g7 := m_ (show g3 ≠ g7 from by have := c6_ HXg3.out; omega); have Ng4_g7 := m_ (show g4 ≠ g7 from by have := c6_ HXg4.out; omega); have Ng5_g7 := m_ (show g5 ≠ g7 from by have := c6_ HXg5.out; omega); have Ng6_g7 := m_ (show g6 ≠ g7 from by have := c6_ HXg6.out; omega); replace HXg3 := m_ (a1_ HXg3.out hbg7); replace HXg4 := m_ (a1_ HXg4.out hbg7); replace HXg5 := m_ (a1_ HXg5.out hbg7); replace HXg6 := m_ (a1_ HXg6.out hbg7); have Gg7 : w.heap.size ≤ g7 := Z5; replace HB := m_ (b0_ HB.out hbg7); have HXg7 := m_ hxg7; clear hgg7 hxg7 hbg7; obtain ⟨cg3_0, cg3_1, cg3_2, cg3_3, cg3_4, cg3_5, cg3_6, cg3_7, cg3_8⟩ := cz9_ HXg3; obtain ⟨cg4_0, cg4_1, cg4_2, cg4_3, cg4_4, cg4_5, cg4_6, cg4_7⟩ := cz8_ HXg4) | (go_at_call 57; refine (elastic_Most.calls a0_0 a0_1 a0_2 a0_3 _ _ l0_4 _ _ l0_5 _ _ l0_6 _ _ l0_7 _ _ l0_8 a1_0 a1_1 a1_2 a1_3 a1_4 a1_5 a1_6 a1_7 ms 0 _ (Kd.C_below HR0_4.out (HB.out)) HC0_4.out (Kd.C_below HR0_5.out (HB.out)) HC0_5.out (Kd.C_below HR0_6.out (HB.out)) HC0_6.out (Kd.C_below HR0_7.out (HB.out)) HC0_7.out (Kd.C_below HR0_8.out (HB.out)) HC0_8.out HM.out).mono ?_; rintro e w8 ⟨vm, rfl, hrm, hb8⟩; obtain ⟨Am, cm, rfl⟩ := Kd.R_slice hrm; clear cg3_0 cg3_1 cg3_2 cg3_3 cg3_4 cg3_5 cg3_6 cg3_7 cg3_8 cg4_0 cg4_1 cg4_2 cg4_3 cg4_4 cg4_5 cg4_6 cg4_7; replace HXg3 := m_ (a1_ HXg3.out hb8); replace HXg4 := m_ (a1_ HXg4.out hb8); replace HXg5 := m_ (a1_ HXg5.out hb8); replace HXg6 := m_ (a1_ HXg6.out hb8); replace HXg7 := m_ (a1_ HXg7.out hb8); replace HB := m_ (b0_ HB.out hb8); clear hb8 hrm))
 go_upto_region 5 with (first | ((with_reducible refine a3_ (N := 23) rfl ?_); refine Kd.event_run (w1 := w8) (v := .func (.func 96) #[] #[.pointer (some ⟨g3, 0, none⟩), .pointer (some ⟨g4, 0, none⟩), .pointer (some ⟨g5, 0, none⟩)]) rfl ?hmk ?_; (case hmk => first | (go_simp; done) | (go_simp; rfl)); refine bx 10 #[.nilFunc] 139 ?_; intro g10 hgg10 wg10 hxg10 hbg10; have Ng3_g10 := m_ (show g3 ≠ g10 from by have := c6_ HXg3.out; omega); have Ng4_g10 := m_ (show g4 ≠ g10 from by have := c6_ HXg4.out; omega); have Ng5_g10 := m_ (show g5 ≠ g10 from by have := c6_ HXg5.out; omega); have Ng6_g10 := m_ (show g6 ≠ g10 from by have := c6_ HXg6.out; omega); have Ng7_g10 := m_ (show g7 ≠ g10 from by have := c6_ HXg7.out; omega); replace HXg3 := m_ (a1_ HXg3.out hbg10); replace HXg4 := m_ (a1_ HXg4.out hbg10); replace HXg5 := m_ (a1_ HXg5.out hbg10); replace HXg6 := m_ (a1_ HXg6.out hbg10); replace HXg7 := m_ (a1_ HXg7.out hbg10); have Gg10 : w.heap.size ≤ g10 := Z5; replace HB := m_ (b0_ HB.out hbg10); have HXg10 := m_ hxg10; clear hgg10 hxg10 hbg10; have zg10_0 : wg10.frozen? ⟨g10, 0, none⟩ = false := a2_ HXg10.out 0; have cg10_0 : wg10.cell? ⟨g10, 0, none⟩ = some (.nilFunc) := (a0_ HXg10.out 0).trans rfl))
 obtain ⟨wB, hwB⟩ : ∃ wB, wB = wg10.setCell ⟨g10, 0, none⟩ (.func (.func 96) #[] #[.pointer (some ⟨g3, 0, none⟩), .pointer (some ⟨g4, 0, none⟩), .pointer (some ⟨g5, 0, none⟩)]) := ⟨_, rfl⟩
 rw [← hwB]
 have hxg3 : wB.heap[g3]? = some (.cells #[.int .i64 a0_0, .int .i64 a0_1, .int .i64 a0_2, .int .i64 a0_3, .slice A0_4 l0_4.length c0_4, .slice A0_5 l0_5.length c0_5, .slice A0_6 l0_6.length c0_6, .slice A0_7 l0_7.length c0_7, .slice A0_8 l0_8.length c0_8] 86 (0, 0)) := by rw [hwB]; exact c7_ HXg3.out (Ng3_g10.out) _
 have hxg4 : wB.heap[g4]? = some (.cells #[.int .i64 a1_0, .int .i64 a1_1, .int .i64 a1_2, .int .i64 a1_3, .int .i64 a1_4, .int .i64 a1_5, .int .i64 a1_6, .int .i64 a1_7] 88 (0, 0)) := by rw [hwB]; exact c7_ HXg4.out (Ng4_g10.out) _
 have hxg5 : wB.heap[g5]? = some (.cells #[.int .i64 u] 3 (0, 0)) := by rw [hwB]; exact c7_ HXg5.out (Ng5_g10.out) _
 have hxg6 : wB.heap[g6]? = some (.cells #[.slice none 0 0] 39 (0, 0)) := by rw [hwB]; exact c7_ HXg6.out (Ng6_g10.out) _
 have hxg7 : wB.heap[g7]? = some (.cells #[.int .i64 0] 32 (0, 0)) := by rw [hwB]; exact c7_ HXg7.out (Ng7_g10.out) _
 have hxg10 : wB.heap[g10]? = some (.cells #[.func (.func 96) #[] #[.pointer (some ⟨g3, 0, none⟩), .pointer (some ⟨g4, 0, none⟩), .pointer (some ⟨g5, 0, none⟩)]] 139 (0, 0)) := by rw [hwB]; exact d4_ HXg10.out 0 _ rfl
 have hbB : Below w.heap.size w wB := by rw [hwB]; exact b6_ HB.out Gg10
 replace HXg3 := m_ hxg3
 replace HXg4 := m_ hxg4
 replace HXg5 := m_ hxg5
 replace HXg6 := m_ hxg6
 replace HXg7 := m_ hxg7
 replace HXg10 := m_ hxg10
 replace HB := m_ hbB
 clear hwB hxg3 hxg4 hxg5 hxg6 hxg7 hxg10 hbB zg10_0 cg10_0
 obtain ⟨cg4_0, cg4_1, cg4_2, cg4_3, cg4_4, cg4_5, cg4_6, cg4_7⟩ := cz8_ HXg4
 go_wp2_with (first | (go_at_call 95; refine (down_calls ms.length a1_6 _).mono ?_; rintro e w9 ⟨rfl, hd1, hd2, hb9⟩; have HD1 := m_ hd1; have HD2 := m_ hd2; have HBL := m_ (HB.out.size); clear cg4_0 cg4_1 cg4_2 cg4_3 cg4_4 cg4_5 cg4_6 cg4_7; replace HXg3 := m_ (a1_ HXg3.out hb9); replace HXg4 := m_ (a1_ HXg4.out hb9); replace HXg5 := m_ (a1_ HXg5.out hb9); replace HXg6 := m_ (a1_ HXg6.out hb9); replace HXg7 := m_ (a1_ HXg7.out hb9); replace HXg10 := m_ (a1_ HXg10.out hb9); replace HB := m_ (b0_ HB.out hb9); clear hb9 hd1 hd2))
 refine range_try (gf := 117) (lb := #[.pointer (some ⟨wB.heap.size, 0, none⟩), .pointer (some ⟨wB.heap.size + 1, 0, none⟩)]) rfl (enters_of Try.func117 (by kernel_rfl) rfl)
  (enc := fun x : Int => #[.int .i64 x]) (down_goes _ _ ms.length a1_6 _ HD1.out HD2.out (by have := HMN.out; omega) (by have := HMN.out; omega)) (fun _ => rfl)
  (fun x => ∀ i : Nat, (downL ms.length a1_6)[i]? = some x → ∃ p, ts[i]? = some (p, false)) (fun x W => ∃ p : List S52 × Int, (∀ i : Nat, (downL ms.length a1_6)[i]? = some x → ts[i]? = some (p.1, true)) ∧ Stands w g6 g7 (p.1, 0) W) ?hRx
  (fun x a' _ => a' = { tmps := #[.agg #[.int .i64 a0_0, .int .i64 a0_1, .int .i64 a0_2, .int .i64 a0_3, .slice A0_4 l0_4.length c0_4, .slice A0_5 l0_5.length c0_5, .slice A0_6 l0_6.length c0_6, .slice A0_7 l0_7.length c0_7, .slice A0_8 l0_8.length c0_8], .agg #[.int .i64 a1_0, .int .i64 a1_1, .int .i64 a1_2, .int .i64 a1_3, .int .i64 a1_4, .int .i64 a1_5, .int .i64 a1_6, .int .i64 a1_7], .int .i64 u, .pointer (some ⟨g3, 0, none⟩), .pointer (some ⟨g4, 0, none⟩), .pointer (some ⟨g5, 0, none⟩), .pointer (some ⟨g6, 0, none⟩), .pointer (some ⟨g7, 0, none⟩), .slice Am ms.length cm, .int .i64 0, .pointer (some ⟨g10, 0, none⟩), .int .i64 x, undef, undef, .tuple #[.slice Am ms.length cm, .int .i64 0], .agg #[.int .i64 a0_0, .int .i64 a0_1, .int .i64 a0_2, .int .i64 a0_3, .slice A0_4 l0_4.length c0_4, .slice A0_5 l0_5.length c0_5, .slice A0_6 l0_6.length c0_6, .slice A0_7 l0_7.length c0_7, .slice A0_8 l0_8.length c0_8], .agg #[.int .i64 a1_0, .int .i64 a1_1, .int .i64 a1_2, .int .i64 a1_3, .int .i64 a1_4, .int .i64 a1_5, .int .i64 a1_6, .int .i64 a1_7], .tuple #[.slice Am ms.length cm, .int .i64 0], .slice Am ms.length cm, .int .i64 0, .int .i64 0, .bool false, undef, .func (.func 96) #[] #[.pointer (some ⟨g3, 0, none⟩), .pointer (some ⟨g4, 0, none⟩), .pointer (some ⟨g5, 0, none⟩)], .slice Am ms.length cm, .int .i64 ms.length, .pointer (some ⟨g4, 4, none⟩), .pointer (some ⟨g4, 6, none⟩), .int .i64 a1_6, .func (.func 117) #[] #[.pointer (some ⟨wB.heap.size, 0, none⟩), .pointer (some ⟨wB.heap.size + 1, 0, none⟩)], .int .i64 x, undef, undef, undef, undef, undef, undef, undef, undef], defers := [] }) (fun _ _ => ownFrom_pure (β := Unit) _ _) ?assign ?body ?done ?stop
 case hRx =>
  rintro y _ A C row ⟨p, hp, hs⟩ hg hr
  exact ⟨p, hp, Stands.own HB.out.size () A C row hs hg hr⟩
 case assign =>
  intro l x W K hx hB hK
  gi_wp2
  exact hK _ _ (Below.refl _ _) rfl
 case body =>
  rintro l x a' W hx hBW rfl
  obtain ⟨i0, hi0⟩ := List.getElem?_of_mem hx
  obtain ⟨px, bx, ht0, hpx, hsx⟩ := HTS.out.2 i0 x hi0
  have hall : ∀ i : Nat, (downL ms.length a1_6)[i]? = some x → ts[i]? = some (px.1, bx) := fun i hi => by
   obtain ⟨p', b', h1, h2, h3⟩ := HTS.out.2 i x hi
   rw [hpx] at h2
   have h2 := Option.some.inj h2
   subst h2
   rw [hsx] at h3
   have h3 := Option.some.inj h3
   subst h3
   exact h1
  have HPx := m_ hpx
  have HSx := m_ hsx
  have HAL := m_ hall
  have HBW := m_ (b0_ HB.out hBW)
  have HS9 := m_ hBW.size
  have HBQ := m_ HB.out.size
  replace HXg3 := m_ (a1_ HXg3.out hBW)
  replace HXg4 := m_ (a1_ HXg4.out hBW)
  replace HXg5 := m_ (a1_ HXg5.out hBW)
  replace HXg6 := m_ (a1_ HXg6.out hBW)
  replace HXg7 := m_ (a1_ HXg7.out hBW)
  replace HXg10 := m_ (a1_ HXg10.out hBW)
  clear HB hBW hx ht0 hpx hsx hall hi0 HD1 HD2 HM HTS
  have HB := HBW
  clear HBW
  have cg10_0 : W.cell? ⟨g10, 0, none⟩ = some (.func (.func 96) #[] #[.pointer (some ⟨g3, 0, none⟩), .pointer (some ⟨g4, 0, none⟩), .pointer (some ⟨g5, 0, none⟩)]) := (a0_ HXg10.out 0).trans rfl
  cases bx with
  | true =>
   gi_wp2_with (first | ((try refine ⟨trivial, ?_⟩); gi_at_call 96; refine (CallsIn.inRound l (callsIn_wide.2 (try_calls ks a0_0 a0_1 a0_2 a0_3 A0_4 c0_4 l0_4 A0_5 c0_5 l0_5 A0_6 c0_6 l0_6 A0_7 c0_7 l0_7 A0_8 c0_8 l0_8 a1_0 a1_1 a1_2 a1_3 a1_4 a1_5 a1_6 a1_7 u x px _ g3 g4 g5 _ (Kd.C_below HR0_4.out (HB.out)) HC0_4.out (Kd.C_below HR0_5.out (HB.out)) HC0_5.out (Kd.C_below HR0_6.out (HB.out)) HC0_6.out (Kd.C_below HR0_7.out (HB.out)) HC0_7.out (Kd.C_below HR0_8.out (HB.out)) HC0_8.out HXg3.out HXg4.out HXg5.out HPx.out HSx.out))).mono ?_; rintro e wp ⟨vp, rfl, hrp, hbp⟩; obtain ⟨Ap, cp, rfl⟩ := Kd.R_slice hrp; have HBP := m_ hbp; have HRP := m_ hrp; clear cg10_0; replace HXg3 := m_ (a1_ HXg3.out hbp); replace HXg4 := m_ (a1_ HXg4.out hbp); replace HXg5 := m_ (a1_ HXg5.out hbp); replace HXg6 := m_ (a1_ HXg6.out hbp); replace HXg7 := m_ (a1_ HXg7.out hbp); replace HXg10 := m_ (a1_ HXg10.out hbp); replace HB := m_ (b0_ HB.out hbp); clear hbp hrp; have zg6 : wp.frozen? ⟨g6, 0, none⟩ = false := a2_ HXg6.out 0; have zg7 : wp.frozen? ⟨g7, 0, none⟩ = false := a2_ HXg7.out 0; have cg6_0 : wp.cell? ⟨g6, 0, none⟩ = some (.slice none 0 0) := (a0_ HXg6.out 0).trans rfl; have cg7_0 : wp.cell? ⟨g7, 0, none⟩ = some (.int .i64 0) := (a0_ HXg7.out 0).trans rfl; have n67 := Ng6_g7.out))
   have h6 : ((wp.setCell ⟨g6, 0, none⟩ (.slice Ap px.1.length cp)).setCell ⟨g7, 0, none⟩ (.int .i64 0)).heap[g6]? = some (.cells #[.slice Ap px.1.length cp] 39 (0, 0)) := c7_ (d4_ HXg6.out 0 _ rfl) n67 _
   have h7 : ((wp.setCell ⟨g6, 0, none⟩ (.slice Ap px.1.length cp)).setCell ⟨g7, 0, none⟩ (.int .i64 0)).heap[g7]? = some (.cells #[.int .i64 0] 32 (0, 0)) := d4_ (c7_ HXg7.out n67.symm _) 0 _ rfl
   have hr1 := Kd.R_grown2 HRP.out rfl (grown_set (j := 0) (v := .slice Ap px.1.length cp) (d6_ wp (some g6))) (fun k hk => by injection hk with hk; subst hk; exact Kd.R_ne HRP.out HXg6.out (by decide))
   have hx7 : (wp.setCell ⟨g6, 0, none⟩ (.slice Ap px.1.length cp)).heap[g7]? = some (.cells #[.int .i64 0] 32 (0, 0)) := c7_ HXg7.out n67.symm _
   have hr2 := Kd.R_grown2 hr1 rfl (grown_set (j := 0) (v := .int .i64 0) (d6_ _ (some g7))) (fun k hk => by injection hk with hk; subst hk; exact Kd.R_ne hr1 hx7 (by decide))
   refine ⟨(keepsFrom_below HBP.out).trans (((KeepsOthers.setCell _ _ _).trans (KeepsOthers.setCell _ _ _)).from _), px, HAL.out, _, h6, h7, Kd.R_lower hr2 ?_, b6_ (b6_ HB.out Gg6) Gg7⟩
   have h2 := HS9.out
   have h6 := HBQ.out
   omega
  | false =>
   gi_wp2_with (first | ((try refine ⟨trivial, ?_⟩); gi_at_call 96; refine (CallsIn.inRound l (callsIn_wide.2 (try_calls ks a0_0 a0_1 a0_2 a0_3 A0_4 c0_4 l0_4 A0_5 c0_5 l0_5 A0_6 c0_6 l0_6 A0_7 c0_7 l0_7 A0_8 c0_8 l0_8 a1_0 a1_1 a1_2 a1_3 a1_4 a1_5 a1_6 a1_7 u x px _ g3 g4 g5 _ (Kd.C_below HR0_4.out (HB.out)) HC0_4.out (Kd.C_below HR0_5.out (HB.out)) HC0_5.out (Kd.C_below HR0_6.out (HB.out)) HC0_6.out (Kd.C_below HR0_7.out (HB.out)) HC0_7.out (Kd.C_below HR0_8.out (HB.out)) HC0_8.out HXg3.out HXg4.out HXg5.out HPx.out HSx.out))).mono ?_; rintro e wp ⟨vp, rfl, hrp, hbp⟩; obtain ⟨Ap, cp, rfl⟩ := Kd.R_slice hrp; have HBP := m_ hbp; have HRP := m_ hrp; clear cg10_0; replace HXg3 := m_ (a1_ HXg3.out hbp); replace HXg4 := m_ (a1_ HXg4.out hbp); replace HXg5 := m_ (a1_ HXg5.out hbp); replace HXg6 := m_ (a1_ HXg6.out hbp); replace HXg7 := m_ (a1_ HXg7.out hbp); replace HXg10 := m_ (a1_ HXg10.out hbp); replace HB := m_ (b0_ HB.out hbp); clear hbp hrp; have zg6 : wp.frozen? ⟨g6, 0, none⟩ = false := a2_ HXg6.out 0; have zg7 : wp.frozen? ⟨g7, 0, none⟩ = false := a2_ HXg7.out 0; have cg6_0 : wp.cell? ⟨g6, 0, none⟩ = some (.slice none 0 0) := (a0_ HXg6.out 0).trans rfl; have cg7_0 : wp.cell? ⟨g7, 0, none⟩ = some (.int .i64 0) := (a0_ HXg7.out 0).trans rfl; have n67 := Ng6_g7.out))
   exact ⟨HBP.out, fun i hi => ⟨_, HAL.out i hi⟩⟩
 case done =>
  intro D W hD hf hBW hK
  have hrr : rr = ([], 5) := by
   rw [HRR.out]
   have : ts.find? (fun x => x.2) = none := List.find?_eq_none.2 fun x hx => by
    obtain ⟨i, hi⟩ := List.getElem?_of_mem hx
    have hil : i < (downL ms.length a1_6).length := by
     rw [← HTS.out.1]; exact (List.getElem?_eq_some_iff.1 hi).1
    obtain ⟨p, hp⟩ := hf _ (List.getElem_mem hil) i (List.getElem?_eq_getElem hil)
    rw [hi] at hp
    rw [Option.some.inj hp]; simp
   unfold fillR; rw [this]
  subst hrr
  replace HXg6 := m_ (a1_ HXg6.out hBW)
  replace HXg7 := m_ (a1_ HXg7.out hBW)
  have HBW := m_ (b0_ HB.out hBW)
  have HD := m_ hD
  have HK := m_ hK
  have HW9 := m_ HB.out.size
  clear HXg3 HXg4 HXg5 HXg10 HB hBW hK hD hf HD1 HD2 HTS HRR
  have z6 : W.frozen? ⟨g6, 0, none⟩ = false := a2_ HXg6.out 0
  have z7 : W.frozen? ⟨g7, 0, none⟩ = false := a2_ HXg7.out 0
  have c6 : W.cell? ⟨g6, 0, none⟩ = some (.slice none 0 0) := (a0_ HXg6.out 0).trans rfl
  have c7 : W.cell? ⟨g7, 0, none⟩ = some (.int .i64 0) := (a0_ HXg7.out 0).trans rfl
  have n67 := Ng6_g7.out
  go_wp2
  have h6 : ((W.setCell ⟨g6, 0, none⟩ (.slice none 0 0)).setCell ⟨g7, 0, none⟩ (.int .i64 5)).heap[g6]? = some (.cells #[.slice none 0 0] 39 (0, 0)) := c7_ (d4_ HXg6.out 0 _ rfl) n67 _
  have h7 : ((W.setCell ⟨g6, 0, none⟩ (.slice none 0 0)).setCell ⟨g7, 0, none⟩ (.int .i64 5)).heap[g7]? = some (.cells #[.int .i64 5] 32 (0, 0)) := d4_ (c7_ HXg7.out n67.symm _) 0 _ rfl
  have hk := ((KeepsOthers.setCell W ⟨g6, 0, none⟩ (.slice none 0 0)).trans (KeepsOthers.setCell _ ⟨g7, 0, none⟩ (.int .i64 5))).same D _ HK.out rfl
  have hs : Stands w g6 g7 ([], 5) ((W.setCell ⟨g6, 0, none⟩ (.slice none 0 0)).setCell ⟨g7, 0, none⟩ (.int .i64 5)) := ⟨_, h6, h7, Kd.R_nil _ _ _ _ _, b6_ (b6_ HBW.out Gg6) Gg7⟩
  obtain ⟨v, k4, k5, kr, kb⟩ := hs.mark (by have := HD.out; have := HW9.out; omega) hk
  exact marks_ret1 hk (results58 rfl rfl k4 k5) ⟨v, rfl, kr, kb⟩
 case stop =>
  intro D k x W hD hx hf ⟨p, hp, hs⟩ hK
  have hrr : rr = (p.1, 0) := by
   rw [HRR.out]
   have : ts.find? (fun x => x.2) = some (p.1, true) := by
    rw [List.find?_eq_some_iff_getElem]
    obtain ⟨hk, he⟩ := List.getElem?_eq_some_iff.1 (hp k hx)
    refine ⟨rfl, k, hk, he, fun j hj => ?_⟩
    have hjl : j < (downL ms.length a1_6).length := by rw [← HTS.out.1]; omega
    obtain ⟨q, hq⟩ := hf (downL ms.length a1_6)[j] (List.mem_take_iff_getElem.2 ⟨j, by omega, rfl⟩) j (List.getElem?_eq_getElem hjl)
    rw [List.getElem?_eq_getElem (by omega)] at hq
    rw [Option.some.inj hq]; simp
   unfold fillR; rw [this]
  subst hrr
  have hw := HB.out.size
  obtain ⟨v, k4, k5, kr, kb⟩ := hs.mark (by omega) hK
  exact marks_ret1 hK (results58 rfl rfl k4 k5) ⟨v, rfl, kr, kb⟩
theorem elastic_Fill.calls (k : Nat) (a0_0 a0_1 a0_2 a0_3 : Int) (A0_4 : Option Addr) (c0_4 : Nat) (l0_4 : List (S51)) (A0_5 : Option Addr) (c0_5 : Nat) (l0_5 : List (S24)) (A0_6 : Option Addr) (c0_6 : Nat) (l0_6 : List (S41)) (A0_7 : Option Addr) (c0_7 : Nat) (l0_7 : List (S105)) (A0_8 : Option Addr) (c0_8 : Nat) (l0_8 : List (S149)) (a1_0 a1_1 a1_2 a1_3 a1_4 a1_5 a1_6 a1_7 a2 : Int) (r1 : List (S52)) (r2 : Int) (w : World) (hr0_4 : Kd.C k51 w A0_4 l0_4.length l0_4) (hc0_4 : l0_4.length ≤ c0_4) (hr0_5 : Kd.C k24 w A0_5 l0_5.length l0_5) (hc0_5 : l0_5.length ≤ c0_5) (hr0_6 : Kd.C k41 w A0_6 l0_6.length l0_6) (hc0_6 : l0_6.length ≤ c0_6) (hr0_7 : Kd.C k105 w A0_7 l0_7.length l0_7) (hc0_7 : l0_7.length ≤ c0_7) (hr0_8 : Kd.C k149 w A0_8 l0_8.length l0_8) (hc0_8 : l0_8.length ≤ c0_8) (h : elastic_Fill.f k a0_0 a0_1 a0_2 a0_3 l0_4 l0_5 l0_6 l0_7 l0_8 a1_0 a1_1 a1_2 a1_3 a1_4 a1_5 a1_6 a1_7 a2 = some (r1, r2)) :
  Calls Try.prog 58 #[.agg #[.int .i64 a0_0, .int .i64 a0_1, .int .i64 a0_2, .int .i64 a0_3, .slice A0_4 l0_4.length c0_4, .slice A0_5 l0_5.length c0_5, .slice A0_6 l0_6.length c0_6, .slice A0_7 l0_7.length c0_7, .slice A0_8 l0_8.length c0_8], .agg #[.int .i64 a1_0, .int .i64 a1_1, .int .i64 a1_2, .int .i64 a1_3, .int .i64 a1_4, .int .i64 a1_5, .int .i64 a1_6, .int .i64 a1_7], .int .i64 a2] w fun e w' => ∃ v0_ : Value, e = .returned (.tuple #[v0_, .int .i64 r2]) ∧ Kd.R k52 52 w' w.heap.size (fun _ => True) v0_ r1 ∧ Below w.heap.size w w' := by
 unfold elastic_Fill.f at h
 obtain ⟨⟨ms, e0⟩, hM, h⟩ := Option.bind_eq_some_iff.1 h
 simp only at h
 by_cases he : e0 = 0
 ·rw [if_pos he] at h
  subst he
  by_cases hb : -1000000 ≤ a1_6 ∧ a1_6 ≤ 1000000 ∧ ms.length ≤ 1000000
  ·rw [if_pos hb] at h
   obtain ⟨ts, hts, h⟩ := Option.bind_eq_some_iff.1 h
   have h := Option.some.inj h
   have := fill_yes k a0_0 a0_1 a0_2 a0_3 A0_4 c0_4 l0_4 A0_5 c0_5 l0_5 A0_6 c0_6 l0_6 A0_7 c0_7 l0_7 A0_8 c0_8 l0_8 a1_0 a1_1 a1_2 a1_3 a1_4 a1_5 a1_6 a1_7 a2 ms ts _ w hr0_4 hc0_4 hr0_5 hc0_5 hr0_6 hc0_6 hr0_7 hc0_7 hr0_8 hc0_8 hM ⟨⟨hb.1, hb.2.1⟩, hb.2.2⟩ hts rfl
   rw [h] at this
   exact this
  ·rw [if_neg hb] at h; cases h
 ·rw [if_neg he] at h
  have h := Option.some.inj h
  injection h with h1 h2
  subst h1 h2
  exact fill_no a0_0 a0_1 a0_2 a0_3 A0_4 c0_4 l0_4 A0_5 c0_5 l0_5 A0_6 c0_6 l0_6 A0_7 c0_7 l0_7 A0_8 c0_8 l0_8 a1_0 a1_1 a1_2 a1_3 a1_4 a1_5 a1_6 a1_7 a2 ms e0 w hr0_4 hc0_4 hr0_5 hc0_5 hr0_6 hc0_6 hr0_7 hc0_7 hr0_8 hc0_8 hM he
theorem grown_bj {W W' : World} (h : Below W.heap.size W W') : W.grownBy W' none := ⟨h.os, h.tape, h.output, h.size, fun k hk _ => h.block k hk⟩
def isHd (h : Int) (x : S105) : Bool := decide (h ≠ 0) && decide (x.f0.f0 = h)
def jobsL (h : Int) (hd : Bool) (l : List S105) : List S88 := (l.filter fun x => isHd h x == hd).map fun x => x.f0
theorem jobsL_step {h : Int} {hd : Bool} {l : List S105} {i : Nat} (hi : i < l.length) : jobsL h hd (l.take (i + 1)) = jobsL h hd (l.take i) ++ (if (isHd h l[i] == hd) = true then [l[i].f0] else []) := by
 unfold jobsL
 rw [List.take_succ_eq_append_getElem hi, List.filter_append, List.map_append]
 congr 1
 by_cases e : (isHd h l[i] == hd) = true
 ·rw [if_pos e]; simp [List.filter_cons, e]
 ·rw [if_neg e]; simp [List.filter_cons, e]
theorem jobsL_pre (h : Int) (hd : Bool) (l : List S105) (i : Nat) : jobsL h hd (l.take i) <+: jobsL h hd l := by
 refine ⟨jobsL h hd (l.drop i), ?_⟩
 unfold jobsL
 rw [← List.map_append, ← List.filter_append, List.take_append_drop]
def encJ (x : S88) : Array Value := #[.agg #[.int .i64 x.f0, .int .i64 x.f1, .int .i64 x.f2, .int .i64 x.f3, .int .i64 x.f4.f0, .int .i64 x.f4.f1, .int .i64 x.f4.f2, .int .i64 x.f4.f3]]
set_option maxHeartbeats 2000000 in
set_option maxRecDepth 100000 in
theorem jobs_calls (a0_0 a0_1 a0_2 a0_3 : Int) (A0_4 : Option Addr) (c0_4 : Nat) (l0_4 : List (S51)) (A0_5 : Option Addr) (c0_5 : Nat) (l0_5 : List (S24)) (A0_6 : Option Addr) (c0_6 : Nat) (l0_6 : List (S41)) (A0_7 : Option Addr) (c0_7 : Nat) (l0_7 : List (S105)) (A0_8 : Option Addr) (c0_8 : Nat) (l0_8 : List (S149)) (hd : Bool) (w : World) : Calls Try.prog 118 #[.agg #[.int .i64 a0_0, .int .i64 a0_1, .int .i64 a0_2, .int .i64 a0_3, .slice A0_4 l0_4.length c0_4, .slice A0_5 l0_5.length c0_5, .slice A0_6 l0_6.length c0_6, .slice A0_7 l0_7.length c0_7, .slice A0_8 l0_8.length c0_8], .bool hd] w fun e w' => e = .returned (.func (.func 135) #[] #[.pointer (some ⟨w.heap.size, 0, none⟩), .pointer (some ⟨w.heap.size + 1, 0, none⟩)]) ∧
  w'.heap[w.heap.size]? = some (.cells #[.int .i64 a0_0, .int .i64 a0_1, .int .i64 a0_2, .int .i64 a0_3, .slice A0_4 l0_4.length c0_4, .slice A0_5 l0_5.length c0_5, .slice A0_6 l0_6.length c0_6, .slice A0_7 l0_7.length c0_7, .slice A0_8 l0_8.length c0_8] 86 (0, 0)) ∧ w'.heap[w.heap.size + 1]? = some (.cells #[.bool hd] 4 (0, 0)) ∧ Below w.heap.size w w' := by
 have hu4 := Try.underlying4
 have hu86 := Try.underlying86
 go_enter Try.func118, Try.ntmps118
 go_wp2
 go_ret
 refine ⟨rfl, ?_, ?_, b5_ (b5_ (Below.refl _ _) _) _⟩
 ·exact b9_ (heap_alloc_new w _) _
 ·have := heap_alloc_new (w.alloc (.cells #[.int .i64 a0_0, .int .i64 a0_1, .int .i64 a0_2, .int .i64 a0_3, .slice A0_4 l0_4.length c0_4, .slice A0_5 l0_5.length c0_5, .slice A0_6 l0_6.length c0_6, .slice A0_7 l0_7.length c0_7, .slice A0_8 l0_8.length c0_8] 86)) (.cells #[.bool hd] 4)
  rwa [World.size_alloc] at this
set_option maxHeartbeats 8000000 in
set_option maxRecDepth 100000 in
theorem jobs_goes (gl gb : Nat) (hd : Bool) (a0_0 a0_1 a0_2 a0_3 : Int) (A0_4 : Option Addr) (c0_4 : Nat) (l0_4 : List (S51)) (A0_5 : Option Addr) (c0_5 : Nat) (l0_5 : List (S24)) (A0_6 : Option Addr) (c0_6 : Nat) (l0_6 : List (S41)) (A0_7 : Option Addr) (c0_7 : Nat) (l0_7 : List (S105)) (A0_8 : Option Addr) (c0_8 : Nat) (l0_8 : List (S149)) (w : World) (hl : w.heap[gl]? = some (.cells #[.int .i64 a0_0, .int .i64 a0_1, .int .i64 a0_2, .int .i64 a0_3, .slice A0_4 l0_4.length c0_4, .slice A0_5 l0_5.length c0_5, .slice A0_6 l0_6.length c0_6, .slice A0_7 l0_7.length c0_7, .slice A0_8 l0_8.length c0_8] 86 (0, 0))) (hb : w.heap[gb]? = some (.cells #[.bool hd] 4 (0, 0))) (hr : Kd.C k105 w A0_7 l0_7.length l0_7) (hn : l0_7.length ≤ 1000000) :
  GoesOver Try.prog 135 #[.pointer (some ⟨gl, 0, none⟩), .pointer (some ⟨gb, 0, none⟩)] encJ (jobsL a0_1 hd l0_7) w := by
 intro l J Jx W hW hJ hJx hY h0
 have hl1 := (Array.getElem?_eq_some_iff.1 hl).1
 have hb1 := (Array.getElem?_eq_some_iff.1 hb).1
 have HL := m_ (fun (X : World) (h : Below w.heap.size w X) => (h.block gl hl1).trans hl)
 have HBX := m_ (fun (X : World) (h : Below w.heap.size w X) => (h.block gb hb1).trans hb)
 have HR := m_ (fun (X : World) (h : Below w.heap.size w X) => Kd.C_below hr h)
 have HN := m_ hn
 have HW := m_ hW
 have HJ := m_ hJ
 have HXgl := m_ (HL.out W hW)
 clear hl hb hl1 hb1 hW hr hn hJ
 have hu86 := Try.underlying86
 have hu105 := Try.underlying105
 have hu88 := Try.underlying88
 obtain ⟨cgl_0, cgl_1, cgl_2, cgl_3, cgl_4, cgl_5, cgl_6, cgl_7, cgl_8⟩ := cz9_ HXgl
 refine callsIn_of_wp Try.func135 rfl trivial ?_ rfl
 simp only [Try.ntmps135, List.size_toArray, List.length_cons, List.length_nil, Nat.reduceAdd, Nat.reduceSub, Array.replicate_succ, Array.replicate_zero, List.push_toArray, List.append_toArray, List.nil_append, List.cons_append]
 gi_wp2
 gi_loopw [10] (fun v10 wr => ∃ (pre : List {x // x ∈ jobsL a0_1 hd l0_7}) (i : Nat), A_ (pre.map (fun y => y.1) = jobsL a0_1 hd (l0_7.take i)) ∧ i ≤ l0_7.length ∧ v10 = .int .i64 (i : Int) ∧ A_ (J pre wr) ∧ A_ (Below w.heap.size w wr) ∧ A_ (W.heap.size ≤ wr.heap.size))
  (fun v10 _ => l0_7.length - (intOf v10).toNat)
 case atStart => exact ⟨[], 0, ⟨rfl⟩, Nat.zero_le _, rfl, ⟨h0⟩, HW, ⟨Nat.le_refl _⟩⟩
 case round =>
  clear cgl_0 cgl_1 cgl_2 cgl_3 cgl_4 cgl_5 cgl_6 cgl_7 cgl_8
  clear HXgl h0
  obtain ⟨pre, i, HP, hi, rfl, HJP, HB, HSZ⟩ := hrel
  have HXgl := m_ (HL.out wr HB.out)
  have HXgb := m_ (HBX.out wr HB.out)
  by_cases hlt : i < l0_7.length
  ·have hlt' : (i : Int) < l0_7.length := by omega
   have h0i : 0 ≤ (i : Int) := by omega
   have hrC := HR.out wr HB.out
   obtain ⟨ad1, ee, y0, y1, y2, y3, y4, y5, y6, y7, y8, y9⟩ := at_T105 hrC (i : Int) h0i hlt'
   cases ee
   simp only [Int.toNat_natCast] at y0 y1 y2 y3 y4 y5 y6 y7 y8 y9
   have hx : a6_ l0_7 (i : Int) = l0_7[i] := by simp [a6_, List.getD_eq_getElem?_getD, List.getElem?_eq_getElem hlt]
   have hst := jobsL_step (h := a0_1) (hd := hd) hlt
   have hmem := List.getElem_mem hlt
   rw [hx] at y0 y1 y2 y3 y4 y5 y6 y7 y8 y9
   generalize l0_7[i] = x at *
   have HST := m_ hst
   have HMEM := m_ hmem
   have HLT := m_ hlt
   have hib : (i : Int) ≤ 1000000 := by have := HN.out; omega
   clear hst hmem hx hlt hrC
   obtain ⟨cgl_0, cgl_1, cgl_2, cgl_3, cgl_4, cgl_5, cgl_6, cgl_7, cgl_8⟩ := cz9_ HXgl
   have cgb_0 : wr.cell? ⟨gb, 0, none⟩ = some (.bool hd) := (a0_ HXgb.out 0).trans rfl
   have HXW := b9_ HXgl.out (.cells #[.int .i64 x.f0.f0, .int .i64 x.f0.f1, .int .i64 x.f0.f2, .int .i64 x.f0.f3, .int .i64 x.f0.f4.f0, .int .i64 x.f0.f4.f1, .int .i64 x.f0.f4.f2, .int .i64 x.f0.f4.f3, .int .i64 x.f1, .int .i64 x.f2] 105)
   have HXV := b9_ HXgb.out (.cells #[.int .i64 x.f0.f0, .int .i64 x.f0.f1, .int .i64 x.f0.f2, .int .i64 x.f0.f3, .int .i64 x.f0.f4.f0, .int .i64 x.f0.f4.f1, .int .i64 x.f0.f4.f2, .int .i64 x.f0.f4.f3, .int .i64 x.f1, .int .i64 x.f2] 105)
   have HXN := blk_new wr (.cells #[.int .i64 x.f0.f0, .int .i64 x.f0.f1, .int .i64 x.f0.f2, .int .i64 x.f0.f3, .int .i64 x.f0.f4.f0, .int .i64 x.f0.f4.f1, .int .i64 x.f0.f4.f2, .int .i64 x.f0.f4.f3, .int .i64 x.f1, .int .i64 x.f2] 105)
   have d1 : (wr.alloc (.cells #[.int .i64 x.f0.f0, .int .i64 x.f0.f1, .int .i64 x.f0.f2, .int .i64 x.f0.f3, .int .i64 x.f0.f4.f0, .int .i64 x.f0.f4.f1, .int .i64 x.f0.f4.f2, .int .i64 x.f0.f4.f3, .int .i64 x.f1, .int .i64 x.f2] 105)).cell? ⟨gl, 1, none⟩ = some (.int .i64 a0_1) := (a0_ HXW 1).trans rfl
   have d7 : (wr.alloc (.cells #[.int .i64 x.f0.f0, .int .i64 x.f0.f1, .int .i64 x.f0.f2, .int .i64 x.f0.f3, .int .i64 x.f0.f4.f0, .int .i64 x.f0.f4.f1, .int .i64 x.f0.f4.f2, .int .i64 x.f0.f4.f3, .int .i64 x.f1, .int .i64 x.f2] 105)).cell? ⟨gl, 7, none⟩ = some (.slice (some ad1) l0_7.length c0_7) := (a0_ HXW 7).trans rfl
   have db : (wr.alloc (.cells #[.int .i64 x.f0.f0, .int .i64 x.f0.f1, .int .i64 x.f0.f2, .int .i64 x.f0.f3, .int .i64 x.f0.f4.f0, .int .i64 x.f0.f4.f1, .int .i64 x.f0.f4.f2, .int .i64 x.f0.f4.f3, .int .i64 x.f1, .int .i64 x.f2] 105)).cell? ⟨gb, 0, none⟩ = some (.bool hd) := (a0_ HXV 0).trans rfl
   have e0 : (wr.alloc (.cells #[.int .i64 x.f0.f0, .int .i64 x.f0.f1, .int .i64 x.f0.f2, .int .i64 x.f0.f3, .int .i64 x.f0.f4.f0, .int .i64 x.f0.f4.f1, .int .i64 x.f0.f4.f2, .int .i64 x.f0.f4.f3, .int .i64 x.f1, .int .i64 x.f2] 105)).cell? ⟨wr.heap.size, 0, none⟩ = some (.int .i64 x.f0.f0) := (a0_ HXN 0).trans rfl
   have e1 : (wr.alloc (.cells #[.int .i64 x.f0.f0, .int .i64 x.f0.f1, .int .i64 x.f0.f2, .int .i64 x.f0.f3, .int .i64 x.f0.f4.f0, .int .i64 x.f0.f4.f1, .int .i64 x.f0.f4.f2, .int .i64 x.f0.f4.f3, .int .i64 x.f1, .int .i64 x.f2] 105)).cell? ⟨wr.heap.size, 1, none⟩ = some (.int .i64 x.f0.f1) := (a0_ HXN 1).trans rfl
   have e2 : (wr.alloc (.cells #[.int .i64 x.f0.f0, .int .i64 x.f0.f1, .int .i64 x.f0.f2, .int .i64 x.f0.f3, .int .i64 x.f0.f4.f0, .int .i64 x.f0.f4.f1, .int .i64 x.f0.f4.f2, .int .i64 x.f0.f4.f3, .int .i64 x.f1, .int .i64 x.f2] 105)).cell? ⟨wr.heap.size, 2, none⟩ = some (.int .i64 x.f0.f2) := (a0_ HXN 2).trans rfl
   have e3 : (wr.alloc (.cells #[.int .i64 x.f0.f0, .int .i64 x.f0.f1, .int .i64 x.f0.f2, .int .i64 x.f0.f3, .int .i64 x.f0.f4.f0, .int .i64 x.f0.f4.f1, .int .i64 x.f0.f4.f2, .int .i64 x.f0.f4.f3, .int .i64 x.f1, .int .i64 x.f2] 105)).cell? ⟨wr.heap.size, 3, none⟩ = some (.int .i64 x.f0.f3) := (a0_ HXN 3).trans rfl
   have e4 : (wr.alloc (.cells #[.int .i64 x.f0.f0, .int .i64 x.f0.f1, .int .i64 x.f0.f2, .int .i64 x.f0.f3, .int .i64 x.f0.f4.f0, .int .i64 x.f0.f4.f1, .int .i64 x.f0.f4.f2, .int .i64 x.f0.f4.f3, .int .i64 x.f1, .int .i64 x.f2] 105)).cell? ⟨wr.heap.size, 4, none⟩ = some (.int .i64 x.f0.f4.f0) := (a0_ HXN 4).trans rfl
   have e5 : (wr.alloc (.cells #[.int .i64 x.f0.f0, .int .i64 x.f0.f1, .int .i64 x.f0.f2, .int .i64 x.f0.f3, .int .i64 x.f0.f4.f0, .int .i64 x.f0.f4.f1, .int .i64 x.f0.f4.f2, .int .i64 x.f0.f4.f3, .int .i64 x.f1, .int .i64 x.f2] 105)).cell? ⟨wr.heap.size, 5, none⟩ = some (.int .i64 x.f0.f4.f1) := (a0_ HXN 5).trans rfl
   have e6 : (wr.alloc (.cells #[.int .i64 x.f0.f0, .int .i64 x.f0.f1, .int .i64 x.f0.f2, .int .i64 x.f0.f3, .int .i64 x.f0.f4.f0, .int .i64 x.f0.f4.f1, .int .i64 x.f0.f4.f2, .int .i64 x.f0.f4.f3, .int .i64 x.f1, .int .i64 x.f2] 105)).cell? ⟨wr.heap.size, 6, none⟩ = some (.int .i64 x.f0.f4.f2) := (a0_ HXN 6).trans rfl
   have e7 : (wr.alloc (.cells #[.int .i64 x.f0.f0, .int .i64 x.f0.f1, .int .i64 x.f0.f2, .int .i64 x.f0.f3, .int .i64 x.f0.f4.f0, .int .i64 x.f0.f4.f1, .int .i64 x.f0.f4.f2, .int .i64 x.f0.f4.f3, .int .i64 x.f1, .int .i64 x.f2] 105)).cell? ⟨wr.heap.size, 7, none⟩ = some (.int .i64 x.f0.f4.f3) := (a0_ HXN 7).trans rfl
   have HBA := m_ (b5_ (Below.refl wr.heap.size wr) (.cells #[.int .i64 x.f0.f0, .int .i64 x.f0.f1, .int .i64 x.f0.f2, .int .i64 x.f0.f3, .int .i64 x.f0.f4.f0, .int .i64 x.f0.f4.f1, .int .i64 x.f0.f4.f2, .int .i64 x.f0.f4.f3, .int .i64 x.f1, .int .i64 x.f2] 105))
   clear HXW HXV HXN
   have hpl : (isHd a0_1 x == hd) = true → pre.length < (jobsL a0_1 hd l0_7).length := fun hh => by
    have h1 := congrArg List.length HP.out
    have h2 := (jobsL_pre a0_1 hd l0_7 (i + 1)).length_le
    rw [HST.out, if_pos hh, List.length_append] at h2
    rw [List.length_map] at h1
    simp at h2
    omega
   have hin : (isHd a0_1 x == hd) = true → x.f0 ∈ jobsL a0_1 hd l0_7 := fun hh => List.mem_map.2 ⟨x, List.mem_filter.2 ⟨HMEM.out, hh⟩, rfl⟩
   have HPL := m_ hpl
   have HIN := m_ hin
   clear hpl hin
   obtain ⟨b, hbe⟩ : ∃ b, b = isHd a0_1 x := ⟨_, rfl⟩
   rw [← hbe] at HST HPL HIN
   have t1 : b = (if a0_1 = 0 then false else decide (x.f0.f0 = a0_1)) := by
    rw [hbe]; unfold isHd
    by_cases hz : a0_1 = 0
    ·simp [hz]
    ·simp [hz]
   have HT1 := m_ t1
   clear hbe t1
   have HTST : (a0_1 = 0 ∧ b = false) ∨ (a0_1 ≠ 0 ∧ x.f0.f0 = a0_1 ∧ b = true) ∨ (a0_1 ≠ 0 ∧ x.f0.f0 ≠ a0_1 ∧ b = false) := by
    have := HT1.out
    by_cases hz : a0_1 = 0
    ·exact .inl ⟨hz, by rw [this, if_pos hz]⟩
    ·rw [if_neg hz] at this
     by_cases hx : x.f0.f0 = a0_1
     ·exact .inr (.inl ⟨hz, hx, by rw [this, decide_eq_true hx]⟩)
     ·exact .inr (.inr ⟨hz, hx, by rw [this, decide_eq_false hx]⟩)
   clear HT1
   rcases HTST with ⟨hz, rfl⟩ | ⟨hz, hx, rfl⟩ | ⟨hz, hx, rfl⟩
   ·have z1 : (a0_1 != 0) = false := by simpa using hz
    clear hz
    cases hd with
    | true =>
     gi_wp2
     refine ⟨fun _ h => (by cases h), ?_⟩
     gi_wp2
     go_roundw
     case rel => exact ⟨pre, i + 1, ⟨by rw [HP.out, HST.out]; simp⟩, HLT.out, by go_num, ⟨HJ.out _ _ _ none HJP.out (grown_bj HBA.out) (fun r e => by cases e)⟩, ⟨b0_ HB.out HBA.out⟩, ⟨Nat.le_trans HSZ.out HBA.out.size⟩⟩
     case measure => have := HLT.out; simp [intOf]; omega
    | false =>
     have hpl := HPL.out rfl
     have hin := HIN.out rfl
     obtain ⟨fn, tmps, assign, body, hy, hR⟩ := hY pre ⟨x.f0, hin⟩ (wr.alloc (.cells #[.int .i64 x.f0.f0, .int .i64 x.f0.f1, .int .i64 x.f0.f2, .int .i64 x.f0.f3, .int .i64 x.f0.f4.f0, .int .i64 x.f0.f4.f1, .int .i64 x.f0.f4.f2, .int .i64 x.f0.f4.f3, .int .i64 x.f1, .int .i64 x.f2] 105)) (HJ.out _ _ _ none HJP.out (grown_bj HBA.out) (fun r e => by cases e)) hpl
     unfold encJ at hy
     have HHIN := m_ hin
     clear hpl
     gi_wp2
     refine hR.mono ?_
     rintro e W3 (⟨rfl, hJ3, hk3⟩ | ⟨rfl, hJx3⟩)
     ·have HB3 := m_ ((b0_ HB.out HBA.out).trans hk3)
      have HS3 := m_ (Nat.le_trans HSZ.out (Nat.le_trans HBA.out.size hk3.size))
      clear hk3 hy hR
      clear d1 d7 db e0 e1 e2 e3 e4 e5 e6 e7
      gi_wp2
      go_roundw
      case rel => exact ⟨pre ++ [⟨x.f0, hin⟩], i + 1, ⟨by rw [List.map_append, HP.out, HST.out]; rfl⟩, HLT.out, by go_num, ⟨hJ3⟩, HB3, HS3⟩
      case measure => have := HLT.out; simp [intOf]; omega
     ·gi_wp2
      refine bodyPost_ret (results_none rfl _ _ _) rfl ?_
      exact ⟨⟨_, rfl⟩, .inr ⟨pre ++ [⟨x.f0, hin⟩], by
       rw [List.map_append, HP.out]
       have := jobsL_pre a0_1 false l0_7 (i + 1)
       rw [HST.out] at this
       exact this, hJx3⟩⟩
   ·have z1 : (a0_1 != 0) = true := by simpa using hz
    have z2 : (x.f0.f0 == a0_1) = true := by simpa using hx
    clear hz hx
    cases hd with
    | true =>
     have hpl := HPL.out rfl
     have hin := HIN.out rfl
     obtain ⟨fn, tmps, assign, body, hy, hR⟩ := hY pre ⟨x.f0, hin⟩ (wr.alloc (.cells #[.int .i64 x.f0.f0, .int .i64 x.f0.f1, .int .i64 x.f0.f2, .int .i64 x.f0.f3, .int .i64 x.f0.f4.f0, .int .i64 x.f0.f4.f1, .int .i64 x.f0.f4.f2, .int .i64 x.f0.f4.f3, .int .i64 x.f1, .int .i64 x.f2] 105)) (HJ.out _ _ _ none HJP.out (grown_bj HBA.out) (fun r e => by cases e)) hpl
     unfold encJ at hy
     have HHIN := m_ hin
     clear hpl
     gi_wp2
     refine hR.mono ?_
     rintro e W3 (⟨rfl, hJ3, hk3⟩ | ⟨rfl, hJx3⟩)
     ·have HB3 := m_ ((b0_ HB.out HBA.out).trans hk3)
      have HS3 := m_ (Nat.le_trans HSZ.out (Nat.le_trans HBA.out.size hk3.size))
      clear hk3 hy hR
      clear d1 d7 db e0 e1 e2 e3 e4 e5 e6 e7
      gi_wp2
      go_roundw
      case rel => exact ⟨pre ++ [⟨x.f0, hin⟩], i + 1, ⟨by rw [List.map_append, HP.out, HST.out]; rfl⟩, HLT.out, by go_num, ⟨hJ3⟩, HB3, HS3⟩
      case measure => have := HLT.out; simp [intOf]; omega
     ·gi_wp2
      refine bodyPost_ret (results_none rfl _ _ _) rfl ?_
      exact ⟨⟨_, rfl⟩, .inr ⟨pre ++ [⟨x.f0, hin⟩], by
       rw [List.map_append, HP.out]
       have := jobsL_pre a0_1 true l0_7 (i + 1)
       rw [HST.out] at this
       exact this, hJx3⟩⟩
    | false =>
     gi_wp2
     refine ⟨fun _ h => (by cases h), ?_⟩
     gi_wp2
     go_roundw
     case rel => exact ⟨pre, i + 1, ⟨by rw [HP.out, HST.out]; simp⟩, HLT.out, by go_num, ⟨HJ.out _ _ _ none HJP.out (grown_bj HBA.out) (fun r e => by cases e)⟩, ⟨b0_ HB.out HBA.out⟩, ⟨Nat.le_trans HSZ.out HBA.out.size⟩⟩
     case measure => have := HLT.out; simp [intOf]; omega
   ·have z1 : (a0_1 != 0) = true := by simpa using hz
    have z2 : (x.f0.f0 == a0_1) = false := by simpa using hx
    clear hz hx
    cases hd with
    | true =>
     gi_wp2
     refine ⟨fun _ h => (by cases h), ?_⟩
     gi_wp2
     go_roundw
     case rel => exact ⟨pre, i + 1, ⟨by rw [HP.out, HST.out]; simp⟩, HLT.out, by go_num, ⟨HJ.out _ _ _ none HJP.out (grown_bj HBA.out) (fun r e => by cases e)⟩, ⟨b0_ HB.out HBA.out⟩, ⟨Nat.le_trans HSZ.out HBA.out.size⟩⟩
     case measure => have := HLT.out; simp [intOf]; omega
    | false =>
     have hpl := HPL.out rfl
     have hin := HIN.out rfl
     obtain ⟨fn, tmps, assign, body, hy, hR⟩ := hY pre ⟨x.f0, hin⟩ (wr.alloc (.cells #[.int .i64 x.f0.f0, .int .i64 x.f0.f1, .int .i64 x.f0.f2, .int .i64 x.f0.f3, .int .i64 x.f0.f4.f0, .int .i64 x.f0.f4.f1, .int .i64 x.f0.f4.f2, .int .i64 x.f0.f4.f3, .int .i64 x.f1, .int .i64 x.f2] 105)) (HJ.out _ _ _ none HJP.out (grown_bj HBA.out) (fun r e => by cases e)) hpl
     unfold encJ at hy
     have HHIN := m_ hin
     clear hpl
     gi_wp2
     refine hR.mono ?_
     rintro e W3 (⟨rfl, hJ3, hk3⟩ | ⟨rfl, hJx3⟩)
     ·have HB3 := m_ ((b0_ HB.out HBA.out).trans hk3)
      have HS3 := m_ (Nat.le_trans HSZ.out (Nat.le_trans HBA.out.size hk3.size))
      clear hk3 hy hR
      clear d1 d7 db e0 e1 e2 e3 e4 e5 e6 e7
      gi_wp2
      go_roundw
      case rel => exact ⟨pre ++ [⟨x.f0, hin⟩], i + 1, ⟨by rw [List.map_append, HP.out, HST.out]; rfl⟩, HLT.out, by go_num, ⟨hJ3⟩, HB3, HS3⟩
      case measure => have := HLT.out; simp [intOf]; omega
     ·gi_wp2
      refine bodyPost_ret (results_none rfl _ _ _) rfl ?_
      exact ⟨⟨_, rfl⟩, .inr ⟨pre ++ [⟨x.f0, hin⟩], by
       rw [List.map_append, HP.out]
       have := jobsL_pre a0_1 false l0_7 (i + 1)
       rw [HST.out] at this
       exact this, hJx3⟩⟩
  ·obtain rfl : i = l0_7.length := by omega
   have hnn : ¬ ((l0_7.length : Int) < l0_7.length) := by omega
   gi_wp2
   go_end0
   exact ⟨⟨_, rfl⟩, .inl ⟨pre, by show pre.map (fun y => y.1) = _; rw [HP.out, List.take_length], HJP.out⟩⟩
def Chosen (w : World) (g2 g3 : Nat) (d id : Int) (sl : List S52) (ok : Bool) (W : World) : Prop :=
 ∃ A c, W.heap[g2]? = some (.cells #[.int .i64 d, .int .i64 id, .slice A sl.length c] 100 (0, 0)) ∧ W.heap[g3]? = some (.cells #[.bool ok] 4 (0, 0)) ∧ Kd.R k52 52 W w.heap.size (fun _ => True) (.slice A sl.length c) sl ∧ Below w.heap.size w W
theorem Chosen.own {w : World} {g2 g3 : Nat} {d id : Int} {sl : List S52} {ok : Bool} {B : Nat} (hB : w.heap.size ≤ B) : OwnFrom B (fun (_ : Unit) W => Chosen w g2 g3 d id sl ok W) := by
 rintro _ A C row ⟨a, c, h1, h2, h3, h4⟩ hg hr
 have hr' : ∀ r, row = some r → ∃ o : Obj, A.heap[r]? = some o ∧ o.isCells = false := fun r e => (hr r e).2
 exact ⟨a, c, blk_own h1 hg hr', blk_own h2 hg hr', R_own h3 hg hr', h4.grown hg h4.size (fun k e => Nat.le_trans hB (hr k e).1)⟩
theorem Chosen.mark {w : World} {g2 g3 : Nat} {d id : Int} {sl : List S52} {ok : Bool} {W : World} {D : Nat} (h : Chosen w g2 g3 d id sl ok W) (hD : w.heap.size ≤ D) (hK : W.heap[D]? = some (.deferred (some []))) : Chosen w g2 g3 d id sl ok (W.putObj D (.deferred none)) :=
 Chosen.own (Nat.le_refl _) () _ _ (some D) h (grownBy_putObj' W D _) (fun r e => by cases e; exact ⟨hD, _, hK, rfl⟩)
theorem results100 {tmps : Array Value} {w : World} {g2 g3 : Nat} {a b c u : Value} {t t' : TypeId} (h4 : tmps.getD 2 undef = .pointer (some ⟨g2, 0, none⟩)) (h5 : tmps.getD 3 undef = .pointer (some ⟨g3, 0, none⟩))
  (b4 : w.heap[g2]? = some (.cells #[a, b, c] t (0, 0))) (b5 : w.heap[g3]? = some (.cells #[u] t' (0, 0))) : (results Try.f100 tmps).run Try.prog w = .ok (.tuple #[.agg #[a, b, c], u]) w := by
 have h4' : tmps[2]?.getD undef = .pointer (some ⟨g2, 0, none⟩) := by simpa using h4
 have h5' : tmps[3]?.getD undef = .pointer (some ⟨g3, 0, none⟩) := by simpa using h5
 obtain ⟨c0, c1, c2⟩ := cz3_ ⟨b4⟩
 have c5 : w.cell? ⟨g3, 0, none⟩ = some u := (a0_ b5 0).trans rfl
 have hu100 := Try.underlying100
 have hu4 := Try.underlying4
 simp [results, Try.f100, go_sem, h4', h5', c0, c1, c2, c5, hu100, hu4]
theorem results101 {tmps : Array Value} {w : World} {g2 g3 : Nat} {a b c u : Value} {t t' : TypeId} (h4 : tmps.getD 2 undef = .pointer (some ⟨g2, 0, none⟩)) (h5 : tmps.getD 3 undef = .pointer (some ⟨g3, 0, none⟩))
  (b4 : w.heap[g2]? = some (.cells #[a, b, c] t (0, 0))) (b5 : w.heap[g3]? = some (.cells #[u] t' (0, 0))) : (results Try.f101 tmps).run Try.prog w = .ok (.tuple #[.agg #[a, b, c], u]) w := by
 have h4' : tmps[2]?.getD undef = .pointer (some ⟨g2, 0, none⟩) := by simpa using h4
 have h5' : tmps[3]?.getD undef = .pointer (some ⟨g3, 0, none⟩) := by simpa using h5
 obtain ⟨c0, c1, c2⟩ := cz3_ ⟨b4⟩
 have c5 : w.cell? ⟨g3, 0, none⟩ = some u := (a0_ b5 0).trans rfl
 have hu100 := Try.underlying100
 have hu4 := Try.underlying4
 simp [results, Try.f101, go_sem, h4', h5', c0, c1, c2, c5, hu100, hu4]
def headF (a0_0 a0_1 a0_2 a0_3 : Int) (l0_4 : List S51) (l0_5 : List S24) (l0_6 : List S41) (l0_7 : List S105) (l0_8 : List S149) : Option (Int × Int × List S52 × Bool) :=
 match jobsL a0_1 true l0_7 with
 | [] => some (0, 0, [], false)
 | x :: _ => (elastic_Most.f a0_0 a0_1 a0_2 a0_3 l0_4 l0_5 l0_6 l0_7 l0_8 x.f0 x.f1 x.f2 x.f3 x.f4.f0 x.f4.f1 x.f4.f2 x.f4.f3).bind fun m => some (1, x.f0, m.1, m.2 == 0)
set_option maxHeartbeats 8000000 in
set_option maxRecDepth 100000 in
theorem head_calls (a0_0 a0_1 a0_2 a0_3 : Int) (A0_4 : Option Addr) (c0_4 : Nat) (l0_4 : List (S51)) (A0_5 : Option Addr) (c0_5 : Nat) (l0_5 : List (S24)) (A0_6 : Option Addr) (c0_6 : Nat) (l0_6 : List (S41)) (A0_7 : Option Addr) (c0_7 : Nat) (l0_7 : List (S105)) (A0_8 : Option Addr) (c0_8 : Nat) (l0_8 : List (S149)) (d id : Int) (sl : List S52) (ok : Bool) (w : World) (hr0_4 : Kd.C k51 w A0_4 l0_4.length l0_4) (hc0_4 : l0_4.length ≤ c0_4) (hr0_5 : Kd.C k24 w A0_5 l0_5.length l0_5) (hc0_5 : l0_5.length ≤ c0_5) (hr0_6 : Kd.C k41 w A0_6 l0_6.length l0_6) (hc0_6 : l0_6.length ≤ c0_6) (hr0_7 : Kd.C k105 w A0_7 l0_7.length l0_7) (hc0_7 : l0_7.length ≤ c0_7) (hr0_8 : Kd.C k149 w A0_8 l0_8.length l0_8) (hc0_8 : l0_8.length ≤ c0_8) (hn : l0_7.length ≤ 1000000) (h : headF a0_0 a0_1 a0_2 a0_3 l0_4 l0_5 l0_6 l0_7 l0_8 = some (d, id, sl, ok)) :
  Calls Try.prog 100 #[.agg #[.int .i64 a0_0, .int .i64 a0_1, .int .i64 a0_2, .int .i64 a0_3, .slice A0_4 l0_4.length c0_4, .slice A0_5 l0_5.length c0_5, .slice A0_6 l0_6.length c0_6, .slice A0_7 l0_7.length c0_7, .slice A0_8 l0_8.length c0_8]] w fun e w' => ∃ A c, e = .returned (.tuple #[.agg #[.int .i64 d, .int .i64 id, .slice A sl.length c], .bool ok]) ∧ Kd.R k52 52 w' w.heap.size (fun _ => True) (.slice A sl.length c) sl ∧ Below w.heap.size w w' := by
 have hu86 := Try.underlying86
 have hu88 := Try.underlying88
 have hu100 := Try.underlying100
 have hu39 := Try.underlying39
 have hu32 := Try.underlying32
 have hu4 := Try.underlying4
 have hu3 := Try.underlying3
 have HR0_4 := m_ hr0_4
 have HC0_4 := m_ hc0_4
 clear hr0_4 hc0_4
 have HR0_5 := m_ hr0_5
 have HC0_5 := m_ hc0_5
 clear hr0_5 hc0_5
 have HR0_6 := m_ hr0_6
 have HC0_6 := m_ hc0_6
 clear hr0_6 hc0_6
 have HR0_7 := m_ hr0_7
 have HC0_7 := m_ hc0_7
 clear hr0_7 hc0_7
 have HR0_8 := m_ hr0_8
 have HC0_8 := m_ hc0_8
 clear hr0_8 hc0_8
 have HB := m_ (Below.refl w.heap.size w)
 have HH := m_ h
 have HN := m_ hn
 clear h hn
 refine calls_marks Try.func100 rfl ?_
 simp only [Try.ntmps100, List.size_toArray, List.length_cons, List.length_nil, Nat.reduceAdd, Nat.reduceSub, Array.replicate_succ, Array.replicate_zero, List.push_toArray, List.append_toArray, List.nil_append, List.cons_append]
 go_wp2_with (first | ((with_reducible refine a3_ (N := 1) rfl ?_); refine bx 1 #[.int .i64 a0_0, .int .i64 a0_1, .int .i64 a0_2, .int .i64 a0_3, .slice A0_4 l0_4.length c0_4, .slice A0_5 l0_5.length c0_5, .slice A0_6 l0_6.length c0_6, .slice A0_7 l0_7.length c0_7, .slice A0_8 l0_8.length c0_8] 86 ?_; intro g1 hgg1 wg1 hxg1 hbg1; have Gg1 : w.heap.size ≤ g1 := Z5; replace HB := m_ (b0_ HB.out hbg1); have HXg1 := m_ hxg1; clear hgg1 hxg1 hbg1) | ((with_reducible refine a3_ (N := 2) rfl ?_); refine bx 2 #[.int .i64 0, .int .i64 0, .slice none 0 0] 100 ?_; intro g2 hgg2 wg2 hxg2 hbg2; have Ng1_g2 := m_ (show g1 ≠ g2 from by have := c6_ HXg1.out; omega); replace HXg1 := m_ (a1_ HXg1.out hbg2); have Gg2 : w.heap.size ≤ g2 := Z5; replace HB := m_ (b0_ HB.out hbg2); have HXg2 := m_ hxg2; clear hgg2 hxg2 hbg2) | ((with_reducible refine a3_ (N := 3) rfl ?_); refine bx 3 #[.bool false] 4 ?_; intro g3 hgg3 wg3 hxg3 hbg3; have Ng1_g3 := m_ (show g1 ≠ g3 from by have := c6_ HXg1.out; omega); have Ng2_g3 := m_ (show g2 ≠ g3 from by have := c6_ HXg2.out; omega); replace HXg1 := m_ (a1_ HXg1.out hbg3); replace HXg2 := m_ (a1_ HXg2.out hbg3); have Gg3 : w.heap.size ≤ g3 := Z5; replace HB := m_ (b0_ HB.out hbg3); have HXg3 := m_ hxg3; clear hgg3 hxg3 hbg3; obtain ⟨cg1_0, cg1_1, cg1_2, cg1_3, cg1_4, cg1_5, cg1_6, cg1_7, cg1_8⟩ := cz9_ HXg1) | (go_at_call 118; refine (jobs_calls a0_0 a0_1 a0_2 a0_3 A0_4 c0_4 l0_4 A0_5 c0_5 l0_5 A0_6 c0_6 l0_6 A0_7 c0_7 l0_7 A0_8 c0_8 l0_8 true _).mono ?_; rintro e w9 ⟨rfl, hd1, hd2, hb9⟩; have HD1 := m_ hd1; have HD2 := m_ hd2; have HBL := m_ (HB.out.size); clear cg1_0 cg1_1 cg1_2 cg1_3 cg1_4 cg1_5 cg1_6 cg1_7 cg1_8; replace HXg1 := m_ (a1_ HXg1.out hb9); replace HXg2 := m_ (a1_ HXg2.out hb9); replace HXg3 := m_ (a1_ HXg3.out hb9); replace HB := m_ (b0_ HB.out hb9); clear hb9 hd1 hd2))
 refine range_try (gf := 135) (lb := #[.pointer (some ⟨wg3.heap.size, 0, none⟩), .pointer (some ⟨wg3.heap.size + 1, 0, none⟩)]) rfl (enters_of Try.func135 (by kernel_rfl) rfl)
  (enc := encJ) (jobs_goes _ _ true a0_0 a0_1 a0_2 a0_3 A0_4 c0_4 l0_4 A0_5 c0_5 l0_5 A0_6 c0_6 l0_6 A0_7 c0_7 l0_7 A0_8 c0_8 l0_8 _ HD1.out HD2.out (Kd.C_below HR0_7.out HB.out) HN.out) (fun _ => rfl)
  (fun _ => False) (fun x W => ∀ r, jobsL a0_1 true l0_7 = x :: r → Chosen w g2 g3 d id sl ok W) ?hRx
  (fun x a' W => ∃ g4, a' = { tmps := #[.agg #[.int .i64 a0_0, .int .i64 a0_1, .int .i64 a0_2, .int .i64 a0_3, .slice A0_4 l0_4.length c0_4, .slice A0_5 l0_5.length c0_5, .slice A0_6 l0_6.length c0_6, .slice A0_7 l0_7.length c0_7, .slice A0_8 l0_8.length c0_8], .pointer (some ⟨g1, 0, none⟩), .pointer (some ⟨g2, 0, none⟩), .pointer (some ⟨g3, 0, none⟩), .pointer (some ⟨g4, 0, none⟩), undef, undef, .agg #[.int .i64 a0_0, .int .i64 a0_1, .int .i64 a0_2, .int .i64 a0_3, .slice A0_4 l0_4.length c0_4, .slice A0_5 l0_5.length c0_5, .slice A0_6 l0_6.length c0_6, .slice A0_7 l0_7.length c0_7, .slice A0_8 l0_8.length c0_8], .func (.func 135) #[] #[.pointer (some ⟨wg3.heap.size, 0, none⟩), .pointer (some ⟨wg3.heap.size + 1, 0, none⟩)], .agg #[.int .i64 x.f0, .int .i64 x.f1, .int .i64 x.f2, .int .i64 x.f3, .int .i64 x.f4.f0, .int .i64 x.f4.f1, .int .i64 x.f4.f2, .int .i64 x.f4.f3], undef, undef, undef, undef, undef, undef, undef, undef, undef, undef, undef, undef, undef], defers := [] } ∧ W.heap[g4]? = some (.cells #[.int .i64 x.f0, .int .i64 x.f1, .int .i64 x.f2, .int .i64 x.f3, .int .i64 x.f4.f0, .int .i64 x.f4.f1, .int .i64 x.f4.f2, .int .i64 x.f4.f3] 88 (0, 0))) ?hAx ?assign ?body ?done ?stop
 case hRx =>
  rintro y _ A C row hs hg hr r hr'
  exact Chosen.own HB.out.size () A C row (hs r hr') hg hr
 case hAx =>
  rintro x a' _ A C row ⟨g4, e, hx⟩ hg hr
  exact ⟨g4, e, blk_own hx hg (fun r e => (hr r e).2)⟩
 case assign =>
  intro l x W K hx hB hK
  unfold encJ
  gi_wp2
  exact hK _ _ (b5_ (Below.refl _ _) _) ⟨W.heap.size, rfl, blk_new W _⟩
 case body =>
  rintro l x a' W hx hBW ⟨g4, rfl, hg4⟩
  have hM : elastic_Most.f a0_0 a0_1 a0_2 a0_3 l0_4 l0_5 l0_6 l0_7 l0_8 x.f0 x.f1 x.f2 x.f3 x.f4.f0 x.f4.f1 x.f4.f2 x.f4.f3 = some (mostB l0_4 l0_5 x.f1 x.f4.f0 x.f4.f1 x.f4.f2 x.f4.f3) := by
   have hh := HH.out
   unfold headF at hh
   cases hj : jobsL a0_1 true l0_7 with
   | nil => rw [hj] at hx; cases hx
   | cons y r =>
    rw [hj] at hh
    obtain ⟨m, hm, _⟩ := Option.bind_eq_some_iff.1 hh
    unfold elastic_Most.f at hm ⊢
    by_cases hok : placeOk l0_4 = true
    ·rw [if_pos hok]
    ·rw [if_neg hok] at hm; cases hm
  obtain ⟨m, hme⟩ : ∃ m, m = mostB l0_4 l0_5 x.f1 x.f4.f0 x.f4.f1 x.f4.f2 x.f4.f3 := ⟨_, rfl⟩
  rw [← hme] at hM
  obtain ⟨ms, e0⟩ := m
  have HM := m_ hM
  have HXg4 := m_ hg4
  have HBW := m_ (b0_ HB.out hBW)
  have HS9 := m_ hBW.size
  have HBQ := m_ HB.out.size
  replace HXg1 := m_ (a1_ HXg1.out hBW)
  replace HXg2 := m_ (a1_ HXg2.out hBW)
  replace HXg3 := m_ (a1_ HXg3.out hBW)
  clear HB hBW hx hM hme hg4 HD1 HD2
  have HB := HBW
  clear HBW
  obtain ⟨cg1_0, cg1_1, cg1_2, cg1_3, cg1_4, cg1_5, cg1_6, cg1_7, cg1_8⟩ := cz9_ HXg1
  obtain ⟨cg4_0, cg4_1, cg4_2, cg4_3, cg4_4, cg4_5, cg4_6, cg4_7⟩ := cz8_ HXg4
  gi_wp2_with (first | ((try refine ⟨trivial, ?_⟩); gi_at_call 57; refine (CallsIn.inRound l (callsIn_wide.2 (elastic_Most.calls a0_0 a0_1 a0_2 a0_3 _ _ l0_4 _ _ l0_5 _ _ l0_6 _ _ l0_7 _ _ l0_8 x.f0 x.f1 x.f2 x.f3 x.f4.f0 x.f4.f1 x.f4.f2 x.f4.f3 _ _ _ (Kd.C_below HR0_4.out (HB.out)) HC0_4.out (Kd.C_below HR0_5.out (HB.out)) HC0_5.out (Kd.C_below HR0_6.out (HB.out)) HC0_6.out (Kd.C_below HR0_7.out (HB.out)) HC0_7.out (Kd.C_below HR0_8.out (HB.out)) HC0_8.out HM.out))).mono ?_; rintro e wp ⟨vp, rfl, hrp, hbp⟩; obtain ⟨Ap, cp, rfl⟩ := Kd.R_slice hrp; have HBP := m_ hbp; have HRP := m_ hrp; clear cg1_0 cg1_1 cg1_2 cg1_3 cg1_4 cg1_5 cg1_6 cg1_7 cg1_8 cg4_0 cg4_1 cg4_2 cg4_3 cg4_4 cg4_5 cg4_6 cg4_7; replace HXg1 := m_ (a1_ HXg1.out hbp); replace HXg2 := m_ (a1_ HXg2.out hbp); replace HXg3 := m_ (a1_ HXg3.out hbp); replace HXg4 := m_ (a1_ HXg4.out hbp); replace HB := m_ (b0_ HB.out hbp); clear hbp hrp; have zg2_0 : wp.frozen? ⟨g2, 0, none⟩ = false := a2_ HXg2.out 0; have zg2_1 : wp.frozen? ⟨g2, 1, none⟩ = false := a2_ HXg2.out 1; have zg2_2 : wp.frozen? ⟨g2, 2, none⟩ = false := a2_ HXg2.out 2; have zg3_0 : wp.frozen? ⟨g3, 0, none⟩ = false := a2_ HXg3.out 0; have n23 := Ng2_g3.out; obtain ⟨cg4_0, cg4_1, cg4_2, cg4_3, cg4_4, cg4_5, cg4_6, cg4_7⟩ := cz8_ HXg4; obtain ⟨cg2_0, cg2_1, cg2_2⟩ := cz3_ HXg2; have cg3_0 : wp.cell? ⟨g3, 0, none⟩ = some (.bool false) := (a0_ HXg3.out 0).trans rfl))
  have h2 : ((((wp.setCell ⟨g2, 0, none⟩ (.int .i64 1)).setCell ⟨g2, 1, none⟩ (.int .i64 x.f0)).setCell ⟨g2, 2, none⟩ (.slice Ap ms.length cp)).setCell ⟨g3, 0, none⟩ (.bool (e0 == 0))).heap[g2]? = some (.cells #[.int .i64 1, .int .i64 x.f0, .slice Ap ms.length cp] 100 (0, 0)) := c7_ (d4_ (d4_ (d4_ HXg2.out 0 _ rfl) 1 _ rfl) 2 _ rfl) n23 _
  have h3 : ((((wp.setCell ⟨g2, 0, none⟩ (.int .i64 1)).setCell ⟨g2, 1, none⟩ (.int .i64 x.f0)).setCell ⟨g2, 2, none⟩ (.slice Ap ms.length cp)).setCell ⟨g3, 0, none⟩ (.bool (e0 == 0))).heap[g3]? = some (.cells #[.bool (e0 == 0)] 4 (0, 0)) := d4_ (c7_ (c7_ (c7_ HXg3.out n23.symm _) n23.symm _) n23.symm _) 0 _ rfl
  have r0 := HRP.out
  have r1 := Kd.R_grown2 r0 rfl (grown_set (j := 0) (v := .int .i64 1) (d6_ _ (some g2))) (fun k hk => by injection hk with hk; subst hk; exact Kd.R_ne r0 HXg2.out (by decide))
  have y1 : (wp.setCell ⟨g2, 0, none⟩ (.int .i64 1)).heap[g2]? = some (.cells #[.int .i64 1, .int .i64 0, .slice none 0 0] 100 (0, 0)) := d4_ HXg2.out 0 _ rfl
  have r2 := Kd.R_grown2 r1 rfl (grown_set (j := 1) (v := .int .i64 x.f0) (d6_ _ (some g2))) (fun k hk => by injection hk with hk; subst hk; exact Kd.R_ne r1 y1 (by decide))
  have y2 := d4_ y1 1 (.int .i64 x.f0) rfl
  have r3 := Kd.R_grown2 r2 rfl (grown_set (j := 2) (v := .slice Ap ms.length cp) (d6_ _ (some g2))) (fun k hk => by injection hk with hk; subst hk; exact Kd.R_ne r2 y2 (by decide))
  have y3 : (((wp.setCell ⟨g2, 0, none⟩ (.int .i64 1)).setCell ⟨g2, 1, none⟩ (.int .i64 x.f0)).setCell ⟨g2, 2, none⟩ (.slice Ap ms.length cp)).heap[g3]? = some (.cells #[.bool false] 4 (0, 0)) := c7_ (c7_ (c7_ HXg3.out n23.symm _) n23.symm _) n23.symm _
  have r4 := Kd.R_grown2 r3 rfl (grown_set (j := 0) (v := .bool (e0 == 0)) (d6_ _ (some g3))) (fun k hk => by injection hk with hk; subst hk; exact Kd.R_ne r3 y3 (by decide))
  refine ⟨(keepsFrom_below HBP.out).trans (((((KeepsOthers.setCell _ _ _).trans (KeepsOthers.setCell _ _ _)).trans (KeepsOthers.setCell _ _ _)).trans (KeepsOthers.setCell _ _ _)).from _), fun r hr => ?_⟩
  have hh := HH.out
  unfold headF at hh
  rw [hr] at hh
  simp only [HM.out, Option.bind_some, Option.some.injEq, Prod.mk.injEq] at hh
  obtain ⟨rfl, rfl, rfl, rfl⟩ := hh
  refine ⟨Ap, cp, h2, h3, Kd.R_lower r4 ?_, b6_ (b6_ (b6_ (b6_ HB.out Gg2) Gg2) Gg2) Gg3⟩
  have := HS9.out
  have := HBQ.out
  omega
 case done =>
  intro D W hD hf hBW hK
  have hL : jobsL a0_1 true l0_7 = [] := List.eq_nil_iff_forall_not_mem.2 fun x hx => hf x hx
  have hh := HH.out
  unfold headF at hh
  rw [hL] at hh
  simp only [Option.some.injEq, Prod.mk.injEq] at hh
  obtain ⟨rfl, rfl, rfl, rfl⟩ := hh
  replace HXg2 := m_ (a1_ HXg2.out hBW)
  replace HXg3 := m_ (a1_ HXg3.out hBW)
  have HBW := m_ (b0_ HB.out hBW)
  have HD := m_ hD
  have HK := m_ hK
  have HW9 := m_ HB.out.size
  clear HXg1 HB hBW hK hD hf HD1 HD2 hL HH
  have zg2_0 : W.frozen? ⟨g2, 0, none⟩ = false := a2_ HXg2.out 0
  have zg2_1 : W.frozen? ⟨g2, 1, none⟩ = false := a2_ HXg2.out 1
  have zg2_2 : W.frozen? ⟨g2, 2, none⟩ = false := a2_ HXg2.out 2
  have zg3_0 : W.frozen? ⟨g3, 0, none⟩ = false := a2_ HXg3.out 0
  have n23 := Ng2_g3.out
  obtain ⟨cg2_0, cg2_1, cg2_2⟩ := cz3_ HXg2
  have cg3_0 : W.cell? ⟨g3, 0, none⟩ = some (.bool false) := (a0_ HXg3.out 0).trans rfl
  go_wp2
  have h2 : ((((W.setCell ⟨g2, 0, none⟩ (.int .i64 0)).setCell ⟨g2, 1, none⟩ (.int .i64 0)).setCell ⟨g2, 2, none⟩ (.slice none 0 0)).setCell ⟨g3, 0, none⟩ (.bool false)).heap[g2]? = some (.cells #[.int .i64 0, .int .i64 0, .slice none 0 0] 100 (0, 0)) := c7_ (d4_ (d4_ (d4_ HXg2.out 0 _ rfl) 1 _ rfl) 2 _ rfl) n23 _
  have h3 : ((((W.setCell ⟨g2, 0, none⟩ (.int .i64 0)).setCell ⟨g2, 1, none⟩ (.int .i64 0)).setCell ⟨g2, 2, none⟩ (.slice none 0 0)).setCell ⟨g3, 0, none⟩ (.bool false)).heap[g3]? = some (.cells #[.bool false] 4 (0, 0)) := d4_ (c7_ (c7_ (c7_ HXg3.out n23.symm _) n23.symm _) n23.symm _) 0 _ rfl
  have hk := ((((KeepsOthers.setCell W ⟨g2, 0, none⟩ (.int .i64 0)).trans (KeepsOthers.setCell _ ⟨g2, 1, none⟩ (.int .i64 0))).trans (KeepsOthers.setCell _ ⟨g2, 2, none⟩ (.slice none 0 0))).trans (KeepsOthers.setCell _ ⟨g3, 0, none⟩ (.bool false))).same D _ HK.out rfl
  have hs : Chosen w g2 g3 0 0 [] false ((((W.setCell ⟨g2, 0, none⟩ (.int .i64 0)).setCell ⟨g2, 1, none⟩ (.int .i64 0)).setCell ⟨g2, 2, none⟩ (.slice none 0 0)).setCell ⟨g3, 0, none⟩ (.bool false)) := ⟨none, 0, h2, h3, Kd.R_nil _ _ _ _ _, b6_ (b6_ (b6_ (b6_ HBW.out Gg2) Gg2) Gg2) Gg3⟩
  obtain ⟨A, c, k4, k5, kr, kb⟩ := hs.mark (by have := HD.out; have := HW9.out; omega) hk
  exact marks_ret1 hk (results100 rfl rfl k4 k5) ⟨A, c, rfl, kr, kb⟩
 case stop =>
  intro D k x W hD hx hf hs hK
  have hL : ∃ r, jobsL a0_1 true l0_7 = x :: r := by
   cases hj : jobsL a0_1 true l0_7 with
   | nil => rw [hj] at hx; simp at hx
   | cons y r =>
    cases k with
    | zero => rw [hj] at hx; cases hx; exact ⟨r, rfl⟩
    | succ k => exact (hf y (by rw [hj]; simp)).elim
  obtain ⟨r, hr⟩ := hL
  have hw := HB.out.size
  obtain ⟨A, c, k4, k5, kr, kb⟩ := (hs r hr).mark (by omega) hK
  exact marks_ret1 hK (results100 rfl rfl k4 k5) ⟨A, c, rfl, kr, kb⟩
end Go.Proofs.Ytckhjehibjdjdaa.P
namespace Go.Proofs.Ytckhjehibjdjdaa.RF
open Go.RowKit Go.Shelf Go.Proofs.YtckhjehibjdjdaaW.PrintWords Go.Proofs.YtckhjehibjdjdaaW.PrintLast
variable {P : Program} {ops : Array Oper} {Q : Exit → Act → World → Prop} {l n : Nat}
theorem upon_round {o : Oper} {a : Act} {next next' : Act → World → Prop} (hn : ∀ a w, next a w → next' a w) {r : Result Next} (h : o.upon P a next Q r) : o.uponIn (Fence.wide.inRound l) n P a next' Q r := by
 cases r with
 | ok x w =>
  cases x with
  | value v => exact hn _ _ h
  | skip => exact hn _ _ h
  | defer d => exact hn _ _ h
  | enter f args =>
   refine ⟨fun h => (by cases h), ?_⟩
   refine (callsIn_wide (n := n - 1)).2 (Calls.mono h ?_)
   intro e w' he
   cases e with
   | returned v => exact hn _ _ he
   | panicked c => exact he
   | outgrown => exact he
  | row row args =>
   refine ⟨fun h => (by cases h), fun c cs _ => ?_⟩
   obtain ⟨v, w', hv, s⟩ := (show Rows P row args w _ from h) c cs
   exact ⟨v, w', hn _ _ hv, stepsIn_wide.2 s⟩
  | _ => exact h.elim
 | halt h' w =>
  cases h' with
  | panic v => exact h
  | _ => exact h.elim
def noDefer (ops : Array Oper) : Bool := ops.all fun o => match o.op with | .defer _ => false | _ => true
theorem ops_round (hd : noDefer ops = true) (hL : ¬ LetsOut Q) : ∀ (is : List Nat) (a : Act) (w : World), wpOps P ops Q is a w → wpOpsIn (Fence.wide.inRound l) n P ops Q is a w
 | [], a, w, h => h
 | i :: rest, a, w, h => by
  unfold wpOps at h
  unfold wpOpsIn
  cases ho : ops[i]? with
  | none => simp only [ho] at h ⊢; exact ops_round hd hL rest a w h
  | some o =>
   simp only [ho] at h ⊢
   by_cases hw : Region.wanted o (yielded ops a.tmps) = true
   ·rw [if_pos hw] at h ⊢
    rcases h with h | h
    ·refine ⟨fun _ _ => trivial, ?_⟩
     have hnd : ∀ c, o.op ≠ .defer c := fun c e => by
      unfold noDefer at hd
      have := Array.all_eq_true_iff_forall_mem.1 hd o (Array.mem_of_getElem? ho)
      rw [e] at this; cases this
     rw [Oper.semAt_eq _ _ _ hnd]
     exact upon_round (fun a w h => ops_round hd hL rest a w h) h
    ·exact absurd h.2 hL
   ·rw [if_neg hw] at h ⊢
    exact ⟨fun _ _ => trivial, ops_round hd hL rest _ w h⟩
theorem region_round {id : Nat} {a : Act} {w : World} (hm : P.follows .mixedOrders = true) (hd : noDefer ops = true) (hL : ¬ LetsOut Q) {S : World → Prop} {ds : List Nat} {m : Nat} (lb : Array Bool) (hn : ops.size = m) (hl : Array.replicate m false = lb) (hS : S w.drew)
  (h : S w.drew → d5_ P .any ops Q S ds m lb a w.drew) : (Code.region id ops true).wpIn (Fence.wide.inRound l) n P Q a w := by
 subst hn
 subst hl
 refine wpIn_region_draw fun t => ops_round hd hL _ a _ ?_
 simp only [Region.schedule, hm, Bool.true_or, if_true]
 exact wpAny_sound ops.size t _ a _ (wpAny_of_last _ _ _ _ (h hS))
end Go.Proofs.Ytckhjehibjdjdaa.RF
namespace Go.Proofs.Ytckhjehibjdjdaa.P
open Go.RowKit Go.Shelf Go.Proofs.YtckhjehibjdjdaaW.PrintWords Go.Proofs.YtckhjehibjdjdaaW.PrintLast Go.Proofs.YtckhjehibjdjdaaW.PrintMore
open Go.Proofs.Ytckhjehibjdjdaa.RF
attribute [local go_sem] Oper.semAt_some
set_option maxHeartbeats 8000000 in
set_option maxRecDepth 100000 in
theorem latest_calls (a0_0 a0_1 a0_2 a0_3 : Int) (A0_4 : Option Addr) (c0_4 : Nat) (l0_4 : List (S51)) (A0_5 : Option Addr) (c0_5 : Nat) (l0_5 : List (S24)) (A0_6 : Option Addr) (c0_6 : Nat) (l0_6 : List (S41)) (A0_7 : Option Addr) (c0_7 : Nat) (l0_7 : List (S105)) (A0_8 : Option Addr) (c0_8 : Nat) (l0_8 : List (S149)) (a1_0 a1_1 a1_2 a1_3 a1_4 a1_5 a1_6 a1_7 : Int) (w : World) : Calls Try.prog 99 #[.agg #[.int .i64 a0_0, .int .i64 a0_1, .int .i64 a0_2, .int .i64 a0_3, .slice A0_4 l0_4.length c0_4, .slice A0_5 l0_5.length c0_5, .slice A0_6 l0_6.length c0_6, .slice A0_7 l0_7.length c0_7, .slice A0_8 l0_8.length c0_8], .agg #[.int .i64 a1_0, .int .i64 a1_1, .int .i64 a1_2, .int .i64 a1_3, .int .i64 a1_4, .int .i64 a1_5, .int .i64 a1_6, .int .i64 a1_7]] w fun e w' => e = .returned (.int .i64 (wrap64 (wrap64 (a0_0 + a0_3) + a1_3))) ∧ Below w.heap.size w w' := by
 have hu86 := Try.underlying86
 have hu88 := Try.underlying88
 go_enter Try.func99, Try.ntmps99
 go_wp2
 go_ret
 exact ⟨rfl, b5_ (b5_ (Below.refl _ _) _) _⟩
def fillJs (k : Nat) (a0_0 a0_1 a0_2 a0_3 : Int) (l0_4 : List S51) (l0_5 : List S24) (l0_6 : List S41) (l0_7 : List S105) (l0_8 : List S149) : List S88 → Option (List (List S52 × Int))
 | [] => some []
 | x :: r => (elastic_Fill.f k a0_0 a0_1 a0_2 a0_3 l0_4 l0_5 l0_6 l0_7 l0_8 x.f0 x.f1 x.f2 x.f3 x.f4.f0 x.f4.f1 x.f4.f2 x.f4.f3 (wrap64 (wrap64 (a0_0 + a0_3) + x.f3))).bind fun m => (fillJs k a0_0 a0_1 a0_2 a0_3 l0_4 l0_5 l0_6 l0_7 l0_8 r).bind fun t => some (m :: t)
def fillW : List S88 → List (List S52 × Int) → Int × Int × List S52 × Bool
 | x :: r, m :: t => if m.2 = 0 then (2, x.f0, m.1, true) else fillW r t
 | _, _ => (0, 0, [], false)
theorem fillJs_get {k : Nat} {a0_0 a0_1 a0_2 a0_3 : Int} {l0_4 : List S51} {l0_5 : List S24} {l0_6 : List S41} {l0_7 : List S105} {l0_8 : List S149} : ∀ {L : List S88} {t : List (List S52 × Int)}, fillJs k a0_0 a0_1 a0_2 a0_3 l0_4 l0_5 l0_6 l0_7 l0_8 L = some t →
  t.length = L.length ∧ ∀ (i : Nat) (x : S88), L[i]? = some x → ∃ m : List S52 × Int, t[i]? = some m ∧ elastic_Fill.f k a0_0 a0_1 a0_2 a0_3 l0_4 l0_5 l0_6 l0_7 l0_8 x.f0 x.f1 x.f2 x.f3 x.f4.f0 x.f4.f1 x.f4.f2 x.f4.f3 (wrap64 (wrap64 (a0_0 + a0_3) + x.f3)) = some m
 | [], t, h => by
  have h := Option.some.inj h
  subst h
  refine ⟨rfl, fun i n hn => ?_⟩
  simp at hn
 | y :: r, t, h => by
  rw [fillJs] at h
  obtain ⟨m, hm, h⟩ := Option.bind_eq_some_iff.1 h
  obtain ⟨t', ht, h⟩ := Option.bind_eq_some_iff.1 h
  cases h
  obtain ⟨hl, ih⟩ := fillJs_get ht
  refine ⟨by simp [hl], fun i x hx => ?_⟩
  cases i with
  | zero => cases hx; exact ⟨m, rfl, hm⟩
  | succ i => exact ih i x hx
theorem fillW_none : ∀ {L : List S88} {t : List (List S52 × Int)}, (∀ m ∈ t, m.2 ≠ 0) → fillW L t = (0, 0, [], false)
 | [], _, _ => by unfold fillW; rfl
 | _ :: _, [], _ => by unfold fillW; rfl
 | x :: r, m :: t, h => by
  unfold fillW
  rw [if_neg (h m (by simp))]
  exact fillW_none (fun y hy => h y (by simp [hy]))
theorem fillW_some : ∀ {L : List S88} {t : List (List S52 × Int)} {i : Nat} {x : S88} {m : List S52 × Int}, L[i]? = some x → t[i]? = some m → m.2 = 0 → (∀ m' ∈ t.take i, m'.2 ≠ 0) → fillW L t = (2, x.f0, m.1, true)
 | [], _, i, x, m, h, _, _, _ => by simp at h
 | _ :: _, [], i, x, m, _, h, _, _ => by simp at h
 | y :: r, n :: t, 0, x, m, h1, h2, h3, _ => by
  cases h1; cases h2
  unfold fillW; rw [if_pos h3]
 | y :: r, n :: t, i + 1, x, m, h1, h2, h3, h4 => by
  unfold fillW
  rw [if_neg (h4 n (by simp))]
  exact fillW_some (i := i) h1 h2 h3 (fun m' hm => h4 m' (by simp [hm]))
def T101 : Bool × List (List Nat × List Nat) := (true, [([], []), ([], []), ([], []), ([], []), ([2, 3], [2, 3]), ([0, 1, 4, 4], [0, 1, 4]), ([5], [5]), ([6], [6]), ([6], [6]), ([7, 5, 0, 1, 2, 3, 4, 5, 6, 7], [7]), ([8, 9, 0, 1, 2, 3, 4, 5, 6, 7, 8, 9], [8])])
def B101 : List Nat := [0, 0, 0, 0, 12, 31, 63, 127, 127, 255, 1023]
theorem tab101 : rtab .any (opsOf Try.f101 3) = T101 := by kernel_rfl
theorem bits101 : waitsOk T101.2 B101 = true := by kernel_rfl
set_option maxHeartbeats 8000000 in
set_option maxRecDepth 100000 in
theorem fill_calls (ks : Nat) (a0_0 a0_1 a0_2 a0_3 : Int) (A0_4 : Option Addr) (c0_4 : Nat) (l0_4 : List (S51)) (A0_5 : Option Addr) (c0_5 : Nat) (l0_5 : List (S24)) (A0_6 : Option Addr) (c0_6 : Nat) (l0_6 : List (S41)) (A0_7 : Option Addr) (c0_7 : Nat) (l0_7 : List (S105)) (A0_8 : Option Addr) (c0_8 : Nat) (l0_8 : List (S149)) (ts : List (List S52 × Int)) (d id : Int) (sl : List S52) (ok : Bool) (w : World) (hr0_4 : Kd.C k51 w A0_4 l0_4.length l0_4) (hc0_4 : l0_4.length ≤ c0_4) (hr0_5 : Kd.C k24 w A0_5 l0_5.length l0_5) (hc0_5 : l0_5.length ≤ c0_5) (hr0_6 : Kd.C k41 w A0_6 l0_6.length l0_6) (hc0_6 : l0_6.length ≤ c0_6) (hr0_7 : Kd.C k105 w A0_7 l0_7.length l0_7) (hc0_7 : l0_7.length ≤ c0_7) (hr0_8 : Kd.C k149 w A0_8 l0_8.length l0_8) (hc0_8 : l0_8.length ≤ c0_8) (hn : l0_7.length ≤ 1000000) (h : fillJs ks a0_0 a0_1 a0_2 a0_3 l0_4 l0_5 l0_6 l0_7 l0_8 (jobsL a0_1 false l0_7) = some ts) (hr : fillW (jobsL a0_1 false l0_7) ts = (d, id, sl, ok)) :
  Calls Try.prog 101 #[.agg #[.int .i64 a0_0, .int .i64 a0_1, .int .i64 a0_2, .int .i64 a0_3, .slice A0_4 l0_4.length c0_4, .slice A0_5 l0_5.length c0_5, .slice A0_6 l0_6.length c0_6, .slice A0_7 l0_7.length c0_7, .slice A0_8 l0_8.length c0_8]] w fun e w' => ∃ A c, e = .returned (.tuple #[.agg #[.int .i64 d, .int .i64 id, .slice A sl.length c], .bool ok]) ∧ Kd.R k52 52 w' w.heap.size (fun _ => True) (.slice A sl.length c) sl ∧ Below w.heap.size w w' := by
 have hu86 := Try.underlying86
 have hu88 := Try.underlying88
 have hu100 := Try.underlying100
 have hu39 := Try.underlying39
 have hu32 := Try.underlying32
 have hu4 := Try.underlying4
 have hu3 := Try.underlying3
 have HR0_4 := m_ hr0_4
 have HC0_4 := m_ hc0_4
 clear hr0_4 hc0_4
 have HR0_5 := m_ hr0_5
 have HC0_5 := m_ hc0_5
 clear hr0_5 hc0_5
 have HR0_6 := m_ hr0_6
 have HC0_6 := m_ hc0_6
 clear hr0_6 hc0_6
 have HR0_7 := m_ hr0_7
 have HC0_7 := m_ hc0_7
 clear hr0_7 hc0_7
 have HR0_8 := m_ hr0_8
 have HC0_8 := m_ hc0_8
 clear hr0_8 hc0_8
 have HB := m_ (Below.refl w.heap.size w)
 have HH := m_ (fillJs_get h)
 have HRR := m_ hr
 have HN := m_ hn
 clear h hn hr
 refine calls_marks Try.func101 rfl ?_
 simp only [Try.ntmps101, List.size_toArray, List.length_cons, List.length_nil, Nat.reduceAdd, Nat.reduceSub, Array.replicate_succ, Array.replicate_zero, List.push_toArray, List.append_toArray, List.nil_append, List.cons_append]
 go_wp2_with (first | ((with_reducible refine a3_ (N := 1) rfl ?_); refine bx 1 #[.int .i64 a0_0, .int .i64 a0_1, .int .i64 a0_2, .int .i64 a0_3, .slice A0_4 l0_4.length c0_4, .slice A0_5 l0_5.length c0_5, .slice A0_6 l0_6.length c0_6, .slice A0_7 l0_7.length c0_7, .slice A0_8 l0_8.length c0_8] 86 ?_; intro g1 hgg1 wg1 hxg1 hbg1; have Gg1 : w.heap.size ≤ g1 := Z5; replace HB := m_ (b0_ HB.out hbg1); have HXg1 := m_ hxg1; clear hgg1 hxg1 hbg1) | ((with_reducible refine a3_ (N := 2) rfl ?_); refine bx 2 #[.int .i64 0, .int .i64 0, .slice none 0 0] 100 ?_; intro g2 hgg2 wg2 hxg2 hbg2; have Ng1_g2 := m_ (show g1 ≠ g2 from by have := c6_ HXg1.out; omega); replace HXg1 := m_ (a1_ HXg1.out hbg2); have Gg2 : w.heap.size ≤ g2 := Z5; replace HB := m_ (b0_ HB.out hbg2); have HXg2 := m_ hxg2; clear hgg2 hxg2 hbg2) | ((with_reducible refine a3_ (N := 3) rfl ?_); refine bx 3 #[.bool false] 4 ?_; intro g3 hgg3 wg3 hxg3 hbg3; have Ng1_g3 := m_ (show g1 ≠ g3 from by have := c6_ HXg1.out; omega); have Ng2_g3 := m_ (show g2 ≠ g3 from by have := c6_ HXg2.out; omega); replace HXg1 := m_ (a1_ HXg1.out hbg3); replace HXg2 := m_ (a1_ HXg2.out hbg3); have Gg3 : w.heap.size ≤ g3 := Z5; replace HB := m_ (b0_ HB.out hbg3); have HXg3 := m_ hxg3; clear hgg3 hxg3 hbg3; obtain ⟨cg1_0, cg1_1, cg1_2, cg1_3, cg1_4, cg1_5, cg1_6, cg1_7, cg1_8⟩ := cz9_ HXg1) | (go_at_call 118; refine (jobs_calls a0_0 a0_1 a0_2 a0_3 A0_4 c0_4 l0_4 A0_5 c0_5 l0_5 A0_6 c0_6 l0_6 A0_7 c0_7 l0_7 A0_8 c0_8 l0_8 false _).mono ?_; rintro e w9 ⟨rfl, hd1, hd2, hb9⟩; have HD1 := m_ hd1; have HD2 := m_ hd2; have HBL := m_ (HB.out.size); clear cg1_0 cg1_1 cg1_2 cg1_3 cg1_4 cg1_5 cg1_6 cg1_7 cg1_8; replace HXg1 := m_ (a1_ HXg1.out hb9); replace HXg2 := m_ (a1_ HXg2.out hb9); replace HXg3 := m_ (a1_ HXg3.out hb9); replace HB := m_ (b0_ HB.out hb9); clear hb9 hd1 hd2))
 refine range_try (gf := 135) (lb := #[.pointer (some ⟨wg3.heap.size, 0, none⟩), .pointer (some ⟨wg3.heap.size + 1, 0, none⟩)]) rfl (enters_of Try.func135 (by kernel_rfl) rfl)
  (enc := encJ) (jobs_goes _ _ false a0_0 a0_1 a0_2 a0_3 A0_4 c0_4 l0_4 A0_5 c0_5 l0_5 A0_6 c0_6 l0_6 A0_7 c0_7 l0_7 A0_8 c0_8 l0_8 _ HD1.out HD2.out (Kd.C_below HR0_7.out HB.out) HN.out) (fun _ => rfl)
  (fun x => ∀ i : Nat, (jobsL a0_1 false l0_7)[i]? = some x → ∃ m, ts[i]? = some m ∧ m.2 ≠ 0) (fun x W => ∃ m : List S52, (∀ i : Nat, (jobsL a0_1 false l0_7)[i]? = some x → ts[i]? = some (m, 0)) ∧ Chosen w g2 g3 2 x.f0 m true W) ?hRx
  (fun x a' W => ∃ g4, a' = { tmps := #[.agg #[.int .i64 a0_0, .int .i64 a0_1, .int .i64 a0_2, .int .i64 a0_3, .slice A0_4 l0_4.length c0_4, .slice A0_5 l0_5.length c0_5, .slice A0_6 l0_6.length c0_6, .slice A0_7 l0_7.length c0_7, .slice A0_8 l0_8.length c0_8], .pointer (some ⟨g1, 0, none⟩), .pointer (some ⟨g2, 0, none⟩), .pointer (some ⟨g3, 0, none⟩), .pointer (some ⟨g4, 0, none⟩), undef, undef, .agg #[.int .i64 a0_0, .int .i64 a0_1, .int .i64 a0_2, .int .i64 a0_3, .slice A0_4 l0_4.length c0_4, .slice A0_5 l0_5.length c0_5, .slice A0_6 l0_6.length c0_6, .slice A0_7 l0_7.length c0_7, .slice A0_8 l0_8.length c0_8], .func (.func 135) #[] #[.pointer (some ⟨wg3.heap.size, 0, none⟩), .pointer (some ⟨wg3.heap.size + 1, 0, none⟩)], .agg #[.int .i64 x.f0, .int .i64 x.f1, .int .i64 x.f2, .int .i64 x.f3, .int .i64 x.f4.f0, .int .i64 x.f4.f1, .int .i64 x.f4.f2, .int .i64 x.f4.f3], undef, undef, undef, undef, undef, undef, undef, undef, undef, undef, undef, undef, undef, undef, undef, undef], defers := [] } ∧ W.heap[g4]? = some (.cells #[.int .i64 x.f0, .int .i64 x.f1, .int .i64 x.f2, .int .i64 x.f3, .int .i64 x.f4.f0, .int .i64 x.f4.f1, .int .i64 x.f4.f2, .int .i64 x.f4.f3] 88 (0, 0))) ?hAx ?assign ?body ?done ?stop
 case hRx =>
  rintro y _ A C row ⟨m, hm, hs⟩ hg hr
  exact ⟨m, hm, Chosen.own HB.out.size () A C row hs hg hr⟩
 case hAx =>
  rintro x a' _ A C row ⟨g4, e, hx⟩ hg hr
  exact ⟨g4, e, blk_own hx hg (fun r e => (hr r e).2)⟩
 case assign =>
  intro l x W K hx hB hK
  unfold encJ
  gi_wp2
  exact hK _ _ (b5_ (Below.refl _ _) _) ⟨W.heap.size, rfl, blk_new W _⟩
 case body =>
  rintro l x a' W hx hBW ⟨g4, rfl, hg4⟩
  obtain ⟨i0, hi0⟩ := List.getElem?_of_mem hx
  obtain ⟨⟨ms, e0⟩, ht0, hM⟩ := HH.out.2 i0 x hi0
  have hall : ∀ i : Nat, (jobsL a0_1 false l0_7)[i]? = some x → ts[i]? = some (ms, e0) := fun i hi => by
   obtain ⟨m', h1, h2⟩ := HH.out.2 i x hi
   rw [hM] at h2
   have h2 := Option.some.inj h2
   subst h2
   exact h1
  have HM := m_ hM
  have HAL := m_ hall
  have HXg4 := m_ hg4
  have HBW := m_ (b0_ HB.out hBW)
  have HS9 := m_ hBW.size
  have HBQ := m_ HB.out.size
  replace HXg1 := m_ (a1_ HXg1.out hBW)
  replace HXg2 := m_ (a1_ HXg2.out hBW)
  replace HXg3 := m_ (a1_ HXg3.out hBW)
  clear HB hBW hx hM ht0 hi0 hall hg4 HD1 HD2 HH HRR
  have HB := HBW
  clear HBW
  obtain ⟨cg1_0, cg1_1, cg1_2, cg1_3, cg1_4, cg1_5, cg1_6, cg1_7, cg1_8⟩ := cz9_ HXg1
  obtain ⟨cg4_0, cg4_1, cg4_2, cg4_3, cg4_4, cg4_5, cg4_6, cg4_7⟩ := cz8_ HXg4
  have hfol : Try.prog.follows Departure.mixedOrders = true := by kernel_rfl
  gi_wp2
  have HBW2 := m_ (b8_ (Below.refl W.heap.size W))
  replace HXg1 := m_ (show W.drew.heap[g1]? = some (.cells #[.int .i64 a0_0, .int .i64 a0_1, .int .i64 a0_2, .int .i64 a0_3, .slice A0_4 l0_4.length c0_4, .slice A0_5 l0_5.length c0_5, .slice A0_6 l0_6.length c0_6, .slice A0_7 l0_7.length c0_7, .slice A0_8 l0_8.length c0_8] 86 (0, 0)) from HXg1.out)
  replace HXg2 := m_ (show W.drew.heap[g2]? = some (.cells #[.int .i64 0, .int .i64 0, .slice none 0 0] 100 (0, 0)) from HXg2.out)
  replace HXg3 := m_ (show W.drew.heap[g3]? = some (.cells #[.bool false] 4 (0, 0)) from HXg3.out)
  replace HXg4 := m_ (show W.drew.heap[g4]? = some (.cells #[.int .i64 x.f0, .int .i64 x.f1, .int .i64 x.f2, .int .i64 x.f3, .int .i64 x.f4.f0, .int .i64 x.f4.f1, .int .i64 x.f4.f2, .int .i64 x.f4.f3] 88 (0, 0)) from HXg4.out)
  replace HB := m_ (b8_ HB.out)
  have HT_ := m_ tab101
  have HW_ := m_ bits101
  clear cg1_0 cg1_1 cg1_2 cg1_3 cg1_4 cg1_5 cg1_6 cg1_7 cg1_8 cg4_0 cg4_1 cg4_2 cg4_3 cg4_4 cg4_5 cg4_6 cg4_7
  refine region_round hfol (by kernel_rfl) (fun ⟨_, _, h⟩ => h) (m := 11) (S := fun w' => w'.cell? ⟨g1, 0, none⟩ = some (.int .i64 a0_0) ∧ w'.cell? ⟨g1, 1, none⟩ = some (.int .i64 a0_1) ∧ w'.cell? ⟨g1, 2, none⟩ = some (.int .i64 a0_2) ∧ w'.cell? ⟨g1, 3, none⟩ = some (.int .i64 a0_3) ∧ w'.cell? ⟨g1, 4, none⟩ = some (.slice A0_4 l0_4.length c0_4) ∧ w'.cell? ⟨g1, 5, none⟩ = some (.slice A0_5 l0_5.length c0_5) ∧ w'.cell? ⟨g1, 6, none⟩ = some (.slice A0_6 l0_6.length c0_6) ∧ w'.cell? ⟨g1, 7, none⟩ = some (.slice A0_7 l0_7.length c0_7) ∧ w'.cell? ⟨g1, 8, none⟩ = some (.slice A0_8 l0_8.length c0_8) ∧ w'.cell? ⟨g4, 0, none⟩ = some (.int .i64 x.f0) ∧ w'.cell? ⟨g4, 1, none⟩ = some (.int .i64 x.f1) ∧ w'.cell? ⟨g4, 2, none⟩ = some (.int .i64 x.f2) ∧ w'.cell? ⟨g4, 3, none⟩ = some (.int .i64 x.f3) ∧ w'.cell? ⟨g4, 4, none⟩ = some (.int .i64 x.f4.f0) ∧ w'.cell? ⟨g4, 5, none⟩ = some (.int .i64 x.f4.f1) ∧ w'.cell? ⟨g4, 6, none⟩ = some (.int .i64 x.f4.f2) ∧ w'.cell? ⟨g4, 7, none⟩ = some (.int .i64 x.f4.f3)) (ds := []) (bm 11 0) rfl rfl ⟨(a0_ HXg1.out 0).trans rfl, (a0_ HXg1.out 1).trans rfl, (a0_ HXg1.out 2).trans rfl, (a0_ HXg1.out 3).trans rfl, (a0_ HXg1.out 4).trans rfl, (a0_ HXg1.out 5).trans rfl, (a0_ HXg1.out 6).trans rfl, (a0_ HXg1.out 7).trans rfl, (a0_ HXg1.out 8).trans rfl, (a0_ HXg4.out 0).trans rfl, (a0_ HXg4.out 1).trans rfl, (a0_ HXg4.out 2).trans rfl, (a0_ HXg4.out 3).trans rfl, (a0_ HXg4.out 4).trans rfl, (a0_ HXg4.out 5).trans rfl, (a0_ HXg4.out 6).trans rfl, (a0_ HXg4.out 7).trans rfl⟩ (fun hHeld => ?_)
  refine tk 0 (some 11) (bm 11 1) ?_
  refine tk 1 (some 12) (bm 11 3) ?_
  refine tk 2 (some 13) (bm 11 7) ?_
  refine tk 3 (some 14) (bm 11 15) ?_
  refine one_ (i := 4) (N := some 15) (bm 11 31) rfl rfl (one_of HT_.out (by kernel_rfl)) (by decide) (fun K hK => ?_)
  refine goes_ Try.func99 (by kernel_rfl) rfl #[.agg #[.int .i64 a0_0, .int .i64 a0_1, .int .i64 a0_2, .int .i64 a0_3, .slice A0_4 l0_4.length c0_4, .slice A0_5 l0_5.length c0_5, .slice A0_6 l0_6.length c0_6, .slice A0_7 l0_7.length c0_7, .slice A0_8 l0_8.length c0_8], .agg #[.int .i64 x.f0, .int .i64 x.f1, .int .i64 x.f2, .int .i64 x.f3, .int .i64 x.f4.f0, .int .i64 x.f4.f1, .int .i64 x.f4.f2, .int .i64 x.f4.f3]] (by rfl) rfl rfl Z11 ?_
  refine (latest_calls a0_0 a0_1 a0_2 a0_3 A0_4 c0_4 l0_4 A0_5 c0_5 l0_5 A0_6 c0_6 l0_6 A0_7 c0_7 l0_7 A0_8 c0_8 l0_8 x.f0 x.f1 x.f2 x.f3 x.f4.f0 x.f4.f1 x.f4.f2 x.f4.f3 _).mono ?_
  rintro e wq ⟨rfl, hb⟩
  refine ⟨_, rfl, ?_⟩
  have hbq0 := m_ hb
  replace HXg1 := m_ (a1_ HXg1.out hb)
  replace HXg2 := m_ (a1_ HXg2.out hb)
  replace HXg3 := m_ (a1_ HXg3.out hb)
  replace HXg4 := m_ (a1_ HXg4.out hb)
  replace HB := m_ (b0_ HB.out hb)
  clear hb
  refine hK.out _ _ kc_ (fun hHeld => ?_)
  clear hK K
  refine norm_ (a' := ?_) ?_ ?_
  rotate_left
  ·show Act.put _ (some 15) _ = _
   simp only [Act.put, List.setIfInBounds_toArray, List.set_cons_zero, List.set_cons_succ, i64_w, i32_w]
   rfl
  refine one_ (i := 5) (N := some 16) (bm 11 63) rfl rfl (one_of HT_.out (by kernel_rfl)) (by decide) (fun K hK => ?_)
  refine goes_ Try.func58 (by kernel_rfl) rfl #[.agg #[.int .i64 a0_0, .int .i64 a0_1, .int .i64 a0_2, .int .i64 a0_3, .slice A0_4 l0_4.length c0_4, .slice A0_5 l0_5.length c0_5, .slice A0_6 l0_6.length c0_6, .slice A0_7 l0_7.length c0_7, .slice A0_8 l0_8.length c0_8], .agg #[.int .i64 x.f0, .int .i64 x.f1, .int .i64 x.f2, .int .i64 x.f3, .int .i64 x.f4.f0, .int .i64 x.f4.f1, .int .i64 x.f4.f2, .int .i64 x.f4.f3], .int .i64 (wrap64 (wrap64 (a0_0 + a0_3) + x.f3))] (by rfl) rfl rfl Z11 ?_
  refine (elastic_Fill.calls ks a0_0 a0_1 a0_2 a0_3 _ _ l0_4 _ _ l0_5 _ _ l0_6 _ _ l0_7 _ _ l0_8 x.f0 x.f1 x.f2 x.f3 x.f4.f0 x.f4.f1 x.f4.f2 x.f4.f3 (wrap64 (wrap64 (a0_0 + a0_3) + x.f3)) _ _ _ (Kd.C_below HR0_4.out (HB.out)) HC0_4.out (Kd.C_below HR0_5.out (HB.out)) HC0_5.out (Kd.C_below HR0_6.out (HB.out)) HC0_6.out (Kd.C_below HR0_7.out (HB.out)) HC0_7.out (Kd.C_below HR0_8.out (HB.out)) HC0_8.out HM.out).mono ?_
  rintro e wp ⟨vp, rfl, hrp, hb⟩
  refine ⟨_, rfl, ?_⟩
  have hbp0 := m_ hb
  have HRP := m_ hrp
  replace HXg1 := m_ (a1_ HXg1.out hb)
  replace HXg2 := m_ (a1_ HXg2.out hb)
  replace HXg3 := m_ (a1_ HXg3.out hb)
  replace HXg4 := m_ (a1_ HXg4.out hb)
  replace HB := m_ (b0_ HB.out hb)
  clear hb hrp
  obtain ⟨Ap, cp, hvp⟩ := Kd.R_slice HRP.out
  subst hvp
  refine hK.out _ _ kc_ (fun hHeld => ?_)
  clear hK K
  refine norm_ (a' := ?_) ?_ ?_
  rotate_left
  ·show Act.put _ (some 16) _ = _
   simp only [Act.put, List.setIfInBounds_toArray, List.set_cons_zero, List.set_cons_succ, i64_w, i32_w]
   rfl
  refine pu 6 (some 10) (bm 11 127) ?_
  refine pu 7 (some 17) (bm 11 255) ?_
  refine pu 8 (some 18) (bm 11 511) ?_
  refine pu 9 (some 5) (bm 11 1023) ?_
  refine pu 10 (some 6) (bm 11 2047) ?_
  refine done_ (done_of HT_.out (by kernel_rfl)) ?_
  have zg2_0 : wp.frozen? ⟨g2, 0, none⟩ = false := a2_ HXg2.out 0
  have zg2_1 : wp.frozen? ⟨g2, 1, none⟩ = false := a2_ HXg2.out 1
  have zg2_2 : wp.frozen? ⟨g2, 2, none⟩ = false := a2_ HXg2.out 2
  have zg3_0 : wp.frozen? ⟨g3, 0, none⟩ = false := a2_ HXg3.out 0
  have n23 := Ng2_g3.out
  obtain ⟨cg2_0, cg2_1, cg2_2⟩ := cz3_ HXg2
  have cg3_0 : wp.cell? ⟨g3, 0, none⟩ = some (.bool false) := (a0_ HXg3.out 0).trans rfl
  obtain ⟨cg4_0, cg4_1, cg4_2, cg4_3, cg4_4, cg4_5, cg4_6, cg4_7⟩ := cz8_ HXg4
  have HBQ1 := m_ hbq0.out
  have HBP := m_ hbp0.out
  all_goals
   by_cases he : e0 = 0
   ·subst he
    gi_wp2
    have h2 : ((((wp.setCell ⟨g2, 0, none⟩ (.int .i64 2)).setCell ⟨g2, 1, none⟩ (.int .i64 x.f0)).setCell ⟨g2, 2, none⟩ (.slice Ap ms.length cp)).setCell ⟨g3, 0, none⟩ (.bool true)).heap[g2]? = some (.cells #[.int .i64 2, .int .i64 x.f0, .slice Ap ms.length cp] 100 (0, 0)) := c7_ (d4_ (d4_ (d4_ HXg2.out 0 _ rfl) 1 _ rfl) 2 _ rfl) n23 _
    have h3 : ((((wp.setCell ⟨g2, 0, none⟩ (.int .i64 2)).setCell ⟨g2, 1, none⟩ (.int .i64 x.f0)).setCell ⟨g2, 2, none⟩ (.slice Ap ms.length cp)).setCell ⟨g3, 0, none⟩ (.bool true)).heap[g3]? = some (.cells #[.bool true] 4 (0, 0)) := d4_ (c7_ (c7_ (c7_ HXg3.out n23.symm _) n23.symm _) n23.symm _) 0 _ rfl
    have r0 := HRP.out
    have r1 := Kd.R_grown2 r0 rfl (grown_set (j := 0) (v := .int .i64 2) (d6_ _ (some g2))) (fun k hk => by injection hk with hk; subst hk; exact Kd.R_ne r0 HXg2.out (by decide))
    have y1 : (wp.setCell ⟨g2, 0, none⟩ (.int .i64 2)).heap[g2]? = some (.cells #[.int .i64 2, .int .i64 0, .slice none 0 0] 100 (0, 0)) := d4_ HXg2.out 0 _ rfl
    have r2 := Kd.R_grown2 r1 rfl (grown_set (j := 1) (v := .int .i64 x.f0) (d6_ _ (some g2))) (fun k hk => by injection hk with hk; subst hk; exact Kd.R_ne r1 y1 (by decide))
    have y2 := d4_ y1 1 (.int .i64 x.f0) rfl
    have r3 := Kd.R_grown2 r2 rfl (grown_set (j := 2) (v := .slice Ap ms.length cp) (d6_ _ (some g2))) (fun k hk => by injection hk with hk; subst hk; exact Kd.R_ne r2 y2 (by decide))
    have y3 : (((wp.setCell ⟨g2, 0, none⟩ (.int .i64 2)).setCell ⟨g2, 1, none⟩ (.int .i64 x.f0)).setCell ⟨g2, 2, none⟩ (.slice Ap ms.length cp)).heap[g3]? = some (.cells #[.bool false] 4 (0, 0)) := c7_ (c7_ (c7_ HXg3.out n23.symm _) n23.symm _) n23.symm _
    have r4 := Kd.R_grown2 r3 rfl (grown_set (j := 0) (v := .bool true) (d6_ _ (some g3))) (fun k hk => by injection hk with hk; subst hk; exact Kd.R_ne r3 y3 (by decide))
    have hkf : Below W.heap.size W wp := b0_ (b0_ HBW2.out HBQ1.out) HBP.out
    refine ⟨(keepsFrom_below hkf).trans (((((KeepsOthers.setCell _ _ _).trans (KeepsOthers.setCell _ _ _)).trans (KeepsOthers.setCell _ _ _)).trans (KeepsOthers.setCell _ _ _)).from _), ms, HAL.out, Ap, cp, h2, h3, Kd.R_lower r4 ?_, b6_ (b6_ (b6_ (b6_ HB.out Gg2) Gg2) Gg2) Gg3⟩
    have a1 := HBQ1.out.size
    have a2 : w.heap.size ≤ W.heap.size := Nat.le_trans HBQ.out HS9.out
    have a3 : W.drew.heap.size = W.heap.size := rfl
    omega
   ·have t0 : (e0 == 0) = false := by simpa using he
    have HE := m_ he
    clear he
    gi_wp2
    exact ⟨b0_ (b0_ HBW2.out HBQ1.out) HBP.out, fun i hi => ⟨_, HAL.out i hi, HE.out⟩⟩
 case done =>
  intro D W hD hf hBW hK
  have hL : fillW (jobsL a0_1 false l0_7) ts = (0, 0, [], false) := fillW_none fun m hm => by
   obtain ⟨i, hi⟩ := List.getElem?_of_mem hm
   have hil : i < (jobsL a0_1 false l0_7).length := by
    rw [← HH.out.1]; exact (List.getElem?_eq_some_iff.1 hi).1
   obtain ⟨m', h1, h2⟩ := hf _ (List.getElem_mem hil) i (List.getElem?_eq_getElem hil)
   rw [hi] at h1
   rw [Option.some.inj h1]; exact h2
  have hh := HRR.out
  rw [hL] at hh
  simp only [Prod.mk.injEq] at hh
  obtain ⟨rfl, rfl, rfl, rfl⟩ := hh
  replace HXg2 := m_ (a1_ HXg2.out hBW)
  replace HXg3 := m_ (a1_ HXg3.out hBW)
  have HBW := m_ (b0_ HB.out hBW)
  have HD := m_ hD
  have HK := m_ hK
  have HW9 := m_ HB.out.size
  clear HXg1 HB hBW hK hD hf HD1 HD2 hL HH HRR
  have zg2_0 : W.frozen? ⟨g2, 0, none⟩ = false := a2_ HXg2.out 0
  have zg2_1 : W.frozen? ⟨g2, 1, none⟩ = false := a2_ HXg2.out 1
  have zg2_2 : W.frozen? ⟨g2, 2, none⟩ = false := a2_ HXg2.out 2
  have zg3_0 : W.frozen? ⟨g3, 0, none⟩ = false := a2_ HXg3.out 0
  have n23 := Ng2_g3.out
  obtain ⟨cg2_0, cg2_1, cg2_2⟩ := cz3_ HXg2
  have cg3_0 : W.cell? ⟨g3, 0, none⟩ = some (.bool false) := (a0_ HXg3.out 0).trans rfl
  go_wp2
  have h2 : ((((W.setCell ⟨g2, 0, none⟩ (.int .i64 0)).setCell ⟨g2, 1, none⟩ (.int .i64 0)).setCell ⟨g2, 2, none⟩ (.slice none 0 0)).setCell ⟨g3, 0, none⟩ (.bool false)).heap[g2]? = some (.cells #[.int .i64 0, .int .i64 0, .slice none 0 0] 100 (0, 0)) := c7_ (d4_ (d4_ (d4_ HXg2.out 0 _ rfl) 1 _ rfl) 2 _ rfl) n23 _
  have h3 : ((((W.setCell ⟨g2, 0, none⟩ (.int .i64 0)).setCell ⟨g2, 1, none⟩ (.int .i64 0)).setCell ⟨g2, 2, none⟩ (.slice none 0 0)).setCell ⟨g3, 0, none⟩ (.bool false)).heap[g3]? = some (.cells #[.bool false] 4 (0, 0)) := d4_ (c7_ (c7_ (c7_ HXg3.out n23.symm _) n23.symm _) n23.symm _) 0 _ rfl
  have hk := ((((KeepsOthers.setCell W ⟨g2, 0, none⟩ (.int .i64 0)).trans (KeepsOthers.setCell _ ⟨g2, 1, none⟩ (.int .i64 0))).trans (KeepsOthers.setCell _ ⟨g2, 2, none⟩ (.slice none 0 0))).trans (KeepsOthers.setCell _ ⟨g3, 0, none⟩ (.bool false))).same D _ HK.out rfl
  have hs : Chosen w g2 g3 0 0 [] false ((((W.setCell ⟨g2, 0, none⟩ (.int .i64 0)).setCell ⟨g2, 1, none⟩ (.int .i64 0)).setCell ⟨g2, 2, none⟩ (.slice none 0 0)).setCell ⟨g3, 0, none⟩ (.bool false)) := ⟨none, 0, h2, h3, Kd.R_nil _ _ _ _ _, b6_ (b6_ (b6_ (b6_ HBW.out Gg2) Gg2) Gg2) Gg3⟩
  obtain ⟨A, c, k4, k5, kr, kb⟩ := hs.mark (by have := HD.out; have := HW9.out; omega) hk
  exact marks_ret1 hk (results101 rfl rfl k4 k5) ⟨A, c, rfl, kr, kb⟩
 case stop =>
  intro D k x W hD hx hf ⟨m, hm, hs⟩ hK
  have hL : fillW (jobsL a0_1 false l0_7) ts = (2, x.f0, m, true) := fillW_some hx (hm k hx) rfl fun m' hm' => by
   obtain ⟨i, hi, rfl⟩ := List.mem_take_iff_getElem.1 hm'
   have hil : i < (jobsL a0_1 false l0_7).length := by rw [← HH.out.1]; omega
   obtain ⟨m'', h1, h2⟩ := hf (jobsL a0_1 false l0_7)[i] (List.mem_take_iff_getElem.2 ⟨i, by omega, rfl⟩) i (List.getElem?_eq_getElem hil)
   rw [List.getElem?_eq_getElem (by omega)] at h1
   rw [Option.some.inj h1]; exact h2
  have hh := HRR.out
  rw [hL] at hh
  simp only [Prod.mk.injEq] at hh
  obtain ⟨rfl, rfl, rfl, rfl⟩ := hh
  have hw := HB.out.size
  obtain ⟨A, c, k4, k5, kr, kb⟩ := hs.mark (by omega) hK
  exact marks_ret1 hK (results101 rfl rfl k4 k5) ⟨A, c, rfl, kr, kb⟩
end Go.Proofs.Ytckhjehibjdjdaa.P
namespace Go.Proofs.Ytckhjehibjdjdaa.P
open Go.RowKit Go.Proofs.YtckhjehibjdjdaaW.PrintWords Go.Proofs.YtckhjehibjdjdaaW.PrintLast Go.Proofs.YtckhjehibjdjdaaW.PrintMore
attribute [local go_sem] max2_int min2_int max_two min_two max_three min_three max_four min_four
def worker_hold.l0 : Nat → Int → List (S41) → Int → Int → Option (Int × Int × Int × Bool × (List (S52)) × Bool)
 | 0, _, _, _, _ => none
 | k + 1, x1, x9, x10, x11 => if x11 < x10 then (if 0 ≤ x11 then (if x11 < (x9.length : Int) then (if ((a8_ x9 x11).f0) = x1 then (some ((a8_ x9 x11).f0, (a8_ x9 x11).f1, (a8_ x9 x11).f2, (a8_ x9 x11).f3, (a8_ x9 x11).f4, true)) else (worker_hold.l0 k x1 x9 x10 (wrap64 (x11 + 1)))) else (none)) else (none)) else (some (0, 0, 0, false, ([] : List (S52)), false))
def worker_hold.f (k : Nat) (a0_0 a0_1 a0_2 a0_3 : Int) (l0_4 : List (S51)) (l0_5 : List (S24)) (l0_6 : List (S41)) (l0_7 : List (S105)) (l0_8 : List (S149)) (a1 : Int) : Option (Int × Int × Int × Bool × (List (S52)) × Bool) := worker_hold.l0 k a1 l0_6 (l0_6.length : Int) 0
set_option maxHeartbeats 8000000 in
set_option maxRecDepth 100000 in
theorem worker_hold.calls (k : Nat) (a0_0 a0_1 a0_2 a0_3 : Int) (A0_4 : Option Addr) (c0_4 : Nat) (l0_4 : List (S51)) (A0_5 : Option Addr) (c0_5 : Nat) (l0_5 : List (S24)) (P0_6_ : Nat → Prop) (A0_6 : Option Addr) (c0_6 : Nat) (l0_6 : List (S41)) (A0_7 : Option Addr) (c0_7 : Nat) (l0_7 : List (S105)) (A0_8 : Option Addr) (c0_8 : Nat) (l0_8 : List (S149)) (a1 r1 r2 r3 : Int) (r4 : Bool) (r5 : List (S52)) (r6 : Bool) (w : World) (hr0_4 : Kd.C k51 w A0_4 l0_4.length l0_4) (hc0_4 : l0_4.length ≤ c0_4) (hr0_5 : Kd.C k24 w A0_5 l0_5.length l0_5) (hc0_5 : l0_5.length ≤ c0_5) (hs0_6 : Kd.V k41 41 w w.heap.size (fun k_ => P0_6_ k_) (.slice A0_6 l0_6.length c0_6) l0_6) (hr0_7 : Kd.C k105 w A0_7 l0_7.length l0_7) (hc0_7 : l0_7.length ≤ c0_7) (hr0_8 : Kd.C k149 w A0_8 l0_8.length l0_8) (hc0_8 : l0_8.length ≤ c0_8) (h : worker_hold.f k a0_0 a0_1 a0_2 a0_3 l0_4 l0_5 l0_6 l0_7 l0_8 a1 = some (r1, r2, r3, r4, r5, r6)) :
  Calls Try.prog 119 #[.agg #[.int .i64 a0_0, .int .i64 a0_1, .int .i64 a0_2, .int .i64 a0_3, .slice A0_4 l0_4.length c0_4, .slice A0_5 l0_5.length c0_5, .slice A0_6 l0_6.length c0_6, .slice A0_7 l0_7.length c0_7, .slice A0_8 l0_8.length c0_8], .int .i64 a1] w fun e w' => ∃ v4_ : Value, e = .returned (.tuple #[.agg #[.int .i64 r1, .int .i64 r2, .int .i64 r3, .bool r4, v4_], .bool r6]) ∧ Kd.V k52 52 w' w.heap.size (fun k_ => (P0_6_ k_ ∨ w.heap.size ≤ k_)) v4_ r5 ∧ Below w.heap.size w w' := by
 have hu86 := Try.underlying86
 have hu41 := Try.underlying41
 have HR0_4 := m_ hr0_4
 have HC0_4 := m_ hc0_4
 clear hr0_4 hc0_4
 have HR0_5 := m_ hr0_5
 have HC0_5 := m_ hc0_5
 clear hr0_5 hc0_5
 have HO0_6 := m_ (show Kd.V k41 41 w w.heap.size (fun k_ => (P0_6_ k_ ∨ w.heap.size ≤ k_)) (.slice A0_6 l0_6.length c0_6) l0_6 from Kd.V_mono hs0_6 (fun k_ hk => .inl hk))
 have HR0_7 := m_ hr0_7
 have HC0_7 := m_ hc0_7
 clear hr0_7 hc0_7
 have HR0_8 := m_ hr0_8
 have HC0_8 := m_ hc0_8
 clear hr0_8 hc0_8
 have HB := m_ (Below.refl w.heap.size w)
 have H := h
 unfold worker_hold.f at H
 clear h
 have H' := m_ H
 clear H
 go_enter Try.func119, Try.ntmps119
 go_wp2_with (first | ((with_reducible refine a3_ (N := 2) rfl ?_); refine bx 2 #[.int .i64 a0_0, .int .i64 a0_1, .int .i64 a0_2, .int .i64 a0_3, .slice A0_4 l0_4.length c0_4, .slice A0_5 l0_5.length c0_5, .slice A0_6 l0_6.length c0_6, .slice A0_7 l0_7.length c0_7, .slice A0_8 l0_8.length c0_8] 86 ?_; intro gb844 hg w3 hbox hb; have BK844 := m_ (hbox); have GW844 := ge_ hg; have GE844 := ge_ hg; replace HO0_6 := m_ (Kd.V_below (Kd.V_elderB (by (with_reducible repeat (first | apply Kd.V_alloc | apply Kd.V_drewN | apply Kd.V_drew)); exact HO0_6.out) gb844 (Nat.le_of_eq hg.symm)) hb); replace HB := hs_ hb; clear hb hbox hg) | ((with_reducible refine a3_ (N := 4) rfl ?_); refine bx 4 #[.int .i64 0, .int .i64 0, .int .i64 0, .bool false, .slice none 0 0] 41 ?_; intro gb845 hg w4 hbox hb; have BK845 := m_ (hbox); have GW845 := ge_ hg; have GE845 := ge_ hg; have NB844_845 := nl_ BK844 hg; have NB845_844 := nr_ BK844 hg; replace HO0_6 := m_ (Kd.V_below (Kd.V_elderB (by (with_reducible repeat (first | apply Kd.V_alloc | apply Kd.V_drewN | apply Kd.V_drew)); exact HO0_6.out) gb845 (Nat.le_of_eq hg.symm)) hb); replace BK844 := bk_ BK844 hb; replace HB := hs_ hb; clear hb hbox hg; have hnb5 := NB844_845.out; have hnc5 := NB845_844.out; obtain ⟨hcz6_0, hcz6_1, hcz6_2, hcz6_3, hcz6_4, hcz6_5, hcz6_6, hcz6_7, hcz6_8, hfz6_0, hfz6_1, hfz6_2, hfz6_3, hfz6_4, hfz6_5, hfz6_6, hfz6_7, hfz6_8⟩ := bz9_ BK844))
 go_loopg [11] k (fun kq v11 w' => ∃ (x11_1 : Int) (x846000_1 : Int) (x846001_1 : Int) (x846002_1 : Int) (x846003_1 : Bool), v11 = .int .i64 x11_1 ∧ A_ (worker_hold.l0 kq a1 l0_6 (l0_6.length : Int) x11_1 = some (r1, r2, r3, r4, r5, r6)) ∧ A_ (kq ≤ k) ∧ A_ (Kd.V k41 41 w' w.heap.size (fun k_ => (P0_6_ k_ ∨ w.heap.size ≤ k_) ∧ k_ ≠ gb844 ∧ k_ ≠ gb845) (.slice A0_6 l0_6.length c0_6) l0_6) ∧ A_ (Kd.V k41 41 w' w.heap.size (fun k_ => (P0_6_ k_ ∨ w.heap.size ≤ k_) ∧ k_ ≠ gb844 ∧ k_ ≠ gb845) (.slice A0_6 l0_6.length c0_6) l0_6) ∧ A_ (w'.heap[gb844]? = some (.cells #[.int .i64 a0_0, .int .i64 a0_1, .int .i64 a0_2, .int .i64 a0_3, (.slice A0_4 l0_4.length c0_4), (.slice A0_5 l0_5.length c0_5), (.slice A0_6 l0_6.length c0_6), (.slice A0_7 l0_7.length c0_7), (.slice A0_8 l0_8.length c0_8)] 86 (0, 0))) ∧ A_ (w'.heap[gb845]? = some (.cells #[.int .i64 x846000_1, .int .i64 x846001_1, .int .i64 x846002_1, .bool x846003_1, (.slice none 0 0)] 41 (0, 0))) ∧ A_ (Below w.heap.size w w'))
 case atStart => exact ⟨(0), (0), (0), (0), (false), Z3, H', ⟨Nat.le_refl _⟩, ⟨by (with_reducible repeat (first | apply Kd.V_alloc | apply Kd.V_drewN | apply Kd.V_drew)); exact Kd.V_mono HO0_6.out (fun _ hk => ⟨hk.1.1, ⟨hk.1.2, hk.2⟩⟩)⟩, ⟨by (with_reducible repeat (first | apply Kd.V_alloc | apply Kd.V_drewN | apply Kd.V_drew)); exact Kd.V_mono HO0_6.out (fun _ hk => ⟨hk.1.1, ⟨hk.1.2, hk.2⟩⟩)⟩, ⟨bo_ BK844⟩, ⟨bo_ BK845⟩, ⟨hb_⟩⟩
 case round =>
  clear H'
  try clear c1
  try clear p2
  try clear c5
  try clear hcz6_0 hcz6_1 hcz6_2 hcz6_3 hcz6_4 hcz6_5 hcz6_6 hcz6_7 hcz6_8 hfz6_0 hfz6_1 hfz6_2 hfz6_3 hfz6_4 hfz6_5 hfz6_6 hfz6_7 hfz6_8
  obtain ⟨x11_1, x846000_1, x846001_1, x846002_1, x846003_1, rfl, HA, HK1, HO_9, HO_845006, BK844, BK845, HB⟩ := hrel
  cases gk with
  | zero => exact absurd HA.out (by simp [worker_hold.l0])
  | succ k1 =>
   have H := HA.out
   clear HA
   simp only [worker_hold.l0] at H
   by_cases c7 : x11_1 < (l0_6.length : Int)
   ·rw [if_pos c7] at H
    have c7b0 : decide (x11_1 < (l0_6.length : Int)) = true := decide_eq_true c7
    clear c7
    by_cases c8 : 0 ≤ x11_1
    ·rw [if_pos c8] at H
     have c8b0 : decide (0 ≤ x11_1) = true := decide_eq_true c8
     clear c8
     by_cases c9 : x11_1 < (l0_6.length : Int)
     ·rw [if_pos c9] at H
      have c9b0 : decide (x11_1 < (l0_6.length : Int)) = true := decide_eq_true c9
      clear c9
      by_cases c10 : ((a8_ l0_6 x11_1).f0) = a1
      ·rw [if_pos c10] at H
       have c10b0 : (((a8_ l0_6 x11_1).f0) == a1) = true := beq_iff_eq.mpr c10
       have c10b1 : (((a8_ l0_6 x11_1).f0) != a1) = false := bne_eq_false_iff_eq.mpr c10
       clear c10
       simp only [Option.some.injEq, Prod.mk.injEq] at H
       obtain ⟨rfl, rfl, rfl, rfl, rfl, rfl⟩ := H
       have p846 : 0 ≤ (x11_1 : Int) := of_decide_eq_true Z1
       have q846 : x11_1 < (l0_6.length : Int) := of_decide_eq_true Z1
       obtain ⟨ad846, A846_4, c846_4, e846, hx846_0, hx846_1, hx846_2, hx846_3, hx846_4, hl846_4, hi846_4⟩ := at_T41 (Kd.V_reads' HO_9.out).2.2 x11_1 p846 q846
       cases e846
       obtain ⟨ce846, hce846, hMe846, hcc846⟩ := Kd.V_get HO_9.out z41 x11_1 p846 (by first | exact q846 | exact of_decide_eq_true Z1 | (have e_ := (Kd.V_reads' HO_9.out).1; omega))
       obtain ⟨ua846_4, uc846_4, rfl, ul846_4, ge846_4⟩ := k41_openF hMe846
       have hv846_4 := hcc846 4 _ rfl
       rw [e3_ _ _ 4 (by omega)] at hv846_4
       replace hv846_4 := Option.some.inj (hv846_4.symm.trans hx846_4)
       injection hv846_4 with hva_ hvn_ hvc_
       rw [hva_] at ge846_4
       rw [hvc_] at ul846_4
       have HL846_4 := m_ (show Kd.V k52 52 _ w.heap.size _ _ ((a8_ l0_6 x11_1).f4) from Kd.V_mk ul846_4 ge846_4)
       clear hva_ hvn_ hvc_ ge846_4 ul846_4
       clear hcc846 hce846
       have HR846_4 := m_ hi846_4
       have HC846_4 := m_ hl846_4
       clear hi846_4 hl846_4
       replace p846 := eq_true p846
       replace q846 := eq_true q846
       go_wp2_with (first | ((with_reducible refine a3_ (N := 7) rfl ?_); refine bx 7 #[.int .i64 0, .int .i64 0, .int .i64 0, .bool false, .slice none 0 0] 41 ?_; intro gb847 hg w11 hbox hb; have BK847 := m_ (hbox); have GW847 := ge_ hg; have GE847 := ge_ hg; have NB844_847 := nl_ BK844 hg; have NB847_844 := nr_ BK844 hg; have NB845_847 := nl_ BK845 hg; have NB847_845 := nr_ BK845 hg; replace HO_9 := m_ (Kd.V_below (Kd.V_elderB (by (with_reducible repeat (first | apply Kd.V_alloc | apply Kd.V_drewN | apply Kd.V_drew)); exact HO_9.out) gb847 (Nat.le_of_eq hg.symm)) hb); replace HO_845006 := m_ (Kd.V_below (Kd.V_elderB (by (with_reducible repeat (first | apply Kd.V_alloc | apply Kd.V_drewN | apply Kd.V_drew)); exact HO_845006.out) gb847 (Nat.le_of_eq hg.symm)) hb); replace HL846_4 := m_ (Kd.V_below (Kd.V_elderB (by (with_reducible repeat (first | apply Kd.V_alloc | apply Kd.V_drewN | apply Kd.V_drew)); exact HL846_4.out) gb847 (Nat.le_of_eq hg.symm)) hb); replace BK844 := bk_ BK844 hb; replace BK845 := bk_ BK845 hb; replace HR846_4 := m_ (Kd.C_below (by repeat (first | (with_reducible exact HR846_4.out) | (with_reducible refine Kd.C_alloc ?_ _) | (with_reducible refine Kd.C_drewN ?_ _) | (with_reducible refine Kd.C_drew ?_) | exact HR846_4.out)) hb); replace HB := hs_ hb; clear hb hbox hg; have hnb12 := NB847_844.out; have hnc12 := NB844_847.out; have hnb13 := NB847_845.out; have hnc13 := NB845_847.out; obtain ⟨hcz14_0, hcz14_1, hcz14_2, hcz14_3, hcz14_4, hfz14_0, hfz14_1, hfz14_2, hfz14_3, hfz14_4⟩ := bz5_ BK847; have hnb15 := NB845_844.out; have hnc15 := NB844_845.out; obtain ⟨hcz16_0, hcz16_1, hcz16_2, hcz16_3, hcz16_4, hfz16_0, hfz16_1, hfz16_2, hfz16_3, hfz16_4⟩ := bz5_ BK845))
       refine bodyPost_ret (results_ct rfl _ _ gb845 41 #[.int .i64 ((a8_ l0_6 x11_1).f0), .int .i64 ((a8_ l0_6 x11_1).f1), .int .i64 ((a8_ l0_6 x11_1).f2), .bool ((a8_ l0_6 x11_1).f3), .slice A846_4 ((a8_ l0_6 x11_1).f4).length c846_4] (0, 0) _ rfl (bt_ BK845) Try.underlying41 rfl (by kernel_rfl)) rfl ?_
       exact ⟨_, by first | rfl | (simp [b2_, b1_] <;> rfl) | (simp [*, b2_, b1_] <;> rfl), by (with_reducible repeat (first | apply Kd.V_alloc | apply Kd.V_drewN | apply Kd.V_drew)); exact Kd.V_mono (Kd.V_far (p := ⟨gb845, 4, none⟩) (Kd.V_far (p := ⟨gb845, 3, none⟩) (Kd.V_far (p := ⟨gb845, 2, none⟩) (Kd.V_far (p := ⟨gb845, 1, none⟩) (Kd.V_far (p := ⟨gb845, 0, none⟩) (Kd.V_far (p := ⟨gb847, 4, none⟩) (Kd.V_far (p := ⟨gb847, 3, none⟩) (Kd.V_far (p := ⟨gb847, 2, none⟩) (Kd.V_far (p := ⟨gb847, 1, none⟩) (Kd.V_far (p := ⟨gb847, 0, none⟩) (Kd.V_mono (Kd.V_mono HL846_4.out (fun k_ hk => (⟨hk, hk.2⟩ : _ ∧ k_ ≠ gb847))) (fun k_ hk => (⟨hk, hk.1.1.2.2⟩ : _ ∧ k_ ≠ gb845))) (fun _ hk => hk.1.2) (.int .i64 ((a8_ l0_6 x11_1).f0))) (fun _ hk => hk.1.2) (.int .i64 ((a8_ l0_6 x11_1).f1))) (fun _ hk => hk.1.2) (.int .i64 ((a8_ l0_6 x11_1).f2))) (fun _ hk => hk.1.2) (.bool ((a8_ l0_6 x11_1).f3))) (fun _ hk => hk.1.2) (.slice A846_4 ((a8_ l0_6 x11_1).f4).length c846_4)) (fun _ hk => hk.2) (.int .i64 ((a8_ l0_6 x11_1).f0))) (fun _ hk => hk.2) (.int .i64 ((a8_ l0_6 x11_1).f1))) (fun _ hk => hk.2) (.int .i64 ((a8_ l0_6 x11_1).f2))) (fun _ hk => hk.2) (.bool ((a8_ l0_6 x11_1).f3))) (fun _ hk => hk.2) (.slice A846_4 ((a8_ l0_6 x11_1).f4).length c846_4)) (fun _ hk => hk.1.1.1.1), hb_⟩
      ·rw [if_neg c10] at H
       have c10b0 : (((a8_ l0_6 x11_1).f0) == a1) = false := beq_eq_false_iff_ne.mpr c10
       have c10b1 : (((a8_ l0_6 x11_1).f0) != a1) = true := bne_iff_ne.mpr c10
       have H' := m_ H
       clear H
       have p846 : 0 ≤ (x11_1 : Int) := of_decide_eq_true Z1
       have q846 : x11_1 < (l0_6.length : Int) := of_decide_eq_true Z1
       obtain ⟨ad846, A846_4, c846_4, e846, hx846_0, hx846_1, hx846_2, hx846_3, hx846_4, hl846_4, hi846_4⟩ := at_T41 (Kd.V_reads' HO_9.out).2.2 x11_1 p846 q846
       cases e846
       obtain ⟨ce846, hce846, hMe846, hcc846⟩ := Kd.V_get HO_9.out z41 x11_1 p846 (by first | exact q846 | exact of_decide_eq_true Z1 | (have e_ := (Kd.V_reads' HO_9.out).1; omega))
       obtain ⟨ua846_4, uc846_4, rfl, ul846_4, ge846_4⟩ := k41_openF hMe846
       have hv846_4 := hcc846 4 _ rfl
       rw [e3_ _ _ 4 (by omega)] at hv846_4
       replace hv846_4 := Option.some.inj (hv846_4.symm.trans hx846_4)
       injection hv846_4 with hva_ hvn_ hvc_
       rw [hva_] at ge846_4
       rw [hvc_] at ul846_4
       have HL846_4 := m_ (show Kd.V k52 52 _ w.heap.size _ _ ((a8_ l0_6 x11_1).f4) from Kd.V_mk ul846_4 ge846_4)
       clear hva_ hvn_ hvc_ ge846_4 ul846_4
       clear hcc846 hce846
       have HR846_4 := m_ hi846_4
       have HC846_4 := m_ hl846_4
       clear hi846_4 hl846_4
       replace p846 := eq_true p846
       replace q846 := eq_true q846
       go_wp2_with (first | ((with_reducible refine a3_ (N := 7) rfl ?_); refine bx 7 #[.int .i64 0, .int .i64 0, .int .i64 0, .bool false, .slice none 0 0] 41 ?_; intro gb847 hg w17 hbox hb; have BK847 := m_ (hbox); have GW847 := ge_ hg; have GE847 := ge_ hg; have NB844_847 := nl_ BK844 hg; have NB847_844 := nr_ BK844 hg; have NB845_847 := nl_ BK845 hg; have NB847_845 := nr_ BK845 hg; replace HO_9 := m_ (Kd.V_below (Kd.V_elderB (by (with_reducible repeat (first | apply Kd.V_alloc | apply Kd.V_drewN | apply Kd.V_drew)); exact HO_9.out) gb847 (Nat.le_of_eq hg.symm)) hb); replace HO_845006 := m_ (Kd.V_below (Kd.V_elderB (by (with_reducible repeat (first | apply Kd.V_alloc | apply Kd.V_drewN | apply Kd.V_drew)); exact HO_845006.out) gb847 (Nat.le_of_eq hg.symm)) hb); replace HL846_4 := m_ (Kd.V_below (Kd.V_elderB (by (with_reducible repeat (first | apply Kd.V_alloc | apply Kd.V_drewN | apply Kd.V_drew)); exact HL846_4.out) gb847 (Nat.le_of_eq hg.symm)) hb); replace BK844 := bk_ BK844 hb; replace BK845 := bk_ BK845 hb; replace HR846_4 := m_ (Kd.C_below (by repeat (first | (with_reducible exact HR846_4.out) | (with_reducible refine Kd.C_alloc ?_ _) | (with_reducible refine Kd.C_drewN ?_ _) | (with_reducible refine Kd.C_drew ?_) | exact HR846_4.out)) hb); replace HB := hs_ hb; clear hb hbox hg; have hnb18 := NB847_844.out; have hnc18 := NB844_847.out; have hnb19 := NB847_845.out; have hnc19 := NB845_847.out; obtain ⟨hcz20_0, hcz20_1, hcz20_2, hcz20_3, hcz20_4, hfz20_0, hfz20_1, hfz20_2, hfz20_3, hfz20_4⟩ := bz5_ BK847))
       go_roundg k1
       case measure => have := HK1.out; omega
       case rel => exact ⟨(wrap64 (x11_1 + 1)), (x846000_1), (x846001_1), (x846002_1), (x846003_1), Z3, H', ⟨by have := HK1.out; omega⟩, ⟨by (with_reducible repeat (first | apply Kd.V_alloc | apply Kd.V_drewN | apply Kd.V_drew)); exact Kd.V_mono (Kd.V_far (p := ⟨gb847, 4, none⟩) (Kd.V_far (p := ⟨gb847, 3, none⟩) (Kd.V_far (p := ⟨gb847, 2, none⟩) (Kd.V_far (p := ⟨gb847, 1, none⟩) (Kd.V_far (p := ⟨gb847, 0, none⟩) (Kd.V_mono HO_9.out (fun k_ hk => (⟨hk, hk.2⟩ : _ ∧ k_ ≠ gb847))) (fun _ hk => hk.2) (.int .i64 ((a8_ l0_6 x11_1).f0))) (fun _ hk => hk.2) (.int .i64 ((a8_ l0_6 x11_1).f1))) (fun _ hk => hk.2) (.int .i64 ((a8_ l0_6 x11_1).f2))) (fun _ hk => hk.2) (.bool ((a8_ l0_6 x11_1).f3))) (fun _ hk => hk.2) (.slice A846_4 ((a8_ l0_6 x11_1).f4).length c846_4)) (fun _ hk => ⟨hk.1.1.1, ⟨hk.1.1.2.1, hk.1.1.2.2⟩⟩)⟩, ⟨by (with_reducible repeat (first | apply Kd.V_alloc | apply Kd.V_drewN | apply Kd.V_drew)); exact Kd.V_mono (Kd.V_far (p := ⟨gb847, 4, none⟩) (Kd.V_far (p := ⟨gb847, 3, none⟩) (Kd.V_far (p := ⟨gb847, 2, none⟩) (Kd.V_far (p := ⟨gb847, 1, none⟩) (Kd.V_far (p := ⟨gb847, 0, none⟩) (Kd.V_mono HO_845006.out (fun k_ hk => (⟨hk, hk.2⟩ : _ ∧ k_ ≠ gb847))) (fun _ hk => hk.2) (.int .i64 ((a8_ l0_6 x11_1).f0))) (fun _ hk => hk.2) (.int .i64 ((a8_ l0_6 x11_1).f1))) (fun _ hk => hk.2) (.int .i64 ((a8_ l0_6 x11_1).f2))) (fun _ hk => hk.2) (.bool ((a8_ l0_6 x11_1).f3))) (fun _ hk => hk.2) (.slice A846_4 ((a8_ l0_6 x11_1).f4).length c846_4)) (fun _ hk => ⟨hk.1.1.1, ⟨hk.1.1.2.1, hk.1.1.2.2⟩⟩)⟩, ⟨bs_⟩, ⟨bs_⟩, ⟨hb_⟩⟩
     ·rw [if_neg c9] at H
      exact absurd H (by simp)
    ·rw [if_neg c8] at H
     exact absurd H (by simp)
   ·rw [if_neg c7] at H
    have c7b0 : decide (x11_1 < (l0_6.length : Int)) = false := decide_eq_false c7
    clear c7
    simp only [Option.some.injEq, Prod.mk.injEq] at H
    obtain ⟨rfl, rfl, rfl, rfl, rfl, rfl⟩ := H
    have hnb21 := NB845_844.out
    have hnc21 := NB844_845.out
    obtain ⟨hcz22_0, hcz22_1, hcz22_2, hcz22_3, hcz22_4, hfz22_0, hfz22_1, hfz22_2, hfz22_3, hfz22_4⟩ := bz5_ BK845
    go_wp2
    refine bodyPost_ret (results_ct rfl _ _ gb845 41 #[.int .i64 0, .int .i64 0, .int .i64 0, .bool false, .slice none 0 0] (0, 0) _ rfl (bt_ BK845) Try.underlying41 rfl (by kernel_rfl)) rfl ?_
    exact ⟨_, by first | rfl | (simp [b2_, b1_] <;> rfl) | (simp [*, b2_, b1_] <;> rfl), Kd.V_nil _ _ _ _ _, hb_⟩
end Go.Proofs.Ytckhjehibjdjdaa.P
namespace Go.Proofs.Ytckhjehibjdjdaa.P
open Go.RowKit Go.Shelf Go.Proofs.YtckhjehibjdjdaaW.PrintWords Go.Proofs.YtckhjehibjdjdaaW.PrintLast Go.Proofs.YtckhjehibjdjdaaW.PrintMore
attribute [local go_sem] Oper.semAt_some
def elastic_Grow.f (k : Nat) (a0_0 a0_1 a0_2 a0_3 : Int) (l0_4 : List (S51)) (l0_5 : List (S24)) (l0_6 : List (S41)) (l0_7 : List (S105)) (l0_8 : List (S149)) (a1_0 a1_1 a1_2 : Int) (a1_3 : Bool) (l1_4 : List (S52)) (a2_0 a2_1 a2_2 a2_3 a2_4 a2_5 a2_6 a2_7 : Int) : Option (Int × Int × Int × Int × Int) := (elastic_left.f a0_0 a0_1 a0_2 a0_3 l0_4 l0_5 l0_6 l0_7 l0_8 a2_0 a2_1 a2_2 a2_3 a2_4 a2_5 a2_6 a2_7).bind fun bt752 => (if bt752.2.2 = 0 then (if (l1_4.length : Int) ≥ a2_7 then (some (0, 0, 0, 0, 2)) else ((elastic_can.f k a0_0 a0_1 a0_2 a0_3 l0_4 l0_5 l0_6 l0_7 l0_8 a2_4 a2_5 a2_6 a2_7 1 bt752.1 bt752.2.1).bind fun t756 => (if t756 = 0 then ((pack_Place.f l0_4 a2_4 a2_5 a2_6 a2_7 1).bind fun bt757 => ((elastic_safe.f k a0_0 a0_1 a0_2 a0_3 l0_4 l0_5 l0_6 l0_7 l0_8 a2_0 a2_1 a1_2 false bt757.1).bind fun t761 => (if t761 = true then (if 0 < (bt757.1.length : Int) then (some ((a5_ bt757.1 0).f0.f0, (a5_ bt757.1 0).f0.f1, (a5_ bt757.1 0).f1, (a5_ bt757.1 0).f2, 0)) else (none)) else (some (0, 0, 0, 0, 5))))) else (some (0, 0, 0, 0, t756))))) else (some (0, 0, 0, 0, bt752.2.2)))
set_option maxHeartbeats 8000000 in
set_option maxRecDepth 100000 in
theorem elastic_Grow.calls (k : Nat) (a0_0 a0_1 a0_2 a0_3 : Int) (A0_4 : Option Addr) (c0_4 : Nat) (l0_4 : List (S51)) (A0_5 : Option Addr) (c0_5 : Nat) (l0_5 : List (S24)) (A0_6 : Option Addr) (c0_6 : Nat) (l0_6 : List (S41)) (A0_7 : Option Addr) (c0_7 : Nat) (l0_7 : List (S105)) (A0_8 : Option Addr) (c0_8 : Nat) (l0_8 : List (S149)) (a1_0 a1_1 a1_2 : Int) (a1_3 : Bool) (A1_4 : Option Addr) (c1_4 : Nat) (l1_4 : List (S52)) (a2_0 a2_1 a2_2 a2_3 a2_4 a2_5 a2_6 a2_7 r1 r2 r3 r4 r5 : Int) (w : World) (hr0_4 : Kd.C k51 w A0_4 l0_4.length l0_4) (hc0_4 : l0_4.length ≤ c0_4) (hr0_5 : Kd.C k24 w A0_5 l0_5.length l0_5) (hc0_5 : l0_5.length ≤ c0_5) (hr0_6 : Kd.C k41 w A0_6 l0_6.length l0_6) (hc0_6 : l0_6.length ≤ c0_6) (hr0_7 : Kd.C k105 w A0_7 l0_7.length l0_7) (hc0_7 : l0_7.length ≤ c0_7) (hr0_8 : Kd.C k149 w A0_8 l0_8.length l0_8) (hc0_8 : l0_8.length ≤ c0_8) (hr1_4 : Kd.C k52 w A1_4 l1_4.length l1_4) (hc1_4 : l1_4.length ≤ c1_4) (h : elastic_Grow.f k a0_0 a0_1 a0_2 a0_3 l0_4 l0_5 l0_6 l0_7 l0_8 a1_0 a1_1 a1_2 a1_3 l1_4 a2_0 a2_1 a2_2 a2_3 a2_4 a2_5 a2_6 a2_7 = some (r1, r2, r3, r4, r5)) :
  Calls Try.prog 59 #[.agg #[.int .i64 a0_0, .int .i64 a0_1, .int .i64 a0_2, .int .i64 a0_3, .slice A0_4 l0_4.length c0_4, .slice A0_5 l0_5.length c0_5, .slice A0_6 l0_6.length c0_6, .slice A0_7 l0_7.length c0_7, .slice A0_8 l0_8.length c0_8], .agg #[.int .i64 a1_0, .int .i64 a1_1, .int .i64 a1_2, .bool a1_3, .slice A1_4 l1_4.length c1_4], .agg #[.int .i64 a2_0, .int .i64 a2_1, .int .i64 a2_2, .int .i64 a2_3, .int .i64 a2_4, .int .i64 a2_5, .int .i64 a2_6, .int .i64 a2_7]] w fun e w' => e = .returned (.tuple #[.agg #[.int .i64 r1, .int .i64 r2, .int .u64 r3, .int .i64 r4], .int .i64 r5]) ∧ Below w.heap.size w w' := by
 have hu86 := Try.underlying86
 have hu41 := Try.underlying41
 have hu88 := Try.underlying88
 have hu52 := Try.underlying52
 have hu24 := Try.underlying24
 have hu27 := Try.underlying27
 have HR0_4 := m_ hr0_4
 have HC0_4 := m_ hc0_4
 clear hr0_4 hc0_4
 have HR0_5 := m_ hr0_5
 have HC0_5 := m_ hc0_5
 clear hr0_5 hc0_5
 have HR0_6 := m_ hr0_6
 have HC0_6 := m_ hc0_6
 clear hr0_6 hc0_6
 have HR0_7 := m_ hr0_7
 have HC0_7 := m_ hc0_7
 clear hr0_7 hc0_7
 have HR0_8 := m_ hr0_8
 have HC0_8 := m_ hc0_8
 clear hr0_8 hc0_8
 have HR1 := m_ hr1_4
 have HC1 := m_ hc1_4
 have HB := m_ (Below.refl w.heap.size w)
 unfold elastic_Grow.f at h
 obtain ⟨⟨lg, lc, le⟩, hL, h⟩ := Option.bind_eq_some_iff.1 h
 have HL := m_ hL
 have H := m_ h
 clear h hL hr1_4 hc1_4
 go_enter Try.func59, Try.ntmps59
 go_upto_region 2 with (first | ((with_reducible refine a3_ (N := 3) rfl ?_); refine bx 3 #[.int .i64 a0_0, .int .i64 a0_1, .int .i64 a0_2, .int .i64 a0_3, .slice A0_4 l0_4.length c0_4, .slice A0_5 l0_5.length c0_5, .slice A0_6 l0_6.length c0_6, .slice A0_7 l0_7.length c0_7, .slice A0_8 l0_8.length c0_8] 86 ?_; intro g1 hgg1 wg1 hxg1 hbg1; have Gg1 : w.heap.size ≤ g1 := Z5; replace HB := m_ (b0_ HB.out hbg1); have HXg1 := m_ hxg1; clear hgg1 hxg1 hbg1) | ((with_reducible refine a3_ (N := 4) rfl ?_); refine bx 4 #[.int .i64 a1_0, .int .i64 a1_1, .int .i64 a1_2, .bool a1_3, .slice A1_4 l1_4.length c1_4] 41 ?_; intro g2 hgg2 wg2 hxg2 hbg2; have Ng1_g2 := m_ (show g1 ≠ g2 from by have := c6_ HXg1.out; omega); replace HXg1 := m_ (a1_ HXg1.out hbg2); have Gg2 : w.heap.size ≤ g2 := Z5; replace HB := m_ (b0_ HB.out hbg2); have HXg2 := m_ hxg2; clear hgg2 hxg2 hbg2) | ((with_reducible refine a3_ (N := 5) rfl ?_); refine bx 5 #[.int .i64 a2_0, .int .i64 a2_1, .int .i64 a2_2, .int .i64 a2_3, .int .i64 a2_4, .int .i64 a2_5, .int .i64 a2_6, .int .i64 a2_7] 88 ?_; intro g3 hgg3 wg3 hxg3 hbg3; have Ng1_g3 := m_ (show g1 ≠ g3 from by have := c6_ HXg1.out; omega); have Ng2_g3 := m_ (show g2 ≠ g3 from by have := c6_ HXg2.out; omega); replace HXg1 := m_ (a1_ HXg1.out hbg3); replace HXg2 := m_ (a1_ HXg2.out hbg3); have Gg3 : w.heap.size ≤ g3 := Z5; replace HB := m_ (b0_ HB.out hbg3); have HXg3 := m_ hxg3; clear hgg3 hxg3 hbg3) | ((with_reducible refine a3_ (N := 6) rfl ?_); refine bx 6 #[.int .i64 0, .int .i64 0, .int .u64 0, .int .i64 0] 52 ?_; intro g4 hgg4 wg4 hxg4 hbg4; have Ng1_g4 := m_ (show g1 ≠ g4 from by have := c6_ HXg1.out; omega); have Ng2_g4 := m_ (show g2 ≠ g4 from by have := c6_ HXg2.out; omega); have Ng3_g4 := m_ (show g3 ≠ g4 from by have := c6_ HXg3.out; omega); replace HXg1 := m_ (a1_ HXg1.out hbg4); replace HXg2 := m_ (a1_ HXg2.out hbg4); replace HXg3 := m_ (a1_ HXg3.out hbg4); have Gg4 : w.heap.size ≤ g4 := Z5; replace HB := m_ (b0_ HB.out hbg4); have HXg4 := m_ hxg4; clear hgg4 hxg4 hbg4; obtain ⟨cg1_0, cg1_1, cg1_2, cg1_3, cg1_4, cg1_5, cg1_6, cg1_7, cg1_8⟩ := cz9_ HXg1; obtain ⟨cg3_0, cg3_1, cg3_2, cg3_3, cg3_4, cg3_5, cg3_6, cg3_7⟩ := cz8_ HXg3) | (go_at_call 93; refine (elastic_left.calls a0_0 a0_1 a0_2 a0_3 A0_4 c0_4 l0_4 A0_5 c0_5 l0_5 A0_6 c0_6 l0_6 A0_7 c0_7 l0_7 A0_8 c0_8 l0_8 a2_0 a2_1 a2_2 a2_3 a2_4 a2_5 a2_6 a2_7 lg lc le _ (Kd.C_below HR0_4.out HB.out) HC0_4.out (Kd.C_below HR0_5.out HB.out) HC0_5.out (Kd.C_below HR0_6.out HB.out) HC0_6.out (Kd.C_below HR0_7.out HB.out) HC0_7.out (Kd.C_below HR0_8.out HB.out) HC0_8.out HL.out).mono ?_; rintro e w1 ⟨rfl, hb⟩; clear cg1_0 cg1_1 cg1_2 cg1_3 cg1_4 cg1_5 cg1_6 cg1_7 cg1_8 cg3_0 cg3_1 cg3_2 cg3_3 cg3_4 cg3_5 cg3_6 cg3_7; replace HXg1 := m_ (a1_ HXg1.out hb); replace HXg2 := m_ (a1_ HXg2.out hb); replace HXg3 := m_ (a1_ HXg3.out hb); replace HXg4 := m_ (a1_ HXg4.out hb); replace HB := m_ (b0_ HB.out hb); clear hb))
 have hag1 := b9_ HXg1.out (.cells #[.int .i64 lg, .int .i64 lc] 24)
 have hag2 := b9_ HXg2.out (.cells #[.int .i64 lg, .int .i64 lc] 24)
 have hag3 := b9_ HXg3.out (.cells #[.int .i64 lg, .int .i64 lc] 24)
 have hag4 := b9_ HXg4.out (.cells #[.int .i64 lg, .int .i64 lc] 24)
 have haN := blk_new w1 (.cells #[.int .i64 lg, .int .i64 lc] 24)
 have haB := b5_ HB.out (.cells #[.int .i64 lg, .int .i64 lc] 24)
 obtain ⟨g5, hg5⟩ : ∃ g, g = w1.heap.size := ⟨_, rfl⟩
 rw [← hg5] at haN ⊢
 clear HB hg5 HXg1 HXg2 HXg3 HXg4
 generalize w1.alloc (.cells #[.int .i64 lg, .int .i64 lc] 24) = w2 at *
 have HXg1 := m_ hag1
 have HXg2 := m_ hag2
 have HXg3 := m_ hag3
 have HXg4 := m_ hag4
 have HXg5 := m_ haN
 have HB := m_ haB
 clear haN haB hag1 hag2 hag3 hag4
 have hh := H.out
 clear H
 by_cases he : le = 0
 case neg =>
  rw [if_neg he] at hh
  obtain ⟨rfl, rfl, rfl, rfl, rfl⟩ : (0 : Int) = r1 ∧ (0 : Int) = r2 ∧ (0 : Int) = r3 ∧ (0 : Int) = r4 ∧ le = r5 := by simpa using hh
  clear hh
  have t0 : (le != 0) = true := bne_iff_ne.2 he
  clear he
  obtain ⟨cg4_0, cg4_1, cg4_2, cg4_3, zg4_0, zg4_1, zg4_2, zg4_3⟩ := bz4_ HXg4
  go_wp2
  refine bodyPost_ret (results_ct rfl _ _ g4 52 #[.int .i64 0, .int .i64 0, .int .u64 0, .int .i64 0] (0, 0) _ rfl (d4_ (d4_ (d4_ (d4_ HXg4.out 0 _ rfl) 1 _ rfl) 2 _ rfl) 3 _ rfl) Try.underlying52 rfl (by kernel_rfl)) rfl ?_
  exact ⟨rfl, b6_ (b6_ (b6_ (b6_ HB.out Gg4) Gg4) Gg4) Gg4⟩
 subst he
 rw [if_pos rfl] at hh
 obtain ⟨cg1_0, cg1_1, cg1_2, cg1_3, cg1_4, cg1_5, cg1_6, cg1_7, cg1_8⟩ := cz9_ HXg1
 obtain ⟨cg2_0, cg2_1, cg2_2, cg2_3, cg2_4⟩ := cz5_ HXg2
 obtain ⟨cg3_0, cg3_1, cg3_2, cg3_3, cg3_4, cg3_5, cg3_6, cg3_7⟩ := cz8_ HXg3
 obtain ⟨cg4_0, cg4_1, cg4_2, cg4_3⟩ := cz4_ HXg4
 obtain ⟨cg5_0, cg5_1⟩ := cz2_ HXg5
 by_cases hm : (l1_4.length : Int) ≥ a2_7
 ·rw [if_pos hm] at hh
  obtain ⟨rfl, rfl, rfl, rfl, rfl⟩ : (0 : Int) = r1 ∧ (0 : Int) = r2 ∧ (0 : Int) = r3 ∧ (0 : Int) = r4 ∧ (2 : Int) = r5 := by simpa using hh
  clear hh
  have t0 : decide ((l1_4.length : Int) ≥ a2_7) = true := decide_eq_true hm
  clear hm
  have zg4_0 : w2.frozen? ⟨g4, 0, none⟩ = false := a2_ HXg4.out 0
  have zg4_1 : w2.frozen? ⟨g4, 1, none⟩ = false := a2_ HXg4.out 1
  have zg4_2 : w2.frozen? ⟨g4, 2, none⟩ = false := a2_ HXg4.out 2
  have zg4_3 : w2.frozen? ⟨g4, 3, none⟩ = false := a2_ HXg4.out 3
  go_wp2
  refine bodyPost_ret (results_ct rfl _ _ g4 52 #[.int .i64 0, .int .i64 0, .int .u64 0, .int .i64 0] (0, 0) _ rfl (d4_ (d4_ (d4_ (d4_ HXg4.out 0 _ rfl) 1 _ rfl) 2 _ rfl) 3 _ rfl) Try.underlying52 rfl (by kernel_rfl)) rfl ?_
  exact ⟨rfl, b6_ (b6_ (b6_ (b6_ HB.out Gg4) Gg4) Gg4) Gg4⟩
 rw [if_neg hm] at hh
 have t0 : decide ((l1_4.length : Int) ≥ a2_7) = false := decide_eq_false hm
 clear hm
 obtain ⟨t, hT, hh⟩ := Option.bind_eq_some_iff.1 hh
 have HT := m_ hT
 clear hT
 have H := m_ hh
 clear hh
 go_upto_region 7 with (first | (go_at_call 94; refine (elastic_can.calls k a0_0 a0_1 a0_2 a0_3 A0_4 c0_4 l0_4 A0_5 c0_5 l0_5 A0_6 c0_6 l0_6 A0_7 c0_7 l0_7 A0_8 c0_8 l0_8 a2_4 a2_5 a2_6 a2_7 1 lg lc t _ (Kd.C_below HR0_4.out HB.out) HC0_4.out (Kd.C_below HR0_5.out HB.out) HC0_5.out (Kd.C_below HR0_6.out HB.out) HC0_6.out (Kd.C_below HR0_7.out HB.out) HC0_7.out (Kd.C_below HR0_8.out HB.out) HC0_8.out HT.out).mono ?_; rintro e w3 ⟨rfl, hb⟩; clear cg1_0 cg1_1 cg1_2 cg1_3 cg1_4 cg1_5 cg1_6 cg1_7 cg1_8 cg2_0 cg2_1 cg2_2 cg2_3 cg2_4 cg3_0 cg3_1 cg3_2 cg3_3 cg3_4 cg3_5 cg3_6 cg3_7 cg4_0 cg4_1 cg4_2 cg4_3 cg5_0 cg5_1; replace HXg1 := m_ (a1_ HXg1.out hb); replace HXg2 := m_ (a1_ HXg2.out hb); replace HXg3 := m_ (a1_ HXg3.out hb); replace HXg4 := m_ (a1_ HXg4.out hb); replace HXg5 := m_ (a1_ HXg5.out hb); replace HB := m_ (b0_ HB.out hb); clear hb))
 clear t0 HT
 have hh := H.out
 clear H
 by_cases ht : t = 0
 case neg =>
  rw [if_neg ht] at hh
  obtain ⟨rfl, rfl, rfl, rfl, rfl⟩ : (0 : Int) = r1 ∧ (0 : Int) = r2 ∧ (0 : Int) = r3 ∧ (0 : Int) = r4 ∧ t = r5 := by simpa using hh
  clear hh
  have t0 : (t != 0) = true := bne_iff_ne.2 ht
  clear ht
  obtain ⟨cg4_0, cg4_1, cg4_2, cg4_3, zg4_0, zg4_1, zg4_2, zg4_3⟩ := bz4_ HXg4
  go_wp2
  refine bodyPost_ret (results_ct rfl _ _ g4 52 #[.int .i64 0, .int .i64 0, .int .u64 0, .int .i64 0] (0, 0) _ rfl (d4_ (d4_ (d4_ (d4_ HXg4.out 0 _ rfl) 1 _ rfl) 2 _ rfl) 3 _ rfl) Try.underlying52 rfl (by kernel_rfl)) rfl ?_
  exact ⟨rfl, b6_ (b6_ (b6_ (b6_ HB.out Gg4) Gg4) Gg4) Gg4⟩
 subst ht
 rw [if_pos rfl] at hh
 obtain ⟨⟨p, pe⟩, hT, hh⟩ := Option.bind_eq_some_iff.1 hh
 have HT := m_ hT
 clear hT
 obtain ⟨b, hU, hh⟩ := Option.bind_eq_some_iff.1 hh
 have HU := m_ hU
 clear hU
 have H := m_ hh
 clear hh
 obtain ⟨cg1_0, cg1_1, cg1_2, cg1_3, cg1_4, cg1_5, cg1_6, cg1_7, cg1_8⟩ := cz9_ HXg1
 obtain ⟨cg2_0, cg2_1, cg2_2, cg2_3, cg2_4⟩ := cz5_ HXg2
 obtain ⟨cg3_0, cg3_1, cg3_2, cg3_3, cg3_4, cg3_5, cg3_6, cg3_7⟩ := cz8_ HXg3
 obtain ⟨cg4_0, cg4_1, cg4_2, cg4_3⟩ := cz4_ HXg4
 obtain ⟨cg5_0, cg5_1⟩ := cz2_ HXg5
 go_upto_region 10 with (first | (go_at_call 46; refine (pack_Place.calls _ _ l0_4 a2_4 a2_5 a2_6 a2_7 1 p pe _ (Kd.C_below HR0_4.out HB.out) HC0_4.out HT.out).mono ?_; rintro e w4 ⟨vp, rfl, hrp, hb⟩; obtain ⟨Ap, cp, hvp⟩ := Kd.R_slice hrp; subst hvp; have HS := m_ (Kd.R_reads' hrp).2.2; have HSL := m_ (Kd.R_reads' hrp).2.1; clear cg1_0 cg1_1 cg1_2 cg1_3 cg1_4 cg1_5 cg1_6 cg1_7 cg1_8 cg2_0 cg2_1 cg2_2 cg2_3 cg2_4 cg3_0 cg3_1 cg3_2 cg3_3 cg3_4 cg3_5 cg3_6 cg3_7 cg4_0 cg4_1 cg4_2 cg4_3 cg5_0 cg5_1; replace HXg1 := m_ (a1_ HXg1.out hb); replace HXg2 := m_ (a1_ HXg2.out hb); replace HXg3 := m_ (a1_ HXg3.out hb); replace HXg4 := m_ (a1_ HXg4.out hb); replace HXg5 := m_ (a1_ HXg5.out hb); replace HB := m_ (b0_ HB.out hb); clear hb hrp))
 obtain ⟨cg1_0, cg1_1, cg1_2, cg1_3, cg1_4, cg1_5, cg1_6, cg1_7, cg1_8⟩ := cz9_ HXg1
 obtain ⟨cg2_0, cg2_1, cg2_2, cg2_3, cg2_4⟩ := cz5_ HXg2
 obtain ⟨cg3_0, cg3_1, cg3_2, cg3_3, cg3_4, cg3_5, cg3_6, cg3_7⟩ := cz8_ HXg3
 obtain ⟨cg4_0, cg4_1, cg4_2, cg4_3⟩ := cz4_ HXg4
 obtain ⟨cg5_0, cg5_1⟩ := cz2_ HXg5
 cases b with
 | false =>
  go_upto_region 11 with (first | (go_at_call 97; refine (elastic_safe.calls k a0_0 a0_1 a0_2 a0_3 A0_4 c0_4 l0_4 A0_5 c0_5 l0_5 A0_6 c0_6 l0_6 A0_7 c0_7 l0_7 A0_8 c0_8 l0_8 a2_0 a2_1 a1_2 false _ _ p false _ (Kd.C_below HR0_4.out HB.out) HC0_4.out (Kd.C_below HR0_5.out HB.out) HC0_5.out (Kd.C_below HR0_6.out HB.out) HC0_6.out (Kd.C_below HR0_7.out HB.out) HC0_7.out (Kd.C_below HR0_8.out HB.out) HC0_8.out HS.out HSL.out HU.out).mono ?_; rintro e w5 ⟨rfl, hb⟩; clear cg1_0 cg1_1 cg1_2 cg1_3 cg1_4 cg1_5 cg1_6 cg1_7 cg1_8 cg2_0 cg2_1 cg2_2 cg2_3 cg2_4 cg3_0 cg3_1 cg3_2 cg3_3 cg3_4 cg3_5 cg3_6 cg3_7 cg4_0 cg4_1 cg4_2 cg4_3 cg5_0 cg5_1; replace HXg1 := m_ (a1_ HXg1.out hb); replace HXg2 := m_ (a1_ HXg2.out hb); replace HXg3 := m_ (a1_ HXg3.out hb); replace HXg4 := m_ (a1_ HXg4.out hb); replace HXg5 := m_ (a1_ HXg5.out hb); replace HB := m_ (b0_ HB.out hb); replace HS := m_ (Kd.C_below HS.out hb); clear hb))
  have hh := H.out
  clear H
  rw [if_neg (by decide)] at hh
  obtain ⟨rfl, rfl, rfl, rfl, rfl⟩ : (0 : Int) = r1 ∧ (0 : Int) = r2 ∧ (0 : Int) = r3 ∧ (0 : Int) = r4 ∧ (5 : Int) = r5 := by simpa using hh
  clear hh
  obtain ⟨cg4_0, cg4_1, cg4_2, cg4_3, zg4_0, zg4_1, zg4_2, zg4_3⟩ := bz4_ HXg4
  go_wp2
  refine bodyPost_ret (results_ct rfl _ _ g4 52 #[.int .i64 0, .int .i64 0, .int .u64 0, .int .i64 0] (0, 0) _ rfl (d4_ (d4_ (d4_ (d4_ HXg4.out 0 _ rfl) 1 _ rfl) 2 _ rfl) 3 _ rfl) Try.underlying52 rfl (by kernel_rfl)) rfl ?_
  exact ⟨rfl, b6_ (b6_ (b6_ (b6_ HB.out Gg4) Gg4) Gg4) Gg4⟩
 | true =>
  go_upto_region 12 with (first | (go_at_call 97; refine (elastic_safe.calls k a0_0 a0_1 a0_2 a0_3 A0_4 c0_4 l0_4 A0_5 c0_5 l0_5 A0_6 c0_6 l0_6 A0_7 c0_7 l0_7 A0_8 c0_8 l0_8 a2_0 a2_1 a1_2 false _ _ p true _ (Kd.C_below HR0_4.out HB.out) HC0_4.out (Kd.C_below HR0_5.out HB.out) HC0_5.out (Kd.C_below HR0_6.out HB.out) HC0_6.out (Kd.C_below HR0_7.out HB.out) HC0_7.out (Kd.C_below HR0_8.out HB.out) HC0_8.out HS.out HSL.out HU.out).mono ?_; rintro e w5 ⟨rfl, hb⟩; clear cg1_0 cg1_1 cg1_2 cg1_3 cg1_4 cg1_5 cg1_6 cg1_7 cg1_8 cg2_0 cg2_1 cg2_2 cg2_3 cg2_4 cg3_0 cg3_1 cg3_2 cg3_3 cg3_4 cg3_5 cg3_6 cg3_7 cg4_0 cg4_1 cg4_2 cg4_3 cg5_0 cg5_1; replace HXg1 := m_ (a1_ HXg1.out hb); replace HXg2 := m_ (a1_ HXg2.out hb); replace HXg3 := m_ (a1_ HXg3.out hb); replace HXg4 := m_ (a1_ HXg4.out hb); replace HXg5 := m_ (a1_ HXg5.out hb); replace HB := m_ (b0_ HB.out hb); replace HS := m_ (Kd.C_below HS.out hb); clear hb))
  have hh := H.out
  clear H
  first | rw [if_pos rfl] at hh | rw [if_pos trivial] at hh
  by_cases hp : 0 < (p.length : Int)
  case neg => rw [if_neg hp] at hh; cases hh
  rw [if_pos hp] at hh
  obtain ⟨rfl, rfl, rfl, rfl, rfl⟩ : (a5_ p 0).f0.f0 = r1 ∧ (a5_ p 0).f0.f1 = r2 ∧ (a5_ p 0).f1 = r3 ∧ (a5_ p 0).f2 = r4 ∧ (0 : Int) = r5 := by simpa using hh
  clear hh
  obtain ⟨ad, hea, y0, y1, y2, y3⟩ := at_T52 HS.out 0 (by decide) hp
  subst hea
  replace y0 : w5.cell? ad = some (.int .i64 (a5_ p 0).f0.f0) := y0
  replace y1 : w5.cell? ⟨ad.block, ad.off + 1, none⟩ = some (.int .i64 (a5_ p 0).f0.f1) := y1
  replace y2 : w5.cell? ⟨ad.block, ad.off + 2, none⟩ = some (.int .u64 (a5_ p 0).f1) := y2
  replace y3 : w5.cell? ⟨ad.block, ad.off + 3, none⟩ = some (.int .i64 (a5_ p 0).f2) := y3
  have hp2 : (0 < p.length) = True := eq_true (by omega)
  clear hp
  obtain ⟨cg4_0, cg4_1, cg4_2, cg4_3, zg4_0, zg4_1, zg4_2, zg4_3⟩ := bz4_ HXg4
  go_wp2
  refine bodyPost_ret (results_ct rfl _ _ g4 52 #[.int .i64 (a5_ p 0).f0.f0, .int .i64 (a5_ p 0).f0.f1, .int .u64 (a5_ p 0).f1, .int .i64 (a5_ p 0).f2] (0, 0) _ rfl (d4_ (d4_ (d4_ (d4_ HXg4.out 0 _ rfl) 1 _ rfl) 2 _ rfl) 3 _ rfl) Try.underlying52 rfl (by kernel_rfl)) rfl ?_
  exact ⟨rfl, b6_ (b6_ (b6_ (b6_ HB.out Gg4) Gg4) Gg4) Gg4⟩
def growG (k : Nat) (a0_0 a0_1 a0_2 a0_3 : Int) (l0_4 : List S51) (l0_5 : List S24) (l0_6 : List S41) (l0_7 : List S105) (l0_8 : List S149) : List S149 → Option (Int × Int × List S52 × Bool)
 | [] => some (0, 0, [], false)
 | x :: r => (worker_hold.f k a0_0 a0_1 a0_2 a0_3 l0_4 l0_5 l0_6 l0_7 l0_8 x.f0.f0).bind fun h => if h.2.2.2.2.2 = true then (elastic_Grow.f k a0_0 a0_1 a0_2 a0_3 l0_4 l0_5 l0_6 l0_7 l0_8 h.1 h.2.1 h.2.2.1 h.2.2.2.1 h.2.2.2.2.1 x.f0.f0 x.f0.f1 x.f0.f2 x.f0.f3 x.f0.f4.f0 x.f0.f4.f1 x.f0.f4.f2 x.f0.f4.f3).bind fun g => if g.2.2.2.2 = 0 then some (3, x.f0.f0, [(⟨⟨g.1, g.2.1⟩, g.2.2.1, g.2.2.2.1⟩ : S52)], true) else growG k a0_0 a0_1 a0_2 a0_3 l0_4 l0_5 l0_6 l0_7 l0_8 r
   else growG k a0_0 a0_1 a0_2 a0_3 l0_4 l0_5 l0_6 l0_7 l0_8 r
theorem results102 {tmps : Array Value} {w : World} {g2 : Nat} {a b c u : Value} {t : TypeId} (h4 : tmps.getD 2 undef = .pointer (some ⟨g2, 0, none⟩)) (h5 : tmps.getD 3 undef = u)
  (b4 : w.heap[g2]? = some (.cells #[a, b, c] t (0, 0))) : (results Try.f102 tmps).run Try.prog w = .ok (.tuple #[.agg #[a, b, c], u]) w := by
 have h4' : tmps[2]?.getD undef = .pointer (some ⟨g2, 0, none⟩) := by simpa using h4
 have h5' : tmps[3]?.getD undef = u := by simpa using h5
 obtain ⟨c0, c1, c2⟩ := cz3_ ⟨b4⟩
 have hu100 := Try.underlying100
 simp [results, Try.f102, go_sem, h4', h5', c0, c1, c2, hu100]
set_option maxHeartbeats 8000000 in
set_option maxRecDepth 100000 in
theorem grow_calls (ks : Nat) (a0_0 a0_1 a0_2 a0_3 : Int) (A0_4 : Option Addr) (c0_4 : Nat) (l0_4 : List (S51)) (A0_5 : Option Addr) (c0_5 : Nat) (l0_5 : List (S24)) (A0_6 : Option Addr) (c0_6 : Nat) (l0_6 : List (S41)) (A0_7 : Option Addr) (c0_7 : Nat) (l0_7 : List (S105)) (A0_8 : Option Addr) (c0_8 : Nat) (l0_8 : List (S149)) (d id : Int) (sl : List S52) (ok : Bool) (w : World) (hr0_4 : Kd.C k51 w A0_4 l0_4.length l0_4) (hc0_4 : l0_4.length ≤ c0_4) (hr0_5 : Kd.C k24 w A0_5 l0_5.length l0_5) (hc0_5 : l0_5.length ≤ c0_5) (hr0_6 : Kd.C k41 w A0_6 l0_6.length l0_6) (hc0_6 : l0_6.length ≤ c0_6) (hr0_7 : Kd.C k105 w A0_7 l0_7.length l0_7) (hc0_7 : l0_7.length ≤ c0_7) (hr0_8 : Kd.C k149 w A0_8 l0_8.length l0_8) (hc0_8 : l0_8.length ≤ c0_8) (hn : l0_8.length ≤ 1000000) (h : growG ks a0_0 a0_1 a0_2 a0_3 l0_4 l0_5 l0_6 l0_7 l0_8 l0_8 = some (d, id, sl, ok)) :
  Calls Try.prog 102 #[.agg #[.int .i64 a0_0, .int .i64 a0_1, .int .i64 a0_2, .int .i64 a0_3, .slice A0_4 l0_4.length c0_4, .slice A0_5 l0_5.length c0_5, .slice A0_6 l0_6.length c0_6, .slice A0_7 l0_7.length c0_7, .slice A0_8 l0_8.length c0_8]] w fun e w' => ∃ A c, e = .returned (.tuple #[.agg #[.int .i64 d, .int .i64 id, .slice A sl.length c], .bool ok]) ∧ Kd.R k52 52 w' w.heap.size (fun _ => True) (.slice A sl.length c) sl ∧ Below w.heap.size w w' := by
 have hu86 := Try.underlying86
 have hu149 := Try.underlying149
 have hu88 := Try.underlying88
 have hu41 := Try.underlying41
 have hu52 := Try.underlying52
 have hu100 := Try.underlying100
 have hu39 := Try.underlying39
 have hu32 := Try.underlying32
 have HR0_4 := m_ hr0_4
 have HC0_4 := m_ hc0_4
 clear hr0_4 hc0_4
 have HR0_5 := m_ hr0_5
 have HC0_5 := m_ hc0_5
 clear hr0_5 hc0_5
 have HR0_6 := m_ hr0_6
 have HC0_6 := m_ hc0_6
 clear hr0_6 hc0_6
 have HR0_7 := m_ hr0_7
 have HC0_7 := m_ hc0_7
 clear hr0_7 hc0_7
 have HR0_8 := m_ hr0_8
 have HC0_8 := m_ hc0_8
 clear hr0_8 hc0_8
 have HB := m_ (Below.refl w.heap.size w)
 have HN := m_ hn
 have HA0 := m_ (show growG ks a0_0 a0_1 a0_2 a0_3 l0_4 l0_5 l0_6 l0_7 l0_8 (l0_8.drop 0) = some (d, id, sl, ok) from h)
 clear h hn
 go_enter Try.func102, Try.ntmps102
 go_wp2_with (first | ((with_reducible refine a3_ (N := 1) rfl ?_); refine bx 1 #[.int .i64 a0_0, .int .i64 a0_1, .int .i64 a0_2, .int .i64 a0_3, .slice A0_4 l0_4.length c0_4, .slice A0_5 l0_5.length c0_5, .slice A0_6 l0_6.length c0_6, .slice A0_7 l0_7.length c0_7, .slice A0_8 l0_8.length c0_8] 86 ?_; intro g1 hgg1 wg1 hxg1 hbg1; have Gg1 : w.heap.size ≤ g1 := Z5; replace HB := m_ (b0_ HB.out hbg1); have HXg1 := m_ hxg1; clear hgg1 hxg1 hbg1) | ((with_reducible refine a3_ (N := 2) rfl ?_); refine bx 2 #[.int .i64 0, .int .i64 0, .slice none 0 0] 100 ?_; intro g2 hgg2 wg2 hxg2 hbg2; have Ng1_g2 := m_ (show g1 ≠ g2 from by have := c6_ HXg1.out; omega); replace HXg1 := m_ (a1_ HXg1.out hbg2); have Gg2 : w.heap.size ≤ g2 := Z5; replace HB := m_ (b0_ HB.out hbg2); have HXg2 := m_ hxg2; clear hgg2 hxg2 hbg2; obtain ⟨cg1_0, cg1_1, cg1_2, cg1_3, cg1_4, cg1_5, cg1_6, cg1_7, cg1_8⟩ := cz9_ HXg1))
 clear cg1_0 cg1_1 cg1_2 cg1_3 cg1_4 cg1_5 cg1_6 cg1_7 cg1_8
 go_loopw [13] (fun v13 wr => ∃ i : Nat, i ≤ l0_8.length ∧ v13 = .int .i64 (i : Int) ∧ A_ (growG ks a0_0 a0_1 a0_2 a0_3 l0_4 l0_5 l0_6 l0_7 l0_8 (l0_8.drop i) = some (d, id, sl, ok)) ∧ A_ (wr.heap[g1]? = some (.cells #[.int .i64 a0_0, .int .i64 a0_1, .int .i64 a0_2, .int .i64 a0_3, .slice A0_4 l0_4.length c0_4, .slice A0_5 l0_5.length c0_5, .slice A0_6 l0_6.length c0_6, .slice A0_7 l0_7.length c0_7, .slice A0_8 l0_8.length c0_8] 86 (0, 0))) ∧ A_ (wr.heap[g2]? = some (.cells #[.int .i64 0, .int .i64 0, .slice none 0 0] 100 (0, 0))) ∧ A_ (Below w.heap.size w wr)) (fun v13 _ => l0_8.length - (intOf v13).toNat)
 case atStart => exact ⟨0, Nat.zero_le _, rfl, HA0, HXg1, HXg2, HB⟩
 case round =>
  clear HA0 HXg1 HXg2 HB
  obtain ⟨i, hi, rfl, HA, HXg1, HXg2, HB⟩ := hrel
  by_cases hlt : i < l0_8.length
  ·have hlt' : (i : Int) < l0_8.length := by omega
   have h0i : 0 ≤ (i : Int) := by omega
   have hib : (i : Int) ≤ 1000000 := by have := HN.out; omega
   have hrC := Kd.C_below HR0_8.out HB.out
   obtain ⟨ad1, ee, y0, y1, y2, y3, y4, y5, y6, y7, y8, y9, y10, y11, y12, y13, y14, y15⟩ := at_T149 hrC (i : Int) h0i hlt'
   cases ee
   simp only [Int.toNat_natCast] at y0 y1 y2 y3 y4 y5 y6 y7 y8 y9 y10 y11 y12 y13 y14 y15
   have hx : a9_ l0_8 (i : Int) = l0_8[i] := by simp [a9_, List.getD_eq_getElem?_getD, List.getElem?_eq_getElem hlt]
   have ha := HA.out
   rw [List.drop_eq_getElem_cons hlt] at ha
   rw [hx] at y0 y1 y2 y3 y4 y5 y6 y7 y8 y9 y10 y11 y12 y13 y14 y15
   generalize l0_8[i] = x at *
   rw [growG] at ha
   obtain ⟨⟨i1, i2, i3, b4, hl, b6⟩, hho, ha⟩ := Option.bind_eq_some_iff.1 ha
   simp only at ha
   have HHO := m_ hho
   have HA2 := m_ ha
   have HLT := m_ hlt
   clear HA ha hho hx hlt hrC
   obtain ⟨cg1_0, cg1_1, cg1_2, cg1_3, cg1_4, cg1_5, cg1_6, cg1_7, cg1_8⟩ := cz9_ HXg1
   go_upto_region 4 with (fail)
   have hxA := b9_ HXg1.out (.cells #[.int .i64 x.f0.f0, .int .i64 x.f0.f1, .int .i64 x.f0.f2, .int .i64 x.f0.f3, .int .i64 x.f0.f4.f0, .int .i64 x.f0.f4.f1, .int .i64 x.f0.f4.f2, .int .i64 x.f0.f4.f3, .int .i64 x.f1, .int .i64 x.f2, .int .i64 x.f3, .int .i64 x.f4, .int .i64 x.f5, .int .i64 x.f6, .int .i64 x.f7, .int .i64 x.f8] 149)
   have hxB := b9_ HXg2.out (.cells #[.int .i64 x.f0.f0, .int .i64 x.f0.f1, .int .i64 x.f0.f2, .int .i64 x.f0.f3, .int .i64 x.f0.f4.f0, .int .i64 x.f0.f4.f1, .int .i64 x.f0.f4.f2, .int .i64 x.f0.f4.f3, .int .i64 x.f1, .int .i64 x.f2, .int .i64 x.f3, .int .i64 x.f4, .int .i64 x.f5, .int .i64 x.f6, .int .i64 x.f7, .int .i64 x.f8] 149)
   have hxN := blk_new wr (.cells #[.int .i64 x.f0.f0, .int .i64 x.f0.f1, .int .i64 x.f0.f2, .int .i64 x.f0.f3, .int .i64 x.f0.f4.f0, .int .i64 x.f0.f4.f1, .int .i64 x.f0.f4.f2, .int .i64 x.f0.f4.f3, .int .i64 x.f1, .int .i64 x.f2, .int .i64 x.f3, .int .i64 x.f4, .int .i64 x.f5, .int .i64 x.f6, .int .i64 x.f7, .int .i64 x.f8] 149)
   have hxH := b5_ HB.out (.cells #[.int .i64 x.f0.f0, .int .i64 x.f0.f1, .int .i64 x.f0.f2, .int .i64 x.f0.f3, .int .i64 x.f0.f4.f0, .int .i64 x.f0.f4.f1, .int .i64 x.f0.f4.f2, .int .i64 x.f0.f4.f3, .int .i64 x.f1, .int .i64 x.f2, .int .i64 x.f3, .int .i64 x.f4, .int .i64 x.f5, .int .i64 x.f6, .int .i64 x.f7, .int .i64 x.f8] 149)
   obtain ⟨g5, hg5⟩ : ∃ g5, g5 = wr.heap.size := ⟨_, rfl⟩
   have Gg5 : w.heap.size ≤ g5 := by rw [hg5]; exact HB.out.size
   rw [← hg5] at hxN ⊢
   clear HXg1 HXg2 HB hg5
   clear cg1_0 cg1_1 cg1_2 cg1_3 cg1_4 cg1_5 cg1_6 cg1_7 cg1_8
   generalize wr.alloc (.cells #[.int .i64 x.f0.f0, .int .i64 x.f0.f1, .int .i64 x.f0.f2, .int .i64 x.f0.f3, .int .i64 x.f0.f4.f0, .int .i64 x.f0.f4.f1, .int .i64 x.f0.f4.f2, .int .i64 x.f0.f4.f3, .int .i64 x.f1, .int .i64 x.f2, .int .i64 x.f3, .int .i64 x.f4, .int .i64 x.f5, .int .i64 x.f6, .int .i64 x.f7, .int .i64 x.f8] 149) = wa at *
   have HXg1 := m_ hxA
   have HXg2 := m_ hxB
   have HXg5 := m_ hxN
   have HB := m_ hxH
   clear hxA hxB hxN hxH y0 y1 y2 y3 y4 y5 y6 y7 y8 y9 y10 y11 y12 y13 y14 y15
   obtain ⟨cg1_0, cg1_1, cg1_2, cg1_3, cg1_4, cg1_5, cg1_6, cg1_7, cg1_8⟩ := cz9_ HXg1
   have e0 : wa.cell? ⟨g5, 0, none⟩ = some (.int .i64 x.f0.f0) := (a0_ HXg5.out 0).trans rfl
   go_upto_region 5 with (first | (go_at_call 119; refine (worker_hold.calls ks a0_0 a0_1 a0_2 a0_3 _ _ l0_4 _ _ l0_5 (fun k_ => k_ < w.heap.size) _ _ l0_6 _ _ l0_7 _ _ l0_8 x.f0.f0 i1 i2 i3 b4 hl b6 _ (Kd.C_below HR0_4.out HB.out) HC0_4.out (Kd.C_below HR0_5.out HB.out) HC0_5.out (Kd.V_mk HC0_6.out (Kd.F_below (Kd.C_F k41_heap HR0_6.out) HB.out)) (Kd.C_below HR0_7.out HB.out) HC0_7.out (Kd.C_below HR0_8.out HB.out) HC0_8.out HHO.out).mono ?_; rintro e wh ⟨vh, rfl, hv, hb⟩; obtain ⟨Ah, ch, rfl⟩ := Kd.V_slice hv; have HV := m_ hv; clear cg1_0 cg1_1 cg1_2 cg1_3 cg1_4 cg1_5 cg1_6 cg1_7 cg1_8; clear e0; replace HXg1 := m_ (a1_ HXg1.out hb); replace HXg2 := m_ (a1_ HXg2.out hb); replace HXg5 := m_ (a1_ HXg5.out hb); replace HB := m_ (b0_ HB.out hb); clear hb hv))
   have hxA := b9_ HXg1.out (.cells #[.int .i64 i1, .int .i64 i2, .int .i64 i3, .bool b4, .slice Ah hl.length ch] 41)
   have hxB := b9_ HXg2.out (.cells #[.int .i64 i1, .int .i64 i2, .int .i64 i3, .bool b4, .slice Ah hl.length ch] 41)
   have hxC := b9_ HXg5.out (.cells #[.int .i64 i1, .int .i64 i2, .int .i64 i3, .bool b4, .slice Ah hl.length ch] 41)
   have hxN := blk_new wh (.cells #[.int .i64 i1, .int .i64 i2, .int .i64 i3, .bool b4, .slice Ah hl.length ch] 41)
   have hxV := Kd.V_alloc HV.out (.cells #[.int .i64 i1, .int .i64 i2, .int .i64 i3, .bool b4, .slice Ah hl.length ch] 41)
   have hxH := b5_ HB.out (.cells #[.int .i64 i1, .int .i64 i2, .int .i64 i3, .bool b4, .slice Ah hl.length ch] 41)
   obtain ⟨g6, hg6⟩ : ∃ g6, g6 = wh.heap.size := ⟨_, rfl⟩
   rw [← hg6] at hxN ⊢
   clear HXg1 HXg2 HXg5 HB HV hg6
   generalize wh.alloc (.cells #[.int .i64 i1, .int .i64 i2, .int .i64 i3, .bool b4, .slice Ah hl.length ch] 41) = wb at *
   have HXg1 := m_ hxA
   have HXg2 := m_ hxB
   have HXg5 := m_ hxC
   have HXg6 := m_ hxN
   have HV := m_ hxV
   have HB := m_ hxH
   clear hxA hxB hxC hxN hxH hxV
   cases b6 with
   | false =>
    have ha := HA2.out
    rw [if_neg (by decide)] at ha
    have HA3 := m_ ha
    clear ha HA2
    go_wp2
    go_roundw
    case rel => exact ⟨i + 1, HLT.out, by go_num, HA3, HXg1, HXg2, HB⟩
    case measure => have := HLT.out; simp [intOf]; omega
   | true =>
    have ha := HA2.out
    rw [if_pos rfl] at ha
    obtain ⟨⟨s1, s2, s3, s4, s5⟩, hgr, ha⟩ := Option.bind_eq_some_iff.1 ha
    simp only at ha
    have HGR := m_ hgr
    have HA3 := m_ ha
    clear ha HA2 hgr
    obtain ⟨cg1_0, cg1_1, cg1_2, cg1_3, cg1_4, cg1_5, cg1_6, cg1_7, cg1_8⟩ := cz9_ HXg1
    obtain ⟨cg6_0, cg6_1, cg6_2, cg6_3, cg6_4⟩ := cz5_ HXg6
    obtain ⟨e0, e1, e2, e3, e4, e5, e6, e7, e8, e9, e10, e11, e12, e13, e14, e15⟩ := cz16_ HXg5
    go_upto_region 7 with (first | (go_at_call 59; refine (elastic_Grow.calls ks a0_0 a0_1 a0_2 a0_3 _ _ l0_4 _ _ l0_5 _ _ l0_6 _ _ l0_7 _ _ l0_8 i1 i2 i3 b4 _ _ hl x.f0.f0 x.f0.f1 x.f0.f2 x.f0.f3 x.f0.f4.f0 x.f0.f4.f1 x.f0.f4.f2 x.f0.f4.f3 s1 s2 s3 s4 s5 _ (Kd.C_below HR0_4.out (HB.out)) HC0_4.out (Kd.C_below HR0_5.out (HB.out)) HC0_5.out (Kd.C_below HR0_6.out (HB.out)) HC0_6.out (Kd.C_below HR0_7.out (HB.out)) HC0_7.out (Kd.C_below HR0_8.out (HB.out)) HC0_8.out (Kd.V_reads' HV.out).2.2 (Kd.V_reads' HV.out).2.1 HGR.out).mono ?_; rintro e wg ⟨rfl, hb⟩; clear cg1_0 cg1_1 cg1_2 cg1_3 cg1_4 cg1_5 cg1_6 cg1_7 cg1_8 cg6_0 cg6_1 cg6_2 cg6_3 cg6_4 e0 e1 e2 e3 e4 e5 e6 e7; replace HXg1 := m_ (a1_ HXg1.out hb); replace HXg2 := m_ (a1_ HXg2.out hb); replace HXg5 := m_ (a1_ HXg5.out hb); replace HB := m_ (b0_ HB.out hb); clear hb HV))
    have hxA := b9_ HXg1.out (.cells #[.int .i64 s1, .int .i64 s2, .int .u64 s3, .int .i64 s4] 52)
    have hxB := b9_ HXg2.out (.cells #[.int .i64 s1, .int .i64 s2, .int .u64 s3, .int .i64 s4] 52)
    have hxC := b9_ HXg5.out (.cells #[.int .i64 s1, .int .i64 s2, .int .u64 s3, .int .i64 s4] 52)
    have hxN := blk_new wg (.cells #[.int .i64 s1, .int .i64 s2, .int .u64 s3, .int .i64 s4] 52)
    have hxH := b5_ HB.out (.cells #[.int .i64 s1, .int .i64 s2, .int .u64 s3, .int .i64 s4] 52)
    obtain ⟨g8, hg8⟩ : ∃ g8, g8 = wg.heap.size := ⟨_, rfl⟩
    rw [← hg8] at hxN ⊢
    clear HXg1 HXg2 HXg5 HB hg8
    generalize wg.alloc (.cells #[.int .i64 s1, .int .i64 s2, .int .u64 s3, .int .i64 s4] 52) = wc at *
    have HXg1 := m_ hxA
    have HXg2 := m_ hxB
    have HXg5 := m_ hxC
    have HXg8 := m_ hxN
    have HB := m_ hxH
    clear hxA hxB hxC hxN hxH
    by_cases hs : s5 = 0
    ·have ha := HA3.out
     rw [if_pos hs] at ha
     simp only [Option.some.injEq, Prod.mk.injEq] at ha
     obtain ⟨rfl, rfl, rfl, rfl⟩ := ha
     have t0 : (s5 == 0) = true := by simpa using hs
     clear hs HA3
     have e0 : wc.cell? ⟨g5, 0, none⟩ = some (.int .i64 x.f0.f0) := (a0_ HXg5.out 0).trans rfl
     obtain ⟨cg8_0, cg8_1, cg8_2, cg8_3⟩ := cz4_ HXg8
     go_wp2_with (first | ((with_reducible refine a3_ (N := 41) rfl ?_); refine Kd.R_lit k52 _ 52 ?hg (N := 41) ?hd (xs := ([(⟨⟨s1, s2⟩, s3, s4⟩ : S52)] : List (S52))) (inner := [.int .i64 s1, .int .i64 s2, .int .u64 s3, .int .i64 s4]) (ok := fun _ => True) (okp := fun _ => True) ?hr ?hpl (fun _ hk => hk) trivial (Below.refl _ _) (Nat.le_refl _) (by simp) ?_; (case hd => rfl); (case hg => rfl); (case hr => first | (go_simp; done) | (go_simp; rfl)); (case hpl => exact (Reps.c4 (show Kd.M k52 _ _ _ (⟨⟨s1, s2⟩, s3, s4⟩ : S52) [.int .i64 s1, .int .i64 s2, .int .u64 s3, .int .i64 s4] from (k52_mkM _ _ _ (⟨⟨s1, s2⟩, s3, s4⟩ : S52))) (Reps.none _ _))); intro v41 wl ho hb hg_ hnew_; clear hg_ hnew_; obtain ⟨Al, cl, hvl⟩ := Kd.R_slice ho; have HO := m_ ho; have HBS := m_ HB.out.size; subst hvl; clear e0 cg8_0 cg8_1 cg8_2 cg8_3; replace HXg1 := m_ (a1_ HXg1.out hb); replace HXg2 := m_ (a1_ HXg2.out hb); replace HXg5 := m_ (a1_ HXg5.out hb); replace HB := m_ (b0_ HB.out hb); clear hb ho; have zg2_0 : wl.frozen? ⟨g2, 0, none⟩ = false := a2_ HXg2.out 0; have zg2_1 : wl.frozen? ⟨g2, 1, none⟩ = false := a2_ HXg2.out 1; have zg2_2 : wl.frozen? ⟨g2, 2, none⟩ = false := a2_ HXg2.out 2; obtain ⟨cg2_0, cg2_1, cg2_2⟩ := cz3_ HXg2))
     have h2 : (((wl.setCell ⟨g2, 0, none⟩ (.int .i64 3)).setCell ⟨g2, 1, none⟩ (.int .i64 x.f0.f0)).setCell ⟨g2, 2, none⟩ (.slice Al 1 cl)).heap[g2]? = some (.cells #[.int .i64 3, .int .i64 x.f0.f0, .slice Al 1 cl] 100 (0, 0)) := d4_ (d4_ (d4_ HXg2.out 0 _ rfl) 1 _ rfl) 2 _ rfl
     have r0 := HO.out
     have r1 := Kd.R_grown2 r0 rfl (grown_set (j := 0) (v := .int .i64 3) (d6_ _ (some g2))) (fun k hk => by injection hk with hk; subst hk; exact Kd.R_ne r0 HXg2.out (by decide))
     have y1 : (wl.setCell ⟨g2, 0, none⟩ (.int .i64 3)).heap[g2]? = some (.cells #[.int .i64 3, .int .i64 0, .slice none 0 0] 100 (0, 0)) := d4_ HXg2.out 0 _ rfl
     have r2 := Kd.R_grown2 r1 rfl (grown_set (j := 1) (v := .int .i64 x.f0.f0) (d6_ _ (some g2))) (fun k hk => by injection hk with hk; subst hk; exact Kd.R_ne r1 y1 (by decide))
     have y2 := d4_ y1 1 (.int .i64 x.f0.f0) rfl
     have r3 := Kd.R_grown2 r2 rfl (grown_set (j := 2) (v := .slice Al 1 cl) (d6_ _ (some g2))) (fun k hk => by injection hk with hk; subst hk; exact Kd.R_ne r2 y2 (by decide))
     refine bodyPost_ret (results102 rfl rfl h2) rfl ?_
     exact ⟨Al, cl, rfl, Kd.R_lower r3 HBS.out, b6_ (b6_ (b6_ HB.out Gg2) Gg2) Gg2⟩
    ·have ha := HA3.out
     rw [if_neg hs] at ha
     have HA4 := m_ ha
     have t0 : (s5 == 0) = false := by simpa using hs
     clear ha HA3 hs
     go_wp2
     go_roundw
     case rel => exact ⟨i + 1, HLT.out, by go_num, HA4, HXg1, HXg2, HB⟩
     case measure => have := HLT.out; simp [intOf]; omega
  ·obtain rfl : i = l0_8.length := by omega
   have ha := HA.out
   rw [List.drop_length, growG] at ha
   simp only [Option.some.injEq, Prod.mk.injEq] at ha
   obtain ⟨rfl, rfl, rfl, rfl⟩ := ha
   clear HA
   have zg2_0 : wr.frozen? ⟨g2, 0, none⟩ = false := a2_ HXg2.out 0
   have zg2_1 : wr.frozen? ⟨g2, 1, none⟩ = false := a2_ HXg2.out 1
   have zg2_2 : wr.frozen? ⟨g2, 2, none⟩ = false := a2_ HXg2.out 2
   obtain ⟨cg2_0, cg2_1, cg2_2⟩ := cz3_ HXg2
   go_wp2
   have h2 : (((wr.setCell ⟨g2, 0, none⟩ (.int .i64 0)).setCell ⟨g2, 1, none⟩ (.int .i64 0)).setCell ⟨g2, 2, none⟩ (.slice none 0 0)).heap[g2]? = some (.cells #[.int .i64 0, .int .i64 0, .slice none 0 0] 100 (0, 0)) := d4_ (d4_ (d4_ HXg2.out 0 _ rfl) 1 _ rfl) 2 _ rfl
   refine bodyPost_ret (results102 rfl rfl h2) rfl ?_
   exact ⟨none, 0, rfl, Kd.R_nil _ _ _ _ _, b6_ (b6_ (b6_ HB.out Gg2) Gg2) Gg2⟩
theorem results63 {tmps : Array Value} {w : World} {g2 : Nat} {a b c : Value} {t : TypeId} (h4 : tmps.getD 2 undef = .pointer (some ⟨g2, 0, none⟩))
  (b4 : w.heap[g2]? = some (.cells #[a, b, c] t (0, 0))) : (results Try.f63 tmps).run Try.prog w = .ok (.agg #[a, b, c]) w := by
 have h4' : tmps[2]?.getD undef = .pointer (some ⟨g2, 0, none⟩) := by simpa using h4
 obtain ⟨c0, c1, c2⟩ := cz3_ ⟨b4⟩
 have hu100 := Try.underlying100
 simp [results, Try.f63, go_sem, h4', c0, c1, c2, hu100]
def pickC : Int × Int × List S52 × Bool → Int × Int × List S52 × Bool → Int × Int × List S52 × Bool → Int × Int × List S52
 | (d, k, l, true), _, _ => (d, k, l)
 | (_, _, _, false), (d, k, l, true), _ => (d, k, l)
 | (_, _, _, false), (_, _, _, false), (d, k, l, true) => (d, k, l)
 | (_, _, _, false), (_, _, _, false), (_, _, _, false) => (0, 0, [])
def worker_Choose.f (k : Nat) (a0_0 a0_1 a0_2 a0_3 : Int) (l0_4 : List (S51)) (l0_5 : List (S24)) (l0_6 : List (S41)) (l0_7 : List (S105)) (l0_8 : List (S149)) : Option (Int × Int × (List (S52))) :=
 if l0_7.length ≤ 1000000 ∧ l0_8.length ≤ 1000000 then (headF a0_0 a0_1 a0_2 a0_3 l0_4 l0_5 l0_6 l0_7 l0_8).bind fun h => (fillJs k a0_0 a0_1 a0_2 a0_3 l0_4 l0_5 l0_6 l0_7 l0_8 (jobsL a0_1 false l0_7)).bind fun ts => (growG k a0_0 a0_1 a0_2 a0_3 l0_4 l0_5 l0_6 l0_7 l0_8 l0_8).bind fun g => some (pickC h (fillW (jobsL a0_1 false l0_7) ts) g) else none
set_option maxHeartbeats 8000000 in
set_option maxRecDepth 100000 in
theorem choose_calls (ks : Nat) (a0_0 a0_1 a0_2 a0_3 : Int) (A0_4 : Option Addr) (c0_4 : Nat) (l0_4 : List (S51)) (A0_5 : Option Addr) (c0_5 : Nat) (l0_5 : List (S24)) (A0_6 : Option Addr) (c0_6 : Nat) (l0_6 : List (S41)) (A0_7 : Option Addr) (c0_7 : Nat) (l0_7 : List (S105)) (A0_8 : Option Addr) (c0_8 : Nat) (l0_8 : List (S149)) (ts : List (List S52 × Int)) (d0 k0 : Int) (l0 : List S52) (o0 : Bool) (d1 k1 : Int) (l1 : List S52) (o1 : Bool) (d2 k2 : Int) (l2 : List S52) (o2 : Bool) (d k : Int) (sl : List S52) (w : World) (hr0_4 : Kd.C k51 w A0_4 l0_4.length l0_4) (hc0_4 : l0_4.length ≤ c0_4) (hr0_5 : Kd.C k24 w A0_5 l0_5.length l0_5) (hc0_5 : l0_5.length ≤ c0_5) (hr0_6 : Kd.C k41 w A0_6 l0_6.length l0_6) (hc0_6 : l0_6.length ≤ c0_6) (hr0_7 : Kd.C k105 w A0_7 l0_7.length l0_7) (hc0_7 : l0_7.length ≤ c0_7) (hr0_8 : Kd.C k149 w A0_8 l0_8.length l0_8) (hc0_8 : l0_8.length ≤ c0_8) (hn7 : l0_7.length ≤ 1000000) (hn8 : l0_8.length ≤ 1000000)
  (h0 : headF a0_0 a0_1 a0_2 a0_3 l0_4 l0_5 l0_6 l0_7 l0_8 = some (d0, k0, l0, o0)) (h1 : fillJs ks a0_0 a0_1 a0_2 a0_3 l0_4 l0_5 l0_6 l0_7 l0_8 (jobsL a0_1 false l0_7) = some ts) (h1b : fillW (jobsL a0_1 false l0_7) ts = (d1, k1, l1, o1)) (h2 : growG ks a0_0 a0_1 a0_2 a0_3 l0_4 l0_5 l0_6 l0_7 l0_8 l0_8 = some (d2, k2, l2, o2)) (hR : pickC (d0, k0, l0, o0) (d1, k1, l1, o1) (d2, k2, l2, o2) = (d, k, sl)) :
  Calls Try.prog 63 #[.agg #[.int .i64 a0_0, .int .i64 a0_1, .int .i64 a0_2, .int .i64 a0_3, .slice A0_4 l0_4.length c0_4, .slice A0_5 l0_5.length c0_5, .slice A0_6 l0_6.length c0_6, .slice A0_7 l0_7.length c0_7, .slice A0_8 l0_8.length c0_8]] w fun e w' => ∃ v2_ : Value, e = .returned (.agg #[.int .i64 d, .int .i64 k, v2_]) ∧ Kd.R k52 52 w' w.heap.size (fun _ => True) v2_ sl ∧ Below w.heap.size w w' := by
 have hu86 := Try.underlying86
 have hu100 := Try.underlying100
 have hu145 := Try.underlying145
 have hu146 := Try.underlying146
 have hu39 := Try.underlying39
 have i0 : ∀ (W : World) (x0 x1 x2 : Value), (Instr.index 146 (.agg #[x0, x1, x2]) (.int .i64 0)).run Try.prog W = .ok (.agg #[x0]) W := fun _ _ _ _ => by kernel_rfl
 have i1 : ∀ (W : World) (x0 x1 x2 : Value), (Instr.index 146 (.agg #[x0, x1, x2]) (.int .i64 1)).run Try.prog W = .ok (.agg #[x1]) W := fun _ _ _ _ => by kernel_rfl
 have i2 : ∀ (W : World) (x0 x1 x2 : Value), (Instr.index 146 (.agg #[x0, x1, x2]) (.int .i64 2)).run Try.prog W = .ok (.agg #[x2]) W := fun _ _ _ _ => by kernel_rfl
 have HR0_4 := m_ hr0_4
 have HC0_4 := m_ hc0_4
 clear hr0_4 hc0_4
 have HR0_5 := m_ hr0_5
 have HC0_5 := m_ hc0_5
 clear hr0_5 hc0_5
 have HR0_6 := m_ hr0_6
 have HC0_6 := m_ hc0_6
 clear hr0_6 hc0_6
 have HR0_7 := m_ hr0_7
 have HC0_7 := m_ hc0_7
 clear hr0_7 hc0_7
 have HR0_8 := m_ hr0_8
 have HC0_8 := m_ hc0_8
 clear hr0_8 hc0_8
 have HB := m_ (Below.refl w.heap.size w)
 have HN7 := m_ hn7
 have HN8 := m_ hn8
 have H0 := m_ h0
 have H1 := m_ h1
 have H1b := m_ h1b
 have H2 := m_ h2
 have HRR := m_ hR
 clear hn7 hn8 h0 h1 h1b h2 hR
 go_enter Try.func63, Try.ntmps63
 go_wp2_with (first | ((with_reducible refine a3_ (N := 1) rfl ?_); refine bx 1 #[.int .i64 a0_0, .int .i64 a0_1, .int .i64 a0_2, .int .i64 a0_3, .slice A0_4 l0_4.length c0_4, .slice A0_5 l0_5.length c0_5, .slice A0_6 l0_6.length c0_6, .slice A0_7 l0_7.length c0_7, .slice A0_8 l0_8.length c0_8] 86 ?_; intro g1 hgg1 wg1 hxg1 hbg1; have Gg1 : w.heap.size ≤ g1 := Z5; replace HB := m_ (b0_ HB.out hbg1); have HXg1 := m_ hxg1; clear hgg1 hxg1 hbg1) | ((with_reducible refine a3_ (N := 2) rfl ?_); refine bx 2 #[.int .i64 0, .int .i64 0, .slice none 0 0] 100 ?_; intro g2 hgg2 wg2 hxg2 hbg2; have Ng1_g2 := m_ (show g1 ≠ g2 from by have := c6_ HXg1.out; omega); replace HXg1 := m_ (a1_ HXg1.out hbg2); have Gg2 : w.heap.size ≤ g2 := Z5; replace HB := m_ (b0_ HB.out hbg2); have HXg2 := m_ hxg2; clear hgg2 hxg2 hbg2))
 generalize wg2 = W0 at *
 refine wp_loop_rounds 4 ?_
 rw [rounds_succ]
 go_upto_region 4 with (fail)
 have ha1 := b9_ HXg1.out (.cells #[.func (.func 100) #[] #[]] 145)
 have ha2 := b9_ HXg2.out (.cells #[.func (.func 100) #[] #[]] 145)
 have haN := blk_new W0 (.cells #[.func (.func 100) #[] #[]] 145)
 have haB := b5_ HB.out (.cells #[.func (.func 100) #[] #[]] 145)
 obtain ⟨q0, hq0⟩ : ∃ q, q = W0.heap.size := ⟨_, rfl⟩
 rw [← hq0] at haN ⊢
 clear HXg1 HXg2 HB hq0
 generalize W0.alloc (.cells #[.func (.func 100) #[] #[]] 145) = V0 at *
 have HXg1 := m_ ha1
 have HXg2 := m_ ha2
 have HB := m_ haB
 have eq0 : V0.cell? ⟨q0, 0, none⟩ = some (.func (.func 100) #[] #[]) := (a0_ haN 0).trans rfl
 clear ha1 ha2 haN haB
 obtain ⟨cg1_0, cg1_1, cg1_2, cg1_3, cg1_4, cg1_5, cg1_6, cg1_7, cg1_8⟩ := cz9_ HXg1
 go_upto_region 5 with (first | (go_at_call 100; refine (head_calls a0_0 a0_1 a0_2 a0_3 A0_4 c0_4 l0_4 A0_5 c0_5 l0_5 A0_6 c0_6 l0_6 A0_7 c0_7 l0_7 A0_8 c0_8 l0_8 d0 k0 l0 o0 _ (Kd.C_below HR0_4.out (HB.out)) HC0_4.out (Kd.C_below HR0_5.out (HB.out)) HC0_5.out (Kd.C_below HR0_6.out (HB.out)) HC0_6.out (Kd.C_below HR0_7.out (HB.out)) HC0_7.out (Kd.C_below HR0_8.out (HB.out)) HC0_8.out HN7.out H0.out).mono ?_; rintro e U0 ⟨A0, c0, rfl, hr, hb⟩; have HR0 := m_ hr; have HZ0 := m_ HB.out.size; clear cg1_0 cg1_1 cg1_2 cg1_3 cg1_4 cg1_5 cg1_6 cg1_7 cg1_8; clear eq0; replace HXg1 := m_ (a1_ HXg1.out hb); replace HXg2 := m_ (a1_ HXg2.out hb); replace HB := m_ (b0_ HB.out hb); clear hb hr))
 have ha1 := b9_ HXg1.out (.cells #[.int .i64 d0, .int .i64 k0, .slice A0 l0.length c0] 100)
 have ha2 := b9_ HXg2.out (.cells #[.int .i64 d0, .int .i64 k0, .slice A0 l0.length c0] 100)
 have haN := blk_new U0 (.cells #[.int .i64 d0, .int .i64 k0, .slice A0 l0.length c0] 100)
 have haR := Kd.R_alloc HR0.out (.cells #[.int .i64 d0, .int .i64 k0, .slice A0 l0.length c0] 100)
 have haB := b5_ HB.out (.cells #[.int .i64 d0, .int .i64 k0, .slice A0 l0.length c0] 100)
 have haQ : g2 ≠ U0.heap.size := (by have := c6_ HXg2.out; omega)
 obtain ⟨p0, hp0⟩ : ∃ p, p = U0.heap.size := ⟨_, rfl⟩
 rw [← hp0] at haN haQ ⊢
 clear HXg1 HXg2 HB HR0 hp0
 generalize U0.alloc (.cells #[.int .i64 d0, .int .i64 k0, .slice A0 l0.length c0] 100) = W1 at *
 have HXg1 := m_ ha1
 have HXg2 := m_ ha2
 have HXp := m_ haN
 have HR0 := m_ haR
 have HB := m_ haB
 clear ha1 ha2 haN haR haB
 cases o0 with
 | true =>
  have hh := HRR.out
  simp only [pickC] at hh
  simp only [Prod.mk.injEq] at hh
  obtain ⟨rfl, rfl, rfl⟩ := hh
  clear HRR
  obtain ⟨cp0_0, cp0_1, cp0_2⟩ := cz3_ HXp
  have zg2_0 : W1.frozen? ⟨g2, 0, none⟩ = false := a2_ HXg2.out 0
  have zg2_1 : W1.frozen? ⟨g2, 1, none⟩ = false := a2_ HXg2.out 1
  have zg2_2 : W1.frozen? ⟨g2, 2, none⟩ = false := a2_ HXg2.out 2
  obtain ⟨cg2_0, cg2_1, cg2_2⟩ := cz3_ HXg2
  go_wp2
  have h2 : (((W1.setCell ⟨g2, 0, none⟩ (.int .i64 d0)).setCell ⟨g2, 1, none⟩ (.int .i64 k0)).setCell ⟨g2, 2, none⟩ (.slice A0 l0.length c0)).heap[g2]? = some (.cells #[.int .i64 d0, .int .i64 k0, .slice A0 l0.length c0] 100 (0, 0)) := d4_ (d4_ (d4_ HXg2.out 0 _ rfl) 1 _ rfl) 2 _ rfl
  have r0 := HR0.out
  have r1 := Kd.R_grown2 r0 rfl (grown_set (j := 0) (v := .int .i64 d0) (d6_ _ (some g2))) (fun k hk => by injection hk with hk; subst hk; exact Kd.R_ne r0 HXg2.out (by decide))
  have y1 : (W1.setCell ⟨g2, 0, none⟩ (.int .i64 d0)).heap[g2]? = some (.cells #[.int .i64 d0, .int .i64 0, .slice none 0 0] 100 (0, 0)) := d4_ HXg2.out 0 _ rfl
  have r2 := Kd.R_grown2 r1 rfl (grown_set (j := 1) (v := .int .i64 k0) (d6_ _ (some g2))) (fun k hk => by injection hk with hk; subst hk; exact Kd.R_ne r1 y1 (by decide))
  have y2 := d4_ y1 1 (.int .i64 k0) rfl
  have r3 := Kd.R_grown2 r2 rfl (grown_set (j := 2) (v := .slice A0 l0.length c0) (d6_ _ (some g2))) (fun k hk => by injection hk with hk; subst hk; exact Kd.R_ne r2 y2 (by decide))
  refine bodyPost_ret (results63 rfl h2) rfl ?_
  exact ⟨_, rfl, Kd.R_lower r3 HZ0.out, b6_ (b6_ (b6_ HB.out Gg2) Gg2) Gg2⟩
 | false =>
  clear HXp haQ
  go_wp2
  rw [rounds_succ]
  go_upto_region 4 with (fail)
  have ha1 := b9_ HXg1.out (.cells #[.func (.func 101) #[] #[]] 145)
  have ha2 := b9_ HXg2.out (.cells #[.func (.func 101) #[] #[]] 145)
  have haN := blk_new W1 (.cells #[.func (.func 101) #[] #[]] 145)
  have haB := b5_ HB.out (.cells #[.func (.func 101) #[] #[]] 145)
  obtain ⟨q1, hq1⟩ : ∃ q, q = W1.heap.size := ⟨_, rfl⟩
  rw [← hq1] at haN ⊢
  clear HXg1 HXg2 HB hq1
  generalize W1.alloc (.cells #[.func (.func 101) #[] #[]] 145) = V1 at *
  have HXg1 := m_ ha1
  have HXg2 := m_ ha2
  have HB := m_ haB
  have eq1 : V1.cell? ⟨q1, 0, none⟩ = some (.func (.func 101) #[] #[]) := (a0_ haN 0).trans rfl
  clear ha1 ha2 haN haB
  obtain ⟨cg1_0, cg1_1, cg1_2, cg1_3, cg1_4, cg1_5, cg1_6, cg1_7, cg1_8⟩ := cz9_ HXg1
  go_upto_region 5 with (first | (go_at_call 101; refine (fill_calls ks a0_0 a0_1 a0_2 a0_3 A0_4 c0_4 l0_4 A0_5 c0_5 l0_5 A0_6 c0_6 l0_6 A0_7 c0_7 l0_7 A0_8 c0_8 l0_8 ts d1 k1 l1 o1 _ (Kd.C_below HR0_4.out (HB.out)) HC0_4.out (Kd.C_below HR0_5.out (HB.out)) HC0_5.out (Kd.C_below HR0_6.out (HB.out)) HC0_6.out (Kd.C_below HR0_7.out (HB.out)) HC0_7.out (Kd.C_below HR0_8.out (HB.out)) HC0_8.out HN7.out H1.out H1b.out).mono ?_; rintro e U1 ⟨A1, c1, rfl, hr, hb⟩; have HR1 := m_ hr; have HZ1 := m_ HB.out.size; clear cg1_0 cg1_1 cg1_2 cg1_3 cg1_4 cg1_5 cg1_6 cg1_7 cg1_8; clear eq1; replace HXg1 := m_ (a1_ HXg1.out hb); replace HXg2 := m_ (a1_ HXg2.out hb); replace HB := m_ (b0_ HB.out hb); clear hb hr))
  have ha1 := b9_ HXg1.out (.cells #[.int .i64 d1, .int .i64 k1, .slice A1 l1.length c1] 100)
  have ha2 := b9_ HXg2.out (.cells #[.int .i64 d1, .int .i64 k1, .slice A1 l1.length c1] 100)
  have haN := blk_new U1 (.cells #[.int .i64 d1, .int .i64 k1, .slice A1 l1.length c1] 100)
  have haR := Kd.R_alloc HR1.out (.cells #[.int .i64 d1, .int .i64 k1, .slice A1 l1.length c1] 100)
  have haB := b5_ HB.out (.cells #[.int .i64 d1, .int .i64 k1, .slice A1 l1.length c1] 100)
  have haQ : g2 ≠ U1.heap.size := (by have := c6_ HXg2.out; omega)
  obtain ⟨p1, hp1⟩ : ∃ p, p = U1.heap.size := ⟨_, rfl⟩
  rw [← hp1] at haN haQ ⊢
  clear HXg1 HXg2 HB HR1 hp1
  generalize U1.alloc (.cells #[.int .i64 d1, .int .i64 k1, .slice A1 l1.length c1] 100) = W2 at *
  have HXg1 := m_ ha1
  have HXg2 := m_ ha2
  have HXp := m_ haN
  have HR1 := m_ haR
  have HB := m_ haB
  clear ha1 ha2 haN haR haB
  cases o1 with
  | true =>
   have hh := HRR.out
   simp only [pickC] at hh
   simp only [Prod.mk.injEq] at hh
   obtain ⟨rfl, rfl, rfl⟩ := hh
   clear HRR
   obtain ⟨cp1_0, cp1_1, cp1_2⟩ := cz3_ HXp
   have zg2_0 : W2.frozen? ⟨g2, 0, none⟩ = false := a2_ HXg2.out 0
   have zg2_1 : W2.frozen? ⟨g2, 1, none⟩ = false := a2_ HXg2.out 1
   have zg2_2 : W2.frozen? ⟨g2, 2, none⟩ = false := a2_ HXg2.out 2
   obtain ⟨cg2_0, cg2_1, cg2_2⟩ := cz3_ HXg2
   go_wp2
   have h2 : (((W2.setCell ⟨g2, 0, none⟩ (.int .i64 d1)).setCell ⟨g2, 1, none⟩ (.int .i64 k1)).setCell ⟨g2, 2, none⟩ (.slice A1 l1.length c1)).heap[g2]? = some (.cells #[.int .i64 d1, .int .i64 k1, .slice A1 l1.length c1] 100 (0, 0)) := d4_ (d4_ (d4_ HXg2.out 0 _ rfl) 1 _ rfl) 2 _ rfl
   have r0 := HR1.out
   have r1 := Kd.R_grown2 r0 rfl (grown_set (j := 0) (v := .int .i64 d1) (d6_ _ (some g2))) (fun k hk => by injection hk with hk; subst hk; exact Kd.R_ne r0 HXg2.out (by decide))
   have y1 : (W2.setCell ⟨g2, 0, none⟩ (.int .i64 d1)).heap[g2]? = some (.cells #[.int .i64 d1, .int .i64 0, .slice none 0 0] 100 (0, 0)) := d4_ HXg2.out 0 _ rfl
   have r2 := Kd.R_grown2 r1 rfl (grown_set (j := 1) (v := .int .i64 k1) (d6_ _ (some g2))) (fun k hk => by injection hk with hk; subst hk; exact Kd.R_ne r1 y1 (by decide))
   have y2 := d4_ y1 1 (.int .i64 k1) rfl
   have r3 := Kd.R_grown2 r2 rfl (grown_set (j := 2) (v := .slice A1 l1.length c1) (d6_ _ (some g2))) (fun k hk => by injection hk with hk; subst hk; exact Kd.R_ne r2 y2 (by decide))
   refine bodyPost_ret (results63 rfl h2) rfl ?_
   exact ⟨_, rfl, Kd.R_lower r3 HZ1.out, b6_ (b6_ (b6_ HB.out Gg2) Gg2) Gg2⟩
  | false =>
   clear HXp haQ
   go_wp2
   rw [rounds_succ]
   go_upto_region 4 with (fail)
   have ha1 := b9_ HXg1.out (.cells #[.func (.func 102) #[] #[]] 145)
   have ha2 := b9_ HXg2.out (.cells #[.func (.func 102) #[] #[]] 145)
   have haN := blk_new W2 (.cells #[.func (.func 102) #[] #[]] 145)
   have haB := b5_ HB.out (.cells #[.func (.func 102) #[] #[]] 145)
   obtain ⟨q2, hq2⟩ : ∃ q, q = W2.heap.size := ⟨_, rfl⟩
   rw [← hq2] at haN ⊢
   clear HXg1 HXg2 HB hq2
   generalize W2.alloc (.cells #[.func (.func 102) #[] #[]] 145) = V2 at *
   have HXg1 := m_ ha1
   have HXg2 := m_ ha2
   have HB := m_ haB
   have eq2 : V2.cell? ⟨q2, 0, none⟩ = some (.func (.func 102) #[] #[]) := (a0_ haN 0).trans rfl
   clear ha1 ha2 haN haB
   obtain ⟨cg1_0, cg1_1, cg1_2, cg1_3, cg1_4, cg1_5, cg1_6, cg1_7, cg1_8⟩ := cz9_ HXg1
   go_upto_region 5 with (first | (go_at_call 102; refine (grow_calls ks a0_0 a0_1 a0_2 a0_3 A0_4 c0_4 l0_4 A0_5 c0_5 l0_5 A0_6 c0_6 l0_6 A0_7 c0_7 l0_7 A0_8 c0_8 l0_8 d2 k2 l2 o2 _ (Kd.C_below HR0_4.out (HB.out)) HC0_4.out (Kd.C_below HR0_5.out (HB.out)) HC0_5.out (Kd.C_below HR0_6.out (HB.out)) HC0_6.out (Kd.C_below HR0_7.out (HB.out)) HC0_7.out (Kd.C_below HR0_8.out (HB.out)) HC0_8.out HN8.out H2.out).mono ?_; rintro e U2 ⟨A2, c2, rfl, hr, hb⟩; have HR2 := m_ hr; have HZ2 := m_ HB.out.size; clear cg1_0 cg1_1 cg1_2 cg1_3 cg1_4 cg1_5 cg1_6 cg1_7 cg1_8; clear eq2; replace HXg1 := m_ (a1_ HXg1.out hb); replace HXg2 := m_ (a1_ HXg2.out hb); replace HB := m_ (b0_ HB.out hb); clear hb hr))
   have ha1 := b9_ HXg1.out (.cells #[.int .i64 d2, .int .i64 k2, .slice A2 l2.length c2] 100)
   have ha2 := b9_ HXg2.out (.cells #[.int .i64 d2, .int .i64 k2, .slice A2 l2.length c2] 100)
   have haN := blk_new U2 (.cells #[.int .i64 d2, .int .i64 k2, .slice A2 l2.length c2] 100)
   have haR := Kd.R_alloc HR2.out (.cells #[.int .i64 d2, .int .i64 k2, .slice A2 l2.length c2] 100)
   have haB := b5_ HB.out (.cells #[.int .i64 d2, .int .i64 k2, .slice A2 l2.length c2] 100)
   have haQ : g2 ≠ U2.heap.size := (by have := c6_ HXg2.out; omega)
   obtain ⟨p2, hp2⟩ : ∃ p, p = U2.heap.size := ⟨_, rfl⟩
   rw [← hp2] at haN haQ ⊢
   clear HXg1 HXg2 HB HR2 hp2
   generalize U2.alloc (.cells #[.int .i64 d2, .int .i64 k2, .slice A2 l2.length c2] 100) = W3 at *
   have HXg1 := m_ ha1
   have HXg2 := m_ ha2
   have HXp := m_ haN
   have HR2 := m_ haR
   have HB := m_ haB
   clear ha1 ha2 haN haR haB
   cases o2 with
   | true =>
    have hh := HRR.out
    simp only [pickC] at hh
    simp only [Prod.mk.injEq] at hh
    obtain ⟨rfl, rfl, rfl⟩ := hh
    clear HRR
    obtain ⟨cp2_0, cp2_1, cp2_2⟩ := cz3_ HXp
    have zg2_0 : W3.frozen? ⟨g2, 0, none⟩ = false := a2_ HXg2.out 0
    have zg2_1 : W3.frozen? ⟨g2, 1, none⟩ = false := a2_ HXg2.out 1
    have zg2_2 : W3.frozen? ⟨g2, 2, none⟩ = false := a2_ HXg2.out 2
    obtain ⟨cg2_0, cg2_1, cg2_2⟩ := cz3_ HXg2
    go_wp2
    have h2 : (((W3.setCell ⟨g2, 0, none⟩ (.int .i64 d2)).setCell ⟨g2, 1, none⟩ (.int .i64 k2)).setCell ⟨g2, 2, none⟩ (.slice A2 l2.length c2)).heap[g2]? = some (.cells #[.int .i64 d2, .int .i64 k2, .slice A2 l2.length c2] 100 (0, 0)) := d4_ (d4_ (d4_ HXg2.out 0 _ rfl) 1 _ rfl) 2 _ rfl
    have r0 := HR2.out
    have r1 := Kd.R_grown2 r0 rfl (grown_set (j := 0) (v := .int .i64 d2) (d6_ _ (some g2))) (fun k hk => by injection hk with hk; subst hk; exact Kd.R_ne r0 HXg2.out (by decide))
    have y1 : (W3.setCell ⟨g2, 0, none⟩ (.int .i64 d2)).heap[g2]? = some (.cells #[.int .i64 d2, .int .i64 0, .slice none 0 0] 100 (0, 0)) := d4_ HXg2.out 0 _ rfl
    have r2 := Kd.R_grown2 r1 rfl (grown_set (j := 1) (v := .int .i64 k2) (d6_ _ (some g2))) (fun k hk => by injection hk with hk; subst hk; exact Kd.R_ne r1 y1 (by decide))
    have y2 := d4_ y1 1 (.int .i64 k2) rfl
    have r3 := Kd.R_grown2 r2 rfl (grown_set (j := 2) (v := .slice A2 l2.length c2) (d6_ _ (some g2))) (fun k hk => by injection hk with hk; subst hk; exact Kd.R_ne r2 y2 (by decide))
    refine bodyPost_ret (results63 rfl h2) rfl ?_
    exact ⟨_, rfl, Kd.R_lower r3 HZ2.out, b6_ (b6_ (b6_ HB.out Gg2) Gg2) Gg2⟩
   | false =>
    clear HXp haQ
    go_wp2
    simp only [pickC] at HRR
    rw [rounds_succ]
    have zg2_0 : W3.frozen? ⟨g2, 0, none⟩ = false := a2_ HXg2.out 0
    have zg2_1 : W3.frozen? ⟨g2, 1, none⟩ = false := a2_ HXg2.out 1
    have zg2_2 : W3.frozen? ⟨g2, 2, none⟩ = false := a2_ HXg2.out 2
    obtain ⟨cg2_0, cg2_1, cg2_2⟩ := cz3_ HXg2
    have hh := HRR.out
    simp only [Prod.mk.injEq] at hh
    obtain ⟨rfl, rfl, rfl⟩ := hh
    clear HRR
    go_wp2
    have h2 : (((W3.setCell ⟨g2, 0, none⟩ (.int .i64 0)).setCell ⟨g2, 1, none⟩ (.int .i64 0)).setCell ⟨g2, 2, none⟩ (.slice none 0 0)).heap[g2]? = some (.cells #[.int .i64 0, .int .i64 0, .slice none 0 0] 100 (0, 0)) := d4_ (d4_ (d4_ HXg2.out 0 _ rfl) 1 _ rfl) 2 _ rfl
    refine bodyPost_ret (results63 rfl h2) rfl ?_
    exact ⟨_, rfl, Kd.R_nil _ _ _ _ _, b6_ (b6_ (b6_ HB.out Gg2) Gg2) Gg2⟩
theorem worker_Choose.calls (k : Nat) (a0_0 a0_1 a0_2 a0_3 : Int) (A0_4 : Option Addr) (c0_4 : Nat) (l0_4 : List (S51)) (A0_5 : Option Addr) (c0_5 : Nat) (l0_5 : List (S24)) (A0_6 : Option Addr) (c0_6 : Nat) (l0_6 : List (S41)) (A0_7 : Option Addr) (c0_7 : Nat) (l0_7 : List (S105)) (A0_8 : Option Addr) (c0_8 : Nat) (l0_8 : List (S149)) (r1 r2 : Int) (r3 : List (S52)) (w : World) (hr0_4 : Kd.C k51 w A0_4 l0_4.length l0_4) (hc0_4 : l0_4.length ≤ c0_4) (hr0_5 : Kd.C k24 w A0_5 l0_5.length l0_5) (hc0_5 : l0_5.length ≤ c0_5) (hr0_6 : Kd.C k41 w A0_6 l0_6.length l0_6) (hc0_6 : l0_6.length ≤ c0_6) (hr0_7 : Kd.C k105 w A0_7 l0_7.length l0_7) (hc0_7 : l0_7.length ≤ c0_7) (hr0_8 : Kd.C k149 w A0_8 l0_8.length l0_8) (hc0_8 : l0_8.length ≤ c0_8) (h : worker_Choose.f k a0_0 a0_1 a0_2 a0_3 l0_4 l0_5 l0_6 l0_7 l0_8 = some (r1, r2, r3)) :
  Calls Try.prog 63 #[.agg #[.int .i64 a0_0, .int .i64 a0_1, .int .i64 a0_2, .int .i64 a0_3, .slice A0_4 l0_4.length c0_4, .slice A0_5 l0_5.length c0_5, .slice A0_6 l0_6.length c0_6, .slice A0_7 l0_7.length c0_7, .slice A0_8 l0_8.length c0_8]] w fun e w' => ∃ v2_ : Value, e = .returned (.agg #[.int .i64 r1, .int .i64 r2, v2_]) ∧ Kd.R k52 52 w' w.heap.size (fun _ => True) v2_ r3 ∧ Below w.heap.size w w' := by
 unfold worker_Choose.f at h
 by_cases hb : l0_7.length ≤ 1000000 ∧ l0_8.length ≤ 1000000
 ·rw [if_pos hb] at h
  obtain ⟨⟨d0, k0, l0, o0⟩, h0, h⟩ := Option.bind_eq_some_iff.1 h
  obtain ⟨ts, h1, h⟩ := Option.bind_eq_some_iff.1 h
  obtain ⟨⟨d2, k2, l2, o2⟩, h2, h⟩ := Option.bind_eq_some_iff.1 h
  have h := Option.some.inj h
  obtain ⟨⟨d1, k1, l1, o1⟩, hf⟩ : ∃ f, fillW (jobsL a0_1 false l0_7) ts = f := ⟨_, rfl⟩
  rw [hf] at h
  exact choose_calls k a0_0 a0_1 a0_2 a0_3 A0_4 c0_4 l0_4 A0_5 c0_5 l0_5 A0_6 c0_6 l0_6 A0_7 c0_7 l0_7 A0_8 c0_8 l0_8 ts d0 k0 l0 o0 d1 k1 l1 o1 d2 k2 l2 o2 r1 r2 r3 w hr0_4 hc0_4 hr0_5 hc0_5 hr0_6 hc0_6 hr0_7 hc0_7 hr0_8 hc0_8 hb.1 hb.2 h0 h1 hf h2 h
 ·rw [if_neg hb] at h; cases h
theorem ch15 : worker_Choose.f 20 0 1 9 1 ([(⟨⟨0, 0⟩, 3, 0⟩ : S51)] : List S51) ([(⟨9, 0⟩ : S24)] : List S24) ([(⟨0, 0, 9, false, ([(⟨⟨0, 0⟩, 12, 0⟩ : S52)] : List S52)⟩ : S41)] : List S41) ([(⟨⟨1, 0, 0, 2, ⟨1, 0, 4, 4⟩⟩, 0, 0⟩ : S105), (⟨⟨2, 0, 0, 2, ⟨1, 0, 1, 1⟩⟩, 0, 0⟩ : S105)] : List S105) [] = some (2, 2, [(⟨⟨0, 0⟩, 1, 0⟩ : S52)]) := by kernel_rfl
set_option maxHeartbeats 4000000 in
set_option maxRecDepth 100000 in
theorem one_calls (i n : Int) (w : World) : Calls Try.prog 98 #[.int .i64 i, .int .i64 n] w fun e w' => e = .returned (.agg #[.int .i64 i, .int .i64 0, .int .i64 0, .int .i64 2, .int .i64 1, .int .i64 0, .int .i64 n, .int .i64 n, .int .i64 0, .int .i64 0]) ∧ Below w.heap.size w w' := by
 have hu105 := Try.underlying105
 have hu88 := Try.underlying88
 have hu27 := Try.underlying27
 go_enter Try.func98, Try.ntmps98
 go_wp2
 refine bodyPost_ret (results_cell_row rfl _ _ w.heap.size 105 #[.int .i64 i, .int .i64 0, .int .i64 0, .int .i64 2, .int .i64 1, .int .i64 0, .int .i64 n, .int .i64 n, .int .i64 0, .int .i64 0] (0, 0) _ rfl (blk_new w _) Try.underlying105 rfl rfl) rfl ?_
 exact ⟨rfl, b5_ (Below.refl _ _) _⟩
def T61 : Bool × List (List Nat × List Nat) := (true, [([], []), ([0], [0]), ([1], [1]), ([2], [2]), ([3], [3]), ([4, 3], [3, 4]), ([5, 3], [3, 5]), ([3, 6], [3, 6]), ([7, 3], [7]), ([8], [8]), ([9, 8], [8, 9]), ([10, 8], [8, 10]), ([11, 8], [8, 11]), ([8, 12], [8, 12]), ([13, 8], [13]), ([14], [14]), ([14], [14]), ([16, 14], [14, 16]), ([17, 14], [14, 17]), ([18, 14], [14, 18]), ([19, 14], [14, 19]), ([15, 20, 14, 14], [14, 15, 20]), ([21, 14], [14, 21]), ([14, 22], [14, 22]), ([23, 21, 0, 1, 2, 3, 4, 5, 6, 7, 8, 9, 10, 11, 12, 13, 14, 15, 16, 17, 18, 19, 20, 21, 22, 23], [23])])
def B61 : List Nat := [0, 1, 3, 7, 15, 31, 63, 127, 255, 511, 1023, 2047, 4095, 8191, 16383, 32767, 32767, 98303, 229375, 491519, 1015807, 2097151, 4194303, 8388607, 16777215]
theorem tab61 : rtab .any (opsOf Try.f61 4) = T61 := by kernel_rfl
theorem bits61 : waitsOk T61.2 B61 = true := by kernel_rfl
def ensemblelaw15_awake.f : Option (Bool) := some true
set_option maxHeartbeats 8000000 in
set_option maxRecDepth 100000 in
theorem ensemblelaw15_awake.calls (r : Bool) (w : World) (h : ensemblelaw15_awake.f = some r) : Calls Try.prog 61 #[] w fun e w' => e = .returned (.bool r) ∧ Below w.heap.size w w' := by
 obtain rfl : true = r := Option.some.inj h
 have hu86 := Try.underlying86
 have hu51 := Try.underlying51
 have hu24 := Try.underlying24
 have hu41 := Try.underlying41
 have hu52 := Try.underlying52
 have hu100 := Try.underlying100
 have hu105 := Try.underlying105
 have hu88 := Try.underlying88
 have HB := m_ (Below.refl w.heap.size w)
 clear h
 go_enter Try.func61, Try.ntmps61
 go_upto_region 3 with (first | ((with_reducible refine a3_ (N := 5) rfl ?_); refine Kd.R_lit k51 _ 51 ?hg (N := 5) ?hd (xs := ([(⟨⟨0, 0⟩, 3, 0⟩ : S51)] : List S51)) (inner := [.int .i64 0, .int .i64 0, .int .u64 3, .int .i64 0]) (ok := fun _ => True) (okp := fun _ => True) ?hr ?hpl5 (fun _ _ => trivial) trivial (Below.refl _ _) (Nat.le_refl _) (by simp) ?_; (case hd => rfl); (case hg => rfl); (case hr => first | (go_simp; done) | (go_simp; rfl)); (case hpl5 => exact (Reps.c4 (show Kd.M k51 _ _ _ (⟨⟨0, 0⟩, 3, 0⟩ : S51) [.int .i64 0, .int .i64 0, .int .u64 3, .int .i64 0] from (k51_mkM _ _ _ (⟨⟨0, 0⟩, 3, 0⟩ : S51))) (Reps.none _ _))); intro v w5 ho hb hg_ hnew_; clear hg_ hnew_; obtain ⟨A51, c51, hv⟩ := Kd.R_slice ho; subst hv; replace HB := m_ (b0_ HB.out hb); have HC51 := m_ (Kd.R_reads' ho).2.2; have HP51 := m_ (Kd.R_reads' ho).2.1; clear ho hb) | ((with_reducible refine a3_ (N := 7) rfl ?_); refine Kd.R_lit k24 _ 24 ?hg (N := 7) ?hd (xs := ([(⟨9, 0⟩ : S24)] : List S24)) (inner := [.int .i64 9, .int .i64 0]) (ok := fun _ => True) (okp := fun _ => True) ?hr ?hpl7 (fun _ _ => trivial) trivial (Below.refl _ _) (Nat.le_refl _) (by simp) ?_; (case hd => rfl); (case hg => rfl); (case hr => first | (go_simp; done) | (go_simp; rfl)); (case hpl7 => exact (Reps.c2 (show Kd.M k24 _ _ _ (⟨9, 0⟩ : S24) [.int .i64 9, .int .i64 0] from (k24_mkM _ _ _ (⟨9, 0⟩ : S24))) (Reps.none _ _))); intro v w7 ho hb hg_ hnew_; clear hg_ hnew_; obtain ⟨A24, c24, hv⟩ := Kd.R_slice ho; subst hv; replace HC51 := m_ (Kd.C_below HC51.out hb); replace HB := m_ (b0_ HB.out hb); have HC24 := m_ (Kd.R_reads' ho).2.2; have HP24 := m_ (Kd.R_reads' ho).2.1; clear ho hb) | (go_at_call 98; refine (one_calls _ _ _).mono ?_; rintro e w9 ⟨rfl, hb⟩; replace HC51 := m_ (Kd.C_below HC51.out hb); replace HC24 := m_ (Kd.C_below HC24.out hb); replace HB := m_ (b0_ HB.out hb); clear hb) | ((with_reducible refine a3_ (N := 12) rfl ?_); refine Kd.R_lit k105 _ 105 ?hg (N := 12) ?hd (xs := ([(⟨⟨1, 0, 0, 2, ⟨1, 0, 4, 4⟩⟩, 0, 0⟩ : S105), (⟨⟨2, 0, 0, 2, ⟨1, 0, 1, 1⟩⟩, 0, 0⟩ : S105)] : List S105)) (inner := [.int .i64 1, .int .i64 0, .int .i64 0, .int .i64 2, .int .i64 1, .int .i64 0, .int .i64 4, .int .i64 4, .int .i64 0, .int .i64 0, .int .i64 2, .int .i64 0, .int .i64 0, .int .i64 2, .int .i64 1, .int .i64 0, .int .i64 1, .int .i64 1, .int .i64 0, .int .i64 0]) (ok := fun _ => True) (okp := fun _ => True) ?hr ?hpl12 (fun _ _ => trivial) trivial (Below.refl _ _) (Nat.le_refl _) (by simp) ?_; (case hd => rfl); (case hg => rfl); (case hr => first | (go_simp; done) | (go_simp; rfl)); (case hpl12 => exact (Reps.c10 (show Kd.M k105 _ _ _ (⟨⟨1, 0, 0, 2, ⟨1, 0, 4, 4⟩⟩, 0, 0⟩ : S105) [.int .i64 1, .int .i64 0, .int .i64 0, .int .i64 2, .int .i64 1, .int .i64 0, .int .i64 4, .int .i64 4, .int .i64 0, .int .i64 0] from (k105_mkM _ _ _ (⟨⟨1, 0, 0, 2, ⟨1, 0, 4, 4⟩⟩, 0, 0⟩ : S105))) (Reps.c10 (show Kd.M k105 _ _ _ (⟨⟨2, 0, 0, 2, ⟨1, 0, 1, 1⟩⟩, 0, 0⟩ : S105) [.int .i64 2, .int .i64 0, .int .i64 0, .int .i64 2, .int .i64 1, .int .i64 0, .int .i64 1, .int .i64 1, .int .i64 0, .int .i64 0] from (k105_mkM _ _ _ (⟨⟨2, 0, 0, 2, ⟨1, 0, 1, 1⟩⟩, 0, 0⟩ : S105))) (Reps.none _ _)))); intro v w12 ho hb hg_ hnew_; clear hg_ hnew_; obtain ⟨A105, c105, hv⟩ := Kd.R_slice ho; subst hv; replace HC51 := m_ (Kd.C_below HC51.out hb); replace HC24 := m_ (Kd.C_below HC24.out hb); replace HB := m_ (b0_ HB.out hb); have HC105 := m_ (Kd.R_reads' ho).2.2; have HP105 := m_ (Kd.R_reads' ho).2.1; clear ho hb) | ((with_reducible refine a3_ (N := 14) rfl ?_); refine Kd.R_lit k52 _ 52 ?hg (N := 14) ?hd (xs := ([(⟨⟨0, 0⟩, 12, 0⟩ : S52)] : List S52)) (inner := [.int .i64 0, .int .i64 0, .int .u64 12, .int .i64 0]) (ok := fun _ => True) (okp := fun _ => True) ?hr ?hpl14 (fun _ _ => trivial) trivial (Below.refl _ _) (Nat.le_refl _) (by simp) ?_; (case hd => rfl); (case hg => rfl); (case hr => first | (go_simp; done) | (go_simp; rfl)); (case hpl14 => exact (Reps.c4 (show Kd.M k52 _ _ _ (⟨⟨0, 0⟩, 12, 0⟩ : S52) [.int .i64 0, .int .i64 0, .int .u64 12, .int .i64 0] from (k52_mkM _ _ _ (⟨⟨0, 0⟩, 12, 0⟩ : S52))) (Reps.none _ _))); intro v w14 ho hb hg_ hnew_; clear hg_ hnew_; obtain ⟨A52, c52, hv⟩ := Kd.R_slice ho; subst hv; replace HC51 := m_ (Kd.C_below HC51.out hb); replace HC24 := m_ (Kd.C_below HC24.out hb); replace HC105 := m_ (Kd.C_below HC105.out hb); replace HB := m_ (b0_ HB.out hb); have HC52 := m_ (Kd.R_reads' ho).2.2; have HP52 := m_ (Kd.R_reads' ho).2.1; clear ho hb) | ((with_reducible refine a3_ (N := 16) rfl ?_); refine Kd.N_lit k41 _ 41 ?hg (N' := 16) ?hd (xs := ([(⟨0, 0, 9, false, ([(⟨⟨0, 0⟩, 12, 0⟩ : S52)] : List S52)⟩ : S41)] : List S41)) (inner := [.int .i64 0, .int .i64 0, .int .i64 9, .bool false, .slice A52 1 c52]) (ok := fun _ => True) (okp := fun _ => True) ?hr ?hpl16 (fun _ _ => trivial) trivial (Below.refl _ _) (Nat.le_refl _) (by simp) ?_; (case hd => rfl); (case hg => rfl); (case hr => first | (go_simp; done) | (go_simp; rfl)); (case hpl16 => exact (Reps.c5 (show Kd.FK k41 _ _ (⟨0, 0, 9, false, ([(⟨⟨0, 0⟩, 12, 0⟩ : S52)] : List S52)⟩ : S41) [.int .i64 0, .int .i64 0, .int .i64 9, .bool false, .slice A52 1 c52] from (k41_mkF _ _ (⟨0, 0, 9, false, ([(⟨⟨0, 0⟩, 12, 0⟩ : S52)] : List S52)⟩ : S41) HP52.out (Kd.F_mono (Kd.C_F k52_heap HC52.out) (fun _ _ => trivial)))) (Reps.none _ _))); intro v w16 ho hb hg_ hnew_; clear hg_ hnew_; obtain ⟨A41, c41, hv⟩ := Kd.N_slice ho; subst hv; replace HC51 := m_ (Kd.C_below HC51.out hb); replace HC24 := m_ (Kd.C_below HC24.out hb); replace HC105 := m_ (Kd.C_below HC105.out hb); replace HC52 := m_ (Kd.C_below HC52.out hb); replace HB := m_ (b0_ HB.out hb); have HC41 := m_ (Kd.N_reads' ho).2.2; have HP41 := m_ (Kd.N_reads' ho).2.1; clear ho hb))
 have haN := blk_new w16 (.cells #[.int .i64 0, .int .i64 1, .int .i64 9, .int .i64 1, .slice A51 1 c51, .slice A24 1 c24, .slice A41 1 c41, .slice A105 2 c105, .slice none 0 0] 86)
 have haB := b5_ HB.out (.cells #[.int .i64 0, .int .i64 1, .int .i64 9, .int .i64 1, .slice A51 1 c51, .slice A24 1 c24, .slice A41 1 c41, .slice A105 2 c105, .slice none 0 0] 86)
 replace HC51 := m_ (Kd.C_alloc HC51.out (.cells #[.int .i64 0, .int .i64 1, .int .i64 9, .int .i64 1, .slice A51 1 c51, .slice A24 1 c24, .slice A41 1 c41, .slice A105 2 c105, .slice none 0 0] 86))
 replace HC24 := m_ (Kd.C_alloc HC24.out (.cells #[.int .i64 0, .int .i64 1, .int .i64 9, .int .i64 1, .slice A51 1 c51, .slice A24 1 c24, .slice A41 1 c41, .slice A105 2 c105, .slice none 0 0] 86))
 replace HC105 := m_ (Kd.C_alloc HC105.out (.cells #[.int .i64 0, .int .i64 1, .int .i64 9, .int .i64 1, .slice A51 1 c51, .slice A24 1 c24, .slice A41 1 c41, .slice A105 2 c105, .slice none 0 0] 86))
 replace HC41 := m_ (Kd.C_alloc HC41.out (.cells #[.int .i64 0, .int .i64 1, .int .i64 9, .int .i64 1, .slice A51 1 c51, .slice A24 1 c24, .slice A41 1 c41, .slice A105 2 c105, .slice none 0 0] 86))
 obtain ⟨g2, hg2⟩ : ∃ g, g = w16.heap.size := ⟨_, rfl⟩
 rw [← hg2] at haN ⊢
 clear HB hg2 HC52 HP52
 generalize w16.alloc (.cells #[.int .i64 0, .int .i64 1, .int .i64 9, .int .i64 1, .slice A51 1 c51, .slice A24 1 c24, .slice A41 1 c41, .slice A105 2 c105, .slice none 0 0] 86) = wA at *
 have HXg2 := m_ haN
 have HB := m_ haB
 clear haN haB
 obtain ⟨cg2_0, cg2_1, cg2_2, cg2_3, cg2_4, cg2_5, cg2_6, cg2_7, cg2_8⟩ := cz9_ HXg2
 go_upto_region 4 with (first | (go_at_call 63; refine (worker_Choose.calls 20 0 1 9 1 _ _ ([(⟨⟨0, 0⟩, 3, 0⟩ : S51)] : List S51) _ _ ([(⟨9, 0⟩ : S24)] : List S24) _ _ ([(⟨0, 0, 9, false, ([(⟨⟨0, 0⟩, 12, 0⟩ : S52)] : List S52)⟩ : S41)] : List S41) _ _ ([(⟨⟨1, 0, 0, 2, ⟨1, 0, 4, 4⟩⟩, 0, 0⟩ : S105), (⟨⟨2, 0, 0, 2, ⟨1, 0, 1, 1⟩⟩, 0, 0⟩ : S105)] : List S105) none 0 [] 2 2 [(⟨⟨0, 0⟩, 1, 0⟩ : S52)] _ HC51.out HP51.out HC24.out HP24.out HC41.out HP41.out HC105.out HP105.out (⟨rfl, by simp, fun h => absurd h (by simp)⟩ : Kd.C k149 _ none 0 ([] : List S149)) (Nat.le_refl _) ch15).mono ?_; rintro e w19 ⟨vc, rfl, hrc, hb⟩; obtain ⟨Ac, cc, hvc⟩ := Kd.R_slice hrc; subst hvc; clear cg2_0 cg2_1 cg2_2 cg2_3 cg2_4 cg2_5 cg2_6 cg2_7 cg2_8; replace HXg2 := m_ (a1_ HXg2.out hb); replace HC51 := m_ (Kd.C_below HC51.out hb); replace HC24 := m_ (Kd.C_below HC24.out hb); replace HC105 := m_ (Kd.C_below HC105.out hb); replace HC41 := m_ (Kd.C_below HC41.out hb); replace HB := m_ (b0_ HB.out hb); clear hb hrc))
 have haN := blk_new w19 (.cells #[.int .i64 2, .int .i64 2, .slice Ac 1 cc] 100)
 have ha2 := b9_ HXg2.out (.cells #[.int .i64 2, .int .i64 2, .slice Ac 1 cc] 100)
 have haB := b5_ HB.out (.cells #[.int .i64 2, .int .i64 2, .slice Ac 1 cc] 100)
 replace HC51 := m_ (Kd.C_alloc HC51.out (.cells #[.int .i64 2, .int .i64 2, .slice Ac 1 cc] 100))
 replace HC24 := m_ (Kd.C_alloc HC24.out (.cells #[.int .i64 2, .int .i64 2, .slice Ac 1 cc] 100))
 replace HC105 := m_ (Kd.C_alloc HC105.out (.cells #[.int .i64 2, .int .i64 2, .slice Ac 1 cc] 100))
 replace HC41 := m_ (Kd.C_alloc HC41.out (.cells #[.int .i64 2, .int .i64 2, .slice Ac 1 cc] 100))
 obtain ⟨g3, hg3⟩ : ∃ g, g = w19.heap.size := ⟨_, rfl⟩
 rw [← hg3] at haN ⊢
 clear HB hg3 HXg2
 generalize w19.alloc (.cells #[.int .i64 2, .int .i64 2, .slice Ac 1 cc] 100) = wB at *
 have HXg3 := m_ haN
 have HXg2 := m_ ha2
 have HB := m_ haB
 clear haN ha2 haB
 obtain ⟨ad, hea, y0, y1, y2, y3, y4, y5, y6, y7, y8, y9⟩ := at_T105 HC105.out 0 (by decide) (by decide)
 subst hea
 have hfol : Try.prog.follows Departure.mixedOrders = true := by kernel_rfl
 have HT_ := m_ tab61
 have HW_ := m_ bits61
 replace y0 : wB.cell? ad = some (.int .i64 1) := y0
 replace y1 : wB.cell? ⟨ad.block, ad.off + 1, none⟩ = some (.int .i64 0) := y1
 replace y2 : wB.cell? ⟨ad.block, ad.off + 2, none⟩ = some (.int .i64 0) := y2
 replace y3 : wB.cell? ⟨ad.block, ad.off + 3, none⟩ = some (.int .i64 2) := y3
 replace y4 : wB.cell? ⟨ad.block, ad.off + 4, none⟩ = some (.int .i64 1) := y4
 replace y5 : wB.cell? ⟨ad.block, ad.off + 5, none⟩ = some (.int .i64 0) := y5
 replace y6 : wB.cell? ⟨ad.block, ad.off + 6, none⟩ = some (.int .i64 4) := y6
 replace y7 : wB.cell? ⟨ad.block, ad.off + 7, none⟩ = some (.int .i64 4) := y7
 clear y8 y9
 refine start_ (n := 25) (S := fun w' => w'.cell? ⟨g2, 0, none⟩ = some (.int .i64 0) ∧ w'.cell? ⟨g2, 1, none⟩ = some (.int .i64 1) ∧ w'.cell? ⟨g2, 2, none⟩ = some (.int .i64 9) ∧ w'.cell? ⟨g2, 3, none⟩ = some (.int .i64 1) ∧ w'.cell? ⟨g2, 4, none⟩ = some (.slice A51 1 c51) ∧ w'.cell? ⟨g2, 5, none⟩ = some (.slice A24 1 c24) ∧ w'.cell? ⟨g2, 6, none⟩ = some (.slice A41 1 c41) ∧ w'.cell? ⟨g2, 7, none⟩ = some (.slice (some ad) 2 c105) ∧ w'.cell? ⟨g2, 8, none⟩ = some (.slice none 0 0) ∧ w'.cell? ⟨g3, 0, none⟩ = some (.int .i64 2) ∧ w'.cell? ⟨g3, 1, none⟩ = some (.int .i64 2) ∧ w'.cell? ⟨g3, 2, none⟩ = some (.slice Ac 1 cc) ∧ w'.cell? (ad) = some (.int .i64 1) ∧ w'.cell? (⟨ad.block, ad.off + 1, none⟩) = some (.int .i64 0) ∧ w'.cell? (⟨ad.block, ad.off + 2, none⟩) = some (.int .i64 0) ∧ w'.cell? (⟨ad.block, ad.off + 3, none⟩) = some (.int .i64 2) ∧ w'.cell? (⟨ad.block, ad.off + 4, none⟩) = some (.int .i64 1) ∧ w'.cell? (⟨ad.block, ad.off + 5, none⟩) = some (.int .i64 0) ∧ w'.cell? (⟨ad.block, ad.off + 6, none⟩) = some (.int .i64 4) ∧ w'.cell? (⟨ad.block, ad.off + 7, none⟩) = some (.int .i64 4)) (ds := []) (bm 25 0) (by kernel_rfl) rfl rfl ⟨(a0_ HXg2.out 0).trans rfl, (a0_ HXg2.out 1).trans rfl, (a0_ HXg2.out 2).trans rfl, (a0_ HXg2.out 3).trans rfl, (a0_ HXg2.out 4).trans rfl, (a0_ HXg2.out 5).trans rfl, (a0_ HXg2.out 6).trans rfl, (a0_ HXg2.out 7).trans rfl, (a0_ HXg2.out 8).trans rfl, (a0_ HXg3.out 0).trans rfl, (a0_ HXg3.out 1).trans rfl, (a0_ HXg3.out 2).trans rfl, y0, y1, y2, y3, y4, y5, y6, y7⟩ (fun hHeld => ?_)
 refine pu 0 (some 20) (bm 25 1) ?_
 refine tk 1 (some 21) (bm 25 3) ?_
 refine pu 2 (some 22) (bm 25 7) ?_
 refine pu 3 (some 23) (bm 25 15) ?_
 refine pu 4 (some 24) (bm 25 31) ?_
 refine tk 5 (some 25) (bm 25 63) ?_
 refine pu 6 (some 26) (bm 25 127) ?_
 refine pu 7 (some 27) (bm 25 255) ?_
 refine pu 8 (some 28) (bm 25 511) ?_
 refine pu 9 (some 29) (bm 25 1023) ?_
 refine tk 10 (some 30) (bm 25 2047) ?_
 refine pu 11 (some 31) (bm 25 4095) ?_
 refine pu 12 (some 32) (bm 25 8191) ?_
 refine pu 13 (some 33) (bm 25 16383) ?_
 refine pu 14 (some 34) (bm 25 32767) ?_
 refine tk 15 (some 35) (bm 25 65535) ?_
 refine pu 16 (some 36) (bm 25 131071) ?_
 refine tk 17 (some 37) (bm 25 262143) ?_
 refine pu 18 (some 38) (bm 25 524287) ?_
 refine pu 19 (some 39) (bm 25 1048575) ?_
 refine tk 20 (some 40) (bm 25 2097151) ?_
 refine one_ (i := 21) (N := some 41) (bm 25 4194303) rfl rfl (one_of HT_.out (by kernel_rfl)) (by decide) (fun K hK => ?_)
 refine goes_ Try.func99 (by kernel_rfl) rfl #[.agg #[.int .i64 0, .int .i64 1, .int .i64 9, .int .i64 1, .slice A51 1 c51, .slice A24 1 c24, .slice A41 1 c41, .slice (some ad) 2 c105, .slice none 0 0], .agg #[.int .i64 1, .int .i64 0, .int .i64 0, .int .i64 2, .int .i64 1, .int .i64 0, .int .i64 4, .int .i64 4]] (by rfl) rfl rfl Z11 ?_
 refine (latest_calls 0 1 9 1 _ _ ([(⟨⟨0, 0⟩, 3, 0⟩ : S51)] : List S51) _ _ ([(⟨9, 0⟩ : S24)] : List S24) _ _ ([(⟨0, 0, 9, false, ([(⟨⟨0, 0⟩, 12, 0⟩ : S52)] : List S52)⟩ : S41)] : List S41) _ _ ([(⟨⟨1, 0, 0, 2, ⟨1, 0, 4, 4⟩⟩, 0, 0⟩ : S105), (⟨⟨2, 0, 0, 2, ⟨1, 0, 1, 1⟩⟩, 0, 0⟩ : S105)] : List S105) none 0 [] 1 0 0 2 1 0 4 4 _).mono ?_
 rintro e wq ⟨rfl, hb⟩
 refine ⟨_, rfl, ?_⟩
 have HB4 := m_ (b0_ (b8_ HB.out) hb)
 rw [show wrap64 (wrap64 (0 + 1) + 2) = 3 from by kernel_rfl]
 replace HXg2 := m_ (a1_ (show wB.drew.heap[g2]? = some (.cells #[.int .i64 0, .int .i64 1, .int .i64 9, .int .i64 1, .slice A51 1 c51, .slice A24 1 c24, .slice A41 1 c41, .slice (some ad) 2 c105, .slice none 0 0] 86 (0, 0)) from HXg2.out) hb)
 replace HXg3 := m_ (a1_ (show wB.drew.heap[g3]? = some (.cells #[.int .i64 2, .int .i64 2, .slice Ac 1 cc] 100 (0, 0)) from HXg3.out) hb)
 refine hK.out _ _ ⟨(a0_ HXg2.out 0).trans rfl, (a0_ HXg2.out 1).trans rfl, (a0_ HXg2.out 2).trans rfl, (a0_ HXg2.out 3).trans rfl, (a0_ HXg2.out 4).trans rfl, (a0_ HXg2.out 5).trans rfl, (a0_ HXg2.out 6).trans rfl, (a0_ HXg2.out 7).trans rfl, (a0_ HXg2.out 8).trans rfl, (a0_ HXg3.out 0).trans rfl, (a0_ HXg3.out 1).trans rfl, (a0_ HXg3.out 2).trans rfl, (e1_ hb y0), (e1_ hb y1), (e1_ hb y2), (e1_ hb y3), (e1_ hb y4), (e1_ hb y5), (e1_ hb y6), (e1_ hb y7)⟩ (fun hHeld => ?_)
 clear hK K
 refine norm_ (a' := ?_) ?_ ?_
 rotate_left
 ·show Act.put _ (some 41) _ = _
  simp only [Act.put, List.setIfInBounds_toArray, List.set_cons_zero, List.set_cons_succ, i64_w, i32_w]
  rfl
 refine pu 22 (some 42) (bm 25 8388607) ?_
 refine pu 23 (some 43) (bm 25 16777215) ?_
 refine pu 24 (some 0) (bm 25 33554431) ?_
 refine done_ (done_of HT_.out (by kernel_rfl)) ?_
 go_wp2
 go_ret
 exact ⟨rfl, HB4.out⟩
end Go.Proofs.Ytckhjehibjdjdaa.P
namespace Go.Proofs.Ytckhjehibjdjdaa.P
open Go.RowKit Go.Proofs.YtckhjehibjdjdaaW.PrintWords Go.Proofs.YtckhjehibjdjdaaW.PrintLast Go.Proofs.YtckhjehibjdjdaaW.PrintMore
theorem set51 {W : World} {base n cap g : Nat} {i : Int} {xs : List S51} (h : Kd.R k51 51 W base (fun _ => True) (.slice (some ⟨g, 0, none⟩) n cap) xs) (h0 : 0 ≤ i) (h1 : i < n) :
  (W.cell? ⟨g, i.toNat * 4, none⟩ = some (.int .i64 (a4_ xs i).f0.f0) ∧ W.cell? ⟨g, i.toNat * 4 + 1, none⟩ = some (.int .i64 (a4_ xs i).f0.f1) ∧ W.cell? ⟨g, i.toNat * 4 + 2, none⟩ = some (.int .u64 (a4_ xs i).f1) ∧ W.cell? ⟨g, i.toNat * 4 + 3, none⟩ = some (.int .i64 (a4_ xs i).f2)) ∧ (W.frozen? ⟨g, i.toNat * 4 + 2, none⟩ = false ∧ W.frozen? ⟨g, i.toNat * 4 + 3, none⟩ = false) ∧
  (∀ v, Kd.R k51 51 (W.setCell ⟨g, i.toNat * 4 + 2, none⟩ (.int .u64 v)) base (fun _ => True) (.slice (some ⟨g, 0, none⟩) n cap) (xs.set i.toNat ⟨⟨(a4_ xs i).f0.f0, (a4_ xs i).f0.f1⟩, v, (a4_ xs i).f2⟩)) ∧
  (∀ v, Kd.R k51 51 (W.setCell ⟨g, i.toNat * 4 + 3, none⟩ (.int .i64 v)) base (fun _ => True) (.slice (some ⟨g, 0, none⟩) n cap) (xs.set i.toNat ⟨⟨(a4_ xs i).f0.f0, (a4_ xs i).f0.f1⟩, (a4_ xs i).f1, v⟩)) := by
 obtain ⟨c, hcl, hM, hcc, hfr⟩ := Kd.R_elem h z51 i h0 h1
 obtain rfl := k51_openM hM
 have hsz : k51.sz = 4 := rfl
 rw [hsz] at hcc hfr
 refine ⟨⟨by have := hcc 0 _ rfl; rwa [Nat.add_zero] at this, hcc 1 _ rfl, hcc 2 _ rfl, hcc 3 _ rfl⟩, ⟨hfr 2, hfr 3⟩, fun v => ?_, fun v => ?_⟩
 ·have := (Kd.R_seg h i h0 h1 (seg := [.int .u64 v]) (j := 2) hcl (by rw [hsz]; exact hcc) (show 3 ≤ 4 from by decide) (x' := ⟨⟨(a4_ xs i).f0.f0, (a4_ xs i).f0.f1⟩, v, (a4_ xs i).f2⟩) (k51_mkM _ _ _ _) (fun _ hk => hk)).1
  rw [hsz] at this
  exact this
 ·have := (Kd.R_seg h i h0 h1 (seg := [.int .i64 v]) (j := 3) hcl (by rw [hsz]; exact hcc) (show 4 ≤ 4 from by decide) (x' := ⟨⟨(a4_ xs i).f0.f0, (a4_ xs i).f0.f1⟩, (a4_ xs i).f1, v⟩) (k51_mkM _ _ _ _) (fun _ hk => hk)).1
  rw [hsz] at this
  exact this
end Go.Proofs.Ytckhjehibjdjdaa.P
namespace Go.Proofs.Ytckhjehibjdjdaa.P
open Go.RowKit Go.Proofs.YtckhjehibjdjdaaW.PrintWords Go.Proofs.YtckhjehibjdjdaaW.PrintLast Go.Proofs.YtckhjehibjdjdaaW.PrintMore
attribute [local go_sem] max2_int min2_int max_two min_two max_three min_three max_four min_four
theorem eqA48 (d : Nat) (w : World) (x0 y0 x1 y1 : Int) :
  (Op.equalIn (d + 2) 48 (.agg #[.int .i64 x0, .int .i64 x1]) (.agg #[.int .i64 y0, .int .i64 y1])).run Try.prog w = .ok (x0 == y0 && (x1 == y1)) w := by
 refine eqA_of Try.underlying48 (by kernel_rfl) ?_
 refine eqf_cons (by rfl) (by go_simp; rfl) (by go_simp; rfl) (by go_simp) ?_
 exact eqf_last (by rfl) (by go_simp; rfl) (by go_simp; rfl) (by go_simp)
end Go.Proofs.Ytckhjehibjdjdaa.P
namespace Go.Proofs.Ytckhjehibjdjdaa.P
open Go.RowKit Go.Proofs.YtckhjehibjdjdaaW.PrintWords Go.Proofs.YtckhjehibjdjdaaW.PrintLast Go.Proofs.YtckhjehibjdjdaaW.PrintMore
attribute [local go_sem] max2_int min2_int max_two min_two max_three min_three max_four min_four
attribute [local go_sem high] eqA48
def ensembleref05_find.l0 : Nat → List (S51) → Int → Int → Int → Option (Int)
 | 0, _, _, _, _ => none
 | k + 1, x0, x5, x119000, x119001 => if x5 < (x0.length : Int) then (if 0 ≤ x5 then (if (((a4_ x0 x5).f0.f0) == x119000 && (((a4_ x0 x5).f0.f1) == x119001)) = true then (some x5) else (ensembleref05_find.l0 k x0 (wrap64 (x5 + 1)) x119000 x119001)) else (none)) else (some (-1))
def ensembleref05_find.f (k : Nat) (l0 : List (S51)) (a1_0 a1_1 : Int) : Option (Int) := ensembleref05_find.l0 k l0 0 a1_0 a1_1
set_option maxHeartbeats 8000000 in
set_option maxRecDepth 100000 in
theorem ensembleref05_find.calls (k : Nat) (A0 : Option Addr) (c0 : Nat) (l0 : List (S51)) (a1_0 a1_1 r : Int) (w : World) (hr0 : Kd.C k51 w A0 l0.length l0) (hc0 : l0.length ≤ c0) (h : ensembleref05_find.f k l0 a1_0 a1_1 = some r) :
  Calls Try.prog 79 #[.slice A0 l0.length c0, .agg #[.int .i64 a1_0, .int .i64 a1_1]] w fun e w' => e = .returned (.int .i64 r) ∧ Below w.heap.size w w' := by
 have hu48 := Try.underlying48
 have HR0 := m_ hr0
 have HC0 := m_ hc0
 clear hr0 hc0
 have HB := m_ (Below.refl w.heap.size w)
 have H := h
 unfold ensembleref05_find.f at H
 clear h
 have H' := m_ H
 clear H
 go_enter Try.func79, Try.ntmps79
 go_wp2_with (first | ((with_reducible refine a3_ (N := 3) rfl ?_); refine bx 3 #[.int .i64 a1_0, .int .i64 a1_1] 48 ?_; intro gb118 hg w3 hbox hb; have BK118 := m_ (hbox); have GW118 := ge_ hg; have GE118 := ge_ hg; replace HB := hs_ hb; clear hb hbox hg))
 repeat (go_quiet (first | ((with_reducible refine a3_ (N := 3) rfl ?_); refine bx 3 #[.int .i64 a1_0, .int .i64 a1_1] 48 ?_; intro gb118 hg w3 hbox hb; have BK118 := m_ (hbox); have GW118 := ge_ hg; have GE118 := ge_ hg; replace HB := hs_ hb; clear hb hbox hg)); try go_wp2_with (first | ((with_reducible refine a3_ (N := 3) rfl ?_); refine bx 3 #[.int .i64 a1_0, .int .i64 a1_1] 48 ?_; intro gb118 hg w3 hbox hb; have BK118 := m_ (hbox); have GW118 := ge_ hg; have GE118 := ge_ hg; replace HB := hs_ hb; clear hb hbox hg)))
 go_loopg [5] k (fun kq v5 w' => ∃ (x5_1 : Int), v5 = .int .i64 x5_1 ∧ A_ (ensembleref05_find.l0 kq l0 x5_1 a1_0 a1_1 = some r) ∧ A_ (kq ≤ k) ∧ A_ (w'.heap[gb118]? = some (.cells #[.int .i64 a1_0, .int .i64 a1_1] 48 (0, 0))) ∧ A_ (Below w.heap.size w w'))
 case atStart => exact ⟨(0), Z3, H', ⟨Nat.le_refl _⟩, ⟨bo_ BK118⟩, ⟨hb_⟩⟩
 case round =>
  clear H'
  try clear p2
  obtain ⟨x5_1, rfl, HA, HK1, BK118, HB⟩ := hrel
  cases gk with
  | zero => exact absurd HA.out (by simp [ensembleref05_find.l0])
  | succ k1 =>
   have H := HA.out
   clear HA
   simp only [ensembleref05_find.l0] at H
   by_cases c4 : x5_1 < (l0.length : Int)
   ·rw [if_pos c4] at H
    have c4b0 : decide (x5_1 < (l0.length : Int)) = true := decide_eq_true c4
    clear c4
    by_cases c5 : 0 ≤ x5_1
    ·rw [if_pos c5] at H
     have c5b0 : decide (0 ≤ x5_1) = true := decide_eq_true c5
     clear c5
     by_cases c6 : (((a4_ l0 x5_1).f0.f0) == a1_0 && (((a4_ l0 x5_1).f0.f1) == a1_1)) = true
     ·rw [if_pos c6] at H
      have c6b0 : (((a4_ l0 x5_1).f0.f0) == a1_0 && (((a4_ l0 x5_1).f0.f1) == a1_1)) = true := c6
      (try (have c6b1 : decide (((a4_ l0 x5_1).f0.f0) = a1_0 && (((a4_ l0 x5_1).f0.f1) == a1_1)) = true := by simpa using c6))
      (try (have c6b2 : (((a4_ l0 x5_1).f0.f0) == a1_0 && (((a4_ l0 x5_1).f0.f1) == a1_1)) = true := by simpa using c6))
      clear c6
      obtain rfl := Option.some.inj H
      have p119 : 0 ≤ (x5_1 : Int) := of_decide_eq_true Z1
      have q119 : x5_1 < (l0.length : Int) := of_decide_eq_true Z1
      obtain ⟨ad119, e119, hx119_0, hx119_1, hx119_2, hx119_3⟩ := at_T51 (Kd.C_below HR0.out HB.out) x5_1 p119 q119
      cases e119
      replace p119 := eq_true p119
      replace q119 := eq_true q119
      obtain ⟨hcz7_0, hcz7_1, hfz7_0, hfz7_1⟩ := bz2_ BK118
      go_wp2
      repeat (go_quiet (fail); try go_wp2)
      go_ret
      exact ⟨by first | rfl | (simp [b2_, b1_] <;> rfl) | (simp [*, b2_, b1_] <;> rfl), hb_⟩
     ·rw [if_neg c6] at H
      have c6b0 : (((a4_ l0 x5_1).f0.f0) == a1_0 && (((a4_ l0 x5_1).f0.f1) == a1_1)) = false := by simpa using c6
      (try (have c6b1 : decide (((a4_ l0 x5_1).f0.f0) = a1_0 && (((a4_ l0 x5_1).f0.f1) == a1_1)) = false := by simpa using c6))
      (try (have c6b2 : (((a4_ l0 x5_1).f0.f0) == a1_0 && (((a4_ l0 x5_1).f0.f1) == a1_1)) = false := by simpa using c6))
      (try (have c6b3 : ¬ (((a4_ l0 x5_1).f0.f0) = a1_0 && (((a4_ l0 x5_1).f0.f1) == a1_1)) := by simpa using c6))
      clear c6
      have H' := m_ H
      clear H
      have p119 : 0 ≤ (x5_1 : Int) := of_decide_eq_true Z1
      have q119 : x5_1 < (l0.length : Int) := of_decide_eq_true Z1
      obtain ⟨ad119, e119, hx119_0, hx119_1, hx119_2, hx119_3⟩ := at_T51 (Kd.C_below HR0.out HB.out) x5_1 p119 q119
      cases e119
      replace p119 := eq_true p119
      replace q119 := eq_true q119
      obtain ⟨hcz8_0, hcz8_1, hfz8_0, hfz8_1⟩ := bz2_ BK118
      go_wp2
      repeat (go_quiet (fail); try go_wp2)
      go_roundg k1
      case measure => have := HK1.out; omega
      case rel => exact ⟨(wrap64 (x5_1 + 1)), Z3, H', ⟨by have := HK1.out; omega⟩, ⟨bo_ BK118⟩, ⟨hb_⟩⟩
    ·rw [if_neg c5] at H
     exact absurd H (by simp)
   ·rw [if_neg c4] at H
    have c4b0 : decide (x5_1 < (l0.length : Int)) = false := decide_eq_false c4
    clear c4
    obtain rfl := Option.some.inj H
    go_wp2
    repeat (go_quiet (fail); try go_wp2)
    go_ret
    exact ⟨by first | rfl | (simp [b2_, b1_] <;> rfl) | (simp [*, b2_, b1_] <;> rfl), hb_⟩
end Go.Proofs.Ytckhjehibjdjdaa.P
namespace Go.Proofs.Ytckhjehibjdjdaa.P
open Go.RowKit Go.Proofs.YtckhjehibjdjdaaW.PrintWords Go.Proofs.YtckhjehibjdjdaaW.PrintLast Go.Proofs.YtckhjehibjdjdaaW.PrintMore
attribute [local go_sem] max2_int min2_int max_two min_two max_three min_three max_four min_four
attribute [local go_sem] cellBx frozBx
def ensembleref05_More.l0 : Nat → List (S52) → List (S51) → Int → Option ((List (S51)) × Int)
 | 0, _, _, _ => none
 | k + 1, x1, x6, x7 => if x7 < (x1.length : Int) then (if 0 ≤ x7 then (if ((a5_ x1 x7).f2) < 0 then (some (([] : List (S51)), 1)) else ((ensembleref05_find.f k x6 ((a5_ x1 x7).f0.f0) ((a5_ x1 x7).f0.f1)).bind fun t189 => (if t189 < 0 then (some (([] : List (S51)), 3)) else (if 0 ≤ t189 then (if t189 < (x6.length : Int) then ((ensembleref05_masks.f k ((a5_ x1 x7).f1) ((a4_ x6 t189).f1)).bind fun t191 => (if t191 > 0 then (some (([] : List (S51)), 4)) else (if ((a5_ x1 x7).f2) > (wrap64 (1048576 - ((a4_ x6 t189).f2))) then (some (([] : List (S51)), 14)) else ((some (x6.set (t189 : Int).toNat (⟨(⟨(a4_ x6 t189).f0.f0, (a4_ x6 t189).f0.f1⟩ : S48), IntKind.u64.wrap (((a4_ x6 t189).f1) + ((a5_ x1 x7).f1)), (a4_ x6 t189).f2⟩ : S51) : List (S51))).bind fun y194 => (ensembleref05_More.l0 k x1 (y194.set (t189 : Int).toNat (⟨(⟨(a4_ y194 t189).f0.f0, (a4_ y194 t189).f0.f1⟩ : S48), (a4_ y194 t189).f1, wrap64 (((a4_ y194 t189).f2) + ((a5_ x1 x7).f2))⟩ : S51)) (wrap64 (x7 + 1))))))) else (none)) else (none))))) else (none)) else (some (x6, 0))
def ensembleref05_More.f (k : Nat) (l0 : List (S51)) (l1 : List (S52)) : Option ((List (S51)) × Int) := (some (([] : List (S51)) : List (S51))).bind fun y181 => (if y181.length + l0.length < 4398046511104 then (ensembleref05_More.l0 k l1 (y181 ++ l0) 0) else (none))
theorem ensembleref05_More.find {k n : Nat} {A : Option Addr} {c : Nat} {l : List S51} {a b r : Int} {w : World} (hl : A_ (l.length = n)) (hr : Kd.C k51 w A l.length l) (hc : l.length ≤ c) (h : A_ (ensembleref05_find.f k l a b = some r)) :
  Calls Try.prog 79 #[.slice A n c, .agg #[.int .i64 a, .int .i64 b]] w fun e w' => e = .returned (.int .i64 r) ∧ Below w.heap.size w w' := by
 obtain rfl := hl.out
 exact ensembleref05_find.calls k A c l a b r w hr hc h.out
set_option maxHeartbeats 8000000 in
set_option maxRecDepth 100000 in
theorem ensembleref05_More.calls (k : Nat) (A0 : Option Addr) (c0 : Nat) (l0 : List (S51)) (A1 : Option Addr) (c1 : Nat) (l1 : List (S52)) (r1 : List (S51)) (r2 : Int) (w : World) (hr0 : Kd.C k51 w A0 l0.length l0) (hc0 : l0.length ≤ c0) (hr1 : Kd.C k52 w A1 l1.length l1) (hc1 : l1.length ≤ c1) (h : ensembleref05_More.f k l0 l1 = some (r1, r2)) :
  Calls Try.prog 32 #[.slice A0 l0.length c0, .slice A1 l1.length c1] w fun e w' => ∃ v0_ : Value, e = .returned (.tuple #[v0_, .int .i64 r2]) ∧ Kd.R k51 51 w' w.heap.size (fun _ => True) v0_ r1 ∧ Below w.heap.size w w' := by
 have hu52 := Try.underlying52
 have hu51 := Try.underlying51
 have hu48 := Try.underlying48
 have : Be w w := ⟨Below.refl _ _⟩
 unfold ensembleref05_More.f at h
 rw [Option.bind_some] at h
 by_cases hn : ([] : List (S51)).length + l0.length < 4398046511104
 case neg => rw [if_neg hn] at h; cases h
 rw [if_pos hn, List.nil_append] at h
 have HN := m_ (show l0.length < 4398046511104 by simpa using hn)
 have HA0 := m_ h
 clear h hn
 go_enter Try.func32, Try.ntmps32
 go_wp2_with (first | ((with_reducible refine a3_ (N := 10) rfl ?_); refine Kd.R_lit k51 _ 51 ?hg (N := 10) ?hd (xs := ([] : List S51)) (inner := []) (ok := fun _ => True) (okp := fun _ => True) ?hr ?hp (fun _ hk => hk) trivial (Below.refl w.heap.size w) (Nat.le_refl _) (by simp) ?_; (case hd => rfl); (case hg => rfl); (case hr => first | (go_simp; done) | (go_simp; rfl)); (case hp => exact (Reps.none _ _)); intro v1 wl ho hb _ _; have := Bl.mk hb) | ((with_reducible refine gate_builtin (b := .append) (xs := #[.tmp 10, .tmp 11]) rfl ?_); at_builtin; refine Kd.R_append_rows k51 (w0 := w) w.heap.size rfl (.tmp 10) (.tmp 11) 22 51 (.agg #[.int .i64 0, .int .i64 0, .int .u64 0, .int .i64 0]) 32 rfl Try.underlying22 info51 rfl (by decide) (by omega) v1 [] l0 _ _ _ (fun _ => True) (fun _ => False) rfl rfl ?aO ?aR (fun _ _ h => h) (fun _ h => h.elim) ?aF ?aB ?aS ?aL ?_; (case aR => exact Kd.C_below hr0 hb); (case aB => exact hb); (case aF => exact (fun _ _ => trivial)); (case aO => exact ho); (case aS => exact hb.size); (case aL => have := HN.out; simp; omega); intro v wp ho2 hb2 _ _; rw [List.nil_append] at ho2; have := Bl.mk hb2; clear ho hb))
 obtain ⟨Av, cv, e3⟩ := Kd.R_slice ho2
 subst e3
 have HO := m_ ho2
 have be : Be w wp := inferInstance
 clear ho2
 go_loopg [7] k (fun kq v7 w' => ∃ (x6 : List (S51)) (x7 : Int), v7 = .int .i64 x7 ∧ A_ (ensembleref05_More.l0 kq l1 x6 x7 = some (r1, r2)) ∧ A_ (kq ≤ k) ∧ A_ (x6.length = l0.length) ∧ A_ (Kd.R k51 51 w' w.heap.size (fun _ => True) (.slice Av l0.length cv) x6) ∧ Be w w')
 case atStart => exact ⟨l0, 0, rfl, HA0, ⟨Nat.le_refl _⟩, ⟨rfl⟩, HO, be⟩
 case round =>
  clear HA0 HO be
  obtain ⟨x6, x7, rfl, HA, HK, HL, HO, be⟩ := hrel
  cases gk with
  | zero => exact absurd HA.out (by simp [ensembleref05_More.l0])
  | succ k1 =>
   have hh := HA.out
   clear HA
   rw [ensembleref05_More.l0] at hh
   by_cases c1 : x7 < (l1.length : Int)
   case neg =>
    rw [if_neg c1] at hh
    simp only [Option.some.injEq, Prod.mk.injEq] at hh
    obtain ⟨rfl, rfl⟩ := hh
    have q := decide_eq_false c1
    clear c1
    go_wp2
    go_ret2
    exact ⟨_, rfl, HO.out, Be.out⟩
   rw [if_pos c1] at hh
   by_cases c2 : 0 ≤ x7
   case neg => rw [if_neg c2] at hh; cases hh
   rw [if_pos c2] at hh
   obtain ⟨ad, hea, z0, z1, z2, z3⟩ := at_T52 (Kd.C_below hr1 be.out) x7 c2 c1
   subst hea
   generalize a5_ l1 x7 = s at *
   have c1' := decide_eq_true c1
   have c2' : (0 ≤ x7) = True := eq_true c2
   have c3' : (x7 < (l1.length : Int)) = True := eq_true c1
   by_cases c3 : s.f2 < 0
   case pos =>
    rw [if_pos c3] at hh
    simp only [Option.some.injEq, Prod.mk.injEq] at hh
    obtain ⟨rfl, rfl⟩ := hh
    have q := decide_eq_true c3
    clear c1 c2 c3
    go_wp2
    go_ret2
    exact ⟨_, rfl, Kd.R_nil _ _ _ _ _, Be.out⟩
   rw [if_neg c3] at hh
   have q3 := decide_eq_false c3
   replace hh := bindS hh
   obtain ⟨t, hF, hh⟩ := hh
   have HF := m_ hF
   have H := m_ hh
   clear c1 c2 c3 hF hh
   go_upto_region 6 with (fail)
   obtain ⟨g8, w8, _, _, _, e1, e2⟩ := nameA wr #[.int .i64 s.f0.f0, .int .i64 s.f0.f1, .int .u64 s.f1, .int .i64 s.f2] 52
   rw [e1, e2]
   clear e1 e2 z0 z1 z2 z3 c1' c2' c3'
   have HOr := HO
   replace HO := m_ (Kd.R_below HO.out (Bl.out (W' := w8)))
   go_upto_region 9 with (first | (go_at_call 79; refine (ensembleref05_More.find HL (Kd.R_reads' HO.out).2.2 (by have := (Kd.R_reads' HO.out).2.1; have := HL.out; omega) HF).mono ?_; rintro e wf ⟨rfl, hb⟩; have := Bl.mk hb; clear hb))
   replace HO := m_ (Kd.R_below HO.out (Bl.out (W' := wf)))
   have hh := H.out
   clear H HF q3
   by_cases c4 : t < 0
   case pos =>
    rw [if_pos c4] at hh
    simp only [Option.some.injEq, Prod.mk.injEq] at hh
    obtain ⟨rfl, rfl⟩ := hh
    have q := decide_eq_true c4
    clear c4
    go_wp2
    go_ret2
    exact ⟨_, rfl, Kd.R_nil _ _ _ _ _, Be.out⟩
   rw [if_neg c4, if_pos (by omega)] at hh
   have q4 := decide_eq_false c4
   by_cases c6 : t < (x6.length : Int)
   case neg => rw [if_neg c6] at hh; cases hh
   rw [if_pos c6] at hh
   have c7 : t < (l0.length : Int) := by have := HL.out; omega
   obtain ⟨gr, cap, ee, hg1, hgl, _⟩ := Kd.R_form HOr.out (by omega)
   injection ee with e1 e2 e3
   subst e1
   clear e2 e3
   have : Ge w gr := ⟨hg1⟩
   have HK8 : A_ (Nq g8 gr) := ⟨nqGt (W := wr) hgl⟩
   clear HOr hg1 hgl
   obtain ⟨⟨y0, y1, y2, y3⟩, _⟩ := set51 HO.out (show 0 ≤ t by omega) c7
   have k5 : (0 ≤ t) = True := eq_true (by omega)
   have k6 : (t < (l0.length : Int)) = True := eq_true c7
   replace hh := bindS hh
   obtain ⟨m, hM, hh⟩ := hh
   have HM := m_ hM
   clear hM
   have C5 := m_ (show 0 ≤ t from by omega)
   have C7 := m_ c7
   have H := m_ hh
   clear c4 c6 c7 hh
   go_upto_region 11 with (fail)
   clear q4
   replace y0 : wf.drew.cell? ⟨gr, t.toNat * 4, none⟩ = some (.int .i64 (a4_ x6 t).f0.f0) := y0
   replace y1 : wf.drew.cell? ⟨gr, t.toNat * 4 + 1, none⟩ = some (.int .i64 (a4_ x6 t).f0.f1) := y1
   replace y2 : wf.drew.cell? ⟨gr, t.toNat * 4 + 2, none⟩ = some (.int .u64 (a4_ x6 t).f1) := y2
   replace y3 : wf.drew.cell? ⟨gr, t.toNat * 4 + 3, none⟩ = some (.int .i64 (a4_ x6 t).f2) := y3
   go_region_held3 (fun w' => w'.cell? ⟨g8, 0, none⟩ = some (.int .i64 s.f0.f0) ∧ w'.cell? ⟨g8, 1, none⟩ = some (.int .i64 s.f0.f1) ∧ w'.cell? ⟨g8, 2, none⟩ = some (.int .u64 s.f1) ∧ w'.cell? ⟨g8, 3, none⟩ = some (.int .i64 s.f2) ∧ w'.cell? ⟨gr, t.toNat * 4 + 2, none⟩ = some (.int .u64 (a4_ x6 t).f1)) (((repeat' (refine And.intro ?_ ?_)) <;> first | exact (cellBx _).trans rfl | assumption | exact e1_ Bl.out (by assumption))) ((go_at_call 80; refine (ensembleref05_masks.calls _ _ _ _ _ HM.out).mono ?_; rintro e wm ⟨rfl, hb⟩; have := Bl.mk hb; clear hb))
   replace HO := m_ (Kd.R_below (Kd.R_drew HO.out) (Bl.out (W' := wm)))
   have hh := H.out
   clear H HM y0 y1 y2 y3
   by_cases c8 : m > 0
   case pos =>
    rw [if_pos c8] at hh
    simp only [Option.some.injEq, Prod.mk.injEq] at hh
    obtain ⟨rfl, rfl⟩ := hh
    go_wp2
    go_ret2
    exact ⟨_, rfl, Kd.R_nil _ _ _ _ _, Be.out⟩
   rw [if_neg c8] at hh
   have H := m_ hh
   clear hh
   have c5 := C5.out
   have c7 := C7.out
   obtain ⟨⟨y0, y1, y2, y3⟩, ⟨f2, f3⟩, s2, s3⟩ := set51 HO.out c5 c7
   have S2 := m_ s2
   clear s2 s3 c5 c7
   go_upto_region 13 with (fail)
   go_region
   clear c8
   have hh := H.out
   clear H
   by_cases c9 : s.f2 > wrap64 (1048576 - (a4_ x6 t).f2)
   case pos =>
    rw [if_pos c9] at hh
    simp only [Option.some.injEq, Prod.mk.injEq] at hh
    obtain ⟨rfl, rfl⟩ := hh
    go_wp2
    go_ret2
    exact ⟨_, rfl, Kd.R_nil _ _ _ _ _, Be.out⟩
   rw [if_neg c9, Option.bind_some] at hh
   generalize hy : x6.set (t : Int).toNat (⟨(⟨(a4_ x6 t).f0.f0, (a4_ x6 t).f0.f1⟩ : S48), IntKind.u64.wrap ((a4_ x6 t).f1 + s.f1), (a4_ x6 t).f2⟩ : S51) = y at hh
   have HO2 := m_ (hy ▸ S2.out (IntKind.u64.wrap ((a4_ x6 t).f1 + s.f1)))
   have HY := m_ (show y.length = l0.length ∧ (a4_ y t).f2 = (a4_ x6 t).f2 from by
    have c5 := C5.out
    have c7 := C7.out
    have hl := HL.out
    subst hy
    exact ⟨by rw [List.length_set, hl], by simp [a4_, List.getD_eq_getElem?_getD, List.getElem?_set_self (show t.toNat < x6.length by omega)]⟩)
   have H := m_ hh
   clear hh hy S2
   have := HK8.out
   go_wp2
   go_region
   go_wp2
   go_region
   go_wp2
   go_roundg k1
   case measure => have := HK.out; omega
   case rel =>
    have hs := (set51 HO2.out C5.out C7.out).2.2.2 (wrap64 ((a4_ x6 t).f2 + s.f2))
    exact ⟨_, _, rfl, ⟨by rw [← HY.out.2] ; exact H.out⟩, ⟨by have := HK.out; omega⟩, ⟨by rw [List.length_set]; exact HY.out.1⟩, ⟨hs⟩, inferInstance⟩
end Go.Proofs.Ytckhjehibjdjdaa.P
namespace Go.Proofs.Ytckhjehibjdjdaa.P
open Go.RowKit Go.Proofs.YtckhjehibjdjdaaW.PrintWords Go.Proofs.YtckhjehibjdjdaaW.PrintLast Go.Proofs.YtckhjehibjdjdaaW.PrintMore
attribute [local go_sem] max2_int min2_int max_two min_two max_three min_three max_four min_four
def ensembleref05_Right.l0 : Nat → List (S51) → Int → Option (Bool)
 | 0, _, _ => none
 | k + 1, x0, x3 => if x3 < (x0.length : Int) then (if 0 ≤ x3 then (if ((a4_ x0 x3).f2) < 0 then (some false) else (if ((a4_ x0 x3).f2) > 1048576 then (some false) else (if x3 ≤ (x0.length : Int) then ((ensembleref05_find.f k (x0.take (x3 : Int).toNat) ((a4_ x0 x3).f0.f0) ((a4_ x0 x3).f0.f1)).bind fun t127 => (if t127 ≥ 0 then (some false) else (ensembleref05_Right.l0 k x0 (wrap64 (x3 + 1))))) else (none)))) else (none)) else (some true)
def ensembleref05_Right.f (k : Nat) (l0 : List (S51)) : Option (Bool) := ensembleref05_Right.l0 k l0 0
def ensembleref05_Right.T4 : Bool × List (List Nat × List Nat) := (true, [([], []), ([], []), ([0, 1], [0, 1]), ([2], [2]), ([3], [3]), ([4], [4]), ([5], [5]), ([6], [6]), ([6], [6]), ([7, 8, 6], [6, 7, 8]), ([9, 6], [6, 9]), ([10, 6], [6, 10]), ([11, 6], [6, 11]), ([6, 12], [6, 12]), ([13, 6], [13]), ([14], [14]), ([14], [14]), ([15, 16, 14], [14, 15, 16]), ([14], [14]), ([14], [14]), ([18, 19, 14], [14, 18, 19]), ([20, 14], [14, 20]), ([21, 14], [14, 21]), ([17, 22, 14, 14], [14, 17, 22]), ([23, 14], [14, 23]), ([14, 24], [14, 24])])
def ensembleref05_Right.B4 : List Nat := [0, 0, 3, 7, 15, 31, 63, 127, 127, 511, 1023, 2047, 4095, 8191, 16383, 32767, 32767, 131071, 32767, 32767, 819199, 1867775, 3964927, 8388607, 16777215, 33554431]
theorem ensembleref05_Right.tab4 : rtab .any (opsOf Try.f67 4) = ensembleref05_Right.T4 := by kernel_rfl
theorem ensembleref05_Right.bits4 : waitsOk ensembleref05_Right.T4.2 ensembleref05_Right.B4 = true := by kernel_rfl
set_option maxHeartbeats 8000000 in
set_option maxRecDepth 100000 in
theorem ensembleref05_Right.calls (k : Nat) (A0 : Option Addr) (c0 : Nat) (l0 : List (S51)) (r : Bool) (w : World) (hr0 : Kd.C k51 w A0 l0.length l0) (hc0 : l0.length ≤ c0) (h : ensembleref05_Right.f k l0 = some r) :
  Calls Try.prog 67 #[.slice A0 l0.length c0] w fun e w' => e = .returned (.bool r) ∧ Below w.heap.size w w' := by
 have hu48 := Try.underlying48
 have HR0 := m_ hr0
 have HC0 := m_ hc0
 clear hr0 hc0
 have HB := m_ (Below.refl w.heap.size w)
 have H := h
 unfold ensembleref05_Right.f at H
 clear h
 have H' := m_ H
 clear H
 go_enter Try.func67, Try.ntmps67
 go_wp2
 go_loopg [3] k (fun kq v3 w' => ∃ (x3_1 : Int), v3 = .int .i64 x3_1 ∧ A_ (ensembleref05_Right.l0 kq l0 x3_1 = some r) ∧ A_ (kq ≤ k) ∧ A_ (Below w.heap.size w w'))
 case atStart => exact ⟨(0), Z3, H', ⟨Nat.le_refl _⟩, ⟨hb_⟩⟩
 case round =>
  clear H'
  obtain ⟨x3_1, rfl, HA, HK1, HB⟩ := hrel
  cases gk with
  | zero => exact absurd HA.out (by simp [ensembleref05_Right.l0])
  | succ k1 =>
   have H := HA.out
   clear HA
   simp only [ensembleref05_Right.l0] at H
   by_cases c2 : x3_1 < (l0.length : Int)
   ·rw [if_pos c2] at H
    have c2b0 : decide (x3_1 < (l0.length : Int)) = true := decide_eq_true c2
    clear c2
    by_cases c3 : 0 ≤ x3_1
    ·rw [if_pos c3] at H
     have c3b0 : decide (0 ≤ x3_1) = true := decide_eq_true c3
     clear c3
     by_cases c4 : ((a4_ l0 x3_1).f2) < 0
     ·rw [if_pos c4] at H
      have c4b0 : decide (((a4_ l0 x3_1).f2) < 0) = true := decide_eq_true c4
      clear c4
      obtain rfl := Option.some.inj H
      try go_wp2
      replace HB := m_ (b8_ HB.out)
      have p120 : 0 ≤ (x3_1 : Int) := of_decide_eq_true Z1
      have q120 : x3_1 < (l0.length : Int) := of_decide_eq_true Z1
      obtain ⟨ad120, e120, hx120_0, hx120_1, hx120_2, hx120_3⟩ := at_T51 HR0.out x3_1 p120 q120
      have hw120_3 := hx120_3
      have hw120_2 := hx120_2
      have hw120_1 := hx120_1
      have hw120_0 := hx120_0
      cases e120
      replace hx120_0 := cx_ hx120_0
      replace hx120_1 := cx_ hx120_1
      replace hx120_2 := cx_ hx120_2
      replace hx120_3 := cx_ hx120_3
      replace p120 := eq_true p120
      replace q120 := eq_true q120
      refine start_ (n := 26) (S := fun w' => w'.cell? (ad120.add ((x3_1).toNat * 4)) = some (.int .i64 ((a4_ l0 x3_1).f0.f0)) ∧ w'.cell? ⟨(ad120.add ((x3_1).toNat * 4)).block, (ad120.add ((x3_1).toNat * 4)).off + 1, none⟩ = some (.int .i64 ((a4_ l0 x3_1).f0.f1)) ∧ w'.cell? ⟨(ad120.add ((x3_1).toNat * 4)).block, (ad120.add ((x3_1).toNat * 4)).off + 2, none⟩ = some (.int .u64 ((a4_ l0 x3_1).f1)) ∧ w'.cell? ⟨(ad120.add ((x3_1).toNat * 4)).block, (ad120.add ((x3_1).toNat * 4)).off + 3, none⟩ = some (.int .i64 ((a4_ l0 x3_1).f2))) (ds := []) (bm 26 0) (by kernel_rfl) rfl rfl ⟨((HB.out.cell (World.block_lt_of_cell? w _ hw120_0)).trans hw120_0), ((HB.out.cell (World.block_lt_of_cell? w _ hw120_1)).trans hw120_1), ((HB.out.cell (World.block_lt_of_cell? w _ hw120_2)).trans hw120_2), ((HB.out.cell (World.block_lt_of_cell? w _ hw120_3)).trans hw120_3)⟩ (fun hHeld => ?_); refine with_tabW ensembleref05_Right.tab4 ensembleref05_Right.bits4 (fun HT_ HW_ => ?_)
      generalize wr.drew = w5 at HB hx120_0 hx120_1 hx120_2 hx120_3 hHeld ⊢
      refine pu 0 (some 10) (bm 26 1) ?_
      refine pu 1 (some 11) (bm 26 3) ?_
      refine pu 2 (some 12) (bm 26 7) ?_
      refine pu 3 (some 13) (bm 26 15) ?_
      refine tk 4 (some 14) (bm 26 31) ?_
      refine pu 5 (some 15) (bm 26 63) ?_
      refine pu 6 (some 16) (bm 26 127) ?_
      refine pv 7 (some 17) (bm 26 255) ?_
      refine pv 8 (some 18) (bm 26 511) ?_
      refine pv 9 (some 19) (bm 26 1023) ?_
      refine pv 10 (some 20) (bm 26 2047) ?_
      refine pv 11 (some 21) (bm 26 4095) ?_
      refine pv 12 (some 22) (bm 26 8191) ?_
      refine pu 13 (some 23) (bm 26 16383) ?_
      refine pu 14 (some 24) (bm 26 32767) ?_
      refine pv 15 (some 25) (bm 26 65535) ?_
      refine pv 16 (some 26) (bm 26 131071) ?_
      refine pv 17 (some 27) (bm 26 262143) ?_
      refine pv 18 (some 28) (bm 26 524287) ?_
      refine pv 19 (some 29) (bm 26 1048575) ?_
      refine pv 20 (some 30) (bm 26 2097151) ?_
      refine pv 21 (some 31) (bm 26 4194303) ?_
      refine pv 22 (some 32) (bm 26 8388607) ?_
      refine pv 23 (some 33) (bm 26 16777215) ?_
      refine pv 24 (some 34) (bm 26 33554431) ?_
      refine pu 25 (some 35) (bm 26 67108863) ?_
      refine done_ (done_of HT_.out (by kernel_rfl)) ?_
      try go_wp2
      go_ret
      exact ⟨by first | rfl | (simp [b2_, b1_] <;> rfl) | (simp [*, b2_, b1_] <;> rfl), hb_⟩
     ·rw [if_neg c4] at H
      have c4b0 : decide (((a4_ l0 x3_1).f2) < 0) = false := decide_eq_false c4
      clear c4
      by_cases c6 : ((a4_ l0 x3_1).f2) > 1048576
      ·rw [if_pos c6] at H
       have c6b0 : decide (1048576 < ((a4_ l0 x3_1).f2)) = true := decide_eq_true c6
       clear c6
       obtain rfl := Option.some.inj H
       try go_wp2
       replace HB := m_ (b8_ HB.out)
       have p120 : 0 ≤ (x3_1 : Int) := of_decide_eq_true Z1
       have q120 : x3_1 < (l0.length : Int) := of_decide_eq_true Z1
       obtain ⟨ad120, e120, hx120_0, hx120_1, hx120_2, hx120_3⟩ := at_T51 HR0.out x3_1 p120 q120
       have hw120_3 := hx120_3
       have hw120_2 := hx120_2
       have hw120_1 := hx120_1
       have hw120_0 := hx120_0
       cases e120
       replace hx120_0 := cx_ hx120_0
       replace hx120_1 := cx_ hx120_1
       replace hx120_2 := cx_ hx120_2
       replace hx120_3 := cx_ hx120_3
       replace p120 := eq_true p120
       replace q120 := eq_true q120
       have p121 : 0 ≤ (x3_1 : Int) := of_decide_eq_true Z1
       have q121 : x3_1 < (l0.length : Int) := of_decide_eq_true Z1
       obtain ⟨ad121, e121, hx121_0, hx121_1, hx121_2, hx121_3⟩ := at_T51 HR0.out x3_1 p121 q121
       have hw121_3 := hx121_3
       have hw121_2 := hx121_2
       have hw121_1 := hx121_1
       have hw121_0 := hx121_0
       obtain rfl : ad120 = ad121 := (by injection e121)
       replace hx121_0 := cx_ hx121_0
       replace hx121_1 := cx_ hx121_1
       replace hx121_2 := cx_ hx121_2
       replace hx121_3 := cx_ hx121_3
       replace p121 := eq_true p121
       replace q121 := eq_true q121
       refine start_ (n := 26) (S := fun w' => w'.cell? (ad120.add ((x3_1).toNat * 4)) = some (.int .i64 ((a4_ l0 x3_1).f0.f0)) ∧ w'.cell? ⟨(ad120.add ((x3_1).toNat * 4)).block, (ad120.add ((x3_1).toNat * 4)).off + 1, none⟩ = some (.int .i64 ((a4_ l0 x3_1).f0.f1)) ∧ w'.cell? ⟨(ad120.add ((x3_1).toNat * 4)).block, (ad120.add ((x3_1).toNat * 4)).off + 2, none⟩ = some (.int .u64 ((a4_ l0 x3_1).f1)) ∧ w'.cell? ⟨(ad120.add ((x3_1).toNat * 4)).block, (ad120.add ((x3_1).toNat * 4)).off + 3, none⟩ = some (.int .i64 ((a4_ l0 x3_1).f2)) ∧ w'.cell? (ad120.add ((x3_1).toNat * 4)) = some (.int .i64 ((a4_ l0 x3_1).f0.f0)) ∧ w'.cell? ⟨(ad120.add ((x3_1).toNat * 4)).block, (ad120.add ((x3_1).toNat * 4)).off + 1, none⟩ = some (.int .i64 ((a4_ l0 x3_1).f0.f1)) ∧ w'.cell? ⟨(ad120.add ((x3_1).toNat * 4)).block, (ad120.add ((x3_1).toNat * 4)).off + 2, none⟩ = some (.int .u64 ((a4_ l0 x3_1).f1)) ∧ w'.cell? ⟨(ad120.add ((x3_1).toNat * 4)).block, (ad120.add ((x3_1).toNat * 4)).off + 3, none⟩ = some (.int .i64 ((a4_ l0 x3_1).f2))) (ds := []) (bm 26 0) (by kernel_rfl) rfl rfl ⟨((HB.out.cell (World.block_lt_of_cell? w _ hw120_0)).trans hw120_0), ((HB.out.cell (World.block_lt_of_cell? w _ hw120_1)).trans hw120_1), ((HB.out.cell (World.block_lt_of_cell? w _ hw120_2)).trans hw120_2), ((HB.out.cell (World.block_lt_of_cell? w _ hw120_3)).trans hw120_3), ((HB.out.cell (World.block_lt_of_cell? w _ hw121_0)).trans hw121_0), ((HB.out.cell (World.block_lt_of_cell? w _ hw121_1)).trans hw121_1), ((HB.out.cell (World.block_lt_of_cell? w _ hw121_2)).trans hw121_2), ((HB.out.cell (World.block_lt_of_cell? w _ hw121_3)).trans hw121_3)⟩ (fun hHeld => ?_); refine with_tabW ensembleref05_Right.tab4 ensembleref05_Right.bits4 (fun HT_ HW_ => ?_)
       generalize wr.drew = w7 at HB hx120_0 hx120_1 hx120_2 hx120_3 hx121_0 hx121_1 hx121_2 hx121_3 hHeld ⊢
       refine pu 0 (some 10) (bm 26 1) ?_
       refine pu 1 (some 11) (bm 26 3) ?_
       refine pu 2 (some 12) (bm 26 7) ?_
       refine pu 3 (some 13) (bm 26 15) ?_
       refine tk 4 (some 14) (bm 26 31) ?_
       refine pu 5 (some 15) (bm 26 63) ?_
       refine pu 6 (some 16) (bm 26 127) ?_
       refine pu 7 (some 17) (bm 26 255) ?_
       refine pu 8 (some 18) (bm 26 511) ?_
       refine pu 9 (some 19) (bm 26 1023) ?_
       refine pu 10 (some 20) (bm 26 2047) ?_
       refine tk 11 (some 21) (bm 26 4095) ?_
       refine pu 12 (some 22) (bm 26 8191) ?_
       refine pu 13 (some 23) (bm 26 16383) ?_
       refine pu 14 (some 24) (bm 26 32767) ?_
       refine pv 15 (some 25) (bm 26 65535) ?_
       refine pv 16 (some 26) (bm 26 131071) ?_
       refine pv 17 (some 27) (bm 26 262143) ?_
       refine pv 18 (some 28) (bm 26 524287) ?_
       refine pv 19 (some 29) (bm 26 1048575) ?_
       refine pv 20 (some 30) (bm 26 2097151) ?_
       refine pv 21 (some 31) (bm 26 4194303) ?_
       refine pv 22 (some 32) (bm 26 8388607) ?_
       refine pv 23 (some 33) (bm 26 16777215) ?_
       refine pv 24 (some 34) (bm 26 33554431) ?_
       refine pu 25 (some 35) (bm 26 67108863) ?_
       refine done_ (done_of HT_.out (by kernel_rfl)) ?_
       try go_wp2
       go_ret
       exact ⟨by first | rfl | (simp [b2_, b1_] <;> rfl) | (simp [*, b2_, b1_] <;> rfl), hb_⟩
      ·rw [if_neg c6] at H
       have c6b0 : decide (1048576 < ((a4_ l0 x3_1).f2)) = false := decide_eq_false c6
       clear c6
       have c8b0 := eq_true (of_decide_eq_true Z1 : 0 ≤ x3_1)
       by_cases c9 : x3_1 ≤ (l0.length : Int)
       ·rw [if_pos c9] at H
        have c9b0 := eq_true c9
        have c9b1 : decide (x3_1 ≤ (l0.length : Int)) = true := decide_eq_true c9
        clear c9
        obtain ⟨y122, hy122⟩ : ∃ y_ : List (S51), y_ = (l0.take (x3_1 : Int).toNat) := ⟨_, rfl⟩
        replace H : ((ensembleref05_find.f k1 y122 ((a4_ l0 x3_1).f0.f0) ((a4_ l0 x3_1).f0.f1)).bind fun t127 => (if t127 ≥ 0 then (some false) else (ensembleref05_Right.l0 k1 l0 (wrap64 (x3_1 + 1))))) = some r := by first | (rw [hy122]; with_reducible exact H) | (have H2_ := (Option.bind_some _ _).symm.trans H; rw [hy122]; with_reducible exact H2_) | (have H2_ := (Option.bind_some _ _).symm.trans H; with_reducible exact H2_) | with_reducible exact H | (rw [hy122]; exact H) | exact H
        have Ny122 := m_ hy122
        clear hy122
        replace H := Option.bind_eq_some_iff.mp H
        obtain ⟨t127, A100, H⟩ := H
        try dsimp only at H
        have A10 := m_ A100
        clear A100
        by_cases c11 : t127 ≥ 0
        ·rw [if_pos c11] at H
         have c11b0 : decide (0 ≤ t127) = true := decide_eq_true c11
         clear c11
         obtain rfl := Option.some.inj H
         try go_wp2
         replace HB := m_ (b8_ HB.out)
         have p120 : 0 ≤ (x3_1 : Int) := of_decide_eq_true Z1
         have q120 : x3_1 < (l0.length : Int) := of_decide_eq_true Z1
         obtain ⟨ad120, e120, hx120_0, hx120_1, hx120_2, hx120_3⟩ := at_T51 HR0.out x3_1 p120 q120
         have hw120_3 := hx120_3
         have hw120_2 := hx120_2
         have hw120_1 := hx120_1
         have hw120_0 := hx120_0
         cases e120
         replace hx120_0 := cx_ hx120_0
         replace hx120_1 := cx_ hx120_1
         replace hx120_2 := cx_ hx120_2
         replace hx120_3 := cx_ hx120_3
         replace p120 := eq_true p120
         replace q120 := eq_true q120
         have p121 : 0 ≤ (x3_1 : Int) := of_decide_eq_true Z1
         have q121 : x3_1 < (l0.length : Int) := of_decide_eq_true Z1
         obtain ⟨ad121, e121, hx121_0, hx121_1, hx121_2, hx121_3⟩ := at_T51 HR0.out x3_1 p121 q121
         have hw121_3 := hx121_3
         have hw121_2 := hx121_2
         have hw121_1 := hx121_1
         have hw121_0 := hx121_0
         obtain rfl : ad120 = ad121 := (by injection e121)
         replace hx121_0 := cx_ hx121_0
         replace hx121_1 := cx_ hx121_1
         replace hx121_2 := cx_ hx121_2
         replace hx121_3 := cx_ hx121_3
         replace p121 := eq_true p121
         replace q121 := eq_true q121
         have q13 : (x3_1 : Int) ≤ ((l0.length : Int) : Int) := of_decide_eq_true Z1
         obtain ⟨i013, hi013, _, hsz13, _⟩ := info_parts info51
         have hroom13 : l0.length ≤ c0 := HC0.out
         have hC13 : Kd.C k51 _ (some ad120) l0.length l0 := HR0.out
         have hcut13 := cut_to (P := Try.prog) 22 51 .i64 Try.underlying22 hi013 (some ad120) l0.length c0 x3_1 (of_decide_eq_true Z1) q13 hroom13
         have hr13 := Kd.C_take (m := (x3_1 : Int).toNat) hC13 (by omega)
         have hy13 : y122.length = (x3_1 : Int).toNat := (by rw [Ny122.out, List.length_take]; omega)
         rw [← Ny122.out] at hr13
         rw [← hy13] at hcut13
         have HR125 := m_ hr13
         have HC125 := m_ (show y122.length ≤ c0 from by omega)
         clear hr13 hC13 hroom13 hi013 hsz13
         have KY13 := m_ hy13
         clear hy13
         replace q13 := eq_true q13
         have p126 : 0 ≤ (x3_1 : Int) := of_decide_eq_true Z1
         have q126 : x3_1 < (l0.length : Int) := of_decide_eq_true Z1
         obtain ⟨ad126, e126, hx126_0, hx126_1, hx126_2, hx126_3⟩ := at_T51 HR0.out x3_1 p126 q126
         have hw126_3 := hx126_3
         have hw126_2 := hx126_2
         have hw126_1 := hx126_1
         have hw126_0 := hx126_0
         obtain rfl : ad120 = ad126 := (by injection e126)
         replace hx126_0 := cx_ hx126_0
         replace hx126_1 := cx_ hx126_1
         replace hx126_2 := cx_ hx126_2
         replace hx126_3 := cx_ hx126_3
         replace p126 := eq_true p126
         replace q126 := eq_true q126
         refine start_ (n := 26) (S := fun w' => w'.cell? (ad120.add ((x3_1).toNat * 4)) = some (.int .i64 ((a4_ l0 x3_1).f0.f0)) ∧ w'.cell? ⟨(ad120.add ((x3_1).toNat * 4)).block, (ad120.add ((x3_1).toNat * 4)).off + 1, none⟩ = some (.int .i64 ((a4_ l0 x3_1).f0.f1)) ∧ w'.cell? ⟨(ad120.add ((x3_1).toNat * 4)).block, (ad120.add ((x3_1).toNat * 4)).off + 2, none⟩ = some (.int .u64 ((a4_ l0 x3_1).f1)) ∧ w'.cell? ⟨(ad120.add ((x3_1).toNat * 4)).block, (ad120.add ((x3_1).toNat * 4)).off + 3, none⟩ = some (.int .i64 ((a4_ l0 x3_1).f2)) ∧ w'.cell? (ad120.add ((x3_1).toNat * 4)) = some (.int .i64 ((a4_ l0 x3_1).f0.f0)) ∧ w'.cell? ⟨(ad120.add ((x3_1).toNat * 4)).block, (ad120.add ((x3_1).toNat * 4)).off + 1, none⟩ = some (.int .i64 ((a4_ l0 x3_1).f0.f1)) ∧ w'.cell? ⟨(ad120.add ((x3_1).toNat * 4)).block, (ad120.add ((x3_1).toNat * 4)).off + 2, none⟩ = some (.int .u64 ((a4_ l0 x3_1).f1)) ∧ w'.cell? ⟨(ad120.add ((x3_1).toNat * 4)).block, (ad120.add ((x3_1).toNat * 4)).off + 3, none⟩ = some (.int .i64 ((a4_ l0 x3_1).f2)) ∧ w'.cell? (ad120.add ((x3_1).toNat * 4)) = some (.int .i64 ((a4_ l0 x3_1).f0.f0)) ∧ w'.cell? ⟨(ad120.add ((x3_1).toNat * 4)).block, (ad120.add ((x3_1).toNat * 4)).off + 1, none⟩ = some (.int .i64 ((a4_ l0 x3_1).f0.f1)) ∧ w'.cell? ⟨(ad120.add ((x3_1).toNat * 4)).block, (ad120.add ((x3_1).toNat * 4)).off + 2, none⟩ = some (.int .u64 ((a4_ l0 x3_1).f1)) ∧ w'.cell? ⟨(ad120.add ((x3_1).toNat * 4)).block, (ad120.add ((x3_1).toNat * 4)).off + 3, none⟩ = some (.int .i64 ((a4_ l0 x3_1).f2))) (ds := []) (bm 26 0) (by kernel_rfl) rfl rfl ⟨((HB.out.cell (World.block_lt_of_cell? w _ hw120_0)).trans hw120_0), ((HB.out.cell (World.block_lt_of_cell? w _ hw120_1)).trans hw120_1), ((HB.out.cell (World.block_lt_of_cell? w _ hw120_2)).trans hw120_2), ((HB.out.cell (World.block_lt_of_cell? w _ hw120_3)).trans hw120_3), ((HB.out.cell (World.block_lt_of_cell? w _ hw121_0)).trans hw121_0), ((HB.out.cell (World.block_lt_of_cell? w _ hw121_1)).trans hw121_1), ((HB.out.cell (World.block_lt_of_cell? w _ hw121_2)).trans hw121_2), ((HB.out.cell (World.block_lt_of_cell? w _ hw121_3)).trans hw121_3), ((HB.out.cell (World.block_lt_of_cell? w _ hw126_0)).trans hw126_0), ((HB.out.cell (World.block_lt_of_cell? w _ hw126_1)).trans hw126_1), ((HB.out.cell (World.block_lt_of_cell? w _ hw126_2)).trans hw126_2), ((HB.out.cell (World.block_lt_of_cell? w _ hw126_3)).trans hw126_3)⟩ (fun hHeld => ?_); refine with_tabW ensembleref05_Right.tab4 ensembleref05_Right.bits4 (fun HT_ HW_ => ?_)
         generalize wr.drew = w12 at HB HR125 hx120_0 hx120_1 hx120_2 hx120_3 hx121_0 hx121_1 hx121_2 hx121_3 hx126_0 hx126_1 hx126_2 hx126_3 hHeld ⊢
         refine pu 0 (some 10) (bm 26 1) ?_
         refine pu 1 (some 11) (bm 26 3) ?_
         refine pu 2 (some 12) (bm 26 7) ?_
         refine pu 3 (some 13) (bm 26 15) ?_
         refine tk 4 (some 14) (bm 26 31) ?_
         refine pu 5 (some 15) (bm 26 63) ?_
         refine pu 6 (some 16) (bm 26 127) ?_
         refine pu 7 (some 17) (bm 26 255) ?_
         refine pu 8 (some 18) (bm 26 511) ?_
         refine pu 9 (some 19) (bm 26 1023) ?_
         refine pu 10 (some 20) (bm 26 2047) ?_
         refine tk 11 (some 21) (bm 26 4095) ?_
         refine pu 12 (some 22) (bm 26 8191) ?_
         refine pu 13 (some 23) (bm 26 16383) ?_
         refine pu 14 (some 24) (bm 26 32767) ?_
         refine pu 15 (some 25) (bm 26 65535) ?_
         refine pu 16 (some 26) (bm 26 131071) ?_
         refine pu 17 (some 27) (bm 26 262143) ?_
         refine pu 18 (some 28) (bm 26 524287) ?_
         refine pu 19 (some 29) (bm 26 1048575) ?_
         refine pu 20 (some 30) (bm 26 2097151) ?_
         refine pu 21 (some 31) (bm 26 4194303) ?_
         refine tk 22 (some 32) (bm 26 8388607) ?_
         refine one_ (i := 23) (N := some 33) (bm 26 16777215) rfl rfl (one_of HT_.out (by kernel_rfl)) (by decide) (fun K hK => ?_)
         refine goes_ Try.func79 (by kernel_rfl) rfl #[.slice (some ad120) y122.length c0, .agg #[.int .i64 ((a4_ l0 x3_1).f0.f0), .int .i64 ((a4_ l0 x3_1).f0.f1)]] (by rfl) rfl rfl Z0 ?_
         with_reducible refine (ensembleref05_find.calls k1 _ _ y122 ((a4_ l0 x3_1).f0.f0) ((a4_ l0 x3_1).f0.f1) t127 _ ?side1 ?side2 A10.out).mono ?_
         (case side1 => exact cs_ HR125)
         (case side2 => exact HC125.out)
         rintro e w14 ⟨rfl, hb⟩
         refine ⟨_, rfl, ?_⟩
         replace HB := hs_ hb
         (try clear hb)
         (try clear hb2)
         (try clear hk)
         (try clear hi)
         refine hK.out _ _ ⟨((HB.out.cell (World.block_lt_of_cell? w _ hw120_0)).trans hw120_0), ((HB.out.cell (World.block_lt_of_cell? w _ hw120_1)).trans hw120_1), ((HB.out.cell (World.block_lt_of_cell? w _ hw120_2)).trans hw120_2), ((HB.out.cell (World.block_lt_of_cell? w _ hw120_3)).trans hw120_3), ((HB.out.cell (World.block_lt_of_cell? w _ hw121_0)).trans hw121_0), ((HB.out.cell (World.block_lt_of_cell? w _ hw121_1)).trans hw121_1), ((HB.out.cell (World.block_lt_of_cell? w _ hw121_2)).trans hw121_2), ((HB.out.cell (World.block_lt_of_cell? w _ hw121_3)).trans hw121_3), ((HB.out.cell (World.block_lt_of_cell? w _ hw126_0)).trans hw126_0), ((HB.out.cell (World.block_lt_of_cell? w _ hw126_1)).trans hw126_1), ((HB.out.cell (World.block_lt_of_cell? w _ hw126_2)).trans hw126_2), ((HB.out.cell (World.block_lt_of_cell? w _ hw126_3)).trans hw126_3)⟩ (fun hHeld => ?_)
         clear hK K
         refine norm_ (a' := ?_) ?_ ?_
         rotate_left
         ·show Act.put _ (some 33) _ = _
          simp only [Act.put, List.setIfInBounds_toArray, List.set_cons_zero, List.set_cons_succ, i64_w, i32_w]
          rfl
         refine pu 24 (some 34) (bm 26 33554431) ?_
         refine pu 25 (some 35) (bm 26 67108863) ?_
         refine done_ (done_of HT_.out (by kernel_rfl)) ?_
         try go_wp2
         go_ret
         exact ⟨by first | rfl | (simp [b2_, b1_] <;> rfl) | (simp [*, b2_, b1_] <;> rfl), hb_⟩
        ·rw [if_neg c11] at H
         have c11b0 : decide (0 ≤ t127) = false := decide_eq_false c11
         clear c11
         have H' := m_ H
         clear H
         try go_wp2
         replace HB := m_ (b8_ HB.out)
         have p120 : 0 ≤ (x3_1 : Int) := of_decide_eq_true Z1
         have q120 : x3_1 < (l0.length : Int) := of_decide_eq_true Z1
         obtain ⟨ad120, e120, hx120_0, hx120_1, hx120_2, hx120_3⟩ := at_T51 HR0.out x3_1 p120 q120
         have hw120_3 := hx120_3
         have hw120_2 := hx120_2
         have hw120_1 := hx120_1
         have hw120_0 := hx120_0
         cases e120
         replace hx120_0 := cx_ hx120_0
         replace hx120_1 := cx_ hx120_1
         replace hx120_2 := cx_ hx120_2
         replace hx120_3 := cx_ hx120_3
         replace p120 := eq_true p120
         replace q120 := eq_true q120
         have p121 : 0 ≤ (x3_1 : Int) := of_decide_eq_true Z1
         have q121 : x3_1 < (l0.length : Int) := of_decide_eq_true Z1
         obtain ⟨ad121, e121, hx121_0, hx121_1, hx121_2, hx121_3⟩ := at_T51 HR0.out x3_1 p121 q121
         have hw121_3 := hx121_3
         have hw121_2 := hx121_2
         have hw121_1 := hx121_1
         have hw121_0 := hx121_0
         obtain rfl : ad120 = ad121 := (by injection e121)
         replace hx121_0 := cx_ hx121_0
         replace hx121_1 := cx_ hx121_1
         replace hx121_2 := cx_ hx121_2
         replace hx121_3 := cx_ hx121_3
         replace p121 := eq_true p121
         replace q121 := eq_true q121
         have q16 : (x3_1 : Int) ≤ ((l0.length : Int) : Int) := of_decide_eq_true Z1
         obtain ⟨i016, hi016, _, hsz16, _⟩ := info_parts info51
         have hroom16 : l0.length ≤ c0 := HC0.out
         have hC16 : Kd.C k51 _ (some ad120) l0.length l0 := HR0.out
         have hcut16 := cut_to (P := Try.prog) 22 51 .i64 Try.underlying22 hi016 (some ad120) l0.length c0 x3_1 (of_decide_eq_true Z1) q16 hroom16
         have hr16 := Kd.C_take (m := (x3_1 : Int).toNat) hC16 (by omega)
         have hy16 : y122.length = (x3_1 : Int).toNat := (by rw [Ny122.out, List.length_take]; omega)
         rw [← Ny122.out] at hr16
         rw [← hy16] at hcut16
         have HR125 := m_ hr16
         have HC125 := m_ (show y122.length ≤ c0 from by omega)
         clear hr16 hC16 hroom16 hi016 hsz16
         have KY16 := m_ hy16
         clear hy16
         replace q16 := eq_true q16
         have p126 : 0 ≤ (x3_1 : Int) := of_decide_eq_true Z1
         have q126 : x3_1 < (l0.length : Int) := of_decide_eq_true Z1
         obtain ⟨ad126, e126, hx126_0, hx126_1, hx126_2, hx126_3⟩ := at_T51 HR0.out x3_1 p126 q126
         have hw126_3 := hx126_3
         have hw126_2 := hx126_2
         have hw126_1 := hx126_1
         have hw126_0 := hx126_0
         obtain rfl : ad120 = ad126 := (by injection e126)
         replace hx126_0 := cx_ hx126_0
         replace hx126_1 := cx_ hx126_1
         replace hx126_2 := cx_ hx126_2
         replace hx126_3 := cx_ hx126_3
         replace p126 := eq_true p126
         replace q126 := eq_true q126
         refine start_ (n := 26) (S := fun w' => w'.cell? (ad120.add ((x3_1).toNat * 4)) = some (.int .i64 ((a4_ l0 x3_1).f0.f0)) ∧ w'.cell? ⟨(ad120.add ((x3_1).toNat * 4)).block, (ad120.add ((x3_1).toNat * 4)).off + 1, none⟩ = some (.int .i64 ((a4_ l0 x3_1).f0.f1)) ∧ w'.cell? ⟨(ad120.add ((x3_1).toNat * 4)).block, (ad120.add ((x3_1).toNat * 4)).off + 2, none⟩ = some (.int .u64 ((a4_ l0 x3_1).f1)) ∧ w'.cell? ⟨(ad120.add ((x3_1).toNat * 4)).block, (ad120.add ((x3_1).toNat * 4)).off + 3, none⟩ = some (.int .i64 ((a4_ l0 x3_1).f2)) ∧ w'.cell? (ad120.add ((x3_1).toNat * 4)) = some (.int .i64 ((a4_ l0 x3_1).f0.f0)) ∧ w'.cell? ⟨(ad120.add ((x3_1).toNat * 4)).block, (ad120.add ((x3_1).toNat * 4)).off + 1, none⟩ = some (.int .i64 ((a4_ l0 x3_1).f0.f1)) ∧ w'.cell? ⟨(ad120.add ((x3_1).toNat * 4)).block, (ad120.add ((x3_1).toNat * 4)).off + 2, none⟩ = some (.int .u64 ((a4_ l0 x3_1).f1)) ∧ w'.cell? ⟨(ad120.add ((x3_1).toNat * 4)).block, (ad120.add ((x3_1).toNat * 4)).off + 3, none⟩ = some (.int .i64 ((a4_ l0 x3_1).f2)) ∧ w'.cell? (ad120.add ((x3_1).toNat * 4)) = some (.int .i64 ((a4_ l0 x3_1).f0.f0)) ∧ w'.cell? ⟨(ad120.add ((x3_1).toNat * 4)).block, (ad120.add ((x3_1).toNat * 4)).off + 1, none⟩ = some (.int .i64 ((a4_ l0 x3_1).f0.f1)) ∧ w'.cell? ⟨(ad120.add ((x3_1).toNat * 4)).block, (ad120.add ((x3_1).toNat * 4)).off + 2, none⟩ = some (.int .u64 ((a4_ l0 x3_1).f1)) ∧ w'.cell? ⟨(ad120.add ((x3_1).toNat * 4)).block, (ad120.add ((x3_1).toNat * 4)).off + 3, none⟩ = some (.int .i64 ((a4_ l0 x3_1).f2))) (ds := []) (bm 26 0) (by kernel_rfl) rfl rfl ⟨((HB.out.cell (World.block_lt_of_cell? w _ hw120_0)).trans hw120_0), ((HB.out.cell (World.block_lt_of_cell? w _ hw120_1)).trans hw120_1), ((HB.out.cell (World.block_lt_of_cell? w _ hw120_2)).trans hw120_2), ((HB.out.cell (World.block_lt_of_cell? w _ hw120_3)).trans hw120_3), ((HB.out.cell (World.block_lt_of_cell? w _ hw121_0)).trans hw121_0), ((HB.out.cell (World.block_lt_of_cell? w _ hw121_1)).trans hw121_1), ((HB.out.cell (World.block_lt_of_cell? w _ hw121_2)).trans hw121_2), ((HB.out.cell (World.block_lt_of_cell? w _ hw121_3)).trans hw121_3), ((HB.out.cell (World.block_lt_of_cell? w _ hw126_0)).trans hw126_0), ((HB.out.cell (World.block_lt_of_cell? w _ hw126_1)).trans hw126_1), ((HB.out.cell (World.block_lt_of_cell? w _ hw126_2)).trans hw126_2), ((HB.out.cell (World.block_lt_of_cell? w _ hw126_3)).trans hw126_3)⟩ (fun hHeld => ?_); refine with_tabW ensembleref05_Right.tab4 ensembleref05_Right.bits4 (fun HT_ HW_ => ?_)
         generalize wr.drew = w15 at HB HR125 hx120_0 hx120_1 hx120_2 hx120_3 hx121_0 hx121_1 hx121_2 hx121_3 hx126_0 hx126_1 hx126_2 hx126_3 hHeld ⊢
         refine pu 0 (some 10) (bm 26 1) ?_
         refine pu 1 (some 11) (bm 26 3) ?_
         refine pu 2 (some 12) (bm 26 7) ?_
         refine pu 3 (some 13) (bm 26 15) ?_
         refine tk 4 (some 14) (bm 26 31) ?_
         refine pu 5 (some 15) (bm 26 63) ?_
         refine pu 6 (some 16) (bm 26 127) ?_
         refine pu 7 (some 17) (bm 26 255) ?_
         refine pu 8 (some 18) (bm 26 511) ?_
         refine pu 9 (some 19) (bm 26 1023) ?_
         refine pu 10 (some 20) (bm 26 2047) ?_
         refine tk 11 (some 21) (bm 26 4095) ?_
         refine pu 12 (some 22) (bm 26 8191) ?_
         refine pu 13 (some 23) (bm 26 16383) ?_
         refine pu 14 (some 24) (bm 26 32767) ?_
         refine pu 15 (some 25) (bm 26 65535) ?_
         refine pu 16 (some 26) (bm 26 131071) ?_
         refine pu 17 (some 27) (bm 26 262143) ?_
         refine pu 18 (some 28) (bm 26 524287) ?_
         refine pu 19 (some 29) (bm 26 1048575) ?_
         refine pu 20 (some 30) (bm 26 2097151) ?_
         refine pu 21 (some 31) (bm 26 4194303) ?_
         refine tk 22 (some 32) (bm 26 8388607) ?_
         refine one_ (i := 23) (N := some 33) (bm 26 16777215) rfl rfl (one_of HT_.out (by kernel_rfl)) (by decide) (fun K hK => ?_)
         refine goes_ Try.func79 (by kernel_rfl) rfl #[.slice (some ad120) y122.length c0, .agg #[.int .i64 ((a4_ l0 x3_1).f0.f0), .int .i64 ((a4_ l0 x3_1).f0.f1)]] (by rfl) rfl rfl Z0 ?_
         with_reducible refine (ensembleref05_find.calls k1 _ _ y122 ((a4_ l0 x3_1).f0.f0) ((a4_ l0 x3_1).f0.f1) t127 _ ?side1 ?side2 A10.out).mono ?_
         (case side1 => exact cs_ HR125)
         (case side2 => exact HC125.out)
         rintro e w17 ⟨rfl, hb⟩
         refine ⟨_, rfl, ?_⟩
         replace HB := hs_ hb
         (try clear hb)
         (try clear hb2)
         (try clear hk)
         (try clear hi)
         refine hK.out _ _ ⟨((HB.out.cell (World.block_lt_of_cell? w _ hw120_0)).trans hw120_0), ((HB.out.cell (World.block_lt_of_cell? w _ hw120_1)).trans hw120_1), ((HB.out.cell (World.block_lt_of_cell? w _ hw120_2)).trans hw120_2), ((HB.out.cell (World.block_lt_of_cell? w _ hw120_3)).trans hw120_3), ((HB.out.cell (World.block_lt_of_cell? w _ hw121_0)).trans hw121_0), ((HB.out.cell (World.block_lt_of_cell? w _ hw121_1)).trans hw121_1), ((HB.out.cell (World.block_lt_of_cell? w _ hw121_2)).trans hw121_2), ((HB.out.cell (World.block_lt_of_cell? w _ hw121_3)).trans hw121_3), ((HB.out.cell (World.block_lt_of_cell? w _ hw126_0)).trans hw126_0), ((HB.out.cell (World.block_lt_of_cell? w _ hw126_1)).trans hw126_1), ((HB.out.cell (World.block_lt_of_cell? w _ hw126_2)).trans hw126_2), ((HB.out.cell (World.block_lt_of_cell? w _ hw126_3)).trans hw126_3)⟩ (fun hHeld => ?_)
         clear hK K
         refine norm_ (a' := ?_) ?_ ?_
         rotate_left
         ·show Act.put _ (some 33) _ = _
          simp only [Act.put, List.setIfInBounds_toArray, List.set_cons_zero, List.set_cons_succ, i64_w, i32_w]
          rfl
         refine pu 24 (some 34) (bm 26 33554431) ?_
         refine pu 25 (some 35) (bm 26 67108863) ?_
         refine done_ (done_of HT_.out (by kernel_rfl)) ?_
         try go_wp2
         go_roundg k1
         case measure => have := HK1.out; omega
         case rel => exact ⟨(wrap64 (x3_1 + 1)), Z3, H', ⟨by have := HK1.out; omega⟩, ⟨hb_⟩⟩
       ·rw [if_neg c9] at H
        exact absurd H (by simp)
    ·rw [if_neg c3] at H
     exact absurd H (by simp)
   ·rw [if_neg c2] at H
    have c2b0 : decide (x3_1 < (l0.length : Int)) = false := decide_eq_false c2
    clear c2
    obtain rfl := Option.some.inj H
    go_wp2
    go_ret
    exact ⟨by first | rfl | (simp [b2_, b1_] <;> rfl) | (simp [*, b2_, b1_] <;> rfl), hb_⟩
mutual
def ensembleref12_Few.j0 : Nat → List (S41) → Bool → Option (Bool)
 | 0, _, _ => none
 | k + 1, x2, x40 => if x40 = true then (some false) else (ensembleref12_Few.l0 k x2 0)
def ensembleref12_Few.l0 : Nat → List (S41) → Int → Option (Bool)
 | 0, _, _ => none
 | k + 1, x2, x7 => if x7 < (x2.length : Int) then (if 0 ≤ x7 then (if (((a8_ x2 x7).f4).length : Int) > 20 then (some false) else (ensembleref12_Few.l0 k x2 (wrap64 (x7 + 1)))) else (none)) else (some true)
end
def ensembleref12_Few.f (k : Nat) (l0 : List (S51)) (a1_0 a1_1 : Int) (l2 : List (S41)) : Option (Bool) := if (l0.length : Int) > 70 then (ensembleref12_Few.j0 k l2 true) else ((ensembleref05_Right.f k l0).bind fun t129 => (if t129 = true then (if (l2.length : Int) > 20 then (ensembleref12_Few.j0 k l2 true) else (if a1_0 < (-1048576) then (ensembleref12_Few.j0 k l2 true) else (if a1_0 > 1048576 then (ensembleref12_Few.j0 k l2 true) else (if a1_1 < (-1048576) then (ensembleref12_Few.j0 k l2 true) else (ensembleref12_Few.j0 k l2 (decide (a1_1 > 1048576))))))) else (ensembleref12_Few.j0 k l2 true)))
set_option maxHeartbeats 8000000 in
set_option maxRecDepth 100000 in
theorem ensembleref12_Few.calls (k : Nat) (A0 : Option Addr) (c0 : Nat) (l0 : List (S51)) (a1_0 a1_1 : Int) (A2 : Option Addr) (c2 : Nat) (l2 : List (S41)) (r : Bool) (w : World) (hr0 : Kd.C k51 w A0 l0.length l0) (hc0 : l0.length ≤ c0) (hr2 : Kd.C k41 w A2 l2.length l2) (hc2 : l2.length ≤ c2) (h : ensembleref12_Few.f k l0 a1_0 a1_1 l2 = some r) :
  Calls Try.prog 26 #[.slice A0 l0.length c0, .agg #[.int .i64 a1_0, .int .i64 a1_1], .slice A2 l2.length c2] w fun e w' => e = .returned (.bool r) ∧ Below w.heap.size w w' := by
 have hu24 := Try.underlying24
 have HR0 := m_ hr0
 have HC0 := m_ hc0
 clear hr0 hc0
 have HR2 := m_ hr2
 have HC2 := m_ hc2
 clear hr2 hc2
 have HB := m_ (Below.refl w.heap.size w)
 have H := h
 unfold ensembleref12_Few.f at H
 clear h
 have HC4 := m_ H
 clear H
 go_enter Try.func26, Try.ntmps26
 go_upto_region 1 with (first | ((with_reducible refine a3_ (N := 4) rfl ?_); (try (refine gate_guard (by rfl) ?_; dsimp only)); refine bx 4 #[.int .i64 a1_0, .int .i64 a1_1] 24 ?_; intro gb128 hg w5 hbox hb; have BK128 := m_ (hbox); have GW128 := ge_ hg; have GE128 := ge_ hg; replace HB := hs_ hb; clear hb hbox hg))
 (try simp only [Act.put, List.setIfInBounds_toArray, List.set_cons_zero, List.set_cons_succ])
 go_cut [40] (fun v40 wc => ∃ (kq : Nat) (x40_3 : Bool), v40 = .bool x40_3 ∧ A_ (ensembleref12_Few.j0 kq l2 x40_3 = some r) ∧ A_ (kq ≤ k) ∧ A_ (wc.heap[gb128]? = some (.cells #[.int .i64 a1_0, .int .i64 a1_1] 24 (0, 0))) ∧ A_ (Below w.heap.size w wc))
 case first =>
  have H := HC4.out
  clear HC4
  by_cases c6 : (l0.length : Int) > 70
  ·rw [if_pos c6] at H
   have c6b0 : decide (70 < (l0.length : Int)) = true := decide_eq_true c6
   have c6b1 : decide (70 < l0.length) = true := decide_eq_true (by omega)
   clear c6
   (first | rw [c6b0] | (simp only [i64_w, i32_w]; rw [c6b0]) | skip)
   have H' := m_ H
   clear H
   go_wp2
   go_meet
   case rel => exact ⟨_, (true), Z3, H', ⟨by first | omega | exact Nat.le_refl _⟩, ⟨bo_ BK128⟩, ⟨hb_⟩⟩
  ·rw [if_neg c6] at H
   have c6b0 : decide (70 < (l0.length : Int)) = false := decide_eq_false c6
   have c6b1 : decide (70 < l0.length) = false := decide_eq_false (by omega)
   clear c6
   (first | rw [c6b0] | (simp only [i64_w, i32_w]; rw [c6b0]) | skip)
   replace H := Option.bind_eq_some_iff.mp H
   obtain ⟨t129, A70, H⟩ := H
   try dsimp only at H
   have A7 := m_ A70
   clear A70
   by_cases c8 : t129 = true
   ·subst c8
    have H1 : (if (l2.length : Int) > 20 then (ensembleref12_Few.j0 k l2 true) else (if a1_0 < (-1048576) then (ensembleref12_Few.j0 k l2 true) else (if a1_0 > 1048576 then (ensembleref12_Few.j0 k l2 true) else (if a1_1 < (-1048576) then (ensembleref12_Few.j0 k l2 true) else (ensembleref12_Few.j0 k l2 (decide (a1_1 > 1048576))))))) = some r := by rw [if_pos rfl] at H; exact H
    clear H
    have H := H1
    clear H1
    by_cases c9 : (l2.length : Int) > 20
    ·rw [if_pos c9] at H
     have c9b0 : decide (20 < (l2.length : Int)) = true := decide_eq_true c9
     have c9b1 : decide (20 < l2.length) = true := decide_eq_true (by omega)
     clear c9
     have H' := m_ H
     clear H
     go_wp2_with (first | (go_at_call 67; (with_reducible refine (ensembleref05_Right.calls k _ _ l0 true _ ?side1 ?side2 A7.out).mono ?_); (case side1 => exact cs_ HR0); (case side2 => exact HC0.out); rintro e w10 ⟨rfl, hb⟩; replace BK128 := bk_ BK128 hb; replace HB := hs_ hb; (try clear hb); (try clear hb2); (try clear hk); (try clear hi)))
     go_meet
     case rel => exact ⟨_, (true), Z3, H', ⟨by first | omega | exact Nat.le_refl _⟩, ⟨bo_ BK128⟩, ⟨hb_⟩⟩
    ·rw [if_neg c9] at H
     have c9b0 : decide (20 < (l2.length : Int)) = false := decide_eq_false c9
     have c9b1 : decide (20 < l2.length) = false := decide_eq_false (by omega)
     clear c9
     by_cases c11 : a1_0 < (-1048576)
     ·rw [if_pos c11] at H
      have c11b0 : decide (a1_0 < (-1048576)) = true := decide_eq_true c11
      clear c11
      have H' := m_ H
      clear H
      go_wp2_with (first | (go_at_call 67; (with_reducible refine (ensembleref05_Right.calls k _ _ l0 true _ ?side1 ?side2 A7.out).mono ?_); (case side1 => exact cs_ HR0); (case side2 => exact HC0.out); rintro e w12 ⟨rfl, hb⟩; replace BK128 := bk_ BK128 hb; replace HB := hs_ hb; (try clear hb); (try clear hb2); (try clear hk); (try clear hi); obtain ⟨hcz13_0, hcz13_1, hfz13_0, hfz13_1⟩ := bz2_ BK128))
      go_meet
      case rel => exact ⟨_, (true), Z3, H', ⟨by first | omega | exact Nat.le_refl _⟩, ⟨bo_ BK128⟩, ⟨hb_⟩⟩
     ·rw [if_neg c11] at H
      have c11b0 : decide (a1_0 < (-1048576)) = false := decide_eq_false c11
      clear c11
      by_cases c14 : a1_0 > 1048576
      ·rw [if_pos c14] at H
       have c14b0 : decide (1048576 < a1_0) = true := decide_eq_true c14
       clear c14
       have H' := m_ H
       clear H
       go_wp2_with (first | (go_at_call 67; (with_reducible refine (ensembleref05_Right.calls k _ _ l0 true _ ?side1 ?side2 A7.out).mono ?_); (case side1 => exact cs_ HR0); (case side2 => exact HC0.out); rintro e w15 ⟨rfl, hb⟩; replace BK128 := bk_ BK128 hb; replace HB := hs_ hb; (try clear hb); (try clear hb2); (try clear hk); (try clear hi); obtain ⟨hcz16_0, hcz16_1, hfz16_0, hfz16_1⟩ := bz2_ BK128))
       go_meet
       case rel => exact ⟨_, (true), Z3, H', ⟨by first | omega | exact Nat.le_refl _⟩, ⟨bo_ BK128⟩, ⟨hb_⟩⟩
      ·rw [if_neg c14] at H
       have c14b0 : decide (1048576 < a1_0) = false := decide_eq_false c14
       clear c14
       by_cases c17 : a1_1 < (-1048576)
       ·rw [if_pos c17] at H
        have c17b0 : decide (a1_1 < (-1048576)) = true := decide_eq_true c17
        clear c17
        have H' := m_ H
        clear H
        go_wp2_with (first | (go_at_call 67; (with_reducible refine (ensembleref05_Right.calls k _ _ l0 true _ ?side1 ?side2 A7.out).mono ?_); (case side1 => exact cs_ HR0); (case side2 => exact HC0.out); rintro e w18 ⟨rfl, hb⟩; replace BK128 := bk_ BK128 hb; replace HB := hs_ hb; (try clear hb); (try clear hb2); (try clear hk); (try clear hi); obtain ⟨hcz19_0, hcz19_1, hfz19_0, hfz19_1⟩ := bz2_ BK128))
        go_meet
        case rel => exact ⟨_, (true), Z3, H', ⟨by first | omega | exact Nat.le_refl _⟩, ⟨bo_ BK128⟩, ⟨hb_⟩⟩
       ·rw [if_neg c17] at H
        have c17b0 : decide (a1_1 < (-1048576)) = false := decide_eq_false c17
        clear c17
        have H' := m_ H
        clear H
        go_wp2_with (first | (go_at_call 67; (with_reducible refine (ensembleref05_Right.calls k _ _ l0 true _ ?side1 ?side2 A7.out).mono ?_); (case side1 => exact cs_ HR0); (case side2 => exact HC0.out); rintro e w20 ⟨rfl, hb⟩; replace BK128 := bk_ BK128 hb; replace HB := hs_ hb; (try clear hb); (try clear hb2); (try clear hk); (try clear hi); obtain ⟨hcz21_0, hcz21_1, hfz21_0, hfz21_1⟩ := bz2_ BK128))
        go_meet
        case rel => exact ⟨_, (decide (a1_1 > 1048576)), Z3, H', ⟨by first | omega | exact Nat.le_refl _⟩, ⟨bo_ BK128⟩, ⟨hb_⟩⟩
   ·replace c8 := Bool.eq_false_iff.mpr c8
    subst c8
    have H1 : (ensembleref12_Few.j0 k l2 true) = some r := by rw [if_neg (show ¬ (false = true) by decide)] at H; exact H
    clear H
    have H := H1
    clear H1
    have H' := m_ H
    clear H
    go_wp2_with (first | (go_at_call 67; (with_reducible refine (ensembleref05_Right.calls k _ _ l0 false _ ?side1 ?side2 A7.out).mono ?_); (case side1 => exact cs_ HR0); (case side2 => exact HC0.out); rintro e w22 ⟨rfl, hb⟩; replace BK128 := bk_ BK128 hb; replace HB := hs_ hb; (try clear hb); (try clear hb2); (try clear hk); (try clear hi)))
    go_meet
    case rel => exact ⟨_, (true), Z3, H', ⟨by first | omega | exact Nat.le_refl _⟩, ⟨bo_ BK128⟩, ⟨hb_⟩⟩
 case rest =>
  clear HC4
  try clear c1
  try clear c2
  try clear p2
  try clear c6
  try clear c6b0
  try clear c6b1
  try clear c8
  try clear c9
  try clear c9b0
  try clear c9b1
  try clear c11
  try clear c11b0
  try clear c14
  try clear c14b0
  try clear c17
  try clear c17b0
  try clear hcz13_0 hcz13_1
  try clear hcz16_0 hcz16_1
  try clear hcz19_0 hcz19_1
  try clear hcz21_0 hcz21_1
  try clear hfz13_0 hfz13_1
  try clear hfz16_0 hfz16_1
  try clear hfz19_0 hfz19_1
  try clear hfz21_0 hfz21_1
  obtain ⟨kq, x40_3, rfl, HA, HJ3, BK128, HB⟩ := hcut
  cases kq with
  | zero => exact absurd HA.out (by simp [ensembleref12_Few.j0])
  | succ kj3 =>
   have H := HA.out
   clear HA
   simp only [ensembleref12_Few.j0] at H
   by_cases c23 : x40_3 = true
   ·subst c23
    have H1 : (some false) = some r := by rw [if_pos rfl] at H; exact H
    clear H
    have H := H1
    clear H1
    obtain rfl := Option.some.inj H
    go_wp2
    go_ret
    exact ⟨by first | rfl | (simp [b2_, b1_] <;> rfl) | (simp [*, b2_, b1_] <;> rfl), hb_⟩
   ·replace c23 := Bool.eq_false_iff.mpr c23
    subst c23
    have H1 : (ensembleref12_Few.l0 kj3 l2 0) = some r := by rw [if_neg (show ¬ (false = true) by decide)] at H; exact H
    clear H
    have H := H1
    clear H1
    have H' := m_ H
    clear H
    go_wp2
    go_loopg [7] kj3 (fun kq v7 w' => ∃ (x7_2 : Int), v7 = .int .i64 x7_2 ∧ A_ (ensembleref12_Few.l0 kq l2 x7_2 = some r) ∧ A_ (kq ≤ kj3) ∧ A_ (w'.heap[gb128]? = some (.cells #[.int .i64 a1_0, .int .i64 a1_1] 24 (0, 0))) ∧ A_ (Below w.heap.size w w'))
    case atStart => exact ⟨(0), Z3, H', ⟨Nat.le_refl _⟩, ⟨bo_ BK128⟩, ⟨hb_⟩⟩
    case round =>
     clear H'
     try clear c1
     try clear c2
     try clear p2
     try clear c6
     try clear c6b0
     try clear c6b1
     try clear c8
     try clear c9
     try clear c9b0
     try clear c9b1
     try clear c11
     try clear c11b0
     try clear c14
     try clear c14b0
     try clear c17
     try clear c17b0
     try clear c23
     try clear hcz13_0 hcz13_1
     try clear hcz16_0 hcz16_1
     try clear hcz19_0 hcz19_1
     try clear hcz21_0 hcz21_1
     try clear hfz13_0 hfz13_1
     try clear hfz16_0 hfz16_1
     try clear hfz19_0 hfz19_1
     try clear hfz21_0 hfz21_1
     try clear p2
     obtain ⟨x7_2, rfl, HA, HK2, BK128, HB⟩ := hrel
     cases gk with
     | zero => exact absurd HA.out (by simp [ensembleref12_Few.l0])
     | succ k2 =>
      have H := HA.out
      clear HA
      simp only [ensembleref12_Few.l0] at H
      by_cases c24 : x7_2 < (l2.length : Int)
      ·rw [if_pos c24] at H
       have c24b0 : decide (x7_2 < (l2.length : Int)) = true := decide_eq_true c24
       clear c24
       by_cases c25 : 0 ≤ x7_2
       ·rw [if_pos c25] at H
        have c25b0 : decide (0 ≤ x7_2) = true := decide_eq_true c25
        clear c25
        by_cases c26 : (((a8_ l2 x7_2).f4).length : Int) > 20
        ·rw [if_pos c26] at H
         have c26b0 : decide (20 < (((a8_ l2 x7_2).f4).length : Int)) = true := decide_eq_true c26
         have c26b1 : decide (20 < ((a8_ l2 x7_2).f4).length) = true := decide_eq_true (by omega)
         clear c26
         obtain rfl := Option.some.inj H
         have p130 : 0 ≤ (x7_2 : Int) := of_decide_eq_true Z1
         have q130 : x7_2 < (l2.length : Int) := of_decide_eq_true Z1
         obtain ⟨ad130, A130_4, c130_4, e130, hx130_0, hx130_1, hx130_2, hx130_3, hx130_4, hl130_4, hi130_4⟩ := at_T41 HR2.out x7_2 p130 q130
         cases e130
         replace hx130_0 := cx_ hx130_0
         replace hx130_1 := cx_ hx130_1
         replace hx130_2 := cx_ hx130_2
         replace hx130_3 := cx_ hx130_3
         replace hx130_4 := cx_ hx130_4
         have HR130_4 := m_ hi130_4
         have HC130_4 := m_ hl130_4
         clear hi130_4 hl130_4
         replace p130 := eq_true p130
         replace q130 := eq_true q130
         go_wp2
         go_ret
         exact ⟨by first | rfl | (simp [b2_, b1_] <;> rfl) | (simp [*, b2_, b1_] <;> rfl), hb_⟩
        ·rw [if_neg c26] at H
         have c26b0 : decide (20 < (((a8_ l2 x7_2).f4).length : Int)) = false := decide_eq_false c26
         have c26b1 : decide (20 < ((a8_ l2 x7_2).f4).length) = false := decide_eq_false (by omega)
         clear c26
         have H' := m_ H
         clear H
         have p130 : 0 ≤ (x7_2 : Int) := of_decide_eq_true Z1
         have q130 : x7_2 < (l2.length : Int) := of_decide_eq_true Z1
         obtain ⟨ad130, A130_4, c130_4, e130, hx130_0, hx130_1, hx130_2, hx130_3, hx130_4, hl130_4, hi130_4⟩ := at_T41 HR2.out x7_2 p130 q130
         cases e130
         replace hx130_0 := cx_ hx130_0
         replace hx130_1 := cx_ hx130_1
         replace hx130_2 := cx_ hx130_2
         replace hx130_3 := cx_ hx130_3
         replace hx130_4 := cx_ hx130_4
         have HR130_4 := m_ hi130_4
         have HC130_4 := m_ hl130_4
         clear hi130_4 hl130_4
         replace p130 := eq_true p130
         replace q130 := eq_true q130
         go_wp2
         go_roundg k2
         case measure => have := HJ3.out; have := HK2.out; omega
         case rel => exact ⟨(wrap64 (x7_2 + 1)), Z3, H', ⟨by have := HJ3.out; have := HK2.out; omega⟩, ⟨bo_ BK128⟩, ⟨hb_⟩⟩
       ·rw [if_neg c25] at H
        exact absurd H (by simp)
      ·rw [if_neg c24] at H
       have c24b0 : decide (x7_2 < (l2.length : Int)) = false := decide_eq_false c24
       clear c24
       obtain rfl := Option.some.inj H
       go_wp2
       go_ret
       exact ⟨by first | rfl | (simp [b2_, b1_] <;> rfl) | (simp [*, b2_, b1_] <;> rfl), hb_⟩
end Go.Proofs.Ytckhjehibjdjdaa.P
