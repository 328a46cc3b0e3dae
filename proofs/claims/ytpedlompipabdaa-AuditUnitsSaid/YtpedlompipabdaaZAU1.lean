/- AuditUnits: part 1 of the walk and of the plain law that it comes to. No condition. -/
import Derived.Test.YtpedlompipabdaaZAU0
import Derived.ArgAppend
import Derived.Below
import Derived.BigQuiet
import Derived.BigRegion
import Derived.Carry
import Derived.Deep.AppendLies
import Derived.Deep.CutBlock
import Derived.Deep.DeepCutAuto
import Derived.Deep.Draws
import Derived.Deep.LoopGhost
import Derived.Deep.OwnRows
import Derived.Deep.QuietTactic
import Derived.Deep.RegionHeld3
import Derived.DeepKeys3
import Derived.KernelRfl
import Derived.Laws.BitsLemmas
import Derived.Laws.BytesArg
import Derived.Laws.IdiomCopy
import Derived.Laws.MakeOwn
import Derived.Laws.OwnMore
import Derived.Laws.Rows
import Derived.Laws.Slices
import Derived.Lib.AppendStr
import Derived.Lib.ConvBytes
import Derived.Lib.SliceRun
import Derived.LoopTactic
import Derived.Maps.AppendAt
import Derived.Maps.Keyed
import Derived.Maps.Own
import Derived.Maps.OwnOps
import Derived.Maps.OwnSet
import Derived.Maps.Views
import Derived.OrdersHeld
import Derived.OwnWalk
import Derived.RowKit
import Derived.RowKit3
import Derived.Shelf.Abstract
import Derived.StillTailTactics
import Derived.Tactics
import Derived.WalkKit
import Derived.WideLaws
namespace Go.Proofs.Ytpedlompipabdaa.P
open Go.RowKit Go.Proofs.YtpedlompipabdaaW.PrintWords Go.Proofs.YtpedlompipabdaaW.PrintLast Go.Proofs.YtpedlompipabdaaW.PrintMore
attribute [local go_sem] max2_int min2_int max_two min_two max_three min_three max_four min_four
set_option linter.unusedVariables false
set_option linter.unusedSimpArgs false
def errW : Option Int → Value
 | none => .nilIface
 | some c => .iface 0 (.int .i64 c)
theorem errW_none : errW none = .nilIface := rfl
theorem errW_some (c : Int) : errW (some c) = .iface 0 (.int .i64 c) := rfl
theorem info3 : (Try.prog.info? 3).map (fun i => (i.zero, i.size, i.bytes)) = some (some (.int .i64 0), 1, 8) := by kernel_rfl
theorem info49 : (Try.prog.info? 49).map (fun i => (i.zero, i.size, i.bytes)) = some (some (.agg #[(.int .i64 0), (.int .i64 0)]), 2, 16) := by kernel_rfl
theorem info58 : (Try.prog.info? 58).map (fun i => (i.zero, i.size, i.bytes)) = some (some (.agg #[(.int .i64 0), (.int .i64 0), (.int .u64 0), (.int .i64 0)]), 4, 32) := by kernel_rfl
structure S84 where
 f0 : Int
 f1 : Int
def z84 : S84 := ⟨(0 : Int), (0 : Int)⟩
def k84 : Kd S84 := Kd.iso (Kd.pair (Kd.int .i64) (Kd.int .i64)) (fun x : S84 => (x.f0, x.f1))
theorem k84_open {w : World} {x : S84} {cs : List Value} (h : k84.K w x cs) : cs = [.int .i64 x.f0, .int .i64 x.f1] := by
 obtain ⟨_, _, rfl, rfl, rfl⟩ := h
 exact rfl
theorem k84_mkM (w : World) (base : Nat) (ok : Nat → Prop) (x : S84)  : k84.M w base ok x [.int .i64 x.f0, .int .i64 x.f1] := ⟨[.int .i64 x.f0], [.int .i64 x.f1], rfl, rfl, rfl⟩
def rd_T84 (xs : List S84) (i : Int) : S84 := xs.getD i.toNat z84
theorem at_T84 {w : World} {A : Option Addr} {n : Nat} {xs : List S84} (h : Kd.C k84 w A n xs) (i : Int) (h0 : 0 ≤ i) (h1 : i < n) : ∃ ad , A = some ad ∧ w.cell? (ad.add (i.toNat * 2)) = some (.int .i64 (rd_T84 xs i).f0) ∧ w.cell? ⟨(ad.add (i.toNat * 2)).block, (ad.add (i.toNat * 2)).off + 1, none⟩ = some (.int .i64 (rd_T84 xs i).f1) := by
 obtain ⟨ad, c, e, _, hK, hc0⟩ := Kd.C_get h z84 i h0 h1
 have hc : ∀ j u, c[j]? = some u → w.cell? (ad.add (i.toNat * 2 + j)) = some u := hc0
 obtain rfl := k84_open hK
 exact ⟨ad, e, hc 0 _ rfl, by rw [← add_field _ _ 1 (by omega)]; exact hc 1 _ rfl⟩
structure S83 where
 f0 : (List S84)
def z83 : S83 := ⟨([] : List S84)⟩
def k83 : Kd S83 := Kd.iso (Kd.slice 84 k84) (fun x : S83 => x.f0)
theorem k83_open {w : World} {x : S83} {cs : List Value} (h : k83.K w x cs) : ∃ A0 c0, cs = [.slice A0 x.f0.length c0] ∧ x.f0.length ≤ c0 ∧ k84.C w A0 x.f0.length x.f0 := by
 obtain ⟨A0, c0, rfl, l0, g0⟩ := h
 exact ⟨A0, c0, rfl, l0, g0⟩
theorem k83_mk (w : World) (x : S83) {A0 : Option Addr} {c0 : Nat} (l0 : x.f0.length ≤ c0) (g0 : k84.C w A0 x.f0.length x.f0) : k83.K w x [.slice A0 x.f0.length c0] := ⟨A0, c0, rfl, l0, g0⟩
theorem k83_mkF (W : World) (ok : Nat → Prop) (x : S83) {A0 : Option Addr} {c0 : Nat} (l0 : x.f0.length ≤ c0) (g0 : Kd.F k84 W ok A0 x.f0.length x.f0) : Kd.FK k83 W ok x [.slice A0 x.f0.length c0] := fun W2 hW => k83_mk W2 x l0 (g0 W2 hW)
def rd_T83 (xs : List S83) (i : Int) : S83 := xs.getD i.toNat z83
theorem at_T83 {w : World} {A : Option Addr} {n : Nat} {xs : List S83} (h : Kd.C k83 w A n xs) (i : Int) (h0 : 0 ≤ i) (h1 : i < n) : ∃ ad A0 c0, A = some ad ∧ w.cell? (ad.add i.toNat) = some (.slice A0 (rd_T83 xs i).f0.length c0) ∧ (rd_T83 xs i).f0.length ≤ c0 ∧ k84.C w A0 (rd_T83 xs i).f0.length (rd_T83 xs i).f0 := by
 obtain ⟨ad, c, e, _, hK, hc0⟩ := Kd.C_get h z83 i h0 h1
 have hc : ∀ j u, c[j]? = some u → w.cell? (ad.add (i.toNat * 1 + j)) = some u := hc0
 obtain ⟨A0, c0, rfl, l0, g0⟩ := k83_open hK
 exact ⟨ad, A0, c0, e, by have hq := hc 0 _ rfl; rwa [Nat.mul_one, Nat.add_zero] at hq, l0, g0⟩
structure S49 where
 f0 : Int
 f1 : Int
def z49 : S49 := ⟨(0 : Int), (0 : Int)⟩
def k49 : Kd S49 := Kd.iso (Kd.pair (Kd.int .i64) (Kd.int .i64)) (fun x : S49 => (x.f0, x.f1))
theorem k49_open {w : World} {x : S49} {cs : List Value} (h : k49.K w x cs) : cs = [.int .i64 x.f0, .int .i64 x.f1] := by
 obtain ⟨_, _, rfl, rfl, rfl⟩ := h
 exact rfl
theorem k49_mk (w : World) (x : S49)  : k49.K w x [.int .i64 x.f0, .int .i64 x.f1] := ⟨[.int .i64 x.f0], [.int .i64 x.f1], rfl, rfl, rfl⟩
theorem k49_mkM (w : World) (base : Nat) (ok : Nat → Prop) (x : S49)  : k49.M w base ok x [.int .i64 x.f0, .int .i64 x.f1] := ⟨[.int .i64 x.f0], [.int .i64 x.f1], rfl, rfl, rfl⟩
def rd_T49 (xs : List S49) (i : Int) : S49 := xs.getD i.toNat z49
theorem at_T49 {w : World} {A : Option Addr} {n : Nat} {xs : List S49} (h : Kd.C k49 w A n xs) (i : Int) (h0 : 0 ≤ i) (h1 : i < n) : ∃ ad , A = some ad ∧ w.cell? (ad.add (i.toNat * 2)) = some (.int .i64 (rd_T49 xs i).f0) ∧ w.cell? ⟨(ad.add (i.toNat * 2)).block, (ad.add (i.toNat * 2)).off + 1, none⟩ = some (.int .i64 (rd_T49 xs i).f1) := by
 obtain ⟨ad, c, e, _, hK, hc0⟩ := Kd.C_get h z49 i h0 h1
 have hc : ∀ j u, c[j]? = some u → w.cell? (ad.add (i.toNat * 2 + j)) = some u := hc0
 obtain rfl := k49_open hK
 exact ⟨ad, e, hc 0 _ rfl, by rw [← add_field _ _ 1 (by omega)]; exact hc 1 _ rfl⟩
structure S51 where
 f0 : S49
 f1 : Int
def z51 : S51 := ⟨z49, (0 : Int)⟩
def k51 : Kd S51 := Kd.iso (Kd.pair k49 (Kd.int .i64)) (fun x : S51 => (x.f0, x.f1))
theorem k51_open {w : World} {x : S51} {cs : List Value} (h : k51.K w x cs) : cs = [.int .i64 x.f0.f0, .int .i64 x.f0.f1, .int .i64 x.f1] := by
 obtain ⟨_, _, rfl, s0, rfl⟩ := h
 obtain rfl := k49_open s0
 exact rfl
theorem k51_mkM (w : World) (base : Nat) (ok : Nat → Prop) (x : S51)  : k51.M w base ok x [.int .i64 x.f0.f0, .int .i64 x.f0.f1, .int .i64 x.f1] := ⟨[.int .i64 x.f0.f0, .int .i64 x.f0.f1], [.int .i64 x.f1], rfl, (k49_mkM w base ok x.f0 ), rfl⟩
def rd_T51 (xs : List S51) (i : Int) : S51 := xs.getD i.toNat z51
theorem at_T51 {w : World} {A : Option Addr} {n : Nat} {xs : List S51} (h : Kd.C k51 w A n xs) (i : Int) (h0 : 0 ≤ i) (h1 : i < n) : ∃ ad , A = some ad ∧ w.cell? (ad.add (i.toNat * 3)) = some (.int .i64 (rd_T51 xs i).f0.f0) ∧ w.cell? ⟨(ad.add (i.toNat * 3)).block, (ad.add (i.toNat * 3)).off + 1, none⟩ = some (.int .i64 (rd_T51 xs i).f0.f1) ∧ w.cell? ⟨(ad.add (i.toNat * 3)).block, (ad.add (i.toNat * 3)).off + 2, none⟩ = some (.int .i64 (rd_T51 xs i).f1) := by
 obtain ⟨ad, c, e, _, hK, hc0⟩ := Kd.C_get h z51 i h0 h1
 have hc : ∀ j u, c[j]? = some u → w.cell? (ad.add (i.toNat * 3 + j)) = some u := hc0
 obtain rfl := k51_open hK
 exact ⟨ad, e, hc 0 _ rfl, by rw [← add_field _ _ 1 (by omega)]; exact hc 1 _ rfl, by rw [← add_field _ _ 2 (by omega)]; exact hc 2 _ rfl⟩
structure S56 where
 f0 : Int
 f1 : Int
def z56 : S56 := ⟨(0 : Int), (0 : Int)⟩
def k56 : Kd S56 := Kd.iso (Kd.pair (Kd.int .i64) (Kd.int .i64)) (fun x : S56 => (x.f0, x.f1))
theorem k56_open {w : World} {x : S56} {cs : List Value} (h : k56.K w x cs) : cs = [.int .i64 x.f0, .int .i64 x.f1] := by
 obtain ⟨_, _, rfl, rfl, rfl⟩ := h
 exact rfl
theorem k56_mk (w : World) (x : S56)  : k56.K w x [.int .i64 x.f0, .int .i64 x.f1] := ⟨[.int .i64 x.f0], [.int .i64 x.f1], rfl, rfl, rfl⟩
theorem k56_mkM (w : World) (base : Nat) (ok : Nat → Prop) (x : S56)  : k56.M w base ok x [.int .i64 x.f0, .int .i64 x.f1] := ⟨[.int .i64 x.f0], [.int .i64 x.f1], rfl, rfl, rfl⟩
structure S58 where
 f0 : S56
 f1 : Int
 f2 : Int
def z58 : S58 := ⟨z56, (0 : Int), (0 : Int)⟩
def k58 : Kd S58 := Kd.iso (Kd.pair k56 (Kd.pair (Kd.int .u64) (Kd.int .i64))) (fun x : S58 => (x.f0, x.f1, x.f2))
theorem k58_open {w : World} {x : S58} {cs : List Value} (h : k58.K w x cs) : cs = [.int .i64 x.f0.f0, .int .i64 x.f0.f1, .int .u64 x.f1, .int .i64 x.f2] := by
 obtain ⟨_, _, rfl, s0, ⟨_, _, rfl, rfl, rfl⟩⟩ := h
 obtain rfl := k56_open s0
 exact rfl
theorem k58_mk (w : World) (x : S58)  : k58.K w x [.int .i64 x.f0.f0, .int .i64 x.f0.f1, .int .u64 x.f1, .int .i64 x.f2] := ⟨[.int .i64 x.f0.f0, .int .i64 x.f0.f1], [.int .u64 x.f1, .int .i64 x.f2], rfl, (k56_mk w x.f0 ), ⟨[.int .u64 x.f1], [.int .i64 x.f2], rfl, rfl, rfl⟩⟩
theorem k58_mkM (w : World) (base : Nat) (ok : Nat → Prop) (x : S58)  : k58.M w base ok x [.int .i64 x.f0.f0, .int .i64 x.f0.f1, .int .u64 x.f1, .int .i64 x.f2] := ⟨[.int .i64 x.f0.f0, .int .i64 x.f0.f1], [.int .u64 x.f1, .int .i64 x.f2], rfl, (k56_mkM w base ok x.f0 ), ⟨[.int .u64 x.f1], [.int .i64 x.f2], rfl, rfl, rfl⟩⟩
def rd_T58 (xs : List S58) (i : Int) : S58 := xs.getD i.toNat z58
theorem at_T58 {w : World} {A : Option Addr} {n : Nat} {xs : List S58} (h : Kd.C k58 w A n xs) (i : Int) (h0 : 0 ≤ i) (h1 : i < n) : ∃ ad , A = some ad ∧ w.cell? (ad.add (i.toNat * 4)) = some (.int .i64 (rd_T58 xs i).f0.f0) ∧ w.cell? ⟨(ad.add (i.toNat * 4)).block, (ad.add (i.toNat * 4)).off + 1, none⟩ = some (.int .i64 (rd_T58 xs i).f0.f1) ∧ w.cell? ⟨(ad.add (i.toNat * 4)).block, (ad.add (i.toNat * 4)).off + 2, none⟩ = some (.int .u64 (rd_T58 xs i).f1) ∧ w.cell? ⟨(ad.add (i.toNat * 4)).block, (ad.add (i.toNat * 4)).off + 3, none⟩ = some (.int .i64 (rd_T58 xs i).f2) := by
 obtain ⟨ad, c, e, _, hK, hc0⟩ := Kd.C_get h z58 i h0 h1
 have hc : ∀ j u, c[j]? = some u → w.cell? (ad.add (i.toNat * 4 + j)) = some u := hc0
 obtain rfl := k58_open hK
 exact ⟨ad, e, hc 0 _ rfl, by rw [← add_field _ _ 1 (by omega)]; exact hc 1 _ rfl, by rw [← add_field _ _ 2 (by omega)]; exact hc 2 _ rfl, by rw [← add_field _ _ 3 (by omega)]; exact hc 3 _ rfl⟩
structure S63 where
 f0 : S56
 f1 : Int
 f2 : Int
def z63 : S63 := ⟨z56, (0 : Int), (0 : Int)⟩
def k63 : Kd S63 := Kd.iso (Kd.pair k56 (Kd.pair (Kd.int .u64) (Kd.int .i64))) (fun x : S63 => (x.f0, x.f1, x.f2))
theorem k63_open {w : World} {x : S63} {cs : List Value} (h : k63.K w x cs) : cs = [.int .i64 x.f0.f0, .int .i64 x.f0.f1, .int .u64 x.f1, .int .i64 x.f2] := by
 obtain ⟨_, _, rfl, s0, ⟨_, _, rfl, rfl, rfl⟩⟩ := h
 obtain rfl := k56_open s0
 exact rfl
def rd_T63 (xs : List S63) (i : Int) : S63 := xs.getD i.toNat z63
theorem at_T63 {w : World} {A : Option Addr} {n : Nat} {xs : List S63} (h : Kd.C k63 w A n xs) (i : Int) (h0 : 0 ≤ i) (h1 : i < n) : ∃ ad , A = some ad ∧ w.cell? (ad.add (i.toNat * 4)) = some (.int .i64 (rd_T63 xs i).f0.f0) ∧ w.cell? ⟨(ad.add (i.toNat * 4)).block, (ad.add (i.toNat * 4)).off + 1, none⟩ = some (.int .i64 (rd_T63 xs i).f0.f1) ∧ w.cell? ⟨(ad.add (i.toNat * 4)).block, (ad.add (i.toNat * 4)).off + 2, none⟩ = some (.int .u64 (rd_T63 xs i).f1) ∧ w.cell? ⟨(ad.add (i.toNat * 4)).block, (ad.add (i.toNat * 4)).off + 3, none⟩ = some (.int .i64 (rd_T63 xs i).f2) := by
 obtain ⟨ad, c, e, _, hK, hc0⟩ := Kd.C_get h z63 i h0 h1
 have hc : ∀ j u, c[j]? = some u → w.cell? (ad.add (i.toNat * 4 + j)) = some u := hc0
 obtain rfl := k63_open hK
 exact ⟨ad, e, hc 0 _ rfl, by rw [← add_field _ _ 1 (by omega)]; exact hc 1 _ rfl, by rw [← add_field _ _ 2 (by omega)]; exact hc 2 _ rfl, by rw [← add_field _ _ 3 (by omega)]; exact hc 3 _ rfl⟩
structure S62 where
 f0 : Int
 f1 : Int
 f2 : Int
 f3 : Bool
 f4 : (List S63)
def z62 : S62 := ⟨(0 : Int), (0 : Int), (0 : Int), false, ([] : List S63)⟩
def k62 : Kd S62 := Kd.iso (Kd.pair (Kd.int .i64) (Kd.pair (Kd.int .i64) (Kd.pair (Kd.int .i64) (Kd.pair Kd.bool (Kd.slice 63 k63))))) (fun x : S62 => (x.f0, x.f1, x.f2, x.f3, x.f4))
theorem k62_open {w : World} {x : S62} {cs : List Value} (h : k62.K w x cs) : ∃ A4 c4, cs = [.int .i64 x.f0, .int .i64 x.f1, .int .i64 x.f2, .bool x.f3, .slice A4 x.f4.length c4] ∧ x.f4.length ≤ c4 ∧ k63.C w A4 x.f4.length x.f4 := by
 obtain ⟨_, _, rfl, rfl, ⟨_, _, rfl, rfl, ⟨_, _, rfl, rfl, ⟨_, _, rfl, rfl, ⟨A4, c4, rfl, l4, g4⟩⟩⟩⟩⟩ := h
 exact ⟨A4, c4, rfl, l4, g4⟩
theorem k62_mk (w : World) (x : S62) {A4 : Option Addr} {c4 : Nat} (l4 : x.f4.length ≤ c4) (g4 : k63.C w A4 x.f4.length x.f4) : k62.K w x [.int .i64 x.f0, .int .i64 x.f1, .int .i64 x.f2, .bool x.f3, .slice A4 x.f4.length c4] := ⟨[.int .i64 x.f0], [.int .i64 x.f1, .int .i64 x.f2, .bool x.f3, .slice A4 x.f4.length c4], rfl, rfl, ⟨[.int .i64 x.f1], [.int .i64 x.f2, .bool x.f3, .slice A4 x.f4.length c4], rfl, rfl, ⟨[.int .i64 x.f2], [.bool x.f3, .slice A4 x.f4.length c4], rfl, rfl, ⟨[.bool x.f3], [.slice A4 x.f4.length c4], rfl, rfl, ⟨A4, c4, rfl, l4, g4⟩⟩⟩⟩⟩
def rd_T62 (xs : List S62) (i : Int) : S62 := xs.getD i.toNat z62
theorem at_T62 {w : World} {A : Option Addr} {n : Nat} {xs : List S62} (h : Kd.C k62 w A n xs) (i : Int) (h0 : 0 ≤ i) (h1 : i < n) : ∃ ad A4 c4, A = some ad ∧ w.cell? (ad.add (i.toNat * 5)) = some (.int .i64 (rd_T62 xs i).f0) ∧ w.cell? ⟨(ad.add (i.toNat * 5)).block, (ad.add (i.toNat * 5)).off + 1, none⟩ = some (.int .i64 (rd_T62 xs i).f1) ∧ w.cell? ⟨(ad.add (i.toNat * 5)).block, (ad.add (i.toNat * 5)).off + 2, none⟩ = some (.int .i64 (rd_T62 xs i).f2) ∧ w.cell? ⟨(ad.add (i.toNat * 5)).block, (ad.add (i.toNat * 5)).off + 3, none⟩ = some (.bool (rd_T62 xs i).f3) ∧ w.cell? ⟨(ad.add (i.toNat * 5)).block, (ad.add (i.toNat * 5)).off + 4, none⟩ = some (.slice A4 (rd_T62 xs i).f4.length c4) ∧ (rd_T62 xs i).f4.length ≤ c4 ∧ k63.C w A4 (rd_T62 xs i).f4.length (rd_T62 xs i).f4 := by
 obtain ⟨ad, c, e, _, hK, hc0⟩ := Kd.C_get h z62 i h0 h1
 have hc : ∀ j u, c[j]? = some u → w.cell? (ad.add (i.toNat * 5 + j)) = some u := hc0
 obtain ⟨A4, c4, rfl, l4, g4⟩ := k62_open hK
 exact ⟨ad, A4, c4, e, hc 0 _ rfl, by rw [← add_field _ _ 1 (by omega)]; exact hc 1 _ rfl, by rw [← add_field _ _ 2 (by omega)]; exact hc 2 _ rfl, by rw [← add_field _ _ 3 (by omega)]; exact hc 3 _ rfl, by rw [← add_field _ _ 4 (by omega)]; exact hc 4 _ rfl, l4, g4⟩
structure S43 where
 f0 : Int
 f1 : Int
 f2 : Int
 f3 : Int
def z43 : S43 := ⟨(0 : Int), (0 : Int), (0 : Int), (0 : Int)⟩
def k43 : Kd S43 := Kd.iso (Kd.pair (Kd.int .i64) (Kd.pair (Kd.int .i64) (Kd.pair (Kd.int .i64) (Kd.int .i64)))) (fun x : S43 => (x.f0, x.f1, x.f2, x.f3))
theorem k43_open {w : World} {x : S43} {cs : List Value} (h : k43.K w x cs) : cs = [.int .i64 x.f0, .int .i64 x.f1, .int .i64 x.f2, .int .i64 x.f3] := by
 obtain ⟨_, _, rfl, rfl, ⟨_, _, rfl, rfl, ⟨_, _, rfl, rfl, rfl⟩⟩⟩ := h
 exact rfl
structure S45 where
 f0 : Int
 f1 : Int
 f2 : Int
 f3 : Int
 f4 : S43
def z45 : S45 := ⟨(0 : Int), (0 : Int), (0 : Int), (0 : Int), z43⟩
def k45 : Kd S45 := Kd.iso (Kd.pair (Kd.int .i64) (Kd.pair (Kd.int .i64) (Kd.pair (Kd.int .i64) (Kd.pair (Kd.int .i64) k43)))) (fun x : S45 => (x.f0, x.f1, x.f2, x.f3, x.f4))
theorem k45_open {w : World} {x : S45} {cs : List Value} (h : k45.K w x cs) : cs = [.int .i64 x.f0, .int .i64 x.f1, .int .i64 x.f2, .int .i64 x.f3, .int .i64 x.f4.f0, .int .i64 x.f4.f1, .int .i64 x.f4.f2, .int .i64 x.f4.f3] := by
 obtain ⟨_, _, rfl, rfl, ⟨_, _, rfl, rfl, ⟨_, _, rfl, rfl, ⟨_, _, rfl, rfl, s4⟩⟩⟩⟩ := h
 obtain rfl := k43_open s4
 exact rfl
structure S47 where
 f0 : S45
 f1 : Int
 f2 : Int
 f3 : Int
 f4 : Int
 f5 : Int
 f6 : Int
 f7 : Int
 f8 : Int
def z47 : S47 := ⟨z45, (0 : Int), (0 : Int), (0 : Int), (0 : Int), (0 : Int), (0 : Int), (0 : Int), (0 : Int)⟩
def k47 : Kd S47 := Kd.iso (Kd.pair k45 (Kd.pair (Kd.int .i64) (Kd.pair (Kd.int .i64) (Kd.pair (Kd.int .i64) (Kd.pair (Kd.int .i64) (Kd.pair (Kd.int .i64) (Kd.pair (Kd.int .i64) (Kd.pair (Kd.int .i64) (Kd.int .i64))))))))) (fun x : S47 => (x.f0, x.f1, x.f2, x.f3, x.f4, x.f5, x.f6, x.f7, x.f8))
theorem k47_open {w : World} {x : S47} {cs : List Value} (h : k47.K w x cs) : cs = [.int .i64 x.f0.f0, .int .i64 x.f0.f1, .int .i64 x.f0.f2, .int .i64 x.f0.f3, .int .i64 x.f0.f4.f0, .int .i64 x.f0.f4.f1, .int .i64 x.f0.f4.f2, .int .i64 x.f0.f4.f3, .int .i64 x.f1, .int .i64 x.f2, .int .i64 x.f3, .int .i64 x.f4, .int .i64 x.f5, .int .i64 x.f6, .int .i64 x.f7, .int .i64 x.f8] := by
 obtain ⟨_, _, rfl, s0, ⟨_, _, rfl, rfl, ⟨_, _, rfl, rfl, ⟨_, _, rfl, rfl, ⟨_, _, rfl, rfl, ⟨_, _, rfl, rfl, ⟨_, _, rfl, rfl, ⟨_, _, rfl, rfl, rfl⟩⟩⟩⟩⟩⟩⟩⟩ := h
 obtain rfl := k45_open s0
 exact rfl
def rd_T47 (xs : List S47) (i : Int) : S47 := xs.getD i.toNat z47
theorem at_T47 {w : World} {A : Option Addr} {n : Nat} {xs : List S47} (h : Kd.C k47 w A n xs) (i : Int) (h0 : 0 ≤ i) (h1 : i < n) : ∃ ad , A = some ad ∧ w.cell? (ad.add (i.toNat * 16)) = some (.int .i64 (rd_T47 xs i).f0.f0) ∧ w.cell? ⟨(ad.add (i.toNat * 16)).block, (ad.add (i.toNat * 16)).off + 1, none⟩ = some (.int .i64 (rd_T47 xs i).f0.f1) ∧ w.cell? ⟨(ad.add (i.toNat * 16)).block, (ad.add (i.toNat * 16)).off + 2, none⟩ = some (.int .i64 (rd_T47 xs i).f0.f2) ∧ w.cell? ⟨(ad.add (i.toNat * 16)).block, (ad.add (i.toNat * 16)).off + 3, none⟩ = some (.int .i64 (rd_T47 xs i).f0.f3) ∧ w.cell? ⟨(ad.add (i.toNat * 16)).block, (ad.add (i.toNat * 16)).off + 4, none⟩ = some (.int .i64 (rd_T47 xs i).f0.f4.f0) ∧ w.cell? ⟨(ad.add (i.toNat * 16)).block, (ad.add (i.toNat * 16)).off + 5, none⟩ = some (.int .i64 (rd_T47 xs i).f0.f4.f1) ∧ w.cell? ⟨(ad.add (i.toNat * 16)).block, (ad.add (i.toNat * 16)).off + 6, none⟩ = some (.int .i64 (rd_T47 xs i).f0.f4.f2) ∧ w.cell? ⟨(ad.add (i.toNat * 16)).block, (ad.add (i.toNat * 16)).off + 7, none⟩ = some (.int .i64 (rd_T47 xs i).f0.f4.f3) ∧ w.cell? ⟨(ad.add (i.toNat * 16)).block, (ad.add (i.toNat * 16)).off + 8, none⟩ = some (.int .i64 (rd_T47 xs i).f1) ∧ w.cell? ⟨(ad.add (i.toNat * 16)).block, (ad.add (i.toNat * 16)).off + 9, none⟩ = some (.int .i64 (rd_T47 xs i).f2) ∧ w.cell? ⟨(ad.add (i.toNat * 16)).block, (ad.add (i.toNat * 16)).off + 10, none⟩ = some (.int .i64 (rd_T47 xs i).f3) ∧ w.cell? ⟨(ad.add (i.toNat * 16)).block, (ad.add (i.toNat * 16)).off + 11, none⟩ = some (.int .i64 (rd_T47 xs i).f4) ∧ w.cell? ⟨(ad.add (i.toNat * 16)).block, (ad.add (i.toNat * 16)).off + 12, none⟩ = some (.int .i64 (rd_T47 xs i).f5) ∧ w.cell? ⟨(ad.add (i.toNat * 16)).block, (ad.add (i.toNat * 16)).off + 13, none⟩ = some (.int .i64 (rd_T47 xs i).f6) ∧ w.cell? ⟨(ad.add (i.toNat * 16)).block, (ad.add (i.toNat * 16)).off + 14, none⟩ = some (.int .i64 (rd_T47 xs i).f7) ∧ w.cell? ⟨(ad.add (i.toNat * 16)).block, (ad.add (i.toNat * 16)).off + 15, none⟩ = some (.int .i64 (rd_T47 xs i).f8) := by
 obtain ⟨ad, c, e, _, hK, hc0⟩ := Kd.C_get h z47 i h0 h1
 have hc : ∀ j u, c[j]? = some u → w.cell? (ad.add (i.toNat * 16 + j)) = some u := hc0
 obtain rfl := k47_open hK
 exact ⟨ad, e, hc 0 _ rfl, by rw [← add_field _ _ 1 (by omega)]; exact hc 1 _ rfl, by rw [← add_field _ _ 2 (by omega)]; exact hc 2 _ rfl, by rw [← add_field _ _ 3 (by omega)]; exact hc 3 _ rfl, by rw [← add_field _ _ 4 (by omega)]; exact hc 4 _ rfl, by rw [← add_field _ _ 5 (by omega)]; exact hc 5 _ rfl, by rw [← add_field _ _ 6 (by omega)]; exact hc 6 _ rfl, by rw [← add_field _ _ 7 (by omega)]; exact hc 7 _ rfl, by rw [← add_field _ _ 8 (by omega)]; exact hc 8 _ rfl, by rw [← add_field _ _ 9 (by omega)]; exact hc 9 _ rfl, by rw [← add_field _ _ 10 (by omega)]; exact hc 10 _ rfl, by rw [← add_field _ _ 11 (by omega)]; exact hc 11 _ rfl, by rw [← add_field _ _ 12 (by omega)]; exact hc 12 _ rfl, by rw [← add_field _ _ 13 (by omega)]; exact hc 13 _ rfl, by rw [← add_field _ _ 14 (by omega)]; exact hc 14 _ rfl, by rw [← add_field _ _ 15 (by omega)]; exact hc 15 _ rfl⟩
end Go.Proofs.Ytpedlompipabdaa.P
namespace Go.Proofs.Ytpedlompipabdaa.P
open Go.RowKit Go.Proofs.YtpedlompipabdaaW.PrintWords Go.Proofs.YtpedlompipabdaaW.PrintLast Go.Proofs.YtpedlompipabdaaW.PrintMore
set_option linter.unusedVariables false
class Bx (W : World) (g : Nat) (cs : outParam (Array Value)) (t : outParam TypeId) : Prop where
 out : W.heap[g]? = some (.cells cs t (0, 0))
class Bl (W : outParam World) (W' : World) : Prop where
 out : Below W.heap.size W W'
class Be (w : outParam World) (W : World) : Prop where
 out : Below w.heap.size w W
class Fr (W : outParam World) (g : Nat) : Prop where
 out : g = W.heap.size
class Nq (a b : Nat) : Prop where
 out : a ≠ b
class Ge (w : outParam World) (g : Nat) : Prop where
 out : w.heap.size ≤ g
section
variable {w W W' : World} {g g' i n : Nat} {cs : Array Value} {t : TypeId} {o : Obj} {v : Value}
instance bxDrew [h : Bx W g cs t] : Bx W.drew g cs t := ⟨blk_drew h.out⟩
instance bxDrewN [h : Bx W g cs t] : Bx (W.drewN n) g cs t := ⟨blk_drewN h.out n⟩
instance bxAlloc [h : Bx W g cs t] : Bx (W.alloc o) g cs t := ⟨blk_alloc h.out o⟩
instance bxNew : Bx (W.alloc (.cells cs t)) W.heap.size cs t := ⟨blk_new W _⟩
instance bxSetS [h : Bx W g cs t] : Bx (W.setCell ⟨g, i, none⟩ v) g (cs.setIfInBounds i v) t := ⟨blk_set h.out i v⟩
instance bxSetF [e : Nq g g'] [h : Bx W g cs t] : Bx (W.setCell ⟨g', i, none⟩ v) g cs t := ⟨blk_far h.out (p := ⟨g', i, none⟩) e.out v⟩
instance bxBl [b : Bl W W'] [h : Bx W g cs t] : Bx W' g cs t := ⟨blk_below h.out b.out⟩
instance nq1 [f : Fr W g'] [h : Bx W g cs t] : Nq g g' := ⟨by rw [f.out]; exact Nat.ne_of_lt (blk_lt h.out)⟩
instance nq2 [f : Fr W g'] [h : Bx W g cs t] : Nq g' g := ⟨by rw [f.out]; exact Nat.ne_of_gt (blk_lt h.out)⟩
instance ge1 [f : Fr W g] [b : Be w W] : Ge w g := ⟨by rw [f.out]; exact b.out.size⟩
instance beDrew [b : Be w W] : Be w W.drew := ⟨below_drew1 b.out⟩
instance beDrewN [b : Be w W] : Be w (W.drewN n) := ⟨pw_below_drewN b.out n⟩
instance beAlloc [b : Be w W] : Be w (W.alloc o) := ⟨below_alloc b.out o⟩
instance beSet [e : Ge w g] [b : Be w W] : Be w (W.setCell ⟨g, i, none⟩ v) := ⟨below_set b.out e.out⟩
instance beBl [c : Bl W W'] [b : Be w W] : Be w W' := ⟨below_step b.out c.out⟩
class Rw {α : Type} (k : Kd α) (W : World) (A : Option Addr) (c : outParam Nat) (l : List α) : Prop where
 out : Kd.C k W A l.length l
 le : l.length ≤ c
instance rwBe {α : Type} {k : Kd α} {A : Option Addr} {c : Nat} {l : List α} [b : Be w W] [r : Rw k w A c l] : Rw k W A c l := ⟨Kd.C_below r.out b.out, r.le⟩
instance rwBl {α : Type} {k : Kd α} {A : Option Addr} {c : Nat} {l : List α} [b : Bl W W'] [r : Rw k W A c l] : Rw k W' A c l := ⟨Kd.C_below r.out b.out, r.le⟩
instance rwAlloc {α : Type} {k : Kd α} {A : Option Addr} {c : Nat} {l : List α} [r : Rw k W A c l] : Rw k (W.alloc o) A c l := ⟨Kd.C_alloc r.out o, r.le⟩
instance rwDrew {α : Type} {k : Kd α} {A : Option Addr} {c : Nat} {l : List α} [r : Rw k W A c l] : Rw k W.drew A c l := ⟨Kd.C_drew r.out, r.le⟩
instance rwDrewN {α : Type} {k : Kd α} {A : Option Addr} {c : Nat} {l : List α} [r : Rw k W A c l] : Rw k (W.drewN n) A c l := ⟨Kd.C_drewN r.out n, r.le⟩
class Ro {α : Type} (k : Kd α) (e : TypeId) (base : Nat) (W : World) (v : Value) (xs : List α) : Prop where
 out : Kd.R k e W base (fun _ => True) v xs
instance roBl {α : Type} {k : Kd α} {e base : Nat} {xs : List α} [b : Bl W W'] [r : Ro k e base W v xs] : Ro k e base W' v xs := ⟨Kd.R_below r.out b.out⟩
instance roDrew {α : Type} {k : Kd α} {e base : Nat} {xs : List α} [r : Ro k e base W v xs] : Ro k e base W.drew v xs := ⟨Kd.R_drew r.out⟩
theorem cellBx [h : Bx W g cs t] (i : Nat) : W.cell? ⟨g, i, none⟩ = cs[i]? := blk_cell h.out i
theorem frozBx [h : Bx W g cs t] (i : Nat) : W.frozen? ⟨g, i, none⟩ = false := blk_frozen h.out i
end
theorem nameA (W : World) (cs : Array Value) (t : TypeId) : ∃ g w1, Fr W g ∧ Bx w1 g cs t ∧ Bl W w1 ∧ W.heap.size = g ∧ W.alloc (.cells cs t) = w1 := ⟨_, _, ⟨rfl⟩, ⟨blk_new W _⟩, ⟨below_alloc (Below.refl _ _) _⟩, rfl, rfl⟩
theorem roFar {α : Type} {d : Kd α} {e base : Nat} {W : World} {v u : Value} {xs : List α} {ok : Nat → Prop} {g j t : Nat} {cs : Array Value} (h : Kd.R d e W base ok v xs) [b : Bx W g cs t] (ht : ∀ q, q ∈ e :: d.E → q ≠ t) : Kd.R d e (W.setCell ⟨g, j, none⟩ u) base ok v xs :=
 Kd.R_mono (Kd.R_far (Kd.R_types h b.out ht) (p := ⟨g, j, none⟩) (fun k hk => hk.2) u) (fun k hk => hk.1)
section
variable {P : Program} {ops : Array Oper} {rest : List Oper} {o : Oper} {a : Act} {Q : Exit → Act → World → Prop}
theorem bxT {W : World} (N : Tmp) (cs : Array Value) (t : TypeId)
  (h : ∀ g w1, Fr W g → Bx w1 g cs t → Bl W w1 → wpList P ops Q rest (a.put o.dst (.pointer (some ⟨g, 0, none⟩))) w1)
  (hg : o.guard = none := by exact rfl) (hd : o.dst = some N := by exact rfl)
  (hr : (execOp a.eval o).run P W = .ok (.value (.pointer (some ⟨W.heap.size, 0, none⟩))) (W.alloc (.cells cs t (0, 0))) := by first | (go_simp; done) | (go_simp; rfl)) : wpList P ops Q (o :: rest) a W :=
 box_event hg hd hr fun g hg w1 hb hw => h g w1 ⟨hg⟩ ⟨hb⟩ ⟨hw⟩
end
end Go.Proofs.Ytpedlompipabdaa.P
namespace Go.Proofs.Ytpedlompipabdaa.P
open Go.RowKit Go.Proofs.YtpedlompipabdaaW.PrintWords Go.Proofs.YtpedlompipabdaaW.PrintLast Go.Proofs.YtpedlompipabdaaW.PrintMore
set_option linter.unusedVariables false
def Sh {α : Type} (k : Kd α) (e : TypeId) (w W : World) (base : Nat) (v : Value) (l : List α) : Prop :=
 ∃ rows : List (List Value), rows.length = l.length ∧ (Kd.raw k.sz).R e W base (fun _ => True) v rows ∧ ∀ (j : Nat) (y : α) (c : List Value), l[j]? = some y → rows[j]? = some c → k.K w y c
section
variable {α : Type} {k : Kd α} {e base : Nat} {w W W' : World} {v : Value} {l : List α}
theorem Sh.nil : Sh k e w W base (.slice none 0 0) [] := ⟨[], rfl, Kd.R_nil _ _ _ _ _, fun j y c h => by simp at h⟩
theorem rowBx {g t : Nat} {cs : Array Value} {x : α} [b : Bx W g cs t] (hk : k.K w x cs.toList) : ReadsRow (k.K w) k.sz W (some ⟨g, 0, none⟩) [x].length [x] :=
 ⟨rfl, by simp, fun _ => ⟨_, rfl, fun j p hj => by
  cases j with
  | succ j => simp at hj
  | zero =>
   obtain rfl : x = p := by simpa using hj
   refine ⟨cs.toList, k.K_len hk, hk, fun i u hu => ?_⟩
   rw [Nat.zero_mul, Nat.zero_add, add_plain, cellBx]
   simpa using hu⟩⟩
theorem Sh.step (h : Sh k e w W base v l) (hb : Below W.heap.size W W') : Sh k e w W' base v l :=
 let ⟨r, a, b, c⟩ := h; ⟨r, a, Kd.R_below b hb, c⟩
theorem Sh.far {g j t : Nat} {cs : Array Value} {u : Value} (h : Sh k e w W base v l) [b : Bx W g cs t] (ht : e ≠ t) : Sh k e w (W.setCell ⟨g, j, none⟩ u) base v l :=
 let ⟨r, a, c, d⟩ := h; ⟨r, a, roFar (g := g) (j := j) (u := u) c (fun q hq => (List.mem_cons.1 hq).elim (fun h => h ▸ ht) (fun h => absurd h (by simp [Kd.raw]))), d⟩
theorem Sh.drew (h : Sh k e w W base v l) : Sh k e w W.drew base v l := let ⟨r, a, b, c⟩ := h; ⟨r, a, Kd.R_drew b, c⟩
theorem Sh.read (h : Sh k e w W base v l) (hw : Below w.heap.size w W) : ∃ A c, v = .slice A l.length c ∧ Rw k W A c l := by
 obtain ⟨rows, hl, hR, hk⟩ := h
 obtain ⟨A, c, rfl, hc, hC⟩ := Kd.R_reads hR
 refine ⟨A, c, by rw [hl], ⟨?_, by omega⟩⟩
 refine ⟨rfl, by have := hC.2.1; omega, fun hn => ?_⟩
 obtain ⟨ad, ea, hh⟩ := hC.2.2 (by omega)
 refine ⟨ad, ea, fun j p hj => ?_⟩
 have hjl := (List.getElem?_eq_some_iff.1 hj).1
 have hr : rows[j]? = some (rows[j]'(by omega)) := List.getElem?_eq_getElem (by omega)
 obtain ⟨c', h1, h2, h3⟩ := hh j _ hr
 obtain ⟨rfl, _, _⟩ := h2
 exact ⟨_, h1, k.K_below hw (hk j p _ hj hr), h3⟩
theorem Sh.elem {g n cap i : Nat} {y : α} (h : Sh k e w W base (.slice (some ⟨g, 0, none⟩) n cap) l) (hy : l[i]? = some y) :
  ∃ c, k.K w y c ∧ (∀ (j : Nat) (u : Value), c[j]? = some u → W.cell? ⟨g, i * k.sz + j, none⟩ = some u) ∧ (∀ j, W.frozen? ⟨g, i * k.sz + j, none⟩ = false) ∧
   ∀ (j : Nat) (u : Value) (y' : α), j < k.sz → k.K w y' (c.set j u) → Sh k e w (W.setCell ⟨g, i * k.sz + j, none⟩ u) base (.slice (some ⟨g, 0, none⟩) n cap) (l.set i y') := by
 obtain ⟨rows, hl, hR, hk⟩ := h
 have hil := (List.getElem?_eq_some_iff.1 hy).1
 have hn := (Kd.R_reads' hR).1
 obtain ⟨c, hcl, hM, hcc, hfr⟩ := Kd.R_elem hR [] (i : Int) (by omega) (by omega)
 have hr : rows[i]? = some (rows[i]'(by omega)) := List.getElem?_eq_getElem (by omega)
 have ec : c = rows[i]'(by omega) := by
  have := hM.1
  simpa [List.getD_eq_getElem?_getD, hr] using this
 have hK := hk i y _ hy hr
 rw [← ec] at hK
 refine ⟨c, hK, fun j u hu => by simpa [Kd.raw] using hcc j u hu, fun j => by simpa [Kd.raw] using hfr j, fun j u y' hj hK' => ?_⟩
 have hone := k.K_one hK'
 have hlen := k.K_len hK'
 have e1 : c.take j ++ [u] ++ c.drop (j + [u].length) = c.set j u := by
  rw [List.set_eq_take_append_cons_drop, if_pos (by rw [hcl]; exact hj)]
  simp
 have := (Kd.R_seg hR (i : Int) (by omega) (by omega) (seg := [u]) (j := j) (x' := c.set j u) (okp := fun _ => False) hcl hcc (by show j + 1 ≤ k.sz; omega) (by rw [e1]; exact ⟨rfl, hlen, hone⟩) (fun _ hk => hk.elim)).1
 refine ⟨rows.set i (c.set j u), by rw [List.length_set, List.length_set, hl], by simpa [World.setCells, Kd.raw] using this, fun j2 y2 c2 h1 h2 => ?_⟩
 by_cases hij : i = j2
 ·subst hij
  rw [List.getElem?_set_self hil] at h1
  rw [List.getElem?_set_self (by omega)] at h2
  obtain rfl := Option.some.inj h1
  obtain rfl := Option.some.inj h2
  exact hK'
 ·rw [List.getElem?_set_ne hij] at h1 h2
  exact hk j2 y2 c2 h1 h2
end
end Go.Proofs.Ytpedlompipabdaa.P
namespace Go.Proofs.Ytpedlompipabdaa.P
open Go.RowKit Go.Proofs.YtpedlompipabdaaW.PrintWords Go.Proofs.YtpedlompipabdaaW.PrintLast Go.Proofs.YtpedlompipabdaaW.PrintMore
set_option linter.unusedVariables false
def putL (a : Act) : List (Tmp × Value) → Act
 | [] => a
 | p :: r => putL (a.put (some p.1) p.2) r
def ordB (T : List (List Nat × List Nat)) (l0 : Array Bool) : List Nat → List (Nat × Tmp) → Bool
 | _, [] => true
 | pre, p :: r => (T.getD p.1 ([], [])).1.all (fun j => l0.getD j false || pre.contains j) && ordB T l0 (p.1 :: pre) r
theorem getD_tf {l : Array Bool} {j : Nat} (h : l.getD j true = true) (hj : j < l.size) : l.getD j false = true := by
 simp [Array.getD_eq_getD_getElem?, hj] at h ⊢; exact h
theorem ord_first {T : List (List Nat × List Nat)} {l0 l : Array Bool} (hl : l.size = l0.size) (hl0 : ∀ i, l0.getD i true = true → l.getD i true = true) : ∀ (r : List (Nat × Tmp)) (pre : List Nat), (∀ p ∈ r, p.1 < l.size) → ordB T l0 pre r = true → (∀ j ∈ pre, l.getD j false = true) → (∃ p ∈ r, l.getD p.1 true = false) →
  ∃ p ∈ r, l.getD p.1 true = false ∧ ∀ j ∈ (T.getD p.1 ([], [])).1, l.getD j false = true
 | [], _, _, _, _, h => by obtain ⟨p, hp, _⟩ := h; cases hp
 | p :: r, pre, hin, ho, hpre, h => by
  simp only [ordB, Bool.and_eq_true, List.all_eq_true, Bool.or_eq_true, List.contains_iff_mem] at ho
  cases hp : l.getD p.1 true with
  | false =>
   refine ⟨p, by simp, hp, fun j hj => ?_⟩
   rcases ho.1 j hj with h1 | h1
   ·have hj2 : j < l0.size := by
     rcases Nat.lt_or_ge j l0.size with h | h
     ·exact h
     ·simp [Array.getElem?_eq_none h] at h1
    exact getD_tf (hl0 j (by simp [Array.getD_eq_getD_getElem?, hj2] at h1 ⊢; exact h1)) (by omega)
   ·exact hpre j h1
  | true =>
   obtain ⟨q, hq, hqu⟩ := h
   have hqr : q ∈ r := (List.mem_cons.1 hq).resolve_left (fun e => by rw [e, hp] at hqu; cases hqu)
   have hs := hin p (by simp)
   ·obtain ⟨z, hz, hz2⟩ := ord_first hl hl0 r (p.1 :: pre) (fun q hq => hin q (by simp [hq])) ho.2 (fun j hj => (List.mem_cons.1 hj).elim (fun e => by rw [e]; exact getD_tf hp hs) (hpre j)) ⟨q, hqr, hqu⟩
    exact ⟨z, by simp [hz], hz2⟩
theorem inj_of_nodup {α : Type} {f : α → Nat} {l : List α} (h : (l.map f).Nodup) {a b : α} (ha : a ∈ l) (hb : b ∈ l) (e : f a = f b) : a = b := by
 induction l with
 | nil => cases ha
 | cons x r ih =>
  rw [List.map_cons] at h
  obtain ⟨h1, h2⟩ := List.nodup_cons.1 h
  rcases List.mem_cons.1 ha with e1 | a1
  ·rcases List.mem_cons.1 hb with e2 | b1
   ·rw [e1, e2]
   ·exact absurd (List.mem_map.2 ⟨b, b1, by rw [← e1, e]⟩) h1
  ·rcases List.mem_cons.1 hb with e2 | b1
   ·exact absurd (List.mem_map.2 ⟨a, a1, by rw [← e2, e]⟩) h1
   ·exact ih h2 a1 b1
theorem filter_one {p : Nat × Tmp} {f g : Nat × Tmp → Bool} : ∀ {l : List (Nat × Tmp)}, (l.map (·.1)).Nodup → p ∈ l → f p = true → g p = false → (∀ q ∈ l, q ≠ p → g q = f q) → (l.filter f).length = (l.filter g).length + 1
 | [], _, h, _, _, _ => by cases h
 | x :: r, hn, h, hf, hg, hq => by
  rw [List.map_cons] at hn
  obtain ⟨h1, h2⟩ := List.nodup_cons.1 hn
  by_cases e : x = p
  ·subst e
   have : r.filter f = r.filter g := List.filter_congr (fun q hq' => (hq q (by simp [hq']) (fun e => h1 (by rw [← e]; exact List.mem_map.2 ⟨q, hq', rfl⟩))).symm)
   rw [List.filter_cons, if_pos hf, List.filter_cons, if_neg (by rw [hg]; decide), this]
   simp
  ·have hp : p ∈ r := (List.mem_cons.1 h).resolve_left (fun c => e c.symm)
   have ih := filter_one h2 hp hf hg (fun q hq' => hq q (by simp [hq']))
   have hx := hq x (by simp) e
   cases hfx : f x with
   | false => rw [List.filter_cons, if_neg (by rw [hfx]; decide), List.filter_cons, if_neg (by rw [hx, hfx]; decide)]; exact ih
   | true => rw [List.filter_cons, if_pos hfx, List.filter_cons, if_pos (hx.trans hfx)]; simp [ih]
theorem eval_put {a : Act} {d s : Tmp} {v : Value} (h : s ≠ d) : (a.put (some d) v).eval (.tmp s) = a.eval (.tmp s) := by
 simp only [Act.put, Act.eval, Array.getD_eq_getD_getElem?]
 rw [Array.getElem?_setIfInBounds_ne (fun e => h e.symm)]
theorem ev_get {a : Act} {s : Tmp} {v : Value} (h : a.eval (.tmp s) = v) : a.tmps[s]?.getD undef = v := by rw [← h]; simp [Act.eval, Array.getD_eq_getD_getElem?]
theorem eval_put_same {a : Act} {d : Tmp} {v : Value} (h : d < a.tmps.size) : (a.put (some d) v).eval (.tmp d) = v := by
 simp only [Act.put, Act.eval, Array.getD_eq_getD_getElem?]
 rw [Array.getElem?_setIfInBounds_self_of_lt h]
 rfl
theorem put_size {a : Act} {d : Tmp} {v : Value} : (a.put (some d) v).tmps.size = a.tmps.size := by simp [Act.put]
theorem putL_eval (s : Tmp) (hs : ∀ f : Tmp → Value, True) : ∀ (L : List (Tmp × Value)) (a : Act), s ∉ L.map (·.1) → (putL a L).eval (.tmp s) = a.eval (.tmp s)
 | [], a, _ => rfl
 | p :: r, a, h => by
  rw [putL, putL_eval s hs r _ (fun c => h (by simp at c ⊢; exact .inr c)), eval_put (fun e => h (by simp [e]))]
theorem putL_size : ∀ (L : List (Tmp × Value)) (a : Act), (putL a L).tmps.size = a.tmps.size ∧ (putL a L).defers = a.defers
 | [], a => ⟨rfl, rfl⟩
 | p :: r, a => by rw [putL]; have := putL_size r (a.put (some p.1) p.2); exact ⟨this.1.trans put_size, this.2⟩
theorem putL_in (s : Tmp) (f : Tmp → Value) : ∀ (D : List Tmp) (a : Act), D.Nodup → s ∈ D → s < a.tmps.size → (putL a (D.map fun d => (d, f d))).eval (.tmp s) = f s
 | [], a, _, h, _ => by cases h
 | d :: D, a, hn, h, hl => by
  rw [List.map_cons, putL]
  obtain ⟨h1, h2⟩ := List.nodup_cons.1 hn
  by_cases e : s = d
  ·subst e
   rw [putL_eval s (fun _ => trivial) _ _ (by simpa using h1)]
   exact eval_put_same hl
  ·rw [putL_in s f D _ h2 ((List.mem_cons.1 h).resolve_left e) (by rw [put_size]; exact hl)]
theorem act_putL {a a0 : Act} {D : List Tmp} (hn : D.Nodup) (hm : a.tmps.size = a0.tmps.size) (hd : a.defers = a0.defers) (h : ∀ s, s ∉ D → a.eval (.tmp s) = a0.eval (.tmp s)) :
  a = putL a0 (D.map fun d => (d, a.eval (.tmp d))) := by
 obtain ⟨p1, p2⟩ := putL_size (D.map fun d => (d, a.eval (.tmp d))) a0
 have e2 : a.tmps = (putL a0 (D.map fun d => (d, a.eval (.tmp d)))).tmps := by
  apply Array.ext (hm.trans p1.symm)
  intro s h1 h2
  have g : ∀ (b : Act), s < b.tmps.size → some (b.eval (.tmp s)) = b.tmps[s]? := fun b hb => by simp [Act.eval, Array.getD_eq_getD_getElem?, hb]
  have : some (a.eval (.tmp s)) = some ((putL a0 (D.map fun d => (d, a.eval (.tmp d)))).eval (.tmp s)) := by
   by_cases hs : s ∈ D
   ·rw [putL_in s (fun d => a.eval (.tmp d)) D a0 hn hs (hm ▸ h1)]
   ·rw [putL_eval s (fun _ => trivial) _ _ (by simpa using hs), h s hs]
  rw [g a h1, g _ h2] at this
  rw [Array.getElem?_eq_getElem h1, Array.getElem?_eq_getElem h2] at this
  exact Option.some.inj this
 cases a
 cases hx : putL a0 (D.map fun d => (d, Act.eval _ (.tmp d)))
 rw [hx] at e2 p2
 simp only at e2 p2 hd
 rw [e2, hd, p2]
section
variable {P : Program} {ops : Array Oper} {Q : Exit → Act → World → Prop} {md : Region.Mode} {S : World → Prop} {ds : List Nat} {T : Bool × List (List Nat × List Nat)}
def restB (T : List (List Nat × List Nat)) (ops : Array Oper) (l0 : Array Bool) (rem : List (Nat × Tmp)) : Bool :=
 (List.range ops.size).all fun i => l0.getD i true || (rem.map (·.1)).contains i || rem.all fun p => (T.getD i ([], [])).1.contains p.1
def remB' (ops : Array Oper) (l0 : Array Bool) (m : Nat) (rem : List (Nat × Tmp)) : Bool :=
 rem.all (fun p => !l0.getD p.1 true && ((ops[p.1]?).bind (·.dst) == some p.2) && decide (p.2 < m)) && decide (rem.map (·.2)).Nodup && decide (rem.map (·.1)).Nodup
theorem fold_set : ∀ (r : List (Nat × Tmp)) (l0 l : Array Bool), l.size = l0.size → (∀ i, i ∉ r.map (·.1) → l[i]? = l0[i]?) → (∀ p ∈ r, l.getD p.1 true = true) → (r.map (·.1)).Nodup → r.foldl (fun l p => l.setIfInBounds p.1 true) l0 = l
 | [], l0, l, hs, h, _, _ => by
  apply Array.ext_getElem?
  intro i
  exact (h i (by simp)).symm
 | p :: r, l0, l, hs, h, ha, hn => by
  rw [List.foldl_cons]
  obtain ⟨h1, h2⟩ := List.nodup_cons.1 hn
  refine fold_set r _ l (by simpa using hs) (fun i hi => ?_) (fun q hq => ha q (by simp [hq])) h2
  by_cases e : p.1 = i
  ·subst e
   rw [Array.getElem?_setIfInBounds]
   have := ha p (by simp)
   simp only [Array.getD_eq_getD_getElem?] at this
   by_cases hlt : p.1 < l0.size
   ·simp [hlt]
    rw [Array.getElem?_eq_getElem (by omega)] at this ⊢
    simpa using this
   ·simp [hlt]; omega
  ·rw [Array.getElem?_setIfInBounds_ne e]
   exact h i (by simp only [List.map_cons, List.mem_cons, not_or]; exact ⟨fun c => e c.symm, hi⟩)
theorem anyI (hT : rtab md ops = T) (rem : List (Nat × Tmp)) {l0 : Array Bool} (lE : Array Bool) {a0 : Act} {w0 : World} (Post : Nat → Value → World → Prop) (hr : remB' ops l0 a0.tmps.size rem = true) (hor : ordB T.2 l0 [] rem = true) (hrest : restB T.2 ops l0 rem = true)
  (hE : rem.foldl (fun l p => l.setIfInBounds p.1 true) l0 = lE)
  (hst : ∀ i v w w', Post i v w → Below w.heap.size w w' → Post i v w') (hS : ∀ w, Below w0.heap.size w0 w → S w)
  (step : ∀ p ∈ rem, ∀ o, ops[p.1]? = some o → ∀ a w, Below w0.heap.size w0 w → (∀ s, s ∉ rem.map (·.2) → a.eval (.tmp s) = a0.eval (.tmp s)) →
   (∀ q ∈ rem, (T.2.getD p.1 ([], [])).1.contains q.1 = true → Post q.1 (a.eval (.tmp q.2)) w) → ∀ K : Act → World → Prop, (∀ v w', Below w.heap.size w w' → Post p.1 v w' → K (a.put (some p.2) v) w') →
   if Region.wanted o (yielded ops a.tmps) = true then Oper.wp P o a w K Q else K (a.put (some p.2) undef) w)
  (m : Nat) (fin : ∀ (f : Tmp → Value) w, Below w0.heap.size w0 w → (∀ q ∈ rem, Post q.1 (f q.2) w) → wpAnyLast P md ops Q S ds m lE (putL a0 ((rem.map (·.2)).map fun d => (d, f d))) w)
  {fuel : Nat} (hf : fuel = rem.length + m) : wpAnyLast P md ops Q S ds fuel l0 a0 w0 := by
 simp only [remB', Bool.and_eq_true, List.all_eq_true, decide_eq_true_eq, Bool.not_eq_true', beq_iff_eq] at hr
 obtain ⟨⟨h2, h3⟩, h4⟩ := hr
 have hrs : ∀ i o, ops[i]? = some o → l0.getD i true = false → i ∉ rem.map (·.1) → ∀ p ∈ rem, p.1 ∈ needsOf md o := by
  intro i o ho hi hn p hp
  have hlt := (Array.getElem?_eq_some_iff.1 ho).1
  simp only [restB, List.all_eq_true, List.mem_range, Bool.or_eq_true, List.contains_iff_mem] at hrest
  have hq := rtab_some (md := md) ho
  rw [hT] at hq
  rcases hrest i hlt with (h | h) | h
  ·rw [hi] at h; cases h
  ·exact absurd h hn
  ·have := h p hp
   rw [List.getD_eq_getElem?_getD, hq] at this
   exact this
 have main : ∀ n (l : Array Bool) (a : Act) (w : World), l.size = l0.size → (∀ i, i ∉ rem.map (·.1) → l[i]? = l0[i]?) → Below w0.heap.size w0 w → a.tmps.size = a0.tmps.size → a.defers = a0.defers →
   (∀ s, s ∉ rem.map (·.2) → a.eval (.tmp s) = a0.eval (.tmp s)) → (∀ p ∈ rem, l.getD p.1 true = true → Post p.1 (a.eval (.tmp p.2)) w) → (rem.filter fun p => !l.getD p.1 true).length = n → wpAnyLast P md ops Q S ds (n + m) l a w := by
  intro n
  induction n with
  | zero =>
   intro l a w hl hl0 hw hm hd hs hp hc
   have hall : ∀ p ∈ rem, l.getD p.1 true = true := by
    intro p hp'
    have := List.eq_nil_of_length_eq_zero hc
    rw [List.filter_eq_nil_iff] at this
    simpa using this p hp'
   have e := fold_set rem l0 l hl hl0 hall h4
   rw [hE] at e
   rw [← e, Nat.zero_add, act_putL h3 hm hd hs]
   exact fin (fun d => a.eval (.tmp d)) w hw (fun q hq => hp q hq (hall q hq))
  | succ n ih =>
   intro l a w hl hl0 hw hm hd hs hp hc
   have hl1 : ∀ i, l0.getD i true = true → l.getD i true = true := by
    intro i hi
    by_cases hir : i ∈ rem.map (·.1)
    ·obtain ⟨p, hp', rfl⟩ := List.mem_map.1 hir
     rw [(h2 p hp').1.1] at hi; cases hi
    ·simp only [Array.getD_eq_getD_getElem?] at hi ⊢
     rw [hl0 i hir]; exact hi
   have hsome : ∃ p ∈ rem, l.getD p.1 true = false := by
    have : (rem.filter fun p => !l.getD p.1 true) ≠ [] := fun e => by rw [e] at hc; cases hc
    obtain ⟨p, hp'⟩ := List.exists_mem_of_ne_nil _ this
    rw [List.mem_filter] at hp'
    exact ⟨p, hp'.1, by simpa using hp'.2⟩
   rw [show n + 1 + m = (n + m) + 1 by omega]
   refine ⟨fun hno => ?_, fun i hi => ?_⟩
   ·have hin : ∀ p ∈ rem, p.1 < l.size := fun p hp => by
     have := (h2 p hp).1.1
     rcases Nat.lt_or_ge p.1 l0.size with h | h
     ·omega
     ·simp [Array.getElem?_eq_none h] at this
    obtain ⟨p, hp', hpu, hpn⟩ := ord_first hl hl1 rem [] hin hor (fun j hj => by cases hj) hsome
    have q2 := (h2 p hp').1.2
    cases ho : ops[p.1]? with
    | none => rw [ho] at q2; cases q2
    | some o =>
     have : p.1 ∈ Region.ready md ops l := mem_ready.2 ⟨hpu, o, ho, fun e he hb => by
      refine hpn e.on ?_
      have hr := rtab_some (md := md) ho
      rw [hT] at hr
      rw [List.getD_eq_getElem?_getD, hr]
      simp only [Option.getD_some, needsOf, List.mem_map, List.mem_filter]
      exact ⟨e, ⟨by simpa using he, hb⟩, rfl⟩⟩
     rw [hno] at this
     cases this
   ·obtain ⟨hun, o, ho, hneed⟩ := mem_ready.1 hi
    have hir : i ∈ rem.map (·.1) := by
     refine Classical.byContradiction fun hn => ?_
     obtain ⟨p, hp', hpu⟩ := hsome
     have hi0 : l0.getD i true = false := by
      simp only [Array.getD_eq_getD_getElem?] at hun ⊢
      rw [← hl0 i hn]; exact hun
     have := hrs i o ho hi0 hn p hp'
     simp only [needsOf, List.mem_map, List.mem_filter] at this
     obtain ⟨e, ⟨he, heb⟩, hee⟩ := this
     have := hneed e (by simpa using he) heb
     rw [hee] at this
     rcases Nat.lt_or_ge p.1 l.size with h' | h'
     ·simp [h'] at this hpu; rw [hpu] at this; cases this
     ·simp [Array.getElem?_eq_none h'] at this
    obtain ⟨p, hp', rfl⟩ := List.mem_map.1 hir
    obtain ⟨⟨q1, q2⟩, q3⟩ := h2 p hp'
    have hod : o.dst = some p.2 := by rw [ho] at q2; simpa using q2
    refine wpOp_step ho (fun K hK => ?_)
    rw [hod]
    refine step p hp' o ho a w hw hs (fun q hq hqn => hp q hq ?_) K (fun v w' hb hv => hK _ _ ⟨fun _ _ => hS w' (hw.trans (hb.mono hw.size)), ?_⟩)
    ·have hr := rtab_some (md := md) ho
     rw [hT] at hr
     rw [List.getD_eq_getElem?_getD, hr] at hqn
     simp only [Option.getD_some, needsOf, List.contains_iff_mem, List.mem_map, List.mem_filter] at hqn
     obtain ⟨e, ⟨he, heb⟩, hee⟩ := hqn
     have := hneed e (by simpa using he) heb
     rw [hee] at this
     rcases Nat.lt_or_ge q.1 l.size with h' | h'
     ·simp [h'] at this ⊢; exact this
     ·simp [Array.getElem?_eq_none h'] at this
    ·refine ih _ _ _ (by simpa using hl) (fun j hj => ?_) (hw.trans (hb.mono hw.size)) (put_size.trans hm) hd (fun s hs' => ?_) (fun q hq hql => ?_) ?_
     ·rw [Array.getElem?_setIfInBounds_ne (fun e => hj (by rw [← e]; exact List.mem_map.2 ⟨p, hp', rfl⟩))]
      exact hl0 j hj
     ·rw [eval_put (fun e => hs' (by rw [e]; exact List.mem_map.2 ⟨p, hp', rfl⟩)), hs s hs']
     ·by_cases hqp : q = p
      ·subst hqp
       rw [eval_put_same (by rw [hm]; exact q3)]
       exact hv
      ·have hne : q.1 ≠ p.1 := fun e => hqp (inj_of_nodup h4 hq hp' e)
       have hne2 : q.2 ≠ p.2 := fun e => hqp (inj_of_nodup h3 hq hp' e)
       rw [getD_set_ne true (Ne.symm hne)] at hql
       rw [eval_put hne2]
       exact hst _ _ _ _ (hp q hq hql) hb
     ·have := filter_one (p := p) h4 hp' (by rw [hun]; rfl) (f := fun q => !l.getD q.1 true) (g := fun q => !(l.setIfInBounds p.1 true).getD q.1 true) (by simp [Array.getD_eq_getD_getElem?, Array.getElem?_setIfInBounds]; split <;> simp_all) (fun q hq hqp => by
        rw [getD_set_ne true (fun e => hqp (inj_of_nodup h4 hq hp' e.symm))])
      omega
 rw [hf]
 exact main rem.length l0 a0 w0 rfl (fun _ _ => rfl) (Below.refl _ _) rfl rfl (fun _ _ => rfl) (fun p hp h => by rw [(h2 p hp).1.1] at h; cases h) (by
  rw [List.filter_eq_self.2 (fun p hp => by rw [(h2 p hp).1.1]; rfl)])
end
end Go.Proofs.Ytpedlompipabdaa.P
namespace Go.Proofs.Ytpedlompipabdaa.P
open Go.RowKit Go.Proofs.YtpedlompipabdaaW.PrintWords Go.Proofs.YtpedlompipabdaaW.PrintLast Go.Proofs.YtpedlompipabdaaW.PrintMore
set_option linter.unusedVariables false
section
variable {α : Type} {P : Program} {w : World}
def Lit0 (e size : Nat) (v : Value) (w : World) : Prop := (∃ g, v = .slice (some ⟨g, 0, none⟩) 0 0) ∧ w.ownsRow 0 e size v 0 []
def RowV (k : Kd α) (l : List α) (v : Value) (w : World) : Prop := ∃ A c, v = .slice A l.length c ∧ k.C w A l.length l ∧ l.length ≤ c
theorem RowV.step {k : Kd α} {l : List α} {v : Value} {w w' : World} (h : RowV k l v w) (hb : Below w.heap.size w w') : RowV k l v w' := let ⟨A, c, h1, h2, h3⟩ := h; ⟨A, c, h1, Kd.C_below h2 hb, h3⟩
theorem notIn {w : World} {g t : Nat} {cs : Array Value} [b : Bx w g cs t] {ad : Addr} {v : Value} (h : w.cell? ad = some v) (hv : v ∉ cs.toList) : ad.block ≠ g := by
 intro e
 unfold World.cell? at h
 rw [e, b.out] at h
 simp only at h
 split at h
 ·cases h
 ·exact hv (by rw [List.mem_iff_getElem?]; exact ⟨ad.off, by simpa using h⟩)
theorem RowV.far {k : Kd α} {l : List α} {v : Value} {w : World} {g j : Nat} {u : Value} (h : RowV k l v w) (hK : ∀ W W' x c, k.K W x c → k.K W' x c) (hne : ∀ A n c, v = .slice (some A) n c → A.block ≠ g) : RowV k l v (w.setCell ⟨g, j, none⟩ u) := by
 obtain ⟨A, c, rfl, h1, h2⟩ := h
 have hc : ∀ (a : Addr) (x : Value), a.block ≠ g → w.cell? a = some x → (w.setCell ⟨g, j, none⟩ u).cell? a = some x := fun a x hn hx => by
  rw [World.cell?_of_block (Below.heap_setCell w ⟨g, j, none⟩ u a.block (fun e => hn e))]
  exact hx
 refine ⟨A, c, rfl, ⟨h1.1, h1.2.1, fun hn => ?_⟩, h2⟩
 obtain ⟨ad, rfl, hh⟩ := h1.2.2 hn
 exact ⟨ad, rfl, fun i p hi => by
  obtain ⟨cs, a1, a2, a3⟩ := hh i p hi
  exact ⟨cs, a1, hK _ _ _ _ a2, fun q x hx => hc _ _ (by have h9 := hne ad _ _ rfl; unfold Addr.add; split <;> exact h9) (a3 q x hx)⟩⟩
theorem Lit0.step {e size : Nat} {v : Value} {w w' : World} (h : Lit0 e size v w) (hb : Below w.heap.size w w') : Lit0 e size v w' := by
 obtain ⟨⟨g, rfl⟩, h1, h2⟩ := h
 refine ⟨⟨g, rfl⟩, h1, ?_⟩
 rcases h2 with h2 | ⟨g', cap, cur, e1, a, hh, r⟩
 ·exact .inl h2
 ·exact .inr ⟨g', cap, cur, e1, a, (hb.block g' (Array.getElem?_eq_some_iff.1 hh).1).trans hh, r⟩
theorem Lit0.new (w : World) (e size : Nat) : Lit0 e size (.slice (some ⟨w.heap.size, 0, none⟩) 0 0) (w.alloc (.cells #[] e)) := by
 refine ⟨⟨_, rfl⟩, ?_⟩
 have := World.ownsRow_lit (base := 0) (e := e) (size := size) w #[] 0 (Nat.zero_le _) (by simp [maxLen]) (by simp)
 simpa using this
def OfT (e : TypeId) (v : Value) (w : World) : Prop := ∀ A n c, v = .slice (some A) n c → ∃ cs z, w.heap[A.block]? = some (.cells cs e z)
theorem OfT.step {e : TypeId} {v : Value} {w w' : World} (h : OfT e v w) (hb : Below w.heap.size w w') : OfT e v w' := fun A n c e1 => by
 obtain ⟨cs, z, h1⟩ := h A n c e1
 exact ⟨cs, z, (hb.block _ (Array.getElem?_eq_some_iff.1 h1).1).trans h1⟩
theorem OfT.ne {e t g : Nat} {v : Value} {w : World} {cs : Array Value} (h : OfT e v w) [b : Bx w g cs t] (hn : e ≠ t) : ∀ A n c, v = .slice (some A) n c → A.block ≠ g := fun A n c e1 e2 => by
 obtain ⟨cs', z, h1⟩ := h A n c e1
 rw [e2, b.out] at h1
 injection h1 with h1
 injection h1 with _ h2
 exact hn h2.symm
theorem runAppE (k : Kd α) (t ty e : TypeId) (z : Value) (bytes : Nat) (ht : P.underlying t = some (.slice e)) (hinfo : (P.info? e).map (fun i => (i.zero, i.size, i.bytes)) = some (some z, k.sz, bytes)) (hz : z.cells.size = k.sz) (hs0 : 0 < k.sz) {v : Value} {A : Option Addr} {c : Nat} {ys : List α}
  (hv : Lit0 e k.sz v w) (HR : k.C w A ys.length ys) (hn : 0 < ys.length) (hl : ys.length * bytes ≤ 140737488355328) (hl2 : ys.length ≤ 140737488355328) :
  ∃ v1 w1, (Builtin.append_ #[t, t] ty #[v, .slice A ys.length c]).run P w = .ok v1 w1 ∧ Below w.heap.size w w1 ∧ RowV k ys v1 w1 ∧ OfT e v1 w1 := by
 obtain ⟨i0, hi, hzz⟩ := Option.map_eq_some_iff.1 hinfo
 simp only [Prod.mk.injEq] at hzz
 obtain ⟨hz0, hz1, hz2⟩ := hzz
 obtain ⟨ad, rfl, _⟩ := HR.2.2 hn
 obtain ⟨⟨g, rfl⟩, hown⟩ := hv
 obtain ⟨news, hnr, hnc⟩ := ReadsRow.inner_ (R := k.K w) HR
 have hone : ∀ u ∈ news, u.oneCell' = true := by
  intro u hu
  obtain ⟨q, hq, rfl⟩ := List.mem_iff_getElem.1 hu
  have hql : q / k.sz < ys.length := by
   rw [Nat.div_lt_iff_lt_mul hs0]
   rw [← hnr.1]
   exact hq
  have hc := hnr.2 (q / k.sz) _ (List.getElem?_eq_getElem hql)
  refine k.K_one hc _ ?_
  rw [List.mem_iff_getElem?]
  refine ⟨q % k.sz, ?_⟩
  rw [List.getElem?_take, if_pos (Nat.mod_lt _ hs0), List.getElem?_drop, Nat.mul_comm, Nat.div_add_mod, List.getElem?_eq_getElem hq]
 obtain ⟨v1, w1, hrun, h2, hg, _, hat⟩ := run_append_own_at (P := P) w 0 t ty e i0 z k.sz bytes ht hi hz0 hz1 hz2 hz hs0 _ 0 [] hown ad ys.length c news hnr.1 hnc hone (by simp only [maxLen]; omega) (by simpa using hl) (Nat.zero_le _)
 have hgrow := run_append_grow (P := P) w t ty e i0 z ht hi hz0 ⟨g, 0, none⟩ 0 0 [] (by simp) (fun j v h => by simp at h) ad ys.length c news (by rw [hnr.1, hz1]) hnc (by omega) (by omega) (by
  rw [Nat.zero_add]
  have := Builtin.nextslicecap ys.length 0
  rw [nextslicecap_zero hn, hz2]; omega)
 rw [hrun] at hgrow
 have e1 := (Result.ok.inj hgrow).2
 have hb : Below w.heap.size w w1 := by
  rw [e1]
  exact below_alloc (below_drew1 (Below.refl _ _)) _
 have hof : OfT e v1 w1 := by
  intro A n c hA
  have e2 := (Result.ok.inj hgrow).1
  rw [hA] at e2
  injection e2 with e3
  injection e3 with e3
  rw [e1, e3]
  exact ⟨_, _, heap_alloc_new w.drew _⟩
 refine ⟨v1, w1, hrun, hb, ?_, hof⟩
 have hreps : Reps (k.K w1) k.sz ys ([] ++ news) := by
  rw [List.nil_append]
  exact ⟨hnr.1, fun j p hj => k.K_below hb (hnr.2 j p hj)⟩
 obtain ⟨A', c', e2, hr⟩ := own_reads_row h2 hreps (by simp)
 rw [Nat.zero_add] at e2 hr
 refine ⟨A', c', e2, hr, ?_⟩
 rcases h2.2 with ⟨h3, h4⟩ | ⟨g', cap, cur, h3, _, _, hnc', _⟩
 ·omega
 ·rw [e2] at h3
  injection h3 with h5 h6 h7
  omega
theorem runApp0 (k : Kd α) (t ty e : TypeId) (z : Value) (bytes : Nat) (ht : P.underlying t = some (.slice e)) (hinfo : (P.info? e).map (fun i => (i.zero, i.size, i.bytes)) = some (some z, k.sz, bytes)) (hz : z.cells.size = k.sz) (hs0 : 0 < k.sz) {A : Option Addr} {c : Nat} {ys : List α}
  (HR : k.C w A ys.length ys) (hn : 0 < ys.length) (hl : ys.length * bytes ≤ 140737488355328) (hl2 : ys.length ≤ 140737488355328) :
  ∃ v1 w1, (Builtin.append_ #[t, t] ty #[.slice none 0 0, .slice A ys.length c]).run P w = .ok v1 w1 ∧ Below w.heap.size w w1 ∧ RowV k ys v1 w1 := by
 obtain ⟨i0, hi, hzz⟩ := Option.map_eq_some_iff.1 hinfo
 simp only [Prod.mk.injEq] at hzz
 obtain ⟨hz0, hz1, hz2⟩ := hzz
 obtain ⟨ad, rfl, _⟩ := HR.2.2 hn
 have hown : w.ownsRow 0 e k.sz (.slice none 0 0) 0 [] := ⟨by simp, .inl ⟨rfl, rfl⟩⟩
 obtain ⟨news, hnr, hnc⟩ := ReadsRow.inner_ (R := k.K w) HR
 have hone : ∀ u ∈ news, u.oneCell' = true := by
  intro u hu
  obtain ⟨q, hq, rfl⟩ := List.mem_iff_getElem.1 hu
  have hql : q / k.sz < ys.length := by
   rw [Nat.div_lt_iff_lt_mul hs0]
   rw [← hnr.1]
   exact hq
  have hc := hnr.2 (q / k.sz) _ (List.getElem?_eq_getElem hql)
  refine k.K_one hc _ ?_
  rw [List.mem_iff_getElem?]
  refine ⟨q % k.sz, ?_⟩
  rw [List.getElem?_take, if_pos (Nat.mod_lt _ hs0), List.getElem?_drop, Nat.mul_comm, Nat.div_add_mod, List.getElem?_eq_getElem hq]
 obtain ⟨v1, w1, hrun, h2, hg, _, hat⟩ := run_append_own_at (P := P) w 0 t ty e i0 z k.sz bytes ht hi hz0 hz1 hz2 hz hs0 _ 0 [] hown ad ys.length c news hnr.1 hnc hone (by simp only [maxLen]; omega) (by simpa using hl) (Nat.zero_le _)
 have hgrow := run_append_nil (P := P) w t ty e i0 z ht hi hz0 ad ys.length c news (by rw [hnr.1, hz1]) hnc hn (by omega) (by rw [hz2]; omega)
 rw [hrun] at hgrow
 have e1 := (Result.ok.inj hgrow).2
 have hb : Below w.heap.size w w1 := by
  rw [e1]
  exact below_alloc (below_drew1 (Below.refl _ _)) _
 refine ⟨v1, w1, hrun, hb, ?_⟩
 have hreps : Reps (k.K w1) k.sz ys ([] ++ news) := by
  rw [List.nil_append]
  exact ⟨hnr.1, fun j p hj => k.K_below hb (hnr.2 j p hj)⟩
 obtain ⟨A', c', e2, hr⟩ := own_reads_row h2 hreps (by simp)
 rw [Nat.zero_add] at e2 hr
 refine ⟨A', c', e2, hr, ?_⟩
 rcases h2.2 with ⟨h3, h4⟩ | ⟨g', cap, cur, h3, _, _, hnc', _⟩
 ·omega
 ·rw [e2] at h3
  injection h3 with h5 h6 h7
  omega
end
section
variable {α : Type} {P : Program} {ops : Array Oper} {o : Oper} {a : Act} {Q : Exit → Act → World → Prop} {Kc : Act → World → Prop} {w : World}
theorem appE_step (k : Kd α) (hw : Region.wanted o (yielded ops a.tmps) = true) {N : Option Tmp} (hN : o.dst = N) (s x : Operand) (t e : TypeId) (z : Value) (bytes : Nat)
  (ho : o.op = .call { callee := .builtin .append, args := #[s, x], argTypes := #[t, t] }) (ht : P.underlying t = some (.slice e)) (hinfo : (P.info? e).map (fun i => (i.zero, i.size, i.bytes)) = some (some z, k.sz, bytes)) (hz : z.cells.size = k.sz) (hs0 : 0 < k.sz)
  {v : Value} {A : Option Addr} {c : Nat} {ys : List α} (hs : a.eval s = v) (hx : a.eval x = .slice A ys.length c) (hv : Lit0 e k.sz v w) (HR : k.C w A ys.length ys) (hn : 0 < ys.length) (hl : ys.length * bytes ≤ 140737488355328) (hl2 : ys.length ≤ 140737488355328)
  (h : ∀ v1 w1, Below w.heap.size w w1 → RowV k ys v1 w1 → Kc (a.put N v1) w1) : if Region.wanted o (yielded ops a.tmps) = true then Oper.wp P o a w Kc Q else Kc (a.put N undef) w := by
 obtain ⟨v1, w1, h1, h2, h3, h4⟩ := runAppE (w := w) k t o.type e z bytes ht hinfo hz hs0 (c := c) hv HR hn hl hl2
 refine value_ hw hN (w1 := w1) (v := v1) ?_ (h v1 w1 h2 h3)
 unfold execOp
 simp [ho, resolve, invoke, builtin, hs, hx, h1]
theorem appT_step (k : Kd α) (hw : Region.wanted o (yielded ops a.tmps) = true) {N : Option Tmp} (hN : o.dst = N) (s x : Operand) (t e : TypeId) (z : Value) (bytes : Nat)
  (ho : o.op = .call { callee := .builtin .append, args := #[s, x], argTypes := #[t, t] }) (ht : P.underlying t = some (.slice e)) (hinfo : (P.info? e).map (fun i => (i.zero, i.size, i.bytes)) = some (some z, k.sz, bytes)) (hz : z.cells.size = k.sz) (hs0 : 0 < k.sz)
  {v : Value} {A : Option Addr} {c : Nat} {ys : List α} (hs : a.eval s = v) (hx : a.eval x = .slice A ys.length c) (hv : Lit0 e k.sz v w) (HR : k.C w A ys.length ys) (hn : 0 < ys.length) (hl : ys.length * bytes ≤ 140737488355328) (hl2 : ys.length ≤ 140737488355328)
  (h : ∀ v1 w1, Below w.heap.size w w1 → RowV k ys v1 w1 → OfT e v1 w1 → Kc (a.put N v1) w1) : if Region.wanted o (yielded ops a.tmps) = true then Oper.wp P o a w Kc Q else Kc (a.put N undef) w := by
 obtain ⟨v1, w1, h1, h2, h3, h4⟩ := runAppE (w := w) k t o.type e z bytes ht hinfo hz hs0 (c := c) hv HR hn hl hl2
 refine value_ hw hN (w1 := w1) (v := v1) ?_ (h v1 w1 h2 h3 h4)
 unfold execOp
 simp [ho, resolve, invoke, builtin, hs, hx, h1]
theorem app0_step (k : Kd α) (hw : Region.wanted o (yielded ops a.tmps) = true) {N : Option Tmp} (hN : o.dst = N) (s x : Operand) (t e : TypeId) (z : Value) (bytes : Nat)
  (ho : o.op = .call { callee := .builtin .append, args := #[s, x], argTypes := #[t, t] }) (ht : P.underlying t = some (.slice e)) (hinfo : (P.info? e).map (fun i => (i.zero, i.size, i.bytes)) = some (some z, k.sz, bytes)) (hz : z.cells.size = k.sz) (hs0 : 0 < k.sz)
  {A : Option Addr} {c : Nat} {ys : List α} (hs : a.eval s = .slice none 0 0) (hx : a.eval x = .slice A ys.length c) (HR : k.C w A ys.length ys) (hn : 0 < ys.length) (hl : ys.length * bytes ≤ 140737488355328) (hl2 : ys.length ≤ 140737488355328)
  (h : ∀ v1 w1, Below w.heap.size w w1 → RowV k ys v1 w1 → Kc (a.put N v1) w1) : if Region.wanted o (yielded ops a.tmps) = true then Oper.wp P o a w Kc Q else Kc (a.put N undef) w := by
 obtain ⟨v1, w1, h1, h2, h3⟩ := runApp0 (w := w) k t o.type e z bytes ht hinfo hz hs0 (c := c) HR hn hl hl2
 refine value_ hw hN (w1 := w1) (v := v1) ?_ (h v1 w1 h2 h3)
 unfold execOp
 simp [ho, resolve, invoke, builtin, hs, hx, h1]
theorem appN_step (k : Kd α) (hw : Region.wanted o (yielded ops a.tmps) = true) {N : Option Tmp} (hN : o.dst = N) (s x : Operand) (t e : TypeId) (z : Value) (bytes : Nat)
  (ho : o.op = .call { callee := .builtin .append, args := #[s, x], argTypes := #[t, t] }) (ht : P.underlying t = some (.slice e)) (hinfo : (P.info? e).map (fun i => (i.zero, i.size, i.bytes)) = some (some z, k.sz, bytes))
  {v : Value} (hs : a.eval s = v) (hx : a.eval x = .slice none 0 0) (hv : Lit0 e k.sz v w) (h : RowV k [] v w → Kc (a.put N v) w) : if Region.wanted o (yielded ops a.tmps) = true then Oper.wp P o a w Kc Q else Kc (a.put N undef) w := by
 obtain ⟨i0, hi, hzz⟩ := Option.map_eq_some_iff.1 hinfo
 simp only [Prod.mk.injEq] at hzz
 obtain ⟨hz0, hz1, hz2⟩ := hzz
 have h1 := run_append_owned_none (P := P) w 0 t o.type e i0 k.sz ht hi v 0 [] hv.2
 obtain ⟨⟨g, rfl⟩, _⟩ := hv
 refine value_ hw hN (w1 := w) (v := _) ?_ (h ⟨_, 0, rfl, ⟨rfl, by simp, fun h => absurd h (by simp)⟩, Nat.le_refl _⟩)
 unfold execOp
 simp [ho, resolve, invoke, builtin, hs, hx, h1]
end
section
variable {α : Type} {P : Program} {ops : Array Oper} {rest : List Oper} {o : Oper} {a : Act} {Q : Exit → Act → World → Prop} {w : World}
theorem app0L (k : Kd α) (hg : o.guard = none) (s x : Operand) (t e : TypeId) (z : Value) (bytes : Nat)
  (ho : o.op = .call { callee := .builtin .append, args := #[s, x], argTypes := #[t, t] }) (ht : P.underlying t = some (.slice e)) (hinfo : (P.info? e).map (fun i => (i.zero, i.size, i.bytes)) = some (some z, k.sz, bytes)) (hz : z.cells.size = k.sz) (hs0 : 0 < k.sz)
  {A : Option Addr} {c : Nat} {ys : List α} (hs : a.eval s = .slice none 0 0) (hx : a.eval x = .slice A ys.length c) (HR : k.C w A ys.length ys) (hn : 0 < ys.length) (hl : ys.length * bytes ≤ 140737488355328) (hl2 : ys.length ≤ 140737488355328)
  (h : ∀ A1 c1 w1, Bl w w1 → Rw k w1 A1 c1 ys → wpList P ops Q rest (a.put o.dst (.slice A1 ys.length c1)) w1) : wpList P ops Q (o :: rest) a w := by
 obtain ⟨v1, w1, h1, h2, A1, c1, rfl, h3, h4⟩ := runApp0 (w := w) k t o.type e z bytes ht hinfo hz hs0 (c := c) HR hn hl hl2
 refine wpList_plain hg fun K hK => ?_
 have hrun : (execOp a.eval o).run P w = .ok (.value (.slice A1 ys.length c1)) w1 := by
  unfold execOp
  simp [ho, resolve, invoke, builtin, hs, hx, h1]
 unfold Oper.wp
 rw [hrun, Oper.upon_value]
 exact hK _ _ (h A1 c1 w1 ⟨h2⟩ ⟨h3, h4⟩)
theorem lit1 {W : World} (k : Kd α) (N : Tmp) (e : TypeId) (x : α) (cs : Array Value) (hk : ∀ W, k.K W x cs.toList)
  (h : ∀ g w1, Fr W g → Bx w1 g cs e → Bl W w1 → Rw k w1 (some ⟨g, 0, none⟩) 1 [x] → wpList P ops Q rest (a.put o.dst (.slice (some ⟨g, 0, none⟩) 1 1)) w1)
  (hg : o.guard = none := by exact rfl) (hd : o.dst = some N := by exact rfl)
  (hr : (execOp a.eval o).run P W = .ok (.value (.slice (some ⟨W.heap.size, 0, none⟩) 1 1)) (W.alloc (.cells cs e)) := by first | (go_simp; done) | (go_simp; rfl)) : wpList P ops Q (o :: rest) a W := by
 refine wpList_plain hg fun K hK => ?_
 unfold Oper.wp
 rw [hr, Oper.upon_value]
 have : Bx (W.alloc (.cells cs e)) W.heap.size cs e := bxNew
 exact hK _ _ (h _ _ ⟨rfl⟩ this ⟨below_alloc (Below.refl _ _) _⟩ ⟨rowBx (hk _), Nat.le_refl _⟩)
end
theorem results_c1 {P : Program} {fn : Func} {p : Tmp} {ty : TypeId} (h : fn.results = #[.cell p ty]) (tmps : Array Value) (w : World) (g : Nat) (t : TypeId) (cs : Array Value) (fr : Nat × Nat) (d : TypeDesc)
  (hp : tmps.getD p undef = .pointer (some ⟨g, 0, none⟩)) (hg : w.heap[g]? = some (.cells cs t fr))
  (hu : P.underlying ty = some d) (hd : (match d with | .struct _ | .array _ _ => true | _ => false) = true) (hi : (P.info? ty).map (·.size) = some cs.size) :
  (results fn tmps).run P w = .ok (.agg cs) w := by
 have hp' : tmps[p]?.getD undef = .pointer (some ⟨g, 0, none⟩) := by simpa using hp
 simp [results, h, hp', asAddr, run_loadVar_row w g t ty cs fr d hg hu hd hi]
end Go.Proofs.Ytpedlompipabdaa.P
namespace Go.Proofs.Ytpedlompipabdaa.P
open Go.RowKit Go.Proofs.YtpedlompipabdaaW.PrintWords Go.Proofs.YtpedlompipabdaaW.PrintLast Go.Proofs.YtpedlompipabdaaW.PrintMore
set_option linter.unusedVariables false
def firstL (E N : Nat → Int) : Nat → Nat → Int × Int
 | _, 0 => (0, 0)
 | i, m + 1 => if E i = 0 then firstL E N (i + 1) m else (E i, N i)
theorem grown_refl (w : World) (r : Option Nat) : w.grownBy w r := ⟨rfl, rfl, rfl, Nat.le_refl _, fun _ _ _ => rfl⟩
theorem grown_below {w W W' : World} {r : Option Nat} (h : w.grownBy W r) (hb : Below W.heap.size W W') : w.grownBy W' r :=
 ⟨hb.os.trans h.os, hb.tape.trans h.tape, hb.output.trans h.output, Nat.le_trans h.size hb.size, fun k hk hne => (hb.block k (Nat.lt_of_lt_of_le hk h.size)).trans (h.block k hk hne)⟩
theorem grown_trans {w W W' : World} {r : Option Nat} (h : w.grownBy W r) (hb : W.grownBy W' r) : w.grownBy W' r :=
 ⟨hb.os.trans h.os, hb.tape.trans h.tape, hb.output.trans h.output, Nat.le_trans h.size hb.size, fun k hk hne => (hb.block k (Nat.lt_of_lt_of_le hk h.size) hne).trans (h.block k hk hne)⟩
theorem grown_below0 {w w' : World} (h : w.grownBy w' none) : Below w.heap.size w w' := ⟨h.os, h.tape, h.output, h.size, fun k hk => h.block k hk (by simp)⟩
theorem grown_ofb {w w' : World} (r : Option Nat) (h : Below w.heap.size w w') : w.grownBy w' r := ⟨h.os, h.tape, h.output, h.size, fun k hk _ => h.block k hk⟩
end Go.Proofs.Ytpedlompipabdaa.P
namespace Go.Proofs.Ytpedlompipabdaa.Mp
open Go.RowKit Go.Maps
def MapI (P : Program) (k e : TypeId) (w : World) (b n : Nat) (f : Int → Int) : Prop :=
 ∃ D : DataW Unit, w.ownsMap P k (plainElem P e) b n D ∧ IsMap D ∧ ∀ i, D.atKey (.int .i64 i) (.lit (.int .i64 0)) = .lit (.int .i64 (f i))
variable {P : Program} {k e : TypeId} {w : World} {b n : Nat} {f : Int → Int}
theorem MapI.made (w : World) (P : Program) (k e : TypeId) : MapI P k e (w.alloc (.map #[] 0)) w.heap.size 0 (fun _ => 0) :=
 ⟨.map [], World.ownsMap_made _ _ _ _, ⟨_, rfl⟩, fun _ => rfl⟩
theorem MapI.lt (h : MapI P k e w b n f) : b < w.heap.size := by
 obtain ⟨D, ⟨es, cl, hb, _⟩, _⟩ := h
 exact (Array.getElem?_eq_some_iff.1 hb).1
theorem MapI.move {w1 : World} (h : MapI P k e w b n f) (hm : w1.heap[b]? = w.heap[b]?) : MapI P k e w1 b n f := by
 obtain ⟨D, ⟨es, cl, hb, r⟩, i⟩ := h
 exact ⟨D, ⟨es, cl, hm.trans hb, r⟩, i⟩
theorem MapI.below {w1 : World} (h : MapI P k e w b n f) (hb : Below w.heap.size w w1) : MapI P k e w1 b n f := h.move (hb.block b h.lt)
theorem MapI.grown {w1 : World} {row : Option Nat} (h : MapI P k e w b n f) (hg : w.grownBy w1 row) (hne : some b ≠ row) : MapI P k e w1 b n f := h.move (hg.block b h.lt hne)
theorem MapI.alloc (h : MapI P k e w b n f) (o : Obj) : MapI P k e (w.alloc o) b n f := h.below ((Below.refl _ _).alloc (Nat.le_refl _) o)
theorem MapI.drew (h : MapI P k e w b n f) : MapI P k e w.drew b n f := h
theorem MapI.drewN (h : MapI P k e w b n f) (m : Nat) : MapI P k e (w.drewN m) b n f := h.move rfl
theorem MapI.congr {f' : Int → Int} {n' : Nat} (h : MapI P k e w b n f) (hf : ∀ i, f i = f' i) (hn : n = n') : MapI P k e w b n' f' := by
 subst hn
 obtain ⟨D, h1, h2, h3⟩ := h
 exact ⟨D, h1, h2, fun i => by rw [h3, hf]⟩
variable {ops : Array Oper} {rest : List Oper} {o : Oper} {a : Act} {Q : Exit → Act → World → Prop}
end Go.Proofs.Ytpedlompipabdaa.Mp
namespace Go.Proofs.Ytpedlompipabdaa.Mp
open Go.RowKit Go.Maps
def skey (a b : Int) : Lit := .string (keyBytes [.int .i64 a, .int .i64 b])
def W64 (x : Int) : Prop := (Lit.int .i64 x).wf = true
theorem W64.mk {x : Int} (h : -9223372036854775808 ≤ x ∧ x ≤ 9223372036854775807) : W64 x := by
 unfold W64; simp [Lit.wf, IntKind.min, IntKind.max, IntKind.bits, IntKind.signed]; omega
structure PairKey (P : Program) (k : TypeId) : Prop where
 keyed : Keyed P k
 key : ∀ {a b : Int}, W64 a → W64 b → keyOf P k (.agg #[.int .i64 a, .int .i64 b]) = some (skey a b)
theorem PairKey.inj {P : Program} {k : TypeId} (K : PairKey P k) {a b c d : Int} (ha : W64 a) (hb : W64 b) (hc : W64 c) (hd : W64 d) (h : skey a b = skey c d) : a = c ∧ b = d := by
 have h1 := K.key ha hb
 have h2 := K.key hc hd
 rw [← h] at h2
 have := K.keyed.inj h1 h2
 simp at this
 exact this
def MapS (P : Program) (k e : TypeId) (w : World) (b n : Nat) (f : Int → Int → Option Int) : Prop :=
 ∃ D : DataW Unit, w.ownsMap P k (plainElem P e) b n D ∧ IsMap D ∧ ∀ i j, W64 i → W64 j → has D (skey i j) = (f i j).isSome ∧ D.atKey (skey i j) (.lit (.int .i64 0)) = .lit (.int .i64 ((f i j).getD 0))
def updS (f : Int → Int → Option Int) (i j v : Int) : Int → Int → Option Int := fun a b => if a = i ∧ b = j then some v else f a b
variable {P : Program} {k e : TypeId} {w : World} {b n : Nat} {f : Int → Int → Option Int}
theorem MapS.made (w : World) (P : Program) (k e : TypeId) : MapS P k e (w.alloc (.map #[] 0)) w.heap.size 0 (fun _ _ => none) :=
 ⟨.map [], World.ownsMap_made _ _ _ _, ⟨_, rfl⟩, fun _ _ _ _ => ⟨rfl, rfl⟩⟩
theorem MapS.lt (h : MapS P k e w b n f) : b < w.heap.size := by
 obtain ⟨D, ⟨es, cl, hb, _⟩, _⟩ := h
 exact (Array.getElem?_eq_some_iff.1 hb).1
theorem MapS.move {w1 : World} (h : MapS P k e w b n f) (hm : w1.heap[b]? = w.heap[b]?) : MapS P k e w1 b n f := by
 obtain ⟨D, ⟨es, cl, hb, r⟩, i⟩ := h
 exact ⟨D, ⟨es, cl, hm.trans hb, r⟩, i⟩
theorem MapS.below {w1 : World} (h : MapS P k e w b n f) (hb : Below w.heap.size w w1) : MapS P k e w1 b n f := h.move (hb.block b h.lt)
theorem MapS.grown {w1 : World} {row : Option Nat} (h : MapS P k e w b n f) (hg : w.grownBy w1 row) (hne : some b ≠ row) : MapS P k e w1 b n f := h.move (hg.block b h.lt hne)
theorem MapS.alloc (h : MapS P k e w b n f) (o : Obj) : MapS P k e (w.alloc o) b n f := h.below ((Below.refl _ _).alloc (Nat.le_refl _) o)
theorem MapS.congr {f' : Int → Int → Option Int} {n' : Nat} (h : MapS P k e w b n f) (hf : ∀ i j, f i j = f' i j) (hn : n ≤ n') : MapS P k e w b n' f' := by
 obtain ⟨D, ⟨es, cl, hb, F, hs, hD⟩, h2, h3⟩ := h
 exact ⟨D, ⟨es, cl, hb, F, Nat.le_trans hs hn, hD⟩, h2, fun i j hi hj => by rw [← hf]; exact h3 i j hi hj⟩
variable {ops : Array Oper} {rest : List Oper} {o : Oper} {a : Act} {Q : Exit → Act → World → Prop}
theorem wp_lookup_S (hg : o.guard = none) (K : PairKey P k) (m x : Operand) (t : TypeId) (hop : o.op = Op.lookup t m x true)
  (ht : P.underlying t = some (.map k e)) (he : P.underlying e = some (.int .i64)) (hz : (zeroValue e).run P w = .ok (.int .i64 0) w)
  (hm : a.eval m = .map (some b)) (h : MapS P k e w b n f) (i j : Int) (hx : a.eval x = .agg #[.int .i64 i, .int .i64 j]) (hi : W64 i) (hj : W64 j)
  (hK : wpList P ops Q rest (a.put o.dst (.tuple #[.int .i64 ((f i j).getD 0), .bool (f i j).isSome])) w) : wpList P ops Q (o :: rest) a w := by
 obtain ⟨D, h1, h2, h3⟩ := h
 refine wpList_lookup_own_ok_int w hg m x t hop k e .i64 K.keyed ht he hz b n D hm h1 _ _ hx (K.key hi hj) ?_
 intro c hat hwc
 obtain ⟨e1, e2⟩ := h3 i j hi hj
 rw [e2] at hat
 injection hat with hat
 injection hat with _ hat
 subst hat
 rw [e1]
 exact hK
theorem wp_update_S (hg : o.guard = none) (K : PairKey P k) (m x v : Operand) (t : TypeId) (hop : o.op = Op.mapUpdate t m x v)
  (ht : P.underlying t = some (.map k e)) (he : P.underlying e = some (.int .i64))
  (hm : a.eval m = .map (some b)) (h : MapS P k e w b n f) (hn : n < maxLen) (i j c : Int) (hx : a.eval x = .agg #[.int .i64 i, .int .i64 j]) (hv : a.eval v = .int .i64 c) (hi : W64 i) (hj : W64 j) (hc : W64 c)
  (hK : ∀ w', MapS P k e w' b (n + 1) (updS f i j c) → w.grownBy w' (some b) → wpList P ops Q rest (a.put o.dst undef) w') : wpList P ops Q (o :: rest) a w := by
 obtain ⟨D, h1, h2, h3⟩ := h
 refine wpList_mapUpdate_own w hg m x v t hop k e K.keyed ht _ b n D hm h1 hn _ _ _ hx hv (K.key hi hj) _ [] (plainElem_int he hc) ?_
 intro w' ho hgr
 refine hK w' ⟨_, ho, ?_, fun i' j' hi' hj' => ?_⟩ hgr
 ·obtain ⟨l, rfl⟩ := h2
  exact ⟨_, rfl⟩
 ·unfold updS
  by_cases hh : i' = i ∧ j' = j
  ·obtain ⟨rfl, rfl⟩ := hh
   rw [if_pos ⟨rfl, rfl⟩, atKey_put_same h2 (by simp [skey, WideAt.IsKeyLit]), has_put_same h2 (by simp [skey, WideAt.IsKeyLit])]
   exact ⟨rfl, rfl⟩
  ·have hne : skey i' j' ≠ skey i j := fun e => hh (K.inj hi' hj' hi hj e)
   rw [if_neg hh, atKey_put_other hne, has_put_other hne]
   exact h3 i' j' hi' hj'
end Go.Proofs.Ytpedlompipabdaa.Mp
namespace Go.Proofs.Ytpedlompipabdaa.P
open Go.RowKit Go.Shelf Go.Proofs.YtpedlompipabdaaW.PrintWords Go.Proofs.YtpedlompipabdaaW.PrintLast Go.Proofs.YtpedlompipabdaaW.PrintMore
attribute [local go_sem] Oper.semAt_some
set_option linter.unusedVariables false
set_option linter.unusedSimpArgs false
set_option maxHeartbeats 4000000 in
set_option maxRecDepth 100000 in
theorem clone84_any (A0 : Option Addr) (c0 : Nat) (l0 : List S58) (w : World) (hr0 : Kd.C k58 w A0 l0.length l0) (hc0 : l0.length ≤ c0) (hl : l0.length < 4398046511104) :
  Calls Try.prog 60 #[.slice A0 l0.length c0] w fun e w' => ∃ v0_ : Value, e = .returned v0_ ∧ Kd.R k58 58 w' w.heap.size (fun _ => True) v0_ l0 ∧ Below w.heap.size w w' := by
 have hu32 := Try.underlying32
 have q32 : ∀ (w : World) (a : Option Addr) (n c n' c' : Nat), (binOp .eql 32 (.slice a n c) (.slice none n' c')).run Try.prog w = .ok (.bool a.isNone) w := fun w a n c n' c' => Lib.run_eql_slice_nil w _ _ a n c n' c' Try.underlying32
 have HR := Aside0.mk hr0
 have HL := Aside0.mk hl
 cases A0 with
 | none =>
  have h0 : l0 = [] := by
   rcases Nat.eq_zero_or_pos l0.length with h | h
   ·exact List.eq_nil_of_length_eq_zero h
   ·obtain ⟨ad, hA, _⟩ := hr0.2.2 h
    cases hA
  subst h0
  clear hr0 hl
  go_enter Try.func60, Try.ntmps60
  go_wp2
  all_goals go_ret
  all_goals exact ⟨_, rfl, Kd.R_nil _ _ _ _ _, Below.refl _ _⟩
 | some ad =>
  clear hr0 hl
  go_enter Try.func60, Try.ntmps60
  go_wp2_with (first | ((with_reducible refine gate_dst (N := 5) rfl ?_); refine Kd.R_lit k58 _ 58 ?hg (N := 5) ?hd (xs := ([] : List (S58))) (inner := []) (ok := fun _ => True) (okp := fun _ => True) ?hr ?hp (fun _ hk => hk) trivial (Below.refl _ _) (Nat.le_refl _) (by simp) ?_; (case hd => rfl); (case hg => rfl); (case hr => first | (go_simp; done) | (go_simp; rfl)); (case hp => exact (Reps.none _ _)); intro v5 w5 ho5 hb hg_ hnew_; have HO5 := Aside0.mk ho5; have HB5 := Aside0.mk hb; clear hg_ hnew_ ho5 hb) | (refine Kd.R_append_rows k58 (w0 := w) w.heap.size rfl (.tmp 5) (.tmp 6) 32 58 (.agg #[(.int .i64 0), (.int .i64 0), (.int .u64 0), (.int .i64 0)]) 32 rfl Try.underlying32 info58 rfl (by decide) (by omega) v5 [] l0 _ _ _ (fun _ => True) (fun _ => False) rfl rfl HO5.out (Kd.C_below HR.out HB5.out) (fun _ _ h => h) (fun _ h => h.elim) (fun _ _ => trivial) HB5.out (below_size HB5.out) (by have := HL.out; simp; omega) ?_; intro v7 w7 ho hb hg hat; have HO7 := Aside0.mk ho; have HB7 := Aside0.mk hb; clear ho hb hg hat))
  all_goals go_ret
  all_goals exact ⟨_, rfl, HO7.out, HB7.out⟩
end Go.Proofs.Ytpedlompipabdaa.P
namespace Go.Proofs.Ytpedlompipabdaa.P
open Go.RowKit Go.Maps Go.WideMaps Go.Proofs.Ytpedlompipabdaa.Mp
set_option linter.unusedVariables false
set_option linter.unusedSimpArgs false
theorem key56 : PairKey Try.prog 56 := by
 refine ⟨Keyed.of_law (deep_law (m := 3) (by omega) (by kernel_rfl) (by kernel_rfl) (by rw [Try.underlying56])), ?_⟩
 intro a b ha hb
 have hs : ∃ m, Try.prog.types.size = m + 1 := ⟨Try.prog.types.size - 1, by kernel_rfl⟩
 obtain ⟨m, hm⟩ := hs
 have hkt : Try.prog.keyType 56 = true := by kernel_rfl
 have u3 := Try.underlying3
 have c48 : Try.prog.cellsOf 56 = 2 := by kernel_rfl
 have c3 : Try.prog.cellsOf 3 = 1 := by kernel_rfl
 have ha' : (Lit.int .i64 a).wf = true := ha
 have hb' : (Lit.int .i64 b).wf = true := hb
 have hf : (Value.agg #[.int .i64 a, .int .i64 b]).formed Try.prog 56 = true := by
  simp [Value.formed, Try.underlying56, c48]
 unfold keyOf
 simp only [Try.underlying56, hkt, hf, Bool.true_and, if_true, Bool.and_self]
 rw [hm]
 simp [Program.keyLits, Try.underlying56, Value.cells, u3, ha', hb', c48, c3, skey]
end Go.Proofs.Ytpedlompipabdaa.P
namespace Go.Proofs.Ytpedlompipabdaa.P
open Go.RowKit Go.Shelf Go.Proofs.YtpedlompipabdaaW.PrintWords Go.Proofs.YtpedlompipabdaaW.PrintLast Go.Proofs.YtpedlompipabdaaW.PrintMore
attribute [local go_sem] Oper.semAt_some
set_option linter.unusedVariables false
set_option linter.unusedSimpArgs false
def moreE (f : S58) (s : S63) : Int := if Go.bits .and .u64 s.f1 f.f1 ≠ 0 then 4 else if s.f2 > wrap64 (1048576 - f.f2) then 14 else 0
def moreF (f : S58) (s : S63) : S58 := ⟨f.f0, Go.bits .or .u64 f.f1 s.f1, wrap64 (f.f2 + s.f2)⟩
def putF (cur : Array Value) (o : Nat) (f : S58) : Array Value := (cur.setIfInBounds (o + 2) (.int .u64 f.f1)).setIfInBounds (o + 3) (.int .i64 f.f2)
theorem grown_set {w W : World} {g j : Nat} {v : Value} (h : w.grownBy W (some g)) : w.grownBy (W.setCell ⟨g, j, none⟩ v) (some g) :=
 ⟨h.os, h.tape, h.output, by simpa using h.size, fun k hk hne => (Below.heap_setCell W _ v k (fun e => hne (by rw [e]))).trans (h.block k hk hne)⟩
theorem grown_drew {w W : World} {g : Nat} (h : w.grownBy W (some g)) : w.grownBy W.drew (some g) := ⟨h.os, h.tape, h.output, h.size, h.block⟩
theorem grown_of_below {w W : World} {g : Nat} (h : Below w.heap.size w W) : w.grownBy W (some g) := ⟨h.os, h.tape, h.output, h.size, fun k hk _ => h.block k hk⟩
set_option maxHeartbeats 8000000 in
set_option maxRecDepth 100000 in
theorem more1_any (g o : Nat) (cur : Array Value) (f : S58) (s : S63) (w : World) (hb : w.heap[g]? = some (.cells cur 58 (0, 0))) (h2 : cur[o + 2]? = some (.int .u64 f.f1)) (h3 : cur[o + 3]? = some (.int .i64 f.f2)) :
  Calls Try.prog 55 #[.pointer (some ⟨g, o, none⟩), .agg #[.int .i64 s.f0.f0, .int .i64 s.f0.f1, .int .u64 s.f1, .int .i64 s.f2]] w fun e w' => e = .returned (.int .i64 (moreE f s)) ∧ w.grownBy w' (some g) ∧ w'.heap[g]? = some (.cells (if moreE f s = 0 then putF cur o (moreF f s) else cur) 58 (0, 0)) := by
 have hu63 := Try.underlying63
 have hu58 := Try.underlying58
 have hu54 := Try.underlying54
 obtain ⟨⟨n0, n1⟩, m, c⟩ := f
 obtain ⟨⟨s0, s1⟩, sm, sc⟩ := s
 simp only at h2 h3
 have hlt : g < w.heap.size := (Array.getElem?_eq_some_iff.1 hb).1
 have HB := Aside0.mk hb
 have H2 := Aside0.mk h2
 have H3 := Aside0.mk h3
 clear hb h2 h3
 by_cases q1 : Go.bits .and .u64 sm m = 0
 ·have b1 : (Go.bits .and .u64 sm m != 0) = false := by simpa using q1
  by_cases q2 : sc > wrap64 (1048576 - c)
  ·have b2 : decide (wrap64 (1048576 - c) < sc) = true := by simpa using q2
   have HE : moreE ⟨⟨n0, n1⟩, m, c⟩ ⟨⟨s0, s1⟩, sm, sc⟩ = 14 := by simp only [moreE]; rw [if_neg (by simpa using q1), if_pos q2]
   rw [HE, if_neg (by decide)]
   go_enter Try.func55, Try.ntmps55
   go_wp2_with (first | ((with_reducible refine gate_dst (N := 3) rfl ?_); refine box_event ?hg (N := 3) ?hd (cs := #[.int .i64 s0, .int .i64 s1, .int .u64 sm, .int .i64 sc]) (t := 63) ?hr ?_; (case hd => rfl); (case hg => rfl); (case hr => first | (go_simp; done) | (go_simp; rfl)); intro g3 hg3 w3 hx3 hb3; have hne : g ≠ g3 := (by omega); have HB3 := Aside0.mk hb3; have hbk := hb3.block g hlt; rw [HB.out] at hbk; have HX := Aside0.mk hbk; have f1 : w3.cell? ⟨g3, 2, none⟩ = some (.int .u64 sm) := (blk_cell hx3 2).trans rfl; have f2 : w3.cell? ⟨g3, 3, none⟩ = some (.int .i64 sc) := (blk_cell hx3 3).trans rfl; have k2 := (blk_cell hbk (o + 2)).trans H2.out; have k3 := (blk_cell hbk (o + 3)).trans H3.out; have z2 := blk_frozen hbk (o + 2); have z3 := blk_frozen hbk (o + 3); clear hg3 hb3 hbk))
   go_quiet (fail)
   go_wp2
   go_quiet (fail)
   go_wp2
   go_ret
   exact ⟨rfl, grown_of_below (by repeat (first | exact HB3.out | apply pw_below_drewN)), by simpa using HX.out⟩
  ·have b2 : decide (wrap64 (1048576 - c) < sc) = false := by simpa using q2
   have HE : moreE ⟨⟨n0, n1⟩, m, c⟩ ⟨⟨s0, s1⟩, sm, sc⟩ = 0 := by simp only [moreE]; rw [if_neg (by simpa using q1), if_neg q2]
   rw [HE, if_pos rfl]
   go_enter Try.func55, Try.ntmps55
   go_wp2_with (first | ((with_reducible refine gate_dst (N := 3) rfl ?_); refine box_event ?hg (N := 3) ?hd (cs := #[.int .i64 s0, .int .i64 s1, .int .u64 sm, .int .i64 sc]) (t := 63) ?hr ?_; (case hd => rfl); (case hg => rfl); (case hr => first | (go_simp; done) | (go_simp; rfl)); intro g3 hg3 w3 hx3 hb3; have hne : g ≠ g3 := (by omega); have HB3 := Aside0.mk hb3; have hbk := hb3.block g hlt; rw [HB.out] at hbk; have HX := Aside0.mk hbk; have f1 : w3.cell? ⟨g3, 2, none⟩ = some (.int .u64 sm) := (blk_cell hx3 2).trans rfl; have f2 : w3.cell? ⟨g3, 3, none⟩ = some (.int .i64 sc) := (blk_cell hx3 3).trans rfl; have k2 := (blk_cell hbk (o + 2)).trans H2.out; have k3 := (blk_cell hbk (o + 3)).trans H3.out; have z2 := blk_frozen hbk (o + 2); have z3 := blk_frozen hbk (o + 3); clear hg3 hb3 hbk))
   go_quiet (fail)
   go_wp2
   go_quiet (fail)
   go_wp2
   generalize hw5 : (w3.drewN _).drewN _ = w5
   have hb5 : Below w.heap.size w w5 := by rw [← hw5]; repeat (first | exact HB3.out | apply pw_below_drewN)
   have hx5 : w5.heap[g]? = some (.cells cur 58 (0, 0)) := by rw [← hw5]; exact HX.out
   have hy5 : w5.heap[g3]? = some (.cells #[.int .i64 s0, .int .i64 s1, .int .u64 sm, .int .i64 sc] 63 (0, 0)) := by rw [← hw5]; exact hx3
   clear hx3 f1 f2 k2 k3 z2 z3 hw5
   have f1 : w5.cell? ⟨g3, 2, none⟩ = some (.int .u64 sm) := (blk_cell hy5 2).trans rfl
   have f2 : w5.cell? ⟨g3, 3, none⟩ = some (.int .i64 sc) := (blk_cell hy5 3).trans rfl
   have k2 := (blk_cell hx5 (o + 2)).trans H2.out
   have k3 := (blk_cell hx5 (o + 3)).trans H3.out
   have z2 := blk_frozen hx5 (o + 2)
   have z3 := blk_frozen hx5 (o + 3)
   have hy6 := blk_far hy5 (p := ⟨g, o + 2, none⟩) (fun e => hne e.symm) (.int .u64 (Go.bits .or .u64 m sm))
   have hx6 := blk_set hx5 (o + 2) (.int .u64 (Go.bits .or .u64 m sm))
   have f3 : (w5.setCell ⟨g, o + 2, none⟩ (.int .u64 (Go.bits .or .u64 m sm))).cell? ⟨g3, 3, none⟩ = some (.int .i64 sc) := (blk_cell hy6 3).trans rfl
   have k4 : (w5.setCell ⟨g, o + 2, none⟩ (.int .u64 (Go.bits .or .u64 m sm))).cell? ⟨g, o + 3, none⟩ = some (.int .i64 c) := (blk_cell hx6 (o + 3)).trans (by rw [Array.getElem?_setIfInBounds_ne (by omega)]; exact H3.out)
   have z4 := blk_frozen hx6 (o + 3)
   have HB5 := Aside0.mk hb5
   have HX6 := Aside0.mk hx6
   clear hb5 hx5 hy5 hy6 hx6
   go_region
   go_wp2
   go_ret
   exact ⟨rfl, grown_drew (grown_set (grown_set (grown_of_below HB5.out))), blk_set HX6.out (o + 3) _⟩
 ·have b1 : (Go.bits .and .u64 sm m != 0) = true := by simpa using q1
  have HE : moreE ⟨⟨n0, n1⟩, m, c⟩ ⟨⟨s0, s1⟩, sm, sc⟩ = 4 := by simp only [moreE]; rw [if_pos q1]
  rw [HE, if_neg (by decide)]
  go_enter Try.func55, Try.ntmps55
  go_wp2_with (first | ((with_reducible refine gate_dst (N := 3) rfl ?_); refine box_event ?hg (N := 3) ?hd (cs := #[.int .i64 s0, .int .i64 s1, .int .u64 sm, .int .i64 sc]) (t := 63) ?hr ?_; (case hd => rfl); (case hg => rfl); (case hr => first | (go_simp; done) | (go_simp; rfl)); intro g3 hg3 w3 hx3 hb3; have hne : g ≠ g3 := (by omega); have HB3 := Aside0.mk hb3; have hbk := hb3.block g hlt; rw [HB.out] at hbk; have HX := Aside0.mk hbk; have f1 : w3.cell? ⟨g3, 2, none⟩ = some (.int .u64 sm) := (blk_cell hx3 2).trans rfl; have f2 : w3.cell? ⟨g3, 3, none⟩ = some (.int .i64 sc) := (blk_cell hx3 3).trans rfl; have k2 := (blk_cell hbk (o + 2)).trans H2.out; have k3 := (blk_cell hbk (o + 3)).trans H3.out; have z2 := blk_frozen hbk (o + 2); have z3 := blk_frozen hbk (o + 3); clear hg3 hb3 hbk))
  go_quiet (fail)
  go_wp2
  go_ret
  exact ⟨rfl, grown_of_below (by repeat (first | exact HB3.out | apply pw_below_drewN)), by simpa using HX.out⟩
end Go.Proofs.Ytpedlompipabdaa.P
namespace Go.Proofs.Ytpedlompipabdaa.P
open Go.RowKit Go.Shelf Go.Proofs.YtpedlompipabdaaW.PrintWords Go.Proofs.YtpedlompipabdaaW.PrintLast Go.Proofs.YtpedlompipabdaaW.PrintMore
open Go.Proofs.Ytpedlompipabdaa.Mp
attribute [local go_sem] Oper.semAt_some
set_option linter.unusedVariables false
set_option linter.unusedSimpArgs false
def ixS (l : List S58) : Nat → Int → Int → Option Int
 | 0 => fun _ _ => none
 | i + 1 => updS (ixS l i) (rd_T58 l i).f0.f0 (rd_T58 l i).f0.f1 i
def turnedL (E : S58 → S63 → Int) (F : S58 → S63 → S58) (ix : Int → Int → Option Int) : List S58 → List S63 → List S58 × Int
 | out, [] => (out, 0)
 | out, s :: ss => if s.f2 < 0 then ([], 1) else match ix s.f0.f0 s.f0.f1 with
  | none => ([], 3)
  | some k => if E (rd_T58 out k) s = 0 then turnedL E F ix (out.set k.toNat (F (rd_T58 out k) s)) ss else ([], E (rd_T58 out k) s)
theorem ixS_bd (l : List S58) : ∀ (i : Nat) (a b k : Int), ixS l i a b = some k → 0 ≤ k ∧ k < i
 | 0, _, _, _, h => by cases h
 | i + 1, a, b, k, h => by
  unfold ixS updS at h
  split at h
  ·cases h; omega
  ·have := ixS_bd l i a b k h; omega
def TurnC (fn : Nat) (E : S58 → S63 → Int) (F : S58 → S63 → S58) : Prop := ∀ (g o : Nat) (cur : Array Value) (f : S58) (s : S63) (w : World), w.heap[g]? = some (.cells cur 58 (0, 0)) → cur[o + 2]? = some (.int .u64 f.f1) → cur[o + 3]? = some (.int .i64 f.f2) →
  Calls Try.prog fn #[.pointer (some ⟨g, o, none⟩), .agg #[.int .i64 s.f0.f0, .int .i64 s.f0.f1, .int .u64 s.f1, .int .i64 s.f2]] w fun e w' => e = .returned (.int .i64 (E f s)) ∧ w.grownBy w' (some g) ∧ w'.heap[g]? = some (.cells (if E f s = 0 then putF cur o (F f s) else cur) 58 (0, 0))
theorem own51 {W : World} {base : Nat} {ok : Nat → Prop} {v : Value} {out : List S58} (h : Kd.R k58 58 W base ok v out) (hn : 0 < out.length) :
  ∃ g cap cur, v = .slice (some ⟨g, 0, none⟩) out.length cap ∧ ok g ∧ base ≤ g ∧ W.heap[g]? = some (.cells cur 58 (0, 0)) := by
 obtain ⟨hok, inner, ⟨_, hv⟩, _⟩ := h
 rcases hv with ⟨_, h0⟩ | ⟨g, cap, cur, rfl, hg, hh, _⟩
 ·omega
 ·exact ⟨g, cap, cur, rfl, hok g (by simp [Value.ownBlock]), hg, hh⟩
theorem R_turn {W W' : World} {base B0 g n cap : Nat} {cur : Array Value} {out : List S58} {k : Nat} {f' : S58} (HO : Kd.R k58 58 W base (fun k => k < B0) (.slice (some ⟨g, 0, none⟩) n cap) out) (hB0 : B0 ≤ W.heap.size) (hk : k < n)
  (hh : W.heap[g]? = some (.cells cur 58 (0, 0))) (hf0 : f'.f0 = (rd_T58 out (k : Int)).f0) (hg : W.grownBy W' (some g)) (hx : W'.heap[g]? = some (.cells (putF cur (k * 4) f') 58 (0, 0))) :
  Kd.R k58 58 W' base (fun k => k < B0) (.slice (some ⟨g, 0, none⟩) n cap) (out.set k f') := by
 obtain ⟨hn, _, hC⟩ := Kd.R_reads' HO
 obtain ⟨ad, e0, x0, x1, x2, x3⟩ := at_T58 hC (k : Int) (by omega) (by omega)
 cases e0
 have hsz : k58.sz = 4 := rfl
 simp only [Int.toNat_natCast, add_plain, Nat.zero_add] at x0 x1 x2 x3
 have hs := (Kd.R_seg HO (k : Int) (by omega) (by omega) (c := [.int .i64 (rd_T58 out (k : Int)).f0.f0, .int .i64 (rd_T58 out (k : Int)).f0.f1, .int .u64 (rd_T58 out (k : Int)).f1, .int .i64 (rd_T58 out (k : Int)).f2]) (seg := [.int .u64 f'.f1, .int .i64 f'.f2]) (j := 2) rfl (by
  intro j u hu
  rw [Int.toNat_natCast, hsz]
  match j, hu with
  | 0, hu => cases hu; exact x0
  | 1, hu => cases hu; exact x1
  | 2, hu => cases hu; exact x2
  | 3, hu => cases hu; exact x3
  | j + 4, hu => simp at hu) (by rw [hsz]; simp) (x' := f') (okp := fun _ => False) (by
   have := k58_mkM W base (fun _ => False) f'
   rw [hf0] at this
   exact this) (fun _ h => h.elim)).1
 rw [Int.toNat_natCast] at hs
 refine Kd.R_move hs (fun k' hk' => ?_)
 by_cases e : k' = g
 ·subst e
  rw [hx]
  have h1 := blk_set hh (k * 4 + 2) (.int .u64 f'.f1)
  have h2 := blk_set h1 (k * 4 + 3) (.int .i64 f'.f2)
  simp only [World.setCells, hsz]
  rw [h2]; rfl
 ·rw [hg.block k' (by omega) (by simpa using e)]
  simp only [World.setCells]
  rw [Below.heap_setCell _ _ _ _ (by simpa using e), Below.heap_setCell _ _ _ _ (by simpa using e)]
theorem turned_cons (E : S58 → S63 → Int) (F : S58 → S63 → S58) (ix : Int → Int → Option Int) (out : List S58) (l1 : List S63) (j : Nat) (h : j < l1.length) :
  turnedL E F ix out (l1.drop j) = if (rd_T63 l1 (j : Int)).f2 < 0 then ([], 1) else match ix (rd_T63 l1 (j : Int)).f0.f0 (rd_T63 l1 (j : Int)).f0.f1 with
   | none => ([], 3)
   | some k => if E (rd_T58 out k) (rd_T63 l1 (j : Int)) = 0 then turnedL E F ix (out.set k.toNat (F (rd_T58 out k) (rd_T63 l1 (j : Int)))) (l1.drop (j + 1)) else ([], E (rd_T58 out k) (rd_T63 l1 (j : Int))) := by
 have e : rd_T63 l1 (j : Int) = l1[j] := by simp [rd_T63, List.getD_eq_getElem?_getD, List.getElem?_eq_getElem h]
 rw [e, List.drop_eq_getElem_cons h, turnedL]
theorem zero3 (w : World) : (zeroValue 3).run Try.prog w = .ok (.int .i64 0) w := by kernel_rfl
set_option maxHeartbeats 8000000 in
set_option maxRecDepth 100000 in
theorem turned_any (fn : Nat) (E : S58 → S63 → Int) (F : S58 → S63 → S58) (HT : TurnC fn E F) (hent : ∀ args W, (callFunc fn args).run Try.prog W = .ok (.enter fn args) W) (hF : ∀ f s, (F f s).f0 = f.f0)
  (A0 : Option Addr) (c0 : Nat) (l0 : List S58) (A1 : Option Addr) (c1 : Nat) (l1 : List S63) (w : World) (hr0 : Kd.C k58 w A0 l0.length l0) (hc0 : l0.length ≤ c0) (hr1 : Kd.C k63 w A1 l1.length l1) (hc1 : l1.length ≤ c1)
  (hl : l0.length < 4398046511104) (hw0 : ∀ i, i < l0.length → W64 (rd_T58 l0 i).f0.f0 ∧ W64 (rd_T58 l0 i).f0.f1) (hw1 : ∀ i, i < l1.length → W64 (rd_T63 l1 i).f0.f0 ∧ W64 (rd_T63 l1 i).f0.f1) :
  Calls Try.prog 54 #[.slice A0 l0.length c0, .slice A1 l1.length c1, .func (.func fn) #[] #[]] w fun e w' => ∃ v0_ : Value, e = .returned (.tuple #[v0_, .int .i64 (turnedL E F (ixS l0 l0.length) l0 l1).2]) ∧ Kd.R k58 58 w' w.heap.size (fun _ => True) v0_ (turnedL E F (ixS l0 l0.length) l0 l1).1 ∧ Below w.heap.size w w' := by
 have hu58 := Try.underlying58
 have hu63 := Try.underlying63
 have hu56 := Try.underlying56
 have hu138 := Try.underlying138
 have hmm := @run_makeMap Try.prog
 have HR0 := Aside0.mk hr0
 have HR1 := Aside0.mk hr1
 have HW0 := Aside0.mk hw0
 have HW1 := Aside0.mk hw1
 have HTT := Aside0.mk HT
 have HL := Aside0.mk hl
 have HC0 := Aside0.mk hc0
 clear hr0 hr1 hw0 hw1 HT hl hc0
 have hlen1 : l1.length ≤ 9223372036854775807 := HR1.out.2.1
 obtain ⟨ix, hN⟩ : ∃ ix, ixS l0 l0.length = ix := ⟨_, rfl⟩
 rw [hN]
 have HN := Aside0.mk hN
 clear hN
 go_enter Try.func54, Try.ntmps54
 go_wp2_with (go_at_call 60; refine (clone84_any A0 c0 l0 _ HR0.out HC0.out HL.out).mono ?_; rintro e w8 ⟨v8, rfl, ho8, hb8⟩; obtain ⟨A8, c8, rfl, hc8, _⟩ := Kd.R_reads ho8; have HC8 := Aside0.mk hc8; clear hc8; have HB8 := Aside0.mk hb8; clear hb8; have HO8 := Aside0.mk (Kd.R_mono (Kd.R_bound ho8) (fun k hk => (hk.2.2.1 : k < w8.heap.size))); clear ho8)
 go_loopw [22] (fun v22 wr => ∃ i : Nat, i ≤ l0.length ∧ v22 = .int .i64 (i : Int) ∧ Aside0 (Kd.R k58 58 wr w.heap.size (fun k => k < w8.heap.size) (.slice A8 l0.length c8) l0) ∧ Aside0 (MapS Try.prog 56 3 wr w8.heap.size i (ixS l0 i)) ∧ Aside0 (Below w.heap.size w wr)) (fun v22 _ => l0.length - (intOf v22).toNat)
 case atStart => exact ⟨0, Nat.zero_le _, rfl, ⟨Kd.R_alloc HO8.out _⟩, ⟨MapS.made _ _ _ _⟩, ⟨below_alloc HB8.out _⟩⟩
 case round =>
  obtain ⟨i, hi, rfl, HO, HM, HB⟩ := hrel
  by_cases hlt : i < l0.length
  ·have h0 : 0 ≤ (i : Int) := by omega
   have h1' : (i : Int) < l0.length := by omega
   obtain ⟨ad, e0, x0, x1, x2, x3⟩ := at_T58 (Kd.R_reads' HO.out).2.2 (i : Int) h0 h1'
   cases e0
   simp only [Int.toNat_natCast] at x0 x1 x2 x3
   have hw := HW0.out i hlt
   have hl' := HL.out
   go_wp2_with (at_mapUpdate; refine wp_update_S rfl key56 _ _ _ 138 rfl Try.underlying138 Try.underlying3 rfl (HM.out.alloc _) (by unfold maxLen; omega) _ _ _ rfl rfl hw.1 hw.2 (W64.mk (by omega)) ?_; intro w1 hm1 hg1)
   have hsz := (below_alloc HB.out (.cells #[.int .i64 (rd_T58 l0 i).f0.f0, .int .i64 (rd_T58 l0 i).f0.f1, .int .u64 (rd_T58 l0 i).f1, .int .i64 (rd_T58 l0 i).f2] 58)).size
   have hs8 := HB8.out.size
   go_roundw
   case rel => exact ⟨i + 1, by omega, by go_num, ⟨Kd.R_grown (Kd.R_alloc HO.out _) hg1 (fun k hk e => by cases e; omega)⟩, ⟨hm1⟩, ⟨(below_alloc HB.out _).grown hg1 hsz (fun k e => by cases e; omega)⟩⟩
   case measure => simp [intOf]; omega
  ·obtain rfl : i = l0.length := by omega
   go_wp2
   clear hmm
   rw [HN.out] at HM
   have hixb := Aside0.mk (fun a b k (h : ix a b = some k) => ixS_bd l0 l0.length a b k (by rw [HN.out]; exact h))
   clear HN
   obtain ⟨wo, hwo⟩ : ∃ wo : World, wo = wr := ⟨_, rfl⟩
   subst hwo
   go_loopw [34] (fun v34 w2 => ∃ (j : Nat) (out : List S58), j ≤ l1.length ∧ v34 = .int .i64 (j : Int) ∧ Aside0 (out.length = l0.length ∧ turnedL E F ix l0 l1 = turnedL E F ix out (l1.drop j)) ∧ Aside0 (Kd.R k58 58 w2 w.heap.size (fun k => k < w8.heap.size) (.slice A8 l0.length c8) out) ∧ Aside0 (MapS Try.prog 56 3 w2 w8.heap.size l0.length ix) ∧ Aside0 (Below w.heap.size w w2) ∧ Aside0 (w8.heap.size < w2.heap.size)) (fun v34 _ => l1.length - (intOf v34).toNat)
   case atStart => exact ⟨0, l0, Nat.zero_le _, rfl, ⟨rfl, rfl⟩, HO, HM, HB, ⟨HM.out.lt⟩⟩
   case round =>
    clear HO HM HB
    obtain ⟨j, out, hj, rfl, HE, HO, HM, HB, HS⟩ := hrel
    by_cases hlt : j < l1.length
    ·have h0 : 0 ≤ (j : Int) := by omega
     have h1' : (j : Int) < l1.length := by omega
     obtain ⟨ad1, e1, y0, y1, y2, y3⟩ := at_T63 HR1.out (j : Int) h0 h1'
     cases e1
     simp only [Int.toNat_natCast] at y0 y1 y2 y3
     replace y0 := pw_cell_below HB.out y0
     replace y1 := pw_cell_below HB.out y1
     replace y2 := pw_cell_below HB.out y2
     replace y3 := pw_cell_below HB.out y3
     have HEE := Aside0.mk (HE.out.2.trans (turned_cons E F ix out l1 j hlt))
     have hlo := HE.out.1
     clear HE
     have hw := HW1.out j hlt
     generalize hs : rd_T63 l1 (j : Int) = s at *
     clear hs
     obtain ⟨⟨s0, s1⟩, sm, sc⟩ := s
     simp only at y0 y1 y2 y3 hw
     by_cases hneg : sc < 0
     ·have bn : decide (sc < 0) = true := by simpa using hneg
      rw [if_pos hneg] at HEE
      clear hneg
      go_wp2_with (at_lookup; refine wp_lookup_S rfl key56 _ _ 138 rfl Try.underlying138 Try.underlying3 (zero3 _) rfl (HM.out.alloc _) _ _ rfl hw.1 hw.2 ?_)
      go_ret2
      exact ⟨.slice none 0 0, (by rw [HEE.out]; first | done | rfl), (by rw [HEE.out]; exact Kd.R_nil _ _ _ _ _), below_alloc HB.out _⟩
     ·have bn : decide (sc < 0) = false := by simpa using hneg
      rw [if_neg hneg] at HEE
      clear hneg
      cases hix : ix s0 s1 with
      | none =>
       rw [hix] at HEE
       go_wp2_with (at_lookup; refine wp_lookup_S rfl key56 _ _ 138 rfl Try.underlying138 Try.underlying3 (zero3 _) rfl (HM.out.alloc _) _ _ rfl hw.1 hw.2 ?_; rw [hix]; simp only [Option.getD_none, Option.isSome_none])
       go_ret2
       exact ⟨.slice none 0 0, (by rw [HEE.out]; first | done | rfl), (by rw [HEE.out]; exact Kd.R_nil _ _ _ _ _), below_alloc HB.out _⟩
      | some k =>
       rw [hix] at HEE
       have hkb := hixb.out _ _ _ hix
       go_wp2_with (at_lookup; refine wp_lookup_S rfl key56 _ _ 138 rfl Try.underlying138 Try.underlying3 (zero3 _) rfl (HM.out.alloc _) _ _ rfl hw.1 hw.2 ?_; rw [hix]; simp only [Option.getD_some, Option.isSome_some])
       obtain ⟨kn, rfl⟩ := Int.eq_ofNat_of_zero_le hkb.1
       have hk1 : kn < l0.length := by omega
       obtain ⟨g, cap, cur, hv, hgk, hgb, hh⟩ := own51 HO.out (by omega)
       injection hv with ha hn hc
       subst ha
       have hC := (Kd.R_reads' HO.out).2.2
       obtain ⟨ad2, e2, _, _, z2, z3⟩ := at_T58 hC (kn : Int) (by omega) (by omega)
       cases e2
       simp only [Int.toNat_natCast, add_plain, Nat.zero_add] at z2 z3
       rw [blk_cell hh] at z2 z3
       obtain ⟨wa, hwa⟩ : ∃ wa, wr.alloc (.cells #[.int .i64 s0, .int .i64 s1, .int .u64 sm, .int .i64 sc] 63) = wa := ⟨_, rfl⟩
       have hha : wa.heap[g]? = some (.cells cur 58 (0, 0)) := by rw [← hwa]; exact blk_alloc hh _
       have hya : wa.heap[wr.heap.size]? = some (.cells #[.int .i64 s0, .int .i64 s1, .int .u64 sm, .int .i64 sc] 63 (0, 0)) := by rw [← hwa]; exact heap_alloc_new _ _
       have hOa : Kd.R k58 58 wa w.heap.size (fun k => k < w8.heap.size) (.slice (some ⟨g, 0, none⟩) l0.length c8) out := by rw [← hwa]; exact Kd.R_alloc HO.out _
       have hMa : MapS Try.prog 56 3 wa w8.heap.size l0.length ix := by rw [← hwa]; exact HM.out.alloc _
       have hBa : Below w.heap.size w wa := by rw [← hwa]; exact below_alloc HB.out _
       have hSa : w8.heap.size < wa.heap.size := by rw [← hwa]; have := HS.out; simp; omega
       rw [hwa]
       have hcall := HTT.out g (kn * 4) cur (rd_T58 out (kn : Int)) ⟨⟨s0, s1⟩, sm, sc⟩ wa.drew (blk_drew hha) z2 z3
       have hRT := fun W' (hg : wa.drew.grownBy W' (some g)) (hx : W'.heap[g]? = some (.cells (putF cur (kn * 4) (F (rd_T58 out (kn : Int)) ⟨⟨s0, s1⟩, sm, sc⟩)) 58 (0, 0))) => R_turn (Kd.R_drew hOa) (B0 := w8.heap.size) (Nat.le_of_lt hSa) hk1 (blk_drew hha) (hF _ _) hg hx
       have HRT := Aside0.mk hRT
       have HCALL := Aside0.mk hcall
       have HGB := Aside0.mk (And.intro hgk hgb)
       have HOA := Aside0.mk hOa
       have HMA := Aside0.mk hMa
       have HBA := Aside0.mk hBa
       have HSA := Aside0.mk hSa
       have q0 : wa.cell? ⟨wr.heap.size, 0, none⟩ = some (.int .i64 s0) := (blk_cell hya 0).trans rfl
       have q1 : wa.cell? ⟨wr.heap.size, 1, none⟩ = some (.int .i64 s1) := (blk_cell hya 1).trans rfl
       have q2 : wa.cell? ⟨wr.heap.size, 2, none⟩ = some (.int .u64 sm) := (blk_cell hya 2).trans rfl
       have q3 : wa.cell? ⟨wr.heap.size, 3, none⟩ = some (.int .i64 sc) := (blk_cell hya 3).trans rfl
       clear hwa hha hya hOa hMa hBa hSa hRT hcall hgk hgb hh z2 z3 hC hn hc HO HM HB HS
       go_still_tail 5, (by kernel_rfl)
       change wpList _ _ _ _ _ wa.drew
       clear q0 q1 q2 q3
       go_wp2_with (fail)
       refine HCALL.out.mono ?_
       rintro e W4 ⟨rfl, hg4, hx4⟩
       by_cases hE : E (rd_T58 out (kn : Int)) ⟨⟨s0, s1⟩, sm, sc⟩ = 0
       ·rw [if_pos hE] at hx4
        have HO4 := Aside0.mk (HRT.out W4 hg4 hx4)
        simp only [hE, if_true] at HEE
        rw [hE]
        have HM4 := Aside0.mk (HMA.out.move (hg4.block _ HMA.out.lt (by simp; have := HGB.out.1; omega)))
        have HB4 := Aside0.mk ((below_drew1 HBA.out).grown hg4 (below_drew1 HBA.out).size (fun k e => by cases e; exact HGB.out.2))
        have HS4 := Aside0.mk (Nat.lt_of_lt_of_le HSA.out hg4.size)
        clear hx4 hg4 HCALL HRT HOA HMA HBA HSA
        go_wp2
        go_roundw
        case rel => exact ⟨j + 1, _, by omega, by go_num, ⟨by rw [List.length_set]; exact hlo, HEE.out⟩, HO4, HM4, HB4, HS4⟩
        case measure => simp [intOf]; omega
       ·have bE : (E (rd_T58 out (kn : Int)) ⟨⟨s0, s1⟩, sm, sc⟩ == 0) = false := by simpa using hE
        simp only [hE, if_false] at HEE
        have HB4 := Aside0.mk ((below_drew1 HBA.out).grown hg4 (below_drew1 HBA.out).size (fun k e => by cases e; exact HGB.out.2))
        clear hx4 hg4 HCALL HRT HOA HMA HBA HSA hE
        go_wp2
        go_ret2
        exact ⟨.slice none 0 0, (by rw [HEE.out]; first | done | rfl), (by rw [HEE.out]; exact Kd.R_nil _ _ _ _ _), HB4.out⟩
    ·obtain rfl : j = l1.length := by omega
     have HEE := HE.out.2
     rw [List.drop_eq_nil_of_le (Nat.le_refl _)] at HEE
     have HE2 := Aside0.mk HEE
     have hlo := HE.out.1
     clear HEE HE
     go_wp2
     go_ret2
     exact ⟨.slice A8 l0.length c8, (by rw [HE2.out, turnedL]; first | done | rfl), (by rw [HE2.out, turnedL]; exact Kd.R_mono HO.out (fun _ _ => trivial)), HB.out⟩
def turned51 (E : S58 → S63 → Int) (F : S58 → S63 → S58) (l0 : List S58) (l1 : List S63) : List S58 × Int := turnedL E F (ixS l0 l0.length) l0 l1
def w64B (x : Int) : Bool := decide (-9223372036854775808 ≤ x) && decide (x ≤ 9223372036854775807)
def spotsOk (l0 : List S58) (l1 : List S63) : Bool := decide (l0.length < 4398046511104) && l0.all (fun f => w64B f.f0.f0 && w64B f.f0.f1) && l1.all (fun f => w64B f.f0.f0 && w64B f.f0.f1)
def pack_More.f (l0 : List S58) (l1 : List S63) : Option (List S58 × Int) := if spotsOk l0 l1 = true then some (turned51 moreE moreF l0 l1) else none
theorem spotsOk_out {l0 : List S58} {l1 : List S63} (h : spotsOk l0 l1 = true) : l0.length < 4398046511104 ∧ (∀ i, i < l0.length → W64 (rd_T58 l0 i).f0.f0 ∧ W64 (rd_T58 l0 i).f0.f1) ∧ (∀ i, i < l1.length → W64 (rd_T63 l1 i).f0.f0 ∧ W64 (rd_T63 l1 i).f0.f1) := by
 unfold spotsOk at h
 simp only [Bool.and_eq_true, decide_eq_true_eq, List.all_eq_true, w64B] at h
 refine ⟨h.1.1, fun i hi => ?_, fun i hi => ?_⟩
 ·have e : rd_T58 l0 (i : Int) = l0[i] := by simp [rd_T58, List.getD_eq_getElem?_getD, List.getElem?_eq_getElem hi]
  have := h.1.2 _ (List.getElem_mem hi)
  rw [e]
  exact ⟨W64.mk this.1, W64.mk this.2⟩
 ·have e : rd_T63 l1 (i : Int) = l1[i] := by simp [rd_T63, List.getD_eq_getElem?_getD, List.getElem?_eq_getElem hi]
  have := h.2 _ (List.getElem_mem hi)
  rw [e]
  exact ⟨W64.mk this.1, W64.mk this.2⟩
set_option maxHeartbeats 4000000 in
set_option maxRecDepth 100000 in
theorem pack_More.calls (A0 : Option Addr) (c0 : Nat) (l0 : List (S58)) (A1 : Option Addr) (c1 : Nat) (l1 : List (S63)) (r1 : List (S58)) (r2 : Int) (w : World) (hr0 : Kd.C k58 w A0 l0.length l0) (hc0 : l0.length ≤ c0) (hr1 : Kd.C k63 w A1 l1.length l1) (hc1 : l1.length ≤ c1) (h : pack_More.f l0 l1 = some (r1, r2)) :
  Calls Try.prog 34 #[.slice A0 l0.length c0, .slice A1 l1.length c1] w fun e w' => ∃ v0_ : Value, e = .returned (.tuple #[v0_, .int .i64 r2]) ∧ Kd.R k58 58 w' w.heap.size (fun _ => True) v0_ r1 ∧ Below w.heap.size w w' := by
 unfold pack_More.f at h
 split at h
 case isFalse => cases h
 rename_i hok
 obtain ⟨h1, h2, h3⟩ := spotsOk_out hok
 have hr := Option.some.inj h
 unfold turned51 at hr
 have HC := turned_any 55 moreE moreF (fun g o cur f s w a b c => more1_any g o cur f s w a b c) (fun args W => by kernel_rfl) (fun _ _ => rfl) A0 c0 l0 A1 c1 l1 w hr0 hc0 hr1 hc1 h1 h2 h3
 rw [hr] at HC
 have H := Aside0.mk HC
 clear HC hr h h1 h2 h3 hok hr0 hr1
 go_enter Try.func34, Try.ntmps34
 go_wp2_with (go_at_call 54; refine H.out.mono ?_; rintro e w1 ⟨v, rfl, ho, hb⟩; have HO := Aside0.mk ho; have HB := Aside0.mk hb; clear ho hb)
 go_ret2
 exact ⟨_, rfl, HO.out, HB.out⟩
end Go.Proofs.Ytpedlompipabdaa.P
namespace Go.Proofs.Ytpedlompipabdaa.P
open Go.RowKit Go.Proofs.YtpedlompipabdaaW.PrintWords Go.Proofs.YtpedlompipabdaaW.PrintLast Go.Proofs.YtpedlompipabdaaW.PrintMore
set_option linter.unusedVariables false
theorem below_grown {w W W' : World} {r : Nat} (h : Below w.heap.size w W) (hg : W.grownBy W' (some r)) (hr : w.heap.size ≤ r) : Below w.heap.size w W' :=
 h.grown hg h.size (fun k e => by cases e; exact hr)
structure Sit where
 AN : Option Addr
 cN : Nat
 lN : List S83
 AQ : Option Addr
 cQ : Nat
 lQ : List S51
 x2 : Int
 x3 : Int
 x4 : Int
 x5 : Int
 y0 : Int
 y1 : Int
 y2 : Int
 y3 : Int
 AW : Option Addr
 cW : Nat
 lW : List Int
 AD : Option Addr
 cD : Nat
 lD : List Bool
 AG : Option Addr
 cG : Nat
 lG : List S47
 AH : Option Addr
 cH : Nat
 lH : List S62
 AF : Option Addr
 cF : Nat
 lF : List S58
 AU : Option Addr
 cU : Nat
 lU : List S49
namespace Sit
variable (T : Sit)
def cells : Array Value := #[.slice T.AN T.lN.length T.cN, .slice T.AQ T.lQ.length T.cQ, .int .i64 T.x2, .int .i64 T.x3, .int .i64 T.x4, .int .i64 T.x5, .int .i64 T.y0, .int .i64 T.y1, .int .i64 T.y2, .int .i64 T.y3, .slice T.AW T.lW.length T.cW, .slice T.AD T.lD.length T.cD, .slice T.AG T.lG.length T.cG, .slice T.AH T.lH.length T.cH, .slice T.AF T.lF.length T.cF, .slice T.AU T.lU.length T.cU]
theorem c0 : T.cells[0]? = some (.slice T.AN T.lN.length T.cN) := rfl
theorem c1 : T.cells[1]? = some (.slice T.AQ T.lQ.length T.cQ) := rfl
theorem c2 : T.cells[2]? = some (.int .i64 T.x2) := rfl
theorem c3 : T.cells[3]? = some (.int .i64 T.x3) := rfl
theorem c4 : T.cells[4]? = some (.int .i64 T.x4) := rfl
theorem c5 : T.cells[5]? = some (.int .i64 T.x5) := rfl
theorem c6 : T.cells[6]? = some (.int .i64 T.y0) := rfl
theorem c7 : T.cells[7]? = some (.int .i64 T.y1) := rfl
theorem c8 : T.cells[8]? = some (.int .i64 T.y2) := rfl
theorem c9 : T.cells[9]? = some (.int .i64 T.y3) := rfl
theorem c10 : T.cells[10]? = some (.slice T.AW T.lW.length T.cW) := rfl
theorem c12 : T.cells[12]? = some (.slice T.AG T.lG.length T.cG) := rfl
theorem c13 : T.cells[13]? = some (.slice T.AH T.lH.length T.cH) := rfl
theorem c14 : T.cells[14]? = some (.slice T.AF T.lF.length T.cF) := rfl
theorem c15 : T.cells[15]? = some (.slice T.AU T.lU.length T.cU) := rfl
end Sit
structure Sit.Ok (T : Sit) (w : World) : Prop where
 N : Kd.C k83 w T.AN T.lN.length T.lN
 Nc : T.lN.length ≤ T.cN
 Q : Kd.C k51 w T.AQ T.lQ.length T.lQ
 Qc : T.lQ.length ≤ T.cQ
 W : Kd.C (Kd.int .i64) w T.AW T.lW.length T.lW
 Wc : T.lW.length ≤ T.cW
 G : Kd.C k47 w T.AG T.lG.length T.lG
 Gc : T.lG.length ≤ T.cG
 H : Kd.C k62 w T.AH T.lH.length T.lH
 Hc : T.lH.length ≤ T.cH
 F : Kd.C k58 w T.AF T.lF.length T.lF
 Fc : T.lF.length ≤ T.cF
 U : Kd.C k49 w T.AU T.lU.length T.lU
 Uc : T.lU.length ≤ T.cU
theorem Sit.Ok.step {T : Sit} {w W : World} (h : T.Ok w) (hb : Below w.heap.size w W) : T.Ok W :=
 ⟨Kd.C_below h.N hb, h.Nc, Kd.C_below h.Q hb, h.Qc, Kd.C_below h.W hb, h.Wc, Kd.C_below h.G hb, h.Gc, Kd.C_below h.H hb, h.Hc, Kd.C_below h.F hb, h.Fc, Kd.C_below h.U hb, h.Uc⟩
class Au (W : World) (g : Nat) (T : outParam Sit) : Prop where
 box : W.heap[g]? = some (.cells T.cells 78 (0, 0))
 ok : T.Ok W
section
variable {W W' : World} {g g' i : Nat} {T : Sit} {o : Obj} {v : Value}
instance auBx [h : Au W g T] : Bx W g T.cells 78 := ⟨h.box⟩
instance auBl [b : Bl W W'] [h : Au W g T] : Au W' g T := ⟨blk_below h.box b.out, h.ok.step b.out⟩
instance auAlloc [h : Au W g T] : Au (W.alloc o) g T := ⟨blk_alloc h.box o, h.ok.step (below_alloc (Below.refl _ _) o)⟩
instance auDrew [h : Au W g T] : Au W.drew g T := ⟨blk_drew h.box, h.ok.step (below_drew1 (Below.refl _ _))⟩
instance auDrewN {n : Nat} [h : Au W g T] : Au (W.drewN n) g T := ⟨blk_drewN h.box n, h.ok.step (pw_below_drewN (Below.refl _ _) n)⟩
end
end Go.Proofs.Ytpedlompipabdaa.P
namespace Go.Proofs.Ytpedlompipabdaa.P
open Go.RowKit Go.Proofs.YtpedlompipabdaaW.PrintWords Go.Proofs.YtpedlompipabdaaW.PrintLast Go.Proofs.YtpedlompipabdaaW.PrintMore
set_option linter.unusedVariables false
set_option linter.unusedSimpArgs false
attribute [local go_sem] cellBx frozBx Sit.c0 Sit.c1 Sit.c2 Sit.c3 Sit.c4 Sit.c5 Sit.c6 Sit.c7 Sit.c8 Sit.c9 Sit.c10 Sit.c12 Sit.c13 Sit.c14 Sit.c15
attribute [local go_sem] Oper.semAt_some
open Go.Shelf
def R53.T1 : Bool × List (List Nat × List Nat) := (true, [([], []), ([], []), ([0, 1], [0, 1]), ([], []), ([3], [3]), ([4, 4], [4]), ([2, 5], [2, 5]), ([6], [6]), ([7, 2, 0, 1, 2, 3, 4, 5, 6, 7], [7])])
def R53.B1 : List Nat := [0, 0, 3, 0, 8, 24, 63, 127, 255]
theorem R53.tab1 : rtab .any (opsOf Try.f53 1) = R53.T1 := by kernel_rfl
theorem R53.bits1 : waitsOk R53.T1.2 R53.B1 = true := by kernel_rfl
def Acc (v : Value) (w : World) : Prop := ∃ g qv uv, v = .pointer (some ⟨g, 0, none⟩) ∧ Bx w g #[qv, uv] 105 ∧ RowV k49 [⟨0, 0⟩] uv w
theorem Acc.step {v : Value} {w w' : World} (h : Acc v w) (hb : Below w.heap.size w w') : Acc v w' := let ⟨g, q, u, h1, h2, h3⟩ := h; ⟨g, q, u, h1, ⟨blk_below h2.out hb⟩, h3.step hb⟩
def post53 : Nat → Value → World → Prop
 | 0, v, w => Lit0 49 2 v w
 | 2, v, w => RowV k49 [⟨9, 9⟩] v w
 | 5, v, w => RowV k49 [⟨0, 0⟩] v w
 | 6, v, w => ∃ qv uv, v = .agg #[qv, uv] ∧ RowV k49 [⟨9, 9⟩] qv w ∧ RowV k49 [⟨0, 0⟩] uv w
 | 7, v, w => Acc v w
 | 8, v, w => Acc v w
 | _, _, _ => True
theorem post53_st (i : Nat) (v : Value) (w w' : World) (h : post53 i v w) (hb : Below w.heap.size w w') : post53 i v w' := by
 unfold post53 at h ⊢
 split at h
 ·exact h.step hb
 ·exact h.step hb
 ·exact h.step hb
 ·obtain ⟨q, u, h1, h2, h3⟩ := h; exact ⟨q, u, h1, h2.step hb, h3.step hb⟩
 ·exact h.step hb
 ·exact h.step hb
 ·trivial
theorem make49 (w : World) : (Instr.makeSlice 33 (.int .i64 1) (.int .i64 1)).run Try.prog w = .ok (.slice (some ⟨w.heap.size, 0, none⟩) 1 1) (w.alloc (.cells #[.int .i64 0, .int .i64 0] 49)) := by
 kernel_rfl
set_option maxHeartbeats 8000000 in
set_option maxRecDepth 100000 in
theorem new06 (A : Option Addr) (c : Nat) (w : World) (hr : Kd.C k49 w A 1 [⟨9, 9⟩]) (hc : 1 ≤ c) : Calls Try.prog 53 #[.slice A 1 c] w fun e w' => ∃ v, e = .returned v ∧ Acc v w' ∧ Below w.heap.size w w' := by
 have hu33 := Try.underlying33
 have hu49 := Try.underlying49
 have hu105 := Try.underlying105
 have hu100 := Try.underlying100
 have hu3 := Try.underlying3
 have : Be w w := ⟨Below.refl _ _⟩
 have HR := Aside0.mk hr
 clear hr
 go_enter Try.func53, Try.ntmps53
 go_upto_region 1 with (fail)
 refine start_ (n := 9) (S := fun w' => True) (ds := []) #[false, false, false, false, false, false, false, false, false] (by kernel_rfl) rfl rfl trivial (fun hHeld => ?_)
 refine with_tabW R53.tab1 R53.bits1 (fun HT_ HW_ => ?_)
 refine pure_ (i := 1) (N := some 4) (v := ?_) (a' := ?_) #[false, true, false, false, false, false, false, false, false] rfl rfl (any_of HT_.out (by kernel_rfl)) (fun _ _ _ h => h) (Or.inl ⟨by rfl, ?_⟩) ?_ ?_
 rotate_left
 ·intro w'
  go_simp
  with_reducible rfl
 rotate_left
 ·simp only [Act.put, List.setIfInBounds_toArray, List.set_cons_zero, List.set_cons_succ, i64_w, i32_w]
  rfl
 refine pure_ (i := 3) (N := some 6) (v := ?_) (a' := ?_) #[false, true, false, true, false, false, false, false, false] rfl rfl (any_of HT_.out (by kernel_rfl)) (fun _ _ _ h => h) (Or.inl ⟨by rfl, ?_⟩) ?_ ?_
 rotate_left
 ·intro w'
  go_simp
  with_reducible rfl
 rotate_left
 ·simp only [Act.put, List.setIfInBounds_toArray, List.set_cons_zero, List.set_cons_succ, i64_w, i32_w]
  rfl
 refine pure_ (i := 4) (N := some 7) (v := ?_) (a' := ?_) #[false, true, false, true, true, false, false, false, false] rfl rfl (any_of HT_.out (by kernel_rfl)) (fun _ _ _ h => h) (Or.inl ⟨by rfl, ?_⟩) ?_ ?_
 rotate_left
 ·intro w'
  go_simp
  with_reducible rfl
 rotate_left
 ·simp only [Act.put, List.setIfInBounds_toArray, List.set_cons_zero, List.set_cons_succ, i64_w, i32_w]
  rfl
 refine anyI HT_.out [(0, 3), (2, 5), (5, 8), (6, 9), (7, 10), (8, 2)] #[true, true, true, true, true, true, true, true, true] (post53) (by kernel_rfl) (by kernel_rfl) (by kernel_rfl) (by rfl) (post53_st) ?hS ?step 0 ?fin rfl
 case hS => exact fun w' hb => trivial
 case step =>
  intro p hp o ho a w2 hb hev hpost K hK
  simp only [List.mem_cons, List.not_mem_nil, or_false] at hp
  rcases hp with rfl | rfl | rfl | rfl | rfl | rfl
  ·obtain rfl := Option.some.inj ho
   clear ho
   refine value_ rfl rfl (w1 := w2.alloc (.cells #[] 49)) (v := .slice (some ⟨w2.heap.size, 0, none⟩) 0 0) (by first | (go_simp; done) | (go_simp; rfl)) (hK _ _ (below_alloc (Below.refl _ _) _) (Lit0.new _ _ _))
  ·obtain rfl := Option.some.inj ho
   clear ho
   have h4 : a.eval (.tmp 4) = .slice A 1 c := (hev 4 (by decide)).trans rfl
   have hp0 := (hpost (0, 3) (by simp) (by kernel_rfl))
   exact appE_step k49 rfl rfl (.tmp 3) (.tmp 4) 33 49 (.agg #[.int .i64 0, .int .i64 0]) 16 rfl Try.underlying33 info49 rfl (by decide) (ys := [⟨9, 9⟩]) rfl h4 hp0 (Kd.C_below HR.out ((below_drew1 (Below.refl _ _)).trans hb)) (by decide) (by decide) (by decide) (fun v1 w1 h1 h2 => hK _ _ h1 h2)
  ·obtain rfl := Option.some.inj ho
   clear ho
   have h7 : a.eval (.tmp 7) = .int .i64 1 := (hev 7 (by decide)).trans rfl
   have e7 := ev_get h7
   have hm := make49 w2
   have : Bx (w2.alloc (.cells #[.int .i64 0, .int .i64 0] 49)) w2.heap.size #[.int .i64 0, .int .i64 0] 49 := bxNew
   refine value_ rfl rfl (w1 := w2.alloc (.cells #[.int .i64 0, .int .i64 0] 49)) (v := .slice (some ⟨w2.heap.size, 0, none⟩) 1 1) (by first | (go_simp; done) | (go_simp; rfl)) (hK _ _ (below_alloc (Below.refl _ _) _) ⟨_, 1, rfl, rowBx (k49_mk _ ⟨0, 0⟩), Nat.le_refl _⟩)
  ·obtain rfl := Option.some.inj ho
   clear ho
   obtain ⟨A5, c5, h5, g5, l5⟩ := (show RowV k49 [⟨9, 9⟩] (a.eval (.tmp 5)) w2 from (hpost (2, 5) (by simp) (by kernel_rfl)))
   obtain ⟨A8, c8, h8, g8, l8⟩ := (show RowV k49 [⟨0, 0⟩] (a.eval (.tmp 8)) w2 from (hpost (5, 8) (by simp) (by kernel_rfl)))
   have e5 := ev_get h5
   have e8 := ev_get h8
   refine value_ rfl rfl (w1 := w2) (v := .agg #[.slice A5 1 c5, .slice A8 1 c8]) (by first | (go_simp; done) | (go_simp; rfl)) (hK _ _ (Below.refl _ _) ⟨_, _, rfl, ⟨A5, c5, rfl, g5, l5⟩, ⟨A8, c8, rfl, g8, l8⟩⟩)
  ·obtain rfl := Option.some.inj ho
   clear ho
   obtain ⟨_, _, h9, ⟨A5, c5, rfl, g5, l5⟩, ⟨A8, c8, rfl, g8, l8⟩⟩ := (show ∃ qv uv, a.eval (.tmp 9) = .agg #[qv, uv] ∧ RowV k49 [⟨9, 9⟩] qv w2 ∧ RowV k49 [⟨0, 0⟩] uv w2 from (hpost (6, 9) (by simp) (by kernel_rfl)))
   have e9 := ev_get h9
   refine value_ rfl rfl (w1 := w2.alloc (.cells #[.slice A5 1 c5, .slice A8 1 c8] 105)) (v := .pointer (some ⟨w2.heap.size, 0, none⟩)) (by first | (go_simp; done) | (go_simp; rfl)) (hK _ _ (below_alloc (Below.refl _ _) _) ⟨_, _, _, rfl, bxNew, RowV.step ⟨A8, c8, rfl, g8, l8⟩ (below_alloc (Below.refl _ _) _)⟩)
  ·obtain rfl := Option.some.inj ho
   clear ho
   obtain ⟨g, q, u, h10, hb1, hb2⟩ := (show Acc (a.eval (.tmp 10)) w2 from (hpost (7, 10) (by simp) (by kernel_rfl)))
   have e10 := ev_get h10
   refine value_ rfl rfl (w1 := w2) (v := .pointer (some ⟨g, 0, none⟩)) (by first | (go_simp; done) | (go_simp; rfl)) (hK _ _ (Below.refl _ _) ⟨g, q, u, rfl, hb1, hb2⟩)
 case fin =>
  intro f w2 hb hpost
  have hacc := (show Acc (f 2) w2 from hpost (8, 2) (by simp))
  simp only [putL, List.map, Act.put, List.setIfInBounds_toArray, List.set_cons_zero, List.set_cons_succ]
  generalize f 3 = u3 at *
  generalize f 5 = u5 at *
  generalize f 8 = u8 at *
  generalize f 9 = u9 at *
  generalize f 10 = u10 at *
  generalize f 2 = u2 at *
  refine done_ (done_of HT_.out (by kernel_rfl)) ?_
  have HA := Aside0.mk hacc
  have HB := Aside0.mk ((below_drew1 (Below.refl w.heap.size w)).trans (hb.mono (Nat.le_refl _)))
  clear hacc hpost hb
  go_wp2
  go_ret
  exact ⟨_, rfl, HA.out, HB.out⟩
end Go.Proofs.Ytpedlompipabdaa.P
namespace Go.Proofs.Ytpedlompipabdaa.P
open Go.RowKit Go.Proofs.YtpedlompipabdaaW.PrintWords Go.Proofs.YtpedlompipabdaaW.PrintLast Go.Proofs.YtpedlompipabdaaW.PrintMore
attribute [local go_sem] max2_int min2_int max_two min_two max_three min_three max_four min_four
set_option linter.unusedVariables false
set_option linter.unusedSimpArgs false
def ensembleref01_bit.l0 : Nat → Int → Int → Int → Option (Int)
 | 0, _, _, _ => none
 | k + 1, x0, x3, x4 => if x4 < x0 then (ensembleref01_bit.l0 k x0 (IntKind.u64.wrap (x3 * 2)) (wrap64 (x4 + 1))) else (some x3)
def ensembleref01_bit.f (k : Nat) (a0 : Int) : Option (Int) := ensembleref01_bit.l0 k a0 1 0
theorem ensembleref01_bit.mono_l : ∀ k, (∀ y0 y1 y2, LeO (ensembleref01_bit.l0 k y0 y1 y2) (ensembleref01_bit.l0 (k + 1) y0 y1 y2))
 | 0 => fun _ _ _ r h => by simp [ensembleref01_bit.l0] at h
 | k + 1 => by
  have ih0 := ensembleref01_bit.mono_l k
  ·intro y0 y1 y2
   unfold ensembleref01_bit.l0
   repeat' first
   | (with_reducible exact ih0 _ _ _)
   | (with_reducible exact LeO.refl _)
   | (with_reducible exact LeO.none _)
   | (with_reducible refine LeO.ite ?_ ?_)
   | (with_reducible refine LeO.bind ?_ (fun _ => ?_))
   | exact ih0 _ _ _
   | exact LeO.none _
   | refine LeO.ite ?_ ?_
   | refine LeO.bind ?_ (fun _ => ?_)
theorem ensembleref01_bit.mono : ∀ a0 k, LeO (ensembleref01_bit.f k a0) (ensembleref01_bit.f (k + 1) a0) := by
 intro a0 k
 have ih0 := ensembleref01_bit.mono_l k
 unfold ensembleref01_bit.f
 repeat' first
   | (with_reducible exact ih0 _ _ _)
   | (with_reducible exact LeO.refl _)
   | (with_reducible exact LeO.none _)
   | (with_reducible refine LeO.ite ?_ ?_)
   | (with_reducible refine LeO.bind ?_ (fun _ => ?_))
   | exact ih0 _ _ _
   | exact LeO.none _
   | refine LeO.ite ?_ ?_
   | refine LeO.bind ?_ (fun _ => ?_)
set_option maxHeartbeats 8000000 in
set_option maxRecDepth 100000 in
theorem ensembleref01_bit.calls (k : Nat) (a0 : Int) (r : Int) (w : World) (h : ensembleref01_bit.f k a0 = some r) :
  Calls Try.prog 51 #[.int .i64 a0] w fun e w' => e = .returned (.int .u64 r) ∧ Drawn0 w w' := by
 have H : (ensembleref01_bit.l0 k a0 1 0) = some r := h
 clear h
 have H' := Aside0.mk H
 clear H
 go_enter Try.func51, Try.ntmps51
 go_wp2
 go_loopg [3, 4] k (fun kq v3 v4 w' => ∃ (x3_1 : Int) (x4_1 : Int), v3 = .int .u64 x3_1 ∧ v4 = .int .i64 x4_1 ∧ Aside0 (ensembleref01_bit.l0 kq a0 x3_1 x4_1 = some r) ∧ Aside0 (kq ≤ k) ∧ Drawn0 w w')
 case atStart => exact ⟨(1), (0), (by first | rfl | (simp; done) | (simp [*]; done)), (by first | rfl | (simp; done) | (simp [*]; done)), H', ⟨Nat.le_refl _⟩, by repeat (first | exact Drawn0.refl _ | apply Drawn0.step)⟩
 case round =>
  clear H'
  obtain ⟨x3_1, x4_1, rfl, rfl, HA, HK1, ⟨m1, rfl⟩⟩ := hrel
  cases gk with
  | zero => exact absurd HA.out (by simp [ensembleref01_bit.l0])
  | succ k1 =>
   have H := HA.out
   clear HA
   simp only [ensembleref01_bit.l0] at H
   by_cases c2 : x4_1 < a0
   ·rw [if_pos c2] at H
    have c2b0 : decide (x4_1 < a0) = true := decide_eq_true c2
    clear c2
    have H' := Aside0.mk H
    clear H
    go_wp2
    go_roundg k1
    case measure => have := HK1.out; omega
    case rel => exact ⟨(IntKind.u64.wrap (x3_1 * 2)), (wrap64 (x4_1 + 1)), (by first | rfl | (simp; done) | (simp [*]; done)), (by first | rfl | (simp; done) | (simp [*]; done)), H', ⟨by have := HK1.out; omega⟩, by repeat (first | exact Drawn0.refl _ | apply Drawn0.step)⟩
   ·rw [if_neg c2] at H
    have c2b0 : decide (x4_1 < a0) = false := decide_eq_false c2
    clear c2
    obtain rfl := Option.some.inj H
    go_wp2
    go_ret
    exact ⟨by first | rfl | (simp; done) | (simp [*]; done), by repeat (first | exact Drawn0.refl _ | apply Drawn0.step)⟩
end Go.Proofs.Ytpedlompipabdaa.P
namespace Go.Proofs.Ytpedlompipabdaa.P
open Go.RowKit Go.Proofs.YtpedlompipabdaaW.PrintWords Go.Proofs.YtpedlompipabdaaW.PrintLast Go.Proofs.YtpedlompipabdaaW.PrintMore
attribute [local go_sem] max2_int min2_int max_two min_two max_three min_three max_four min_four
set_option linter.unusedVariables false
set_option linter.unusedSimpArgs false
def ensembleref01_First.l0 : Nat → Int → Int → Int → Option (Int)
 | 0, _, _, _ => none
 | k + 1, x0, x3, x4 => if x4 < x0 then (if x4 < 64 then ((ensembleref01_bit.f k x4).bind fun t149 => (ensembleref01_First.l0 k x0 (IntKind.u64.wrap (x3 + t149)) (wrap64 (x4 + 1)))) else (some x3)) else (some x3)
def ensembleref01_First.f (k : Nat) (a0 : Int) : Option (Int) := ensembleref01_First.l0 k a0 0 0
theorem ensembleref01_First.mono_l : ∀ k, (∀ y0 y1 y2, LeO (ensembleref01_First.l0 k y0 y1 y2) (ensembleref01_First.l0 (k + 1) y0 y1 y2))
 | 0 => fun _ _ _ r h => by simp [ensembleref01_First.l0] at h
 | k + 1 => by
  have ih0 := ensembleref01_First.mono_l k
  ·intro y0 y1 y2
   unfold ensembleref01_First.l0
   repeat' first
   | (with_reducible exact ih0 _ _ _)
   | (with_reducible exact ensembleref01_bit.mono _ _)
   | (with_reducible exact LeO.refl _)
   | (with_reducible exact LeO.none _)
   | (with_reducible refine LeO.ite ?_ ?_)
   | (with_reducible refine LeO.bind ?_ (fun _ => ?_))
   | exact ih0 _ _ _
   | exact ensembleref01_bit.mono _ _
   | exact LeO.none _
   | refine LeO.ite ?_ ?_
   | refine LeO.bind ?_ (fun _ => ?_)
theorem ensembleref01_First.mono : ∀ a0 k, LeO (ensembleref01_First.f k a0) (ensembleref01_First.f (k + 1) a0) := by
 intro a0 k
 have ih0 := ensembleref01_First.mono_l k
 unfold ensembleref01_First.f
 repeat' first
   | (with_reducible exact ih0 _ _ _)
   | (with_reducible exact ensembleref01_bit.mono _ _)
   | (with_reducible exact LeO.refl _)
   | (with_reducible exact LeO.none _)
   | (with_reducible refine LeO.ite ?_ ?_)
   | (with_reducible refine LeO.bind ?_ (fun _ => ?_))
   | exact ih0 _ _ _
   | exact ensembleref01_bit.mono _ _
   | exact LeO.none _
   | refine LeO.ite ?_ ?_
   | refine LeO.bind ?_ (fun _ => ?_)
set_option maxHeartbeats 8000000 in
set_option maxRecDepth 100000 in
theorem ensembleref01_First.calls (k : Nat) (a0 : Int) (r : Int) (w : World) (h : ensembleref01_First.f k a0 = some r) :
  Calls Try.prog 27 #[.int .i64 a0] w fun e w' => e = .returned (.int .u64 r) ∧ Drawn0 w w' := by
 have H : (ensembleref01_First.l0 k a0 0 0) = some r := h
 clear h
 have H' := Aside0.mk H
 clear H
 go_enter Try.func27, Try.ntmps27
 go_wp2
 go_loopg [3, 4] k (fun kq v3 v4 w' => ∃ (x3_1 : Int) (x4_1 : Int), v3 = .int .u64 x3_1 ∧ v4 = .int .i64 x4_1 ∧ Aside0 (ensembleref01_First.l0 kq a0 x3_1 x4_1 = some r) ∧ Aside0 (kq ≤ k) ∧ Drawn0 w w')
 case atStart => exact ⟨(0), (0), (by first | rfl | (simp; done) | (simp [*]; done)), (by first | rfl | (simp; done) | (simp [*]; done)), H', ⟨Nat.le_refl _⟩, by repeat (first | exact Drawn0.refl _ | apply Drawn0.step)⟩
 case round =>
  clear H'
  obtain ⟨x3_1, x4_1, rfl, rfl, HA, HK1, ⟨m1, rfl⟩⟩ := hrel
  cases gk with
  | zero => exact absurd HA.out (by simp [ensembleref01_First.l0])
  | succ k1 =>
   have H := HA.out
   clear HA
   simp only [ensembleref01_First.l0] at H
   by_cases c2 : x4_1 < a0
   ·rw [if_pos c2] at H
    have c2b0 : decide (x4_1 < a0) = true := decide_eq_true c2
    clear c2
    by_cases c3 : x4_1 < 64
    ·rw [if_pos c3] at H
     have c3b0 : decide (x4_1 < 64) = true := decide_eq_true c3
     clear c3
     replace H := Option.bind_eq_some_iff.mp H
     obtain ⟨t149, A40, H⟩ := H
     replace H : (ensembleref01_First.l0 k1 a0 (IntKind.u64.wrap (x3_1 + t149)) (wrap64 (x4_1 + 1))) = some r := H
     have A4 := Aside0.mk A40
     clear A40
     have H' := Aside0.mk H
     clear H
     go_wp2_with (first | ((with_reducible refine gate_callee (f := 51) rfl ?_); refine goesL_ (some 16) rfl rfl Try.func51 (by kernel_rfl) rfl #[.int .i64 x4_1] rfl (by (try simp only [List.map_toArray, List.map_cons, List.map_nil]); first | done | rfl | (simp only [List.length_drop, List.length_take]; rfl)) ?_; (with_reducible refine (ensembleref01_bit.calls k1 x4_1 t149 _ A4.out).mono ?_); rintro e w' ⟨rfl, ⟨nd, rfl⟩⟩; refine ⟨_, rfl, ?_⟩))
     go_roundg k1
     case measure => have := HK1.out; omega
     case rel => exact ⟨(IntKind.u64.wrap (x3_1 + t149)), (wrap64 (x4_1 + 1)), (by first | rfl | (simp; done) | (simp [*]; done)), (by first | rfl | (simp; done) | (simp [*]; done)), H', ⟨by have := HK1.out; omega⟩, by repeat (first | exact Drawn0.refl _ | apply Drawn0.step)⟩
    ·rw [if_neg c3] at H
     have c3b0 : decide (x4_1 < 64) = false := decide_eq_false c3
     clear c3
     obtain rfl := Option.some.inj H
     go_wp2
     go_ret
     exact ⟨by first | rfl | (simp; done) | (simp [*]; done), by repeat (first | exact Drawn0.refl _ | apply Drawn0.step)⟩
   ·rw [if_neg c2] at H
    have c2b0 : decide (x4_1 < a0) = false := decide_eq_false c2
    clear c2
    obtain rfl := Option.some.inj H
    go_wp2
    go_ret
    exact ⟨by first | rfl | (simp; done) | (simp [*]; done), by repeat (first | exact Drawn0.refl _ | apply Drawn0.step)⟩
end Go.Proofs.Ytpedlompipabdaa.P
namespace Go.Proofs.Ytpedlompipabdaa.P
open Go.RowKit Go.Proofs.YtpedlompipabdaaW.PrintWords Go.Proofs.YtpedlompipabdaaW.PrintLast Go.Proofs.YtpedlompipabdaaW.PrintMore
attribute [local go_sem] max2_int min2_int max_two min_two max_three min_three max_four min_four
set_option linter.unusedVariables false
set_option linter.unusedSimpArgs false
mutual
def ensembleref02_All.l0 : Nat → List (S58) → Int → List (S83) → Option ((List (S58)))
 | 0, _, _, _ => none
 | k + 1, x3, x4, x151000 => if x4 < (x151000.length : Int) then (ensembleref02_All.l1 k x3 x4 0 x151000) else (some x3)
def ensembleref02_All.l1 : Nat → List (S58) → Int → Int → List (S83) → Option ((List (S58)))
 | 0, _, _, _, _ => none
 | k + 1, x3, x4, x5, x151000 => if 0 ≤ x4 then (if x4 < (x151000.length : Int) then (if x5 < (((rd_T83 x151000 x4).f0).length : Int) then (if 0 ≤ x5 then ((ensembleref01_First.f k ((rd_T84 ((rd_T83 x151000 x4).f0) x5).f0)).bind fun t155 => (if x3.length < 4398046511104 then (ensembleref02_All.l1 k (x3 ++ [(⟨(⟨x4, x5⟩ : S56), t155, (rd_T84 ((rd_T83 x151000 x4).f0) x5).f1⟩ : S58)]) x4 (wrap64 (x5 + 1)) x151000) else (none))) else (none)) else (ensembleref02_All.l0 k x3 (wrap64 (x4 + 1)) x151000)) else (none)) else (none)
end
def ensembleref02_All.f (k : Nat) (l0_0 : List (S83)) : Option ((List (S58))) := ensembleref02_All.l0 k ([] : List (S58)) 0 l0_0
def ensembleref02_All.T9 : Bool × List (List Nat × List Nat) := (true, [([], []), ([], []), ([], []), ([1, 2], [1, 2]), ([], []), ([4], [4]), ([5], [5]), ([], []), ([7], [7]), ([3, 6, 8], [3, 6, 8]), ([9], [9]), ([0, 10, 6], [0, 10]), ([11, 11, 0, 1, 2, 3, 4, 5, 6, 7, 8, 9, 10, 11], [0, 11])])
def ensembleref02_All.B9 : List Nat := [0, 0, 0, 6, 0, 16, 48, 0, 128, 510, 1022, 2047, 4095]
theorem ensembleref02_All.tab9 : rtab .any (opsOf Try.f9 9) = ensembleref02_All.T9 := by kernel_rfl
theorem ensembleref02_All.bits9 : waitsOk ensembleref02_All.T9.2 ensembleref02_All.B9 = true := by kernel_rfl
set_option maxHeartbeats 8000000 in
set_option maxRecDepth 100000 in
theorem ensembleref02_All.calls (k : Nat) (A0_0 : Option Addr) (c0_0 : Nat) (l0_0 : List (S83)) (r : List (S58)) (w : World) (hr0_0 : Kd.C k83 w A0_0 l0_0.length l0_0) (hc0_0 : l0_0.length ≤ c0_0) (h : ensembleref02_All.f k l0_0 = some r) :
  Calls Try.prog 9 #[.agg #[.slice A0_0 l0_0.length c0_0]] w fun e w' => ∃ v0_ : Value, e = .returned (v0_) ∧ Kd.R k58 58 w' w.heap.size (fun _ => True) v0_ r ∧ Below w.heap.size w w' := by
 have hu24 := Try.underlying24
 have hu84 := Try.underlying84
 have hu56 := Try.underlying56
 have hu58 := Try.underlying58
 have HR0_0 := Aside0.mk hr0_0
 have HC0_0 := Aside0.mk hc0_0
 clear hr0_0 hc0_0
 have HB := Aside0.mk (Below.refl w.heap.size w)
 have H : (ensembleref02_All.l0 k ([] : List (S58)) 0 l0_0) = some r := h
 clear h
 have H' := Aside0.mk H
 clear H
 go_enter Try.func9, Try.ntmps9
 go_wp2_with (first | ((with_reducible refine gate_dst (N := 1) rfl ?_); refine box_event ?hg (N := 1) ?hd (cs := #[.slice A0_0 l0_0.length c0_0]) (t := 24) ?hr ?_; (case hd => rfl); (case hg => rfl); (case hr => first | (go_simp; done) | (go_simp; rfl)); intro gb150 hg w2 hbox hb; have n0_ := Aside0.mk (below_step (by repeat (first | (with_reducible first | exact HB.out | apply below_alloc | apply pw_below_drewN | apply below_drew1) | exact HB.out)) hb); have n1_ := Aside0.mk (hbox); have n2_ := Aside0.mk ((by rw [hg]; exact (below_size (by repeat (first | (with_reducible first | exact HB.out | apply below_alloc | apply pw_below_drewN | apply below_drew1) | exact HB.out))) : w.heap.size ≤ gb150)); have n3_ := Aside0.mk ((by rw [hg]; exact (below_size (by repeat (first | (with_reducible first | exact HB.out | apply below_alloc | apply pw_below_drewN | apply below_drew1) | exact HB.out))) : w.heap.size ≤ gb150)); clear HB; have HB := n0_; have BK150 := n1_; have GW150 := n2_; have GE150 := n3_; clear n0_ n1_ n2_ n3_; clear hb hbox hg))
 go_loopg [3, 4] k (fun kq v3 v4 w' => ∃ (x3_1 : List (S58)) (x4_1 : Int), v4 = .int .i64 x4_1 ∧ Aside0 (ensembleref02_All.l0 kq x3_1 x4_1 l0_0 = some r) ∧ Aside0 (kq ≤ k) ∧ Aside0 (Kd.R k58 58 w' w.heap.size (fun _ => True) v3 x3_1) ∧ Aside0 (w'.heap[gb150]? = some (.cells #[(.slice A0_0 l0_0.length c0_0)] 24 (0, 0))) ∧ Aside0 (Below w.heap.size w w'))
 case atStart => exact ⟨(([] : List (S58))), (0), (by first | rfl | (simp; done) | (simp [*]; done)), H', ⟨Nat.le_refl _⟩, ⟨by first | exact Kd.R_nil _ _ _ _ _ | exact Kd.N_nil _ _ _ _ _ | exact Kd.V_nil _ _ _ _ _ | exact Kd.Q_nil _ _ _ _ _ | exact Kd.S_nil _ _ _ _ _⟩, ⟨by (with_reducible repeat (first | refine blk_drewN ?_ _ | refine blk_drew ?_ | refine blk_alloc ?_ _)); exact BK150.out⟩, ⟨by repeat (first | (with_reducible first | exact HB.out | apply below_alloc | apply pw_below_drewN | apply below_drew1 | refine below_set ?_ GE150.out) | exact HB.out)⟩⟩
 case round =>
  clear H'
  try clear p2
  obtain ⟨x3_1, x4_1, rfl, HA, HK1, HO_3, BK150, HB⟩ := hrel
  cases gk with
  | zero => exact absurd HA.out (by simp [ensembleref02_All.l0])
  | succ k1 =>
   have H := HA.out
   clear HA
   simp only [ensembleref02_All.l0] at H
   by_cases c3 : x4_1 < (l0_0.length : Int)
   ·rw [if_pos c3] at H
    have c3b0 : decide (x4_1 < (l0_0.length : Int)) = true := decide_eq_true c3
    clear c3
    have H' := Aside0.mk H
    clear H
    have hcz4_0 : wr.cell? ⟨gb150, 0, none⟩ = some (.slice A0_0 l0_0.length c0_0) := (blk_cell BK150.out 0).trans rfl
    have hfz4_0 := blk_frozen BK150.out 0
    go_wp2
    go_loopg [3, 5] k1 (fun kq v3 v5 w' => ∃ (x3_2 : List (S58)) (x5_2 : Int), v5 = .int .i64 x5_2 ∧ Aside0 (ensembleref02_All.l1 kq x3_2 x4_1 x5_2 l0_0 = some r) ∧ Aside0 (kq ≤ k1) ∧ Aside0 (Kd.R k58 58 w' w.heap.size (fun _ => True) v3 x3_2) ∧ Aside0 (w'.heap[gb150]? = some (.cells #[(.slice A0_0 l0_0.length c0_0)] 24 (0, 0))) ∧ Aside0 (Below w.heap.size w w'))
    case atStart => exact ⟨(x3_1), (0), (by first | rfl | (simp; done) | (simp [*]; done)), H', ⟨Nat.le_refl _⟩, ⟨by (with_reducible repeat (first | apply Kd.R_alloc | apply Kd.R_drewN | apply Kd.R_drew)); exact HO_3.out⟩, ⟨by (with_reducible repeat (first | refine blk_drewN ?_ _ | refine blk_drew ?_ | refine blk_alloc ?_ _)); exact BK150.out⟩, ⟨by repeat (first | (with_reducible first | exact HB.out | apply below_alloc | apply pw_below_drewN | apply below_drew1 | refine below_set ?_ GE150.out) | exact HB.out)⟩⟩
    case round =>
     clear H'
     try clear p2
     try clear c3
     try clear c3b0
     try clear hcz4_0
     try clear hfz4_0
     try clear p2
     obtain ⟨x3_2, x5_2, rfl, HA, HK2, HO_3, BK150, HB⟩ := hrel
     cases gk with
     | zero => exact absurd HA.out (by simp [ensembleref02_All.l1])
     | succ k2 =>
      have H := HA.out
      clear HA
      simp only [ensembleref02_All.l1] at H
      by_cases c5 : 0 ≤ x4_1
      ·rw [if_pos c5] at H
       have c5b0 : decide (0 ≤ x4_1) = true := decide_eq_true c5
       clear c5
       by_cases c6 : x4_1 < (l0_0.length : Int)
       ·rw [if_pos c6] at H
        have c6b0 : decide (x4_1 < (l0_0.length : Int)) = true := decide_eq_true c6
        clear c6
        by_cases c7 : x5_2 < (((rd_T83 l0_0 x4_1).f0).length : Int)
        ·rw [if_pos c7] at H
         have c7b0 : decide (x5_2 < (((rd_T83 l0_0 x4_1).f0).length : Int)) = true := decide_eq_true c7
         clear c7
         by_cases c8 : 0 ≤ x5_2
         ·rw [if_pos c8] at H
          have c8b0 : decide (0 ≤ x5_2) = true := decide_eq_true c8
          clear c8
          replace H := Option.bind_eq_some_iff.mp H
          obtain ⟨t155, A90, H⟩ := H
          replace H : (if x3_2.length < 4398046511104 then (ensembleref02_All.l1 k2 (x3_2 ++ [(⟨(⟨x4_1, x5_2⟩ : S56), t155, (rd_T84 ((rd_T83 l0_0 x4_1).f0) x5_2).f1⟩ : S58)]) x4_1 (wrap64 (x5_2 + 1)) l0_0) else (none)) = some r := H
          have A9 := Aside0.mk A90
          clear A90
          by_cases c10 : x3_2.length < 4398046511104
          ·rw [if_pos c10] at H
           have LMc10 := Aside0.mk c10
           clear c10
           obtain ⟨y156, hy156⟩ : ∃ y_ : List (S58), y_ = (x3_2 ++ [(⟨(⟨x4_1, x5_2⟩ : S56), t155, (rd_T84 ((rd_T83 l0_0 x4_1).f0) x5_2).f1⟩ : S58)]) := ⟨_, rfl⟩
           replace H : (ensembleref02_All.l1 k2 y156 x4_1 (wrap64 (x5_2 + 1)) l0_0) = some r := by first | (rw [hy156]; with_reducible exact H) | (have H2_ := (Option.bind_some _ _).symm.trans H; rw [hy156]; with_reducible exact H2_) | (have H2_ := (Option.bind_some _ _).symm.trans H; with_reducible exact H2_) | with_reducible exact H | (rw [hy156]; exact H) | exact H
           have Ny156 := Aside0.mk hy156
           clear hy156
           have H' := Aside0.mk H
           clear H
           have hcz11_0 : wr.cell? ⟨gb150, 0, none⟩ = some (.slice A0_0 l0_0.length c0_0) := (blk_cell BK150.out 0).trans rfl
           have hfz11_0 := blk_frozen BK150.out 0
           have p151 : 0 ≤ (x4_1 : Int) := of_decide_eq_true (by first | (with_reducible assumption) | assumption)
           have q151 : x4_1 < (l0_0.length : Int) := of_decide_eq_true (by first | (with_reducible assumption) | assumption)
           obtain ⟨ad151, A151_0, c151_0, e151, hx151_0, hl151_0, hi151_0⟩ := at_T83 HR0_0.out x4_1 p151 q151
           cases e151
           replace hx151_0 := (HB.out.cell (World.block_lt_of_cell? w _ hx151_0)).trans hx151_0
           have HR151_0 := Aside0.mk hi151_0
           have HC151_0 := Aside0.mk hl151_0
           clear hi151_0 hl151_0
           replace p151 := eq_true p151
           replace q151 := eq_true q151
           have p152 : 0 ≤ (x4_1 : Int) := of_decide_eq_true (by first | (with_reducible assumption) | assumption)
           have q152 : x4_1 < (l0_0.length : Int) := of_decide_eq_true (by first | (with_reducible assumption) | assumption)
           obtain ⟨ad152, A152_0, c152_0, e152, hx152_0, hl152_0, hi152_0⟩ := at_T83 HR0_0.out x4_1 p152 q152
           obtain rfl : ad151 = ad152 := (by injection e152)
           replace hx152_0 := (HB.out.cell (World.block_lt_of_cell? w _ hx152_0)).trans hx152_0
           have HR152_0 := Aside0.mk hi152_0
           have HC152_0 := Aside0.mk hl152_0
           clear hi152_0 hl152_0
           replace p152 := eq_true p152
           replace q152 := eq_true q152
           have ea_ := Option.some.inj (hx151_0.symm.trans hx152_0)
           injection ea_ with ea_ en_ ec_
           subst ea_
           subst ec_
           clear en_
           have p153 : 0 ≤ (x5_2 : Int) := of_decide_eq_true (by first | (with_reducible assumption) | assumption)
           have q153 : x5_2 < (((rd_T83 l0_0 x4_1).f0).length : Int) := of_decide_eq_true (by first | (with_reducible assumption) | assumption)
           obtain ⟨ad153, e153, hx153_0, hx153_1⟩ := at_T84 HR152_0.out x5_2 p153 q153
           cases e153
           replace hx153_0 := (HB.out.cell (World.block_lt_of_cell? w _ hx153_0)).trans hx153_0
           replace hx153_1 := (HB.out.cell (World.block_lt_of_cell? w _ hx153_1)).trans hx153_1
           replace p153 := eq_true p153
           replace q153 := eq_true q153
           try go_wp2_with (first | ((with_reducible refine gate_dst (N := 6) rfl ?_); refine box_event ?hg (N := 6) ?hd (cs := #[.int .i64 0, .int .i64 0]) (t := 84) ?hr ?_; (case hd => rfl); (case hg => rfl); (case hr => first | (go_simp; done) | (go_simp; rfl)); intro gb154 hg w12 hbox hb; have n0_ := Aside0.mk (Kd.R_below (by (with_reducible repeat (first | apply Kd.R_alloc | apply Kd.R_drewN | apply Kd.R_drew)); exact HO_3.out) hb); have n1_ := Aside0.mk (blk_below (g := gb150) (o := .cells #[.slice (some ad151) l0_0.length c0_0] 24 (0, 0)) (by (with_reducible repeat (first | refine blk_drewN ?_ _ | refine blk_drew ?_ | refine blk_alloc ?_ _)); exact BK150.out) hb); have n2_ := Aside0.mk (below_step (by repeat (first | (with_reducible first | exact HB.out | apply below_alloc | apply pw_below_drewN | apply below_drew1 | refine below_set ?_ GE150.out) | exact HB.out)) hb); have n3_ := Aside0.mk (hbox); have n4_ := Aside0.mk ((by rw [hg]; exact (below_size (by repeat (first | (with_reducible first | exact HB.out | apply below_alloc | apply pw_below_drewN | apply below_drew1 | refine below_set ?_ GE150.out) | exact HB.out))) : w.heap.size ≤ gb154)); have n5_ := Aside0.mk ((by rw [hg]; exact (below_size (by repeat (first | (with_reducible first | exact HB.out | apply below_alloc | apply pw_below_drewN | apply below_drew1 | refine below_set ?_ GE150.out) | exact HB.out))) : w.heap.size ≤ gb154)); have n6_ := Aside0.mk ((by rw [hg]; exact Nat.ne_of_lt (blk_lt (g := gb150) (o := .cells #[.slice (some ad151) l0_0.length c0_0] 24 (0, 0)) (by (with_reducible repeat (first | refine blk_drewN ?_ _ | refine blk_drew ?_ | refine blk_alloc ?_ _)); exact BK150.out)) : gb150 ≠ gb154)); have n7_ := Aside0.mk ((by rw [hg]; exact Nat.ne_of_gt (blk_lt (g := gb150) (o := .cells #[.slice (some ad151) l0_0.length c0_0] 24 (0, 0)) (by (with_reducible repeat (first | refine blk_drewN ?_ _ | refine blk_drew ?_ | refine blk_alloc ?_ _)); exact BK150.out)) : gb154 ≠ gb150)); clear HO_3; clear BK150; clear HB; have HO_3 := n0_; have BK150 := n1_; have HB := n2_; have BK154 := n3_; have GW154 := n4_; have GE154 := n5_; have NB150_154 := n6_; have NB154_150 := n7_; clear n0_ n1_ n2_ n3_ n4_ n5_ n6_ n7_; clear hb hbox hg; have hnb13 := NB154_150.out; have hnc13 := NB150_154.out; have hcz14_0 : w12.cell? ⟨gb154, 0, none⟩ = some (.int .i64 0) := (blk_cell BK154.out 0).trans rfl; have hcz14_1 : w12.cell? ⟨gb154, 1, none⟩ = some (.int .i64 0) := (blk_cell BK154.out 1).trans rfl; have hfz14_0 := blk_frozen BK154.out 0; have hfz14_1 := blk_frozen BK154.out 1))
           have n0_ : Aside0 (Kd.R k58 58 ((w12.setCell ⟨gb154, 0, none⟩ (.int .i64 ((rd_T84 ((rd_T83 l0_0 x4_1).f0) x5_2).f0))).setCell ⟨gb154, 1, none⟩ (.int .i64 ((rd_T84 ((rd_T83 l0_0 x4_1).f0) x5_2).f1))) w.heap.size (fun _ => True) u3 x3_2) := ⟨by (with_reducible repeat (first | apply Kd.R_alloc | apply Kd.R_drewN | apply Kd.R_drew)); exact Kd.R_mono (Kd.R_far (p := ⟨gb154, 1, none⟩) (Kd.R_far (p := ⟨gb154, 0, none⟩) (Kd.R_types HO_3.out BK154.out (by decide)) (fun _ hk => hk.2) (.int .i64 ((rd_T84 ((rd_T83 l0_0 x4_1).f0) x5_2).f0))) (fun _ hk => hk.2) (.int .i64 ((rd_T84 ((rd_T83 l0_0 x4_1).f0) x5_2).f1))) (fun _ hk => trivial)⟩
           have n1_ : Aside0 (((w12.setCell ⟨gb154, 0, none⟩ (.int .i64 ((rd_T84 ((rd_T83 l0_0 x4_1).f0) x5_2).f0))).setCell ⟨gb154, 1, none⟩ (.int .i64 ((rd_T84 ((rd_T83 l0_0 x4_1).f0) x5_2).f1))).heap[gb150]? = some (.cells #[.slice (some ad151) l0_0.length c0_0] 24 (0, 0))) := ⟨by (with_reducible repeat (first | refine blk_drewN ?_ _ | refine blk_drew ?_ | refine blk_alloc ?_ _)); refine blk_far ?_ NB150_154.out _; (with_reducible repeat (first | refine blk_drewN ?_ _ | refine blk_drew ?_ | refine blk_alloc ?_ _)); refine blk_far ?_ NB150_154.out _; (with_reducible repeat (first | refine blk_drewN ?_ _ | refine blk_drew ?_ | refine blk_alloc ?_ _)); exact BK150.out⟩
           have n2_ : Aside0 (((w12.setCell ⟨gb154, 0, none⟩ (.int .i64 ((rd_T84 ((rd_T83 l0_0 x4_1).f0) x5_2).f0))).setCell ⟨gb154, 1, none⟩ (.int .i64 ((rd_T84 ((rd_T83 l0_0 x4_1).f0) x5_2).f1))).heap[gb154]? = some (.cells #[.int .i64 ((rd_T84 ((rd_T83 l0_0 x4_1).f0) x5_2).f0), .int .i64 ((rd_T84 ((rd_T83 l0_0 x4_1).f0) x5_2).f1)] 84 (0, 0))) := ⟨by (with_reducible repeat (first | refine blk_drewN ?_ _ | refine blk_drew ?_ | refine blk_alloc ?_ _)); refine blk_put (cs := #[.int .i64 ((rd_T84 ((rd_T83 l0_0 x4_1).f0) x5_2).f0), .int .i64 0]) ?_ 1 _ rfl; (with_reducible repeat (first | refine blk_drewN ?_ _ | refine blk_drew ?_ | refine blk_alloc ?_ _)); refine blk_put (cs := #[.int .i64 0, .int .i64 0]) ?_ 0 _ rfl; (with_reducible repeat (first | refine blk_drewN ?_ _ | refine blk_drew ?_ | refine blk_alloc ?_ _)); exact BK154.out⟩
           have n3_ : Aside0 (Below w.heap.size w ((w12.setCell ⟨gb154, 0, none⟩ (.int .i64 ((rd_T84 ((rd_T83 l0_0 x4_1).f0) x5_2).f0))).setCell ⟨gb154, 1, none⟩ (.int .i64 ((rd_T84 ((rd_T83 l0_0 x4_1).f0) x5_2).f1)))) := ⟨by repeat (first | (with_reducible first | exact HB.out | apply below_alloc | apply pw_below_drewN | apply below_drew1 | refine below_set ?_ GE150.out | refine below_set ?_ GE154.out) | exact HB.out)⟩
           (try clear HO_3)
           (try clear BK150)
           (try clear BK154)
           (try clear HB)
           generalize ((w12.setCell ⟨gb154, 0, none⟩ (.int .i64 ((rd_T84 ((rd_T83 l0_0 x4_1).f0) x5_2).f0))).setCell ⟨gb154, 1, none⟩ (.int .i64 ((rd_T84 ((rd_T83 l0_0 x4_1).f0) x5_2).f1))) = w15 at n0_ n1_ n2_ n3_ ⊢
           have HO_3 := n0_
           have BK150 := n1_
           have BK154 := n2_
           have HB := n3_
           clear n0_ n1_ n2_ n3_
           have n0_ := Aside0.mk (Kd.R_drew HO_3.out)
           have n1_ := Aside0.mk (blk_drew BK150.out)
           have n2_ := Aside0.mk (blk_drew BK154.out)
           have n3_ := Aside0.mk (below_drew1 HB.out)
           clear HO_3
           clear BK150
           clear BK154
           clear HB
           have HO_3 := n0_
           have BK150 := n1_
           have BK154 := n2_
           have HB := n3_
           clear n0_ n1_ n2_ n3_
           refine start_ (n := 13) (S := fun w' => w'.cell? ⟨gb154, 0, none⟩ = some (.int .i64 ((rd_T84 ((rd_T83 l0_0 x4_1).f0) x5_2).f0)) ∧ w'.cell? ⟨gb154, 1, none⟩ = some (.int .i64 ((rd_T84 ((rd_T83 l0_0 x4_1).f0) x5_2).f1))) (ds := []) #[false, false, false, false, false, false, false, false, false, false, false, false, false] (by kernel_rfl) rfl rfl ⟨(blk_cell BK154.out 0).trans rfl, (blk_cell BK154.out 1).trans rfl⟩ (fun hHeld => ?_); refine with_tabW ensembleref02_All.tab9 ensembleref02_All.bits9 (fun HT_ HW_ => ?_)
           generalize w15.drew = w16 at HO_3 BK150 BK154 HB hHeld ⊢
           refine pure_ (i := 0) (N := some 34) (v := ?_) (a' := ?_) #[true, false, false, false, false, false, false, false, false, false, false, false, false] rfl rfl (any_of HT_.out (by kernel_rfl)) (fun _ _ _ h => h) (Or.inl ⟨by rfl, ?_⟩) ?_ ?_
           rotate_left
           ·intro w'
            go_simp
            with_reducible rfl
           rotate_left
           ·simp only [Act.put, List.setIfInBounds_toArray, List.set_cons_zero, List.set_cons_succ, i64_w, i32_w]
            rfl
           refine pure_ (i := 1) (N := some 35) (v := ?_) (a' := ?_) #[true, true, false, false, false, false, false, false, false, false, false, false, false] rfl rfl (any_of HT_.out (by kernel_rfl)) (fun _ _ _ h => h) (Or.inl ⟨by rfl, ?_⟩) ?_ ?_
           rotate_left
           ·intro w'
            go_simp
            with_reducible rfl
           rotate_left
           ·simp only [Act.put, List.setIfInBounds_toArray, List.set_cons_zero, List.set_cons_succ, i64_w, i32_w]
            rfl
           refine pure_ (i := 2) (N := some 36) (v := ?_) (a' := ?_) #[true, true, true, false, false, false, false, false, false, false, false, false, false] rfl rfl (any_of HT_.out (by kernel_rfl)) (fun _ _ _ h => h) (Or.inl ⟨by rfl, ?_⟩) ?_ ?_
           rotate_left
           ·intro w'
            go_simp
            with_reducible rfl
           rotate_left
           ·simp only [Act.put, List.setIfInBounds_toArray, List.set_cons_zero, List.set_cons_succ, i64_w, i32_w]
            rfl
           refine pure_ (i := 3) (N := some 37) (v := ?_) (a' := ?_) #[true, true, true, true, false, false, false, false, false, false, false, false, false] rfl rfl (any_of HT_.out (by kernel_rfl)) (fun _ _ _ h => h) (Or.inl ⟨by rfl, ?_⟩) ?_ ?_
           rotate_left
           ·intro w'
            go_simp
            with_reducible rfl
           rotate_left
           ·simp only [Act.put, List.setIfInBounds_toArray, List.set_cons_zero, List.set_cons_succ, i64_w, i32_w]
            rfl
           refine pure_ (i := 4) (N := some 38) (v := ?_) (a' := ?_) #[true, true, true, true, true, false, false, false, false, false, false, false, false] rfl rfl (any_of HT_.out (by kernel_rfl)) (fun _ _ _ h => h) (Or.inl ⟨by rfl, ?_⟩) ?_ ?_
           rotate_left
           ·intro w'
            go_simp
            with_reducible rfl
           rotate_left
           ·simp only [Act.put, List.setIfInBounds_toArray, List.set_cons_zero, List.set_cons_succ, i64_w, i32_w]
            rfl
           refine pure_ (i := 7) (N := some 41) (v := ?_) (a' := ?_) #[true, true, true, true, true, false, false, true, false, false, false, false, false] rfl rfl (any_of HT_.out (by kernel_rfl)) (fun _ _ _ h => h) (Or.inl ⟨by rfl, ?_⟩) ?_ ?_
           rotate_left
           ·intro w'
            go_simp
            with_reducible rfl
           rotate_left
           ·simp only [Act.put, List.setIfInBounds_toArray, List.set_cons_zero, List.set_cons_succ, i64_w, i32_w]
            rfl
           refine take_ (i := 5) (N := some 39) (v := ?_) (a' := ?_) #[true, true, true, true, true, true, false, true, false, false, false, false, false] rfl rfl (take_ofW HT_.out HW_.out (by kernel_rfl)) (fun _ _ _ h => h) (Or.inl ⟨by rfl, ?_⟩) hHeld ?_ ?_
           rotate_left
           ·rintro w' ⟨s0, s1⟩
            go_simp
            with_reducible rfl
           rotate_left
           ·simp only [Act.put, List.setIfInBounds_toArray, List.set_cons_zero, List.set_cons_succ, i64_w, i32_w]
            rfl
           refine take_ (i := 8) (N := some 42) (v := ?_) (a' := ?_) #[true, true, true, true, true, true, false, true, true, false, false, false, false] rfl rfl (take_ofW HT_.out HW_.out (by kernel_rfl)) (fun _ _ _ h => h) (Or.inl ⟨by rfl, ?_⟩) hHeld ?_ ?_
           rotate_left
           ·rintro w' ⟨s0, s1⟩
            go_simp
            with_reducible rfl
           rotate_left
           ·simp only [Act.put, List.setIfInBounds_toArray, List.set_cons_zero, List.set_cons_succ, i64_w, i32_w]
            rfl
           refine one_ (i := 6) (N := some 40) #[true, true, true, true, true, true, true, true, true, false, false, false, false] rfl rfl (one_of HT_.out (by kernel_rfl)) (by decide) (fun K hK => ?_)
           refine goes_ Try.func27 (by kernel_rfl) rfl #[.int .i64 ((rd_T84 ((rd_T83 l0_0 x4_1).f0) x5_2).f0)] (by rfl) rfl rfl (by (try simp only [List.map_toArray, List.map_cons, List.map_nil]); first | done | rfl | (simp only [List.length_drop, List.length_take]; rfl)) ?_
           with_reducible refine (ensembleref01_First.calls k2 ((rd_T84 ((rd_T83 l0_0 x4_1).f0) x5_2).f0) t155 _ A9.out).mono ?_
           rintro e w' ⟨rfl, ⟨nd, rfl⟩⟩
           refine ⟨_, rfl, ?_⟩
           refine hK.out _ _ ⟨(blk_cell BK154.out 0).trans rfl, (blk_cell BK154.out 1).trans rfl⟩ (fun hHeld => ?_)
           clear hK K
           refine norm_ (a' := ?_) ?_ ?_
           rotate_left
           ·show Act.put _ (some 40) _ = _
            simp only [Act.put, List.setIfInBounds_toArray, List.set_cons_zero, List.set_cons_succ, i64_w, i32_w]
            rfl
           refine pure_ (i := 9) (N := some 43) (v := ?_) (a' := ?_) #[true, true, true, true, true, true, true, true, true, true, false, false, false] rfl rfl (any_of HT_.out (by kernel_rfl)) (fun _ _ _ h => h) (Or.inl ⟨by rfl, ?_⟩) ?_ ?_
           rotate_left
           ·intro w'
            go_simp
            with_reducible rfl
           rotate_left
           ·simp only [Act.put, List.setIfInBounds_toArray, List.set_cons_zero, List.set_cons_succ, i64_w, i32_w]
            rfl
           refine one_ (i := 10) (N := some 44) #[true, true, true, true, true, true, true, true, true, true, true, false, false] rfl rfl (one_of HT_.out (by kernel_rfl)) (by decide) (fun K hK => ?_)
           refine value_ (w1 := ?_) (v := ?_) (by rfl) rfl ?_ ?_
           rotate_left 2
           ·go_simp
            constructor
            ·rfl
            ·rfl
           refine hK.out _ _ ⟨(blk_cell (blk_alloc BK154.out _) 0).trans rfl, (blk_cell (blk_alloc BK154.out _) 1).trans rfl⟩ (fun hHeld => ?_)
           clear hK K
           refine norm_ (a' := ?_) ?_ ?_
           rotate_left
           ·show Act.put _ (some 44) _ = _
            simp only [Act.put, List.setIfInBounds_toArray, List.set_cons_zero, List.set_cons_succ, i64_w, i32_w]
            rfl
           refine one_ (i := 11) (N := some 45) #[true, true, true, true, true, true, true, true, true, true, true, true, false] rfl rfl (one_of HT_.out (by kernel_rfl)) (by decide) (fun K hK => ?_)
           refine Kd.R_append_step k58 (w0 := w) w.heap.size (by rfl) (.tmp 34) (.tmp 44) 32 58 (.agg #[(.int .i64 0), (.int .i64 0), (.int .u64 0), (.int .i64 0)]) 32 rfl Try.underlying32 info58 rfl (by decide) (by omega) u3 x3_2 (⟨(⟨x4_1, x5_2⟩ : S56), t155, (rd_T84 ((rd_T83 l0_0 x4_1).f0) x5_2).f1⟩ : S58) [.int .i64 x4_1, .int .i64 x5_2, .int .u64 t155, .int .i64 ((rd_T84 ((rd_T83 l0_0 x4_1).f0) x5_2).f1)] (fun _ => True) (fun _ => False) rfl rfl ?aP (fun _ hk => hk.elim) ?aF ?aO ?aB ?aS ?aL ?_
           (case aP => exact k58_mkM _ _ _ (⟨(⟨x4_1, x5_2⟩ : S56), t155, (rd_T84 ((rd_T83 l0_0 x4_1).f0) x5_2).f1⟩ : S58))
           (case aB => exact (by repeat (first | (with_reducible first | exact HB.out | apply below_alloc | apply pw_below_drewN | apply below_drew1 | refine below_set ?_ GE150.out | refine below_set ?_ GE154.out) | exact HB.out)))
           (case aF => exact (fun _ _ => trivial))
           (case aO => exact (by (with_reducible repeat (first | apply Kd.R_alloc | apply Kd.R_drewN | apply Kd.R_drew)); exact HO_3.out))
           (case aS => exact (below_size (by repeat (first | (with_reducible first | exact HB.out | apply below_alloc | apply pw_below_drewN | apply below_drew1 | refine below_set ?_ GE150.out | refine below_set ?_ GE154.out) | exact HB.out))))
           (case aL => have := LMc10.out; omega)
           intro v157 w17 ho hb hg hat
           rw [← Ny156.out] at ho
           have n0_ := Aside0.mk (blk_grown (g := gb150) (o := .cells #[.slice (some ad151) l0_0.length c0_0] 24 (0, 0)) (by (with_reducible repeat (first | refine blk_drewN ?_ _ | refine blk_drew ?_ | refine blk_alloc ?_ _)); exact BK150.out) hg (Kd.R_ne HO_3.out BK150.out (by decide)))
           have n1_ := Aside0.mk (blk_grown (g := gb154) (o := .cells #[.int .i64 ((rd_T84 ((rd_T83 l0_0 x4_1).f0) x5_2).f0), .int .i64 ((rd_T84 ((rd_T83 l0_0 x4_1).f0) x5_2).f1)] 84 (0, 0)) (by (with_reducible repeat (first | refine blk_drewN ?_ _ | refine blk_drew ?_ | refine blk_alloc ?_ _)); exact BK154.out) hg (Kd.R_ne HO_3.out BK154.out (by decide)))
           have n2_ := Aside0.mk (hb)
           have n3_ := Aside0.mk (ho)
           clear BK150
           clear BK154
           clear HB
           clear HO_3
           have BK150 := n0_
           have BK154 := n1_
           have HB := n2_
           have HO158 := n3_
           clear n0_ n1_ n2_ n3_
           clear ho hb hg hat
           refine hK.out _ _ ⟨(blk_cell BK154.out 0).trans rfl, (blk_cell BK154.out 1).trans rfl⟩ (fun hHeld => ?_)
           clear hK K
           refine norm_ (a' := ?_) ?_ ?_
           rotate_left
           ·show Act.put _ (some 45) _ = _
            simp only [Act.put, List.setIfInBounds_toArray, List.set_cons_zero, List.set_cons_succ, i64_w, i32_w]
            rfl
           refine pure_ (i := 12) (N := some 3) (v := ?_) (a' := ?_) #[true, true, true, true, true, true, true, true, true, true, true, true, true] rfl rfl (any_of HT_.out (by kernel_rfl)) (fun _ _ _ h => h) (Or.inl ⟨by rfl, ?_⟩) ?_ ?_
           rotate_left
           ·intro w'
            go_simp
            with_reducible rfl
           rotate_left
           ·simp only [Act.put, List.setIfInBounds_toArray, List.set_cons_zero, List.set_cons_succ, i64_w, i32_w]
            rfl
           refine done_ (done_of HT_.out (by kernel_rfl)) ?_
           try go_wp2
           go_roundg k2
           case measure => have := HK1.out; have := HK2.out; omega
           case rel => exact ⟨(y156), (wrap64 (x5_2 + 1)), (by first | rfl | (simp; done) | (simp [*]; done)), H', ⟨by have := HK1.out; have := HK2.out; omega⟩, ⟨by (with_reducible repeat (first | apply Kd.R_alloc | apply Kd.R_drewN | apply Kd.R_drew)); exact HO158.out⟩, ⟨by (with_reducible repeat (first | refine blk_drewN ?_ _ | refine blk_drew ?_ | refine blk_alloc ?_ _)); exact BK150.out⟩, ⟨by repeat (first | (with_reducible first | exact HB.out | apply below_alloc | apply pw_below_drewN | apply below_drew1 | refine below_set ?_ GE150.out | refine below_set ?_ GE154.out) | exact HB.out)⟩⟩
          ·rw [if_neg c10] at H
           exact absurd H (by simp)
         ·rw [if_neg c8] at H
          exact absurd H (by simp)
        ·rw [if_neg c7] at H
         have c7b0 : decide (x5_2 < (((rd_T83 l0_0 x4_1).f0).length : Int)) = false := decide_eq_false c7
         clear c7
         have H' := Aside0.mk H
         clear H
         have hcz18_0 : wr.cell? ⟨gb150, 0, none⟩ = some (.slice A0_0 l0_0.length c0_0) := (blk_cell BK150.out 0).trans rfl
         have hfz18_0 := blk_frozen BK150.out 0
         have p151 : 0 ≤ (x4_1 : Int) := of_decide_eq_true (by first | (with_reducible assumption) | assumption)
         have q151 : x4_1 < (l0_0.length : Int) := of_decide_eq_true (by first | (with_reducible assumption) | assumption)
         obtain ⟨ad151, A151_0, c151_0, e151, hx151_0, hl151_0, hi151_0⟩ := at_T83 HR0_0.out x4_1 p151 q151
         cases e151
         replace hx151_0 := (HB.out.cell (World.block_lt_of_cell? w _ hx151_0)).trans hx151_0
         have HR151_0 := Aside0.mk hi151_0
         have HC151_0 := Aside0.mk hl151_0
         clear hi151_0 hl151_0
         replace p151 := eq_true p151
         replace q151 := eq_true q151
         go_wp2
         go_roundg k2
         case measure => have := HK1.out; have := HK2.out; omega
         case rel => exact ⟨(x3_2), (wrap64 (x4_1 + 1)), (by first | rfl | (simp; done) | (simp [*]; done)), H', ⟨by have := HK1.out; have := HK2.out; omega⟩, ⟨by (with_reducible repeat (first | apply Kd.R_alloc | apply Kd.R_drewN | apply Kd.R_drew)); exact HO_3.out⟩, ⟨by (with_reducible repeat (first | refine blk_drewN ?_ _ | refine blk_drew ?_ | refine blk_alloc ?_ _)); exact BK150.out⟩, ⟨by repeat (first | (with_reducible first | exact HB.out | apply below_alloc | apply pw_below_drewN | apply below_drew1 | refine below_set ?_ GE150.out) | exact HB.out)⟩⟩
       ·rw [if_neg c6] at H
        exact absurd H (by simp)
      ·rw [if_neg c5] at H
       exact absurd H (by simp)
   ·rw [if_neg c3] at H
    have c3b0 : decide (x4_1 < (l0_0.length : Int)) = false := decide_eq_false c3
    clear c3
    obtain rfl := Option.some.inj H
    have hcz19_0 : wr.cell? ⟨gb150, 0, none⟩ = some (.slice A0_0 l0_0.length c0_0) := (blk_cell BK150.out 0).trans rfl
    have hfz19_0 := blk_frozen BK150.out 0
    go_wp2
    go_ret
    exact ⟨_, by first | rfl | (simp [errW_none, errW_some] <;> rfl) | (simp [*, errW_none, errW_some] <;> rfl), by (with_reducible repeat (first | apply Kd.R_alloc | apply Kd.R_drewN | apply Kd.R_drew)); exact HO_3.out, by repeat (first | (with_reducible first | exact HB.out | apply below_alloc | apply pw_below_drewN | apply below_drew1 | refine below_set ?_ GE150.out) | exact HB.out)⟩
end Go.Proofs.Ytpedlompipabdaa.P
namespace Go.Proofs.Ytpedlompipabdaa.P
open Go.RowKit Go.Proofs.YtpedlompipabdaaW.PrintWords Go.Proofs.YtpedlompipabdaaW.PrintLast Go.Proofs.YtpedlompipabdaaW.PrintMore
set_option linter.unusedVariables false
set_option linter.unusedSimpArgs false
attribute [local go_sem] cellBx frozBx Sit.c0 Sit.c1 Sit.c2 Sit.c3 Sit.c4 Sit.c5 Sit.c6 Sit.c7 Sit.c8 Sit.c9 Sit.c10 Sit.c12 Sit.c13 Sit.c14 Sit.c15
attribute [local go_sem] Oper.semAt_some
open Go.Shelf
def R52.T1 : Bool × List (List Nat × List Nat) := (true, [([], []), ([0], [0]), ([], []), ([2], [2]), ([3], [3]), ([4, 4], [4]), ([1, 5], [1, 5]), ([6], [6]), ([7, 1, 0, 1, 2, 3, 4, 5, 6, 7], [7])])
def R52.B1 : List Nat := [0, 1, 0, 4, 12, 28, 63, 127, 255]
theorem R52.tab1 : rtab .any (opsOf Try.f52 1) = R52.T1 := by kernel_rfl
theorem R52.bits1 : waitsOk R52.T1.2 R52.B1 = true := by kernel_rfl
def R52.T5 : Bool × List (List Nat × List Nat) := (true, [([], []), ([], []), ([1], [1]), ([2], [2]), ([3], [3]), ([], []), ([5], [5]), ([6], [6]), ([7], [7]), ([], []), ([8, 9], [8, 9]), ([10], [10]), ([11], [11]), ([12], [12]), ([13], [13]), ([4, 14], [4, 14]), ([0, 0, 1, 2, 3, 4, 5, 6, 7, 8, 9, 10, 11, 12, 13, 14, 15], [0]), ([16, 0, 1, 2, 3, 4, 5, 6, 7, 8, 9, 10, 11, 12, 13, 14, 15], [16]), ([17, 15, 15, 0, 1, 2, 3, 4, 5, 6, 7, 8, 9, 10, 11, 12, 13, 14, 15], [15, 17])])
def R52.B5 : List Nat := [0, 0, 2, 6, 14, 0, 32, 96, 224, 0, 992, 2016, 4064, 8160, 16352, 32766, 65535, 131071, 262143]
theorem R52.tab5 : rtab .any (opsOf Try.f52 5) = R52.T5 := by kernel_rfl
theorem R52.bits5 : waitsOk R52.T5.2 R52.B5 = true := by kernel_rfl
def Pool0 (B : Nat) (v : Value) (w : World) : Prop := ∃ g va vd, v = .pointer (some ⟨g, 0, none⟩) ∧ B ≤ g ∧ Bx w g #[va, .slice none 0 0, vd] 98 ∧ RowV k58 [(⟨⟨0, 0⟩, 15, 8⟩ : S58)] va w ∧ RowV Kd.bool [false] vd w
def Pool (v : Value) (w : World) : Prop := ∃ g va vt vd, v = .pointer (some ⟨g, 0, none⟩) ∧ Bx w g #[va, vt, vd] 98 ∧ RowV k58 [(⟨⟨0, 0⟩, 15, 8⟩ : S58)] va w ∧ RowV k58 [(⟨⟨0, 0⟩, 0, 0⟩ : S58)] vt w ∧ RowV Kd.bool [false] vd w
theorem Pool0.step {B : Nat} {v : Value} {w w' : World} (h : Pool0 B v w) (hb : Below w.heap.size w w') : Pool0 B v w' := let ⟨g, q, u, h1, h0, h2, h3, h4⟩ := h; ⟨g, q, u, h1, h0, ⟨blk_below h2.out hb⟩, h3.step hb, h4.step hb⟩
theorem Pool.step {v : Value} {w w' : World} (h : Pool v w) (hb : Below w.heap.size w w') : Pool v w' := let ⟨g, q, t, u, h1, h2, h3, h4, h5⟩ := h; ⟨g, q, t, u, h1, ⟨blk_below h2.out hb⟩, h3.step hb, h4.step hb, h5.step hb⟩
def post52 (B : Nat) : Nat → Value → World → Prop
 | 1, v, w => RowV k58 [(⟨⟨0, 0⟩, 15, 8⟩ : S58)] v w
 | 5, v, w => RowV Kd.bool [false] v w
 | 6, v, w => ∃ va vd, v = .agg #[va, .slice none 0 0, vd] ∧ RowV k58 [(⟨⟨0, 0⟩, 15, 8⟩ : S58)] va w ∧ RowV Kd.bool [false] vd w
 | 7, v, w => Pool0 B v w
 | 8, v, w => Pool0 B v w
 | _, _, _ => True
theorem post52_st (B i : Nat) (v : Value) (w w' : World) (h : post52 B i v w) (hb : Below w.heap.size w w') : post52 B i v w' := by
 unfold post52 at h ⊢
 split at h
 ·exact h.step hb
 ·exact h.step hb
 ·obtain ⟨q, u, h1, h2, h3⟩ := h; exact ⟨q, u, h1, h2.step hb, h3.step hb⟩
 ·exact h.step hb
 ·exact h.step hb
 ·trivial
def postT : Nat → Value → World → Prop := fun i v w => i = 14 ∨ i = 15 → RowV k58 [(⟨⟨0, 0⟩, 0, 0⟩ : S58)] v w
theorem postT_st (i : Nat) (v : Value) (w w' : World) (h : postT i v w) (hb : Below w.heap.size w w') : postT i v w' := fun hi => (h hi).step hb
theorem make29 (w : World) : (Instr.makeSlice 29 (.int .i64 1) (.int .i64 1)).run Try.prog w = .ok (.slice (some ⟨w.heap.size, 0, none⟩) 1 1) (w.alloc (.cells #[.bool false] 4)) := by
 kernel_rfl
theorem boolK (w : World) (b : Bool) : Kd.bool.K w b [.bool b] := rfl
set_option maxHeartbeats 8000000 in
set_option maxRecDepth 100000 in
theorem new03 (A : Option Addr) (c : Nat) (w : World) (hr : Kd.C k83 w A 1 [(⟨[⟨4, 8⟩]⟩ : S83)]) (hc : 1 ≤ c) : Calls Try.prog 52 #[.agg #[.slice A 1 c]] w fun e w' => ∃ v, e = .returned v ∧ Pool v w' ∧ Below w.heap.size w w' := by
 have hu24 := Try.underlying24
 have hu22 := Try.underlying22
 have hu32 := Try.underlying32
 have hu98 := Try.underlying98
 have hu99 := Try.underlying99
 have hu58 := Try.underlying58
 have hu56 := Try.underlying56
 have hu29 := Try.underlying29
 have hu3 := Try.underlying3
 have : Be w w := ⟨Below.refl _ _⟩
 have HR := Aside0.mk hr
 clear hr
 go_enter Try.func52, Try.ntmps52
 go_upto_region 1 with (first | ((with_reducible refine gate_dst (N := 1) rfl ?_); refine bxT 1 #[.slice A 1 c] 24 ?_; intro g1 w1 _ _ _))
 refine start_ (n := 9) (S := fun w' => w'.cell? ⟨g1, 0, none⟩ = some (.slice A 1 c)) (ds := []) #[false, false, false, false, false, false, false, false, false] (by kernel_rfl) rfl rfl ((cellBx _).trans rfl) (fun hHeld => ?_)
 refine with_tabW R52.tab1 R52.bits1 (fun HT_ HW_ => ?_)
 refine take_ (i := 0) (N := some 5) (v := ?_) (a' := ?_) #[true, false, false, false, false, false, false, false, false] rfl rfl (take_ofW HT_.out HW_.out (by kernel_rfl)) (fun _ _ _ h => h) (Or.inl ⟨by rfl, ?_⟩) hHeld ?_ ?_
 rotate_left
 ·intro w' s0
  go_simp
  with_reducible rfl
 rotate_left
 ·simp only [Act.put, List.setIfInBounds_toArray, List.set_cons_zero, List.set_cons_succ, i64_w, i32_w]
  rfl
 refine pure_ (i := 2) (N := some 7) (v := ?_) (a' := ?_) #[true, false, true, false, false, false, false, false, false] rfl rfl (any_of HT_.out (by kernel_rfl)) (fun _ _ _ h => h) (Or.inl ⟨by rfl, ?_⟩) ?_ ?_
 rotate_left
 ·intro w'
  go_simp
  with_reducible rfl
 rotate_left
 ·simp only [Act.put, List.setIfInBounds_toArray, List.set_cons_zero, List.set_cons_succ, i64_w, i32_w]
  rfl
 refine take_ (i := 3) (N := some 8) (v := ?_) (a' := ?_) #[true, false, true, true, false, false, false, false, false] rfl rfl (take_ofW HT_.out HW_.out (by kernel_rfl)) (fun _ _ _ h => h) (Or.inl ⟨by rfl, ?_⟩) hHeld ?_ ?_
 rotate_left
 ·intro w' s0
  go_simp
  with_reducible rfl
 rotate_left
 ·simp only [Act.put, List.setIfInBounds_toArray, List.set_cons_zero, List.set_cons_succ, i64_w, i32_w]
  rfl
 refine pure_ (i := 4) (N := some 9) (v := ?_) (a' := ?_) #[true, false, true, true, true, false, false, false, false] rfl rfl (any_of HT_.out (by kernel_rfl)) (fun _ _ _ h => h) (Or.inl ⟨by rfl, ?_⟩) ?_ ?_
 rotate_left
 ·intro w'
  go_simp
  with_reducible rfl
 rotate_left
 ·simp only [Act.put, List.setIfInBounds_toArray, List.set_cons_zero, List.set_cons_succ, i64_w, i32_w]
  rfl
 refine anyI HT_.out [(1, 6), (5, 10), (6, 11), (7, 12), (8, 3)] #[true, true, true, true, true, true, true, true, true] (post52 w.heap.size) (by kernel_rfl) (by kernel_rfl) (by kernel_rfl) (by rfl) (post52_st w.heap.size) ?hS ?step 0 ?fin rfl
 case hS => exact fun w' hb => pw_cell_below hb hHeld
 case step =>
  intro p hp o ho a w2 hb hev hpost K hK
  simp only [List.mem_cons, List.not_mem_nil, or_false] at hp
  rcases hp with rfl | rfl | rfl | rfl | rfl
  ·obtain rfl := Option.some.inj ho
   clear ho
   have h5 : a.eval (.tmp 5) = .agg #[.slice A 1 c] := (hev 5 (by decide)).trans rfl
   refine goes_ Try.func9 (by kernel_rfl) rfl #[.agg #[.slice A 1 c]] rfl rfl rfl (by simp [h5]) ?_
   refine (ensembleref02_All.calls 80 A c [(⟨[⟨4, 8⟩]⟩ : S83)] [(⟨⟨0, 0⟩, 15, 8⟩ : S58)] w2 (Kd.C_below HR.out ((Be.out (W := w1.drew)).trans (hb.mono (Be.out (W := w1.drew)).size))) hc (by kernel_rfl)).mono ?_
   rintro e w3 ⟨v, rfl, ho, hb3⟩
   obtain ⟨A3, c3, e3, hc3, hC3⟩ := Kd.R_reads ho
   exact ⟨_, rfl, hK _ _ hb3 ⟨A3, c3, e3, hC3, hc3⟩⟩
  ·obtain rfl := Option.some.inj ho
   clear ho
   have h9 : a.eval (.tmp 9) = .int .i64 1 := (hev 9 (by decide)).trans rfl
   have e9 := ev_get h9
   have hm := make29 w2
   have : Bx (w2.alloc (.cells #[.bool false] 4)) w2.heap.size #[.bool false] 4 := bxNew
   refine value_ rfl rfl (w1 := w2.alloc (.cells #[.bool false] 4)) (v := .slice (some ⟨w2.heap.size, 0, none⟩) 1 1) (by first | (go_simp; done) | (go_simp; rfl)) (hK _ _ (below_alloc (Below.refl _ _) _) ⟨_, 1, rfl, rowBx (boolK _ false), Nat.le_refl _⟩)
  ·obtain rfl := Option.some.inj ho
   clear ho
   obtain ⟨A5, c5, h6, g5, l5⟩ := (show RowV k58 [(⟨⟨0, 0⟩, 15, 8⟩ : S58)] (a.eval (.tmp 6)) w2 from (hpost (1, 6) (by simp) (by kernel_rfl)))
   obtain ⟨A8, c8, h10, g8, l8⟩ := (show RowV Kd.bool [false] (a.eval (.tmp 10)) w2 from (hpost (5, 10) (by simp) (by kernel_rfl)))
   have e6 := ev_get h6
   have e10 := ev_get h10
   refine value_ rfl rfl (w1 := w2) (v := .agg #[.slice A5 1 c5, .slice none 0 0, .slice A8 1 c8]) (by first | (go_simp; done) | (go_simp; rfl)) (hK _ _ (Below.refl _ _) ⟨_, _, rfl, ⟨A5, c5, rfl, g5, l5⟩, ⟨A8, c8, rfl, g8, l8⟩⟩)
  ·obtain rfl := Option.some.inj ho
   clear ho
   obtain ⟨_, _, h11, ⟨A5, c5, rfl, g5, l5⟩, ⟨A8, c8, rfl, g8, l8⟩⟩ := (show ∃ va vd, a.eval (.tmp 11) = .agg #[va, .slice none 0 0, vd] ∧ RowV k58 [(⟨⟨0, 0⟩, 15, 8⟩ : S58)] va w2 ∧ RowV Kd.bool [false] vd w2 from (hpost (6, 11) (by simp) (by kernel_rfl)))
   have e11 := ev_get h11
   refine value_ rfl rfl (w1 := w2.alloc (.cells #[.slice A5 1 c5, .slice none 0 0, .slice A8 1 c8] 98)) (v := .pointer (some ⟨w2.heap.size, 0, none⟩)) (by first | (go_simp; done) | (go_simp; rfl)) (hK _ _ (below_alloc (Below.refl _ _) _) ⟨_, _, _, rfl, Nat.le_trans (Be.out (W := w1.drew)).size hb.size, bxNew, RowV.step ⟨A5, c5, rfl, g5, l5⟩ (below_alloc (Below.refl _ _) _), RowV.step ⟨A8, c8, rfl, g8, l8⟩ (below_alloc (Below.refl _ _) _)⟩)
  ·obtain rfl := Option.some.inj ho
   clear ho
   obtain ⟨g, q, u, h12, hb0, hb1, hb2, hb3⟩ := (show Pool0 w.heap.size (a.eval (.tmp 12)) w2 from (hpost (7, 12) (by simp) (by kernel_rfl)))
   have e12 := ev_get h12
   refine value_ rfl rfl (w1 := w2) (v := .pointer (some ⟨g, 0, none⟩)) (by first | (go_simp; done) | (go_simp; rfl)) (hK _ _ (Below.refl _ _) ⟨g, q, u, rfl, hb0, hb1, hb2, hb3⟩)
 case fin =>
  intro f w2 hb hpost
  have hacc := (show Pool0 w.heap.size (f 3) w2 from hpost (8, 3) (by simp))
  simp only [putL, List.map, Act.put, List.setIfInBounds_toArray, List.set_cons_zero, List.set_cons_succ]
  generalize f 6 = u6 at *
  generalize f 10 = u10 at *
  generalize f 11 = u11 at *
  generalize f 12 = u12 at *
  generalize f 3 = u3 at *
  refine done_ (done_of HT_.out (by kernel_rfl)) ?_
  have hbw : Below w.heap.size w w2 := (Be.out (W := w1.drew)).trans (hb.mono (Be.out (W := w1.drew)).size)
  clear hpost
  obtain ⟨g, _, _, rfl, hgw, hb1, ⟨A5, c5, rfl, g5, l5⟩, ⟨A8, c8, rfl, g8, l8⟩⟩ := hacc
  have HP := Aside0.mk (And.intro g5 l5)
  have HQ := Aside0.mk (And.intro g8 l8)
  have : Be w w2 := ⟨hbw⟩
  clear g5 l5 g8 l8
  have hb2 : Bx w2 g #[.slice A5 1 c5, .slice none 0 0, .slice A8 1 c8] 98 := hb1
  clear hb1
  go_upto_region 3 with (fail)
  go_loopw [4] (fun v4 wr => Be w wr ∧ ((v4 = .int .i64 0 ∧ Bx wr g #[.slice A5 1 c5, .slice none 0 0, .slice A8 1 c8] 98 ∧ Aside0 (Kd.C k58 wr A5 1 [(⟨⟨0, 0⟩, 15, 8⟩ : S58)] ∧ 1 ≤ c5) ∧ Aside0 (Kd.C Kd.bool wr A8 1 [false] ∧ 1 ≤ c8)) ∨ (v4 = .int .i64 1 ∧ Aside0 (Pool (.pointer (some ⟨g, 0, none⟩)) wr)))) (fun v4 _ => 1 - (intOf v4).toNat)
  case atStart => exact ⟨inferInstance, .inl ⟨rfl, inferInstance, HP, HQ⟩⟩
  case round =>
   clear HP HQ
   obtain ⟨be, ⟨rfl, bg, HP, HQ⟩ | ⟨rfl, HR⟩⟩ := hrel
   ·obtain ⟨ad, ee, y0, y1, y2, y3⟩ := at_T58 HP.out.1 0 (by decide) (by decide)
    subst ee
    simp at y0 y1 y2 y3
    have y0' := y0
    go_upto_region 5 with (fail)
    refine start_ (n := 19) (S := fun w' => w'.cell? ⟨g, 0, none⟩ = some (.slice (some ad) 1 c5) ∧ w'.cell? ⟨g, 1, none⟩ = some (.slice none 0 0) ∧ w'.cell? ad = some (.int .i64 0) ∧ w'.cell? ⟨ad.block, ad.off + 1, none⟩ = some (.int .i64 0)) (ds := [18]) #[false, false, false, false, false, false, false, false, false, false, false, false, false, false, false, false, false, false, false] (by kernel_rfl) rfl rfl ⟨(cellBx _).trans rfl, (cellBx _).trans rfl, y0, y1⟩ (fun hHeld => ?_)
    refine with_tabW R52.tab5 R52.bits5 (fun HT_ HW_ => ?_)
    refine pure_ (i := 0) (N := some 22) (v := ?_) (a' := ?_) #[true, false, false, false, false, false, false, false, false, false, false, false, false, false, false, false, false, false, false] rfl rfl (any_of HT_.out (by kernel_rfl)) (fun _ _ _ h => h) (Or.inl ⟨by rfl, ?_⟩) ?_ ?_
    rotate_left
    ·intro w'
     go_simp
     with_reducible rfl
    rotate_left
    ·simp only [Act.put, List.setIfInBounds_toArray, List.set_cons_zero, List.set_cons_succ, i64_w, i32_w]
     rfl
    refine pure_ (i := 1) (N := some 23) (v := ?_) (a' := ?_) #[true, true, false, false, false, false, false, false, false, false, false, false, false, false, false, false, false, false, false] rfl rfl (any_of HT_.out (by kernel_rfl)) (fun _ _ _ h => h) (Or.inl ⟨by rfl, ?_⟩) ?_ ?_
    rotate_left
    ·intro w'
     go_simp
     with_reducible rfl
    rotate_left
    ·simp only [Act.put, List.setIfInBounds_toArray, List.set_cons_zero, List.set_cons_succ, i64_w, i32_w]
     rfl
    refine pure_ (i := 2) (N := some 24) (v := ?_) (a' := ?_) #[true, true, true, false, false, false, false, false, false, false, false, false, false, false, false, false, false, false, false] rfl rfl (any_of HT_.out (by kernel_rfl)) (fun _ _ _ h => h) (Or.inl ⟨by rfl, ?_⟩) ?_ ?_
    rotate_left
    ·intro w'
     go_simp
     with_reducible rfl
    rotate_left
    ·simp only [Act.put, List.setIfInBounds_toArray, List.set_cons_zero, List.set_cons_succ, i64_w, i32_w]
     rfl
    refine pure_ (i := 3) (N := some 25) (v := ?_) (a' := ?_) #[true, true, true, true, false, false, false, false, false, false, false, false, false, false, false, false, false, false, false] rfl rfl (any_of HT_.out (by kernel_rfl)) (fun _ _ _ h => h) (Or.inl ⟨by rfl, ?_⟩) ?_ ?_
    rotate_left
    ·intro w'
     go_simp
     with_reducible rfl
    rotate_left
    ·simp only [Act.put, List.setIfInBounds_toArray, List.set_cons_zero, List.set_cons_succ, i64_w, i32_w]
     rfl
    refine take_ (i := 4) (N := some 26) (v := ?_) (a' := ?_) #[true, true, true, true, true, false, false, false, false, false, false, false, false, false, false, false, false, false, false] rfl rfl (take_ofW HT_.out HW_.out (by kernel_rfl)) (fun _ _ _ h => h) (Or.inl ⟨by rfl, ?_⟩) hHeld ?_ ?_
    rotate_left
    ·rintro w' ⟨s0, s1, s2, s3⟩
     go_simp
     with_reducible rfl
    rotate_left
    ·simp only [Act.put, List.setIfInBounds_toArray, List.set_cons_zero, List.set_cons_succ, i64_w, i32_w]
     rfl
    refine pure_ (i := 5) (N := some 27) (v := ?_) (a' := ?_) #[true, true, true, true, true, true, false, false, false, false, false, false, false, false, false, false, false, false, false] rfl rfl (any_of HT_.out (by kernel_rfl)) (fun _ _ _ h => h) (Or.inl ⟨by rfl, ?_⟩) ?_ ?_
    rotate_left
    ·intro w'
     go_simp
     with_reducible rfl
    rotate_left
    ·simp only [Act.put, List.setIfInBounds_toArray, List.set_cons_zero, List.set_cons_succ, i64_w, i32_w]
     rfl
    refine pure_ (i := 6) (N := some 28) (v := ?_) (a' := ?_) #[true, true, true, true, true, true, true, false, false, false, false, false, false, false, false, false, false, false, false] rfl rfl (any_of HT_.out (by kernel_rfl)) (fun _ _ _ h => h) (Or.inl ⟨by rfl, ?_⟩) ?_ ?_
    rotate_left
    ·intro w'
     go_simp
     with_reducible rfl
    rotate_left
    ·simp only [Act.put, List.setIfInBounds_toArray, List.set_cons_zero, List.set_cons_succ, i64_w, i32_w]
     rfl
    refine pure_ (i := 7) (N := some 29) (v := ?_) (a' := ?_) #[true, true, true, true, true, true, true, true, false, false, false, false, false, false, false, false, false, false, false] rfl rfl (any_of HT_.out (by kernel_rfl)) (fun _ _ _ h => h) (Or.inl ⟨by rfl, ?_⟩) ?_ ?_
    rotate_left
    ·intro w'
     go_simp
     with_reducible rfl
    rotate_left
    ·simp only [Act.put, List.setIfInBounds_toArray, List.set_cons_zero, List.set_cons_succ, i64_w, i32_w]
     rfl
    refine take_ (i := 8) (N := some 30) (v := ?_) (a' := ?_) #[true, true, true, true, true, true, true, true, true, false, false, false, false, false, false, false, false, false, false] rfl rfl (take_ofW HT_.out HW_.out (by kernel_rfl)) (fun _ _ _ h => h) (Or.inl ⟨by rfl, ?_⟩) hHeld ?_ ?_
    rotate_left
    ·rintro w' ⟨s0, s1, s2, s3⟩
     go_simp
     with_reducible rfl
    rotate_left
    ·simp only [Act.put, List.setIfInBounds_toArray, List.set_cons_zero, List.set_cons_succ, i64_w, i32_w]
     rfl
    refine pure_ (i := 9) (N := some 31) (v := ?_) (a' := ?_) #[true, true, true, true, true, true, true, true, true, true, false, false, false, false, false, false, false, false, false] rfl rfl (any_of HT_.out (by kernel_rfl)) (fun _ _ _ h => h) (Or.inl ⟨by rfl, ?_⟩) ?_ ?_
    rotate_left
    ·intro w'
     go_simp
     with_reducible rfl
    rotate_left
    ·simp only [Act.put, List.setIfInBounds_toArray, List.set_cons_zero, List.set_cons_succ, i64_w, i32_w]
     rfl
    refine pure_ (i := 10) (N := some 32) (v := ?_) (a' := ?_) #[true, true, true, true, true, true, true, true, true, true, true, false, false, false, false, false, false, false, false] rfl rfl (any_of HT_.out (by kernel_rfl)) (fun _ _ _ h => h) (Or.inl ⟨by rfl, ?_⟩) ?_ ?_
    rotate_left
    ·intro w'
     go_simp
     with_reducible rfl
    rotate_left
    ·simp only [Act.put, List.setIfInBounds_toArray, List.set_cons_zero, List.set_cons_succ, i64_w, i32_w]
     rfl
    refine pure_ (i := 11) (N := some 33) (v := ?_) (a' := ?_) #[true, true, true, true, true, true, true, true, true, true, true, true, false, false, false, false, false, false, false] rfl rfl (any_of HT_.out (by kernel_rfl)) (fun _ _ _ h => h) (Or.inl ⟨by rfl, ?_⟩) ?_ ?_
    rotate_left
    ·intro w'
     go_simp
     with_reducible rfl
    rotate_left
    ·simp only [Act.put, List.setIfInBounds_toArray, List.set_cons_zero, List.set_cons_succ, i64_w, i32_w]
     rfl
    refine take_ (i := 12) (N := some 34) (v := ?_) (a' := ?_) #[true, true, true, true, true, true, true, true, true, true, true, true, true, false, false, false, false, false, false] rfl rfl (take_ofW HT_.out HW_.out (by kernel_rfl)) (fun _ _ _ h => h) (Or.inl ⟨by rfl, ?_⟩) hHeld ?_ ?_
    rotate_left
    ·rintro w' ⟨s0, s1, s2, s3⟩
     go_simp
     with_reducible rfl
    rotate_left
    ·simp only [Act.put, List.setIfInBounds_toArray, List.set_cons_zero, List.set_cons_succ, i64_w, i32_w]
     rfl
    refine pure_ (i := 13) (N := some 35) (v := ?_) (a' := ?_) #[true, true, true, true, true, true, true, true, true, true, true, true, true, true, false, false, false, false, false] rfl rfl (any_of HT_.out (by kernel_rfl)) (fun _ _ _ h => h) (Or.inl ⟨by rfl, ?_⟩) ?_ ?_
    rotate_left
    ·intro w'
     go_simp
     with_reducible rfl
    rotate_left
    ·simp only [Act.put, List.setIfInBounds_toArray, List.set_cons_zero, List.set_cons_succ, i64_w, i32_w]
     rfl
    refine anyI HT_.out [(14, 36), (15, 37)] #[true, true, true, true, true, true, true, true, true, true, true, true, true, true, true, true, false, false, false] (postT) (by kernel_rfl) (by kernel_rfl) (by kernel_rfl) (by rfl) (postT_st) ?hS ?step 3 ?fin rfl
    case hS => exact fun w' hb => ⟨pw_cell_below hb hHeld.1, pw_cell_below hb hHeld.2.1, pw_cell_below hb hHeld.2.2.1, pw_cell_below hb hHeld.2.2.2⟩
    case step =>
     intro p hp o ho a w2 hb hev hpost K hK
     simp only [List.mem_cons, List.not_mem_nil, or_false] at hp
     rcases hp with rfl | rfl
     ·obtain rfl := Option.some.inj ho
      clear ho
      have h35 : a.eval (.tmp 35) = .agg #[.int .i64 0, .int .i64 0, .int .u64 0, .int .i64 0] := (hev 35 (by decide)).trans rfl
      have e35 := ev_get h35
      refine value_ rfl rfl (w1 := w2.alloc (.cells #[.int .i64 0, .int .i64 0, .int .u64 0, .int .i64 0] 58)) (v := .slice (some ⟨w2.heap.size, 0, none⟩) 1 1) (by first | (go_simp; done) | (go_simp; rfl)) (hK _ _ (below_alloc (Below.refl _ _) _) (fun _ => ⟨_, 1, rfl, (have : Bx (w2.alloc (.cells #[.int .i64 0, .int .i64 0, .int .u64 0, .int .i64 0] 58)) w2.heap.size #[.int .i64 0, .int .i64 0, .int .u64 0, .int .i64 0] 58 := bxNew; rowBx (k58_mk _ (⟨⟨0, 0⟩, 0, 0⟩ : S58))), Nat.le_refl _⟩))
     ·obtain rfl := Option.some.inj ho
      clear ho
      have h26 : a.eval (.tmp 26) = .slice none 0 0 := (hev 26 (by decide)).trans rfl
      obtain ⟨A6, c6, h36, g6, l6⟩ := (show RowV k58 [(⟨⟨0, 0⟩, 0, 0⟩ : S58)] (a.eval (.tmp 36)) w2 from (hpost (14, 36) (by simp) (by kernel_rfl)) (.inl rfl))
      exact app0_step k58 rfl rfl (.tmp 26) (.tmp 36) 32 58 (.agg #[.int .i64 0, .int .i64 0, .int .u64 0, .int .i64 0]) 32 rfl Try.underlying32 info58 rfl (by decide) (ys := [(⟨⟨0, 0⟩, 0, 0⟩ : S58)]) h26 h36 g6 (by decide) (by decide) (by decide) (fun v1 w1 h1 h2 => hK _ _ h1 (fun _ => h2))
    case fin =>
     intro f w2 hb hpost
     have hrow := (show RowV k58 [(⟨⟨0, 0⟩, 0, 0⟩ : S58)] (f 37) w2 from hpost (15, 37) (by simp) (.inr rfl))
     simp only [putL, List.map, Act.put, List.setIfInBounds_toArray, List.set_cons_zero, List.set_cons_succ]
     generalize f 36 = u36 at *
     generalize f 37 = u37 at *
     refine pure_ (i := 16) (N := some 38) (v := ?_) (a' := ?_) #[true, true, true, true, true, true, true, true, true, true, true, true, true, true, true, true, true, false, false] rfl rfl (any_of HT_.out (by kernel_rfl)) (fun _ _ _ h => h) (Or.inl ⟨by rfl, ?_⟩) ?_ ?_
     rotate_left
     ·intro w'
      go_simp
      with_reducible rfl
     rotate_left
     ·simp only [Act.put, List.setIfInBounds_toArray, List.set_cons_zero, List.set_cons_succ, i64_w, i32_w]
      rfl
     refine pure_ (i := 17) (N := some 39) (v := ?_) (a' := ?_) #[true, true, true, true, true, true, true, true, true, true, true, true, true, true, true, true, true, true, false] rfl rfl (any_of HT_.out (by kernel_rfl)) (fun _ _ _ h => h) (Or.inl ⟨by rfl, ?_⟩) ?_ ?_
     rotate_left
     ·intro w'
      go_simp
      with_reducible rfl
     rotate_left
     ·simp only [Act.put, List.setIfInBounds_toArray, List.set_cons_zero, List.set_cons_succ, i64_w, i32_w]
      rfl
     have c1 : w2.cell? ⟨g, 1, none⟩ = some (.slice none 0 0) := pw_cell_below hb hHeld.2.1
     have : Bl wr.drew w2 := ⟨hb⟩
     have hz := frozBx (W := w2) (g := g) 1
     obtain ⟨A7, c7, rfl, g7, l7⟩ := hrow
     refine last_ (i := 18) (N := none) #[true, true, true, true, true, true, true, true, true, true, true, true, true, true, true, true, true, true, true] rfl rfl (one_of HT_.out (by kernel_rfl)) (by decide) (fun K hK => ?_)
     refine skip_ (w1 := ?_) (by rfl) rfl ?_ ?_
     rotate_left
     ·go_simp
      rfl
     refine hK.out _ _ ?_
     clear hK K
     refine done_ (done_of HT_.out (by kernel_rfl)) ?_
     have HRW := Aside0.mk (show RowV k58 [(⟨⟨0, 0⟩, 0, 0⟩ : S58)] (.slice A7 1 c7) w2 from ⟨A7, c7, rfl, g7, l7⟩)
     obtain ⟨bd, eb, z0⟩ := Kd.at_bool HQ.out.1 0 (by decide) (by decide)
     subst eb
     have n1 : ad.block ≠ g := notIn (w := wr) (v := .int .i64 0) y0' (by simp)
     have n2 : bd.block ≠ g := notIn (w := wr) (v := .bool false) (by simpa [Addr.add, rdOf] using z0) (by simp)
     have hb9 : Below wr.heap.size wr w2 := (below_drew1 (Below.refl wr.heap.size wr)).trans (hb.mono (Nat.le_refl _))
     have r1 : RowV k58 [(⟨⟨0, 0⟩, 15, 8⟩ : S58)] (.slice (some ad) 1 c5) w2 := RowV.step (w := wr) ⟨_, _, rfl, HP.out.1, HP.out.2⟩ hb9
     have r2 : RowV Kd.bool [false] (.slice (some bd) 1 c8) w2 := RowV.step (w := wr) ⟨_, _, rfl, HQ.out.1, HQ.out.2⟩ hb9
     have n3 : ∀ A n c, Value.slice A7 1 c7 = .slice (some A) n c → A.block ≠ g := fun A n c e => by
      injection e with e1
      subst e1
      obtain ⟨ad7, ea, x0, _⟩ := at_T58 g7 0 (by decide) (by decide)
      injection ea with ea
      subst ea
      exact notIn (w := w2) (v := .int .i64 0) (by simpa [Addr.add, rd_T58] using x0) (by simp)
     have HPL := Aside0.mk (show Pool (.pointer (some ⟨g, 0, none⟩)) (w2.setCell ⟨g, 1, none⟩ (.slice A7 1 c7)) from ⟨g, _, _, _, rfl, bxSetS (i := 1) (v := .slice A7 1 c7) (cs := #[.slice (some ad) 1 c5, .slice none 0 0, .slice (some bd) 1 c8]), r1.far (fun _ _ _ _ h => h) (fun A n c e => by injection e with e1; injection e1 with e1; rw [← e1]; exact n1), HRW.out.far (fun _ _ _ _ h => h) n3, r2.far (fun _ _ _ _ h => h) (fun A n c e => by injection e with e1; injection e1 with e1; rw [← e1]; exact n2)⟩)
     have HBE := Aside0.mk (show Below w.heap.size w (w2.setCell ⟨g, 1, none⟩ (.slice A7 1 c7)) from below_set (below_step be.out hb9) hgw)
     clear n1 n2 n3 r1 r2 hb9 g7 l7
     go_wp2
     go_roundw
     case rel => exact ⟨⟨HBE.out⟩, .inr ⟨by go_num, HPL⟩⟩
     case measure => simp [intOf]
   ·obtain ⟨g2, va, vt, vd, e, bb, ⟨A6, c6, rfl, g6, l6⟩, h2, h3⟩ := HR.out
    injection e with e
    injection e with e
    injection e with e
    subst e
    have bb2 : Bx wr g #[.slice A6 1 c6, vt, vd] 98 := bb
    clear bb h2 h3 g6 l6
    go_wp2
    go_ret
    exact ⟨_, rfl, HR.out, be.out⟩
end Go.Proofs.Ytpedlompipabdaa.P
namespace Go.Proofs.Ytpedlompipabdaa.P
open Go.RowKit Go.Proofs.YtpedlompipabdaaW.PrintWords Go.Proofs.YtpedlompipabdaaW.PrintLast Go.Proofs.YtpedlompipabdaaW.PrintMore
set_option linter.unusedVariables false
set_option linter.unusedSimpArgs false
attribute [local go_sem] cellBx frozBx Sit.c0 Sit.c1 Sit.c2 Sit.c3 Sit.c4 Sit.c5 Sit.c6 Sit.c7 Sit.c8 Sit.c9 Sit.c10 Sit.c12 Sit.c13 Sit.c14 Sit.c15
attribute [local go_sem] Oper.semAt_some
open Go.Shelf
def Led (v : Value) (w : World) : Prop := ∃ g gp ga, v = .pointer (some ⟨g, 0, none⟩) ∧ Bx w g #[.pointer (some ⟨gp, 0, none⟩), .pointer (some ⟨ga, 0, none⟩), .slice none 0 0, .int .i64 0] 102 ∧ Pool (.pointer (some ⟨gp, 0, none⟩)) w ∧ Acc (.pointer (some ⟨ga, 0, none⟩)) w
theorem Led.step {v : Value} {w w' : World} (h : Led v w) (hb : Below w.heap.size w w') : Led v w' := let ⟨g, p, a, h1, h2, h3, h4⟩ := h; ⟨g, p, a, h1, ⟨blk_below h2.out hb⟩, h3.step hb, h4.step hb⟩
set_option maxHeartbeats 8000000 in
set_option maxRecDepth 100000 in
theorem new08 (A B : Option Addr) (c d : Nat) (w : World) (hr : Kd.C k83 w A 1 [(⟨[⟨4, 8⟩]⟩ : S83)]) (hc : 1 ≤ c) (hq : Kd.C k49 w B 1 [⟨9, 9⟩]) (hd : 1 ≤ d) : Calls Try.prog 28 #[.agg #[.slice A 1 c], .slice B 1 d] w fun e w' => ∃ v, e = .returned v ∧ Led v w' ∧ Below w.heap.size w w' := by
 have hu24 := Try.underlying24
 have hu22 := Try.underlying22
 have hu33 := Try.underlying33
 have hu99 := Try.underlying99
 have hu100 := Try.underlying100
 have hu102 := Try.underlying102
 have hu93 := Try.underlying93
 have hu3 := Try.underlying3
 have : Be w w := ⟨Below.refl _ _⟩
 have HR := Aside0.mk hr
 have HQ := Aside0.mk hq
 clear hr hq
 go_enter Try.func28, Try.ntmps28
 go_wp2_with (first | ((with_reducible refine gate_dst (N := 2) rfl ?_); refine bxT 2 #[.slice A 1 c] 24 ?_; intro g2 w2 _ _ _) | (go_at_call 52; refine (new03 A c _ (Kd.C_below HR.out Be.out) hc).mono ?_; rintro e w3 ⟨v, rfl, h3, hb⟩; have := Bl.mk hb; clear hb; have h3' := h3; obtain ⟨gp, _, _, _, rfl, _⟩ := h3'; have HP3 := Aside0.mk h3; clear h3) | (go_at_call 53; refine (new06 B d _ (Kd.C_below HQ.out Be.out) hd).mono ?_; rintro e w4 ⟨v, rfl, h4, hb⟩; have HP4 := Aside0.mk (HP3.out.step hb); have := Bl.mk hb; clear hb HP3; have h4' := h4; obtain ⟨ga, _, _, rfl, _⟩ := h4'; have HA4 := Aside0.mk h4; clear h4) | ((with_reducible refine gate_dst (N := 10) rfl ?_); refine bxT 10 #[.pointer (some ⟨gp, 0, none⟩), .pointer (some ⟨ga, 0, none⟩), .slice none 0 0, .int .i64 0] 102 ?_; intro g w5 _ _ _))
 go_ret
 exact ⟨_, rfl, ⟨g, gp, ga, rfl, inferInstance, HP4.out.step Bl.out, HA4.out.step Bl.out⟩, Be.out⟩
end Go.Proofs.Ytpedlompipabdaa.P
namespace Go.Proofs.Ytpedlompipabdaa.P
open Go.RowKit Go.Proofs.YtpedlompipabdaaW.PrintWords Go.Proofs.YtpedlompipabdaaW.PrintLast Go.Proofs.YtpedlompipabdaaW.PrintMore
attribute [local go_sem] max2_int min2_int max_two min_two max_three min_three max_four min_four
set_option linter.unusedVariables false
set_option linter.unusedSimpArgs false
def ensembleref16_rooms.l0 : Nat → List Int → Int → List (S83) → List (S51) → Int → Int → Int → Int → Option (List Int)
 | 0, _, _, _, _, _, _, _, _ => none
 | k + 1, x3, x4, x118000, x118001, x118002, x118003, x118004, x118005 => if x4 < (x118001.length : Int) then (if 0 ≤ x4 then (if x3.length < 17592186044416 then (ensembleref16_rooms.l0 k (x3 ++ [(rd_T51 x118001 x4).f1]) (wrap64 (x4 + 1)) x118000 x118001 x118002 x118003 x118004 x118005) else (none)) else (none)) else (some x3)
def ensembleref16_rooms.f (k : Nat) (l0_0 : List (S83)) (l0_1 : List (S51)) (a0_2 : Int) (a0_3 : Int) (a0_4 : Int) (a0_5 : Int) : Option (List Int) := ensembleref16_rooms.l0 k ([] : List Int) 0 l0_0 l0_1 a0_2 a0_3 a0_4 a0_5
theorem ensembleref16_rooms.mono_l : ∀ k, (∀ y0 y1 y2 y3 y4 y5 y6 y7, LeO (ensembleref16_rooms.l0 k y0 y1 y2 y3 y4 y5 y6 y7) (ensembleref16_rooms.l0 (k + 1) y0 y1 y2 y3 y4 y5 y6 y7))
 | 0 => fun _ _ _ _ _ _ _ _ r h => by simp [ensembleref16_rooms.l0] at h
 | k + 1 => by
  have ih0 := ensembleref16_rooms.mono_l k
  ·intro y0 y1 y2 y3 y4 y5 y6 y7
   unfold ensembleref16_rooms.l0
   repeat' first
   | (with_reducible exact ih0 _ _ _ _ _ _ _ _)
   | (with_reducible exact LeO.refl _)
   | (with_reducible exact LeO.none _)
   | (with_reducible refine LeO.ite ?_ ?_)
   | (with_reducible refine LeO.bind ?_ (fun _ => ?_))
   | exact ih0 _ _ _ _ _ _ _ _
   | exact LeO.none _
   | refine LeO.ite ?_ ?_
   | refine LeO.bind ?_ (fun _ => ?_)
theorem ensembleref16_rooms.mono : ∀ a0 a1 a2 a3 a4 a5 k, LeO (ensembleref16_rooms.f k a0 a1 a2 a3 a4 a5) (ensembleref16_rooms.f (k + 1) a0 a1 a2 a3 a4 a5) := by
 intro a0 a1 a2 a3 a4 a5 k
 have ih0 := ensembleref16_rooms.mono_l k
 unfold ensembleref16_rooms.f
 repeat' first
   | (with_reducible exact ih0 _ _ _ _ _ _ _ _)
   | (with_reducible exact LeO.refl _)
   | (with_reducible exact LeO.none _)
   | (with_reducible refine LeO.ite ?_ ?_)
   | (with_reducible refine LeO.bind ?_ (fun _ => ?_))
   | exact ih0 _ _ _ _ _ _ _ _
   | exact LeO.none _
   | refine LeO.ite ?_ ?_
   | refine LeO.bind ?_ (fun _ => ?_)
set_option maxHeartbeats 8000000 in
set_option maxRecDepth 100000 in
theorem ensembleref16_rooms.calls (k : Nat) (A0_0 : Option Addr) (c0_0 : Nat) (l0_0 : List (S83)) (A0_1 : Option Addr) (c0_1 : Nat) (l0_1 : List (S51)) (a0_2 : Int) (a0_3 : Int) (a0_4 : Int) (a0_5 : Int) (r : List Int) (w : World) (hr0_0 : Kd.C k83 w A0_0 l0_0.length l0_0) (hc0_0 : l0_0.length ≤ c0_0) (hr0_1 : Kd.C k51 w A0_1 l0_1.length l0_1) (hc0_1 : l0_1.length ≤ c0_1) (h : ensembleref16_rooms.f k l0_0 l0_1 a0_2 a0_3 a0_4 a0_5 = some r) :
  Calls Try.prog 18 #[.agg #[.slice A0_0 l0_0.length c0_0, .slice A0_1 l0_1.length c0_1, .int .i64 a0_2, .int .i64 a0_3, .int .i64 a0_4, .int .i64 a0_5]] w fun e w' => ∃ v0_ : Value, e = .returned (v0_) ∧ Kd.R (Kd.int .i64) 3 w' w.heap.size (fun _ => True) v0_ r ∧ Below w.heap.size w w' := by
 have hu27 := Try.underlying27
 have HR0_0 := Aside0.mk hr0_0
 have HC0_0 := Aside0.mk hc0_0
 clear hr0_0 hc0_0
 have HR0_1 := Aside0.mk hr0_1
 have HC0_1 := Aside0.mk hc0_1
 clear hr0_1 hc0_1
 have HB := Aside0.mk (Below.refl w.heap.size w)
 have H : (ensembleref16_rooms.l0 k ([] : List Int) 0 l0_0 l0_1 a0_2 a0_3 a0_4 a0_5) = some r := h
 clear h
 have H' := Aside0.mk H
 clear H
 go_enter Try.func18, Try.ntmps18
 go_wp2_with (first | ((with_reducible refine gate_dst (N := 1) rfl ?_); refine box_event ?hg (N := 1) ?hd (cs := #[.slice A0_0 l0_0.length c0_0, .slice A0_1 l0_1.length c0_1, .int .i64 a0_2, .int .i64 a0_3, .int .i64 a0_4, .int .i64 a0_5]) (t := 27) ?hr ?_; (case hd => rfl); (case hg => rfl); (case hr => first | (go_simp; done) | (go_simp; rfl)); intro gb117 hg w2 hbox hb; have n0_ := Aside0.mk (below_step (by repeat (first | (with_reducible first | exact HB.out | apply below_alloc | apply pw_below_drewN | apply below_drew1) | exact HB.out)) hb); have n1_ := Aside0.mk (hbox); have n2_ := Aside0.mk ((by rw [hg]; exact (below_size (by repeat (first | (with_reducible first | exact HB.out | apply below_alloc | apply pw_below_drewN | apply below_drew1) | exact HB.out))) : w.heap.size ≤ gb117)); have n3_ := Aside0.mk ((by rw [hg]; exact (below_size (by repeat (first | (with_reducible first | exact HB.out | apply below_alloc | apply pw_below_drewN | apply below_drew1) | exact HB.out))) : w.heap.size ≤ gb117)); clear HB; have HB := n0_; have BK117 := n1_; have GW117 := n2_; have GE117 := n3_; clear n0_ n1_ n2_ n3_; clear hb hbox hg))
 go_loopg [3, 4] k (fun kq v3 v4 w' => ∃ (x3_1 : List Int) (x4_1 : Int), v4 = .int .i64 x4_1 ∧ Aside0 (ensembleref16_rooms.l0 kq x3_1 x4_1 l0_0 l0_1 a0_2 a0_3 a0_4 a0_5 = some r) ∧ Aside0 (kq ≤ k) ∧ Aside0 (Kd.R (Kd.int .i64) 3 w' w.heap.size (fun _ => True) v3 x3_1) ∧ Aside0 (w'.heap[gb117]? = some (.cells #[(.slice A0_0 l0_0.length c0_0), (.slice A0_1 l0_1.length c0_1), .int .i64 a0_2, .int .i64 a0_3, .int .i64 a0_4, .int .i64 a0_5] 27 (0, 0))) ∧ Aside0 (Below w.heap.size w w'))
 case atStart => exact ⟨(([] : List Int)), (0), (by first | rfl | (simp; done) | (simp [*]; done)), H', ⟨Nat.le_refl _⟩, ⟨by first | exact Kd.R_nil _ _ _ _ _ | exact Kd.N_nil _ _ _ _ _ | exact Kd.V_nil _ _ _ _ _ | exact Kd.Q_nil _ _ _ _ _ | exact Kd.S_nil _ _ _ _ _⟩, ⟨by (with_reducible repeat (first | refine blk_drewN ?_ _ | refine blk_drew ?_ | refine blk_alloc ?_ _)); exact BK117.out⟩, ⟨by repeat (first | (with_reducible first | exact HB.out | apply below_alloc | apply pw_below_drewN | apply below_drew1 | refine below_set ?_ GE117.out) | exact HB.out)⟩⟩
 case round =>
  clear H'
  try clear c1
  try clear p2
  obtain ⟨x3_1, x4_1, rfl, HA, HK1, HO_3, BK117, HB⟩ := hrel
  cases gk with
  | zero => exact absurd HA.out (by simp [ensembleref16_rooms.l0])
  | succ k1 =>
   have H := HA.out
   clear HA
   simp only [ensembleref16_rooms.l0] at H
   by_cases c3 : x4_1 < (l0_1.length : Int)
   ·rw [if_pos c3] at H
    have c3b0 : decide (x4_1 < (l0_1.length : Int)) = true := decide_eq_true c3
    clear c3
    by_cases c4 : 0 ≤ x4_1
    ·rw [if_pos c4] at H
     have c4b0 : decide (0 ≤ x4_1) = true := decide_eq_true c4
     clear c4
     by_cases c5 : x3_1.length < 17592186044416
     ·rw [if_pos c5] at H
      have LMc5 := Aside0.mk c5
      clear c5
      obtain ⟨y119, hy119⟩ : ∃ y_ : List Int, y_ = (x3_1 ++ [(rd_T51 l0_1 x4_1).f1]) := ⟨_, rfl⟩
      replace H : (ensembleref16_rooms.l0 k1 y119 (wrap64 (x4_1 + 1)) l0_0 l0_1 a0_2 a0_3 a0_4 a0_5) = some r := by first | (rw [hy119]; with_reducible exact H) | (have H2_ := (Option.bind_some _ _).symm.trans H; rw [hy119]; with_reducible exact H2_) | (have H2_ := (Option.bind_some _ _).symm.trans H; with_reducible exact H2_) | with_reducible exact H | (rw [hy119]; exact H) | exact H
      have Ny119 := Aside0.mk hy119
      clear hy119
      have H' := Aside0.mk H
      clear H
      have hcz6_0 : wr.cell? ⟨gb117, 0, none⟩ = some (.slice A0_0 l0_0.length c0_0) := (blk_cell BK117.out 0).trans rfl
      have hcz6_1 : wr.cell? ⟨gb117, 1, none⟩ = some (.slice A0_1 l0_1.length c0_1) := (blk_cell BK117.out 1).trans rfl
      have hcz6_2 : wr.cell? ⟨gb117, 2, none⟩ = some (.int .i64 a0_2) := (blk_cell BK117.out 2).trans rfl
      have hcz6_3 : wr.cell? ⟨gb117, 3, none⟩ = some (.int .i64 a0_3) := (blk_cell BK117.out 3).trans rfl
      have hcz6_4 : wr.cell? ⟨gb117, 4, none⟩ = some (.int .i64 a0_4) := (blk_cell BK117.out 4).trans rfl
      have hcz6_5 : wr.cell? ⟨gb117, 5, none⟩ = some (.int .i64 a0_5) := (blk_cell BK117.out 5).trans rfl
      have hfz6_0 := blk_frozen BK117.out 0
      have hfz6_1 := blk_frozen BK117.out 1
      have hfz6_2 := blk_frozen BK117.out 2
      have hfz6_3 := blk_frozen BK117.out 3
      have hfz6_4 := blk_frozen BK117.out 4
      have hfz6_5 := blk_frozen BK117.out 5
      have p118 : 0 ≤ (x4_1 : Int) := of_decide_eq_true (by first | (with_reducible assumption) | assumption)
      have q118 : x4_1 < (l0_1.length : Int) := of_decide_eq_true (by first | (with_reducible assumption) | assumption)
      obtain ⟨ad118, e118, hx118_0, hx118_1, hx118_2⟩ := at_T51 HR0_1.out x4_1 p118 q118
      cases e118
      replace hx118_0 := (HB.out.cell (World.block_lt_of_cell? w _ hx118_0)).trans hx118_0
      replace hx118_1 := (HB.out.cell (World.block_lt_of_cell? w _ hx118_1)).trans hx118_1
      replace hx118_2 := (HB.out.cell (World.block_lt_of_cell? w _ hx118_2)).trans hx118_2
      replace p118 := eq_true p118
      replace q118 := eq_true q118
      go_wp2_with (first | ((with_reducible refine gate_builtin (b := .append) (xs := #[.tmp 12, .tmp 19]) rfl ?_); at_builtin; refine Kd.R_append (Kd.int .i64) (w0 := w) w.heap.size rfl (.tmp 12) (.tmp 19) 28 3 (.int .i64 0) 8 rfl Try.underlying28 info3 rfl (by decide) (by omega) u3 x3_1 ((rd_T51 l0_1 x4_1).f1) [.int .i64 ((rd_T51 l0_1 x4_1).f1)] (fun _ => True) (fun _ => False) rfl rfl ?aP (fun _ hk => hk.elim) ?aF ?aO ?aB ?aS ?aL ?_; (case aP => exact rfl); (case aB => exact (by repeat (first | (with_reducible first | exact HB.out | apply below_alloc | apply pw_below_drewN | apply below_drew1 | refine below_set ?_ GE117.out) | exact HB.out))); (case aF => exact (fun _ _ => trivial)); (case aO => exact (by (with_reducible repeat (first | apply Kd.R_alloc | apply Kd.R_drewN | apply Kd.R_drew)); exact HO_3.out)); (case aS => exact (below_size (by repeat (first | (with_reducible first | exact HB.out | apply below_alloc | apply pw_below_drewN | apply below_drew1 | refine below_set ?_ GE117.out) | exact HB.out)))); (case aL => have := LMc5.out; omega); intro v120 w7 ho hb hg hat; rw [← Ny119.out] at ho; have n0_ := Aside0.mk (blk_grown (g := gb117) (o := .cells #[.slice A0_0 l0_0.length c0_0, .slice (some ad118) l0_1.length c0_1, .int .i64 a0_2, .int .i64 a0_3, .int .i64 a0_4, .int .i64 a0_5] 27 (0, 0)) (by (with_reducible repeat (first | refine blk_drewN ?_ _ | refine blk_drew ?_ | refine blk_alloc ?_ _)); exact BK117.out) hg (Kd.R_ne HO_3.out BK117.out (by decide))); have n1_ := Aside0.mk (hb); have n2_ := Aside0.mk (ho); clear BK117; clear HB; clear HO_3; have BK117 := n0_; have HB := n1_; have HO121 := n2_; clear n0_ n1_ n2_; clear ho hb hg hat))
      go_roundg k1
      case measure => have := HK1.out; omega
      case rel => exact ⟨(y119), (wrap64 (x4_1 + 1)), (by first | rfl | (simp; done) | (simp [*]; done)), H', ⟨by have := HK1.out; omega⟩, ⟨by (with_reducible repeat (first | apply Kd.R_alloc | apply Kd.R_drewN | apply Kd.R_drew)); exact HO121.out⟩, ⟨by (with_reducible repeat (first | refine blk_drewN ?_ _ | refine blk_drew ?_ | refine blk_alloc ?_ _)); exact BK117.out⟩, ⟨by repeat (first | (with_reducible first | exact HB.out | apply below_alloc | apply pw_below_drewN | apply below_drew1 | refine below_set ?_ GE117.out) | exact HB.out)⟩⟩
     ·rw [if_neg c5] at H
      exact absurd H (by simp)
    ·rw [if_neg c4] at H
     exact absurd H (by simp)
   ·rw [if_neg c3] at H
    have c3b0 : decide (x4_1 < (l0_1.length : Int)) = false := decide_eq_false c3
    clear c3
    obtain rfl := Option.some.inj H
    have hcz8_0 : wr.cell? ⟨gb117, 0, none⟩ = some (.slice A0_0 l0_0.length c0_0) := (blk_cell BK117.out 0).trans rfl
    have hcz8_1 : wr.cell? ⟨gb117, 1, none⟩ = some (.slice A0_1 l0_1.length c0_1) := (blk_cell BK117.out 1).trans rfl
    have hcz8_2 : wr.cell? ⟨gb117, 2, none⟩ = some (.int .i64 a0_2) := (blk_cell BK117.out 2).trans rfl
    have hcz8_3 : wr.cell? ⟨gb117, 3, none⟩ = some (.int .i64 a0_3) := (blk_cell BK117.out 3).trans rfl
    have hcz8_4 : wr.cell? ⟨gb117, 4, none⟩ = some (.int .i64 a0_4) := (blk_cell BK117.out 4).trans rfl
    have hcz8_5 : wr.cell? ⟨gb117, 5, none⟩ = some (.int .i64 a0_5) := (blk_cell BK117.out 5).trans rfl
    have hfz8_0 := blk_frozen BK117.out 0
    have hfz8_1 := blk_frozen BK117.out 1
    have hfz8_2 := blk_frozen BK117.out 2
    have hfz8_3 := blk_frozen BK117.out 3
    have hfz8_4 := blk_frozen BK117.out 4
    have hfz8_5 := blk_frozen BK117.out 5
    go_wp2
    go_ret
    exact ⟨_, by first | rfl | (simp [errW_none, errW_some] <;> rfl) | (simp [*, errW_none, errW_some] <;> rfl), by (with_reducible repeat (first | apply Kd.R_alloc | apply Kd.R_drewN | apply Kd.R_drew)); exact HO_3.out, by repeat (first | (with_reducible first | exact HB.out | apply below_alloc | apply pw_below_drewN | apply below_drew1 | refine below_set ?_ GE117.out) | exact HB.out)⟩
end Go.Proofs.Ytpedlompipabdaa.P
namespace Go.Proofs.Ytpedlompipabdaa.P
open Go.RowKit Go.Proofs.YtpedlompipabdaaW.PrintWords Go.Proofs.YtpedlompipabdaaW.PrintLast Go.Proofs.YtpedlompipabdaaW.PrintMore
attribute [local go_sem] max2_int min2_int max_two min_two max_three min_three max_four min_four
set_option linter.unusedVariables false
set_option linter.unusedSimpArgs false
def ensembleref16_quotas.l0 : Nat → List (S49) → Int → List (S83) → List (S51) → Int → Int → Int → Int → Option ((List (S49)))
 | 0, _, _, _, _, _, _, _, _ => none
 | k + 1, x3, x4, x111000, x111001, x111002, x111003, x111004, x111005 => if x4 < (x111001.length : Int) then (if 0 ≤ x4 then (if x3.length < 8796093022208 then (ensembleref16_quotas.l0 k (x3 ++ [(⟨(rd_T51 x111001 x4).f0.f0, (rd_T51 x111001 x4).f0.f1⟩ : S49)]) (wrap64 (x4 + 1)) x111000 x111001 x111002 x111003 x111004 x111005) else (none)) else (none)) else (some x3)
def ensembleref16_quotas.f (k : Nat) (l0_0 : List (S83)) (l0_1 : List (S51)) (a0_2 : Int) (a0_3 : Int) (a0_4 : Int) (a0_5 : Int) : Option ((List (S49))) := ensembleref16_quotas.l0 k ([] : List (S49)) 0 l0_0 l0_1 a0_2 a0_3 a0_4 a0_5
theorem ensembleref16_quotas.mono_l : ∀ k, (∀ y0 y1 y2 y3 y4 y5 y6 y7, LeO (ensembleref16_quotas.l0 k y0 y1 y2 y3 y4 y5 y6 y7) (ensembleref16_quotas.l0 (k + 1) y0 y1 y2 y3 y4 y5 y6 y7))
 | 0 => fun _ _ _ _ _ _ _ _ r h => by simp [ensembleref16_quotas.l0] at h
 | k + 1 => by
  have ih0 := ensembleref16_quotas.mono_l k
  ·intro y0 y1 y2 y3 y4 y5 y6 y7
   unfold ensembleref16_quotas.l0
   repeat' first
   | (with_reducible exact ih0 _ _ _ _ _ _ _ _)
   | (with_reducible exact LeO.refl _)
   | (with_reducible exact LeO.none _)
   | (with_reducible refine LeO.ite ?_ ?_)
   | (with_reducible refine LeO.bind ?_ (fun _ => ?_))
   | exact ih0 _ _ _ _ _ _ _ _
   | exact LeO.none _
   | refine LeO.ite ?_ ?_
   | refine LeO.bind ?_ (fun _ => ?_)
theorem ensembleref16_quotas.mono : ∀ a0 a1 a2 a3 a4 a5 k, LeO (ensembleref16_quotas.f k a0 a1 a2 a3 a4 a5) (ensembleref16_quotas.f (k + 1) a0 a1 a2 a3 a4 a5) := by
 intro a0 a1 a2 a3 a4 a5 k
 have ih0 := ensembleref16_quotas.mono_l k
 unfold ensembleref16_quotas.f
 repeat' first
   | (with_reducible exact ih0 _ _ _ _ _ _ _ _)
   | (with_reducible exact LeO.refl _)
   | (with_reducible exact LeO.none _)
   | (with_reducible refine LeO.ite ?_ ?_)
   | (with_reducible refine LeO.bind ?_ (fun _ => ?_))
   | exact ih0 _ _ _ _ _ _ _ _
   | exact LeO.none _
   | refine LeO.ite ?_ ?_
   | refine LeO.bind ?_ (fun _ => ?_)
set_option maxHeartbeats 8000000 in
set_option maxRecDepth 100000 in
theorem ensembleref16_quotas.calls (k : Nat) (A0_0 : Option Addr) (c0_0 : Nat) (l0_0 : List (S83)) (A0_1 : Option Addr) (c0_1 : Nat) (l0_1 : List (S51)) (a0_2 : Int) (a0_3 : Int) (a0_4 : Int) (a0_5 : Int) (r : List (S49)) (w : World) (hr0_0 : Kd.C k83 w A0_0 l0_0.length l0_0) (hc0_0 : l0_0.length ≤ c0_0) (hr0_1 : Kd.C k51 w A0_1 l0_1.length l0_1) (hc0_1 : l0_1.length ≤ c0_1) (h : ensembleref16_quotas.f k l0_0 l0_1 a0_2 a0_3 a0_4 a0_5 = some r) :
  Calls Try.prog 16 #[.agg #[.slice A0_0 l0_0.length c0_0, .slice A0_1 l0_1.length c0_1, .int .i64 a0_2, .int .i64 a0_3, .int .i64 a0_4, .int .i64 a0_5]] w fun e w' => ∃ v0_ : Value, e = .returned (v0_) ∧ Kd.R k49 49 w' w.heap.size (fun _ => True) v0_ r ∧ Below w.heap.size w w' := by
 have hu27 := Try.underlying27
 have hu49 := Try.underlying49
 have HR0_0 := Aside0.mk hr0_0
 have HC0_0 := Aside0.mk hc0_0
 clear hr0_0 hc0_0
 have HR0_1 := Aside0.mk hr0_1
 have HC0_1 := Aside0.mk hc0_1
 clear hr0_1 hc0_1
 have HB := Aside0.mk (Below.refl w.heap.size w)
 have H : (ensembleref16_quotas.l0 k ([] : List (S49)) 0 l0_0 l0_1 a0_2 a0_3 a0_4 a0_5) = some r := h
 clear h
 have H' := Aside0.mk H
 clear H
 go_enter Try.func16, Try.ntmps16
 go_wp2_with (first | ((with_reducible refine gate_dst (N := 1) rfl ?_); refine box_event ?hg (N := 1) ?hd (cs := #[.slice A0_0 l0_0.length c0_0, .slice A0_1 l0_1.length c0_1, .int .i64 a0_2, .int .i64 a0_3, .int .i64 a0_4, .int .i64 a0_5]) (t := 27) ?hr ?_; (case hd => rfl); (case hg => rfl); (case hr => first | (go_simp; done) | (go_simp; rfl)); intro gb110 hg w2 hbox hb; have n0_ := Aside0.mk (below_step (by repeat (first | (with_reducible first | exact HB.out | apply below_alloc | apply pw_below_drewN | apply below_drew1) | exact HB.out)) hb); have n1_ := Aside0.mk (hbox); have n2_ := Aside0.mk ((by rw [hg]; exact (below_size (by repeat (first | (with_reducible first | exact HB.out | apply below_alloc | apply pw_below_drewN | apply below_drew1) | exact HB.out))) : w.heap.size ≤ gb110)); have n3_ := Aside0.mk ((by rw [hg]; exact (below_size (by repeat (first | (with_reducible first | exact HB.out | apply below_alloc | apply pw_below_drewN | apply below_drew1) | exact HB.out))) : w.heap.size ≤ gb110)); clear HB; have HB := n0_; have BK110 := n1_; have GW110 := n2_; have GE110 := n3_; clear n0_ n1_ n2_ n3_; clear hb hbox hg))
 go_loopg [3, 4] k (fun kq v3 v4 w' => ∃ (x3_1 : List (S49)) (x4_1 : Int), v4 = .int .i64 x4_1 ∧ Aside0 (ensembleref16_quotas.l0 kq x3_1 x4_1 l0_0 l0_1 a0_2 a0_3 a0_4 a0_5 = some r) ∧ Aside0 (kq ≤ k) ∧ Aside0 (Kd.R k49 49 w' w.heap.size (fun _ => True) v3 x3_1) ∧ Aside0 (w'.heap[gb110]? = some (.cells #[(.slice A0_0 l0_0.length c0_0), (.slice A0_1 l0_1.length c0_1), .int .i64 a0_2, .int .i64 a0_3, .int .i64 a0_4, .int .i64 a0_5] 27 (0, 0))) ∧ Aside0 (Below w.heap.size w w'))
 case atStart => exact ⟨(([] : List (S49))), (0), (by first | rfl | (simp; done) | (simp [*]; done)), H', ⟨Nat.le_refl _⟩, ⟨by first | exact Kd.R_nil _ _ _ _ _ | exact Kd.N_nil _ _ _ _ _ | exact Kd.V_nil _ _ _ _ _ | exact Kd.Q_nil _ _ _ _ _ | exact Kd.S_nil _ _ _ _ _⟩, ⟨by (with_reducible repeat (first | refine blk_drewN ?_ _ | refine blk_drew ?_ | refine blk_alloc ?_ _)); exact BK110.out⟩, ⟨by repeat (first | (with_reducible first | exact HB.out | apply below_alloc | apply pw_below_drewN | apply below_drew1 | refine below_set ?_ GE110.out) | exact HB.out)⟩⟩
 case round =>
  clear H'
  try clear c1
  try clear p2
  obtain ⟨x3_1, x4_1, rfl, HA, HK1, HO_3, BK110, HB⟩ := hrel
  cases gk with
  | zero => exact absurd HA.out (by simp [ensembleref16_quotas.l0])
  | succ k1 =>
   have H := HA.out
   clear HA
   simp only [ensembleref16_quotas.l0] at H
   by_cases c3 : x4_1 < (l0_1.length : Int)
   ·rw [if_pos c3] at H
    have c3b0 : decide (x4_1 < (l0_1.length : Int)) = true := decide_eq_true c3
    clear c3
    by_cases c4 : 0 ≤ x4_1
    ·rw [if_pos c4] at H
     have c4b0 : decide (0 ≤ x4_1) = true := decide_eq_true c4
     clear c4
     by_cases c5 : x3_1.length < 8796093022208
     ·rw [if_pos c5] at H
      have LMc5 := Aside0.mk c5
      clear c5
      obtain ⟨y112, hy112⟩ : ∃ y_ : List (S49), y_ = (x3_1 ++ [(⟨(rd_T51 l0_1 x4_1).f0.f0, (rd_T51 l0_1 x4_1).f0.f1⟩ : S49)]) := ⟨_, rfl⟩
      replace H : (ensembleref16_quotas.l0 k1 y112 (wrap64 (x4_1 + 1)) l0_0 l0_1 a0_2 a0_3 a0_4 a0_5) = some r := by first | (rw [hy112]; with_reducible exact H) | (have H2_ := (Option.bind_some _ _).symm.trans H; rw [hy112]; with_reducible exact H2_) | (have H2_ := (Option.bind_some _ _).symm.trans H; with_reducible exact H2_) | with_reducible exact H | (rw [hy112]; exact H) | exact H
      have Ny112 := Aside0.mk hy112
      clear hy112
      have H' := Aside0.mk H
      clear H
      have hcz6_0 : wr.cell? ⟨gb110, 0, none⟩ = some (.slice A0_0 l0_0.length c0_0) := (blk_cell BK110.out 0).trans rfl
      have hcz6_1 : wr.cell? ⟨gb110, 1, none⟩ = some (.slice A0_1 l0_1.length c0_1) := (blk_cell BK110.out 1).trans rfl
      have hcz6_2 : wr.cell? ⟨gb110, 2, none⟩ = some (.int .i64 a0_2) := (blk_cell BK110.out 2).trans rfl
      have hcz6_3 : wr.cell? ⟨gb110, 3, none⟩ = some (.int .i64 a0_3) := (blk_cell BK110.out 3).trans rfl
      have hcz6_4 : wr.cell? ⟨gb110, 4, none⟩ = some (.int .i64 a0_4) := (blk_cell BK110.out 4).trans rfl
      have hcz6_5 : wr.cell? ⟨gb110, 5, none⟩ = some (.int .i64 a0_5) := (blk_cell BK110.out 5).trans rfl
      have hfz6_0 := blk_frozen BK110.out 0
      have hfz6_1 := blk_frozen BK110.out 1
      have hfz6_2 := blk_frozen BK110.out 2
      have hfz6_3 := blk_frozen BK110.out 3
      have hfz6_4 := blk_frozen BK110.out 4
      have hfz6_5 := blk_frozen BK110.out 5
      have p111 : 0 ≤ (x4_1 : Int) := of_decide_eq_true (by first | (with_reducible assumption) | assumption)
      have q111 : x4_1 < (l0_1.length : Int) := of_decide_eq_true (by first | (with_reducible assumption) | assumption)
      obtain ⟨ad111, e111, hx111_0, hx111_1, hx111_2⟩ := at_T51 HR0_1.out x4_1 p111 q111
      cases e111
      replace hx111_0 := (HB.out.cell (World.block_lt_of_cell? w _ hx111_0)).trans hx111_0
      replace hx111_1 := (HB.out.cell (World.block_lt_of_cell? w _ hx111_1)).trans hx111_1
      replace hx111_2 := (HB.out.cell (World.block_lt_of_cell? w _ hx111_2)).trans hx111_2
      replace p111 := eq_true p111
      replace q111 := eq_true q111
      go_wp2_with (first | ((with_reducible refine gate_builtin (b := .append) (xs := #[.tmp 12, .tmp 19]) rfl ?_); at_builtin; refine Kd.R_append k49 (w0 := w) w.heap.size rfl (.tmp 12) (.tmp 19) 33 49 (.agg #[(.int .i64 0), (.int .i64 0)]) 16 rfl Try.underlying33 info49 rfl (by decide) (by omega) u3 x3_1 (⟨(rd_T51 l0_1 x4_1).f0.f0, (rd_T51 l0_1 x4_1).f0.f1⟩ : S49) [.int .i64 ((rd_T51 l0_1 x4_1).f0.f0), .int .i64 ((rd_T51 l0_1 x4_1).f0.f1)] (fun _ => True) (fun _ => False) rfl rfl ?aP (fun _ hk => hk.elim) ?aF ?aO ?aB ?aS ?aL ?_; (case aP => exact k49_mkM _ _ _ (⟨(rd_T51 l0_1 x4_1).f0.f0, (rd_T51 l0_1 x4_1).f0.f1⟩ : S49)); (case aB => exact (by repeat (first | (with_reducible first | exact HB.out | apply below_alloc | apply pw_below_drewN | apply below_drew1 | refine below_set ?_ GE110.out) | exact HB.out))); (case aF => exact (fun _ _ => trivial)); (case aO => exact (by (with_reducible repeat (first | apply Kd.R_alloc | apply Kd.R_drewN | apply Kd.R_drew)); exact HO_3.out)); (case aS => exact (below_size (by repeat (first | (with_reducible first | exact HB.out | apply below_alloc | apply pw_below_drewN | apply below_drew1 | refine below_set ?_ GE110.out) | exact HB.out)))); (case aL => have := LMc5.out; omega); intro v113 w7 ho hb hg hat; rw [← Ny112.out] at ho; have n0_ := Aside0.mk (blk_grown (g := gb110) (o := .cells #[.slice A0_0 l0_0.length c0_0, .slice (some ad111) l0_1.length c0_1, .int .i64 a0_2, .int .i64 a0_3, .int .i64 a0_4, .int .i64 a0_5] 27 (0, 0)) (by (with_reducible repeat (first | refine blk_drewN ?_ _ | refine blk_drew ?_ | refine blk_alloc ?_ _)); exact BK110.out) hg (Kd.R_ne HO_3.out BK110.out (by decide))); have n1_ := Aside0.mk (hb); have n2_ := Aside0.mk (ho); clear BK110; clear HB; clear HO_3; have BK110 := n0_; have HB := n1_; have HO114 := n2_; clear n0_ n1_ n2_; clear ho hb hg hat))
      go_roundg k1
      case measure => have := HK1.out; omega
      case rel => exact ⟨(y112), (wrap64 (x4_1 + 1)), (by first | rfl | (simp; done) | (simp [*]; done)), H', ⟨by have := HK1.out; omega⟩, ⟨by (with_reducible repeat (first | apply Kd.R_alloc | apply Kd.R_drewN | apply Kd.R_drew)); exact HO114.out⟩, ⟨by (with_reducible repeat (first | refine blk_drewN ?_ _ | refine blk_drew ?_ | refine blk_alloc ?_ _)); exact BK110.out⟩, ⟨by repeat (first | (with_reducible first | exact HB.out | apply below_alloc | apply pw_below_drewN | apply below_drew1 | refine below_set ?_ GE110.out) | exact HB.out)⟩⟩
     ·rw [if_neg c5] at H
      exact absurd H (by simp)
    ·rw [if_neg c4] at H
     exact absurd H (by simp)
   ·rw [if_neg c3] at H
    have c3b0 : decide (x4_1 < (l0_1.length : Int)) = false := decide_eq_false c3
    clear c3
    obtain rfl := Option.some.inj H
    have hcz8_0 : wr.cell? ⟨gb110, 0, none⟩ = some (.slice A0_0 l0_0.length c0_0) := (blk_cell BK110.out 0).trans rfl
    have hcz8_1 : wr.cell? ⟨gb110, 1, none⟩ = some (.slice A0_1 l0_1.length c0_1) := (blk_cell BK110.out 1).trans rfl
    have hcz8_2 : wr.cell? ⟨gb110, 2, none⟩ = some (.int .i64 a0_2) := (blk_cell BK110.out 2).trans rfl
    have hcz8_3 : wr.cell? ⟨gb110, 3, none⟩ = some (.int .i64 a0_3) := (blk_cell BK110.out 3).trans rfl
    have hcz8_4 : wr.cell? ⟨gb110, 4, none⟩ = some (.int .i64 a0_4) := (blk_cell BK110.out 4).trans rfl
    have hcz8_5 : wr.cell? ⟨gb110, 5, none⟩ = some (.int .i64 a0_5) := (blk_cell BK110.out 5).trans rfl
    have hfz8_0 := blk_frozen BK110.out 0
    have hfz8_1 := blk_frozen BK110.out 1
    have hfz8_2 := blk_frozen BK110.out 2
    have hfz8_3 := blk_frozen BK110.out 3
    have hfz8_4 := blk_frozen BK110.out 4
    have hfz8_5 := blk_frozen BK110.out 5
    go_wp2
    go_ret
    exact ⟨_, by first | rfl | (simp [errW_none, errW_some] <;> rfl) | (simp [*, errW_none, errW_some] <;> rfl), by (with_reducible repeat (first | apply Kd.R_alloc | apply Kd.R_drewN | apply Kd.R_drew)); exact HO_3.out, by repeat (first | (with_reducible first | exact HB.out | apply below_alloc | apply pw_below_drewN | apply below_drew1 | refine below_set ?_ GE110.out) | exact HB.out)⟩
end Go.Proofs.Ytpedlompipabdaa.P
namespace Go.Proofs.Ytpedlompipabdaa.P
open Go.RowKit Go.Proofs.YtpedlompipabdaaW.PrintWords Go.Proofs.YtpedlompipabdaaW.PrintLast Go.Proofs.YtpedlompipabdaaW.PrintMore
set_option linter.unusedVariables false
set_option linter.unusedSimpArgs false
attribute [local go_sem] cellBx frozBx Sit.c0 Sit.c1 Sit.c2 Sit.c3 Sit.c4 Sit.c5 Sit.c6 Sit.c7 Sit.c8 Sit.c9 Sit.c10 Sit.c12 Sit.c13 Sit.c14 Sit.c15
attribute [local go_sem] Oper.semAt_some
open Go.Shelf
def R11.T1 : Bool × List (List Nat × List Nat) := (true, [([], []), ([], []), ([1], [1]), ([], []), ([3], [3]), ([4], [4]), ([5], [5]), ([], []), ([7], [7]), ([], []), ([9, 4], [9]), ([8, 10, 10], [8, 10]), ([], []), ([12], [12]), ([13, 13], [13]), ([0, 2, 6, 11, 14], [0, 2, 6, 11, 14]), ([15], [15]), ([16, 11, 0, 1, 2, 3, 4, 5, 6, 7, 8, 9, 10, 11, 12, 13, 14, 15, 16], [16])])
def R11.B1 : List Nat := [0, 0, 2, 0, 8, 24, 56, 0, 128, 0, 536, 1944, 0, 4096, 12288, 32767, 65535, 131071]
theorem R11.tab1 : rtab .any (opsOf Try.f11 1) = R11.T1 := by kernel_rfl
theorem R11.bits1 : waitsOk R11.T1.2 R11.B1 = true := by kernel_rfl
def Sys (v : Value) (w : World) : Prop := ∃ g gb gl n q r wv, v = .pointer (some ⟨g, 0, none⟩) ∧ Bx w g #[n, q, .int .i64 1, .int .i64 2, .int .i64 9, .int .i64 4, .int .i64 0, .pointer (some ⟨gb, 0, none⟩), r, .pointer (some ⟨gl, 0, none⟩), wv, .int .i64 0, .int .i64 0] 96 ∧ Bx w gb #[.slice none 0 0] 88 ∧ Led (.pointer (some ⟨gl, 0, none⟩)) w ∧ RowV (Kd.int .i64) [0] wv w
theorem Sys.step {v : Value} {w w' : World} (h : Sys v w) (hb : Below w.heap.size w w') : Sys v w' := let ⟨g, p, a, n, q, r, wv, h1, h2, h3, h4, h5⟩ := h; ⟨g, p, a, n, q, r, wv, h1, ⟨blk_below h2.out hb⟩, ⟨blk_below h3.out hb⟩, h4.step hb, h5.step hb⟩
def BookV (v : Value) (w : World) : Prop := ∃ g, v = .pointer (some ⟨g, 0, none⟩) ∧ Bx w g #[.slice none 0 0] 88
theorem BookV.step {v : Value} {w w' : World} (h : BookV v w) (hb : Below w.heap.size w w') : BookV v w' := let ⟨g, h1, h2⟩ := h; ⟨g, h1, ⟨blk_below h2.out hb⟩⟩
def post11 (n q : Value) : Nat → Value → World → Prop
 | 2, v, w => BookV v w
 | 4, v, w => RowV (Kd.int .i64) [3] v w
 | 5, v, w => ∃ A c, v = .agg #[.slice A 1 c, .slice none 0 0]
 | 6, v, w => ∃ g, v = .pointer (some ⟨g, 0, none⟩)
 | 10, v, w => RowV k49 [⟨9, 9⟩] v w
 | 11, v, w => Led v w
 | 14, v, w => RowV (Kd.int .i64) [0] v w
 | 15, v, w => ∃ gb gq gl A c, v = .agg #[n, q, .int .i64 1, .int .i64 2, .int .i64 9, .int .i64 4, .int .i64 0, .pointer (some ⟨gb, 0, none⟩), .pointer (some ⟨gq, 0, none⟩), .pointer (some ⟨gl, 0, none⟩), .slice A 1 c, .int .i64 0, .int .i64 0] ∧ Bx w gb #[.slice none 0 0] 88 ∧ Led (.pointer (some ⟨gl, 0, none⟩)) w ∧ RowV (Kd.int .i64) [0] (.slice A 1 c) w
 | 16, v, w => Sys v w
 | 17, v, w => Sys v w
 | _, _, _ => True
theorem post11_st (n q : Value) (i : Nat) (v : Value) (w w' : World) (h : post11 n q i v w) (hb : Below w.heap.size w w') : post11 n q i v w' := by
 unfold post11 at h ⊢
 split at h
 ·exact h.step hb
 ·exact h.step hb
 ·exact h
 ·exact h
 ·exact h.step hb
 ·exact h.step hb
 ·exact h.step hb
 ·obtain ⟨gb, gq, gl, A, c, h1, h2, h3, h4⟩ := h; exact ⟨gb, gq, gl, A, c, h1, ⟨blk_below h2.out hb⟩, h3.step hb, h4.step hb⟩
 ·exact h.step hb
 ·exact h.step hb
 ·trivial
theorem make28 (w : World) : (Instr.makeSlice 28 (.int .i64 1) (.int .i64 1)).run Try.prog w = .ok (.slice (some ⟨w.heap.size, 0, none⟩) 1 1) (w.alloc (.cells #[.int .i64 0] 3)) := by
 kernel_rfl
theorem intK (w : World) (b : Int) : (Kd.int .i64).K w b [.int .i64 b] := rfl
set_option maxHeartbeats 8000000 in
set_option maxRecDepth 100000 in
theorem new16 (A B : Option Addr) (c d : Nat) (w : World) (hr : Kd.C k83 w A 1 [(⟨[⟨4, 8⟩]⟩ : S83)]) (hc : 1 ≤ c) (hq : Kd.C k51 w B 1 [(⟨⟨9, 9⟩, 3⟩ : S51)]) (hd : 1 ≤ d) : Calls Try.prog 11 #[.agg #[.slice A 1 c, .slice B 1 d, .int .i64 1, .int .i64 2, .int .i64 9, .int .i64 4]] w fun e w' => ∃ v, e = .returned v ∧ Sys v w' ∧ Below w.heap.size w w' := by
 have hu24 := Try.underlying24
 have hu22 := Try.underlying22
 have hu25 := Try.underlying25
 have hu27 := Try.underlying27
 have hu33 := Try.underlying33
 have hu93 := Try.underlying93
 have hu96 := Try.underlying96
 have hu88 := Try.underlying88
 have hu92 := Try.underlying92
 have hu28 := Try.underlying28
 have hu65 := Try.underlying65
 have hu86 := Try.underlying86
 have hu89 := Try.underlying89
 have hu90 := Try.underlying90
 have hu30 := Try.underlying30
 have hu3 := Try.underlying3
 have : Be w w := ⟨Below.refl _ _⟩
 have HR := Aside0.mk hr
 have HQ := Aside0.mk hq
 clear hr hq
 go_enter Try.func11, Try.ntmps11
 go_upto_region 1 with (first | ((with_reducible refine gate_dst (N := 1) rfl ?_); refine bxT 1 #[.slice A 1 c, .slice B 1 d, .int .i64 1, .int .i64 2, .int .i64 9, .int .i64 4] 27 ?_; intro g1 w1 _ _ _))
 refine start_ (n := 18) (S := fun w' => w'.cell? ⟨g1, 0, none⟩ = some (.slice A 1 c) ∧ w'.cell? ⟨g1, 1, none⟩ = some (.slice B 1 d) ∧ w'.cell? ⟨g1, 2, none⟩ = some (.int .i64 1) ∧ w'.cell? ⟨g1, 3, none⟩ = some (.int .i64 2) ∧ w'.cell? ⟨g1, 4, none⟩ = some (.int .i64 9) ∧ w'.cell? ⟨g1, 5, none⟩ = some (.int .i64 4)) (ds := []) #[false, false, false, false, false, false, false, false, false, false, false, false, false, false, false, false, false, false] (by kernel_rfl) rfl rfl ⟨(cellBx _).trans rfl, (cellBx _).trans rfl, (cellBx _).trans rfl, (cellBx _).trans rfl, (cellBx _).trans rfl, (cellBx _).trans rfl⟩ (fun hHeld => ?_)
 refine with_tabW R11.tab1 R11.bits1 (fun HT_ HW_ => ?_)
 refine take_ (i := 0) (N := some 3) (v := ?_) (a' := ?_) #[true, false, false, false, false, false, false, false, false, false, false, false, false, false, false, false, false, false] rfl rfl (take_ofW HT_.out HW_.out (by kernel_rfl)) (fun _ _ _ h => h) (Or.inl ⟨by rfl, ?_⟩) hHeld ?_ ?_
 rotate_left
 ·rintro w' ⟨s0, s1, s2, s3, s4, s5⟩
  go_simp
  with_reducible rfl
 rotate_left
 ·simp only [Act.put, List.setIfInBounds_toArray, List.set_cons_zero, List.set_cons_succ, i64_w, i32_w]
  rfl
 refine pure_ (i := 1) (N := some 4) (v := ?_) (a' := ?_) #[true, true, false, false, false, false, false, false, false, false, false, false, false, false, false, false, false, false] rfl rfl (any_of HT_.out (by kernel_rfl)) (fun _ _ _ h => h) (Or.inl ⟨by rfl, ?_⟩) ?_ ?_
 rotate_left
 ·intro w'
  go_simp
  with_reducible rfl
 rotate_left
 ·simp only [Act.put, List.setIfInBounds_toArray, List.set_cons_zero, List.set_cons_succ, i64_w, i32_w]
  rfl
 refine take_ (i := 3) (N := some 6) (v := ?_) (a' := ?_) #[true, true, false, true, false, false, false, false, false, false, false, false, false, false, false, false, false, false] rfl rfl (take_ofW HT_.out HW_.out (by kernel_rfl)) (fun _ _ _ h => h) (Or.inl ⟨by rfl, ?_⟩) hHeld ?_ ?_
 rotate_left
 ·rintro w' ⟨s0, s1, s2, s3, s4, s5⟩
  go_simp
  with_reducible rfl
 rotate_left
 ·simp only [Act.put, List.setIfInBounds_toArray, List.set_cons_zero, List.set_cons_succ, i64_w, i32_w]
  rfl
 refine pure_ (i := 7) (N := some 10) (v := ?_) (a' := ?_) #[true, true, false, true, false, false, false, true, false, false, false, false, false, false, false, false, false, false] rfl rfl (any_of HT_.out (by kernel_rfl)) (fun _ _ _ h => h) (Or.inl ⟨by rfl, ?_⟩) ?_ ?_
 rotate_left
 ·intro w'
  go_simp
  with_reducible rfl
 rotate_left
 ·simp only [Act.put, List.setIfInBounds_toArray, List.set_cons_zero, List.set_cons_succ, i64_w, i32_w]
  rfl
 refine take_ (i := 8) (N := some 11) (v := ?_) (a' := ?_) #[true, true, false, true, false, false, false, true, true, false, false, false, false, false, false, false, false, false] rfl rfl (take_ofW HT_.out HW_.out (by kernel_rfl)) (fun _ _ _ h => h) (Or.inl ⟨by rfl, ?_⟩) hHeld ?_ ?_
 rotate_left
 ·rintro w' ⟨s0, s1, s2, s3, s4, s5⟩
  go_simp
  with_reducible rfl
 rotate_left
 ·simp only [Act.put, List.setIfInBounds_toArray, List.set_cons_zero, List.set_cons_succ, i64_w, i32_w]
  rfl
 refine take_ (i := 9) (N := some 12) (v := ?_) (a' := ?_) #[true, true, false, true, false, false, false, true, true, true, false, false, false, false, false, false, false, false] rfl rfl (take_ofW HT_.out HW_.out (by kernel_rfl)) (fun _ _ _ h => h) (Or.inl ⟨by rfl, ?_⟩) hHeld ?_ ?_
 rotate_left
 ·rintro w' ⟨s0, s1, s2, s3, s4, s5⟩
  go_simp
  with_reducible rfl
 rotate_left
 ·simp only [Act.put, List.setIfInBounds_toArray, List.set_cons_zero, List.set_cons_succ, i64_w, i32_w]
  rfl
 refine pure_ (i := 12) (N := some 15) (v := ?_) (a' := ?_) #[true, true, false, true, false, false, false, true, true, true, false, false, true, false, false, false, false, false] rfl rfl (any_of HT_.out (by kernel_rfl)) (fun _ _ _ h => h) (Or.inl ⟨by rfl, ?_⟩) ?_ ?_
 rotate_left
 ·intro w'
  go_simp
  with_reducible rfl
 rotate_left
 ·simp only [Act.put, List.setIfInBounds_toArray, List.set_cons_zero, List.set_cons_succ, i64_w, i32_w]
  rfl
 refine take_ (i := 13) (N := some 16) (v := ?_) (a' := ?_) #[true, true, false, true, false, false, false, true, true, true, false, false, true, true, false, false, false, false] rfl rfl (take_ofW HT_.out HW_.out (by kernel_rfl)) (fun _ _ _ h => h) (Or.inl ⟨by rfl, ?_⟩) hHeld ?_ ?_
 rotate_left
 ·rintro w' ⟨s0, s1, s2, s3, s4, s5⟩
  go_simp
  with_reducible rfl
 rotate_left
 ·simp only [Act.put, List.setIfInBounds_toArray, List.set_cons_zero, List.set_cons_succ, i64_w, i32_w]
  rfl
 refine anyI HT_.out [(2, 5), (4, 7), (5, 8), (6, 9), (10, 13), (11, 14), (14, 17), (15, 18), (16, 19), (17, 2)] #[true, true, true, true, true, true, true, true, true, true, true, true, true, true, true, true, true, true] (post11 (.slice A 1 c) (.slice B 1 d)) (by kernel_rfl) (by kernel_rfl) (by kernel_rfl) (by rfl) (post11_st _ _) ?hS ?step 0 ?fin rfl
 case hS => exact fun w' hb => ⟨pw_cell_below hb hHeld.1, pw_cell_below hb hHeld.2.1, pw_cell_below hb hHeld.2.2.1, pw_cell_below hb hHeld.2.2.2.1, pw_cell_below hb hHeld.2.2.2.2.1, pw_cell_below hb hHeld.2.2.2.2.2⟩
 case step =>
  intro p hp o ho a w2 hb hev hpost K hK
  simp only [List.mem_cons, List.not_mem_nil, or_false] at hp
  rcases hp with rfl | rfl | rfl | rfl | rfl | rfl | rfl | rfl | rfl | rfl
  ·obtain rfl := Option.some.inj ho
   clear ho
   have h4 : a.eval (.tmp 4) = .agg #[.slice none 0 0] := (hev 4 (by decide)).trans rfl
   have e4 := ev_get h4
   refine value_ rfl rfl (w1 := w2.alloc (.cells #[.slice none 0 0] 88)) (v := .pointer (some ⟨w2.heap.size, 0, none⟩)) (by first | (go_simp; done) | (go_simp; rfl)) (hK _ _ (below_alloc (Below.refl _ _) _) ⟨_, rfl, bxNew⟩)
  ·obtain rfl := Option.some.inj ho
   clear ho
   have h6 : a.eval (.tmp 6) = .agg #[.slice A 1 c, .slice B 1 d, .int .i64 1, .int .i64 2, .int .i64 9, .int .i64 4] := (hev 6 (by decide)).trans rfl
   refine goes_ Try.func18 (by kernel_rfl) rfl #[.agg #[.slice A 1 c, .slice B 1 d, .int .i64 1, .int .i64 2, .int .i64 9, .int .i64 4]] rfl rfl rfl (by simp [h6]) ?_
   refine (ensembleref16_rooms.calls 80 A c [(⟨[⟨4, 8⟩]⟩ : S83)] B d [(⟨⟨9, 9⟩, 3⟩ : S51)] 1 2 9 4 [3] w2 (Kd.C_below HR.out ((Be.out (W := w1.drew)).trans (hb.mono (Be.out (W := w1.drew)).size))) hc (Kd.C_below HQ.out ((Be.out (W := w1.drew)).trans (hb.mono (Be.out (W := w1.drew)).size))) hd (by kernel_rfl)).mono ?_
   rintro e w3 ⟨v, rfl, ho, hb3⟩
   obtain ⟨A3, c3, e3, hc3, hC3⟩ := Kd.R_reads ho
   exact ⟨_, rfl, hK _ _ hb3 ⟨A3, c3, e3, hC3, hc3⟩⟩
  ·obtain rfl := Option.some.inj ho
   clear ho
   obtain ⟨A7, c7, h7, g7, l7⟩ := (show RowV (Kd.int .i64) [3] (a.eval (.tmp 7)) w2 from (hpost (4, 7) (by simp) (by kernel_rfl)))
   have e7 := ev_get h7
   refine value_ rfl rfl (w1 := w2) (v := .agg #[.slice A7 1 c7, .slice none 0 0]) (by first | (go_simp; done) | (go_simp; rfl)) (hK _ _ (Below.refl _ _) ⟨_, _, rfl⟩)
  ·obtain rfl := Option.some.inj ho
   clear ho
   obtain ⟨A8, c8, h8⟩ := (show ∃ A c, a.eval (.tmp 8) = .agg #[.slice A 1 c, .slice none 0 0] from (hpost (5, 8) (by simp) (by kernel_rfl)))
   have e8 := ev_get h8
   refine value_ rfl rfl (w1 := w2.alloc (.cells #[.slice A8 1 c8, .slice none 0 0] 92)) (v := .pointer (some ⟨w2.heap.size, 0, none⟩)) (by first | (go_simp; done) | (go_simp; rfl)) (hK _ _ (below_alloc (Below.refl _ _) _) ⟨_, rfl⟩)
  ·obtain rfl := Option.some.inj ho
   clear ho
   have h12 : a.eval (.tmp 12) = .agg #[.slice A 1 c, .slice B 1 d, .int .i64 1, .int .i64 2, .int .i64 9, .int .i64 4] := (hev 12 (by decide)).trans rfl
   refine goes_ Try.func16 (by kernel_rfl) rfl #[.agg #[.slice A 1 c, .slice B 1 d, .int .i64 1, .int .i64 2, .int .i64 9, .int .i64 4]] rfl rfl rfl (by simp [h12]) ?_
   refine (ensembleref16_quotas.calls 80 A c [(⟨[⟨4, 8⟩]⟩ : S83)] B d [(⟨⟨9, 9⟩, 3⟩ : S51)] 1 2 9 4 [⟨9, 9⟩] w2 (Kd.C_below HR.out ((Be.out (W := w1.drew)).trans (hb.mono (Be.out (W := w1.drew)).size))) hc (Kd.C_below HQ.out ((Be.out (W := w1.drew)).trans (hb.mono (Be.out (W := w1.drew)).size))) hd (by kernel_rfl)).mono ?_
   rintro e w3 ⟨v, rfl, ho, hb3⟩
   obtain ⟨A3, c3, e3, hc3, hC3⟩ := Kd.R_reads ho
   exact ⟨_, rfl, hK _ _ hb3 ⟨A3, c3, e3, hC3, hc3⟩⟩
  ·obtain rfl := Option.some.inj ho
   clear ho
   have h11 : a.eval (.tmp 11) = .agg #[.slice A 1 c] := (hev 11 (by decide)).trans rfl
   obtain ⟨A13, c13, h13, g13, l13⟩ := (show RowV k49 [⟨9, 9⟩] (a.eval (.tmp 13)) w2 from (hpost (10, 13) (by simp) (by kernel_rfl)))
   refine goes_ Try.func28 (by kernel_rfl) rfl #[.agg #[.slice A 1 c], .slice A13 1 c13] rfl rfl rfl (by simp [h11, h13]) ?_
   refine (new08 A A13 c c13 w2 (Kd.C_below HR.out ((Be.out (W := w1.drew)).trans (hb.mono (Be.out (W := w1.drew)).size))) hc g13 l13).mono ?_
   rintro e w3 ⟨v, rfl, ho, hb3⟩
   exact ⟨_, rfl, hK _ _ hb3 ho⟩
  ·obtain rfl := Option.some.inj ho
   clear ho
   have h16 : a.eval (.tmp 16) = .int .i64 1 := (hev 16 (by decide)).trans rfl
   have e16 := ev_get h16
   have hm := make28 w2
   have : Bx (w2.alloc (.cells #[.int .i64 0] 3)) w2.heap.size #[.int .i64 0] 3 := bxNew
   refine value_ rfl rfl (w1 := w2.alloc (.cells #[.int .i64 0] 3)) (v := .slice (some ⟨w2.heap.size, 0, none⟩) 1 1) (by first | (go_simp; done) | (go_simp; rfl)) (hK _ _ (below_alloc (Below.refl _ _) _) ⟨_, 1, rfl, rowBx (intK _ 0), Nat.le_refl _⟩)
  ·obtain rfl := Option.some.inj ho
   clear ho
   have h3 : a.eval (.tmp 3) = .agg #[.slice A 1 c, .slice B 1 d, .int .i64 1, .int .i64 2, .int .i64 9, .int .i64 4] := (hev 3 (by decide)).trans rfl
   have e3 := ev_get h3
   obtain ⟨gb, h5, b5⟩ := (show BookV (a.eval (.tmp 5)) w2 from (hpost (2, 5) (by simp) (by kernel_rfl)))
   obtain ⟨gq, h9⟩ := (show ∃ g, a.eval (.tmp 9) = .pointer (some ⟨g, 0, none⟩) from (hpost (6, 9) (by simp) (by kernel_rfl)))
   have hL := (show Led (a.eval (.tmp 14)) w2 from (hpost (11, 14) (by simp) (by kernel_rfl)))
   have hL' := hL
   obtain ⟨gl, _, _, h14, _⟩ := hL'
   rw [h14] at hL
   obtain ⟨A17, c17, h17, g17, l17⟩ := (show RowV (Kd.int .i64) [0] (a.eval (.tmp 17)) w2 from (hpost (14, 17) (by simp) (by kernel_rfl)))
   have e5 := ev_get h5
   have e9 := ev_get h9
   have e14 := ev_get h14
   have e17 := ev_get h17
   refine value_ rfl rfl (w1 := w2) (v := .agg #[.slice A 1 c, .slice B 1 d, .int .i64 1, .int .i64 2, .int .i64 9, .int .i64 4, .int .i64 0, .pointer (some ⟨gb, 0, none⟩), .pointer (some ⟨gq, 0, none⟩), .pointer (some ⟨gl, 0, none⟩), .slice A17 1 c17, .int .i64 0, .int .i64 0]) (by first | (go_simp; done) | (go_simp; rfl)) (hK _ _ (Below.refl _ _) ⟨gb, gq, gl, A17, c17, rfl, b5, hL, ⟨A17, c17, rfl, g17, l17⟩⟩)
  ·obtain rfl := Option.some.inj ho
   clear ho
   obtain ⟨gb, gq, gl, A17, c17, h18, b5, hL, hR⟩ := (show ∃ gb gq gl A17 c17, a.eval (.tmp 18) = .agg #[.slice A 1 c, .slice B 1 d, .int .i64 1, .int .i64 2, .int .i64 9, .int .i64 4, .int .i64 0, .pointer (some ⟨gb, 0, none⟩), .pointer (some ⟨gq, 0, none⟩), .pointer (some ⟨gl, 0, none⟩), .slice A17 1 c17, .int .i64 0, .int .i64 0] ∧ Bx w2 gb #[.slice none 0 0] 88 ∧ Led (.pointer (some ⟨gl, 0, none⟩)) w2 ∧ RowV (Kd.int .i64) [0] (.slice A17 1 c17) w2 from (hpost (15, 18) (by simp) (by kernel_rfl)))
   have e18 := ev_get h18
   refine value_ rfl rfl (w1 := w2.alloc (.cells #[.slice A 1 c, .slice B 1 d, .int .i64 1, .int .i64 2, .int .i64 9, .int .i64 4, .int .i64 0, .pointer (some ⟨gb, 0, none⟩), .pointer (some ⟨gq, 0, none⟩), .pointer (some ⟨gl, 0, none⟩), .slice A17 1 c17, .int .i64 0, .int .i64 0] 96)) (v := .pointer (some ⟨w2.heap.size, 0, none⟩)) (by first | (go_simp; done) | (go_simp; rfl)) (hK _ _ (below_alloc (Below.refl _ _) _) ⟨_, gb, gl, _, _, _, _, rfl, bxNew, bxAlloc, hL.step (below_alloc (Below.refl _ _) _), hR.step (below_alloc (Below.refl _ _) _)⟩)
  ·obtain rfl := Option.some.inj ho
   clear ho
   have hs := (show Sys (a.eval (.tmp 19)) w2 from (hpost (16, 19) (by simp) (by kernel_rfl)))
   have hs' := hs
   obtain ⟨g, _, _, _, _, _, _, h19, _⟩ := hs'
   rw [h19] at hs
   have e19 := ev_get h19
   refine value_ rfl rfl (w1 := w2) (v := .pointer (some ⟨g, 0, none⟩)) (by first | (go_simp; done) | (go_simp; rfl)) (hK _ _ (Below.refl _ _) hs)
 case fin =>
  intro f w2 hb hpost
  have hacc := (show Sys (f 2) w2 from hpost (17, 2) (by simp))
  simp only [putL, List.map, Act.put, List.setIfInBounds_toArray, List.set_cons_zero, List.set_cons_succ]
  generalize f 5 = u5 at *
  generalize f 7 = u7 at *
  generalize f 8 = u8 at *
  generalize f 9 = u9 at *
  generalize f 13 = u13 at *
  generalize f 14 = u14 at *
  generalize f 17 = u17 at *
  generalize f 18 = u18 at *
  generalize f 19 = u19 at *
  generalize f 2 = u2 at *
  refine done_ (done_of HT_.out (by kernel_rfl)) ?_
  have HA := Aside0.mk hacc
  have HB := Aside0.mk ((Be.out (W := w1.drew)).trans (hb.mono (Be.out (W := w1.drew)).size))
  clear hacc hpost hb
  go_wp2
  go_ret
  exact ⟨_, rfl, HA.out, HB.out⟩
end Go.Proofs.Ytpedlompipabdaa.P
namespace Go.Proofs.Ytpedlompipabdaa.P
open Go.RowKit Go.Proofs.YtpedlompipabdaaW.PrintWords Go.Proofs.YtpedlompipabdaaW.PrintLast Go.Proofs.YtpedlompipabdaaW.PrintMore
set_option linter.unusedVariables false
set_option linter.unusedSimpArgs false
attribute [local go_sem] cellBx frozBx Sit.c0 Sit.c1 Sit.c2 Sit.c3 Sit.c4 Sit.c5 Sit.c6 Sit.c7 Sit.c8 Sit.c9 Sit.c10 Sit.c12 Sit.c13 Sit.c14 Sit.c15
attribute [local go_sem] Oper.semAt_some
open Go.Shelf
theorem cellFar {w : World} {a : Addr} {x u : Value} {g j : Nat} (h : w.cell? a = some x) (hn : a.block ≠ g) : (w.setCell ⟨g, j, none⟩ u).cell? a = some x := by
 rw [World.cell?_of_block (Below.heap_setCell w ⟨g, j, none⟩ u a.block (fun e => hn e))]
 exact h
theorem RowV.open58 {x : S58} {v : Value} {w : World} (h : RowV k58 [x] v w) : ∃ ad c, v = .slice (some ad) 1 c ∧ w.cell? ad = some (.int .i64 x.f0.f0) ∧ w.cell? ⟨ad.block, ad.off + 1, none⟩ = some (.int .i64 x.f0.f1) ∧ w.cell? ⟨ad.block, ad.off + 2, none⟩ = some (.int .u64 x.f1) ∧ w.cell? ⟨ad.block, ad.off + 3, none⟩ = some (.int .i64 x.f2) := by
 obtain ⟨A, c, rfl, h1, h2⟩ := h
 obtain ⟨ad, rfl, y0, y1, y2, y3⟩ := at_T58 h1 0 (by simp) (by simp)
 exact ⟨ad, c, rfl, by simpa [Addr.add, rd_T58] using y0, by simpa [Addr.add, rd_T58] using y1, by simpa [Addr.add, rd_T58] using y2, by simpa [Addr.add, rd_T58] using y3⟩
set_option maxHeartbeats 8000000 in
set_option maxRecDepth 100000 in
theorem free03 (gp : Nat) (w : World) (hp : Pool (.pointer (some ⟨gp, 0, none⟩)) w) : Calls Try.prog 29 #[.pointer (some ⟨gp, 0, none⟩)] w fun e w' => ∃ v, e = .returned v ∧ RowV k58 [(⟨⟨0, 0⟩, 15, 8⟩ : S58)] v w' ∧ Below w.heap.size w w' := by
 have hu32 := Try.underlying32
 have hu98 := Try.underlying98
 have hu99 := Try.underlying99
 have hu58 := Try.underlying58
 have hu56 := Try.underlying56
 have hu54 := Try.underlying54
 have hu3 := Try.underlying3
 have : Be w w := ⟨Below.refl _ _⟩
 obtain ⟨g, va, vt, vd, e, bg, ra, rt, rd_⟩ := hp
 injection e with e
 injection e with e
 injection e with e
 subst e
 obtain ⟨aa, ca, rfl, y0, y1, y2, y3⟩ := ra.open58
 obtain ⟨at_, ct, rfl, z0, z1, z2, z3⟩ := rt.open58
 simp only at y0 y1 y2 y3 z0 z1 z2 z3
 obtain ⟨ad_, cd, rfl, _, _⟩ := rd_
 have bg2 : Bx w gp #[.slice (some aa) 1 ca, .slice (some at_) 1 ct, .slice ad_ 1 cd] 98 := bg
 clear bg
 clear ra rt
 have hba : aa.block < w.heap.size := World.block_lt_of_cell? w _ y0
 have hbt : at_.block < w.heap.size := World.block_lt_of_cell? w _ z0
 go_enter Try.func29, Try.ntmps29
 go_upto_region 3 with (fail)
 go_loopw [3, 4] (fun v3 v4 wr => Be w wr ∧ ((v3 = .slice none 0 0 ∧ v4 = .int .i64 0) ∨ (v4 = .int .i64 1 ∧ Aside0 (RowV k58 [(⟨⟨0, 0⟩, 15, 8⟩ : S58)] v3 wr)))) (fun v3 v4 _ => 1 - (intOf v4).toNat)
 case atStart => exact ⟨inferInstance, .inl ⟨rfl, rfl⟩⟩
 case round =>
  have : Bl w wr := ⟨hrel.1.out⟩
  obtain ⟨be, ⟨rfl, rfl⟩ | ⟨rfl, HR⟩⟩ := hrel
  ·replace y0 := pw_cell_below be.out y0
   replace y1 := pw_cell_below be.out y1
   replace y2 := pw_cell_below be.out y2
   replace y3 := pw_cell_below be.out y3
   replace z0 := pw_cell_below be.out z0
   replace z1 := pw_cell_below be.out z1
   replace z2 := pw_cell_below be.out z2
   replace z3 := pw_cell_below be.out z3
   go_upto_region 6 with (fail)
   obtain ⟨g5, w5, _, _, _, e1, e2⟩ := nameA wr #[.int .i64 0, .int .i64 0, .int .u64 15, .int .i64 8] 58
   rw [e1, e2]
   clear e1 e2
   have n1 : aa.block ≠ g5 := by rw [(inferInstance : Fr wr g5).out]; have := be.out.size; omega
   have n2 : at_.block ≠ g5 := by rw [(inferInstance : Fr wr g5).out]; have := be.out.size; omega
   have : Nq gp g5 := inferInstance
   have : Ge w g5 := inferInstance
   replace y0 := pw_cell_below (Bl.out (W' := w5)) y0
   replace y1 := pw_cell_below (Bl.out (W' := w5)) y1
   replace y2 := pw_cell_below (Bl.out (W' := w5)) y2
   replace y3 := pw_cell_below (Bl.out (W' := w5)) y3
   replace z0 := pw_cell_below (Bl.out (W' := w5)) z0
   replace z1 := pw_cell_below (Bl.out (W' := w5)) z1
   replace z2 := pw_cell_below (Bl.out (W' := w5)) z2
   replace z3 := pw_cell_below (Bl.out (W' := w5)) z3
   go_region
   go_wp2
   generalize hz : World.setCell _ _ _ = w6
   have bw6 : Bx w6 g5 #[.int .i64 0, .int .i64 0, .int .u64 15, .int .i64 8] 58 := by rw [← hz]; exact bxSetS (i := 2) (v := .int .u64 15) (cs := #[.int .i64 0, .int .i64 0, .int .u64 15, .int .i64 8])
   replace z2 : w6.cell? ⟨at_.block, at_.off + 2, none⟩ = some (.int .u64 0) := by rw [← hz]; exact cellFar z2 n2
   replace z3 : w6.cell? ⟨at_.block, at_.off + 3, none⟩ = some (.int .i64 0) := by rw [← hz]; exact cellFar z3 n2
   have bpw6 : Bx w6 gp #[.slice (some aa) 1 ca, .slice (some at_) 1 ct, .slice ad_ 1 cd] 98 := by rw [← hz]; exact bxSetF
   have bew6 : Be w w6 := by rw [← hz]; exact beSet
   clear hz
   go_upto_region 7 with (fail)
   go_region
   go_upto_region 8 with (fail)
   generalize hz : World.setCell _ _ _ = w7
   have bw7 : Bx w7 g5 #[.int .i64 0, .int .i64 0, .int .u64 15, .int .i64 8] 58 := by rw [← hz]; exact bxSetS (i := 3) (v := .int .i64 8) (cs := #[.int .i64 0, .int .i64 0, .int .u64 15, .int .i64 8])
   replace z2 : w7.cell? ⟨at_.block, at_.off + 2, none⟩ = some (.int .u64 0) := by rw [← hz]; exact cellFar z2 n2
   replace z3 : w7.cell? ⟨at_.block, at_.off + 3, none⟩ = some (.int .i64 0) := by rw [← hz]; exact cellFar z3 n2
   have bpw7 : Bx w7 gp #[.slice (some aa) 1 ca, .slice (some at_) 1 ct, .slice ad_ 1 cd] 98 := by rw [← hz]; exact bxSetF
   have bew7 : Be w w7 := by rw [← hz]; exact beSet
   clear hz
   clear y0 y1 y2 y3 z0 z1 z2 z3
   go_wp2_with (first | ((with_reducible refine gate_dst (N := 48) rfl ?_); refine lit1 k58 48 58 (⟨⟨0, 0⟩, 15, 8⟩ : S58) #[.int .i64 0, .int .i64 0, .int .u64 15, .int .i64 8] (fun W => k58_mk W _) ?_; intro g8 w8 _ _ _ hr8) | ((with_reducible refine gate_builtin (b := .append) (xs := #[.tmp 46, .tmp 48]) rfl ?_); at_builtin; refine app0L k58 rfl (.tmp 46) (.tmp 48) 32 58 (.agg #[.int .i64 0, .int .i64 0, .int .u64 0, .int .i64 0]) 32 rfl Try.underlying32 info58 rfl (by decide) (ys := [(⟨⟨0, 0⟩, 15, 8⟩ : S58)]) rfl rfl hr8.out (by decide) (by decide) (by decide) ?_; intro A9 c9 w9 hb9 hr9))
   go_roundw
   case rel => exact ⟨inferInstance, .inr ⟨by go_num, ⟨⟨A9, c9, rfl, hr9.out, hr9.le⟩⟩⟩⟩
   case measure => simp [intOf]
  ·go_wp2
   go_ret
   exact ⟨_, rfl, HR.out, be.out⟩
end Go.Proofs.Ytpedlompipabdaa.P
