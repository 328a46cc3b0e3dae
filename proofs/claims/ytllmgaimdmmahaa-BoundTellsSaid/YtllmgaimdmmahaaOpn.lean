import Derived.Test.YtllmgaimdmmahaaP0
import Derived.Test.YtllmgaimdmmahaaOb
namespace Go.Proofs.Ytllmgaimdmmahaa.P
open Go.RowKit Go.Proofs.Ytllmgaimdmmahaa.Ob Go.Proofs.YtllmgaimdmmahaaW.PrintWords
set_option linter.unusedVariables false
def I64 (x : Int) : Prop := -9223372036854775808 ≤ x ∧ x ≤ 9223372036854775807
def U64 (x : Int) : Prop := 0 ≤ x ∧ x ≤ 18446744073709551615
def U8 (x : Int) : Prop := 0 ≤ x ∧ x ≤ 255
theorem i64_of {x : Int} (h : (Lit.int .i64 x).wf = true) : I64 x := by unfold I64; simp [Lit.wf, IntKind.min, IntKind.max, IntKind.bits, IntKind.signed] at h; omega
theorem u64_of {x : Int} (h : (Lit.int .u64 x).wf = true) : U64 x := by unfold U64; simp [Lit.wf, IntKind.min, IntKind.max, IntKind.bits, IntKind.signed] at h; omega
theorem u8_of {x : Int} (h : (Lit.int .u8 x).wf = true) : U8 x := by unfold U8; simp [Lit.wf, IntKind.min, IntKind.max, IntKind.bits, IntKind.signed] at h; omega
theorem o_i64 {t : TypeId} (h : Try.prog.underlying t = some (.int .i64)) : Opens Try.prog t (Kd.int .i64) I64 := (Opens.int h).imp fun _ h => i64_of h
theorem o_u64 {t : TypeId} (h : Try.prog.underlying t = some (.int .u64)) : Opens Try.prog t (Kd.int .u64) U64 := (Opens.int h).imp fun _ h => u64_of h
theorem o_u8 {t : TypeId} (h : Try.prog.underlying t = some (.int .u8)) : Opens Try.prog t (Kd.int .u8) U8 := (Opens.int h).imp fun _ h => u8_of h
def wfd89 (x : S89) : Prop := I64 x.f0 ∧ I64 x.f1
theorem o89 : Opens Try.prog 89 k89 wfd89 := (Opens.struct Try.underlying89 rfl (by kernel_rfl) (OpensAt.cons (o_i64 Try.underlying3) (by kernel_rfl) rfl (OpensAt.last (o_i64 Try.underlying3) (by kernel_rfl))) _ (fun p => (⟨p.1, p.2⟩ : S89)) (fun _ => rfl)).imp (fun _ h => h)
def wfd87 (x : S87) : Prop := (x.f0.length ≤ maxLen ∧ ∀ y ∈ x.f0, wfd89 y)
theorem o87 : Opens Try.prog 87 k87 wfd87 := (Opens.struct Try.underlying87 rfl (by kernel_rfl) (OpensAt.last ((Opens.slice Try.underlying85 (by kernel_rfl) (o89))) (by kernel_rfl)) _ (fun p => (⟨p⟩ : S87)) (fun _ => rfl)).imp (fun _ h => h)
def wfd24 (x : S24) : Prop := (x.f0.length ≤ maxLen ∧ ∀ y ∈ x.f0, wfd87 y)
theorem o24 : Opens Try.prog 24 k24 wfd24 := (Opens.struct Try.underlying24 rfl (by kernel_rfl) (OpensAt.last ((Opens.slice Try.underlying22 (by kernel_rfl) (o87))) (by kernel_rfl)) _ (fun p => (⟨p⟩ : S24)) (fun _ => rfl)).imp (fun _ h => h)
def wfd57 (x : S57) : Prop := I64 x.f0 ∧ I64 x.f1
theorem o57 : Opens Try.prog 57 k57 wfd57 := (Opens.struct Try.underlying57 rfl (by kernel_rfl) (OpensAt.cons (o_i64 Try.underlying3) (by kernel_rfl) rfl (OpensAt.last (o_i64 Try.underlying3) (by kernel_rfl))) _ (fun p => (⟨p.1, p.2⟩ : S57)) (fun _ => rfl)).imp (fun _ h => h)
def wfd59 (x : S59) : Prop := wfd57 x.f0 ∧ I64 x.f1
theorem o59 : Opens Try.prog 59 k59 wfd59 := (Opens.struct Try.underlying59 rfl (by kernel_rfl) (OpensAt.cons (o57) (by kernel_rfl) rfl (OpensAt.last (o_i64 Try.underlying3) (by kernel_rfl))) _ (fun p => (⟨p.1, p.2⟩ : S59)) (fun _ => rfl)).imp (fun _ h => h)
def wfd27 (x : S27) : Prop := wfd24 x.f0 ∧ (x.f1.length ≤ maxLen ∧ ∀ y ∈ x.f1, wfd59 y) ∧ I64 x.f2 ∧ I64 x.f3 ∧ I64 x.f4 ∧ I64 x.f5
theorem o27 : Opens Try.prog 27 k27 wfd27 := (Opens.struct Try.underlying27 rfl (by kernel_rfl) (OpensAt.cons (o24) (by kernel_rfl) rfl (OpensAt.cons ((Opens.slice Try.underlying25 (by kernel_rfl) (o59))) (by kernel_rfl) rfl (OpensAt.cons (o_i64 Try.underlying3) (by kernel_rfl) rfl (OpensAt.cons (o_i64 Try.underlying3) (by kernel_rfl) rfl (OpensAt.cons (o_i64 Try.underlying3) (by kernel_rfl) rfl (OpensAt.last (o_i64 Try.underlying3) (by kernel_rfl))))))) _ (fun p => (⟨p.1, p.2.1, p.2.2.1, p.2.2.2.1, p.2.2.2.2.1, p.2.2.2.2.2⟩ : S27)) (fun _ => rfl)).imp (fun _ h => h)
def wfd35 (x : S35) : Prop := I64 x.f0 ∧ I64 x.f1 ∧ I64 x.f2 ∧ I64 x.f3
theorem o35 : Opens Try.prog 35 k35 wfd35 := (Opens.struct Try.underlying35 rfl (by kernel_rfl) (OpensAt.cons (o_i64 Try.underlying3) (by kernel_rfl) rfl (OpensAt.cons (o_i64 Try.underlying3) (by kernel_rfl) rfl (OpensAt.cons (o_i64 Try.underlying3) (by kernel_rfl) rfl (OpensAt.last (o_i64 Try.underlying3) (by kernel_rfl))))) _ (fun p => (⟨p.1, p.2.1, p.2.2.1, p.2.2.2⟩ : S35)) (fun _ => rfl)).imp (fun _ h => h)
def wfd37 (x : S37) : Prop := I64 x.f0 ∧ I64 x.f1 ∧ I64 x.f2 ∧ I64 x.f3 ∧ wfd35 x.f4
theorem o37 : Opens Try.prog 37 k37 wfd37 := (Opens.struct Try.underlying37 rfl (by kernel_rfl) (OpensAt.cons (o_i64 Try.underlying3) (by kernel_rfl) rfl (OpensAt.cons (o_i64 Try.underlying3) (by kernel_rfl) rfl (OpensAt.cons (o_i64 Try.underlying3) (by kernel_rfl) rfl (OpensAt.cons (o_i64 Try.underlying3) (by kernel_rfl) rfl (OpensAt.last (o35) (by kernel_rfl)))))) _ (fun p => (⟨p.1, p.2.1, p.2.2.1, p.2.2.2.1, p.2.2.2.2⟩ : S37)) (fun _ => rfl)).imp (fun _ h => h)
def wfd39 (x : S39) : Prop := I64 x.f0 ∧ I64 x.f1 ∧ wfd37 x.f2
theorem o39 : Opens Try.prog 39 k39 wfd39 := (Opens.struct Try.underlying39 rfl (by kernel_rfl) (OpensAt.cons (o_i64 Try.underlying3) (by kernel_rfl) rfl (OpensAt.cons (o_i64 Try.underlying3) (by kernel_rfl) rfl (OpensAt.last (o37) (by kernel_rfl)))) _ (fun p => (⟨p.1, p.2.1, p.2.2⟩ : S39)) (fun _ => rfl)).imp (fun _ h => h)
def wfd64 (x : S64) : Prop := I64 x.f0 ∧ I64 x.f1 ∧ I64 x.f2
theorem o64 : Opens Try.prog 64 k64 wfd64 := (Opens.struct Try.underlying64 rfl (by kernel_rfl) (OpensAt.cons (o_i64 Try.underlying3) (by kernel_rfl) rfl (OpensAt.cons (o_i64 Try.underlying3) (by kernel_rfl) rfl (OpensAt.last (o_i64 Try.underlying3) (by kernel_rfl)))) _ (fun p => (⟨p.1, p.2.1, p.2.2⟩ : S64)) (fun _ => rfl)).imp (fun _ h => h)
def wfd44 (x : S44) : Prop := I64 x.f0 ∧ (x.f1.length ≤ maxLen ∧ ∀ y ∈ x.f1, wfd64 y)
theorem o44 : Opens Try.prog 44 k44 wfd44 := (Opens.struct Try.underlying44 rfl (by kernel_rfl) (OpensAt.cons (o_i64 Try.underlying31) (by kernel_rfl) rfl (OpensAt.last ((Opens.slice Try.underlying42 (by kernel_rfl) (o64))) (by kernel_rfl))) _ (fun p => (⟨p.1, p.2⟩ : S44)) (fun _ => rfl)).imp (fun _ h => h)
end Go.Proofs.Ytllmgaimdmmahaa.P
