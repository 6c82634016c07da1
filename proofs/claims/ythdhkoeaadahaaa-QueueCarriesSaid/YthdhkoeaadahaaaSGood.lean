-- PACKED by wip/kit/pack.py: what the law's proof uses of Good (printed words and texts of this seat)
import Derived.Test.YthdhkoeaadahaaaSOpens
import Derived.Test.YthdhkoeaadahaaaSPx0
import Derived.KernelRfl
namespace Go.Proofs.Ythdhkoeaadahaaa.P
open Go.RowKit Go.Proofs.YthdhkoeaadahaaaW.PrintWords Go.Proofs.Ythdhkoeaadahaaa.Opens
instance : Inhabited S74 := ⟨z74⟩
def good74 (y : S74) : Prop := (fun x : Int => (Lit.int .i64 x).wf = true) y.f0 ∧ ((fun x : Int => (Lit.int .i64 x).wf = true) y.f1 ∧ ((fun s : ByteArray => s.size ≤ 140737488351232) y.f2))
theorem opens74 : Opens Try.prog 74 k74 good74 :=
  Opens.struct (fun p => (⟨p.1, p.2.1, p.2.2⟩ : S74)) (fun _ => rfl) (fun _ h => h) Try.underlying74 (by kernel_rfl) (OpensF.cons rfl (by kernel_rfl) (Opens.int Try.underlying3) (OpensF.cons rfl (by kernel_rfl) (Opens.int Try.underlying3) (OpensF.one rfl (by kernel_rfl) (Opens.string Try.underlying9))))
instance : Inhabited S99 := ⟨z99⟩
instance : Inhabited S23 := ⟨z23⟩
instance : Inhabited S27 := ⟨z27⟩
instance : Inhabited S49 := ⟨z49⟩
def good49 (y : S49) : Prop := (fun x : Int => (Lit.int .i64 x).wf = true) y.f0 ∧ ((fun xs : List ByteArray => xs.length * 16 ≤ 140737488351232 ∧ xs.length ≤ maxLen ∧ ∀ x ∈ xs, (fun s : ByteArray => s.size ≤ 140737488351232) x) y.f1)
theorem opens49 : Opens Try.prog 49 k49 good49 :=
  Opens.struct (fun p => (⟨p.1, p.2⟩ : S49)) (fun _ => rfl) (fun _ h => h) Try.underlying49 (by kernel_rfl) (OpensF.cons rfl (by kernel_rfl) (Opens.int Try.underlying3) (OpensF.one rfl (by kernel_rfl) (Opens.slice Try.underlying47 (by kernel_rfl) (show Try.prog.bytesOf 9 = 16 by kernel_rfl) (Opens.string Try.underlying9))))
instance : Inhabited S124 := ⟨z124⟩
end Go.Proofs.Ythdhkoeaadahaaa.P
