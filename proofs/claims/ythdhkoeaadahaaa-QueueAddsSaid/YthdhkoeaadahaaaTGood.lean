-- PACKED by wip/kit/pack.py: what the law's proof uses of Good (printed words and texts of this seat)
import Derived.Test.YthdhkoeaadahaaaTOpens
import Derived.Test.YthdhkoeaadahaaaTPx0
import Derived.KernelRfl
namespace Go.Proofs.Ythdhkoeaadahaaa.P
open Go.RowKit Go.Proofs.YthdhkoeaadahaaaW.PrintWords Go.Proofs.Ythdhkoeaadahaaa.Opens
instance : Inhabited S74 := ⟨z74⟩
def good74 (y : S74) : Prop := (fun x : Int => (Lit.int .i64 x).wf = true) y.f0 ∧ ((fun x : Int => (Lit.int .i64 x).wf = true) y.f1 ∧ ((fun s : ByteArray => s.size ≤ 140737488351232) y.f2))
theorem opens74 : Opens Try.prog 74 k74 good74 :=
  Opens.struct (fun p => (⟨p.1, p.2.1, p.2.2⟩ : S74)) (fun _ => rfl) (fun _ h => h) Try.underlying74 (by kernel_rfl) (OpensF.cons rfl (by kernel_rfl) (Opens.int Try.underlying3) (OpensF.cons rfl (by kernel_rfl) (Opens.int Try.underlying3) (OpensF.one rfl (by kernel_rfl) (Opens.string Try.underlying9))))
instance : Inhabited S99 := ⟨z99⟩
def good99 (y : S99) : Prop := (fun x : Int => (Lit.int .i64 x).wf = true) y.f0 ∧ ((fun x : Int => (Lit.int .i64 x).wf = true) y.f1 ∧ ((fun xs : List (S74) => xs.length * 32 ≤ 140737488351232 ∧ xs.length ≤ maxLen ∧ ∀ x ∈ xs, good74 x) y.f2))
theorem opens99 : Opens Try.prog 99 k99 good99 :=
  Opens.struct (fun p => (⟨p.1, p.2.1, p.2.2⟩ : S99)) (fun _ => rfl) (fun _ h => h) Try.underlying99 (by kernel_rfl) (OpensF.cons rfl (by kernel_rfl) (Opens.int Try.underlying3) (OpensF.cons rfl (by kernel_rfl) (Opens.int Try.underlying3) (OpensF.one rfl (by kernel_rfl) (Opens.slice Try.underlying25 (by kernel_rfl) (show Try.prog.bytesOf 74 = 32 by kernel_rfl) opens74))))
instance : Inhabited S23 := ⟨z23⟩
instance : Inhabited S27 := ⟨z27⟩
def good27 (y : S27) : Prop := (fun xs : List (S99) => xs.length * 40 ≤ 140737488351232 ∧ xs.length ≤ maxLen ∧ ∀ x ∈ xs, good99 x) y.f0 ∧ ((fun xs : List (S74) => xs.length * 32 ≤ 140737488351232 ∧ xs.length ≤ maxLen ∧ ∀ x ∈ xs, good74 x) y.f1 ∧ ((fun x : Int => (Lit.int .i64 x).wf = true) y.f2 ∧ ((fun x : Int => (Lit.int .i64 x).wf = true) y.f3)))
theorem opens27 : Opens Try.prog 27 k27 good27 :=
  Opens.struct (fun p => (⟨p.1, p.2.1, p.2.2.1, p.2.2.2⟩ : S27)) (fun _ => rfl) (fun _ h => h) Try.underlying27 (by kernel_rfl) (OpensF.cons rfl (by kernel_rfl) (Opens.slice Try.underlying24 (by kernel_rfl) (show Try.prog.bytesOf 99 = 40 by kernel_rfl) opens99) (OpensF.cons rfl (by kernel_rfl) (Opens.slice Try.underlying25 (by kernel_rfl) (show Try.prog.bytesOf 74 = 32 by kernel_rfl) opens74) (OpensF.cons rfl (by kernel_rfl) (Opens.int Try.underlying3) (OpensF.one rfl (by kernel_rfl) (Opens.int Try.underlying3)))))
instance : Inhabited S49 := ⟨z49⟩
instance : Inhabited S124 := ⟨z124⟩
end Go.Proofs.Ythdhkoeaadahaaa.P
