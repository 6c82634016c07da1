/- The bounds within which a law's arguments read, type by type, and that they do. -/
import Derived.Test.YtlkfmmjoiadoiaaOpens
import Derived.Test.YtlkfmmjoiadoiaaPx0
import Derived.KernelRfl
namespace Go.Proofs.Ytlkfmmjoiadoiaa.P
open Go.RowKit Go.Proofs.YtlkfmmjoiadoiaaW.PrintWords Go.Proofs.Ytlkfmmjoiadoiaa.Opens
instance : Inhabited S61 := ⟨z61⟩
def good61 (y : S61) : Prop := (fun x : Int => (Lit.int .i64 x).wf = true) y.f0 ∧ ((fun x : Int => (Lit.int .i64 x).wf = true) y.f1)
theorem opens61 : Opens Try.prog 61 k61 good61 :=
  Opens.struct (fun p => (⟨p.1, p.2⟩ : S61)) (fun _ => rfl) (fun _ h => h) Try.underlying61 (by kernel_rfl) (OpensF.cons rfl (by kernel_rfl) (Opens.int Try.underlying3) (OpensF.one rfl (by kernel_rfl) (Opens.int Try.underlying3)))
instance : Inhabited S39 := ⟨z39⟩
def good39 (y : S39) : Prop := (fun xs : List (S61) => xs.length * 16 ≤ 140737488351232 ∧ xs.length ≤ maxLen ∧ ∀ x ∈ xs, good61 x) y.f0 ∧ ((fun x : Int => (Lit.int .i64 x).wf = true) y.f1)
theorem opens39 : Opens Try.prog 39 k39 good39 :=
  Opens.struct (fun p => (⟨p.1, p.2⟩ : S39)) (fun _ => rfl) (fun _ h => h) Try.underlying39 (by kernel_rfl) (OpensF.cons rfl (by kernel_rfl) (Opens.slice Try.underlying37 (by kernel_rfl) (show Try.prog.bytesOf 61 = 16 by kernel_rfl) opens61) (OpensF.one rfl (by kernel_rfl) (Opens.int Try.underlying3)))
instance : Inhabited S24 := ⟨z24⟩
def good24 (y : S24) : Prop := (fun x : Int => (Lit.int .i64 x).wf = true) y.f0 ∧ ((fun s : ByteArray => s.size ≤ 140737488351232) y.f1)
theorem opens24 : Opens Try.prog 24 k24 good24 :=
  Opens.struct (fun p => (⟨p.1, p.2⟩ : S24)) (fun _ => rfl) (fun _ h => h) Try.underlying24 (by kernel_rfl) (OpensF.cons rfl (by kernel_rfl) (Opens.int Try.underlying3) (OpensF.one rfl (by kernel_rfl) (Opens.string Try.underlying9)))
instance : Inhabited S35 := ⟨z35⟩
def good35 (y : S35) : Prop := (fun x : Int => (Lit.int .i64 x).wf = true) y.f0 ∧ ((fun s : ByteArray => s.size ≤ 140737488351232) y.f1)
theorem opens35 : Opens Try.prog 35 k35 good35 :=
  Opens.struct (fun p => (⟨p.1, p.2⟩ : S35)) (fun _ => rfl) (fun _ h => h) Try.underlying35 (by kernel_rfl) (OpensF.cons rfl (by kernel_rfl) (Opens.int Try.underlying3) (OpensF.one rfl (by kernel_rfl) (Opens.string Try.underlying9)))
end Go.Proofs.Ytlkfmmjoiadoiaa.P
