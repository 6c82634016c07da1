-- PACKED by wip/kit/pack.py: what the law's proof uses of EvBase (printed words and texts of this seat)
import Derived.Test.YthdhkoeaadahaaaSPx0
namespace Go.Proofs.Ythdhkoeaadahaaa.FoldCore
open Go.RowKit Go.Proofs.Ythdhkoeaadahaaa.P Go.Proofs.YthdhkoeaadahaaaW.PrintWords Go.Proofs.YthdhkoeaadahaaaW.PrintLast
set_option linter.unusedVariables false
section
variable {α β : Type} {A B g : Nat → Option α} {r : α} {c : Prop} [Decidable c]
theorem Ev.pos (h : c) (hA : Ev A r) : Ev (fun k => if c then A k else B k) r := by simpa only [if_pos h] using hA
theorem Ev.neg (h : ¬ c) (hB : Ev B r) : Ev (fun k => if c then A k else B k) r := by simpa only [if_neg h] using hB
theorem Ev.succ (h : Ev (fun k => g (k + 1)) r) : Ev g r := Ev.step (fun _ => rfl) h
theorem Ev.const {a : Option α} (h : a = some r) : Ev (fun _ => a) r := ⟨0, fun _ _ => h⟩
end
theorem wrap_succ {i : Nat} (h : i < 9223372036854775807) : wrap64 ((i : Int) + 1) = ((i + 1 : Nat) : Int) := by unfold wrap64; omega
theorem wrap_pred {i : Nat} (h0 : 1 ≤ i) (h : i < 9223372036854775807) : wrap64 ((i : Int) - 1) = ((i - 1 : Nat) : Int) := by unfold wrap64; omega
def ltK (a b : S74) : Prop := a.f0 < b.f0 ∨ (a.f0 = b.f0 ∧ a.f1 < b.f1)
instance (a b : S74) : Decidable (ltK a b) := by unfold ltK; exact inferInstance
theorem ltK_trans {a b c : S74} (h : ltK a b) (h' : ltK b c) : ltK a c := by unfold ltK at *; omega
end Go.Proofs.Ythdhkoeaadahaaa.FoldCore
