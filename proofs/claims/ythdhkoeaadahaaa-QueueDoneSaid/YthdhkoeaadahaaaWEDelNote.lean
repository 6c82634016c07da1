-- PACKED by wip/kit/pack.py: what the law's proof uses of EDelNote (printed words and texts of this seat)
import Derived.Test.YthdhkoeaadahaaaWESt
import Derived.Test.YthdhkoeaadahaaaWEClear
namespace Go.Proofs.Ythdhkoeaadahaaa.P
open Go.RowKit Go.Proofs.YthdhkoeaadahaaaW.PrintWords Go.Proofs.YthdhkoeaadahaaaW.PrintLast Go.Proofs.YthdhkoeaadahaaaW.PrintMore
attribute [local go_sem] Oper.semAt_some
set_option linter.unusedVariables false
set_option linter.unusedSimpArgs false
def FirstAt {α : Type} (p : α → Bool) (ms : List α) (r : Int) : Prop := (r = -1 ∧ ∀ m ∈ ms, p m = false) ∨ ∃ i : Nat, r = (i : Int) ∧ ∃ (h : i < ms.length), p ms[i] = true ∧ ∀ m ∈ ms.take i, p m = false
theorem drop_succ_eq {α : Type} {ys ms : List α} {j : Nat} (h : ys.drop j = ms.drop j) : ys.drop (j + 1) = ms.drop (j + 1) := by
  have h9 := congrArg (List.drop 1) h
  rw [List.drop_drop, List.drop_drop] at h9
  exact h9
theorem take_snoc_get {α : Type} {ms : List α} {j : Nat} {x : α} (h : ms[j]? = some x) : ms.take (j + 1) = ms.take j ++ [x] := by
  rw [List.take_add_one, h]; rfl
theorem take_set_snoc {α : Type} (l : List α) (i : Nat) (x : α) (h : i < l.length) : (l.set i x).take (i + 1) = l.take i ++ [x] := by
  rw [List.take_succ_eq_append_getElem (by rw [List.length_set]; exact h), List.getElem_set_self, List.take_set_of_le (Nat.le_refl _)]
theorem drop_set_lt {α : Type} (l : List α) (i j : Nat) (x : α) (h : i < j) : (l.set i x).drop j = l.drop j := List.drop_set_of_lt h
end Go.Proofs.Ythdhkoeaadahaaa.P
