-- PACKED by wip/kit/pack.py: what the law's proof uses of SortCore (printed words and texts of this seat)
import Derived.Tactics
namespace Go.Proofs.Ythdhkoeaadahaaa.SortCore
set_option linter.unusedVariables false
section
variable {α : Type} (lt : α → α → Bool)
structure Weak : Prop where
  asymm : ∀ a b, lt a b = true → lt b a = false
  trans : ∀ a b c, lt b a = false → lt c b = false → lt c a = false
def le (a b : α) : Prop := lt b a = false
def eqv (a b : α) : Bool := !lt a b && !lt b a
def Sorted (xs : List α) : Prop := xs.Pairwise (le lt)
def Same (xs ys : List α) : Prop := ∀ a, xs.filter (eqv lt a) = ys.filter (eqv lt a)
variable {lt}
theorem Weak.irrefl (h : Weak lt) (a : α) : lt a a = false := by
  cases e : lt a a with
  | false => rfl
  | true => have := h.asymm a a e; rw [e] at this; exact this
theorem Weak.refl (h : Weak lt) (a : α) : eqv lt a a = true := by unfold eqv; rw [h.irrefl]; rfl
theorem Weak.le_of_lt (h : Weak lt) {a b : α} (e : lt a b = true) : le lt a b := h.asymm a b e
theorem Weak.le_trans (h : Weak lt) {a b c : α} (h1 : le lt a b) (h2 : le lt b c) : le lt a c := h.trans a b c h1 h2
theorem Same.refl (xs : List α) : Same lt xs xs := fun _ => rfl
theorem Same.symm {xs ys : List α} (h : Same lt xs ys) : Same lt ys xs := fun a => (h a).symm
theorem Same.trans {xs ys zs : List α} (h : Same lt xs ys) (k : Same lt ys zs) : Same lt xs zs := fun a => (h a).trans (k a)
theorem Same.append {xs ys xs' ys' : List α} (h : Same lt xs xs') (k : Same lt ys ys') : Same lt (xs ++ ys) (xs' ++ ys') := fun a => by rw [List.filter_append, List.filter_append, h a, k a]
theorem Same.mem (hw : Weak lt) {xs ys : List α} (h : Same lt xs ys) {z : α} (hz : z ∈ xs) : z ∈ ys := by
  have : z ∈ xs.filter (eqv lt z) := List.mem_filter.2 ⟨hz, hw.refl z⟩
  rw [h z] at this
  exact (List.mem_filter.1 this).1
theorem Same.cons {x : α} {xs ys : List α} (h : Same lt (x :: xs) (x :: ys)) : Same lt xs ys := by
  intro a
  have := h a
  rw [List.filter_cons, List.filter_cons] at this
  split at this
  · exact List.tail_eq_of_cons_eq this
  · exact this
theorem Same.nil (hw : Weak lt) {ys : List α} (h : Same lt [] ys) : ys = [] := by
  cases ys with
  | nil => rfl
  | cons y ys => exact absurd (Same.mem hw h.symm (List.mem_cons_self)) (by simp)
end
end Go.Proofs.Ythdhkoeaadahaaa.SortCore
namespace Go.Proofs.Ythdhkoeaadahaaa.SortCore
set_option linter.unusedVariables false
set_option linter.unusedSimpArgs false
section
variable {α : Type} {lt : α → α → Bool}
inductive Bl (lt : α → α → Bool) (k : Nat) : List α → Prop
  | last {xs : List α} : xs.length ≤ k → Sorted lt xs → Bl lt k xs
  | cons {c xs : List α} : c.length = k → Sorted lt c → Bl lt k xs → Bl lt k (c ++ xs)
end
end Go.Proofs.Ythdhkoeaadahaaa.SortCore
namespace Go.Proofs.Ythdhkoeaadahaaa.SortCore
set_option linter.unusedVariables false
set_option linter.unusedSimpArgs false
section
variable {α : Type} {lt : α → α → Bool}
variable (lt) in
def last (xs : List α) (x : α) : Option α := (xs.filter (eqv lt x)).getLast?
end
end Go.Proofs.Ythdhkoeaadahaaa.SortCore
