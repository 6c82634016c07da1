-- PACKED by wip/kit/pack.py: what the law's proof uses of QAwake (printed words and texts of this seat)
import Derived.Test.YthdhkoeaadahaaaTQueueCore
import Derived.Test.YthdhkoeaadahaaaTPx82
import Derived.Test.YthdhkoeaadahaaaTPx83
namespace Go.Proofs.Ythdhkoeaadahaaa.QAwake
open Go.RowKit Go.Proofs.Ythdhkoeaadahaaa.P Go.Proofs.Ythdhkoeaadahaaa.FoldCore Go.Proofs.Ythdhkoeaadahaaa.QueueCore Go.Proofs.YthdhkoeaadahaaaW.PrintWords Go.Proofs.YthdhkoeaadahaaaW.PrintLast
set_option linter.unusedVariables false
theorem upward {α : Type} {g : Nat → Option α} {r : α} (K : Nat) (h : g K = some r) (hm : ∀ k, LeO (g k) (g (k + 1))) : Ev g r := by
  refine ⟨K, fun k hk => ?_⟩
  induction hk with
  | refl => exact h
  | step _ ih => exact hm _ _ ih
theorem awake12 : Ev (fun k => counterfoillaw12_awake.f k) true := upward 60 (by decide +kernel) counterfoillaw12_awake.mono
theorem same_ev (l : List S74) (h : l.length ≤ 100000) : Ev (fun k => counterfoilref08_Equal.f k l l) true := by
  obtain ⟨t, ht, h1, _⟩ := equal_ev l l h
  rw [h1 rfl] at ht
  exact ht
theorem qequal_self (l : List S99) (o : List S74) (a b : Int) (hl : l.length ≤ 1000) (hs : ∀ i : Nat, i < l.length → (rd_T99 l (i : Int)).f2.length ≤ 100000) (ho : o.length ≤ 100000) : Ev (fun k => counterfoilref12_Equal.f k l o a b l o a b) true := by
  have loop : ∀ (d i : Nat), i + d = l.length → Ev (fun k => counterfoilref12_Equal.l0 k (i : Int) l o a b l o a b) true := by
    intro d
    induction d with
    | zero =>
      intro i hi
      refine Ev.succ ?_
      simp only [counterfoilref12_Equal.l0]
      exact Ev.neg (by omega) (Ev.now _)
    | succ d ih =>
      intro i hi
      have := ih (i + 1) (by omega)
      refine Ev.succ ?_
      simp only [counterfoilref12_Equal.l0]
      rw [wrap_succ (by omega)]
      exact Ev.pos (by omega) (Ev.pos (by omega) (Ev.pos (by omega) (Ev.pos (by trivial) (Ev.pos (by trivial) (Ev.bind (same_ev _ (hs i (by omega))) (Ev.pos (by trivial) this))))))
  unfold counterfoilref12_Equal.f
  refine Ev.pos rfl (Ev.pos rfl (Ev.pos rfl (Ev.bind (same_ev o ho) (Ev.succ ?_))))
  simp only [counterfoilref12_Equal.j0]
  exact Ev.neg (by simp) (loop l.length 0 (by omega))
end Go.Proofs.Ythdhkoeaadahaaa.QAwake
