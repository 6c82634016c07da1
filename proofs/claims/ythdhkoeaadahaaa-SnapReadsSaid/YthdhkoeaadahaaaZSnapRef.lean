-- PACKED by wip/kit/pack.py: what the law's proof uses of SnapRef (printed words and texts of this seat)
import Derived.Test.YthdhkoeaadahaaaZSnapCore
import Derived.Test.YthdhkoeaadahaaaZRefApply
import Derived.Test.YthdhkoeaadahaaaZFoldPure
import Derived.Test.YthdhkoeaadahaaaZPx98
namespace Go.Proofs.Ythdhkoeaadahaaa.VolsCore
open Go.RowKit Go.Proofs.Ythdhkoeaadahaaa.P Go.Proofs.YthdhkoeaadahaaaW.PrintWords Go.Proofs.YthdhkoeaadahaaaW.PrintLast Go.Proofs.Ythdhkoeaadahaaa.SortCore
set_option linter.unusedVariables false
theorem rsnap_ev (kept : List S74) (l : List S49) (hl : l.length ≤ 1000) (hb : ∀ x ∈ l, x.f1.length ≤ 1000) (hk : kept.length ≤ 1000) : Ev (fun k => counterfoilref09_Right.f k kept l) (snapB kept l) := by
  unfold counterfoilref09_Right.f snapB sortedB
  refine Ev.bind (rcheck_ev l kept hl hb hk) ?_
  by_cases hz : checkV l kept = 0
  · obtain ⟨t, ht, he⟩ := FoldCore.eqw_ev kept (foldW kept) (by omega)
    have e : t = decide (kept.Pairwise (fun a b => ltW a b = true)) := by
      cases t with
      | true =>
        have h := he.1 rfl
        refine (decide_eq_true ?_).symm
        rw [h]
        exact fold_lt weakW kept
      | false =>
        refine (decide_eq_false (fun hp => ?_)).symm
        have := he.2 (fold_strict weakW hp).symm
        cases this
    rw [decide_eq_true hz, Bool.true_and, ← e]
    exact Ev.pos hz (Ev.bind (FoldCore.rfold_ev kept (by omega)) (Ev.bind ht (Ev.now _)))
  · rw [decide_eq_false hz, Bool.false_and]
    exact Ev.neg hz (Ev.now _)
end Go.Proofs.Ythdhkoeaadahaaa.VolsCore
