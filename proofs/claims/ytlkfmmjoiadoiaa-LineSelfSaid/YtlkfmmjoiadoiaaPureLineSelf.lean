/- A place lies ahead of itself, and has all with itself in common; one that is not right is neither; no condition. -/
import Derived.Test.YtlkfmmjoiadoiaaLineCore3
import Derived.Test.YtlkfmmjoiadoiaaPx23
namespace Go.Proofs.Ytlkfmmjoiadoiaa.Pure
open Go.RowKit Go.Proofs.Ytlkfmmjoiadoiaa.P Go.Proofs.Ytlkfmmjoiadoiaa.LineCore Go.Proofs.YtlkfmmjoiadoiaaW.PrintWords Go.Proofs.YtlkfmmjoiadoiaaW.PrintLast
theorem LineSelf : counterfoillaw11_LineSelf.Pure := by
  intro l s _ _
  refine Ev.rounds ?_
  have hA := Ev.bind awake_ev (f := fun _ t => some t) (Ev.now true)
  unfold counterfoillaw11_LineSelf.f
  by_cases h1 : (l.length : Int) > 100
  · exact Ev.pos h1 hA
  refine Ev.neg h1 (Ev.bind (placed_ev l s) ?_)
  cases h : placedS l s with
  | false =>
    refine Ev.neg (by simp) (Ev.bind (common_ev l s l s) (Ev.pos (common_not l s h) (Ev.bind (ahead_ev l s l s) (Ev.neg ?_ (Ev.bind (same_ev l s l s) (Ev.neg ?_ hA))))))
    · unfold aheadS; rw [h]; simp
    · unfold sameS; rw [h]; simp
  | true =>
    have hc := common_self h
    refine Ev.pos rfl (Ev.bind (common_ev l s l s) (Ev.pos hc (Ev.bind (ahead_ev l s l s) (Ev.pos ?_ (Ev.bind (same_ev l s l s) (Ev.pos ?_ hA))))))
    · unfold aheadS; rw [h, hc]; simp
    · unfold sameS equalS; rw [h, lcp_self]; simp
end Go.Proofs.Ytlkfmmjoiadoiaa.Pure
