-- PACKED by wip/kit/pack.py: what the law's proof uses of DoneCore (printed words and texts of this seat)
import Derived.Test.YthdhkoeaadahaaaWQueueCore
import Derived.Test.YthdhkoeaadahaaaWEQDone
namespace Go.Proofs.Ythdhkoeaadahaaa.DoneCore
open Go.RowKit Go.Proofs.Ythdhkoeaadahaaa.P Go.Proofs.Ythdhkoeaadahaaa.FoldCore Go.Proofs.Ythdhkoeaadahaaa.QueueCore Go.Proofs.YthdhkoeaadahaaaW.PrintWords Go.Proofs.YthdhkoeaadahaaaW.PrintLast
set_option linter.unusedVariables false
theorem small_filter {l : List S99} (h : smallL l) (f : S99 → Bool) : smallL (l.filter f) := by
  intro i hi
  rw [rd99 _ i hi]
  have hm : (l.filter f)[i] ∈ l := (List.mem_filter.1 (List.getElem_mem hi)).1
  obtain ⟨j, hj, e⟩ := List.getElem_of_mem hm
  rw [← e, ← rd99 l j hj]
  exact h j hj
theorem smallQ_of {l : List S99} {o : List S74} (hl : l.length ≤ 20) (hs : smallL l) (ho : o.length ≤ 60) : smallQ l o := by
  refine ⟨by omega, by omega, fun x hx => ?_⟩
  obtain ⟨j, hj, e⟩ := List.getElem_of_mem hx
  have := hs j hj
  rw [rd99 l j hj, e] at this
  omega
theorem done_ev (l : List S99) (o : List S74) (a b q : Int) (hl : l.length ≤ 20) (hs : smallL l) (ho : o.length ≤ 60) (hq : qB o a b l (tailP l a) = true) : Ev (fun k => queue_Done.f k l o a b q) (l.filter (lateQ q), o, a, b, 0) := by
  unfold queue_Done.f
  refine Ev.bind (right_ev l o a b hl hs ho) (Ev.pos hq ?_)
  rw [if_pos (smallQ_of hl hs ho)]
  exact Ev.now _
end Go.Proofs.Ythdhkoeaadahaaa.DoneCore
