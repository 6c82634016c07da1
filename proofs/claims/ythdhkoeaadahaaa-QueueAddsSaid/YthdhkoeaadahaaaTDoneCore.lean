-- PACKED by wip/kit/pack.py: what the law's proof uses of DoneCore (printed words and texts of this seat)
import Derived.Test.YthdhkoeaadahaaaTQueueCore
import Derived.Test.YthdhkoeaadahaaaTESt
import Derived.Test.YthdhkoeaadahaaaTEQClone
import Derived.Test.YthdhkoeaadahaaaTPx8
namespace Go.Proofs.Ythdhkoeaadahaaa.DoneCore
open Go.RowKit Go.Proofs.Ythdhkoeaadahaaa.P Go.Proofs.Ythdhkoeaadahaaa.FoldCore Go.Proofs.Ythdhkoeaadahaaa.QueueCore Go.Proofs.YthdhkoeaadahaaaW.PrintWords Go.Proofs.YthdhkoeaadahaaaW.PrintLast
set_option linter.unusedVariables false
theorem smallQ_of {l : List S99} {o : List S74} (hl : l.length ≤ 20) (hs : smallL l) (ho : o.length ≤ 60) : smallQ l o := by
  refine ⟨by omega, by omega, fun x hx => ?_⟩
  obtain ⟨j, hj, e⟩ := List.getElem_of_mem hx
  have := hs j hj
  rw [rd99 l j hj, e] at this
  omega
end Go.Proofs.Ythdhkoeaadahaaa.DoneCore
