-- PACKED by wip/kit/pack.py: what the law's proof uses of LagCore (printed words and texts of this seat)
import Derived.Test.YthdhkoeaadahaaaWQueueCore
import Derived.Test.YthdhkoeaadahaaaWPx4
import Derived.Test.YthdhkoeaadahaaaWGood
namespace Go.Proofs.Ythdhkoeaadahaaa.LagCore
open Go.RowKit Go.Proofs.Ythdhkoeaadahaaa.P Go.Proofs.Ythdhkoeaadahaaa.FoldCore Go.Proofs.Ythdhkoeaadahaaa.QueueCore Go.Proofs.YthdhkoeaadahaaaW.PrintWords Go.Proofs.YthdhkoeaadahaaaW.PrintLast Go.Proofs.YthdhkoeaadahaaaW.PrintMore
set_option linter.unusedVariables false
theorem ball : ∀ m : List S99, (∀ z ∈ m, good99 z) → ∀ z ∈ allW m, z.f2.size ≤ 140737488351232 := by
  intro m
  induction m with
  | nil => intro _ z hz; simp [allW] at hz
  | cons s r ih =>
    intro hm z hz
    rw [allW] at hz
    rcases List.mem_append.1 hz with hz | hz
    · exact ((hm s List.mem_cons_self).2.2.2.2 z hz).2.2
    · exact ih (fun z' hz' => hm z' (List.mem_cons_of_mem _ hz')) z hz
end Go.Proofs.Ythdhkoeaadahaaa.LagCore
