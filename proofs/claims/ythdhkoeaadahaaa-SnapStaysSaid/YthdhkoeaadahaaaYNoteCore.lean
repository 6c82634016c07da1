-- PACKED by wip/kit/pack.py: what the law's proof uses of NoteCore (printed words and texts of this seat)
import Derived.Test.YthdhkoeaadahaaaYTakesCore
import Derived.Test.YthdhkoeaadahaaaYFoldedB
import Derived.Test.YthdhkoeaadahaaaYMergeLaw
import Derived.Test.YthdhkoeaadahaaaYEDelNote
import Derived.Test.YthdhkoeaadahaaaYPx93
namespace Go.Proofs.Ythdhkoeaadahaaa.VolsCore
open Go.RowKit Go.Proofs.Ythdhkoeaadahaaa.P Go.Proofs.YthdhkoeaadahaaaW.PrintWords Go.Proofs.YthdhkoeaadahaaaW.PrintLast Go.Proofs.Ythdhkoeaadahaaa.SortCore
set_option linter.unusedVariables false
def sortedB (l : List S74) : Bool := decide (l.Pairwise (fun a b => ltW a b = true))
def snapB (kept : List S74) (l : List S49) : Bool := decide (checkV l kept = 0) && sortedB kept
def freshM (kept ws : List S74) : List S124 := ((foldW ws).map FoldCore.markOf).filter (fun m => !keptB kept m)
def noteR (kept : List S74) (l : List S49) (ws : List S74) (most : Int) : List S74 × Int :=
  if snapB kept l = false then ([], 1) else if checkV l ws ≠ 0 then ([], checkV l ws) else if (kept.length : Int) + ((freshM kept ws).length : Int) > most then ([], 15) else (foldW (kept ++ (pickR l (freshM kept ws)).1), 0)
theorem snapright_ev (kept : List S74) (l : List S49) (h : kept.length < 9223372036854775807) : Ev (fun k => snap_Right.f k kept l) (snapB kept l) := by
  unfold snap_Right.f snapB sortedB
  refine Ev.bind (check_ev l kept) ?_
  by_cases hz : checkV l kept = 0
  · have hf := FoldCore.folded_ev kept h
    rw [FoldCore.foldB_eq] at hf
    rw [decide_eq_true hz, Bool.true_and]
    exact Ev.pos hz (Ev.bind hf (Ev.now _))
  · rw [decide_eq_false hz, Bool.false_and]
    exact Ev.neg hz (Ev.now _)
theorem freshM_length (kept ws : List S74) : (freshM kept ws).length ≤ ws.length := by
  have h1 := List.length_filter_le (fun m => !keptB kept m) ((foldW ws).map FoldCore.markOf)
  rw [List.length_map] at h1
  have h2 := FoldCore.foldW_length ws
  unfold freshM
  omega
end Go.Proofs.Ythdhkoeaadahaaa.VolsCore
