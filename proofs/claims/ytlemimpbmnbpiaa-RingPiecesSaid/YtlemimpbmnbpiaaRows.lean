/-
  No cell of these rows narrows 'for every input' (looked for: loops, veiled, ifaces, maps, wideKeys, modest, calm, conditions, laid).
  DERIVED. THE GIVEN ROWS OF THIS SEAT. 6 by the template 'for every input the law returns true; each argument reads behind the call as it read before'; 0 by the template 'total and deterministic' (their statements: YtlemimpbmnbpiaaTotals.lean).
  GIVEN WITH THE SEED: the statements are not yours to turn. If you find one false, say at which input.
  Laid BY PROGRAM, IN A SANDBOX (cutbox-rows.mjs): the forced cells as the released guide's own fill.sh prints them over the translation 680350ffcea5a244… (all of the seat's roots in one cut). By AI agents, Wed Nov 11 2026. No macro, syntax, notation, axiom, sorry.
-/
import Derived.Test.YtlemimpbmnbpiaaChecked
import GoSem.Claim
import GoSem.ClaimJoined
import GoSem.ClaimMapViews
import Derived.JoinedTies
import Derived.KernelRfl
namespace Go.Proofs.Ytlemimpbmnbpiaa
/- THE CELL 'sum', in the pinned program and in every row, IS THE sha256 OF THE DUMP (.gsa) THAT YtlemimpbmnbpiaaProg.lean LOADS. Nothing in Lean hashes anything: it is a label: what it is worth is what the hold of that sum in a sandbox is worth. -/
noncomputable def Try.pinned : Pinned := { name := "ytlemimpbmnbpiaa", sum := "680350ffcea5a244fc38bdfb5256a52e77aaa3ecd12293e1ccc781b2fcf7e540", checked := Try.checked }
namespace Rows
def none {H : Type} : Left H := { results := [], args := [] }

/-- 'counterfoillaw04.RingAt': WHATEVER THE INPUT: true; the input reads as it did. -/
def ringAtSpec : ChangeSpec := { name := "ringAt", fn := fun _ => fun
  | [d1, d2, d3] => { results := [.lit (.bool true)], args := [d1, d2, d3] }
  | _ => none }
def ringAtRow : OpenClaim := { program := "ytlemimpbmnbpiaa", sum := "680350ffcea5a244fc38bdfb5256a52e77aaa3ecd12293e1ccc781b2fcf7e540", func := "counterfoil/counterfoillaw04.RingAt", spec := "ringAt", apart := false }
def RingAtSaid : Prop := ringAtRow.holds Try.pinned (OpenSpec.ofChange ringAtSpec)

/-- ITS FALSE NEIGHBOUR: 'it returns false'. Refute it at one input. -/
def ringAtWrong : ChangeSpec := { name := "ringAt", fn := fun _ => fun
  | [d1, d2, d3] => { results := [.lit (.bool false)], args := [d1, d2, d3] }
  | _ => none }
def RingAtWrongFalsely : Prop := ringAtRow.holds Try.pinned (OpenSpec.ofChange ringAtWrong)

/-- 'counterfoillaw04.RingSteps': WHATEVER THE INPUT: true; the input reads as it did. -/
def ringStepsSpec : ChangeSpec := { name := "ringSteps", fn := fun _ => fun
  | [d1, d2, d3, d4] => { results := [.lit (.bool true)], args := [d1, d2, d3, d4] }
  | _ => none }
def ringStepsRow : OpenClaim := { program := "ytlemimpbmnbpiaa", sum := "680350ffcea5a244fc38bdfb5256a52e77aaa3ecd12293e1ccc781b2fcf7e540", func := "counterfoil/counterfoillaw04.RingSteps", spec := "ringSteps", apart := false }
def RingStepsSaid : Prop := ringStepsRow.holds Try.pinned (OpenSpec.ofChange ringStepsSpec)

/-- ITS FALSE NEIGHBOUR: 'it returns false'. Refute it at one input. -/
def ringStepsWrong : ChangeSpec := { name := "ringSteps", fn := fun _ => fun
  | [d1, d2, d3, d4] => { results := [.lit (.bool false)], args := [d1, d2, d3, d4] }
  | _ => none }
def RingStepsWrongFalsely : Prop := ringStepsRow.holds Try.pinned (OpenSpec.ofChange ringStepsWrong)

/-- 'counterfoillaw04.RingRound': WHATEVER THE INPUT: true; the input reads as it did. -/
def ringRoundSpec : ChangeSpec := { name := "ringRound", fn := fun _ => fun
  | [d1, d2, d3, d4] => { results := [.lit (.bool true)], args := [d1, d2, d3, d4] }
  | _ => none }
def ringRoundRow : OpenClaim := { program := "ytlemimpbmnbpiaa", sum := "680350ffcea5a244fc38bdfb5256a52e77aaa3ecd12293e1ccc781b2fcf7e540", func := "counterfoil/counterfoillaw04.RingRound", spec := "ringRound", apart := false }
def RingRoundSaid : Prop := ringRoundRow.holds Try.pinned (OpenSpec.ofChange ringRoundSpec)

/-- ITS FALSE NEIGHBOUR: 'it returns false'. Refute it at one input. -/
def ringRoundWrong : ChangeSpec := { name := "ringRound", fn := fun _ => fun
  | [d1, d2, d3, d4] => { results := [.lit (.bool false)], args := [d1, d2, d3, d4] }
  | _ => none }
def RingRoundWrongFalsely : Prop := ringRoundRow.holds Try.pinned (OpenSpec.ofChange ringRoundWrong)

/-- 'counterfoillaw04.RingGap': WHATEVER THE INPUT: true; the input reads as it did. -/
def ringGapSpec : ChangeSpec := { name := "ringGap", fn := fun _ => fun
  | [d1, d2, d3] => { results := [.lit (.bool true)], args := [d1, d2, d3] }
  | _ => none }
def ringGapRow : OpenClaim := { program := "ytlemimpbmnbpiaa", sum := "680350ffcea5a244fc38bdfb5256a52e77aaa3ecd12293e1ccc781b2fcf7e540", func := "counterfoil/counterfoillaw04.RingGap", spec := "ringGap", apart := false }
def RingGapSaid : Prop := ringGapRow.holds Try.pinned (OpenSpec.ofChange ringGapSpec)

/-- ITS FALSE NEIGHBOUR: 'it returns false'. Refute it at one input. -/
def ringGapWrong : ChangeSpec := { name := "ringGap", fn := fun _ => fun
  | [d1, d2, d3] => { results := [.lit (.bool false)], args := [d1, d2, d3] }
  | _ => none }
def RingGapWrongFalsely : Prop := ringGapRow.holds Try.pinned (OpenSpec.ofChange ringGapWrong)

/-- 'counterfoillaw04.RingGoes': WHATEVER THE INPUT: true; the input reads as it did. -/
def ringGoesSpec : ChangeSpec := { name := "ringGoes", fn := fun _ => fun
  | [d1, d2, d3] => { results := [.lit (.bool true)], args := [d1, d2, d3] }
  | _ => none }
def ringGoesRow : OpenClaim := { program := "ytlemimpbmnbpiaa", sum := "680350ffcea5a244fc38bdfb5256a52e77aaa3ecd12293e1ccc781b2fcf7e540", func := "counterfoil/counterfoillaw04.RingGoes", spec := "ringGoes", apart := false }
def RingGoesSaid : Prop := ringGoesRow.holds Try.pinned (OpenSpec.ofChange ringGoesSpec)

/-- ITS FALSE NEIGHBOUR: 'it returns false'. Refute it at one input. -/
def ringGoesWrong : ChangeSpec := { name := "ringGoes", fn := fun _ => fun
  | [d1, d2, d3] => { results := [.lit (.bool false)], args := [d1, d2, d3] }
  | _ => none }
def RingGoesWrongFalsely : Prop := ringGoesRow.holds Try.pinned (OpenSpec.ofChange ringGoesWrong)

/-- 'counterfoillaw04.RingPieces': WHATEVER THE INPUT: true; the input reads as it did. -/
def ringPiecesSpec : ChangeSpec := { name := "ringPieces", fn := fun _ => fun
  | [d1, d2, d3] => { results := [.lit (.bool true)], args := [d1, d2, d3] }
  | _ => none }
def ringPiecesRow : OpenClaim := { program := "ytlemimpbmnbpiaa", sum := "680350ffcea5a244fc38bdfb5256a52e77aaa3ecd12293e1ccc781b2fcf7e540", func := "counterfoil/counterfoillaw04.RingPieces", spec := "ringPieces", apart := false }
def RingPiecesSaid : Prop := ringPiecesRow.holds Try.pinned (OpenSpec.ofChange ringPiecesSpec)

/-- ITS FALSE NEIGHBOUR: 'it returns false'. Refute it at one input. -/
def ringPiecesWrong : ChangeSpec := { name := "ringPieces", fn := fun _ => fun
  | [d1, d2, d3] => { results := [.lit (.bool false)], args := [d1, d2, d3] }
  | _ => none }
def RingPiecesWrongFalsely : Prop := ringPiecesRow.holds Try.pinned (OpenSpec.ofChange ringPiecesWrong)

/- THE SECOND FORM. 'bulk': how many values and letters a reading holds, each counted each time it is reached (what is shared counts as often as it is met; a slice's spare places count too). A statement '..UptoSaid' is the law's where the arguments, and the package variables that the reading takes, are together of bulk at most 1048576: NARROWER than '..Said'. Prove '..Said' where nothing that the law and all that it calls make is longer than what came in: it says more and counts as full. Else prove '..UptoSaid'. A law counts once. -/
mutual
def uptoBulk {H : Type} : DataW H → Nat
  | .lit (.string bytes) => bytes.length + 1
  | .lit _ => 1
  | .nil => 1
  | .ptr d => uptoBulk d + 1
  | .slice elems spare => uptoBulkAll elems + uptoBulkAll spare + 1
  | .agg parts => uptoBulkAll parts + 1
  | .iface _ d => uptoBulk d + 1
  | .map entries => uptoBulkEntries entries + 1
  | .held _ => 1
def uptoBulkAll {H : Type} : List (DataW H) → Nat
  | [] => 0
  | d :: r => uptoBulk d + uptoBulkAll r
def uptoBulkEntries {H : Type} : List (Lit × DataW H) → Nat
  | [] => 0
  | x :: r => uptoBulkEntry x + uptoBulkEntries r
def uptoBulkEntry {H : Type} : Lit × DataW H → Nat
  | (.string bytes, d) => bytes.length + uptoBulk d + 1
  | (_, d) => uptoBulk d + 1
 end
def uptoSmall : (H : Type) → List (DataW H) → Bool := fun _ ds => decide (uptoBulkAll ds ≤ 1048576)
def OpenSpec.upto (s : _root_.Go.ChangeSpec) : _root_.Go.OpenSpec := { _root_.Go.OpenSpec.ofChange s with cond := some uptoSmall }

/-- 'counterfoillaw04.RingAt', WHERE WHAT IT READS IS OF BULK AT MOST 1048576: true; the input reads as it did. -/
def ringAtUptoRow : OpenClaim := { program := "ytlemimpbmnbpiaa", sum := "680350ffcea5a244fc38bdfb5256a52e77aaa3ecd12293e1ccc781b2fcf7e540", func := "counterfoil/counterfoillaw04.RingAt", spec := "ringAt", apart := false, narrowed := true }
def RingAtUptoSaid : Prop := ringAtUptoRow.holds Try.pinned (OpenSpec.upto ringAtSpec)

/-- 'counterfoillaw04.RingSteps', WHERE WHAT IT READS IS OF BULK AT MOST 1048576: true; the input reads as it did. -/
def ringStepsUptoRow : OpenClaim := { program := "ytlemimpbmnbpiaa", sum := "680350ffcea5a244fc38bdfb5256a52e77aaa3ecd12293e1ccc781b2fcf7e540", func := "counterfoil/counterfoillaw04.RingSteps", spec := "ringSteps", apart := false, narrowed := true }
def RingStepsUptoSaid : Prop := ringStepsUptoRow.holds Try.pinned (OpenSpec.upto ringStepsSpec)

/-- 'counterfoillaw04.RingRound', WHERE WHAT IT READS IS OF BULK AT MOST 1048576: true; the input reads as it did. -/
def ringRoundUptoRow : OpenClaim := { program := "ytlemimpbmnbpiaa", sum := "680350ffcea5a244fc38bdfb5256a52e77aaa3ecd12293e1ccc781b2fcf7e540", func := "counterfoil/counterfoillaw04.RingRound", spec := "ringRound", apart := false, narrowed := true }
def RingRoundUptoSaid : Prop := ringRoundUptoRow.holds Try.pinned (OpenSpec.upto ringRoundSpec)

/-- 'counterfoillaw04.RingGap', WHERE WHAT IT READS IS OF BULK AT MOST 1048576: true; the input reads as it did. -/
def ringGapUptoRow : OpenClaim := { program := "ytlemimpbmnbpiaa", sum := "680350ffcea5a244fc38bdfb5256a52e77aaa3ecd12293e1ccc781b2fcf7e540", func := "counterfoil/counterfoillaw04.RingGap", spec := "ringGap", apart := false, narrowed := true }
def RingGapUptoSaid : Prop := ringGapUptoRow.holds Try.pinned (OpenSpec.upto ringGapSpec)

/-- 'counterfoillaw04.RingGoes', WHERE WHAT IT READS IS OF BULK AT MOST 1048576: true; the input reads as it did. -/
def ringGoesUptoRow : OpenClaim := { program := "ytlemimpbmnbpiaa", sum := "680350ffcea5a244fc38bdfb5256a52e77aaa3ecd12293e1ccc781b2fcf7e540", func := "counterfoil/counterfoillaw04.RingGoes", spec := "ringGoes", apart := false, narrowed := true }
def RingGoesUptoSaid : Prop := ringGoesUptoRow.holds Try.pinned (OpenSpec.upto ringGoesSpec)

/-- 'counterfoillaw04.RingPieces', WHERE WHAT IT READS IS OF BULK AT MOST 1048576: true; the input reads as it did. -/
def ringPiecesUptoRow : OpenClaim := { program := "ytlemimpbmnbpiaa", sum := "680350ffcea5a244fc38bdfb5256a52e77aaa3ecd12293e1ccc781b2fcf7e540", func := "counterfoil/counterfoillaw04.RingPieces", spec := "ringPieces", apart := false, narrowed := true }
def RingPiecesUptoSaid : Prop := ringPiecesUptoRow.holds Try.pinned (OpenSpec.upto ringPiecesSpec)

end Rows
end Go.Proofs.Ytlemimpbmnbpiaa
