/-
  No cell of these rows narrows 'for every input' (looked for: loops, veiled, ifaces, maps, wideKeys, modest, calm, conditions, laid).
  DERIVED. THE GIVEN ROWS OF THIS SEAT. 27 by the template 'for every input the law returns true; each argument reads behind the call as it read before'; 0 by the template 'total and deterministic' (their statements: YthdhkoeaadahaaaTotals.lean).
  GIVEN WITH THE SEED: the statements are not yours to turn. If you find one false, say at which input.
  Laid BY PROGRAM, IN A SANDBOX (cutbox-rows.mjs): the forced cells as the released guide's own fill.sh prints them over the translation 82c9d5b6a4173f90… (all of the seat's roots in one cut). By AI agents, Wed Nov 11 2026. No macro, syntax, notation, axiom, sorry.
-/
import Derived.Test.YthdhkoeaadahaaaChecked
import GoSem.Claim
import GoSem.ClaimJoined
import GoSem.ClaimMapViews
import Derived.JoinedTies
import Derived.KernelRfl
namespace Go.Proofs.Ythdhkoeaadahaaa
/- THE CELL 'sum', in the pinned program and in every row, IS THE sha256 OF THE DUMP (.gsa) THAT YthdhkoeaadahaaaProg.lean LOADS. Nothing in Lean hashes anything: it is a label: what it is worth is what the hold of that sum in a sandbox is worth. -/
noncomputable def Try.pinned : Pinned := { name := "ythdhkoeaadahaaa", sum := "82c9d5b6a4173f90c710ebb92a5d4b715b9b07065919c0e52083aad23a6d7d98", checked := Try.checked }
namespace Rows
def none {H : Type} : Left H := { results := [], args := [] }

/-- 'counterfoillaw13.LagJudges': WHATEVER THE INPUT: true; the input reads as it did. -/
def lagJudgesSpec : ChangeSpec := { name := "lagJudges", fn := fun _ => fun
  | [d1, d2, d3] => { results := [.lit (.bool true)], args := [d1, d2, d3] }
  | _ => none }
def lagJudgesRow : OpenClaim := { program := "ythdhkoeaadahaaa", sum := "82c9d5b6a4173f90c710ebb92a5d4b715b9b07065919c0e52083aad23a6d7d98", func := "counterfoil/counterfoillaw13.LagJudges", spec := "lagJudges", apart := false }
def LagJudgesSaid : Prop := lagJudgesRow.holds Try.pinned (OpenSpec.ofChange lagJudgesSpec)

/-- ITS FALSE NEIGHBOUR: 'it returns false'. Refute it at one input. -/
def lagJudgesWrong : ChangeSpec := { name := "lagJudges", fn := fun _ => fun
  | [d1, d2, d3] => { results := [.lit (.bool false)], args := [d1, d2, d3] }
  | _ => none }
def LagJudgesWrongFalsely : Prop := lagJudgesRow.holds Try.pinned (OpenSpec.ofChange lagJudgesWrong)

/-- 'counterfoillaw13.LagLess': WHATEVER THE INPUT: true; the input reads as it did. -/
def lagLessSpec : ChangeSpec := { name := "lagLess", fn := fun _ => fun
  | [d1, d2, d3, d4] => { results := [.lit (.bool true)], args := [d1, d2, d3, d4] }
  | _ => none }
def lagLessRow : OpenClaim := { program := "ythdhkoeaadahaaa", sum := "82c9d5b6a4173f90c710ebb92a5d4b715b9b07065919c0e52083aad23a6d7d98", func := "counterfoil/counterfoillaw13.LagLess", spec := "lagLess", unfollowed := true, recurses := true, apart := false }
def LagLessSaid : Prop := lagLessRow.holds Try.pinned (OpenSpec.ofChange lagLessSpec)

/-- ITS FALSE NEIGHBOUR: 'it returns false'. Refute it at one input. -/
def lagLessWrong : ChangeSpec := { name := "lagLess", fn := fun _ => fun
  | [d1, d2, d3, d4] => { results := [.lit (.bool false)], args := [d1, d2, d3, d4] }
  | _ => none }
def LagLessWrongFalsely : Prop := lagLessRow.holds Try.pinned (OpenSpec.ofChange lagLessWrong)

/-- 'counterfoillaw07.VolsGets': WHATEVER THE INPUT: true; the input reads as it did. -/
def volsGetsSpec : ChangeSpec := { name := "volsGets", fn := fun _ => fun
  | [d1, d2, d3] => { results := [.lit (.bool true)], args := [d1, d2, d3] }
  | _ => none }
def volsGetsRow : OpenClaim := { program := "ythdhkoeaadahaaa", sum := "82c9d5b6a4173f90c710ebb92a5d4b715b9b07065919c0e52083aad23a6d7d98", func := "counterfoil/counterfoillaw07.VolsGets", spec := "volsGets", inPlace := ["slices.overlaps[counterfoil/api.Vol]"], unfollowed := true, recurses := true, apart := false }
def VolsGetsSaid : Prop := volsGetsRow.holds Try.pinned (OpenSpec.ofChange volsGetsSpec)

/-- ITS FALSE NEIGHBOUR: 'it returns false'. Refute it at one input. -/
def volsGetsWrong : ChangeSpec := { name := "volsGets", fn := fun _ => fun
  | [d1, d2, d3] => { results := [.lit (.bool false)], args := [d1, d2, d3] }
  | _ => none }
def VolsGetsWrongFalsely : Prop := volsGetsRow.holds Try.pinned (OpenSpec.ofChange volsGetsWrong)

/-- 'counterfoillaw07.VolsSizes': WHATEVER THE INPUT: true; the input reads as it did. -/
def volsSizesSpec : ChangeSpec := { name := "volsSizes", fn := fun _ => fun
  | [d1, d2] => { results := [.lit (.bool true)], args := [d1, d2] }
  | _ => none }
def volsSizesRow : OpenClaim := { program := "ythdhkoeaadahaaa", sum := "82c9d5b6a4173f90c710ebb92a5d4b715b9b07065919c0e52083aad23a6d7d98", func := "counterfoil/counterfoillaw07.VolsSizes", spec := "volsSizes", inPlace := ["slices.overlaps[counterfoil/api.Vol]"], unfollowed := true, recurses := true, apart := false }
def VolsSizesSaid : Prop := volsSizesRow.holds Try.pinned (OpenSpec.ofChange volsSizesSpec)

/-- ITS FALSE NEIGHBOUR: 'it returns false'. Refute it at one input. -/
def volsSizesWrong : ChangeSpec := { name := "volsSizes", fn := fun _ => fun
  | [d1, d2] => { results := [.lit (.bool false)], args := [d1, d2] }
  | _ => none }
def VolsSizesWrongFalsely : Prop := volsSizesRow.holds Try.pinned (OpenSpec.ofChange volsSizesWrong)

/-- 'counterfoillaw08.FoldTwice': WHATEVER THE INPUT: true; the input reads as it did. -/
def foldTwiceSpec : ChangeSpec := { name := "foldTwice", fn := fun _ => fun
  | [d] => { results := [.lit (.bool true)], args := [d] }
  | _ => none }
def foldTwiceRow : OpenClaim := { program := "ythdhkoeaadahaaa", sum := "82c9d5b6a4173f90c710ebb92a5d4b715b9b07065919c0e52083aad23a6d7d98", func := "counterfoil/counterfoillaw08.FoldTwice", spec := "foldTwice", unfollowed := true, recurses := true, apart := false }
def FoldTwiceSaid : Prop := foldTwiceRow.holds Try.pinned (OpenSpec.ofChange foldTwiceSpec)

/-- ITS FALSE NEIGHBOUR: 'it returns false'. Refute it at one input. -/
def foldTwiceWrong : ChangeSpec := { name := "foldTwice", fn := fun _ => fun
  | [d] => { results := [.lit (.bool false)], args := [d] }
  | _ => none }
def FoldTwiceWrongFalsely : Prop := foldTwiceRow.holds Try.pinned (OpenSpec.ofChange foldTwiceWrong)

/-- 'counterfoillaw07.VolsSame': WHATEVER THE INPUT: true; the input reads as it did. -/
def volsSameSpec : ChangeSpec := { name := "volsSame", fn := fun _ => fun
  | [d1, d2] => { results := [.lit (.bool true)], args := [d1, d2] }
  | _ => none }
def volsSameRow : OpenClaim := { program := "ythdhkoeaadahaaa", sum := "82c9d5b6a4173f90c710ebb92a5d4b715b9b07065919c0e52083aad23a6d7d98", func := "counterfoil/counterfoillaw07.VolsSame", spec := "volsSame", inPlace := ["slices.overlaps[counterfoil/api.Vol]"], unfollowed := true, recurses := true, apart := false }
def VolsSameSaid : Prop := volsSameRow.holds Try.pinned (OpenSpec.ofChange volsSameSpec)

/-- ITS FALSE NEIGHBOUR: 'it returns false'. Refute it at one input. -/
def volsSameWrong : ChangeSpec := { name := "volsSame", fn := fun _ => fun
  | [d1, d2] => { results := [.lit (.bool false)], args := [d1, d2] }
  | _ => none }
def VolsSameWrongFalsely : Prop := volsSameRow.holds Try.pinned (OpenSpec.ofChange volsSameWrong)

/-- 'counterfoillaw08.FoldTells': WHATEVER THE INPUT: true; the input reads as it did. -/
def foldTellsSpec : ChangeSpec := { name := "foldTells", fn := fun _ => fun
  | [d] => { results := [.lit (.bool true)], args := [d] }
  | _ => none }
def foldTellsRow : OpenClaim := { program := "ythdhkoeaadahaaa", sum := "82c9d5b6a4173f90c710ebb92a5d4b715b9b07065919c0e52083aad23a6d7d98", func := "counterfoil/counterfoillaw08.FoldTells", spec := "foldTells", unfollowed := true, recurses := true, apart := false }
def FoldTellsSaid : Prop := foldTellsRow.holds Try.pinned (OpenSpec.ofChange foldTellsSpec)

/-- ITS FALSE NEIGHBOUR: 'it returns false'. Refute it at one input. -/
def foldTellsWrong : ChangeSpec := { name := "foldTells", fn := fun _ => fun
  | [d] => { results := [.lit (.bool false)], args := [d] }
  | _ => none }
def FoldTellsWrongFalsely : Prop := foldTellsRow.holds Try.pinned (OpenSpec.ofChange foldTellsWrong)

/-- 'counterfoillaw07.VolsApplies': WHATEVER THE INPUT: true; the input reads as it did. -/
def volsAppliesSpec : ChangeSpec := { name := "volsApplies", fn := fun _ => fun
  | [d1, d2] => { results := [.lit (.bool true)], args := [d1, d2] }
  | _ => none }
def volsAppliesRow : OpenClaim := { program := "ythdhkoeaadahaaa", sum := "82c9d5b6a4173f90c710ebb92a5d4b715b9b07065919c0e52083aad23a6d7d98", func := "counterfoil/counterfoillaw07.VolsApplies", spec := "volsApplies", inPlace := ["slices.overlaps[counterfoil/api.Vol]"], unfollowed := true, recurses := true, apart := false }
def VolsAppliesSaid : Prop := volsAppliesRow.holds Try.pinned (OpenSpec.ofChange volsAppliesSpec)

/-- ITS FALSE NEIGHBOUR: 'it returns false'. Refute it at one input. -/
def volsAppliesWrong : ChangeSpec := { name := "volsApplies", fn := fun _ => fun
  | [d1, d2] => { results := [.lit (.bool false)], args := [d1, d2] }
  | _ => none }
def VolsAppliesWrongFalsely : Prop := volsAppliesRow.holds Try.pinned (OpenSpec.ofChange volsAppliesWrong)

/-- 'counterfoillaw07.VolsParts': WHATEVER THE INPUT: true; the input reads as it did. -/
def volsPartsSpec : ChangeSpec := { name := "volsParts", fn := fun _ => fun
  | [d1, d2, d3] => { results := [.lit (.bool true)], args := [d1, d2, d3] }
  | _ => none }
def volsPartsRow : OpenClaim := { program := "ythdhkoeaadahaaa", sum := "82c9d5b6a4173f90c710ebb92a5d4b715b9b07065919c0e52083aad23a6d7d98", func := "counterfoil/counterfoillaw07.VolsParts", spec := "volsParts", inPlace := ["slices.overlaps[counterfoil/api.Vol]"], unfollowed := true, recurses := true, apart := false }
def VolsPartsSaid : Prop := volsPartsRow.holds Try.pinned (OpenSpec.ofChange volsPartsSpec)

/-- ITS FALSE NEIGHBOUR: 'it returns false'. Refute it at one input. -/
def volsPartsWrong : ChangeSpec := { name := "volsParts", fn := fun _ => fun
  | [d1, d2, d3] => { results := [.lit (.bool false)], args := [d1, d2, d3] }
  | _ => none }
def VolsPartsWrongFalsely : Prop := volsPartsRow.holds Try.pinned (OpenSpec.ofChange volsPartsWrong)

/-- 'counterfoillaw07.VolsShapes': WHATEVER THE INPUT: true; the input reads as it did. -/
def volsShapesSpec : ChangeSpec := { name := "volsShapes", fn := fun _ => fun
  | [d1, d2, d3] => { results := [.lit (.bool true)], args := [d1, d2, d3] }
  | _ => none }
def volsShapesRow : OpenClaim := { program := "ythdhkoeaadahaaa", sum := "82c9d5b6a4173f90c710ebb92a5d4b715b9b07065919c0e52083aad23a6d7d98", func := "counterfoil/counterfoillaw07.VolsShapes", spec := "volsShapes", inPlace := ["slices.overlaps[counterfoil/api.Vol]"], unfollowed := true, recurses := true, apart := false }
def VolsShapesSaid : Prop := volsShapesRow.holds Try.pinned (OpenSpec.ofChange volsShapesSpec)

/-- ITS FALSE NEIGHBOUR: 'it returns false'. Refute it at one input. -/
def volsShapesWrong : ChangeSpec := { name := "volsShapes", fn := fun _ => fun
  | [d1, d2, d3] => { results := [.lit (.bool false)], args := [d1, d2, d3] }
  | _ => none }
def VolsShapesWrongFalsely : Prop := volsShapesRow.holds Try.pinned (OpenSpec.ofChange volsShapesWrong)

/-- 'counterfoillaw08.FoldMerges': WHATEVER THE INPUT: true; the input reads as it did. -/
def foldMergesSpec : ChangeSpec := { name := "foldMerges", fn := fun _ => fun
  | [d1, d2] => { results := [.lit (.bool true)], args := [d1, d2] }
  | _ => none }
def foldMergesRow : OpenClaim := { program := "ythdhkoeaadahaaa", sum := "82c9d5b6a4173f90c710ebb92a5d4b715b9b07065919c0e52083aad23a6d7d98", func := "counterfoil/counterfoillaw08.FoldMerges", spec := "foldMerges", unfollowed := true, recurses := true, apart := false }
def FoldMergesSaid : Prop := foldMergesRow.holds Try.pinned (OpenSpec.ofChange foldMergesSpec)

/-- ITS FALSE NEIGHBOUR: 'it returns false'. Refute it at one input. -/
def foldMergesWrong : ChangeSpec := { name := "foldMerges", fn := fun _ => fun
  | [d1, d2] => { results := [.lit (.bool false)], args := [d1, d2] }
  | _ => none }
def FoldMergesWrongFalsely : Prop := foldMergesRow.holds Try.pinned (OpenSpec.ofChange foldMergesWrong)

/-- 'counterfoillaw07.VolsStay': WHATEVER THE INPUT: true; the input reads as it did. -/
def volsStaySpec : ChangeSpec := { name := "volsStay", fn := fun _ => fun
  | [d1, d2, d3, d4] => { results := [.lit (.bool true)], args := [d1, d2, d3, d4] }
  | _ => none }
def volsStayRow : OpenClaim := { program := "ythdhkoeaadahaaa", sum := "82c9d5b6a4173f90c710ebb92a5d4b715b9b07065919c0e52083aad23a6d7d98", func := "counterfoil/counterfoillaw07.VolsStay", spec := "volsStay", inPlace := ["slices.overlaps[counterfoil/api.Vol]"], unfollowed := true, recurses := true, apart := false }
def VolsStaySaid : Prop := volsStayRow.holds Try.pinned (OpenSpec.ofChange volsStaySpec)

/-- ITS FALSE NEIGHBOUR: 'it returns false'. Refute it at one input. -/
def volsStayWrong : ChangeSpec := { name := "volsStay", fn := fun _ => fun
  | [d1, d2, d3, d4] => { results := [.lit (.bool false)], args := [d1, d2, d3, d4] }
  | _ => none }
def VolsStayWrongFalsely : Prop := volsStayRow.holds Try.pinned (OpenSpec.ofChange volsStayWrong)

/-- 'counterfoillaw07.VolsUndo': WHATEVER THE INPUT: true; the input reads as it did. -/
def volsUndoSpec : ChangeSpec := { name := "volsUndo", fn := fun _ => fun
  | [d1, d2, d3] => { results := [.lit (.bool true)], args := [d1, d2, d3] }
  | _ => none }
def volsUndoRow : OpenClaim := { program := "ythdhkoeaadahaaa", sum := "82c9d5b6a4173f90c710ebb92a5d4b715b9b07065919c0e52083aad23a6d7d98", func := "counterfoil/counterfoillaw07.VolsUndo", spec := "volsUndo", inPlace := ["slices.overlaps[counterfoil/api.Vol]"], unfollowed := true, recurses := true, apart := false }
def VolsUndoSaid : Prop := volsUndoRow.holds Try.pinned (OpenSpec.ofChange volsUndoSpec)

/-- ITS FALSE NEIGHBOUR: 'it returns false'. Refute it at one input. -/
def volsUndoWrong : ChangeSpec := { name := "volsUndo", fn := fun _ => fun
  | [d1, d2, d3] => { results := [.lit (.bool false)], args := [d1, d2, d3] }
  | _ => none }
def VolsUndoWrongFalsely : Prop := volsUndoRow.holds Try.pinned (OpenSpec.ofChange volsUndoWrong)

/-- 'counterfoillaw08.FoldPicks': WHATEVER THE INPUT: true; the input reads as it did. -/
def foldPicksSpec : ChangeSpec := { name := "foldPicks", fn := fun _ => fun
  | [d1, d2] => { results := [.lit (.bool true)], args := [d1, d2] }
  | _ => none }
def foldPicksRow : OpenClaim := { program := "ythdhkoeaadahaaa", sum := "82c9d5b6a4173f90c710ebb92a5d4b715b9b07065919c0e52083aad23a6d7d98", func := "counterfoil/counterfoillaw08.FoldPicks", spec := "foldPicks", unfollowed := true, recurses := true, apart := false }
def FoldPicksSaid : Prop := foldPicksRow.holds Try.pinned (OpenSpec.ofChange foldPicksSpec)

/-- ITS FALSE NEIGHBOUR: 'it returns false'. Refute it at one input. -/
def foldPicksWrong : ChangeSpec := { name := "foldPicks", fn := fun _ => fun
  | [d1, d2] => { results := [.lit (.bool false)], args := [d1, d2] }
  | _ => none }
def FoldPicksWrongFalsely : Prop := foldPicksRow.holds Try.pinned (OpenSpec.ofChange foldPicksWrong)

/-- 'counterfoillaw08.FoldDoes': WHATEVER THE INPUT: true; the input reads as it did. -/
def foldDoesSpec : ChangeSpec := { name := "foldDoes", fn := fun _ => fun
  | [d1, d2] => { results := [.lit (.bool true)], args := [d1, d2] }
  | _ => none }
def foldDoesRow : OpenClaim := { program := "ythdhkoeaadahaaa", sum := "82c9d5b6a4173f90c710ebb92a5d4b715b9b07065919c0e52083aad23a6d7d98", func := "counterfoil/counterfoillaw08.FoldDoes", spec := "foldDoes", unfollowed := true, recurses := true, apart := false }
def FoldDoesSaid : Prop := foldDoesRow.holds Try.pinned (OpenSpec.ofChange foldDoesSpec)

/-- ITS FALSE NEIGHBOUR: 'it returns false'. Refute it at one input. -/
def foldDoesWrong : ChangeSpec := { name := "foldDoes", fn := fun _ => fun
  | [d1, d2] => { results := [.lit (.bool false)], args := [d1, d2] }
  | _ => none }
def FoldDoesWrongFalsely : Prop := foldDoesRow.holds Try.pinned (OpenSpec.ofChange foldDoesWrong)

/-- 'counterfoillaw12.QueueNews': WHATEVER THE INPUT: true; the input reads as it did. -/
def queueNewsSpec : ChangeSpec := { name := "queueNews", fn := fun _ => fun
  | [d] => { results := [.lit (.bool true)], args := [d] }
  | _ => none }
def queueNewsRow : OpenClaim := { program := "ythdhkoeaadahaaa", sum := "82c9d5b6a4173f90c710ebb92a5d4b715b9b07065919c0e52083aad23a6d7d98", func := "counterfoil/counterfoillaw12.QueueNews", spec := "queueNews", unfollowed := true, recurses := true, apart := false }
def QueueNewsSaid : Prop := queueNewsRow.holds Try.pinned (OpenSpec.ofChange queueNewsSpec)

/-- ITS FALSE NEIGHBOUR: 'it returns false'. Refute it at one input. -/
def queueNewsWrong : ChangeSpec := { name := "queueNews", fn := fun _ => fun
  | [d] => { results := [.lit (.bool false)], args := [d] }
  | _ => none }
def QueueNewsWrongFalsely : Prop := queueNewsRow.holds Try.pinned (OpenSpec.ofChange queueNewsWrong)

/-- 'counterfoillaw12.QueueAdds': WHATEVER THE INPUT: true; the input reads as it did. -/
def queueAddsSpec : ChangeSpec := { name := "queueAdds", fn := fun _ => fun
  | [d1, d2] => { results := [.lit (.bool true)], args := [d1, d2] }
  | _ => none }
def queueAddsRow : OpenClaim := { program := "ythdhkoeaadahaaa", sum := "82c9d5b6a4173f90c710ebb92a5d4b715b9b07065919c0e52083aad23a6d7d98", func := "counterfoil/counterfoillaw12.QueueAdds", spec := "queueAdds", unfollowed := true, recurses := true, apart := false }
def QueueAddsSaid : Prop := queueAddsRow.holds Try.pinned (OpenSpec.ofChange queueAddsSpec)

/-- ITS FALSE NEIGHBOUR: 'it returns false'. Refute it at one input. -/
def queueAddsWrong : ChangeSpec := { name := "queueAdds", fn := fun _ => fun
  | [d1, d2] => { results := [.lit (.bool false)], args := [d1, d2] }
  | _ => none }
def QueueAddsWrongFalsely : Prop := queueAddsRow.holds Try.pinned (OpenSpec.ofChange queueAddsWrong)

/-- 'counterfoillaw12.QueueTwice': WHATEVER THE INPUT: true; the input reads as it did. -/
def queueTwiceSpec : ChangeSpec := { name := "queueTwice", fn := fun _ => fun
  | [d1, d2, d3] => { results := [.lit (.bool true)], args := [d1, d2, d3] }
  | _ => none }
def queueTwiceRow : OpenClaim := { program := "ythdhkoeaadahaaa", sum := "82c9d5b6a4173f90c710ebb92a5d4b715b9b07065919c0e52083aad23a6d7d98", func := "counterfoil/counterfoillaw12.QueueTwice", spec := "queueTwice", unfollowed := true, recurses := true, apart := false }
def QueueTwiceSaid : Prop := queueTwiceRow.holds Try.pinned (OpenSpec.ofChange queueTwiceSpec)

/-- ITS FALSE NEIGHBOUR: 'it returns false'. Refute it at one input. -/
def queueTwiceWrong : ChangeSpec := { name := "queueTwice", fn := fun _ => fun
  | [d1, d2, d3] => { results := [.lit (.bool false)], args := [d1, d2, d3] }
  | _ => none }
def QueueTwiceWrongFalsely : Prop := queueTwiceRow.holds Try.pinned (OpenSpec.ofChange queueTwiceWrong)

/-- 'counterfoillaw08.FoldTakes': WHATEVER THE INPUT: true; the input reads as it did. -/
def foldTakesSpec : ChangeSpec := { name := "foldTakes", fn := fun _ => fun
  | [d1, d2] => { results := [.lit (.bool true)], args := [d1, d2] }
  | _ => none }
def foldTakesRow : OpenClaim := { program := "ythdhkoeaadahaaa", sum := "82c9d5b6a4173f90c710ebb92a5d4b715b9b07065919c0e52083aad23a6d7d98", func := "counterfoil/counterfoillaw08.FoldTakes", spec := "foldTakes", unfollowed := true, recurses := true, apart := false }
def FoldTakesSaid : Prop := foldTakesRow.holds Try.pinned (OpenSpec.ofChange foldTakesSpec)

/-- ITS FALSE NEIGHBOUR: 'it returns false'. Refute it at one input. -/
def foldTakesWrong : ChangeSpec := { name := "foldTakes", fn := fun _ => fun
  | [d1, d2] => { results := [.lit (.bool false)], args := [d1, d2] }
  | _ => none }
def FoldTakesWrongFalsely : Prop := foldTakesRow.holds Try.pinned (OpenSpec.ofChange foldTakesWrong)

/-- 'counterfoillaw12.QueueDone': WHATEVER THE INPUT: true; the input reads as it did. -/
def queueDoneSpec : ChangeSpec := { name := "queueDone", fn := fun _ => fun
  | [d1, d2] => { results := [.lit (.bool true)], args := [d1, d2] }
  | _ => none }
def queueDoneRow : OpenClaim := { program := "ythdhkoeaadahaaa", sum := "82c9d5b6a4173f90c710ebb92a5d4b715b9b07065919c0e52083aad23a6d7d98", func := "counterfoil/counterfoillaw12.QueueDone", spec := "queueDone", unfollowed := true, recurses := true, apart := false }
def QueueDoneSaid : Prop := queueDoneRow.holds Try.pinned (OpenSpec.ofChange queueDoneSpec)

/-- ITS FALSE NEIGHBOUR: 'it returns false'. Refute it at one input. -/
def queueDoneWrong : ChangeSpec := { name := "queueDone", fn := fun _ => fun
  | [d1, d2] => { results := [.lit (.bool false)], args := [d1, d2] }
  | _ => none }
def QueueDoneWrongFalsely : Prop := queueDoneRow.holds Try.pinned (OpenSpec.ofChange queueDoneWrong)

/-- 'counterfoillaw13.LagBounds': WHATEVER THE INPUT: true; the input reads as it did. -/
def lagBoundsSpec : ChangeSpec := { name := "lagBounds", fn := fun _ => fun
  | [d1, d2, d3, d4] => { results := [.lit (.bool true)], args := [d1, d2, d3, d4] }
  | _ => none }
def lagBoundsRow : OpenClaim := { program := "ythdhkoeaadahaaa", sum := "82c9d5b6a4173f90c710ebb92a5d4b715b9b07065919c0e52083aad23a6d7d98", func := "counterfoil/counterfoillaw13.LagBounds", spec := "lagBounds", unfollowed := true, recurses := true, apart := false }
def LagBoundsSaid : Prop := lagBoundsRow.holds Try.pinned (OpenSpec.ofChange lagBoundsSpec)

/-- ITS FALSE NEIGHBOUR: 'it returns false'. Refute it at one input. -/
def lagBoundsWrong : ChangeSpec := { name := "lagBounds", fn := fun _ => fun
  | [d1, d2, d3, d4] => { results := [.lit (.bool false)], args := [d1, d2, d3, d4] }
  | _ => none }
def LagBoundsWrongFalsely : Prop := lagBoundsRow.holds Try.pinned (OpenSpec.ofChange lagBoundsWrong)

/-- 'counterfoillaw09.SnapNotes': WHATEVER THE INPUT: true; the input reads as it did. -/
def snapNotesSpec : ChangeSpec := { name := "snapNotes", fn := fun _ => fun
  | [d1, d2, d3, d4] => { results := [.lit (.bool true)], args := [d1, d2, d3, d4] }
  | _ => none }
def snapNotesRow : OpenClaim := { program := "ythdhkoeaadahaaa", sum := "82c9d5b6a4173f90c710ebb92a5d4b715b9b07065919c0e52083aad23a6d7d98", func := "counterfoil/counterfoillaw09.SnapNotes", spec := "snapNotes", unfollowed := true, recurses := true, apart := false }
def SnapNotesSaid : Prop := snapNotesRow.holds Try.pinned (OpenSpec.ofChange snapNotesSpec)

/-- ITS FALSE NEIGHBOUR: 'it returns false'. Refute it at one input. -/
def snapNotesWrong : ChangeSpec := { name := "snapNotes", fn := fun _ => fun
  | [d1, d2, d3, d4] => { results := [.lit (.bool false)], args := [d1, d2, d3, d4] }
  | _ => none }
def SnapNotesWrongFalsely : Prop := snapNotesRow.holds Try.pinned (OpenSpec.ofChange snapNotesWrong)

/-- 'counterfoillaw09.SnapRoom': WHATEVER THE INPUT: true; the input reads as it did. -/
def snapRoomSpec : ChangeSpec := { name := "snapRoom", fn := fun _ => fun
  | [d1, d2, d3] => { results := [.lit (.bool true)], args := [d1, d2, d3] }
  | _ => none }
def snapRoomRow : OpenClaim := { program := "ythdhkoeaadahaaa", sum := "82c9d5b6a4173f90c710ebb92a5d4b715b9b07065919c0e52083aad23a6d7d98", func := "counterfoil/counterfoillaw09.SnapRoom", spec := "snapRoom", unfollowed := true, recurses := true, apart := false }
def SnapRoomSaid : Prop := snapRoomRow.holds Try.pinned (OpenSpec.ofChange snapRoomSpec)

/-- ITS FALSE NEIGHBOUR: 'it returns false'. Refute it at one input. -/
def snapRoomWrong : ChangeSpec := { name := "snapRoom", fn := fun _ => fun
  | [d1, d2, d3] => { results := [.lit (.bool false)], args := [d1, d2, d3] }
  | _ => none }
def SnapRoomWrongFalsely : Prop := snapRoomRow.holds Try.pinned (OpenSpec.ofChange snapRoomWrong)

/-- 'counterfoillaw09.SnapReads': WHATEVER THE INPUT: true; the input reads as it did. -/
def snapReadsSpec : ChangeSpec := { name := "snapReads", fn := fun _ => fun
  | [d1, d2, d3, d4] => { results := [.lit (.bool true)], args := [d1, d2, d3, d4] }
  | _ => none }
def snapReadsRow : OpenClaim := { program := "ythdhkoeaadahaaa", sum := "82c9d5b6a4173f90c710ebb92a5d4b715b9b07065919c0e52083aad23a6d7d98", func := "counterfoil/counterfoillaw09.SnapReads", spec := "snapReads", unfollowed := true, recurses := true, apart := false }
def SnapReadsSaid : Prop := snapReadsRow.holds Try.pinned (OpenSpec.ofChange snapReadsSpec)

/-- ITS FALSE NEIGHBOUR: 'it returns false'. Refute it at one input. -/
def snapReadsWrong : ChangeSpec := { name := "snapReads", fn := fun _ => fun
  | [d1, d2, d3, d4] => { results := [.lit (.bool false)], args := [d1, d2, d3, d4] }
  | _ => none }
def SnapReadsWrongFalsely : Prop := snapReadsRow.holds Try.pinned (OpenSpec.ofChange snapReadsWrong)

/-- 'counterfoillaw09.SnapAlike': WHATEVER THE INPUT: true; the input reads as it did. -/
def snapAlikeSpec : ChangeSpec := { name := "snapAlike", fn := fun _ => fun
  | [d1, d2, d3, d4] => { results := [.lit (.bool true)], args := [d1, d2, d3, d4] }
  | _ => none }
def snapAlikeRow : OpenClaim := { program := "ythdhkoeaadahaaa", sum := "82c9d5b6a4173f90c710ebb92a5d4b715b9b07065919c0e52083aad23a6d7d98", func := "counterfoil/counterfoillaw09.SnapAlike", spec := "snapAlike", unfollowed := true, recurses := true, apart := false }
def SnapAlikeSaid : Prop := snapAlikeRow.holds Try.pinned (OpenSpec.ofChange snapAlikeSpec)

/-- ITS FALSE NEIGHBOUR: 'it returns false'. Refute it at one input. -/
def snapAlikeWrong : ChangeSpec := { name := "snapAlike", fn := fun _ => fun
  | [d1, d2, d3, d4] => { results := [.lit (.bool false)], args := [d1, d2, d3, d4] }
  | _ => none }
def SnapAlikeWrongFalsely : Prop := snapAlikeRow.holds Try.pinned (OpenSpec.ofChange snapAlikeWrong)

/-- 'counterfoillaw09.SnapStays': WHATEVER THE INPUT: true; the input reads as it did. -/
def snapStaysSpec : ChangeSpec := { name := "snapStays", fn := fun _ => fun
  | [d1, d2, d3] => { results := [.lit (.bool true)], args := [d1, d2, d3] }
  | _ => none }
def snapStaysRow : OpenClaim := { program := "ythdhkoeaadahaaa", sum := "82c9d5b6a4173f90c710ebb92a5d4b715b9b07065919c0e52083aad23a6d7d98", func := "counterfoil/counterfoillaw09.SnapStays", spec := "snapStays", unfollowed := true, recurses := true, apart := false }
def SnapStaysSaid : Prop := snapStaysRow.holds Try.pinned (OpenSpec.ofChange snapStaysSpec)

/-- ITS FALSE NEIGHBOUR: 'it returns false'. Refute it at one input. -/
def snapStaysWrong : ChangeSpec := { name := "snapStays", fn := fun _ => fun
  | [d1, d2, d3] => { results := [.lit (.bool false)], args := [d1, d2, d3] }
  | _ => none }
def SnapStaysWrongFalsely : Prop := snapStaysRow.holds Try.pinned (OpenSpec.ofChange snapStaysWrong)

/-- 'counterfoillaw12.QueueCarries': WHATEVER THE INPUT: true; the input reads as it did. -/
def queueCarriesSpec : ChangeSpec := { name := "queueCarries", fn := fun _ => fun
  | [d1, d2, d3, d4] => { results := [.lit (.bool true)], args := [d1, d2, d3, d4] }
  | _ => none }
def queueCarriesRow : OpenClaim := { program := "ythdhkoeaadahaaa", sum := "82c9d5b6a4173f90c710ebb92a5d4b715b9b07065919c0e52083aad23a6d7d98", func := "counterfoil/counterfoillaw12.QueueCarries", spec := "queueCarries", unfollowed := true, recurses := true, apart := false }
def QueueCarriesSaid : Prop := queueCarriesRow.holds Try.pinned (OpenSpec.ofChange queueCarriesSpec)

/-- ITS FALSE NEIGHBOUR: 'it returns false'. Refute it at one input. -/
def queueCarriesWrong : ChangeSpec := { name := "queueCarries", fn := fun _ => fun
  | [d1, d2, d3, d4] => { results := [.lit (.bool false)], args := [d1, d2, d3, d4] }
  | _ => none }
def QueueCarriesWrongFalsely : Prop := queueCarriesRow.holds Try.pinned (OpenSpec.ofChange queueCarriesWrong)

/- THE SECOND FORM. 'bulk': how many values and letters a reading holds, each counted each time it is reached (what is shared counts as often as it is met; a slice's spare places count too). A statement '..UptoSaid' is the law's where the arguments, and the package variables that the reading takes, are together of bulk at most 1048576: NARROWER than '..Said'. Prove '..Said' where nothing that the law and all that it calls make is longer than what came in: it says more and counts as full. Else prove '..UptoSaid'. A law counts once. -/
mutual
def uptoBulk {H : Type} : DataW H → Nat
  | .lit (.string bytes) => bytes.length + 1
  | .lit _ => 1
  | .nil => 1
  | .ptr d => uptoBulk d + 1
  | .slice elems spare => uptoBulkAll elems + uptoBulkAll spare + 1
  | .agg parts => uptoBulkAll parts + 1
  | .iface _ d => uptoBulk d + 1
  | .map entries => uptoBulkEntries entries + 1
  | .held _ => 1
def uptoBulkAll {H : Type} : List (DataW H) → Nat
  | [] => 0
  | d :: r => uptoBulk d + uptoBulkAll r
def uptoBulkEntries {H : Type} : List (Lit × DataW H) → Nat
  | [] => 0
  | x :: r => uptoBulkEntry x + uptoBulkEntries r
def uptoBulkEntry {H : Type} : Lit × DataW H → Nat
  | (.string bytes, d) => bytes.length + uptoBulk d + 1
  | (_, d) => uptoBulk d + 1
 end
def uptoSmall : (H : Type) → List (DataW H) → Bool := fun _ ds => decide (uptoBulkAll ds ≤ 1048576)
def OpenSpec.upto (s : _root_.Go.ChangeSpec) : _root_.Go.OpenSpec := { _root_.Go.OpenSpec.ofChange s with cond := some uptoSmall }

/-- 'counterfoillaw13.LagJudges', WHERE WHAT IT READS IS OF BULK AT MOST 1048576: true; the input reads as it did. -/
def lagJudgesUptoRow : OpenClaim := { program := "ythdhkoeaadahaaa", sum := "82c9d5b6a4173f90c710ebb92a5d4b715b9b07065919c0e52083aad23a6d7d98", func := "counterfoil/counterfoillaw13.LagJudges", spec := "lagJudges", apart := false, narrowed := true }
def LagJudgesUptoSaid : Prop := lagJudgesUptoRow.holds Try.pinned (OpenSpec.upto lagJudgesSpec)

/-- 'counterfoillaw13.LagLess', WHERE WHAT IT READS IS OF BULK AT MOST 1048576: true; the input reads as it did. -/
def lagLessUptoRow : OpenClaim := { program := "ythdhkoeaadahaaa", sum := "82c9d5b6a4173f90c710ebb92a5d4b715b9b07065919c0e52083aad23a6d7d98", func := "counterfoil/counterfoillaw13.LagLess", spec := "lagLess", unfollowed := true, recurses := true, apart := false, narrowed := true }
def LagLessUptoSaid : Prop := lagLessUptoRow.holds Try.pinned (OpenSpec.upto lagLessSpec)

/-- 'counterfoillaw07.VolsGets', WHERE WHAT IT READS IS OF BULK AT MOST 1048576: true; the input reads as it did. -/
def volsGetsUptoRow : OpenClaim := { program := "ythdhkoeaadahaaa", sum := "82c9d5b6a4173f90c710ebb92a5d4b715b9b07065919c0e52083aad23a6d7d98", func := "counterfoil/counterfoillaw07.VolsGets", spec := "volsGets", inPlace := ["slices.overlaps[counterfoil/api.Vol]"], unfollowed := true, recurses := true, apart := false, narrowed := true }
def VolsGetsUptoSaid : Prop := volsGetsUptoRow.holds Try.pinned (OpenSpec.upto volsGetsSpec)

/-- 'counterfoillaw07.VolsSizes', WHERE WHAT IT READS IS OF BULK AT MOST 1048576: true; the input reads as it did. -/
def volsSizesUptoRow : OpenClaim := { program := "ythdhkoeaadahaaa", sum := "82c9d5b6a4173f90c710ebb92a5d4b715b9b07065919c0e52083aad23a6d7d98", func := "counterfoil/counterfoillaw07.VolsSizes", spec := "volsSizes", inPlace := ["slices.overlaps[counterfoil/api.Vol]"], unfollowed := true, recurses := true, apart := false, narrowed := true }
def VolsSizesUptoSaid : Prop := volsSizesUptoRow.holds Try.pinned (OpenSpec.upto volsSizesSpec)

/-- 'counterfoillaw08.FoldTwice', WHERE WHAT IT READS IS OF BULK AT MOST 1048576: true; the input reads as it did. -/
def foldTwiceUptoRow : OpenClaim := { program := "ythdhkoeaadahaaa", sum := "82c9d5b6a4173f90c710ebb92a5d4b715b9b07065919c0e52083aad23a6d7d98", func := "counterfoil/counterfoillaw08.FoldTwice", spec := "foldTwice", unfollowed := true, recurses := true, apart := false, narrowed := true }
def FoldTwiceUptoSaid : Prop := foldTwiceUptoRow.holds Try.pinned (OpenSpec.upto foldTwiceSpec)

/-- 'counterfoillaw07.VolsSame', WHERE WHAT IT READS IS OF BULK AT MOST 1048576: true; the input reads as it did. -/
def volsSameUptoRow : OpenClaim := { program := "ythdhkoeaadahaaa", sum := "82c9d5b6a4173f90c710ebb92a5d4b715b9b07065919c0e52083aad23a6d7d98", func := "counterfoil/counterfoillaw07.VolsSame", spec := "volsSame", inPlace := ["slices.overlaps[counterfoil/api.Vol]"], unfollowed := true, recurses := true, apart := false, narrowed := true }
def VolsSameUptoSaid : Prop := volsSameUptoRow.holds Try.pinned (OpenSpec.upto volsSameSpec)

/-- 'counterfoillaw08.FoldTells', WHERE WHAT IT READS IS OF BULK AT MOST 1048576: true; the input reads as it did. -/
def foldTellsUptoRow : OpenClaim := { program := "ythdhkoeaadahaaa", sum := "82c9d5b6a4173f90c710ebb92a5d4b715b9b07065919c0e52083aad23a6d7d98", func := "counterfoil/counterfoillaw08.FoldTells", spec := "foldTells", unfollowed := true, recurses := true, apart := false, narrowed := true }
def FoldTellsUptoSaid : Prop := foldTellsUptoRow.holds Try.pinned (OpenSpec.upto foldTellsSpec)

/-- 'counterfoillaw07.VolsApplies', WHERE WHAT IT READS IS OF BULK AT MOST 1048576: true; the input reads as it did. -/
def volsAppliesUptoRow : OpenClaim := { program := "ythdhkoeaadahaaa", sum := "82c9d5b6a4173f90c710ebb92a5d4b715b9b07065919c0e52083aad23a6d7d98", func := "counterfoil/counterfoillaw07.VolsApplies", spec := "volsApplies", inPlace := ["slices.overlaps[counterfoil/api.Vol]"], unfollowed := true, recurses := true, apart := false, narrowed := true }
def VolsAppliesUptoSaid : Prop := volsAppliesUptoRow.holds Try.pinned (OpenSpec.upto volsAppliesSpec)

/-- 'counterfoillaw07.VolsParts', WHERE WHAT IT READS IS OF BULK AT MOST 1048576: true; the input reads as it did. -/
def volsPartsUptoRow : OpenClaim := { program := "ythdhkoeaadahaaa", sum := "82c9d5b6a4173f90c710ebb92a5d4b715b9b07065919c0e52083aad23a6d7d98", func := "counterfoil/counterfoillaw07.VolsParts", spec := "volsParts", inPlace := ["slices.overlaps[counterfoil/api.Vol]"], unfollowed := true, recurses := true, apart := false, narrowed := true }
def VolsPartsUptoSaid : Prop := volsPartsUptoRow.holds Try.pinned (OpenSpec.upto volsPartsSpec)

/-- 'counterfoillaw07.VolsShapes', WHERE WHAT IT READS IS OF BULK AT MOST 1048576: true; the input reads as it did. -/
def volsShapesUptoRow : OpenClaim := { program := "ythdhkoeaadahaaa", sum := "82c9d5b6a4173f90c710ebb92a5d4b715b9b07065919c0e52083aad23a6d7d98", func := "counterfoil/counterfoillaw07.VolsShapes", spec := "volsShapes", inPlace := ["slices.overlaps[counterfoil/api.Vol]"], unfollowed := true, recurses := true, apart := false, narrowed := true }
def VolsShapesUptoSaid : Prop := volsShapesUptoRow.holds Try.pinned (OpenSpec.upto volsShapesSpec)

/-- 'counterfoillaw08.FoldMerges', WHERE WHAT IT READS IS OF BULK AT MOST 1048576: true; the input reads as it did. -/
def foldMergesUptoRow : OpenClaim := { program := "ythdhkoeaadahaaa", sum := "82c9d5b6a4173f90c710ebb92a5d4b715b9b07065919c0e52083aad23a6d7d98", func := "counterfoil/counterfoillaw08.FoldMerges", spec := "foldMerges", unfollowed := true, recurses := true, apart := false, narrowed := true }
def FoldMergesUptoSaid : Prop := foldMergesUptoRow.holds Try.pinned (OpenSpec.upto foldMergesSpec)

/-- 'counterfoillaw07.VolsStay', WHERE WHAT IT READS IS OF BULK AT MOST 1048576: true; the input reads as it did. -/
def volsStayUptoRow : OpenClaim := { program := "ythdhkoeaadahaaa", sum := "82c9d5b6a4173f90c710ebb92a5d4b715b9b07065919c0e52083aad23a6d7d98", func := "counterfoil/counterfoillaw07.VolsStay", spec := "volsStay", inPlace := ["slices.overlaps[counterfoil/api.Vol]"], unfollowed := true, recurses := true, apart := false, narrowed := true }
def VolsStayUptoSaid : Prop := volsStayUptoRow.holds Try.pinned (OpenSpec.upto volsStaySpec)

/-- 'counterfoillaw07.VolsUndo', WHERE WHAT IT READS IS OF BULK AT MOST 1048576: true; the input reads as it did. -/
def volsUndoUptoRow : OpenClaim := { program := "ythdhkoeaadahaaa", sum := "82c9d5b6a4173f90c710ebb92a5d4b715b9b07065919c0e52083aad23a6d7d98", func := "counterfoil/counterfoillaw07.VolsUndo", spec := "volsUndo", inPlace := ["slices.overlaps[counterfoil/api.Vol]"], unfollowed := true, recurses := true, apart := false, narrowed := true }
def VolsUndoUptoSaid : Prop := volsUndoUptoRow.holds Try.pinned (OpenSpec.upto volsUndoSpec)

/-- 'counterfoillaw08.FoldPicks', WHERE WHAT IT READS IS OF BULK AT MOST 1048576: true; the input reads as it did. -/
def foldPicksUptoRow : OpenClaim := { program := "ythdhkoeaadahaaa", sum := "82c9d5b6a4173f90c710ebb92a5d4b715b9b07065919c0e52083aad23a6d7d98", func := "counterfoil/counterfoillaw08.FoldPicks", spec := "foldPicks", unfollowed := true, recurses := true, apart := false, narrowed := true }
def FoldPicksUptoSaid : Prop := foldPicksUptoRow.holds Try.pinned (OpenSpec.upto foldPicksSpec)

/-- 'counterfoillaw08.FoldDoes', WHERE WHAT IT READS IS OF BULK AT MOST 1048576: true; the input reads as it did. -/
def foldDoesUptoRow : OpenClaim := { program := "ythdhkoeaadahaaa", sum := "82c9d5b6a4173f90c710ebb92a5d4b715b9b07065919c0e52083aad23a6d7d98", func := "counterfoil/counterfoillaw08.FoldDoes", spec := "foldDoes", unfollowed := true, recurses := true, apart := false, narrowed := true }
def FoldDoesUptoSaid : Prop := foldDoesUptoRow.holds Try.pinned (OpenSpec.upto foldDoesSpec)

/-- 'counterfoillaw12.QueueNews', WHERE WHAT IT READS IS OF BULK AT MOST 1048576: true; the input reads as it did. -/
def queueNewsUptoRow : OpenClaim := { program := "ythdhkoeaadahaaa", sum := "82c9d5b6a4173f90c710ebb92a5d4b715b9b07065919c0e52083aad23a6d7d98", func := "counterfoil/counterfoillaw12.QueueNews", spec := "queueNews", unfollowed := true, recurses := true, apart := false, narrowed := true }
def QueueNewsUptoSaid : Prop := queueNewsUptoRow.holds Try.pinned (OpenSpec.upto queueNewsSpec)

/-- 'counterfoillaw12.QueueAdds', WHERE WHAT IT READS IS OF BULK AT MOST 1048576: true; the input reads as it did. -/
def queueAddsUptoRow : OpenClaim := { program := "ythdhkoeaadahaaa", sum := "82c9d5b6a4173f90c710ebb92a5d4b715b9b07065919c0e52083aad23a6d7d98", func := "counterfoil/counterfoillaw12.QueueAdds", spec := "queueAdds", unfollowed := true, recurses := true, apart := false, narrowed := true }
def QueueAddsUptoSaid : Prop := queueAddsUptoRow.holds Try.pinned (OpenSpec.upto queueAddsSpec)

/-- 'counterfoillaw12.QueueTwice', WHERE WHAT IT READS IS OF BULK AT MOST 1048576: true; the input reads as it did. -/
def queueTwiceUptoRow : OpenClaim := { program := "ythdhkoeaadahaaa", sum := "82c9d5b6a4173f90c710ebb92a5d4b715b9b07065919c0e52083aad23a6d7d98", func := "counterfoil/counterfoillaw12.QueueTwice", spec := "queueTwice", unfollowed := true, recurses := true, apart := false, narrowed := true }
def QueueTwiceUptoSaid : Prop := queueTwiceUptoRow.holds Try.pinned (OpenSpec.upto queueTwiceSpec)

/-- 'counterfoillaw08.FoldTakes', WHERE WHAT IT READS IS OF BULK AT MOST 1048576: true; the input reads as it did. -/
def foldTakesUptoRow : OpenClaim := { program := "ythdhkoeaadahaaa", sum := "82c9d5b6a4173f90c710ebb92a5d4b715b9b07065919c0e52083aad23a6d7d98", func := "counterfoil/counterfoillaw08.FoldTakes", spec := "foldTakes", unfollowed := true, recurses := true, apart := false, narrowed := true }
def FoldTakesUptoSaid : Prop := foldTakesUptoRow.holds Try.pinned (OpenSpec.upto foldTakesSpec)

/-- 'counterfoillaw12.QueueDone', WHERE WHAT IT READS IS OF BULK AT MOST 1048576: true; the input reads as it did. -/
def queueDoneUptoRow : OpenClaim := { program := "ythdhkoeaadahaaa", sum := "82c9d5b6a4173f90c710ebb92a5d4b715b9b07065919c0e52083aad23a6d7d98", func := "counterfoil/counterfoillaw12.QueueDone", spec := "queueDone", unfollowed := true, recurses := true, apart := false, narrowed := true }
def QueueDoneUptoSaid : Prop := queueDoneUptoRow.holds Try.pinned (OpenSpec.upto queueDoneSpec)

/-- 'counterfoillaw13.LagBounds', WHERE WHAT IT READS IS OF BULK AT MOST 1048576: true; the input reads as it did. -/
def lagBoundsUptoRow : OpenClaim := { program := "ythdhkoeaadahaaa", sum := "82c9d5b6a4173f90c710ebb92a5d4b715b9b07065919c0e52083aad23a6d7d98", func := "counterfoil/counterfoillaw13.LagBounds", spec := "lagBounds", unfollowed := true, recurses := true, apart := false, narrowed := true }
def LagBoundsUptoSaid : Prop := lagBoundsUptoRow.holds Try.pinned (OpenSpec.upto lagBoundsSpec)

/-- 'counterfoillaw09.SnapNotes', WHERE WHAT IT READS IS OF BULK AT MOST 1048576: true; the input reads as it did. -/
def snapNotesUptoRow : OpenClaim := { program := "ythdhkoeaadahaaa", sum := "82c9d5b6a4173f90c710ebb92a5d4b715b9b07065919c0e52083aad23a6d7d98", func := "counterfoil/counterfoillaw09.SnapNotes", spec := "snapNotes", unfollowed := true, recurses := true, apart := false, narrowed := true }
def SnapNotesUptoSaid : Prop := snapNotesUptoRow.holds Try.pinned (OpenSpec.upto snapNotesSpec)

/-- 'counterfoillaw09.SnapRoom', WHERE WHAT IT READS IS OF BULK AT MOST 1048576: true; the input reads as it did. -/
def snapRoomUptoRow : OpenClaim := { program := "ythdhkoeaadahaaa", sum := "82c9d5b6a4173f90c710ebb92a5d4b715b9b07065919c0e52083aad23a6d7d98", func := "counterfoil/counterfoillaw09.SnapRoom", spec := "snapRoom", unfollowed := true, recurses := true, apart := false, narrowed := true }
def SnapRoomUptoSaid : Prop := snapRoomUptoRow.holds Try.pinned (OpenSpec.upto snapRoomSpec)

/-- 'counterfoillaw09.SnapReads', WHERE WHAT IT READS IS OF BULK AT MOST 1048576: true; the input reads as it did. -/
def snapReadsUptoRow : OpenClaim := { program := "ythdhkoeaadahaaa", sum := "82c9d5b6a4173f90c710ebb92a5d4b715b9b07065919c0e52083aad23a6d7d98", func := "counterfoil/counterfoillaw09.SnapReads", spec := "snapReads", unfollowed := true, recurses := true, apart := false, narrowed := true }
def SnapReadsUptoSaid : Prop := snapReadsUptoRow.holds Try.pinned (OpenSpec.upto snapReadsSpec)

/-- 'counterfoillaw09.SnapAlike', WHERE WHAT IT READS IS OF BULK AT MOST 1048576: true; the input reads as it did. -/
def snapAlikeUptoRow : OpenClaim := { program := "ythdhkoeaadahaaa", sum := "82c9d5b6a4173f90c710ebb92a5d4b715b9b07065919c0e52083aad23a6d7d98", func := "counterfoil/counterfoillaw09.SnapAlike", spec := "snapAlike", unfollowed := true, recurses := true, apart := false, narrowed := true }
def SnapAlikeUptoSaid : Prop := snapAlikeUptoRow.holds Try.pinned (OpenSpec.upto snapAlikeSpec)

/-- 'counterfoillaw09.SnapStays', WHERE WHAT IT READS IS OF BULK AT MOST 1048576: true; the input reads as it did. -/
def snapStaysUptoRow : OpenClaim := { program := "ythdhkoeaadahaaa", sum := "82c9d5b6a4173f90c710ebb92a5d4b715b9b07065919c0e52083aad23a6d7d98", func := "counterfoil/counterfoillaw09.SnapStays", spec := "snapStays", unfollowed := true, recurses := true, apart := false, narrowed := true }
def SnapStaysUptoSaid : Prop := snapStaysUptoRow.holds Try.pinned (OpenSpec.upto snapStaysSpec)

/-- 'counterfoillaw12.QueueCarries', WHERE WHAT IT READS IS OF BULK AT MOST 1048576: true; the input reads as it did. -/
def queueCarriesUptoRow : OpenClaim := { program := "ythdhkoeaadahaaa", sum := "82c9d5b6a4173f90c710ebb92a5d4b715b9b07065919c0e52083aad23a6d7d98", func := "counterfoil/counterfoillaw12.QueueCarries", spec := "queueCarries", unfollowed := true, recurses := true, apart := false, narrowed := true }
def QueueCarriesUptoSaid : Prop := queueCarriesUptoRow.holds Try.pinned (OpenSpec.upto queueCarriesSpec)

end Rows
end Go.Proofs.Ythdhkoeaadahaaa
