/-
  No cell of these rows narrows 'for every input' (looked for: loops, veiled, ifaces, maps, wideKeys, modest, calm, conditions, laid).
  DERIVED. THE GIVEN ROWS OF THIS SEAT. 11 by the template 'for every input the law returns true; each argument reads behind the call as it read before'; 0 by the template 'total and deterministic' (their statements: YtlkfmmjoiadoiaaTotals.lean).
  GIVEN WITH THE SEED: the statements are not yours to turn. If you find one false, say at which input.
  Laid BY PROGRAM, IN A SANDBOX (cutbox-rows.mjs): the forced cells as the released guide's own fill.sh prints them over the translation fdf4f426039885ea… (all of the seat's roots in one cut). By AI agents, Wed Nov 11 2026. No macro, syntax, notation, axiom, sorry.
-/
import Derived.Test.YtlkfmmjoiadoiaaChecked
import GoSem.Claim
import GoSem.ClaimJoined
import GoSem.ClaimMapViews
import Derived.JoinedTies
import Derived.KernelRfl
namespace Go.Proofs.Ytlkfmmjoiadoiaa
/- THE CELL 'sum', in the pinned program and in every row, IS THE sha256 OF THE DUMP (.gsa) THAT YtlkfmmjoiadoiaaProg.lean LOADS. Nothing in Lean hashes anything: it is a label: what it is worth is what the hold of that sum in a sandbox is worth. -/
noncomputable def Try.pinned : Pinned := { name := "ytlkfmmjoiadoiaa", sum := "fdf4f426039885ea6d06bc002332d70560c220ac3ea2d231d0be7a497e3f7f10", checked := Try.checked }
namespace Rows
def none {H : Type} : Left H := { results := [], args := [] }

/-- 'counterfoillaw16.WiresSends': WHATEVER THE INPUT: true; the input reads as it did. -/
def wiresSendsSpec : ChangeSpec := { name := "wiresSends", fn := fun _ => fun
  | [d1, d2] => { results := [.lit (.bool true)], args := [d1, d2] }
  | _ => none }
def wiresSendsRow : OpenClaim := { program := "ytlkfmmjoiadoiaa", sum := "fdf4f426039885ea6d06bc002332d70560c220ac3ea2d231d0be7a497e3f7f10", func := "counterfoil/counterfoillaw16.WiresSends", spec := "wiresSends", unfollowed := true, recurses := true, apart := false }
def WiresSendsSaid : Prop := wiresSendsRow.holds Try.pinned (OpenSpec.ofChange wiresSendsSpec)

/-- ITS FALSE NEIGHBOUR: 'it returns false'. Refute it at one input. -/
def wiresSendsWrong : ChangeSpec := { name := "wiresSends", fn := fun _ => fun
  | [d1, d2] => { results := [.lit (.bool false)], args := [d1, d2] }
  | _ => none }
def WiresSendsWrongFalsely : Prop := wiresSendsRow.holds Try.pinned (OpenSpec.ofChange wiresSendsWrong)

/-- 'counterfoillaw11.LineEpochs': WHATEVER THE INPUT: true; the input reads as it did. -/
def lineEpochsSpec : ChangeSpec := { name := "lineEpochs", fn := fun _ => fun
  | [d1, d2] => { results := [.lit (.bool true)], args := [d1, d2] }
  | _ => none }
def lineEpochsRow : OpenClaim := { program := "ytlkfmmjoiadoiaa", sum := "fdf4f426039885ea6d06bc002332d70560c220ac3ea2d231d0be7a497e3f7f10", func := "counterfoil/counterfoillaw11.LineEpochs", spec := "lineEpochs", unfollowed := true, recurses := true, apart := false }
def LineEpochsSaid : Prop := lineEpochsRow.holds Try.pinned (OpenSpec.ofChange lineEpochsSpec)

/-- ITS FALSE NEIGHBOUR: 'it returns false'. Refute it at one input. -/
def lineEpochsWrong : ChangeSpec := { name := "lineEpochs", fn := fun _ => fun
  | [d1, d2] => { results := [.lit (.bool false)], args := [d1, d2] }
  | _ => none }
def LineEpochsWrongFalsely : Prop := lineEpochsRow.holds Try.pinned (OpenSpec.ofChange lineEpochsWrong)

/-- 'counterfoillaw11.LineAgrees': WHATEVER THE INPUT: true; the input reads as it did. -/
def lineAgreesSpec : ChangeSpec := { name := "lineAgrees", fn := fun _ => fun
  | [d1, d2, d3] => { results := [.lit (.bool true)], args := [d1, d2, d3] }
  | _ => none }
def lineAgreesRow : OpenClaim := { program := "ytlkfmmjoiadoiaa", sum := "fdf4f426039885ea6d06bc002332d70560c220ac3ea2d231d0be7a497e3f7f10", func := "counterfoil/counterfoillaw11.LineAgrees", spec := "lineAgrees", unfollowed := true, recurses := true, apart := false }
def LineAgreesSaid : Prop := lineAgreesRow.holds Try.pinned (OpenSpec.ofChange lineAgreesSpec)

/-- ITS FALSE NEIGHBOUR: 'it returns false'. Refute it at one input. -/
def lineAgreesWrong : ChangeSpec := { name := "lineAgrees", fn := fun _ => fun
  | [d1, d2, d3] => { results := [.lit (.bool false)], args := [d1, d2, d3] }
  | _ => none }
def LineAgreesWrongFalsely : Prop := lineAgreesRow.holds Try.pinned (OpenSpec.ofChange lineAgreesWrong)

/-- 'counterfoillaw11.LineNext': WHATEVER THE INPUT: true; the input reads as it did. -/
def lineNextSpec : ChangeSpec := { name := "lineNext", fn := fun _ => fun
  | [d1, d2] => { results := [.lit (.bool true)], args := [d1, d2] }
  | _ => none }
def lineNextRow : OpenClaim := { program := "ytlkfmmjoiadoiaa", sum := "fdf4f426039885ea6d06bc002332d70560c220ac3ea2d231d0be7a497e3f7f10", func := "counterfoil/counterfoillaw11.LineNext", spec := "lineNext", unfollowed := true, recurses := true, apart := false }
def LineNextSaid : Prop := lineNextRow.holds Try.pinned (OpenSpec.ofChange lineNextSpec)

/-- ITS FALSE NEIGHBOUR: 'it returns false'. Refute it at one input. -/
def lineNextWrong : ChangeSpec := { name := "lineNext", fn := fun _ => fun
  | [d1, d2] => { results := [.lit (.bool false)], args := [d1, d2] }
  | _ => none }
def LineNextWrongFalsely : Prop := lineNextRow.holds Try.pinned (OpenSpec.ofChange lineNextWrong)

/-- 'counterfoillaw11.LineChain': WHATEVER THE INPUT: true; the input reads as it did. -/
def lineChainSpec : ChangeSpec := { name := "lineChain", fn := fun _ => fun
  | [d1, d2, d3] => { results := [.lit (.bool true)], args := [d1, d2, d3] }
  | _ => none }
def lineChainRow : OpenClaim := { program := "ytlkfmmjoiadoiaa", sum := "fdf4f426039885ea6d06bc002332d70560c220ac3ea2d231d0be7a497e3f7f10", func := "counterfoil/counterfoillaw11.LineChain", spec := "lineChain", unfollowed := true, recurses := true, apart := false }
def LineChainSaid : Prop := lineChainRow.holds Try.pinned (OpenSpec.ofChange lineChainSpec)

/-- ITS FALSE NEIGHBOUR: 'it returns false'. Refute it at one input. -/
def lineChainWrong : ChangeSpec := { name := "lineChain", fn := fun _ => fun
  | [d1, d2, d3] => { results := [.lit (.bool false)], args := [d1, d2, d3] }
  | _ => none }
def LineChainWrongFalsely : Prop := lineChainRow.holds Try.pinned (OpenSpec.ofChange lineChainWrong)

/-- 'counterfoillaw11.LineCommon': WHATEVER THE INPUT: true; the input reads as it did. -/
def lineCommonSpec : ChangeSpec := { name := "lineCommon", fn := fun _ => fun
  | [d1, d2] => { results := [.lit (.bool true)], args := [d1, d2] }
  | _ => none }
def lineCommonRow : OpenClaim := { program := "ytlkfmmjoiadoiaa", sum := "fdf4f426039885ea6d06bc002332d70560c220ac3ea2d231d0be7a497e3f7f10", func := "counterfoil/counterfoillaw11.LineCommon", spec := "lineCommon", unfollowed := true, recurses := true, apart := false }
def LineCommonSaid : Prop := lineCommonRow.holds Try.pinned (OpenSpec.ofChange lineCommonSpec)

/-- ITS FALSE NEIGHBOUR: 'it returns false'. Refute it at one input. -/
def lineCommonWrong : ChangeSpec := { name := "lineCommon", fn := fun _ => fun
  | [d1, d2] => { results := [.lit (.bool false)], args := [d1, d2] }
  | _ => none }
def LineCommonWrongFalsely : Prop := lineCommonRow.holds Try.pinned (OpenSpec.ofChange lineCommonWrong)

/-- 'counterfoillaw11.LineSelf': WHATEVER THE INPUT: true; the input reads as it did. -/
def lineSelfSpec : ChangeSpec := { name := "lineSelf", fn := fun _ => fun
  | [d] => { results := [.lit (.bool true)], args := [d] }
  | _ => none }
def lineSelfRow : OpenClaim := { program := "ytlkfmmjoiadoiaa", sum := "fdf4f426039885ea6d06bc002332d70560c220ac3ea2d231d0be7a497e3f7f10", func := "counterfoil/counterfoillaw11.LineSelf", spec := "lineSelf", unfollowed := true, recurses := true, apart := false }
def LineSelfSaid : Prop := lineSelfRow.holds Try.pinned (OpenSpec.ofChange lineSelfSpec)

/-- ITS FALSE NEIGHBOUR: 'it returns false'. Refute it at one input. -/
def lineSelfWrong : ChangeSpec := { name := "lineSelf", fn := fun _ => fun
  | [d] => { results := [.lit (.bool false)], args := [d] }
  | _ => none }
def LineSelfWrongFalsely : Prop := lineSelfRow.holds Try.pinned (OpenSpec.ofChange lineSelfWrong)

/-- 'counterfoillaw16.WiresBack': WHATEVER THE INPUT: true; the input reads as it did. -/
def wiresBackSpec : ChangeSpec := { name := "wiresBack", fn := fun _ => fun
  | [d1, d2, d3, d4] => { results := [.lit (.bool true)], args := [d1, d2, d3, d4] }
  | _ => none }
def wiresBackRow : OpenClaim := { program := "ytlkfmmjoiadoiaa", sum := "fdf4f426039885ea6d06bc002332d70560c220ac3ea2d231d0be7a497e3f7f10", func := "counterfoil/counterfoillaw16.WiresBack", spec := "wiresBack", unfollowed := true, recurses := true, apart := false }
def WiresBackSaid : Prop := wiresBackRow.holds Try.pinned (OpenSpec.ofChange wiresBackSpec)

/-- ITS FALSE NEIGHBOUR: 'it returns false'. Refute it at one input. -/
def wiresBackWrong : ChangeSpec := { name := "wiresBack", fn := fun _ => fun
  | [d1, d2, d3, d4] => { results := [.lit (.bool false)], args := [d1, d2, d3, d4] }
  | _ => none }
def WiresBackWrongFalsely : Prop := wiresBackRow.holds Try.pinned (OpenSpec.ofChange wiresBackWrong)

/-- 'counterfoillaw11.LineGrows': WHATEVER THE INPUT: true; the input reads as it did. -/
def lineGrowsSpec : ChangeSpec := { name := "lineGrows", fn := fun _ => fun
  | [d1, d2, d3] => { results := [.lit (.bool true)], args := [d1, d2, d3] }
  | _ => none }
def lineGrowsRow : OpenClaim := { program := "ytlkfmmjoiadoiaa", sum := "fdf4f426039885ea6d06bc002332d70560c220ac3ea2d231d0be7a497e3f7f10", func := "counterfoil/counterfoillaw11.LineGrows", spec := "lineGrows", unfollowed := true, recurses := true, apart := false }
def LineGrowsSaid : Prop := lineGrowsRow.holds Try.pinned (OpenSpec.ofChange lineGrowsSpec)

/-- ITS FALSE NEIGHBOUR: 'it returns false'. Refute it at one input. -/
def lineGrowsWrong : ChangeSpec := { name := "lineGrows", fn := fun _ => fun
  | [d1, d2, d3] => { results := [.lit (.bool false)], args := [d1, d2, d3] }
  | _ => none }
def LineGrowsWrongFalsely : Prop := lineGrowsRow.holds Try.pinned (OpenSpec.ofChange lineGrowsWrong)

/-- 'counterfoillaw11.LineGoes': WHATEVER THE INPUT: true; the input reads as it did. -/
def lineGoesSpec : ChangeSpec := { name := "lineGoes", fn := fun _ => fun
  | [d1, d2, d3] => { results := [.lit (.bool true)], args := [d1, d2, d3] }
  | _ => none }
def lineGoesRow : OpenClaim := { program := "ytlkfmmjoiadoiaa", sum := "fdf4f426039885ea6d06bc002332d70560c220ac3ea2d231d0be7a497e3f7f10", func := "counterfoil/counterfoillaw11.LineGoes", spec := "lineGoes", unfollowed := true, recurses := true, apart := false }
def LineGoesSaid : Prop := lineGoesRow.holds Try.pinned (OpenSpec.ofChange lineGoesSpec)

/-- ITS FALSE NEIGHBOUR: 'it returns false'. Refute it at one input. -/
def lineGoesWrong : ChangeSpec := { name := "lineGoes", fn := fun _ => fun
  | [d1, d2, d3] => { results := [.lit (.bool false)], args := [d1, d2, d3] }
  | _ => none }
def LineGoesWrongFalsely : Prop := lineGoesRow.holds Try.pinned (OpenSpec.ofChange lineGoesWrong)

/-- 'counterfoillaw16.WiresTakes': WHATEVER THE INPUT: true; the input reads as it did. -/
def wiresTakesSpec : ChangeSpec := { name := "wiresTakes", fn := fun _ => fun
  | [d1, d2, d3, d4] => { results := [.lit (.bool true)], args := [d1, d2, d3, d4] }
  | _ => none }
def wiresTakesRow : OpenClaim := { program := "ytlkfmmjoiadoiaa", sum := "fdf4f426039885ea6d06bc002332d70560c220ac3ea2d231d0be7a497e3f7f10", func := "counterfoil/counterfoillaw16.WiresTakes", spec := "wiresTakes", unfollowed := true, recurses := true, apart := false }
def WiresTakesSaid : Prop := wiresTakesRow.holds Try.pinned (OpenSpec.ofChange wiresTakesSpec)

/-- ITS FALSE NEIGHBOUR: 'it returns false'. Refute it at one input. -/
def wiresTakesWrong : ChangeSpec := { name := "wiresTakes", fn := fun _ => fun
  | [d1, d2, d3, d4] => { results := [.lit (.bool false)], args := [d1, d2, d3, d4] }
  | _ => none }
def WiresTakesWrongFalsely : Prop := wiresTakesRow.holds Try.pinned (OpenSpec.ofChange wiresTakesWrong)

/- THE SECOND FORM. 'bulk': how many values and letters a reading holds, each counted each time it is reached (what is shared counts as often as it is met; a slice's spare places count too). A statement '..UptoSaid' is the law's where the arguments, and the package variables that the reading takes, are together of bulk at most 1048576: NARROWER than '..Said'. Prove '..Said' where nothing that the law and all that it calls make is longer than what came in: it says more and counts as full. Else prove '..UptoSaid'. A law counts once. -/
mutual
def uptoBulk {H : Type} : DataW H → Nat
  | .lit (.string bytes) => bytes.length + 1
  | .lit _ => 1
  | .nil => 1
  | .ptr d => uptoBulk d + 1
  | .slice elems spare => uptoBulkAll elems + uptoBulkAll spare + 1
  | .agg parts => uptoBulkAll parts + 1
  | .iface _ d => uptoBulk d + 1
  | .map entries => uptoBulkEntries entries + 1
  | .held _ => 1
def uptoBulkAll {H : Type} : List (DataW H) → Nat
  | [] => 0
  | d :: r => uptoBulk d + uptoBulkAll r
def uptoBulkEntries {H : Type} : List (Lit × DataW H) → Nat
  | [] => 0
  | x :: r => uptoBulkEntry x + uptoBulkEntries r
def uptoBulkEntry {H : Type} : Lit × DataW H → Nat
  | (.string bytes, d) => bytes.length + uptoBulk d + 1
  | (_, d) => uptoBulk d + 1
 end
def uptoSmall : (H : Type) → List (DataW H) → Bool := fun _ ds => decide (uptoBulkAll ds ≤ 1048576)
def OpenSpec.upto (s : _root_.Go.ChangeSpec) : _root_.Go.OpenSpec := { _root_.Go.OpenSpec.ofChange s with cond := some uptoSmall }

/-- 'counterfoillaw16.WiresSends', WHERE WHAT IT READS IS OF BULK AT MOST 1048576: true; the input reads as it did. -/
def wiresSendsUptoRow : OpenClaim := { program := "ytlkfmmjoiadoiaa", sum := "fdf4f426039885ea6d06bc002332d70560c220ac3ea2d231d0be7a497e3f7f10", func := "counterfoil/counterfoillaw16.WiresSends", spec := "wiresSends", unfollowed := true, recurses := true, apart := false, narrowed := true }
def WiresSendsUptoSaid : Prop := wiresSendsUptoRow.holds Try.pinned (OpenSpec.upto wiresSendsSpec)

/-- 'counterfoillaw11.LineEpochs', WHERE WHAT IT READS IS OF BULK AT MOST 1048576: true; the input reads as it did. -/
def lineEpochsUptoRow : OpenClaim := { program := "ytlkfmmjoiadoiaa", sum := "fdf4f426039885ea6d06bc002332d70560c220ac3ea2d231d0be7a497e3f7f10", func := "counterfoil/counterfoillaw11.LineEpochs", spec := "lineEpochs", unfollowed := true, recurses := true, apart := false, narrowed := true }
def LineEpochsUptoSaid : Prop := lineEpochsUptoRow.holds Try.pinned (OpenSpec.upto lineEpochsSpec)

/-- 'counterfoillaw11.LineAgrees', WHERE WHAT IT READS IS OF BULK AT MOST 1048576: true; the input reads as it did. -/
def lineAgreesUptoRow : OpenClaim := { program := "ytlkfmmjoiadoiaa", sum := "fdf4f426039885ea6d06bc002332d70560c220ac3ea2d231d0be7a497e3f7f10", func := "counterfoil/counterfoillaw11.LineAgrees", spec := "lineAgrees", unfollowed := true, recurses := true, apart := false, narrowed := true }
def LineAgreesUptoSaid : Prop := lineAgreesUptoRow.holds Try.pinned (OpenSpec.upto lineAgreesSpec)

/-- 'counterfoillaw11.LineNext', WHERE WHAT IT READS IS OF BULK AT MOST 1048576: true; the input reads as it did. -/
def lineNextUptoRow : OpenClaim := { program := "ytlkfmmjoiadoiaa", sum := "fdf4f426039885ea6d06bc002332d70560c220ac3ea2d231d0be7a497e3f7f10", func := "counterfoil/counterfoillaw11.LineNext", spec := "lineNext", unfollowed := true, recurses := true, apart := false, narrowed := true }
def LineNextUptoSaid : Prop := lineNextUptoRow.holds Try.pinned (OpenSpec.upto lineNextSpec)

/-- 'counterfoillaw11.LineChain', WHERE WHAT IT READS IS OF BULK AT MOST 1048576: true; the input reads as it did. -/
def lineChainUptoRow : OpenClaim := { program := "ytlkfmmjoiadoiaa", sum := "fdf4f426039885ea6d06bc002332d70560c220ac3ea2d231d0be7a497e3f7f10", func := "counterfoil/counterfoillaw11.LineChain", spec := "lineChain", unfollowed := true, recurses := true, apart := false, narrowed := true }
def LineChainUptoSaid : Prop := lineChainUptoRow.holds Try.pinned (OpenSpec.upto lineChainSpec)

/-- 'counterfoillaw11.LineCommon', WHERE WHAT IT READS IS OF BULK AT MOST 1048576: true; the input reads as it did. -/
def lineCommonUptoRow : OpenClaim := { program := "ytlkfmmjoiadoiaa", sum := "fdf4f426039885ea6d06bc002332d70560c220ac3ea2d231d0be7a497e3f7f10", func := "counterfoil/counterfoillaw11.LineCommon", spec := "lineCommon", unfollowed := true, recurses := true, apart := false, narrowed := true }
def LineCommonUptoSaid : Prop := lineCommonUptoRow.holds Try.pinned (OpenSpec.upto lineCommonSpec)

/-- 'counterfoillaw11.LineSelf', WHERE WHAT IT READS IS OF BULK AT MOST 1048576: true; the input reads as it did. -/
def lineSelfUptoRow : OpenClaim := { program := "ytlkfmmjoiadoiaa", sum := "fdf4f426039885ea6d06bc002332d70560c220ac3ea2d231d0be7a497e3f7f10", func := "counterfoil/counterfoillaw11.LineSelf", spec := "lineSelf", unfollowed := true, recurses := true, apart := false, narrowed := true }
def LineSelfUptoSaid : Prop := lineSelfUptoRow.holds Try.pinned (OpenSpec.upto lineSelfSpec)

/-- 'counterfoillaw16.WiresBack', WHERE WHAT IT READS IS OF BULK AT MOST 1048576: true; the input reads as it did. -/
def wiresBackUptoRow : OpenClaim := { program := "ytlkfmmjoiadoiaa", sum := "fdf4f426039885ea6d06bc002332d70560c220ac3ea2d231d0be7a497e3f7f10", func := "counterfoil/counterfoillaw16.WiresBack", spec := "wiresBack", unfollowed := true, recurses := true, apart := false, narrowed := true }
def WiresBackUptoSaid : Prop := wiresBackUptoRow.holds Try.pinned (OpenSpec.upto wiresBackSpec)

/-- 'counterfoillaw11.LineGrows', WHERE WHAT IT READS IS OF BULK AT MOST 1048576: true; the input reads as it did. -/
def lineGrowsUptoRow : OpenClaim := { program := "ytlkfmmjoiadoiaa", sum := "fdf4f426039885ea6d06bc002332d70560c220ac3ea2d231d0be7a497e3f7f10", func := "counterfoil/counterfoillaw11.LineGrows", spec := "lineGrows", unfollowed := true, recurses := true, apart := false, narrowed := true }
def LineGrowsUptoSaid : Prop := lineGrowsUptoRow.holds Try.pinned (OpenSpec.upto lineGrowsSpec)

/-- 'counterfoillaw11.LineGoes', WHERE WHAT IT READS IS OF BULK AT MOST 1048576: true; the input reads as it did. -/
def lineGoesUptoRow : OpenClaim := { program := "ytlkfmmjoiadoiaa", sum := "fdf4f426039885ea6d06bc002332d70560c220ac3ea2d231d0be7a497e3f7f10", func := "counterfoil/counterfoillaw11.LineGoes", spec := "lineGoes", unfollowed := true, recurses := true, apart := false, narrowed := true }
def LineGoesUptoSaid : Prop := lineGoesUptoRow.holds Try.pinned (OpenSpec.upto lineGoesSpec)

/-- 'counterfoillaw16.WiresTakes', WHERE WHAT IT READS IS OF BULK AT MOST 1048576: true; the input reads as it did. -/
def wiresTakesUptoRow : OpenClaim := { program := "ytlkfmmjoiadoiaa", sum := "fdf4f426039885ea6d06bc002332d70560c220ac3ea2d231d0be7a497e3f7f10", func := "counterfoil/counterfoillaw16.WiresTakes", spec := "wiresTakes", unfollowed := true, recurses := true, apart := false, narrowed := true }
def WiresTakesUptoSaid : Prop := wiresTakesUptoRow.holds Try.pinned (OpenSpec.upto wiresTakesSpec)

end Rows
end Go.Proofs.Ytlkfmmjoiadoiaa
