/-
  No cell of these rows narrows 'for every input' (looked for: loops, veiled, ifaces, maps, wideKeys, modest, calm, conditions, laid).
  DERIVED. THE GIVEN ROWS OF THIS SEAT. 4 by the template 'for every input the law returns true; each argument reads behind the call as it read before'; 0 by the template 'total and deterministic' (their statements: YtbcgihkmgmbomaaTotals.lean).
  GIVEN WITH THE SEED: the statements are not yours to turn. If you find one false, say at which input.
  Laid BY PROGRAM, IN A SANDBOX (cutbox-rows.mjs): the forced cells as the released guide's own fill.sh prints them over the translation 3a8e9ed7f7daa2d7… (all of the seat's roots in one cut). By AI agents, Wed Nov 11 2026. No macro, syntax, notation, axiom, sorry.
-/
import Derived.Test.YtbcgihkmgmbomaaChecked
import GoSem.Claim
import GoSem.ClaimJoined
import GoSem.ClaimMapViews
import Derived.JoinedTies
import Derived.KernelRfl
namespace Go.Proofs.Ytbcgihkmgmbomaa
/- THE CELL 'sum', in the pinned program and in every row, IS THE sha256 OF THE DUMP (.gsa) THAT YtbcgihkmgmbomaaProg.lean LOADS. Nothing in Lean hashes anything: it is a label: what it is worth is what the hold of that sum in a sandbox is worth. -/
noncomputable def Try.pinned : Pinned := { name := "ytbcgihkmgmbomaa", sum := "3a8e9ed7f7daa2d7d44cfa7ed2518c9f52398c4c86ea7d91328d956090d873d4", checked := Try.checked }
namespace Rows
def none {H : Type} : Left H := { results := [], args := [] }

/-- 'signalmanlaw19.ShapeChecks': WHATEVER THE INPUT: true; the input reads as it did. -/
def shapeChecksSpec : ChangeSpec := { name := "shapeChecks", fn := fun _ => fun
  | [d] => { results := [.lit (.bool true)], args := [d] }
  | _ => none }
def shapeChecksRow : OpenClaim := { program := "ytbcgihkmgmbomaa", sum := "3a8e9ed7f7daa2d7d44cfa7ed2518c9f52398c4c86ea7d91328d956090d873d4", func := "signalman/signalmanlaw19.ShapeChecks", spec := "shapeChecks", apart := false }
def ShapeChecksSaid : Prop := shapeChecksRow.holds Try.pinned (OpenSpec.ofChange shapeChecksSpec)

/-- ITS FALSE NEIGHBOUR: 'it returns false'. Refute it at one input. -/
def shapeChecksWrong : ChangeSpec := { name := "shapeChecks", fn := fun _ => fun
  | [d] => { results := [.lit (.bool false)], args := [d] }
  | _ => none }
def ShapeChecksWrongFalsely : Prop := shapeChecksRow.holds Try.pinned (OpenSpec.ofChange shapeChecksWrong)

/-- 'signalmanlaw23.BoundSteps': WHATEVER THE INPUT: true; the input reads as it did. -/
def boundStepsSpec : ChangeSpec := { name := "boundSteps", fn := fun _ => fun
  | [d1, d2] => { results := [.lit (.bool true)], args := [d1, d2] }
  | _ => none }
def boundStepsRow : OpenClaim := { program := "ytbcgihkmgmbomaa", sum := "3a8e9ed7f7daa2d7d44cfa7ed2518c9f52398c4c86ea7d91328d956090d873d4", func := "signalman/signalmanlaw23.BoundSteps", spec := "boundSteps", apart := false }
def BoundStepsSaid : Prop := boundStepsRow.holds Try.pinned (OpenSpec.ofChange boundStepsSpec)

/-- ITS FALSE NEIGHBOUR: 'it returns false'. Refute it at one input. -/
def boundStepsWrong : ChangeSpec := { name := "boundSteps", fn := fun _ => fun
  | [d1, d2] => { results := [.lit (.bool false)], args := [d1, d2] }
  | _ => none }
def BoundStepsWrongFalsely : Prop := boundStepsRow.holds Try.pinned (OpenSpec.ofChange boundStepsWrong)

/-- 'signalmanlaw23.BoundTells': WHATEVER THE INPUT: true; the input reads as it did. -/
def boundTellsSpec : ChangeSpec := { name := "boundTells", fn := fun _ => fun
  | [d1, d2, d3] => { results := [.lit (.bool true)], args := [d1, d2, d3] }
  | _ => none }
def boundTellsRow : OpenClaim := { program := "ytbcgihkmgmbomaa", sum := "3a8e9ed7f7daa2d7d44cfa7ed2518c9f52398c4c86ea7d91328d956090d873d4", func := "signalman/signalmanlaw23.BoundTells", spec := "boundTells", apart := false }
def BoundTellsSaid : Prop := boundTellsRow.holds Try.pinned (OpenSpec.ofChange boundTellsSpec)

/-- ITS FALSE NEIGHBOUR: 'it returns false'. Refute it at one input. -/
def boundTellsWrong : ChangeSpec := { name := "boundTells", fn := fun _ => fun
  | [d1, d2, d3] => { results := [.lit (.bool false)], args := [d1, d2, d3] }
  | _ => none }
def BoundTellsWrongFalsely : Prop := boundTellsRow.holds Try.pinned (OpenSpec.ofChange boundTellsWrong)

/-- 'signalmanlaw23.BoundGrows': WHATEVER THE INPUT: true; the input reads as it did. -/
def boundGrowsSpec : ChangeSpec := { name := "boundGrows", fn := fun _ => fun
  | [d1, d2] => { results := [.lit (.bool true)], args := [d1, d2] }
  | _ => none }
def boundGrowsRow : OpenClaim := { program := "ytbcgihkmgmbomaa", sum := "3a8e9ed7f7daa2d7d44cfa7ed2518c9f52398c4c86ea7d91328d956090d873d4", func := "signalman/signalmanlaw23.BoundGrows", spec := "boundGrows", apart := false }
def BoundGrowsSaid : Prop := boundGrowsRow.holds Try.pinned (OpenSpec.ofChange boundGrowsSpec)

/-- ITS FALSE NEIGHBOUR: 'it returns false'. Refute it at one input. -/
def boundGrowsWrong : ChangeSpec := { name := "boundGrows", fn := fun _ => fun
  | [d1, d2] => { results := [.lit (.bool false)], args := [d1, d2] }
  | _ => none }
def BoundGrowsWrongFalsely : Prop := boundGrowsRow.holds Try.pinned (OpenSpec.ofChange boundGrowsWrong)

/- THE SECOND FORM. 'bulk': how many values and letters a reading holds, each counted each time it is reached (what is shared counts as often as it is met; a slice's spare places count too). A statement '..UptoSaid' is the law's where the arguments, and the package variables that the reading takes, are together of bulk at most 1048576: NARROWER than '..Said'. Prove '..Said' where nothing that the law and all that it calls make is longer than what came in: it says more and counts as full. Else prove '..UptoSaid'. A law counts once. -/
mutual
def uptoBulk {H : Type} : DataW H → Nat
  | .lit (.string bytes) => bytes.length + 1
  | .lit _ => 1
  | .nil => 1
  | .ptr d => uptoBulk d + 1
  | .slice elems spare => uptoBulkAll elems + uptoBulkAll spare + 1
  | .agg parts => uptoBulkAll parts + 1
  | .iface _ d => uptoBulk d + 1
  | .map entries => uptoBulkEntries entries + 1
  | .held _ => 1
def uptoBulkAll {H : Type} : List (DataW H) → Nat
  | [] => 0
  | d :: r => uptoBulk d + uptoBulkAll r
def uptoBulkEntries {H : Type} : List (Lit × DataW H) → Nat
  | [] => 0
  | x :: r => uptoBulkEntry x + uptoBulkEntries r
def uptoBulkEntry {H : Type} : Lit × DataW H → Nat
  | (.string bytes, d) => bytes.length + uptoBulk d + 1
  | (_, d) => uptoBulk d + 1
 end
def uptoSmall : (H : Type) → List (DataW H) → Bool := fun _ ds => decide (uptoBulkAll ds ≤ 1048576)
def OpenSpec.upto (s : _root_.Go.ChangeSpec) : _root_.Go.OpenSpec := { _root_.Go.OpenSpec.ofChange s with cond := some uptoSmall }

/-- 'signalmanlaw19.ShapeChecks', WHERE WHAT IT READS IS OF BULK AT MOST 1048576: true; the input reads as it did. -/
def shapeChecksUptoRow : OpenClaim := { program := "ytbcgihkmgmbomaa", sum := "3a8e9ed7f7daa2d7d44cfa7ed2518c9f52398c4c86ea7d91328d956090d873d4", func := "signalman/signalmanlaw19.ShapeChecks", spec := "shapeChecks", apart := false, narrowed := true }
def ShapeChecksUptoSaid : Prop := shapeChecksUptoRow.holds Try.pinned (OpenSpec.upto shapeChecksSpec)

/-- 'signalmanlaw23.BoundSteps', WHERE WHAT IT READS IS OF BULK AT MOST 1048576: true; the input reads as it did. -/
def boundStepsUptoRow : OpenClaim := { program := "ytbcgihkmgmbomaa", sum := "3a8e9ed7f7daa2d7d44cfa7ed2518c9f52398c4c86ea7d91328d956090d873d4", func := "signalman/signalmanlaw23.BoundSteps", spec := "boundSteps", apart := false, narrowed := true }
def BoundStepsUptoSaid : Prop := boundStepsUptoRow.holds Try.pinned (OpenSpec.upto boundStepsSpec)

/-- 'signalmanlaw23.BoundTells', WHERE WHAT IT READS IS OF BULK AT MOST 1048576: true; the input reads as it did. -/
def boundTellsUptoRow : OpenClaim := { program := "ytbcgihkmgmbomaa", sum := "3a8e9ed7f7daa2d7d44cfa7ed2518c9f52398c4c86ea7d91328d956090d873d4", func := "signalman/signalmanlaw23.BoundTells", spec := "boundTells", apart := false, narrowed := true }
def BoundTellsUptoSaid : Prop := boundTellsUptoRow.holds Try.pinned (OpenSpec.upto boundTellsSpec)

/-- 'signalmanlaw23.BoundGrows', WHERE WHAT IT READS IS OF BULK AT MOST 1048576: true; the input reads as it did. -/
def boundGrowsUptoRow : OpenClaim := { program := "ytbcgihkmgmbomaa", sum := "3a8e9ed7f7daa2d7d44cfa7ed2518c9f52398c4c86ea7d91328d956090d873d4", func := "signalman/signalmanlaw23.BoundGrows", spec := "boundGrows", apart := false, narrowed := true }
def BoundGrowsUptoSaid : Prop := boundGrowsUptoRow.holds Try.pinned (OpenSpec.upto boundGrowsSpec)

end Rows
end Go.Proofs.Ytbcgihkmgmbomaa
