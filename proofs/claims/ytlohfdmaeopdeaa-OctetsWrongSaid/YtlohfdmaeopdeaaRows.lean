/-
  No cell of these rows narrows 'for every input' (looked for: loops, veiled, ifaces, maps, wideKeys, modest, calm, conditions, laid).
  DERIVED. THE GIVEN ROWS OF THIS SEAT. 5 by the template 'for every input the law returns true; each argument reads behind the call as it read before'; 0 by the template 'total and deterministic' (their statements: YtlohfdmaeopdeaaTotals.lean).
  GIVEN WITH THE SEED: the statements are not yours to turn. If you find one false, say at which input.
  Laid BY PROGRAM, IN A SANDBOX (cutbox-rows.mjs): the forced cells as the released guide's own fill.sh prints them over the translation 8f9951b892fd9425… (all of the seat's roots in one cut). By AI agents, Wed Nov 11 2026. No macro, syntax, notation, axiom, sorry.
-/
import Derived.Test.YtlohfdmaeopdeaaChecked
import GoSem.Claim
import GoSem.ClaimJoined
import GoSem.ClaimMapViews
import Derived.JoinedTies
import Derived.KernelRfl
namespace Go.Proofs.Ytlohfdmaeopdeaa
/- THE CELL 'sum', in the pinned program and in every row, IS THE sha256 OF THE DUMP (.gsa) THAT YtlohfdmaeopdeaaProg.lean LOADS. Nothing in Lean hashes anything: it is a label: what it is worth is what the hold of that sum in a sandbox is worth. -/
noncomputable def Try.pinned : Pinned := { name := "ytlohfdmaeopdeaa", sum := "8f9951b892fd94252840e69342d9f4906547debc7122bcb07bee54b1e2db70a5", checked := Try.checked }
namespace Rows
def none {H : Type} : Left H := { results := [], args := [] }

/-- 'signalmanlaw3.OctetsStuff': WHATEVER THE INPUT: true; the input reads as it did. -/
def octetsStuffSpec : ChangeSpec := { name := "octetsStuff", fn := fun _ => fun
  | [d] => { results := [.lit (.bool true)], args := [d] }
  | _ => none }
def octetsStuffRow : OpenClaim := { program := "ytlohfdmaeopdeaa", sum := "8f9951b892fd94252840e69342d9f4906547debc7122bcb07bee54b1e2db70a5", func := "signalman/signalmanlaw3.OctetsStuff", spec := "octetsStuff", apart := false }
def OctetsStuffSaid : Prop := octetsStuffRow.holds Try.pinned (OpenSpec.ofChange octetsStuffSpec)

/-- ITS FALSE NEIGHBOUR: 'it returns false'. Refute it at one input. -/
def octetsStuffWrong : ChangeSpec := { name := "octetsStuff", fn := fun _ => fun
  | [d] => { results := [.lit (.bool false)], args := [d] }
  | _ => none }
def OctetsStuffWrongFalsely : Prop := octetsStuffRow.holds Try.pinned (OpenSpec.ofChange octetsStuffWrong)

/-- 'signalmanlaw3.OctetsUnstuff': WHATEVER THE INPUT: true; the input reads as it did. -/
def octetsUnstuffSpec : ChangeSpec := { name := "octetsUnstuff", fn := fun _ => fun
  | [d] => { results := [.lit (.bool true)], args := [d] }
  | _ => none }
def octetsUnstuffRow : OpenClaim := { program := "ytlohfdmaeopdeaa", sum := "8f9951b892fd94252840e69342d9f4906547debc7122bcb07bee54b1e2db70a5", func := "signalman/signalmanlaw3.OctetsUnstuff", spec := "octetsUnstuff", apart := false }
def OctetsUnstuffSaid : Prop := octetsUnstuffRow.holds Try.pinned (OpenSpec.ofChange octetsUnstuffSpec)

/-- ITS FALSE NEIGHBOUR: 'it returns false'. Refute it at one input. -/
def octetsUnstuffWrong : ChangeSpec := { name := "octetsUnstuff", fn := fun _ => fun
  | [d] => { results := [.lit (.bool false)], args := [d] }
  | _ => none }
def OctetsUnstuffWrongFalsely : Prop := octetsUnstuffRow.holds Try.pinned (OpenSpec.ofChange octetsUnstuffWrong)

/-- 'signalmanlaw3.OctetsParts': WHATEVER THE INPUT: true; the input reads as it did. -/
def octetsPartsSpec : ChangeSpec := { name := "octetsParts", fn := fun _ => fun
  | [d1, d2] => { results := [.lit (.bool true)], args := [d1, d2] }
  | _ => none }
def octetsPartsRow : OpenClaim := { program := "ytlohfdmaeopdeaa", sum := "8f9951b892fd94252840e69342d9f4906547debc7122bcb07bee54b1e2db70a5", func := "signalman/signalmanlaw3.OctetsParts", spec := "octetsParts", apart := false }
def OctetsPartsSaid : Prop := octetsPartsRow.holds Try.pinned (OpenSpec.ofChange octetsPartsSpec)

/-- ITS FALSE NEIGHBOUR: 'it returns false'. Refute it at one input. -/
def octetsPartsWrong : ChangeSpec := { name := "octetsParts", fn := fun _ => fun
  | [d1, d2] => { results := [.lit (.bool false)], args := [d1, d2] }
  | _ => none }
def OctetsPartsWrongFalsely : Prop := octetsPartsRow.holds Try.pinned (OpenSpec.ofChange octetsPartsWrong)

/-- 'signalmanlaw3.OctetsCount': WHATEVER THE INPUT: true; the input reads as it did. -/
def octetsCountSpec : ChangeSpec := { name := "octetsCount", fn := fun _ => fun
  | [d] => { results := [.lit (.bool true)], args := [d] }
  | _ => none }
def octetsCountRow : OpenClaim := { program := "ytlohfdmaeopdeaa", sum := "8f9951b892fd94252840e69342d9f4906547debc7122bcb07bee54b1e2db70a5", func := "signalman/signalmanlaw3.OctetsCount", spec := "octetsCount", apart := false }
def OctetsCountSaid : Prop := octetsCountRow.holds Try.pinned (OpenSpec.ofChange octetsCountSpec)

/-- ITS FALSE NEIGHBOUR: 'it returns false'. Refute it at one input. -/
def octetsCountWrong : ChangeSpec := { name := "octetsCount", fn := fun _ => fun
  | [d] => { results := [.lit (.bool false)], args := [d] }
  | _ => none }
def OctetsCountWrongFalsely : Prop := octetsCountRow.holds Try.pinned (OpenSpec.ofChange octetsCountWrong)

/-- 'signalmanlaw3.OctetsWrong': WHATEVER THE INPUT: true; the input reads as it did. -/
def octetsWrongSpec : ChangeSpec := { name := "octetsWrong", fn := fun _ => fun
  | [d] => { results := [.lit (.bool true)], args := [d] }
  | _ => none }
def octetsWrongRow : OpenClaim := { program := "ytlohfdmaeopdeaa", sum := "8f9951b892fd94252840e69342d9f4906547debc7122bcb07bee54b1e2db70a5", func := "signalman/signalmanlaw3.OctetsWrong", spec := "octetsWrong", apart := false }
def OctetsWrongSaid : Prop := octetsWrongRow.holds Try.pinned (OpenSpec.ofChange octetsWrongSpec)

/-- ITS FALSE NEIGHBOUR: 'it returns false'. Refute it at one input. -/
def octetsWrongWrong : ChangeSpec := { name := "octetsWrong", fn := fun _ => fun
  | [d] => { results := [.lit (.bool false)], args := [d] }
  | _ => none }
def OctetsWrongWrongFalsely : Prop := octetsWrongRow.holds Try.pinned (OpenSpec.ofChange octetsWrongWrong)

/- THE SECOND FORM. 'bulk': how many values and letters a reading holds, each counted each time it is reached (what is shared counts as often as it is met; a slice's spare places count too). A statement '..UptoSaid' is the law's where the arguments, and the package variables that the reading takes, are together of bulk at most 1048576: NARROWER than '..Said'. Prove '..Said' where nothing that the law and all that it calls make is longer than what came in: it says more and counts as full. Else prove '..UptoSaid'. A law counts once. -/
mutual
def uptoBulk {H : Type} : DataW H → Nat
  | .lit (.string bytes) => bytes.length + 1
  | .lit _ => 1
  | .nil => 1
  | .ptr d => uptoBulk d + 1
  | .slice elems spare => uptoBulkAll elems + uptoBulkAll spare + 1
  | .agg parts => uptoBulkAll parts + 1
  | .iface _ d => uptoBulk d + 1
  | .map entries => uptoBulkEntries entries + 1
  | .held _ => 1
def uptoBulkAll {H : Type} : List (DataW H) → Nat
  | [] => 0
  | d :: r => uptoBulk d + uptoBulkAll r
def uptoBulkEntries {H : Type} : List (Lit × DataW H) → Nat
  | [] => 0
  | x :: r => uptoBulkEntry x + uptoBulkEntries r
def uptoBulkEntry {H : Type} : Lit × DataW H → Nat
  | (.string bytes, d) => bytes.length + uptoBulk d + 1
  | (_, d) => uptoBulk d + 1
 end
def uptoSmall : (H : Type) → List (DataW H) → Bool := fun _ ds => decide (uptoBulkAll ds ≤ 1048576)
def OpenSpec.upto (s : _root_.Go.ChangeSpec) : _root_.Go.OpenSpec := { _root_.Go.OpenSpec.ofChange s with cond := some uptoSmall }

/-- 'signalmanlaw3.OctetsStuff', WHERE WHAT IT READS IS OF BULK AT MOST 1048576: true; the input reads as it did. -/
def octetsStuffUptoRow : OpenClaim := { program := "ytlohfdmaeopdeaa", sum := "8f9951b892fd94252840e69342d9f4906547debc7122bcb07bee54b1e2db70a5", func := "signalman/signalmanlaw3.OctetsStuff", spec := "octetsStuff", apart := false, narrowed := true }
def OctetsStuffUptoSaid : Prop := octetsStuffUptoRow.holds Try.pinned (OpenSpec.upto octetsStuffSpec)

/-- 'signalmanlaw3.OctetsUnstuff', WHERE WHAT IT READS IS OF BULK AT MOST 1048576: true; the input reads as it did. -/
def octetsUnstuffUptoRow : OpenClaim := { program := "ytlohfdmaeopdeaa", sum := "8f9951b892fd94252840e69342d9f4906547debc7122bcb07bee54b1e2db70a5", func := "signalman/signalmanlaw3.OctetsUnstuff", spec := "octetsUnstuff", apart := false, narrowed := true }
def OctetsUnstuffUptoSaid : Prop := octetsUnstuffUptoRow.holds Try.pinned (OpenSpec.upto octetsUnstuffSpec)

/-- 'signalmanlaw3.OctetsParts', WHERE WHAT IT READS IS OF BULK AT MOST 1048576: true; the input reads as it did. -/
def octetsPartsUptoRow : OpenClaim := { program := "ytlohfdmaeopdeaa", sum := "8f9951b892fd94252840e69342d9f4906547debc7122bcb07bee54b1e2db70a5", func := "signalman/signalmanlaw3.OctetsParts", spec := "octetsParts", apart := false, narrowed := true }
def OctetsPartsUptoSaid : Prop := octetsPartsUptoRow.holds Try.pinned (OpenSpec.upto octetsPartsSpec)

/-- 'signalmanlaw3.OctetsCount', WHERE WHAT IT READS IS OF BULK AT MOST 1048576: true; the input reads as it did. -/
def octetsCountUptoRow : OpenClaim := { program := "ytlohfdmaeopdeaa", sum := "8f9951b892fd94252840e69342d9f4906547debc7122bcb07bee54b1e2db70a5", func := "signalman/signalmanlaw3.OctetsCount", spec := "octetsCount", apart := false, narrowed := true }
def OctetsCountUptoSaid : Prop := octetsCountUptoRow.holds Try.pinned (OpenSpec.upto octetsCountSpec)

/-- 'signalmanlaw3.OctetsWrong', WHERE WHAT IT READS IS OF BULK AT MOST 1048576: true; the input reads as it did. -/
def octetsWrongUptoRow : OpenClaim := { program := "ytlohfdmaeopdeaa", sum := "8f9951b892fd94252840e69342d9f4906547debc7122bcb07bee54b1e2db70a5", func := "signalman/signalmanlaw3.OctetsWrong", spec := "octetsWrong", apart := false, narrowed := true }
def OctetsWrongUptoSaid : Prop := octetsWrongUptoRow.holds Try.pinned (OpenSpec.upto octetsWrongSpec)

end Rows
end Go.Proofs.Ytlohfdmaeopdeaa
