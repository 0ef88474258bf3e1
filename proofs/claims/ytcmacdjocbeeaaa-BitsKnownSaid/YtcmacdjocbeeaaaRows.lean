/-
  No cell of these rows narrows 'for every input' (looked for: loops, veiled, ifaces, maps, wideKeys, modest, calm, conditions, laid).
  DERIVED. THE GIVEN ROWS OF THIS SEAT. 5 by the template 'for every input the law returns true; each argument reads behind the call as it read before'; 0 by the template 'total and deterministic' (their statements: YtcmacdjocbeeaaaTotals.lean).
  GIVEN WITH THE SEED: the statements are not yours to turn. If you find one false, say at which input.
  Laid BY PROGRAM, IN A SANDBOX (cutbox-rows.mjs): the forced cells as the released guide's own fill.sh prints them over the translation 774dc920de96a198… (all of the seat's roots in one cut). By AI agents, Wed Nov 11 2026. No macro, syntax, notation, axiom, sorry.
-/
import Derived.Test.YtcmacdjocbeeaaaChecked
import GoSem.Claim
import GoSem.ClaimJoined
import GoSem.ClaimMapViews
import Derived.JoinedTies
import Derived.KernelRfl
namespace Go.Proofs.Ytcmacdjocbeeaaa
/- THE CELL 'sum', in the pinned program and in every row, IS THE sha256 OF THE DUMP (.gsa) THAT YtcmacdjocbeeaaaProg.lean LOADS. Nothing in Lean hashes anything: it is a label: what it is worth is what the hold of that sum in a sandbox is worth. -/
noncomputable def Try.pinned : Pinned := { name := "ytcmacdjocbeeaaa", sum := "774dc920de96a1981535a2c9649c5df68aeae5dee4a2fc4b38174c6c5a895b57", checked := Try.checked }
namespace Rows
def none {H : Type} : Left H := { results := [], args := [] }

/-- 'signalmanlaw4.BitsFlags': WHATEVER THE INPUT: true; the input reads as it did. -/
def bitsFlagsSpec : ChangeSpec := { name := "bitsFlags", fn := fun _ => fun
  | [d] => { results := [.lit (.bool true)], args := [d] }
  | _ => none }
def bitsFlagsRow : OpenClaim := { program := "ytcmacdjocbeeaaa", sum := "774dc920de96a1981535a2c9649c5df68aeae5dee4a2fc4b38174c6c5a895b57", func := "signalman/signalmanlaw4.BitsFlags", spec := "bitsFlags", apart := false }
def BitsFlagsSaid : Prop := bitsFlagsRow.holds Try.pinned (OpenSpec.ofChange bitsFlagsSpec)

/-- ITS FALSE NEIGHBOUR: 'it returns false'. Refute it at one input. -/
def bitsFlagsWrong : ChangeSpec := { name := "bitsFlags", fn := fun _ => fun
  | [d] => { results := [.lit (.bool false)], args := [d] }
  | _ => none }
def BitsFlagsWrongFalsely : Prop := bitsFlagsRow.holds Try.pinned (OpenSpec.ofChange bitsFlagsWrong)

/-- 'signalmanlaw4.BitsAborts': WHATEVER THE INPUT: true; the input reads as it did. -/
def bitsAbortsSpec : ChangeSpec := { name := "bitsAborts", fn := fun _ => fun
  | [d1, d2] => { results := [.lit (.bool true)], args := [d1, d2] }
  | _ => none }
def bitsAbortsRow : OpenClaim := { program := "ytcmacdjocbeeaaa", sum := "774dc920de96a1981535a2c9649c5df68aeae5dee4a2fc4b38174c6c5a895b57", func := "signalman/signalmanlaw4.BitsAborts", spec := "bitsAborts", apart := false }
def BitsAbortsSaid : Prop := bitsAbortsRow.holds Try.pinned (OpenSpec.ofChange bitsAbortsSpec)

/-- ITS FALSE NEIGHBOUR: 'it returns false'. Refute it at one input. -/
def bitsAbortsWrong : ChangeSpec := { name := "bitsAborts", fn := fun _ => fun
  | [d1, d2] => { results := [.lit (.bool false)], args := [d1, d2] }
  | _ => none }
def BitsAbortsWrongFalsely : Prop := bitsAbortsRow.holds Try.pinned (OpenSpec.ofChange bitsAbortsWrong)

/-- 'signalmanlaw4.BitsKnown': WHATEVER THE INPUT: true; the input reads as it did. -/
def bitsKnownSpec : ChangeSpec := { name := "bitsKnown", fn := fun _ => fun
  | [d] => { results := [.lit (.bool true)], args := [d] }
  | _ => none }
def bitsKnownRow : OpenClaim := { program := "ytcmacdjocbeeaaa", sum := "774dc920de96a1981535a2c9649c5df68aeae5dee4a2fc4b38174c6c5a895b57", func := "signalman/signalmanlaw4.BitsKnown", spec := "bitsKnown", apart := false }
def BitsKnownSaid : Prop := bitsKnownRow.holds Try.pinned (OpenSpec.ofChange bitsKnownSpec)

/-- ITS FALSE NEIGHBOUR: 'it returns false'. Refute it at one input. -/
def bitsKnownWrong : ChangeSpec := { name := "bitsKnown", fn := fun _ => fun
  | [d] => { results := [.lit (.bool false)], args := [d] }
  | _ => none }
def BitsKnownWrongFalsely : Prop := bitsKnownRow.holds Try.pinned (OpenSpec.ofChange bitsKnownWrong)

/-- 'signalmanlaw4.BitsRows': WHATEVER THE INPUT: true; the input reads as it did. -/
def bitsRowsSpec : ChangeSpec := { name := "bitsRows", fn := fun _ => fun
  | [d] => { results := [.lit (.bool true)], args := [d] }
  | _ => none }
def bitsRowsRow : OpenClaim := { program := "ytcmacdjocbeeaaa", sum := "774dc920de96a1981535a2c9649c5df68aeae5dee4a2fc4b38174c6c5a895b57", func := "signalman/signalmanlaw4.BitsRows", spec := "bitsRows", apart := false }
def BitsRowsSaid : Prop := bitsRowsRow.holds Try.pinned (OpenSpec.ofChange bitsRowsSpec)

/-- ITS FALSE NEIGHBOUR: 'it returns false'. Refute it at one input. -/
def bitsRowsWrong : ChangeSpec := { name := "bitsRows", fn := fun _ => fun
  | [d] => { results := [.lit (.bool false)], args := [d] }
  | _ => none }
def BitsRowsWrongFalsely : Prop := bitsRowsRow.holds Try.pinned (OpenSpec.ofChange bitsRowsWrong)

/-- 'signalmanlaw4.BitsStuff': WHATEVER THE INPUT: true; the input reads as it did. -/
def bitsStuffSpec : ChangeSpec := { name := "bitsStuff", fn := fun _ => fun
  | [d] => { results := [.lit (.bool true)], args := [d] }
  | _ => none }
def bitsStuffRow : OpenClaim := { program := "ytcmacdjocbeeaaa", sum := "774dc920de96a1981535a2c9649c5df68aeae5dee4a2fc4b38174c6c5a895b57", func := "signalman/signalmanlaw4.BitsStuff", spec := "bitsStuff", apart := false }
def BitsStuffSaid : Prop := bitsStuffRow.holds Try.pinned (OpenSpec.ofChange bitsStuffSpec)

/-- ITS FALSE NEIGHBOUR: 'it returns false'. Refute it at one input. -/
def bitsStuffWrong : ChangeSpec := { name := "bitsStuff", fn := fun _ => fun
  | [d] => { results := [.lit (.bool false)], args := [d] }
  | _ => none }
def BitsStuffWrongFalsely : Prop := bitsStuffRow.holds Try.pinned (OpenSpec.ofChange bitsStuffWrong)

/- THE SECOND FORM. 'bulk': how many values and letters a reading holds, each counted each time it is reached (what is shared counts as often as it is met; a slice's spare places count too). A statement '..UptoSaid' is the law's where the arguments, and the package variables that the reading takes, are together of bulk at most 1048576: NARROWER than '..Said'. Prove '..Said' where nothing that the law and all that it calls make is longer than what came in: it says more and counts as full. Else prove '..UptoSaid'. A law counts once. -/
mutual
def uptoBulk {H : Type} : DataW H → Nat
  | .lit (.string bytes) => bytes.length + 1
  | .lit _ => 1
  | .nil => 1
  | .ptr d => uptoBulk d + 1
  | .slice elems spare => uptoBulkAll elems + uptoBulkAll spare + 1
  | .agg parts => uptoBulkAll parts + 1
  | .iface _ d => uptoBulk d + 1
  | .map entries => uptoBulkEntries entries + 1
  | .held _ => 1
def uptoBulkAll {H : Type} : List (DataW H) → Nat
  | [] => 0
  | d :: r => uptoBulk d + uptoBulkAll r
def uptoBulkEntries {H : Type} : List (Lit × DataW H) → Nat
  | [] => 0
  | x :: r => uptoBulkEntry x + uptoBulkEntries r
def uptoBulkEntry {H : Type} : Lit × DataW H → Nat
  | (.string bytes, d) => bytes.length + uptoBulk d + 1
  | (_, d) => uptoBulk d + 1
 end
def uptoSmall : (H : Type) → List (DataW H) → Bool := fun _ ds => decide (uptoBulkAll ds ≤ 1048576)
def OpenSpec.upto (s : _root_.Go.ChangeSpec) : _root_.Go.OpenSpec := { _root_.Go.OpenSpec.ofChange s with cond := some uptoSmall }

/-- 'signalmanlaw4.BitsFlags', WHERE WHAT IT READS IS OF BULK AT MOST 1048576: true; the input reads as it did. -/
def bitsFlagsUptoRow : OpenClaim := { program := "ytcmacdjocbeeaaa", sum := "774dc920de96a1981535a2c9649c5df68aeae5dee4a2fc4b38174c6c5a895b57", func := "signalman/signalmanlaw4.BitsFlags", spec := "bitsFlags", apart := false, narrowed := true }
def BitsFlagsUptoSaid : Prop := bitsFlagsUptoRow.holds Try.pinned (OpenSpec.upto bitsFlagsSpec)

/-- 'signalmanlaw4.BitsAborts', WHERE WHAT IT READS IS OF BULK AT MOST 1048576: true; the input reads as it did. -/
def bitsAbortsUptoRow : OpenClaim := { program := "ytcmacdjocbeeaaa", sum := "774dc920de96a1981535a2c9649c5df68aeae5dee4a2fc4b38174c6c5a895b57", func := "signalman/signalmanlaw4.BitsAborts", spec := "bitsAborts", apart := false, narrowed := true }
def BitsAbortsUptoSaid : Prop := bitsAbortsUptoRow.holds Try.pinned (OpenSpec.upto bitsAbortsSpec)

/-- 'signalmanlaw4.BitsKnown', WHERE WHAT IT READS IS OF BULK AT MOST 1048576: true; the input reads as it did. -/
def bitsKnownUptoRow : OpenClaim := { program := "ytcmacdjocbeeaaa", sum := "774dc920de96a1981535a2c9649c5df68aeae5dee4a2fc4b38174c6c5a895b57", func := "signalman/signalmanlaw4.BitsKnown", spec := "bitsKnown", apart := false, narrowed := true }
def BitsKnownUptoSaid : Prop := bitsKnownUptoRow.holds Try.pinned (OpenSpec.upto bitsKnownSpec)

/-- 'signalmanlaw4.BitsRows', WHERE WHAT IT READS IS OF BULK AT MOST 1048576: true; the input reads as it did. -/
def bitsRowsUptoRow : OpenClaim := { program := "ytcmacdjocbeeaaa", sum := "774dc920de96a1981535a2c9649c5df68aeae5dee4a2fc4b38174c6c5a895b57", func := "signalman/signalmanlaw4.BitsRows", spec := "bitsRows", apart := false, narrowed := true }
def BitsRowsUptoSaid : Prop := bitsRowsUptoRow.holds Try.pinned (OpenSpec.upto bitsRowsSpec)

/-- 'signalmanlaw4.BitsStuff', WHERE WHAT IT READS IS OF BULK AT MOST 1048576: true; the input reads as it did. -/
def bitsStuffUptoRow : OpenClaim := { program := "ytcmacdjocbeeaaa", sum := "774dc920de96a1981535a2c9649c5df68aeae5dee4a2fc4b38174c6c5a895b57", func := "signalman/signalmanlaw4.BitsStuff", spec := "bitsStuff", apart := false, narrowed := true }
def BitsStuffUptoSaid : Prop := bitsStuffUptoRow.holds Try.pinned (OpenSpec.upto bitsStuffSpec)

end Rows
end Go.Proofs.Ytcmacdjocbeeaaa
