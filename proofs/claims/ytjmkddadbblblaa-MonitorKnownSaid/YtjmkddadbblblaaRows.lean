/-
  No cell of these rows narrows 'for every input' (looked for: loops, veiled, ifaces, maps, wideKeys, modest, calm, conditions, laid).
  DERIVED. THE GIVEN ROWS OF THIS SEAT. 5 by the template 'for every input the law returns true; each argument reads behind the call as it read before'; 0 by the template 'total and deterministic' (their statements: YtjmkddadbblblaaTotals.lean).
  GIVEN WITH THE SEED: the statements are not yours to turn. If you find one false, say at which input.
  Laid BY PROGRAM, IN A SANDBOX (cutbox-rows.mjs): the forced cells as the released guide's own fill.sh prints them over the translation 70b3a79b93e89a75… (all of the seat's roots in one cut). By AI agents, Wed Nov 11 2026. No macro, syntax, notation, axiom, sorry.
-/
import Derived.Test.YtjmkddadbblblaaChecked
import GoSem.Claim
import GoSem.ClaimJoined
import GoSem.ClaimMapViews
import Derived.JoinedTies
import Derived.KernelRfl
namespace Go.Proofs.Ytjmkddadbblblaa
/- THE CELL 'sum', in the pinned program and in every row, IS THE sha256 OF THE DUMP (.gsa) THAT YtjmkddadbblblaaProg.lean LOADS. Nothing in Lean hashes anything: it is a label: what it is worth is what the hold of that sum in a sandbox is worth. -/
noncomputable def Try.pinned : Pinned := { name := "ytjmkddadbblblaa", sum := "70b3a79b93e89a750e833ee6c2761ab7805b6538ee04819048cc77297e35fb13", checked := Try.checked }
namespace Rows
def none {H : Type} : Left H := { results := [], args := [] }

/-- 'signalmanlaw9.MonitorKnown': WHATEVER THE INPUT: true; the input reads as it did. -/
def monitorKnownSpec : ChangeSpec := { name := "monitorKnown", fn := fun _ => fun
  | [d] => { results := [.lit (.bool true)], args := [d] }
  | _ => none }
def monitorKnownRow : OpenClaim := { program := "ytjmkddadbblblaa", sum := "70b3a79b93e89a750e833ee6c2761ab7805b6538ee04819048cc77297e35fb13", func := "signalman/signalmanlaw9.MonitorKnown", spec := "monitorKnown", apart := false }
def MonitorKnownSaid : Prop := monitorKnownRow.holds Try.pinned (OpenSpec.ofChange monitorKnownSpec)

/-- ITS FALSE NEIGHBOUR: 'it returns false'. Refute it at one input. -/
def monitorKnownWrong : ChangeSpec := { name := "monitorKnown", fn := fun _ => fun
  | [d] => { results := [.lit (.bool false)], args := [d] }
  | _ => none }
def MonitorKnownWrongFalsely : Prop := monitorKnownRow.holds Try.pinned (OpenSpec.ofChange monitorKnownWrong)

/-- 'signalmanlaw9.MonitorHeals': WHATEVER THE INPUT: true; the input reads as it did. -/
def monitorHealsSpec : ChangeSpec := { name := "monitorHeals", fn := fun _ => fun
  | [d1, d2, d3, d4] => { results := [.lit (.bool true)], args := [d1, d2, d3, d4] }
  | _ => none }
def monitorHealsRow : OpenClaim := { program := "ytjmkddadbblblaa", sum := "70b3a79b93e89a750e833ee6c2761ab7805b6538ee04819048cc77297e35fb13", func := "signalman/signalmanlaw9.MonitorHeals", spec := "monitorHeals", apart := false }
def MonitorHealsSaid : Prop := monitorHealsRow.holds Try.pinned (OpenSpec.ofChange monitorHealsSpec)

/-- ITS FALSE NEIGHBOUR: 'it returns false'. Refute it at one input. -/
def monitorHealsWrong : ChangeSpec := { name := "monitorHeals", fn := fun _ => fun
  | [d1, d2, d3, d4] => { results := [.lit (.bool false)], args := [d1, d2, d3, d4] }
  | _ => none }
def MonitorHealsWrongFalsely : Prop := monitorHealsRow.holds Try.pinned (OpenSpec.ofChange monitorHealsWrong)

/-- 'signalmanlaw9.MonitorFails': WHATEVER THE INPUT: true; the input reads as it did. -/
def monitorFailsSpec : ChangeSpec := { name := "monitorFails", fn := fun _ => fun
  | [d1, d2, d3] => { results := [.lit (.bool true)], args := [d1, d2, d3] }
  | _ => none }
def monitorFailsRow : OpenClaim := { program := "ytjmkddadbblblaa", sum := "70b3a79b93e89a750e833ee6c2761ab7805b6538ee04819048cc77297e35fb13", func := "signalman/signalmanlaw9.MonitorFails", spec := "monitorFails", apart := false }
def MonitorFailsSaid : Prop := monitorFailsRow.holds Try.pinned (OpenSpec.ofChange monitorFailsSpec)

/-- ITS FALSE NEIGHBOUR: 'it returns false'. Refute it at one input. -/
def monitorFailsWrong : ChangeSpec := { name := "monitorFails", fn := fun _ => fun
  | [d1, d2, d3] => { results := [.lit (.bool false)], args := [d1, d2, d3] }
  | _ => none }
def MonitorFailsWrongFalsely : Prop := monitorFailsRow.holds Try.pinned (OpenSpec.ofChange monitorFailsWrong)

/-- 'signalmanlaw9.MonitorSilent': WHATEVER THE INPUT: true; the input reads as it did. -/
def monitorSilentSpec : ChangeSpec := { name := "monitorSilent", fn := fun _ => fun
  | [d1, d2] => { results := [.lit (.bool true)], args := [d1, d2] }
  | _ => none }
def monitorSilentRow : OpenClaim := { program := "ytjmkddadbblblaa", sum := "70b3a79b93e89a750e833ee6c2761ab7805b6538ee04819048cc77297e35fb13", func := "signalman/signalmanlaw9.MonitorSilent", spec := "monitorSilent", apart := false }
def MonitorSilentSaid : Prop := monitorSilentRow.holds Try.pinned (OpenSpec.ofChange monitorSilentSpec)

/-- ITS FALSE NEIGHBOUR: 'it returns false'. Refute it at one input. -/
def monitorSilentWrong : ChangeSpec := { name := "monitorSilent", fn := fun _ => fun
  | [d1, d2] => { results := [.lit (.bool false)], args := [d1, d2] }
  | _ => none }
def MonitorSilentWrongFalsely : Prop := monitorSilentRow.holds Try.pinned (OpenSpec.ofChange monitorSilentWrong)

/-- 'signalmanlaw9.MonitorPlays': WHATEVER THE INPUT: true; the input reads as it did. -/
def monitorPlaysSpec : ChangeSpec := { name := "monitorPlays", fn := fun _ => fun
  | [d1, d2, d3, d4] => { results := [.lit (.bool true)], args := [d1, d2, d3, d4] }
  | _ => none }
def monitorPlaysRow : OpenClaim := { program := "ytjmkddadbblblaa", sum := "70b3a79b93e89a750e833ee6c2761ab7805b6538ee04819048cc77297e35fb13", func := "signalman/signalmanlaw9.MonitorPlays", spec := "monitorPlays", apart := false }
def MonitorPlaysSaid : Prop := monitorPlaysRow.holds Try.pinned (OpenSpec.ofChange monitorPlaysSpec)

/-- ITS FALSE NEIGHBOUR: 'it returns false'. Refute it at one input. -/
def monitorPlaysWrong : ChangeSpec := { name := "monitorPlays", fn := fun _ => fun
  | [d1, d2, d3, d4] => { results := [.lit (.bool false)], args := [d1, d2, d3, d4] }
  | _ => none }
def MonitorPlaysWrongFalsely : Prop := monitorPlaysRow.holds Try.pinned (OpenSpec.ofChange monitorPlaysWrong)

/- THE SECOND FORM. 'bulk': how many values and letters a reading holds, each counted each time it is reached (what is shared counts as often as it is met; a slice's spare places count too). A statement '..UptoSaid' is the law's where the arguments, and the package variables that the reading takes, are together of bulk at most 1048576: NARROWER than '..Said'. Prove '..Said' where nothing that the law and all that it calls make is longer than what came in: it says more and counts as full. Else prove '..UptoSaid'. A law counts once. -/
mutual
def uptoBulk {H : Type} : DataW H → Nat
  | .lit (.string bytes) => bytes.length + 1
  | .lit _ => 1
  | .nil => 1
  | .ptr d => uptoBulk d + 1
  | .slice elems spare => uptoBulkAll elems + uptoBulkAll spare + 1
  | .agg parts => uptoBulkAll parts + 1
  | .iface _ d => uptoBulk d + 1
  | .map entries => uptoBulkEntries entries + 1
  | .held _ => 1
def uptoBulkAll {H : Type} : List (DataW H) → Nat
  | [] => 0
  | d :: r => uptoBulk d + uptoBulkAll r
def uptoBulkEntries {H : Type} : List (Lit × DataW H) → Nat
  | [] => 0
  | x :: r => uptoBulkEntry x + uptoBulkEntries r
def uptoBulkEntry {H : Type} : Lit × DataW H → Nat
  | (.string bytes, d) => bytes.length + uptoBulk d + 1
  | (_, d) => uptoBulk d + 1
 end
def uptoSmall : (H : Type) → List (DataW H) → Bool := fun _ ds => decide (uptoBulkAll ds ≤ 1048576)
def OpenSpec.upto (s : _root_.Go.ChangeSpec) : _root_.Go.OpenSpec := { _root_.Go.OpenSpec.ofChange s with cond := some uptoSmall }

/-- 'signalmanlaw9.MonitorKnown', WHERE WHAT IT READS IS OF BULK AT MOST 1048576: true; the input reads as it did. -/
def monitorKnownUptoRow : OpenClaim := { program := "ytjmkddadbblblaa", sum := "70b3a79b93e89a750e833ee6c2761ab7805b6538ee04819048cc77297e35fb13", func := "signalman/signalmanlaw9.MonitorKnown", spec := "monitorKnown", apart := false, narrowed := true }
def MonitorKnownUptoSaid : Prop := monitorKnownUptoRow.holds Try.pinned (OpenSpec.upto monitorKnownSpec)

/-- 'signalmanlaw9.MonitorHeals', WHERE WHAT IT READS IS OF BULK AT MOST 1048576: true; the input reads as it did. -/
def monitorHealsUptoRow : OpenClaim := { program := "ytjmkddadbblblaa", sum := "70b3a79b93e89a750e833ee6c2761ab7805b6538ee04819048cc77297e35fb13", func := "signalman/signalmanlaw9.MonitorHeals", spec := "monitorHeals", apart := false, narrowed := true }
def MonitorHealsUptoSaid : Prop := monitorHealsUptoRow.holds Try.pinned (OpenSpec.upto monitorHealsSpec)

/-- 'signalmanlaw9.MonitorFails', WHERE WHAT IT READS IS OF BULK AT MOST 1048576: true; the input reads as it did. -/
def monitorFailsUptoRow : OpenClaim := { program := "ytjmkddadbblblaa", sum := "70b3a79b93e89a750e833ee6c2761ab7805b6538ee04819048cc77297e35fb13", func := "signalman/signalmanlaw9.MonitorFails", spec := "monitorFails", apart := false, narrowed := true }
def MonitorFailsUptoSaid : Prop := monitorFailsUptoRow.holds Try.pinned (OpenSpec.upto monitorFailsSpec)

/-- 'signalmanlaw9.MonitorSilent', WHERE WHAT IT READS IS OF BULK AT MOST 1048576: true; the input reads as it did. -/
def monitorSilentUptoRow : OpenClaim := { program := "ytjmkddadbblblaa", sum := "70b3a79b93e89a750e833ee6c2761ab7805b6538ee04819048cc77297e35fb13", func := "signalman/signalmanlaw9.MonitorSilent", spec := "monitorSilent", apart := false, narrowed := true }
def MonitorSilentUptoSaid : Prop := monitorSilentUptoRow.holds Try.pinned (OpenSpec.upto monitorSilentSpec)

/-- 'signalmanlaw9.MonitorPlays', WHERE WHAT IT READS IS OF BULK AT MOST 1048576: true; the input reads as it did. -/
def monitorPlaysUptoRow : OpenClaim := { program := "ytjmkddadbblblaa", sum := "70b3a79b93e89a750e833ee6c2761ab7805b6538ee04819048cc77297e35fb13", func := "signalman/signalmanlaw9.MonitorPlays", spec := "monitorPlays", apart := false, narrowed := true }
def MonitorPlaysUptoSaid : Prop := monitorPlaysUptoRow.holds Try.pinned (OpenSpec.upto monitorPlaysSpec)

end Rows
end Go.Proofs.Ytjmkddadbblblaa
