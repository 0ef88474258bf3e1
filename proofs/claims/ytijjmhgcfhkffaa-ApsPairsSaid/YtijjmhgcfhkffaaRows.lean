/-
  No cell of these rows narrows 'for every input' (looked for: loops, veiled, ifaces, maps, wideKeys, modest, calm, conditions, laid).
  DERIVED. THE GIVEN ROWS OF THIS SEAT. 7 by the template 'for every input the law returns true; each argument reads behind the call as it read before'; 0 by the template 'total and deterministic' (their statements: YtijjmhgcfhkffaaTotals.lean).
  GIVEN WITH THE SEED: the statements are not yours to turn. If you find one false, say at which input.
  Laid BY PROGRAM, IN A SANDBOX (cutbox-rows.mjs): the forced cells as the released guide's own fill.sh prints them over the translation 18c9bd4f518f6775… (all of the seat's roots in one cut). By AI agents, Wed Nov 11 2026. No macro, syntax, notation, axiom, sorry.
-/
import Derived.Test.YtijjmhgcfhkffaaChecked
import GoSem.Claim
import GoSem.ClaimJoined
import GoSem.ClaimMapViews
import Derived.JoinedTies
import Derived.KernelRfl
namespace Go.Proofs.Ytijjmhgcfhkffaa
/- THE CELL 'sum', in the pinned program and in every row, IS THE sha256 OF THE DUMP (.gsa) THAT YtijjmhgcfhkffaaProg.lean LOADS. Nothing in Lean hashes anything: it is a label: what it is worth is what the hold of that sum in a sandbox is worth. -/
noncomputable def Try.pinned : Pinned := { name := "ytijjmhgcfhkffaa", sum := "18c9bd4f518f6775335643d481c5b68040491c38b6d626b89a2d955f965ac827", checked := Try.checked }
namespace Rows
def none {H : Type} : Left H := { results := [], args := [] }

/-- 'signalmanlaw18.ApsHolds': WHATEVER THE INPUT: true; the input reads as it did. -/
def apsHoldsSpec : ChangeSpec := { name := "apsHolds", fn := fun _ => fun
  | [d1, d2, d3] => { results := [.lit (.bool true)], args := [d1, d2, d3] }
  | _ => none }
def apsHoldsRow : OpenClaim := { program := "ytijjmhgcfhkffaa", sum := "18c9bd4f518f6775335643d481c5b68040491c38b6d626b89a2d955f965ac827", func := "signalman/signalmanlaw18.ApsHolds", spec := "apsHolds", apart := false }
def ApsHoldsSaid : Prop := apsHoldsRow.holds Try.pinned (OpenSpec.ofChange apsHoldsSpec)

/-- ITS FALSE NEIGHBOUR: 'it returns false'. Refute it at one input. -/
def apsHoldsWrong : ChangeSpec := { name := "apsHolds", fn := fun _ => fun
  | [d1, d2, d3] => { results := [.lit (.bool false)], args := [d1, d2, d3] }
  | _ => none }
def ApsHoldsWrongFalsely : Prop := apsHoldsRow.holds Try.pinned (OpenSpec.ofChange apsHoldsWrong)

/-- 'signalmanlaw18.ApsRemote': WHATEVER THE INPUT: true; the input reads as it did. -/
def apsRemoteSpec : ChangeSpec := { name := "apsRemote", fn := fun _ => fun
  | [d1, d2] => { results := [.lit (.bool true)], args := [d1, d2] }
  | _ => none }
def apsRemoteRow : OpenClaim := { program := "ytijjmhgcfhkffaa", sum := "18c9bd4f518f6775335643d481c5b68040491c38b6d626b89a2d955f965ac827", func := "signalman/signalmanlaw18.ApsRemote", spec := "apsRemote", apart := false }
def ApsRemoteSaid : Prop := apsRemoteRow.holds Try.pinned (OpenSpec.ofChange apsRemoteSpec)

/-- ITS FALSE NEIGHBOUR: 'it returns false'. Refute it at one input. -/
def apsRemoteWrong : ChangeSpec := { name := "apsRemote", fn := fun _ => fun
  | [d1, d2] => { results := [.lit (.bool false)], args := [d1, d2] }
  | _ => none }
def ApsRemoteWrongFalsely : Prop := apsRemoteRow.holds Try.pinned (OpenSpec.ofChange apsRemoteWrong)

/-- 'signalmanlaw18.ApsWaits': WHATEVER THE INPUT: true; the input reads as it did. -/
def apsWaitsSpec : ChangeSpec := { name := "apsWaits", fn := fun _ => fun
  | [d1, d2, d3] => { results := [.lit (.bool true)], args := [d1, d2, d3] }
  | _ => none }
def apsWaitsRow : OpenClaim := { program := "ytijjmhgcfhkffaa", sum := "18c9bd4f518f6775335643d481c5b68040491c38b6d626b89a2d955f965ac827", func := "signalman/signalmanlaw18.ApsWaits", spec := "apsWaits", apart := false }
def ApsWaitsSaid : Prop := apsWaitsRow.holds Try.pinned (OpenSpec.ofChange apsWaitsSpec)

/-- ITS FALSE NEIGHBOUR: 'it returns false'. Refute it at one input. -/
def apsWaitsWrong : ChangeSpec := { name := "apsWaits", fn := fun _ => fun
  | [d1, d2, d3] => { results := [.lit (.bool false)], args := [d1, d2, d3] }
  | _ => none }
def ApsWaitsWrongFalsely : Prop := apsWaitsRow.holds Try.pinned (OpenSpec.ofChange apsWaitsWrong)

/-- 'signalmanlaw18.ApsCommands': WHATEVER THE INPUT: true; the input reads as it did. -/
def apsCommandsSpec : ChangeSpec := { name := "apsCommands", fn := fun _ => fun
  | [d1, d2, d3, d4] => { results := [.lit (.bool true)], args := [d1, d2, d3, d4] }
  | _ => none }
def apsCommandsRow : OpenClaim := { program := "ytijjmhgcfhkffaa", sum := "18c9bd4f518f6775335643d481c5b68040491c38b6d626b89a2d955f965ac827", func := "signalman/signalmanlaw18.ApsCommands", spec := "apsCommands", apart := false }
def ApsCommandsSaid : Prop := apsCommandsRow.holds Try.pinned (OpenSpec.ofChange apsCommandsSpec)

/-- ITS FALSE NEIGHBOUR: 'it returns false'. Refute it at one input. -/
def apsCommandsWrong : ChangeSpec := { name := "apsCommands", fn := fun _ => fun
  | [d1, d2, d3, d4] => { results := [.lit (.bool false)], args := [d1, d2, d3, d4] }
  | _ => none }
def ApsCommandsWrongFalsely : Prop := apsCommandsRow.holds Try.pinned (OpenSpec.ofChange apsCommandsWrong)

/-- 'signalmanlaw18.ApsPlays': WHATEVER THE INPUT: true; the input reads as it did. -/
def apsPlaysSpec : ChangeSpec := { name := "apsPlays", fn := fun _ => fun
  | [d1, d2, d3, d4] => { results := [.lit (.bool true)], args := [d1, d2, d3, d4] }
  | _ => none }
def apsPlaysRow : OpenClaim := { program := "ytijjmhgcfhkffaa", sum := "18c9bd4f518f6775335643d481c5b68040491c38b6d626b89a2d955f965ac827", func := "signalman/signalmanlaw18.ApsPlays", spec := "apsPlays", apart := false }
def ApsPlaysSaid : Prop := apsPlaysRow.holds Try.pinned (OpenSpec.ofChange apsPlaysSpec)

/-- ITS FALSE NEIGHBOUR: 'it returns false'. Refute it at one input. -/
def apsPlaysWrong : ChangeSpec := { name := "apsPlays", fn := fun _ => fun
  | [d1, d2, d3, d4] => { results := [.lit (.bool false)], args := [d1, d2, d3, d4] }
  | _ => none }
def ApsPlaysWrongFalsely : Prop := apsPlaysRow.holds Try.pinned (OpenSpec.ofChange apsPlaysWrong)

/-- 'signalmanlaw18.ApsLocks': WHATEVER THE INPUT: true; the input reads as it did. -/
def apsLocksSpec : ChangeSpec := { name := "apsLocks", fn := fun _ => fun
  | [d1, d2, d3, d4, d5] => { results := [.lit (.bool true)], args := [d1, d2, d3, d4, d5] }
  | _ => none }
def apsLocksRow : OpenClaim := { program := "ytijjmhgcfhkffaa", sum := "18c9bd4f518f6775335643d481c5b68040491c38b6d626b89a2d955f965ac827", func := "signalman/signalmanlaw18.ApsLocks", spec := "apsLocks", apart := false }
def ApsLocksSaid : Prop := apsLocksRow.holds Try.pinned (OpenSpec.ofChange apsLocksSpec)

/-- ITS FALSE NEIGHBOUR: 'it returns false'. Refute it at one input. -/
def apsLocksWrong : ChangeSpec := { name := "apsLocks", fn := fun _ => fun
  | [d1, d2, d3, d4, d5] => { results := [.lit (.bool false)], args := [d1, d2, d3, d4, d5] }
  | _ => none }
def ApsLocksWrongFalsely : Prop := apsLocksRow.holds Try.pinned (OpenSpec.ofChange apsLocksWrong)

/-- 'signalmanlaw18.ApsPairs': WHATEVER THE INPUT: true; the input reads as it did. -/
def apsPairsSpec : ChangeSpec := { name := "apsPairs", fn := fun _ => fun
  | [d1, d2, d3, d4] => { results := [.lit (.bool true)], args := [d1, d2, d3, d4] }
  | _ => none }
def apsPairsRow : OpenClaim := { program := "ytijjmhgcfhkffaa", sum := "18c9bd4f518f6775335643d481c5b68040491c38b6d626b89a2d955f965ac827", func := "signalman/signalmanlaw18.ApsPairs", spec := "apsPairs", apart := false }
def ApsPairsSaid : Prop := apsPairsRow.holds Try.pinned (OpenSpec.ofChange apsPairsSpec)

/-- ITS FALSE NEIGHBOUR: 'it returns false'. Refute it at one input. -/
def apsPairsWrong : ChangeSpec := { name := "apsPairs", fn := fun _ => fun
  | [d1, d2, d3, d4] => { results := [.lit (.bool false)], args := [d1, d2, d3, d4] }
  | _ => none }
def ApsPairsWrongFalsely : Prop := apsPairsRow.holds Try.pinned (OpenSpec.ofChange apsPairsWrong)

/- THE SECOND FORM. 'bulk': how many values and letters a reading holds, each counted each time it is reached (what is shared counts as often as it is met; a slice's spare places count too). A statement '..UptoSaid' is the law's where the arguments, and the package variables that the reading takes, are together of bulk at most 1048576: NARROWER than '..Said'. Prove '..Said' where nothing that the law and all that it calls make is longer than what came in: it says more and counts as full. Else prove '..UptoSaid'. A law counts once. -/
mutual
def uptoBulk {H : Type} : DataW H → Nat
  | .lit (.string bytes) => bytes.length + 1
  | .lit _ => 1
  | .nil => 1
  | .ptr d => uptoBulk d + 1
  | .slice elems spare => uptoBulkAll elems + uptoBulkAll spare + 1
  | .agg parts => uptoBulkAll parts + 1
  | .iface _ d => uptoBulk d + 1
  | .map entries => uptoBulkEntries entries + 1
  | .held _ => 1
def uptoBulkAll {H : Type} : List (DataW H) → Nat
  | [] => 0
  | d :: r => uptoBulk d + uptoBulkAll r
def uptoBulkEntries {H : Type} : List (Lit × DataW H) → Nat
  | [] => 0
  | x :: r => uptoBulkEntry x + uptoBulkEntries r
def uptoBulkEntry {H : Type} : Lit × DataW H → Nat
  | (.string bytes, d) => bytes.length + uptoBulk d + 1
  | (_, d) => uptoBulk d + 1
 end
def uptoSmall : (H : Type) → List (DataW H) → Bool := fun _ ds => decide (uptoBulkAll ds ≤ 1048576)
def OpenSpec.upto (s : _root_.Go.ChangeSpec) : _root_.Go.OpenSpec := { _root_.Go.OpenSpec.ofChange s with cond := some uptoSmall }

/-- 'signalmanlaw18.ApsHolds', WHERE WHAT IT READS IS OF BULK AT MOST 1048576: true; the input reads as it did. -/
def apsHoldsUptoRow : OpenClaim := { program := "ytijjmhgcfhkffaa", sum := "18c9bd4f518f6775335643d481c5b68040491c38b6d626b89a2d955f965ac827", func := "signalman/signalmanlaw18.ApsHolds", spec := "apsHolds", apart := false, narrowed := true }
def ApsHoldsUptoSaid : Prop := apsHoldsUptoRow.holds Try.pinned (OpenSpec.upto apsHoldsSpec)

/-- 'signalmanlaw18.ApsRemote', WHERE WHAT IT READS IS OF BULK AT MOST 1048576: true; the input reads as it did. -/
def apsRemoteUptoRow : OpenClaim := { program := "ytijjmhgcfhkffaa", sum := "18c9bd4f518f6775335643d481c5b68040491c38b6d626b89a2d955f965ac827", func := "signalman/signalmanlaw18.ApsRemote", spec := "apsRemote", apart := false, narrowed := true }
def ApsRemoteUptoSaid : Prop := apsRemoteUptoRow.holds Try.pinned (OpenSpec.upto apsRemoteSpec)

/-- 'signalmanlaw18.ApsWaits', WHERE WHAT IT READS IS OF BULK AT MOST 1048576: true; the input reads as it did. -/
def apsWaitsUptoRow : OpenClaim := { program := "ytijjmhgcfhkffaa", sum := "18c9bd4f518f6775335643d481c5b68040491c38b6d626b89a2d955f965ac827", func := "signalman/signalmanlaw18.ApsWaits", spec := "apsWaits", apart := false, narrowed := true }
def ApsWaitsUptoSaid : Prop := apsWaitsUptoRow.holds Try.pinned (OpenSpec.upto apsWaitsSpec)

/-- 'signalmanlaw18.ApsCommands', WHERE WHAT IT READS IS OF BULK AT MOST 1048576: true; the input reads as it did. -/
def apsCommandsUptoRow : OpenClaim := { program := "ytijjmhgcfhkffaa", sum := "18c9bd4f518f6775335643d481c5b68040491c38b6d626b89a2d955f965ac827", func := "signalman/signalmanlaw18.ApsCommands", spec := "apsCommands", apart := false, narrowed := true }
def ApsCommandsUptoSaid : Prop := apsCommandsUptoRow.holds Try.pinned (OpenSpec.upto apsCommandsSpec)

/-- 'signalmanlaw18.ApsPlays', WHERE WHAT IT READS IS OF BULK AT MOST 1048576: true; the input reads as it did. -/
def apsPlaysUptoRow : OpenClaim := { program := "ytijjmhgcfhkffaa", sum := "18c9bd4f518f6775335643d481c5b68040491c38b6d626b89a2d955f965ac827", func := "signalman/signalmanlaw18.ApsPlays", spec := "apsPlays", apart := false, narrowed := true }
def ApsPlaysUptoSaid : Prop := apsPlaysUptoRow.holds Try.pinned (OpenSpec.upto apsPlaysSpec)

/-- 'signalmanlaw18.ApsLocks', WHERE WHAT IT READS IS OF BULK AT MOST 1048576: true; the input reads as it did. -/
def apsLocksUptoRow : OpenClaim := { program := "ytijjmhgcfhkffaa", sum := "18c9bd4f518f6775335643d481c5b68040491c38b6d626b89a2d955f965ac827", func := "signalman/signalmanlaw18.ApsLocks", spec := "apsLocks", apart := false, narrowed := true }
def ApsLocksUptoSaid : Prop := apsLocksUptoRow.holds Try.pinned (OpenSpec.upto apsLocksSpec)

/-- 'signalmanlaw18.ApsPairs', WHERE WHAT IT READS IS OF BULK AT MOST 1048576: true; the input reads as it did. -/
def apsPairsUptoRow : OpenClaim := { program := "ytijjmhgcfhkffaa", sum := "18c9bd4f518f6775335643d481c5b68040491c38b6d626b89a2d955f965ac827", func := "signalman/signalmanlaw18.ApsPairs", spec := "apsPairs", apart := false, narrowed := true }
def ApsPairsUptoSaid : Prop := apsPairsUptoRow.holds Try.pinned (OpenSpec.upto apsPairsSpec)

end Rows
end Go.Proofs.Ytijjmhgcfhkffaa
