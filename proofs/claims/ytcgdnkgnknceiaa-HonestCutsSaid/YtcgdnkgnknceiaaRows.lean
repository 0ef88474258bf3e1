/-
  No cell of these rows narrows 'for every input' (looked for: loops, veiled, ifaces, maps, wideKeys, modest, calm, conditions, laid).
  DERIVED. THE GIVEN ROWS OF THIS SEAT. 4 by the template 'for every input the law returns true; each argument reads behind the call as it read before'; 0 by the template 'total and deterministic' (their statements: YtcgdnkgnknceiaaTotals.lean).
  GIVEN WITH THE SEED: the statements are not yours to turn. If you find one false, say at which input.
  Laid BY PROGRAM, IN A SANDBOX (cutbox-rows.mjs): the forced cells as the released guide's own fill.sh prints them over the translation 5435eeaacd3be781… (all of the seat's roots in one cut). By AI agents, Wed Nov 11 2026. No macro, syntax, notation, axiom, sorry.
-/
import Derived.Test.YtcgdnkgnknceiaaChecked
import GoSem.Claim
import GoSem.ClaimJoined
import GoSem.ClaimMapViews
import Derived.JoinedTies
import Derived.KernelRfl
namespace Go.Proofs.Ytcgdnkgnknceiaa
/- THE CELL 'sum', in the pinned program and in every row, IS THE sha256 OF THE DUMP (.gsa) THAT YtcgdnkgnknceiaaProg.lean LOADS. Nothing in Lean hashes anything: it is a label: what it is worth is what the hold of that sum in a sandbox is worth. -/
noncomputable def Try.pinned : Pinned := { name := "ytcgdnkgnknceiaa", sum := "5435eeaacd3be78132413978e6968a1499aaa088298b6075e6a4449a4c395961", checked := Try.checked }
namespace Rows
def none {H : Type} : Left H := { results := [], args := [] }

/-- 'signalmanlaw24.HonestParts': WHATEVER THE INPUT: true; the input reads as it did. -/
def honestPartsSpec : ChangeSpec := { name := "honestParts", fn := fun _ => fun
  | [d1, d2, d3] => { results := [.lit (.bool true)], args := [d1, d2, d3] }
  | _ => none }
def honestPartsRow : OpenClaim := { program := "ytcgdnkgnknceiaa", sum := "5435eeaacd3be78132413978e6968a1499aaa088298b6075e6a4449a4c395961", func := "signalman/signalmanlaw24.HonestParts", spec := "honestParts", apart := false }
def HonestPartsSaid : Prop := honestPartsRow.holds Try.pinned (OpenSpec.ofChange honestPartsSpec)

/-- ITS FALSE NEIGHBOUR: 'it returns false'. Refute it at one input. -/
def honestPartsWrong : ChangeSpec := { name := "honestParts", fn := fun _ => fun
  | [d1, d2, d3] => { results := [.lit (.bool false)], args := [d1, d2, d3] }
  | _ => none }
def HonestPartsWrongFalsely : Prop := honestPartsRow.holds Try.pinned (OpenSpec.ofChange honestPartsWrong)

/-- 'signalmanlaw24.HonestCuts': WHATEVER THE INPUT: true; the input reads as it did. -/
def honestCutsSpec : ChangeSpec := { name := "honestCuts", fn := fun _ => fun
  | [d1, d2] => { results := [.lit (.bool true)], args := [d1, d2] }
  | _ => none }
def honestCutsRow : OpenClaim := { program := "ytcgdnkgnknceiaa", sum := "5435eeaacd3be78132413978e6968a1499aaa088298b6075e6a4449a4c395961", func := "signalman/signalmanlaw24.HonestCuts", spec := "honestCuts", apart := false }
def HonestCutsSaid : Prop := honestCutsRow.holds Try.pinned (OpenSpec.ofChange honestCutsSpec)

/-- ITS FALSE NEIGHBOUR: 'it returns false'. Refute it at one input. -/
def honestCutsWrong : ChangeSpec := { name := "honestCuts", fn := fun _ => fun
  | [d1, d2] => { results := [.lit (.bool false)], args := [d1, d2] }
  | _ => none }
def HonestCutsWrongFalsely : Prop := honestCutsRow.holds Try.pinned (OpenSpec.ofChange honestCutsWrong)

/-- 'signalmanlaw24.HonestSessions': WHATEVER THE INPUT: true; the input reads as it did. -/
def honestSessionsSpec : ChangeSpec := { name := "honestSessions", fn := fun _ => fun
  | [d1, d2] => { results := [.lit (.bool true)], args := [d1, d2] }
  | _ => none }
def honestSessionsRow : OpenClaim := { program := "ytcgdnkgnknceiaa", sum := "5435eeaacd3be78132413978e6968a1499aaa088298b6075e6a4449a4c395961", func := "signalman/signalmanlaw24.HonestSessions", spec := "honestSessions", unfollowed := true, recurses := true, apart := false }
def HonestSessionsSaid : Prop := honestSessionsRow.holds Try.pinned (OpenSpec.ofChange honestSessionsSpec)

/-- ITS FALSE NEIGHBOUR: 'it returns false'. Refute it at one input. -/
def honestSessionsWrong : ChangeSpec := { name := "honestSessions", fn := fun _ => fun
  | [d1, d2] => { results := [.lit (.bool false)], args := [d1, d2] }
  | _ => none }
def HonestSessionsWrongFalsely : Prop := honestSessionsRow.holds Try.pinned (OpenSpec.ofChange honestSessionsWrong)

/-- 'signalmanlaw24.HonestFits': WHATEVER THE INPUT: true; the input reads as it did. -/
def honestFitsSpec : ChangeSpec := { name := "honestFits", fn := fun _ => fun
  | [d1, d2] => { results := [.lit (.bool true)], args := [d1, d2] }
  | _ => none }
def honestFitsRow : OpenClaim := { program := "ytcgdnkgnknceiaa", sum := "5435eeaacd3be78132413978e6968a1499aaa088298b6075e6a4449a4c395961", func := "signalman/signalmanlaw24.HonestFits", spec := "honestFits", unfollowed := true, recurses := true, apart := false }
def HonestFitsSaid : Prop := honestFitsRow.holds Try.pinned (OpenSpec.ofChange honestFitsSpec)

/-- ITS FALSE NEIGHBOUR: 'it returns false'. Refute it at one input. -/
def honestFitsWrong : ChangeSpec := { name := "honestFits", fn := fun _ => fun
  | [d1, d2] => { results := [.lit (.bool false)], args := [d1, d2] }
  | _ => none }
def HonestFitsWrongFalsely : Prop := honestFitsRow.holds Try.pinned (OpenSpec.ofChange honestFitsWrong)

/- THE SECOND FORM. 'bulk': how many values and letters a reading holds, each counted each time it is reached (what is shared counts as often as it is met; a slice's spare places count too). A statement '..UptoSaid' is the law's where the arguments, and the package variables that the reading takes, are together of bulk at most 1048576: NARROWER than '..Said'. Prove '..Said' where nothing that the law and all that it calls make is longer than what came in: it says more and counts as full. Else prove '..UptoSaid'. A law counts once. -/
mutual
def uptoBulk {H : Type} : DataW H → Nat
  | .lit (.string bytes) => bytes.length + 1
  | .lit _ => 1
  | .nil => 1
  | .ptr d => uptoBulk d + 1
  | .slice elems spare => uptoBulkAll elems + uptoBulkAll spare + 1
  | .agg parts => uptoBulkAll parts + 1
  | .iface _ d => uptoBulk d + 1
  | .map entries => uptoBulkEntries entries + 1
  | .held _ => 1
def uptoBulkAll {H : Type} : List (DataW H) → Nat
  | [] => 0
  | d :: r => uptoBulk d + uptoBulkAll r
def uptoBulkEntries {H : Type} : List (Lit × DataW H) → Nat
  | [] => 0
  | x :: r => uptoBulkEntry x + uptoBulkEntries r
def uptoBulkEntry {H : Type} : Lit × DataW H → Nat
  | (.string bytes, d) => bytes.length + uptoBulk d + 1
  | (_, d) => uptoBulk d + 1
 end
def uptoSmall : (H : Type) → List (DataW H) → Bool := fun _ ds => decide (uptoBulkAll ds ≤ 1048576)
def OpenSpec.upto (s : _root_.Go.ChangeSpec) : _root_.Go.OpenSpec := { _root_.Go.OpenSpec.ofChange s with cond := some uptoSmall }

/-- 'signalmanlaw24.HonestParts', WHERE WHAT IT READS IS OF BULK AT MOST 1048576: true; the input reads as it did. -/
def honestPartsUptoRow : OpenClaim := { program := "ytcgdnkgnknceiaa", sum := "5435eeaacd3be78132413978e6968a1499aaa088298b6075e6a4449a4c395961", func := "signalman/signalmanlaw24.HonestParts", spec := "honestParts", apart := false, narrowed := true }
def HonestPartsUptoSaid : Prop := honestPartsUptoRow.holds Try.pinned (OpenSpec.upto honestPartsSpec)

/-- 'signalmanlaw24.HonestCuts', WHERE WHAT IT READS IS OF BULK AT MOST 1048576: true; the input reads as it did. -/
def honestCutsUptoRow : OpenClaim := { program := "ytcgdnkgnknceiaa", sum := "5435eeaacd3be78132413978e6968a1499aaa088298b6075e6a4449a4c395961", func := "signalman/signalmanlaw24.HonestCuts", spec := "honestCuts", apart := false, narrowed := true }
def HonestCutsUptoSaid : Prop := honestCutsUptoRow.holds Try.pinned (OpenSpec.upto honestCutsSpec)

/-- 'signalmanlaw24.HonestSessions', WHERE WHAT IT READS IS OF BULK AT MOST 1048576: true; the input reads as it did. -/
def honestSessionsUptoRow : OpenClaim := { program := "ytcgdnkgnknceiaa", sum := "5435eeaacd3be78132413978e6968a1499aaa088298b6075e6a4449a4c395961", func := "signalman/signalmanlaw24.HonestSessions", spec := "honestSessions", unfollowed := true, recurses := true, apart := false, narrowed := true }
def HonestSessionsUptoSaid : Prop := honestSessionsUptoRow.holds Try.pinned (OpenSpec.upto honestSessionsSpec)

/-- 'signalmanlaw24.HonestFits', WHERE WHAT IT READS IS OF BULK AT MOST 1048576: true; the input reads as it did. -/
def honestFitsUptoRow : OpenClaim := { program := "ytcgdnkgnknceiaa", sum := "5435eeaacd3be78132413978e6968a1499aaa088298b6075e6a4449a4c395961", func := "signalman/signalmanlaw24.HonestFits", spec := "honestFits", unfollowed := true, recurses := true, apart := false, narrowed := true }
def HonestFitsUptoSaid : Prop := honestFitsUptoRow.holds Try.pinned (OpenSpec.upto honestFitsSpec)

end Rows
end Go.Proofs.Ytcgdnkgnknceiaa
