/-
  No cell of these rows narrows 'for every input' (looked for: loops, veiled, ifaces, maps, wideKeys, modest, calm, conditions, laid).
  DERIVED. THE GIVEN ROWS OF THIS SEAT. 4 by the template 'for every input the law returns true; each argument reads behind the call as it read before'; 0 by the template 'total and deterministic' (their statements: YtdlfjibbkcglpaaTotals.lean).
  GIVEN WITH THE SEED: the statements are not yours to turn. If you find one false, say at which input.
  Laid BY PROGRAM, IN A SANDBOX (cutbox-rows.mjs): the forced cells as the released guide's own fill.sh prints them over the translation 471d718d59240cea… (all of the seat's roots in one cut). By AI agents, Wed Nov 11 2026. No macro, syntax, notation, axiom, sorry.
-/
import Derived.Test.YtdlfjibbkcglpaaChecked
import GoSem.Claim
import GoSem.ClaimJoined
import GoSem.ClaimMapViews
import Derived.JoinedTies
import Derived.KernelRfl
namespace Go.Proofs.Ytdlfjibbkcglpaa
/- THE CELL 'sum', in the pinned program and in every row, IS THE sha256 OF THE DUMP (.gsa) THAT YtdlfjibbkcglpaaProg.lean LOADS. Nothing in Lean hashes anything: it is a label: what it is worth is what the hold of that sum in a sandbox is worth. -/
noncomputable def Try.pinned : Pinned := { name := "ytdlfjibbkcglpaa", sum := "471d718d59240ceaabf729344cff5fac8fe7f26548ad61a350f9c347aa15df47", checked := Try.checked }
namespace Rows
def none {H : Type} : Left H := { results := [], args := [] }

/-- 'signalmanlaw16.RequestAgrees': WHATEVER THE INPUT: true; the input reads as it did. -/
def requestAgreesSpec : ChangeSpec := { name := "requestAgrees", fn := fun _ => fun
  | [d1, d2, d3] => { results := [.lit (.bool true)], args := [d1, d2, d3] }
  | _ => none }
def requestAgreesRow : OpenClaim := { program := "ytdlfjibbkcglpaa", sum := "471d718d59240ceaabf729344cff5fac8fe7f26548ad61a350f9c347aa15df47", func := "signalman/signalmanlaw16.RequestAgrees", spec := "requestAgrees", apart := false }
def RequestAgreesSaid : Prop := requestAgreesRow.holds Try.pinned (OpenSpec.ofChange requestAgreesSpec)

/-- ITS FALSE NEIGHBOUR: 'it returns false'. Refute it at one input. -/
def requestAgreesWrong : ChangeSpec := { name := "requestAgrees", fn := fun _ => fun
  | [d1, d2, d3] => { results := [.lit (.bool false)], args := [d1, d2, d3] }
  | _ => none }
def RequestAgreesWrongFalsely : Prop := requestAgreesRow.holds Try.pinned (OpenSpec.ofChange requestAgreesWrong)

/-- 'signalmanlaw16.RequestLasts': WHATEVER THE INPUT: true; the input reads as it did. -/
def requestLastsSpec : ChangeSpec := { name := "requestLasts", fn := fun _ => fun
  | [d1, d2, d3] => { results := [.lit (.bool true)], args := [d1, d2, d3] }
  | _ => none }
def requestLastsRow : OpenClaim := { program := "ytdlfjibbkcglpaa", sum := "471d718d59240ceaabf729344cff5fac8fe7f26548ad61a350f9c347aa15df47", func := "signalman/signalmanlaw16.RequestLasts", spec := "requestLasts", apart := false }
def RequestLastsSaid : Prop := requestLastsRow.holds Try.pinned (OpenSpec.ofChange requestLastsSpec)

/-- ITS FALSE NEIGHBOUR: 'it returns false'. Refute it at one input. -/
def requestLastsWrong : ChangeSpec := { name := "requestLasts", fn := fun _ => fun
  | [d1, d2, d3] => { results := [.lit (.bool false)], args := [d1, d2, d3] }
  | _ => none }
def RequestLastsWrongFalsely : Prop := requestLastsRow.holds Try.pinned (OpenSpec.ofChange requestLastsWrong)

/-- 'signalmanlaw16.RequestTells': WHATEVER THE INPUT: true; the input reads as it did. -/
def requestTellsSpec : ChangeSpec := { name := "requestTells", fn := fun _ => fun
  | [d1, d2, d3, d4, d5] => { results := [.lit (.bool true)], args := [d1, d2, d3, d4, d5] }
  | _ => none }
def requestTellsRow : OpenClaim := { program := "ytdlfjibbkcglpaa", sum := "471d718d59240ceaabf729344cff5fac8fe7f26548ad61a350f9c347aa15df47", func := "signalman/signalmanlaw16.RequestTells", spec := "requestTells", apart := false }
def RequestTellsSaid : Prop := requestTellsRow.holds Try.pinned (OpenSpec.ofChange requestTellsSpec)

/-- ITS FALSE NEIGHBOUR: 'it returns false'. Refute it at one input. -/
def requestTellsWrong : ChangeSpec := { name := "requestTells", fn := fun _ => fun
  | [d1, d2, d3, d4, d5] => { results := [.lit (.bool false)], args := [d1, d2, d3, d4, d5] }
  | _ => none }
def RequestTellsWrongFalsely : Prop := requestTellsRow.holds Try.pinned (OpenSpec.ofChange requestTellsWrong)

/-- 'signalmanlaw16.RequestRanks': WHATEVER THE INPUT: true; the input reads as it did. -/
def requestRanksSpec : ChangeSpec := { name := "requestRanks", fn := fun _ => fun
  | [d] => { results := [.lit (.bool true)], args := [d] }
  | _ => none }
def requestRanksRow : OpenClaim := { program := "ytdlfjibbkcglpaa", sum := "471d718d59240ceaabf729344cff5fac8fe7f26548ad61a350f9c347aa15df47", func := "signalman/signalmanlaw16.RequestRanks", spec := "requestRanks", apart := false }
def RequestRanksSaid : Prop := requestRanksRow.holds Try.pinned (OpenSpec.ofChange requestRanksSpec)

/-- ITS FALSE NEIGHBOUR: 'it returns false'. Refute it at one input. -/
def requestRanksWrong : ChangeSpec := { name := "requestRanks", fn := fun _ => fun
  | [d] => { results := [.lit (.bool false)], args := [d] }
  | _ => none }
def RequestRanksWrongFalsely : Prop := requestRanksRow.holds Try.pinned (OpenSpec.ofChange requestRanksWrong)

/- THE SECOND FORM. 'bulk': how many values and letters a reading holds, each counted each time it is reached (what is shared counts as often as it is met; a slice's spare places count too). A statement '..UptoSaid' is the law's where the arguments, and the package variables that the reading takes, are together of bulk at most 1048576: NARROWER than '..Said'. Prove '..Said' where nothing that the law and all that it calls make is longer than what came in: it says more and counts as full. Else prove '..UptoSaid'. A law counts once. -/
mutual
def uptoBulk {H : Type} : DataW H → Nat
  | .lit (.string bytes) => bytes.length + 1
  | .lit _ => 1
  | .nil => 1
  | .ptr d => uptoBulk d + 1
  | .slice elems spare => uptoBulkAll elems + uptoBulkAll spare + 1
  | .agg parts => uptoBulkAll parts + 1
  | .iface _ d => uptoBulk d + 1
  | .map entries => uptoBulkEntries entries + 1
  | .held _ => 1
def uptoBulkAll {H : Type} : List (DataW H) → Nat
  | [] => 0
  | d :: r => uptoBulk d + uptoBulkAll r
def uptoBulkEntries {H : Type} : List (Lit × DataW H) → Nat
  | [] => 0
  | x :: r => uptoBulkEntry x + uptoBulkEntries r
def uptoBulkEntry {H : Type} : Lit × DataW H → Nat
  | (.string bytes, d) => bytes.length + uptoBulk d + 1
  | (_, d) => uptoBulk d + 1
 end
def uptoSmall : (H : Type) → List (DataW H) → Bool := fun _ ds => decide (uptoBulkAll ds ≤ 1048576)
def OpenSpec.upto (s : _root_.Go.ChangeSpec) : _root_.Go.OpenSpec := { _root_.Go.OpenSpec.ofChange s with cond := some uptoSmall }

/-- 'signalmanlaw16.RequestAgrees', WHERE WHAT IT READS IS OF BULK AT MOST 1048576: true; the input reads as it did. -/
def requestAgreesUptoRow : OpenClaim := { program := "ytdlfjibbkcglpaa", sum := "471d718d59240ceaabf729344cff5fac8fe7f26548ad61a350f9c347aa15df47", func := "signalman/signalmanlaw16.RequestAgrees", spec := "requestAgrees", apart := false, narrowed := true }
def RequestAgreesUptoSaid : Prop := requestAgreesUptoRow.holds Try.pinned (OpenSpec.upto requestAgreesSpec)

/-- 'signalmanlaw16.RequestLasts', WHERE WHAT IT READS IS OF BULK AT MOST 1048576: true; the input reads as it did. -/
def requestLastsUptoRow : OpenClaim := { program := "ytdlfjibbkcglpaa", sum := "471d718d59240ceaabf729344cff5fac8fe7f26548ad61a350f9c347aa15df47", func := "signalman/signalmanlaw16.RequestLasts", spec := "requestLasts", apart := false, narrowed := true }
def RequestLastsUptoSaid : Prop := requestLastsUptoRow.holds Try.pinned (OpenSpec.upto requestLastsSpec)

/-- 'signalmanlaw16.RequestTells', WHERE WHAT IT READS IS OF BULK AT MOST 1048576: true; the input reads as it did. -/
def requestTellsUptoRow : OpenClaim := { program := "ytdlfjibbkcglpaa", sum := "471d718d59240ceaabf729344cff5fac8fe7f26548ad61a350f9c347aa15df47", func := "signalman/signalmanlaw16.RequestTells", spec := "requestTells", apart := false, narrowed := true }
def RequestTellsUptoSaid : Prop := requestTellsUptoRow.holds Try.pinned (OpenSpec.upto requestTellsSpec)

/-- 'signalmanlaw16.RequestRanks', WHERE WHAT IT READS IS OF BULK AT MOST 1048576: true; the input reads as it did. -/
def requestRanksUptoRow : OpenClaim := { program := "ytdlfjibbkcglpaa", sum := "471d718d59240ceaabf729344cff5fac8fe7f26548ad61a350f9c347aa15df47", func := "signalman/signalmanlaw16.RequestRanks", spec := "requestRanks", apart := false, narrowed := true }
def RequestRanksUptoSaid : Prop := requestRanksUptoRow.holds Try.pinned (OpenSpec.upto requestRanksSpec)

end Rows
end Go.Proofs.Ytdlfjibbkcglpaa
