/-
  No cell of these rows narrows 'for every input' (looked for: loops, veiled, ifaces, maps, wideKeys, modest, calm, conditions, laid).
  DERIVED. THE GIVEN ROWS OF THIS SEAT. 6 by the template 'for every input the law returns true; each argument reads behind the call as it read before'; 0 by the template 'total and deterministic' (their statements: YtpfblfepgppinaaTotals.lean).
  GIVEN WITH THE SEED: the statements are not yours to turn. If you find one false, say at which input.
  Laid BY PROGRAM, IN A SANDBOX (cutbox-rows.mjs): the forced cells as the released guide's own fill.sh prints them over the translation 4f94a546ac799ef2… (all of the seat's roots in one cut). By AI agents, Wed Nov 11 2026. No macro, syntax, notation, axiom, sorry.
-/
import Derived.Test.YtpfblfepgppinaaChecked
import GoSem.Claim
import GoSem.ClaimJoined
import GoSem.ClaimMapViews
import Derived.JoinedTies
import Derived.KernelRfl
namespace Go.Proofs.Ytpfblfepgppinaa
/- THE CELL 'sum', in the pinned program and in every row, IS THE sha256 OF THE DUMP (.gsa) THAT YtpfblfepgppinaaProg.lean LOADS. Nothing in Lean hashes anything: it is a label: what it is worth is what the hold of that sum in a sandbox is worth. -/
noncomputable def Try.pinned : Pinned := { name := "ytpfblfepgppinaa", sum := "4f94a546ac799ef296a9dfb15d3206ea588b038abce66d468f822b539903198d", checked := Try.checked }
namespace Rows
def none {H : Type} : Left H := { results := [], args := [] }

/-- 'signalmanlaw2.FcsLinear': WHATEVER THE INPUT: true; the input reads as it did. -/
def fcsLinearSpec : ChangeSpec := { name := "fcsLinear", fn := fun _ => fun
  | [d1, d2, d3] => { results := [.lit (.bool true)], args := [d1, d2, d3] }
  | _ => none }
def fcsLinearRow : OpenClaim := { program := "ytpfblfepgppinaa", sum := "4f94a546ac799ef296a9dfb15d3206ea588b038abce66d468f822b539903198d", func := "signalman/signalmanlaw2.FcsLinear", spec := "fcsLinear", apart := false }
def FcsLinearSaid : Prop := fcsLinearRow.holds Try.pinned (OpenSpec.ofChange fcsLinearSpec)

/-- ITS FALSE NEIGHBOUR: 'it returns false'. Refute it at one input. -/
def fcsLinearWrong : ChangeSpec := { name := "fcsLinear", fn := fun _ => fun
  | [d1, d2, d3] => { results := [.lit (.bool false)], args := [d1, d2, d3] }
  | _ => none }
def FcsLinearWrongFalsely : Prop := fcsLinearRow.holds Try.pinned (OpenSpec.ofChange fcsLinearWrong)

/-- 'signalmanlaw2.FcsKnown': WHATEVER THE INPUT: true; the input reads as it did. -/
def fcsKnownSpec : ChangeSpec := { name := "fcsKnown", fn := fun _ => fun
  | [d] => { results := [.lit (.bool true)], args := [d] }
  | _ => none }
def fcsKnownRow : OpenClaim := { program := "ytpfblfepgppinaa", sum := "4f94a546ac799ef296a9dfb15d3206ea588b038abce66d468f822b539903198d", func := "signalman/signalmanlaw2.FcsKnown", spec := "fcsKnown", apart := false }
def FcsKnownSaid : Prop := fcsKnownRow.holds Try.pinned (OpenSpec.ofChange fcsKnownSpec)

/-- ITS FALSE NEIGHBOUR: 'it returns false'. Refute it at one input. -/
def fcsKnownWrong : ChangeSpec := { name := "fcsKnown", fn := fun _ => fun
  | [d] => { results := [.lit (.bool false)], args := [d] }
  | _ => none }
def FcsKnownWrongFalsely : Prop := fcsKnownRow.holds Try.pinned (OpenSpec.ofChange fcsKnownWrong)

/-- 'signalmanlaw2.FcsRest': WHATEVER THE INPUT: true; the input reads as it did. -/
def fcsRestSpec : ChangeSpec := { name := "fcsRest", fn := fun _ => fun
  | [d] => { results := [.lit (.bool true)], args := [d] }
  | _ => none }
def fcsRestRow : OpenClaim := { program := "ytpfblfepgppinaa", sum := "4f94a546ac799ef296a9dfb15d3206ea588b038abce66d468f822b539903198d", func := "signalman/signalmanlaw2.FcsRest", spec := "fcsRest", apart := false }
def FcsRestSaid : Prop := fcsRestRow.holds Try.pinned (OpenSpec.ofChange fcsRestSpec)

/-- ITS FALSE NEIGHBOUR: 'it returns false'. Refute it at one input. -/
def fcsRestWrong : ChangeSpec := { name := "fcsRest", fn := fun _ => fun
  | [d] => { results := [.lit (.bool false)], args := [d] }
  | _ => none }
def FcsRestWrongFalsely : Prop := fcsRestRow.holds Try.pinned (OpenSpec.ofChange fcsRestWrong)

/-- 'signalmanlaw2.FcsChecks': WHATEVER THE INPUT: true; the input reads as it did. -/
def fcsChecksSpec : ChangeSpec := { name := "fcsChecks", fn := fun _ => fun
  | [d1, d2] => { results := [.lit (.bool true)], args := [d1, d2] }
  | _ => none }
def fcsChecksRow : OpenClaim := { program := "ytpfblfepgppinaa", sum := "4f94a546ac799ef296a9dfb15d3206ea588b038abce66d468f822b539903198d", func := "signalman/signalmanlaw2.FcsChecks", spec := "fcsChecks", apart := false }
def FcsChecksSaid : Prop := fcsChecksRow.holds Try.pinned (OpenSpec.ofChange fcsChecksSpec)

/-- ITS FALSE NEIGHBOUR: 'it returns false'. Refute it at one input. -/
def fcsChecksWrong : ChangeSpec := { name := "fcsChecks", fn := fun _ => fun
  | [d1, d2] => { results := [.lit (.bool false)], args := [d1, d2] }
  | _ => none }
def FcsChecksWrongFalsely : Prop := fcsChecksRow.holds Try.pinned (OpenSpec.ofChange fcsChecksWrong)

/-- 'signalmanlaw2.FcsTurns': WHATEVER THE INPUT: true; the input reads as it did. -/
def fcsTurnsSpec : ChangeSpec := { name := "fcsTurns", fn := fun _ => fun
  | [d1, d2, d3, d4] => { results := [.lit (.bool true)], args := [d1, d2, d3, d4] }
  | _ => none }
def fcsTurnsRow : OpenClaim := { program := "ytpfblfepgppinaa", sum := "4f94a546ac799ef296a9dfb15d3206ea588b038abce66d468f822b539903198d", func := "signalman/signalmanlaw2.FcsTurns", spec := "fcsTurns", apart := false }
def FcsTurnsSaid : Prop := fcsTurnsRow.holds Try.pinned (OpenSpec.ofChange fcsTurnsSpec)

/-- ITS FALSE NEIGHBOUR: 'it returns false'. Refute it at one input. -/
def fcsTurnsWrong : ChangeSpec := { name := "fcsTurns", fn := fun _ => fun
  | [d1, d2, d3, d4] => { results := [.lit (.bool false)], args := [d1, d2, d3, d4] }
  | _ => none }
def FcsTurnsWrongFalsely : Prop := fcsTurnsRow.holds Try.pinned (OpenSpec.ofChange fcsTurnsWrong)

/-- 'signalmanlaw2.FcsSums': WHATEVER THE INPUT: true; the input reads as it did. -/
def fcsSumsSpec : ChangeSpec := { name := "fcsSums", fn := fun _ => fun
  | [d1, d2] => { results := [.lit (.bool true)], args := [d1, d2] }
  | _ => none }
def fcsSumsRow : OpenClaim := { program := "ytpfblfepgppinaa", sum := "4f94a546ac799ef296a9dfb15d3206ea588b038abce66d468f822b539903198d", func := "signalman/signalmanlaw2.FcsSums", spec := "fcsSums", apart := false }
def FcsSumsSaid : Prop := fcsSumsRow.holds Try.pinned (OpenSpec.ofChange fcsSumsSpec)

/-- ITS FALSE NEIGHBOUR: 'it returns false'. Refute it at one input. -/
def fcsSumsWrong : ChangeSpec := { name := "fcsSums", fn := fun _ => fun
  | [d1, d2] => { results := [.lit (.bool false)], args := [d1, d2] }
  | _ => none }
def FcsSumsWrongFalsely : Prop := fcsSumsRow.holds Try.pinned (OpenSpec.ofChange fcsSumsWrong)

/- THE SECOND FORM. 'bulk': how many values and letters a reading holds, each counted each time it is reached (what is shared counts as often as it is met; a slice's spare places count too). A statement '..UptoSaid' is the law's where the arguments, and the package variables that the reading takes, are together of bulk at most 1048576: NARROWER than '..Said'. Prove '..Said' where nothing that the law and all that it calls make is longer than what came in: it says more and counts as full. Else prove '..UptoSaid'. A law counts once. -/
mutual
def uptoBulk {H : Type} : DataW H → Nat
  | .lit (.string bytes) => bytes.length + 1
  | .lit _ => 1
  | .nil => 1
  | .ptr d => uptoBulk d + 1
  | .slice elems spare => uptoBulkAll elems + uptoBulkAll spare + 1
  | .agg parts => uptoBulkAll parts + 1
  | .iface _ d => uptoBulk d + 1
  | .map entries => uptoBulkEntries entries + 1
  | .held _ => 1
def uptoBulkAll {H : Type} : List (DataW H) → Nat
  | [] => 0
  | d :: r => uptoBulk d + uptoBulkAll r
def uptoBulkEntries {H : Type} : List (Lit × DataW H) → Nat
  | [] => 0
  | x :: r => uptoBulkEntry x + uptoBulkEntries r
def uptoBulkEntry {H : Type} : Lit × DataW H → Nat
  | (.string bytes, d) => bytes.length + uptoBulk d + 1
  | (_, d) => uptoBulk d + 1
 end
def uptoSmall : (H : Type) → List (DataW H) → Bool := fun _ ds => decide (uptoBulkAll ds ≤ 1048576)
def OpenSpec.upto (s : _root_.Go.ChangeSpec) : _root_.Go.OpenSpec := { _root_.Go.OpenSpec.ofChange s with cond := some uptoSmall }

/-- 'signalmanlaw2.FcsLinear', WHERE WHAT IT READS IS OF BULK AT MOST 1048576: true; the input reads as it did. -/
def fcsLinearUptoRow : OpenClaim := { program := "ytpfblfepgppinaa", sum := "4f94a546ac799ef296a9dfb15d3206ea588b038abce66d468f822b539903198d", func := "signalman/signalmanlaw2.FcsLinear", spec := "fcsLinear", apart := false, narrowed := true }
def FcsLinearUptoSaid : Prop := fcsLinearUptoRow.holds Try.pinned (OpenSpec.upto fcsLinearSpec)

/-- 'signalmanlaw2.FcsKnown', WHERE WHAT IT READS IS OF BULK AT MOST 1048576: true; the input reads as it did. -/
def fcsKnownUptoRow : OpenClaim := { program := "ytpfblfepgppinaa", sum := "4f94a546ac799ef296a9dfb15d3206ea588b038abce66d468f822b539903198d", func := "signalman/signalmanlaw2.FcsKnown", spec := "fcsKnown", apart := false, narrowed := true }
def FcsKnownUptoSaid : Prop := fcsKnownUptoRow.holds Try.pinned (OpenSpec.upto fcsKnownSpec)

/-- 'signalmanlaw2.FcsRest', WHERE WHAT IT READS IS OF BULK AT MOST 1048576: true; the input reads as it did. -/
def fcsRestUptoRow : OpenClaim := { program := "ytpfblfepgppinaa", sum := "4f94a546ac799ef296a9dfb15d3206ea588b038abce66d468f822b539903198d", func := "signalman/signalmanlaw2.FcsRest", spec := "fcsRest", apart := false, narrowed := true }
def FcsRestUptoSaid : Prop := fcsRestUptoRow.holds Try.pinned (OpenSpec.upto fcsRestSpec)

/-- 'signalmanlaw2.FcsChecks', WHERE WHAT IT READS IS OF BULK AT MOST 1048576: true; the input reads as it did. -/
def fcsChecksUptoRow : OpenClaim := { program := "ytpfblfepgppinaa", sum := "4f94a546ac799ef296a9dfb15d3206ea588b038abce66d468f822b539903198d", func := "signalman/signalmanlaw2.FcsChecks", spec := "fcsChecks", apart := false, narrowed := true }
def FcsChecksUptoSaid : Prop := fcsChecksUptoRow.holds Try.pinned (OpenSpec.upto fcsChecksSpec)

/-- 'signalmanlaw2.FcsTurns', WHERE WHAT IT READS IS OF BULK AT MOST 1048576: true; the input reads as it did. -/
def fcsTurnsUptoRow : OpenClaim := { program := "ytpfblfepgppinaa", sum := "4f94a546ac799ef296a9dfb15d3206ea588b038abce66d468f822b539903198d", func := "signalman/signalmanlaw2.FcsTurns", spec := "fcsTurns", apart := false, narrowed := true }
def FcsTurnsUptoSaid : Prop := fcsTurnsUptoRow.holds Try.pinned (OpenSpec.upto fcsTurnsSpec)

/-- 'signalmanlaw2.FcsSums', WHERE WHAT IT READS IS OF BULK AT MOST 1048576: true; the input reads as it did. -/
def fcsSumsUptoRow : OpenClaim := { program := "ytpfblfepgppinaa", sum := "4f94a546ac799ef296a9dfb15d3206ea588b038abce66d468f822b539903198d", func := "signalman/signalmanlaw2.FcsSums", spec := "fcsSums", apart := false, narrowed := true }
def FcsSumsUptoSaid : Prop := fcsSumsUptoRow.holds Try.pinned (OpenSpec.upto fcsSumsSpec)

end Rows
end Go.Proofs.Ytpfblfepgppinaa
