/-
  No cell of these rows narrows 'for every input' (looked for: loops, veiled, ifaces, maps, wideKeys, modest, calm, conditions, laid).
  DERIVED. THE GIVEN ROWS OF THIS SEAT. 5 by the template 'for every input the law returns true; each argument reads behind the call as it read before'; 0 by the template 'total and deterministic' (their statements: YtnelcmblcalknaaTotals.lean).
  GIVEN WITH THE SEED: the statements are not yours to turn. If you find one false, say at which input.
  Laid BY PROGRAM, IN A SANDBOX (cutbox-rows.mjs): the forced cells as the released guide's own fill.sh prints them over the translation 4f2601226b69e916… (all of the seat's roots in one cut). By AI agents, Wed Nov 11 2026. No macro, syntax, notation, axiom, sorry.
-/
import Derived.Test.YtnelcmblcalknaaChecked
import GoSem.Claim
import GoSem.ClaimJoined
import GoSem.ClaimMapViews
import Derived.JoinedTies
import Derived.KernelRfl
namespace Go.Proofs.Ytnelcmblcalknaa
/- THE CELL 'sum', in the pinned program and in every row, IS THE sha256 OF THE DUMP (.gsa) THAT YtnelcmblcalknaaProg.lean LOADS. Nothing in Lean hashes anything: it is a label: what it is worth is what the hold of that sum in a sandbox is worth. -/
noncomputable def Try.pinned : Pinned := { name := "ytnelcmblcalknaa", sum := "4f2601226b69e9161b76dd63a7b8f13e6e459921706462f1c9780f2d58605773", checked := Try.checked }
namespace Rows
def none {H : Type} : Left H := { results := [], args := [] }

/-- 'signalmanlaw10.TwinsOnce': WHATEVER THE INPUT: true; the input reads as it did. -/
def twinsOnceSpec : ChangeSpec := { name := "twinsOnce", fn := fun _ => fun
  | [d1, d2, d3, d4, d5] => { results := [.lit (.bool true)], args := [d1, d2, d3, d4, d5] }
  | _ => none }
def twinsOnceRow : OpenClaim := { program := "ytnelcmblcalknaa", sum := "4f2601226b69e9161b76dd63a7b8f13e6e459921706462f1c9780f2d58605773", func := "signalman/signalmanlaw10.TwinsOnce", spec := "twinsOnce", apart := false }
def TwinsOnceSaid : Prop := twinsOnceRow.holds Try.pinned (OpenSpec.ofChange twinsOnceSpec)

/-- ITS FALSE NEIGHBOUR: 'it returns false'. Refute it at one input. -/
def twinsOnceWrong : ChangeSpec := { name := "twinsOnce", fn := fun _ => fun
  | [d1, d2, d3, d4, d5] => { results := [.lit (.bool false)], args := [d1, d2, d3, d4, d5] }
  | _ => none }
def TwinsOnceWrongFalsely : Prop := twinsOnceRow.holds Try.pinned (OpenSpec.ofChange twinsOnceWrong)

/-- 'signalmanlaw10.TwinsMoves': WHATEVER THE INPUT: true; the input reads as it did. -/
def twinsMovesSpec : ChangeSpec := { name := "twinsMoves", fn := fun _ => fun
  | [d1, d2, d3] => { results := [.lit (.bool true)], args := [d1, d2, d3] }
  | _ => none }
def twinsMovesRow : OpenClaim := { program := "ytnelcmblcalknaa", sum := "4f2601226b69e9161b76dd63a7b8f13e6e459921706462f1c9780f2d58605773", func := "signalman/signalmanlaw10.TwinsMoves", spec := "twinsMoves", apart := false }
def TwinsMovesSaid : Prop := twinsMovesRow.holds Try.pinned (OpenSpec.ofChange twinsMovesSpec)

/-- ITS FALSE NEIGHBOUR: 'it returns false'. Refute it at one input. -/
def twinsMovesWrong : ChangeSpec := { name := "twinsMoves", fn := fun _ => fun
  | [d1, d2, d3] => { results := [.lit (.bool false)], args := [d1, d2, d3] }
  | _ => none }
def TwinsMovesWrongFalsely : Prop := twinsMovesRow.holds Try.pinned (OpenSpec.ofChange twinsMovesWrong)

/-- 'signalmanlaw10.TwinsTwice': WHATEVER THE INPUT: true; the input reads as it did. -/
def twinsTwiceSpec : ChangeSpec := { name := "twinsTwice", fn := fun _ => fun
  | [d1, d2] => { results := [.lit (.bool true)], args := [d1, d2] }
  | _ => none }
def twinsTwiceRow : OpenClaim := { program := "ytnelcmblcalknaa", sum := "4f2601226b69e9161b76dd63a7b8f13e6e459921706462f1c9780f2d58605773", func := "signalman/signalmanlaw10.TwinsTwice", spec := "twinsTwice", apart := false }
def TwinsTwiceSaid : Prop := twinsTwiceRow.holds Try.pinned (OpenSpec.ofChange twinsTwiceSpec)

/-- ITS FALSE NEIGHBOUR: 'it returns false'. Refute it at one input. -/
def twinsTwiceWrong : ChangeSpec := { name := "twinsTwice", fn := fun _ => fun
  | [d1, d2] => { results := [.lit (.bool false)], args := [d1, d2] }
  | _ => none }
def TwinsTwiceWrongFalsely : Prop := twinsTwiceRow.holds Try.pinned (OpenSpec.ofChange twinsTwiceWrong)

/-- 'signalmanlaw10.TwinsBehind': WHATEVER THE INPUT: true; the input reads as it did. -/
def twinsBehindSpec : ChangeSpec := { name := "twinsBehind", fn := fun _ => fun
  | [d1, d2, d3] => { results := [.lit (.bool true)], args := [d1, d2, d3] }
  | _ => none }
def twinsBehindRow : OpenClaim := { program := "ytnelcmblcalknaa", sum := "4f2601226b69e9161b76dd63a7b8f13e6e459921706462f1c9780f2d58605773", func := "signalman/signalmanlaw10.TwinsBehind", spec := "twinsBehind", apart := false }
def TwinsBehindSaid : Prop := twinsBehindRow.holds Try.pinned (OpenSpec.ofChange twinsBehindSpec)

/-- ITS FALSE NEIGHBOUR: 'it returns false'. Refute it at one input. -/
def twinsBehindWrong : ChangeSpec := { name := "twinsBehind", fn := fun _ => fun
  | [d1, d2, d3] => { results := [.lit (.bool false)], args := [d1, d2, d3] }
  | _ => none }
def TwinsBehindWrongFalsely : Prop := twinsBehindRow.holds Try.pinned (OpenSpec.ofChange twinsBehindWrong)

/-- 'signalmanlaw10.TwinsPlay': WHATEVER THE INPUT: true; the input reads as it did. -/
def twinsPlaySpec : ChangeSpec := { name := "twinsPlay", fn := fun _ => fun
  | [d1, d2, d3] => { results := [.lit (.bool true)], args := [d1, d2, d3] }
  | _ => none }
def twinsPlayRow : OpenClaim := { program := "ytnelcmblcalknaa", sum := "4f2601226b69e9161b76dd63a7b8f13e6e459921706462f1c9780f2d58605773", func := "signalman/signalmanlaw10.TwinsPlay", spec := "twinsPlay", apart := false }
def TwinsPlaySaid : Prop := twinsPlayRow.holds Try.pinned (OpenSpec.ofChange twinsPlaySpec)

/-- ITS FALSE NEIGHBOUR: 'it returns false'. Refute it at one input. -/
def twinsPlayWrong : ChangeSpec := { name := "twinsPlay", fn := fun _ => fun
  | [d1, d2, d3] => { results := [.lit (.bool false)], args := [d1, d2, d3] }
  | _ => none }
def TwinsPlayWrongFalsely : Prop := twinsPlayRow.holds Try.pinned (OpenSpec.ofChange twinsPlayWrong)

/- THE SECOND FORM. 'bulk': how many values and letters a reading holds, each counted each time it is reached (what is shared counts as often as it is met; a slice's spare places count too). A statement '..UptoSaid' is the law's where the arguments, and the package variables that the reading takes, are together of bulk at most 1048576: NARROWER than '..Said'. Prove '..Said' where nothing that the law and all that it calls make is longer than what came in: it says more and counts as full. Else prove '..UptoSaid'. A law counts once. -/
mutual
def uptoBulk {H : Type} : DataW H → Nat
  | .lit (.string bytes) => bytes.length + 1
  | .lit _ => 1
  | .nil => 1
  | .ptr d => uptoBulk d + 1
  | .slice elems spare => uptoBulkAll elems + uptoBulkAll spare + 1
  | .agg parts => uptoBulkAll parts + 1
  | .iface _ d => uptoBulk d + 1
  | .map entries => uptoBulkEntries entries + 1
  | .held _ => 1
def uptoBulkAll {H : Type} : List (DataW H) → Nat
  | [] => 0
  | d :: r => uptoBulk d + uptoBulkAll r
def uptoBulkEntries {H : Type} : List (Lit × DataW H) → Nat
  | [] => 0
  | x :: r => uptoBulkEntry x + uptoBulkEntries r
def uptoBulkEntry {H : Type} : Lit × DataW H → Nat
  | (.string bytes, d) => bytes.length + uptoBulk d + 1
  | (_, d) => uptoBulk d + 1
 end
def uptoSmall : (H : Type) → List (DataW H) → Bool := fun _ ds => decide (uptoBulkAll ds ≤ 1048576)
def OpenSpec.upto (s : _root_.Go.ChangeSpec) : _root_.Go.OpenSpec := { _root_.Go.OpenSpec.ofChange s with cond := some uptoSmall }

/-- 'signalmanlaw10.TwinsOnce', WHERE WHAT IT READS IS OF BULK AT MOST 1048576: true; the input reads as it did. -/
def twinsOnceUptoRow : OpenClaim := { program := "ytnelcmblcalknaa", sum := "4f2601226b69e9161b76dd63a7b8f13e6e459921706462f1c9780f2d58605773", func := "signalman/signalmanlaw10.TwinsOnce", spec := "twinsOnce", apart := false, narrowed := true }
def TwinsOnceUptoSaid : Prop := twinsOnceUptoRow.holds Try.pinned (OpenSpec.upto twinsOnceSpec)

/-- 'signalmanlaw10.TwinsMoves', WHERE WHAT IT READS IS OF BULK AT MOST 1048576: true; the input reads as it did. -/
def twinsMovesUptoRow : OpenClaim := { program := "ytnelcmblcalknaa", sum := "4f2601226b69e9161b76dd63a7b8f13e6e459921706462f1c9780f2d58605773", func := "signalman/signalmanlaw10.TwinsMoves", spec := "twinsMoves", apart := false, narrowed := true }
def TwinsMovesUptoSaid : Prop := twinsMovesUptoRow.holds Try.pinned (OpenSpec.upto twinsMovesSpec)

/-- 'signalmanlaw10.TwinsTwice', WHERE WHAT IT READS IS OF BULK AT MOST 1048576: true; the input reads as it did. -/
def twinsTwiceUptoRow : OpenClaim := { program := "ytnelcmblcalknaa", sum := "4f2601226b69e9161b76dd63a7b8f13e6e459921706462f1c9780f2d58605773", func := "signalman/signalmanlaw10.TwinsTwice", spec := "twinsTwice", apart := false, narrowed := true }
def TwinsTwiceUptoSaid : Prop := twinsTwiceUptoRow.holds Try.pinned (OpenSpec.upto twinsTwiceSpec)

/-- 'signalmanlaw10.TwinsBehind', WHERE WHAT IT READS IS OF BULK AT MOST 1048576: true; the input reads as it did. -/
def twinsBehindUptoRow : OpenClaim := { program := "ytnelcmblcalknaa", sum := "4f2601226b69e9161b76dd63a7b8f13e6e459921706462f1c9780f2d58605773", func := "signalman/signalmanlaw10.TwinsBehind", spec := "twinsBehind", apart := false, narrowed := true }
def TwinsBehindUptoSaid : Prop := twinsBehindUptoRow.holds Try.pinned (OpenSpec.upto twinsBehindSpec)

/-- 'signalmanlaw10.TwinsPlay', WHERE WHAT IT READS IS OF BULK AT MOST 1048576: true; the input reads as it did. -/
def twinsPlayUptoRow : OpenClaim := { program := "ytnelcmblcalknaa", sum := "4f2601226b69e9161b76dd63a7b8f13e6e459921706462f1c9780f2d58605773", func := "signalman/signalmanlaw10.TwinsPlay", spec := "twinsPlay", apart := false, narrowed := true }
def TwinsPlayUptoSaid : Prop := twinsPlayUptoRow.holds Try.pinned (OpenSpec.upto twinsPlaySpec)

end Rows
end Go.Proofs.Ytnelcmblcalknaa
