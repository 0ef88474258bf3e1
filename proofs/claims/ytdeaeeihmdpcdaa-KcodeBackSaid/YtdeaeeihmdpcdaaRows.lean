/-
  No cell of these rows narrows 'for every input' (looked for: loops, veiled, ifaces, maps, wideKeys, modest, calm, conditions, laid).
  DERIVED. THE GIVEN ROWS OF THIS SEAT. 2 by the template 'for every input the law returns true; each argument reads behind the call as it read before'; 0 by the template 'total and deterministic' (their statements: YtdeaeeihmdpcdaaTotals.lean).
  GIVEN WITH THE SEED: the statements are not yours to turn. If you find one false, say at which input.
  Laid BY PROGRAM, IN A SANDBOX (cutbox-rows.mjs): the forced cells as the released guide's own fill.sh prints them over the translation 71d9ee90ac68d1b5… (all of the seat's roots in one cut). By AI agents, Wed Nov 11 2026. No macro, syntax, notation, axiom, sorry.
-/
import Derived.Test.YtdeaeeihmdpcdaaChecked
import GoSem.Claim
import GoSem.ClaimJoined
import GoSem.ClaimMapViews
import Derived.JoinedTies
import Derived.KernelRfl
namespace Go.Proofs.Ytdeaeeihmdpcdaa
/- THE CELL 'sum', in the pinned program and in every row, IS THE sha256 OF THE DUMP (.gsa) THAT YtdeaeeihmdpcdaaProg.lean LOADS. Nothing in Lean hashes anything: it is a label: what it is worth is what the hold of that sum in a sandbox is worth. -/
noncomputable def Try.pinned : Pinned := { name := "ytdeaeeihmdpcdaa", sum := "71d9ee90ac68d1b58fd1a3da1230bafe2b52205133ccc810d2391028bdc00113", checked := Try.checked }
namespace Rows
def none {H : Type} : Left H := { results := [], args := [] }

/-- 'signalmanlaw17.KcodeTells': WHATEVER THE INPUT: true; the input reads as it did. -/
def kcodeTellsSpec : ChangeSpec := { name := "kcodeTells", fn := fun _ => fun
  | [d1, d2, d3] => { results := [.lit (.bool true)], args := [d1, d2, d3] }
  | _ => none }
def kcodeTellsRow : OpenClaim := { program := "ytdeaeeihmdpcdaa", sum := "71d9ee90ac68d1b58fd1a3da1230bafe2b52205133ccc810d2391028bdc00113", func := "signalman/signalmanlaw17.KcodeTells", spec := "kcodeTells", apart := false }
def KcodeTellsSaid : Prop := kcodeTellsRow.holds Try.pinned (OpenSpec.ofChange kcodeTellsSpec)

/-- ITS FALSE NEIGHBOUR: 'it returns false'. Refute it at one input. -/
def kcodeTellsWrong : ChangeSpec := { name := "kcodeTells", fn := fun _ => fun
  | [d1, d2, d3] => { results := [.lit (.bool false)], args := [d1, d2, d3] }
  | _ => none }
def KcodeTellsWrongFalsely : Prop := kcodeTellsRow.holds Try.pinned (OpenSpec.ofChange kcodeTellsWrong)

/-- 'signalmanlaw17.KcodeBack': WHATEVER THE INPUT: true; the input reads as it did. -/
def kcodeBackSpec : ChangeSpec := { name := "kcodeBack", fn := fun _ => fun
  | [d1, d2, d3] => { results := [.lit (.bool true)], args := [d1, d2, d3] }
  | _ => none }
def kcodeBackRow : OpenClaim := { program := "ytdeaeeihmdpcdaa", sum := "71d9ee90ac68d1b58fd1a3da1230bafe2b52205133ccc810d2391028bdc00113", func := "signalman/signalmanlaw17.KcodeBack", spec := "kcodeBack", apart := false }
def KcodeBackSaid : Prop := kcodeBackRow.holds Try.pinned (OpenSpec.ofChange kcodeBackSpec)

/-- ITS FALSE NEIGHBOUR: 'it returns false'. Refute it at one input. -/
def kcodeBackWrong : ChangeSpec := { name := "kcodeBack", fn := fun _ => fun
  | [d1, d2, d3] => { results := [.lit (.bool false)], args := [d1, d2, d3] }
  | _ => none }
def KcodeBackWrongFalsely : Prop := kcodeBackRow.holds Try.pinned (OpenSpec.ofChange kcodeBackWrong)

/- THE SECOND FORM. 'bulk': how many values and letters a reading holds, each counted each time it is reached (what is shared counts as often as it is met; a slice's spare places count too). A statement '..UptoSaid' is the law's where the arguments, and the package variables that the reading takes, are together of bulk at most 1048576: NARROWER than '..Said'. Prove '..Said' where nothing that the law and all that it calls make is longer than what came in: it says more and counts as full. Else prove '..UptoSaid'. A law counts once. -/
mutual
def uptoBulk {H : Type} : DataW H → Nat
  | .lit (.string bytes) => bytes.length + 1
  | .lit _ => 1
  | .nil => 1
  | .ptr d => uptoBulk d + 1
  | .slice elems spare => uptoBulkAll elems + uptoBulkAll spare + 1
  | .agg parts => uptoBulkAll parts + 1
  | .iface _ d => uptoBulk d + 1
  | .map entries => uptoBulkEntries entries + 1
  | .held _ => 1
def uptoBulkAll {H : Type} : List (DataW H) → Nat
  | [] => 0
  | d :: r => uptoBulk d + uptoBulkAll r
def uptoBulkEntries {H : Type} : List (Lit × DataW H) → Nat
  | [] => 0
  | x :: r => uptoBulkEntry x + uptoBulkEntries r
def uptoBulkEntry {H : Type} : Lit × DataW H → Nat
  | (.string bytes, d) => bytes.length + uptoBulk d + 1
  | (_, d) => uptoBulk d + 1
 end
def uptoSmall : (H : Type) → List (DataW H) → Bool := fun _ ds => decide (uptoBulkAll ds ≤ 1048576)
def OpenSpec.upto (s : _root_.Go.ChangeSpec) : _root_.Go.OpenSpec := { _root_.Go.OpenSpec.ofChange s with cond := some uptoSmall }

/-- 'signalmanlaw17.KcodeTells', WHERE WHAT IT READS IS OF BULK AT MOST 1048576: true; the input reads as it did. -/
def kcodeTellsUptoRow : OpenClaim := { program := "ytdeaeeihmdpcdaa", sum := "71d9ee90ac68d1b58fd1a3da1230bafe2b52205133ccc810d2391028bdc00113", func := "signalman/signalmanlaw17.KcodeTells", spec := "kcodeTells", apart := false, narrowed := true }
def KcodeTellsUptoSaid : Prop := kcodeTellsUptoRow.holds Try.pinned (OpenSpec.upto kcodeTellsSpec)

/-- 'signalmanlaw17.KcodeBack', WHERE WHAT IT READS IS OF BULK AT MOST 1048576: true; the input reads as it did. -/
def kcodeBackUptoRow : OpenClaim := { program := "ytdeaeeihmdpcdaa", sum := "71d9ee90ac68d1b58fd1a3da1230bafe2b52205133ccc810d2391028bdc00113", func := "signalman/signalmanlaw17.KcodeBack", spec := "kcodeBack", apart := false, narrowed := true }
def KcodeBackUptoSaid : Prop := kcodeBackUptoRow.holds Try.pinned (OpenSpec.upto kcodeBackSpec)

end Rows
end Go.Proofs.Ytdeaeeihmdpcdaa
