/-
  No cell of these rows narrows 'for every input' (looked for: loops, veiled, ifaces, maps, wideKeys, modest, calm, conditions, laid).
  DERIVED. THE GIVEN ROWS OF THIS SEAT. 3 by the template 'for every input the law returns true; each argument reads behind the call as it read before'; 0 by the template 'total and deterministic' (their statements: YtoaoebkllcmanaaTotals.lean).
  GIVEN WITH THE SEED: the statements are not yours to turn. If you find one false, say at which input.
  Laid BY PROGRAM, IN A SANDBOX (cutbox-rows.mjs): the forced cells as the released guide's own fill.sh prints them over the translation ad7a21f0a2cd0bb4… (all of the seat's roots in one cut). By AI agents, Wed Nov 11 2026. No macro, syntax, notation, axiom, sorry.
-/
import Derived.Test.YtoaoebkllcmanaaChecked
import GoSem.Claim
import GoSem.ClaimJoined
import GoSem.ClaimMapViews
import Derived.JoinedTies
import Derived.KernelRfl
namespace Go.Proofs.Ytoaoebkllcmanaa
/- THE CELL 'sum', in the pinned program and in every row, IS THE sha256 OF THE DUMP (.gsa) THAT YtoaoebkllcmanaaProg.lean LOADS. Nothing in Lean hashes anything: it is a label: what it is worth is what the hold of that sum in a sandbox is worth. -/
noncomputable def Try.pinned : Pinned := { name := "ytoaoebkllcmanaa", sum := "ad7a21f0a2cd0bb473353e749eb0e91944b834bcf92c536fd42ac0f0decb5953", checked := Try.checked }
namespace Rows
def none {H : Type} : Left H := { results := [], args := [] }

/-- 'signalmanlaw6.TallyLasts': WHATEVER THE INPUT: true; the input reads as it did. -/
def tallyLastsSpec : ChangeSpec := { name := "tallyLasts", fn := fun _ => fun
  | [d1, d2] => { results := [.lit (.bool true)], args := [d1, d2] }
  | _ => none }
def tallyLastsRow : OpenClaim := { program := "ytoaoebkllcmanaa", sum := "ad7a21f0a2cd0bb473353e749eb0e91944b834bcf92c536fd42ac0f0decb5953", func := "signalman/signalmanlaw6.TallyLasts", spec := "tallyLasts", apart := false }
def TallyLastsSaid : Prop := tallyLastsRow.holds Try.pinned (OpenSpec.ofChange tallyLastsSpec)

/-- ITS FALSE NEIGHBOUR: 'it returns false'. Refute it at one input. -/
def tallyLastsWrong : ChangeSpec := { name := "tallyLasts", fn := fun _ => fun
  | [d1, d2] => { results := [.lit (.bool false)], args := [d1, d2] }
  | _ => none }
def TallyLastsWrongFalsely : Prop := tallyLastsRow.holds Try.pinned (OpenSpec.ofChange tallyLastsWrong)

/-- 'signalmanlaw6.TallyWindows': WHATEVER THE INPUT: true; the input reads as it did. -/
def tallyWindowsSpec : ChangeSpec := { name := "tallyWindows", fn := fun _ => fun
  | [d1, d2] => { results := [.lit (.bool true)], args := [d1, d2] }
  | _ => none }
def tallyWindowsRow : OpenClaim := { program := "ytoaoebkllcmanaa", sum := "ad7a21f0a2cd0bb473353e749eb0e91944b834bcf92c536fd42ac0f0decb5953", func := "signalman/signalmanlaw6.TallyWindows", spec := "tallyWindows", apart := false }
def TallyWindowsSaid : Prop := tallyWindowsRow.holds Try.pinned (OpenSpec.ofChange tallyWindowsSpec)

/-- ITS FALSE NEIGHBOUR: 'it returns false'. Refute it at one input. -/
def tallyWindowsWrong : ChangeSpec := { name := "tallyWindows", fn := fun _ => fun
  | [d1, d2] => { results := [.lit (.bool false)], args := [d1, d2] }
  | _ => none }
def TallyWindowsWrongFalsely : Prop := tallyWindowsRow.holds Try.pinned (OpenSpec.ofChange tallyWindowsWrong)

/-- 'signalmanlaw6.TallyParts': WHATEVER THE INPUT: true; the input reads as it did. -/
def tallyPartsSpec : ChangeSpec := { name := "tallyParts", fn := fun _ => fun
  | [d1, d2, d3, d4] => { results := [.lit (.bool true)], args := [d1, d2, d3, d4] }
  | _ => none }
def tallyPartsRow : OpenClaim := { program := "ytoaoebkllcmanaa", sum := "ad7a21f0a2cd0bb473353e749eb0e91944b834bcf92c536fd42ac0f0decb5953", func := "signalman/signalmanlaw6.TallyParts", spec := "tallyParts", apart := false }
def TallyPartsSaid : Prop := tallyPartsRow.holds Try.pinned (OpenSpec.ofChange tallyPartsSpec)

/-- ITS FALSE NEIGHBOUR: 'it returns false'. Refute it at one input. -/
def tallyPartsWrong : ChangeSpec := { name := "tallyParts", fn := fun _ => fun
  | [d1, d2, d3, d4] => { results := [.lit (.bool false)], args := [d1, d2, d3, d4] }
  | _ => none }
def TallyPartsWrongFalsely : Prop := tallyPartsRow.holds Try.pinned (OpenSpec.ofChange tallyPartsWrong)

/- THE SECOND FORM. 'bulk': how many values and letters a reading holds, each counted each time it is reached (what is shared counts as often as it is met; a slice's spare places count too). A statement '..UptoSaid' is the law's where the arguments, and the package variables that the reading takes, are together of bulk at most 1048576: NARROWER than '..Said'. Prove '..Said' where nothing that the law and all that it calls make is longer than what came in: it says more and counts as full. Else prove '..UptoSaid'. A law counts once. -/
mutual
def uptoBulk {H : Type} : DataW H → Nat
  | .lit (.string bytes) => bytes.length + 1
  | .lit _ => 1
  | .nil => 1
  | .ptr d => uptoBulk d + 1
  | .slice elems spare => uptoBulkAll elems + uptoBulkAll spare + 1
  | .agg parts => uptoBulkAll parts + 1
  | .iface _ d => uptoBulk d + 1
  | .map entries => uptoBulkEntries entries + 1
  | .held _ => 1
def uptoBulkAll {H : Type} : List (DataW H) → Nat
  | [] => 0
  | d :: r => uptoBulk d + uptoBulkAll r
def uptoBulkEntries {H : Type} : List (Lit × DataW H) → Nat
  | [] => 0
  | x :: r => uptoBulkEntry x + uptoBulkEntries r
def uptoBulkEntry {H : Type} : Lit × DataW H → Nat
  | (.string bytes, d) => bytes.length + uptoBulk d + 1
  | (_, d) => uptoBulk d + 1
 end
def uptoSmall : (H : Type) → List (DataW H) → Bool := fun _ ds => decide (uptoBulkAll ds ≤ 1048576)
def OpenSpec.upto (s : _root_.Go.ChangeSpec) : _root_.Go.OpenSpec := { _root_.Go.OpenSpec.ofChange s with cond := some uptoSmall }

/-- 'signalmanlaw6.TallyLasts', WHERE WHAT IT READS IS OF BULK AT MOST 1048576: true; the input reads as it did. -/
def tallyLastsUptoRow : OpenClaim := { program := "ytoaoebkllcmanaa", sum := "ad7a21f0a2cd0bb473353e749eb0e91944b834bcf92c536fd42ac0f0decb5953", func := "signalman/signalmanlaw6.TallyLasts", spec := "tallyLasts", apart := false, narrowed := true }
def TallyLastsUptoSaid : Prop := tallyLastsUptoRow.holds Try.pinned (OpenSpec.upto tallyLastsSpec)

/-- 'signalmanlaw6.TallyWindows', WHERE WHAT IT READS IS OF BULK AT MOST 1048576: true; the input reads as it did. -/
def tallyWindowsUptoRow : OpenClaim := { program := "ytoaoebkllcmanaa", sum := "ad7a21f0a2cd0bb473353e749eb0e91944b834bcf92c536fd42ac0f0decb5953", func := "signalman/signalmanlaw6.TallyWindows", spec := "tallyWindows", apart := false, narrowed := true }
def TallyWindowsUptoSaid : Prop := tallyWindowsUptoRow.holds Try.pinned (OpenSpec.upto tallyWindowsSpec)

/-- 'signalmanlaw6.TallyParts', WHERE WHAT IT READS IS OF BULK AT MOST 1048576: true; the input reads as it did. -/
def tallyPartsUptoRow : OpenClaim := { program := "ytoaoebkllcmanaa", sum := "ad7a21f0a2cd0bb473353e749eb0e91944b834bcf92c536fd42ac0f0decb5953", func := "signalman/signalmanlaw6.TallyParts", spec := "tallyParts", apart := false, narrowed := true }
def TallyPartsUptoSaid : Prop := tallyPartsUptoRow.holds Try.pinned (OpenSpec.upto tallyPartsSpec)

end Rows
end Go.Proofs.Ytoaoebkllcmanaa
