/-
  No cell of these rows narrows 'for every input' (looked for: loops, veiled, ifaces, maps, wideKeys, modest, calm, conditions, laid).
  DERIVED. THE GIVEN ROWS OF THIS SEAT. 4 by the template 'for every input the law returns true; each argument reads behind the call as it read before'; 0 by the template 'total and deterministic' (their statements: YtflgngnkfcfhpaaTotals.lean).
  GIVEN WITH THE SEED: the statements are not yours to turn. If you find one false, say at which input.
  Laid BY PROGRAM, IN A SANDBOX (cutbox-rows.mjs): the forced cells as the released guide's own fill.sh prints them over the translation 894e275d2ebfe2ac… (all of the seat's roots in one cut). By AI agents, Wed Nov 11 2026. No macro, syntax, notation, axiom, sorry.
-/
import Derived.Test.YtflgngnkfcfhpaaChecked
import GoSem.Claim
import GoSem.ClaimJoined
import GoSem.ClaimMapViews
import Derived.JoinedTies
import Derived.KernelRfl
namespace Go.Proofs.Ytflgngnkfcfhpaa
/- THE CELL 'sum', in the pinned program and in every row, IS THE sha256 OF THE DUMP (.gsa) THAT YtflgngnkfcfhpaaProg.lean LOADS. Nothing in Lean hashes anything: it is a label: what it is worth is what the hold of that sum in a sandbox is worth. -/
noncomputable def Try.pinned : Pinned := { name := "ytflgngnkfcfhpaa", sum := "894e275d2ebfe2acf8c32e5cd2d5632b087487d40453ab5f07677757fd5bece1", checked := Try.checked }
namespace Rows
def none {H : Type} : Left H := { results := [], args := [] }

/-- 'signalmanlaw22.ResyncOpens': WHATEVER THE INPUT: true; the input reads as it did. -/
def resyncOpensSpec : ChangeSpec := { name := "resyncOpens", fn := fun _ => fun
  | [d1, d2] => { results := [.lit (.bool true)], args := [d1, d2] }
  | _ => none }
def resyncOpensRow : OpenClaim := { program := "ytflgngnkfcfhpaa", sum := "894e275d2ebfe2acf8c32e5cd2d5632b087487d40453ab5f07677757fd5bece1", func := "signalman/signalmanlaw22.ResyncOpens", spec := "resyncOpens", apart := false }
def ResyncOpensSaid : Prop := resyncOpensRow.holds Try.pinned (OpenSpec.ofChange resyncOpensSpec)

/-- ITS FALSE NEIGHBOUR: 'it returns false'. Refute it at one input. -/
def resyncOpensWrong : ChangeSpec := { name := "resyncOpens", fn := fun _ => fun
  | [d1, d2] => { results := [.lit (.bool false)], args := [d1, d2] }
  | _ => none }
def ResyncOpensWrongFalsely : Prop := resyncOpensRow.holds Try.pinned (OpenSpec.ofChange resyncOpensWrong)

/-- 'signalmanlaw22.ResyncPlays': WHATEVER THE INPUT: true; the input reads as it did. -/
def resyncPlaysSpec : ChangeSpec := { name := "resyncPlays", fn := fun _ => fun
  | [d1, d2, d3] => { results := [.lit (.bool true)], args := [d1, d2, d3] }
  | _ => none }
def resyncPlaysRow : OpenClaim := { program := "ytflgngnkfcfhpaa", sum := "894e275d2ebfe2acf8c32e5cd2d5632b087487d40453ab5f07677757fd5bece1", func := "signalman/signalmanlaw22.ResyncPlays", spec := "resyncPlays", apart := false }
def ResyncPlaysSaid : Prop := resyncPlaysRow.holds Try.pinned (OpenSpec.ofChange resyncPlaysSpec)

/-- ITS FALSE NEIGHBOUR: 'it returns false'. Refute it at one input. -/
def resyncPlaysWrong : ChangeSpec := { name := "resyncPlays", fn := fun _ => fun
  | [d1, d2, d3] => { results := [.lit (.bool false)], args := [d1, d2, d3] }
  | _ => none }
def ResyncPlaysWrongFalsely : Prop := resyncPlaysRow.holds Try.pinned (OpenSpec.ofChange resyncPlaysWrong)

/-- 'signalmanlaw22.ResyncMeets': WHATEVER THE INPUT: true; the input reads as it did. -/
def resyncMeetsSpec : ChangeSpec := { name := "resyncMeets", fn := fun _ => fun
  | [d1, d2, d3] => { results := [.lit (.bool true)], args := [d1, d2, d3] }
  | _ => none }
def resyncMeetsRow : OpenClaim := { program := "ytflgngnkfcfhpaa", sum := "894e275d2ebfe2acf8c32e5cd2d5632b087487d40453ab5f07677757fd5bece1", func := "signalman/signalmanlaw22.ResyncMeets", spec := "resyncMeets", apart := false }
def ResyncMeetsSaid : Prop := resyncMeetsRow.holds Try.pinned (OpenSpec.ofChange resyncMeetsSpec)

/-- ITS FALSE NEIGHBOUR: 'it returns false'. Refute it at one input. -/
def resyncMeetsWrong : ChangeSpec := { name := "resyncMeets", fn := fun _ => fun
  | [d1, d2, d3] => { results := [.lit (.bool false)], args := [d1, d2, d3] }
  | _ => none }
def ResyncMeetsWrongFalsely : Prop := resyncMeetsRow.holds Try.pinned (OpenSpec.ofChange resyncMeetsWrong)

/-- 'signalmanlaw22.ResyncAsks': WHATEVER THE INPUT: true; the input reads as it did. -/
def resyncAsksSpec : ChangeSpec := { name := "resyncAsks", fn := fun _ => fun
  | [d1, d2, d3] => { results := [.lit (.bool true)], args := [d1, d2, d3] }
  | _ => none }
def resyncAsksRow : OpenClaim := { program := "ytflgngnkfcfhpaa", sum := "894e275d2ebfe2acf8c32e5cd2d5632b087487d40453ab5f07677757fd5bece1", func := "signalman/signalmanlaw22.ResyncAsks", spec := "resyncAsks", apart := false }
def ResyncAsksSaid : Prop := resyncAsksRow.holds Try.pinned (OpenSpec.ofChange resyncAsksSpec)

/-- ITS FALSE NEIGHBOUR: 'it returns false'. Refute it at one input. -/
def resyncAsksWrong : ChangeSpec := { name := "resyncAsks", fn := fun _ => fun
  | [d1, d2, d3] => { results := [.lit (.bool false)], args := [d1, d2, d3] }
  | _ => none }
def ResyncAsksWrongFalsely : Prop := resyncAsksRow.holds Try.pinned (OpenSpec.ofChange resyncAsksWrong)

/- THE SECOND FORM. 'bulk': how many values and letters a reading holds, each counted each time it is reached (what is shared counts as often as it is met; a slice's spare places count too). A statement '..UptoSaid' is the law's where the arguments, and the package variables that the reading takes, are together of bulk at most 1048576: NARROWER than '..Said'. Prove '..Said' where nothing that the law and all that it calls make is longer than what came in: it says more and counts as full. Else prove '..UptoSaid'. A law counts once. -/
mutual
def uptoBulk {H : Type} : DataW H → Nat
  | .lit (.string bytes) => bytes.length + 1
  | .lit _ => 1
  | .nil => 1
  | .ptr d => uptoBulk d + 1
  | .slice elems spare => uptoBulkAll elems + uptoBulkAll spare + 1
  | .agg parts => uptoBulkAll parts + 1
  | .iface _ d => uptoBulk d + 1
  | .map entries => uptoBulkEntries entries + 1
  | .held _ => 1
def uptoBulkAll {H : Type} : List (DataW H) → Nat
  | [] => 0
  | d :: r => uptoBulk d + uptoBulkAll r
def uptoBulkEntries {H : Type} : List (Lit × DataW H) → Nat
  | [] => 0
  | x :: r => uptoBulkEntry x + uptoBulkEntries r
def uptoBulkEntry {H : Type} : Lit × DataW H → Nat
  | (.string bytes, d) => bytes.length + uptoBulk d + 1
  | (_, d) => uptoBulk d + 1
 end
def uptoSmall : (H : Type) → List (DataW H) → Bool := fun _ ds => decide (uptoBulkAll ds ≤ 1048576)
def OpenSpec.upto (s : _root_.Go.ChangeSpec) : _root_.Go.OpenSpec := { _root_.Go.OpenSpec.ofChange s with cond := some uptoSmall }

/-- 'signalmanlaw22.ResyncOpens', WHERE WHAT IT READS IS OF BULK AT MOST 1048576: true; the input reads as it did. -/
def resyncOpensUptoRow : OpenClaim := { program := "ytflgngnkfcfhpaa", sum := "894e275d2ebfe2acf8c32e5cd2d5632b087487d40453ab5f07677757fd5bece1", func := "signalman/signalmanlaw22.ResyncOpens", spec := "resyncOpens", apart := false, narrowed := true }
def ResyncOpensUptoSaid : Prop := resyncOpensUptoRow.holds Try.pinned (OpenSpec.upto resyncOpensSpec)

/-- 'signalmanlaw22.ResyncPlays', WHERE WHAT IT READS IS OF BULK AT MOST 1048576: true; the input reads as it did. -/
def resyncPlaysUptoRow : OpenClaim := { program := "ytflgngnkfcfhpaa", sum := "894e275d2ebfe2acf8c32e5cd2d5632b087487d40453ab5f07677757fd5bece1", func := "signalman/signalmanlaw22.ResyncPlays", spec := "resyncPlays", apart := false, narrowed := true }
def ResyncPlaysUptoSaid : Prop := resyncPlaysUptoRow.holds Try.pinned (OpenSpec.upto resyncPlaysSpec)

/-- 'signalmanlaw22.ResyncMeets', WHERE WHAT IT READS IS OF BULK AT MOST 1048576: true; the input reads as it did. -/
def resyncMeetsUptoRow : OpenClaim := { program := "ytflgngnkfcfhpaa", sum := "894e275d2ebfe2acf8c32e5cd2d5632b087487d40453ab5f07677757fd5bece1", func := "signalman/signalmanlaw22.ResyncMeets", spec := "resyncMeets", apart := false, narrowed := true }
def ResyncMeetsUptoSaid : Prop := resyncMeetsUptoRow.holds Try.pinned (OpenSpec.upto resyncMeetsSpec)

/-- 'signalmanlaw22.ResyncAsks', WHERE WHAT IT READS IS OF BULK AT MOST 1048576: true; the input reads as it did. -/
def resyncAsksUptoRow : OpenClaim := { program := "ytflgngnkfcfhpaa", sum := "894e275d2ebfe2acf8c32e5cd2d5632b087487d40453ab5f07677757fd5bece1", func := "signalman/signalmanlaw22.ResyncAsks", spec := "resyncAsks", apart := false, narrowed := true }
def ResyncAsksUptoSaid : Prop := resyncAsksUptoRow.holds Try.pinned (OpenSpec.upto resyncAsksSpec)

end Rows
end Go.Proofs.Ytflgngnkfcfhpaa
