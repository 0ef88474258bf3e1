/-
  No cell of these rows narrows 'for every input' (looked for: loops, veiled, ifaces, maps, wideKeys, modest, calm, conditions, laid).
  DERIVED. THE GIVEN ROWS OF THIS SEAT. 7 by the template 'for every input the law returns true; each argument reads behind the call as it read before'; 0 by the template 'total and deterministic' (their statements: YtlcemeligolabaaTotals.lean).
  GIVEN WITH THE SEED: the statements are not yours to turn. If you find one false, say at which input.
  Laid BY PROGRAM, IN A SANDBOX (cutbox-rows.mjs): the forced cells as the released guide's own fill.sh prints them over the translation a2053ec58c4061fd… (all of the seat's roots in one cut). By AI agents, Wed Nov 11 2026. No macro, syntax, notation, axiom, sorry.
-/
import Derived.Test.YtlcemeligolabaaChecked
import GoSem.Claim
import GoSem.ClaimJoined
import GoSem.ClaimMapViews
import Derived.JoinedTies
import Derived.KernelRfl
namespace Go.Proofs.Ytlcemeligolabaa
/- THE CELL 'sum', in the pinned program and in every row, IS THE sha256 OF THE DUMP (.gsa) THAT YtlcemeligolabaaProg.lean LOADS. Nothing in Lean hashes anything: it is a label: what it is worth is what the hold of that sum in a sandbox is worth. -/
noncomputable def Try.pinned : Pinned := { name := "ytlcemeligolabaa", sum := "a2053ec58c4061fd25da4055e2900b68ac3a8e39399ccc6409410234165999b8", checked := Try.checked }
namespace Rows
def none {H : Type} : Left H := { results := [], args := [] }

/-- 'signalmanlaw5.FrameShares': WHATEVER THE INPUT: true; the input reads as it did. -/
def frameSharesSpec : ChangeSpec := { name := "frameShares", fn := fun _ => fun
  | [d1, d2] => { results := [.lit (.bool true)], args := [d1, d2] }
  | _ => none }
def frameSharesRow : OpenClaim := { program := "ytlcemeligolabaa", sum := "a2053ec58c4061fd25da4055e2900b68ac3a8e39399ccc6409410234165999b8", func := "signalman/signalmanlaw5.FrameShares", spec := "frameShares", apart := false }
def FrameSharesSaid : Prop := frameSharesRow.holds Try.pinned (OpenSpec.ofChange frameSharesSpec)

/-- ITS FALSE NEIGHBOUR: 'it returns false'. Refute it at one input. -/
def frameSharesWrong : ChangeSpec := { name := "frameShares", fn := fun _ => fun
  | [d1, d2] => { results := [.lit (.bool false)], args := [d1, d2] }
  | _ => none }
def FrameSharesWrongFalsely : Prop := frameSharesRow.holds Try.pinned (OpenSpec.ofChange frameSharesWrong)

/-- 'signalmanlaw5.FrameTurned': WHATEVER THE INPUT: true; the input reads as it did. -/
def frameTurnedSpec : ChangeSpec := { name := "frameTurned", fn := fun _ => fun
  | [d1, d2, d3, d4, d5] => { results := [.lit (.bool true)], args := [d1, d2, d3, d4, d5] }
  | _ => none }
def frameTurnedRow : OpenClaim := { program := "ytlcemeligolabaa", sum := "a2053ec58c4061fd25da4055e2900b68ac3a8e39399ccc6409410234165999b8", func := "signalman/signalmanlaw5.FrameTurned", spec := "frameTurned", apart := false }
def FrameTurnedSaid : Prop := frameTurnedRow.holds Try.pinned (OpenSpec.ofChange frameTurnedSpec)

/-- ITS FALSE NEIGHBOUR: 'it returns false'. Refute it at one input. -/
def frameTurnedWrong : ChangeSpec := { name := "frameTurned", fn := fun _ => fun
  | [d1, d2, d3, d4, d5] => { results := [.lit (.bool false)], args := [d1, d2, d3, d4, d5] }
  | _ => none }
def FrameTurnedWrongFalsely : Prop := frameTurnedRow.holds Try.pinned (OpenSpec.ofChange frameTurnedWrong)

/-- 'signalmanlaw5.FramePlays': WHATEVER THE INPUT: true; the input reads as it did. -/
def framePlaysSpec : ChangeSpec := { name := "framePlays", fn := fun _ => fun
  | [d1, d2, d3] => { results := [.lit (.bool true)], args := [d1, d2, d3] }
  | _ => none }
def framePlaysRow : OpenClaim := { program := "ytlcemeligolabaa", sum := "a2053ec58c4061fd25da4055e2900b68ac3a8e39399ccc6409410234165999b8", func := "signalman/signalmanlaw5.FramePlays", spec := "framePlays", apart := false }
def FramePlaysSaid : Prop := framePlaysRow.holds Try.pinned (OpenSpec.ofChange framePlaysSpec)

/-- ITS FALSE NEIGHBOUR: 'it returns false'. Refute it at one input. -/
def framePlaysWrong : ChangeSpec := { name := "framePlays", fn := fun _ => fun
  | [d1, d2, d3] => { results := [.lit (.bool false)], args := [d1, d2, d3] }
  | _ => none }
def FramePlaysWrongFalsely : Prop := framePlaysRow.holds Try.pinned (OpenSpec.ofChange framePlaysWrong)

/-- 'signalmanlaw5.FramePuts': WHATEVER THE INPUT: true; the input reads as it did. -/
def framePutsSpec : ChangeSpec := { name := "framePuts", fn := fun _ => fun
  | [d1, d2] => { results := [.lit (.bool true)], args := [d1, d2] }
  | _ => none }
def framePutsRow : OpenClaim := { program := "ytlcemeligolabaa", sum := "a2053ec58c4061fd25da4055e2900b68ac3a8e39399ccc6409410234165999b8", func := "signalman/signalmanlaw5.FramePuts", spec := "framePuts", apart := false }
def FramePutsSaid : Prop := framePutsRow.holds Try.pinned (OpenSpec.ofChange framePutsSpec)

/-- ITS FALSE NEIGHBOUR: 'it returns false'. Refute it at one input. -/
def framePutsWrong : ChangeSpec := { name := "framePuts", fn := fun _ => fun
  | [d1, d2] => { results := [.lit (.bool false)], args := [d1, d2] }
  | _ => none }
def FramePutsWrongFalsely : Prop := framePutsRow.holds Try.pinned (OpenSpec.ofChange framePutsWrong)

/-- 'signalmanlaw5.FrameRows': WHATEVER THE INPUT: true; the input reads as it did. -/
def frameRowsSpec : ChangeSpec := { name := "frameRows", fn := fun _ => fun
  | [d1, d2, d3, d4] => { results := [.lit (.bool true)], args := [d1, d2, d3, d4] }
  | _ => none }
def frameRowsRow : OpenClaim := { program := "ytlcemeligolabaa", sum := "a2053ec58c4061fd25da4055e2900b68ac3a8e39399ccc6409410234165999b8", func := "signalman/signalmanlaw5.FrameRows", spec := "frameRows", apart := false }
def FrameRowsSaid : Prop := frameRowsRow.holds Try.pinned (OpenSpec.ofChange frameRowsSpec)

/-- ITS FALSE NEIGHBOUR: 'it returns false'. Refute it at one input. -/
def frameRowsWrong : ChangeSpec := { name := "frameRows", fn := fun _ => fun
  | [d1, d2, d3, d4] => { results := [.lit (.bool false)], args := [d1, d2, d3, d4] }
  | _ => none }
def FrameRowsWrongFalsely : Prop := frameRowsRow.holds Try.pinned (OpenSpec.ofChange frameRowsWrong)

/-- 'signalmanlaw5.FrameNoise': WHATEVER THE INPUT: true; the input reads as it did. -/
def frameNoiseSpec : ChangeSpec := { name := "frameNoise", fn := fun _ => fun
  | [d1, d2, d3] => { results := [.lit (.bool true)], args := [d1, d2, d3] }
  | _ => none }
def frameNoiseRow : OpenClaim := { program := "ytlcemeligolabaa", sum := "a2053ec58c4061fd25da4055e2900b68ac3a8e39399ccc6409410234165999b8", func := "signalman/signalmanlaw5.FrameNoise", spec := "frameNoise", apart := false }
def FrameNoiseSaid : Prop := frameNoiseRow.holds Try.pinned (OpenSpec.ofChange frameNoiseSpec)

/-- ITS FALSE NEIGHBOUR: 'it returns false'. Refute it at one input. -/
def frameNoiseWrong : ChangeSpec := { name := "frameNoise", fn := fun _ => fun
  | [d1, d2, d3] => { results := [.lit (.bool false)], args := [d1, d2, d3] }
  | _ => none }
def FrameNoiseWrongFalsely : Prop := frameNoiseRow.holds Try.pinned (OpenSpec.ofChange frameNoiseWrong)

/-- 'signalmanlaw5.FrameEnds': WHATEVER THE INPUT: true; the input reads as it did. -/
def frameEndsSpec : ChangeSpec := { name := "frameEnds", fn := fun _ => fun
  | [d1, d2, d3] => { results := [.lit (.bool true)], args := [d1, d2, d3] }
  | _ => none }
def frameEndsRow : OpenClaim := { program := "ytlcemeligolabaa", sum := "a2053ec58c4061fd25da4055e2900b68ac3a8e39399ccc6409410234165999b8", func := "signalman/signalmanlaw5.FrameEnds", spec := "frameEnds", apart := false }
def FrameEndsSaid : Prop := frameEndsRow.holds Try.pinned (OpenSpec.ofChange frameEndsSpec)

/-- ITS FALSE NEIGHBOUR: 'it returns false'. Refute it at one input. -/
def frameEndsWrong : ChangeSpec := { name := "frameEnds", fn := fun _ => fun
  | [d1, d2, d3] => { results := [.lit (.bool false)], args := [d1, d2, d3] }
  | _ => none }
def FrameEndsWrongFalsely : Prop := frameEndsRow.holds Try.pinned (OpenSpec.ofChange frameEndsWrong)

/- THE SECOND FORM. 'bulk': how many values and letters a reading holds, each counted each time it is reached (what is shared counts as often as it is met; a slice's spare places count too). A statement '..UptoSaid' is the law's where the arguments, and the package variables that the reading takes, are together of bulk at most 1048576: NARROWER than '..Said'. Prove '..Said' where nothing that the law and all that it calls make is longer than what came in: it says more and counts as full. Else prove '..UptoSaid'. A law counts once. -/
mutual
def uptoBulk {H : Type} : DataW H → Nat
  | .lit (.string bytes) => bytes.length + 1
  | .lit _ => 1
  | .nil => 1
  | .ptr d => uptoBulk d + 1
  | .slice elems spare => uptoBulkAll elems + uptoBulkAll spare + 1
  | .agg parts => uptoBulkAll parts + 1
  | .iface _ d => uptoBulk d + 1
  | .map entries => uptoBulkEntries entries + 1
  | .held _ => 1
def uptoBulkAll {H : Type} : List (DataW H) → Nat
  | [] => 0
  | d :: r => uptoBulk d + uptoBulkAll r
def uptoBulkEntries {H : Type} : List (Lit × DataW H) → Nat
  | [] => 0
  | x :: r => uptoBulkEntry x + uptoBulkEntries r
def uptoBulkEntry {H : Type} : Lit × DataW H → Nat
  | (.string bytes, d) => bytes.length + uptoBulk d + 1
  | (_, d) => uptoBulk d + 1
 end
def uptoSmall : (H : Type) → List (DataW H) → Bool := fun _ ds => decide (uptoBulkAll ds ≤ 1048576)
def OpenSpec.upto (s : _root_.Go.ChangeSpec) : _root_.Go.OpenSpec := { _root_.Go.OpenSpec.ofChange s with cond := some uptoSmall }

/-- 'signalmanlaw5.FrameShares', WHERE WHAT IT READS IS OF BULK AT MOST 1048576: true; the input reads as it did. -/
def frameSharesUptoRow : OpenClaim := { program := "ytlcemeligolabaa", sum := "a2053ec58c4061fd25da4055e2900b68ac3a8e39399ccc6409410234165999b8", func := "signalman/signalmanlaw5.FrameShares", spec := "frameShares", apart := false, narrowed := true }
def FrameSharesUptoSaid : Prop := frameSharesUptoRow.holds Try.pinned (OpenSpec.upto frameSharesSpec)

/-- 'signalmanlaw5.FrameTurned', WHERE WHAT IT READS IS OF BULK AT MOST 1048576: true; the input reads as it did. -/
def frameTurnedUptoRow : OpenClaim := { program := "ytlcemeligolabaa", sum := "a2053ec58c4061fd25da4055e2900b68ac3a8e39399ccc6409410234165999b8", func := "signalman/signalmanlaw5.FrameTurned", spec := "frameTurned", apart := false, narrowed := true }
def FrameTurnedUptoSaid : Prop := frameTurnedUptoRow.holds Try.pinned (OpenSpec.upto frameTurnedSpec)

/-- 'signalmanlaw5.FramePlays', WHERE WHAT IT READS IS OF BULK AT MOST 1048576: true; the input reads as it did. -/
def framePlaysUptoRow : OpenClaim := { program := "ytlcemeligolabaa", sum := "a2053ec58c4061fd25da4055e2900b68ac3a8e39399ccc6409410234165999b8", func := "signalman/signalmanlaw5.FramePlays", spec := "framePlays", apart := false, narrowed := true }
def FramePlaysUptoSaid : Prop := framePlaysUptoRow.holds Try.pinned (OpenSpec.upto framePlaysSpec)

/-- 'signalmanlaw5.FramePuts', WHERE WHAT IT READS IS OF BULK AT MOST 1048576: true; the input reads as it did. -/
def framePutsUptoRow : OpenClaim := { program := "ytlcemeligolabaa", sum := "a2053ec58c4061fd25da4055e2900b68ac3a8e39399ccc6409410234165999b8", func := "signalman/signalmanlaw5.FramePuts", spec := "framePuts", apart := false, narrowed := true }
def FramePutsUptoSaid : Prop := framePutsUptoRow.holds Try.pinned (OpenSpec.upto framePutsSpec)

/-- 'signalmanlaw5.FrameRows', WHERE WHAT IT READS IS OF BULK AT MOST 1048576: true; the input reads as it did. -/
def frameRowsUptoRow : OpenClaim := { program := "ytlcemeligolabaa", sum := "a2053ec58c4061fd25da4055e2900b68ac3a8e39399ccc6409410234165999b8", func := "signalman/signalmanlaw5.FrameRows", spec := "frameRows", apart := false, narrowed := true }
def FrameRowsUptoSaid : Prop := frameRowsUptoRow.holds Try.pinned (OpenSpec.upto frameRowsSpec)

/-- 'signalmanlaw5.FrameNoise', WHERE WHAT IT READS IS OF BULK AT MOST 1048576: true; the input reads as it did. -/
def frameNoiseUptoRow : OpenClaim := { program := "ytlcemeligolabaa", sum := "a2053ec58c4061fd25da4055e2900b68ac3a8e39399ccc6409410234165999b8", func := "signalman/signalmanlaw5.FrameNoise", spec := "frameNoise", apart := false, narrowed := true }
def FrameNoiseUptoSaid : Prop := frameNoiseUptoRow.holds Try.pinned (OpenSpec.upto frameNoiseSpec)

/-- 'signalmanlaw5.FrameEnds', WHERE WHAT IT READS IS OF BULK AT MOST 1048576: true; the input reads as it did. -/
def frameEndsUptoRow : OpenClaim := { program := "ytlcemeligolabaa", sum := "a2053ec58c4061fd25da4055e2900b68ac3a8e39399ccc6409410234165999b8", func := "signalman/signalmanlaw5.FrameEnds", spec := "frameEnds", apart := false, narrowed := true }
def FrameEndsUptoSaid : Prop := frameEndsUptoRow.holds Try.pinned (OpenSpec.upto frameEndsSpec)

end Rows
end Go.Proofs.Ytlcemeligolabaa
