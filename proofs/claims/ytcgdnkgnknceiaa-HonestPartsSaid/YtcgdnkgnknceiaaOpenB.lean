/- A slice of bools that comes in: what it holds. No condition. -/
import Derived.Test.YtcgdnkgnknceiaaRows
import Derived.ChangeSame
import Derived.OpenShut
import Derived.KernelRfl
import Derived.Deep.Grids
import Derived.Below
namespace Go.Proofs.Ytcgdnkgnknceiaa.OpenB
open Go.RowKit Go.ChangeShapes Go.WideShapes Go.Deep
set_option linter.unusedVariables false
/-- The slice reads as these bools. -/
def IsBools (w : World) (a : Option Addr) (len cap : Nat) (z : List Bool) : Prop :=
  (a = none ∧ len = 0 ∧ cap = 0 ∧ z = []) ∨ ∃ ad, a = some ad ∧ len ≤ cap ∧ cap ≤ maxLen ∧ z.length = len ∧ ∀ i, i < len → w.cell? (ad.add i) = some (.bool (z.getD i false))
theorem openBools {H : Type} {enc : TypeId × Value → H} {w : World} {base : Nat} {held : Bool} {fuel : Nat} {a0 : Option Addr} {l0 c0 : Nat} {x : DataW H × List MemPlace} (h : DataW.trod enc Try.prog w base (fun _ => true) held fuel 23 [.slice a0 l0 c0] = some x) :
    ∃ z, IsBools w a0 l0 c0 z := by
  rcases open_bools Try.underlying23 Try.underlying4 (by kernel_rfl) h with ⟨h0, _⟩ | ⟨a, len, cap, B, hcs, hb, hl, hm, _, hx⟩
  · simp at h0
    obtain ⟨rfl, rfl, rfl⟩ := h0
    exact ⟨[], .inl ⟨rfl, rfl, rfl, rfl⟩⟩
  simp at hcs
  obtain ⟨rfl, rfl, rfl⟩ := hcs
  refine ⟨(List.range l0).map B, .inr ⟨a, rfl, hl, hm, by simp, fun i hi => ?_⟩⟩
  rw [show ((List.range l0).map B).getD i false = B i by simp [List.getD, hi]]
  exact hx i (by omega)
theorem IsBools.below {w w' : World} {a : Option Addr} {len cap : Nat} {z : List Bool} (h : IsBools w a len cap z) (hb : Below w.heap.size w w') : IsBools w' a len cap z := by
  rcases h with h | ⟨ad, ha, hl, hm, hz, hc⟩
  · exact .inl h
  · exact .inr ⟨ad, ha, hl, hm, hz, fun i hi => (hb.cell (World.block_lt_of_cell? w _ (hc i hi))).trans (hc i hi)⟩
theorem IsBools.len {w : World} {a : Option Addr} {len cap : Nat} {z : List Bool} (h : IsBools w a len cap z) : z.length = len ∧ len ≤ 9223372036854775807 := by
  rcases h with ⟨_, h1, _, h2⟩ | ⟨ad, ha, hl, hm, hz, hc⟩
  · subst h1 h2
    exact ⟨rfl, by omega⟩
  · unfold maxLen at hm
    exact ⟨hz, by omega⟩
theorem IsBools.at_ {w : World} {a : Option Addr} {len cap : Nat} {z : List Bool} (h : IsBools w a len cap z) (i : Nat) (hi : i < len) : ∃ ad, a = some ad ∧ w.cell? (ad.add i) = some (.bool (z.getD i false)) := by
  rcases h with ⟨_, h1, _, _⟩ | ⟨ad, ha, hl, hm, hz, hc⟩
  · omega
  · exact ⟨ad, ha, hc i hi⟩
end Go.Proofs.Ytcgdnkgnknceiaa.OpenB
