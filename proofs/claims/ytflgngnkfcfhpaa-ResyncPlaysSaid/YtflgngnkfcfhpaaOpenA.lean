/- A slice of structs that comes in: what it holds. No condition. -/
import Derived.Test.YtflgngnkfcfhpaaRows
import Derived.ChangeSame
import Derived.OpenShut
import Derived.KernelRfl
import Derived.Deep.Slices
import Derived.Below
namespace Go.Proofs.Ytflgngnkfcfhpaa.OpenA
open Go.RowKit Go.ChangeShapes Go.WideShapes Go.Deep
set_option linter.unusedVariables false
theorem take_one {l : List Value} {i : Nat} {v : Value} (h : (l.drop i).take 1 = [v]) : l[i]? = some v := by
  have := congrArg (·[0]?) h
  simpa [List.getElem?_take, List.getElem?_drop] using this
/-- The slice reads as these rows. -/
def IsActs (w : World) (a : Option Addr) (len cap : Nat) (z : List (Int × Int × Bool)) : Prop :=
  (a = none ∧ len = 0 ∧ cap = 0 ∧ z = []) ∨ ∃ ad, a = some ad ∧ len ≤ cap ∧ cap ≤ maxLen ∧ z.length = len ∧ ∀ i, i < len → w.cell? (ad.add (i * 3)) = some (.int .i64 (z.getD i (0, 0, false)).1) ∧ w.cell? (ad.add (i * 3 + 1)) = some (.int .i64 (z.getD i (0, 0, false)).2.1) ∧ w.cell? (ad.add (i * 3 + 2)) = some (.bool (z.getD i (0, 0, false)).2.2)
set_option maxHeartbeats 4000000 in
set_option maxRecDepth 100000 in
theorem openActs {H : Type} {enc : TypeId × Value → H} {w : World} {base : Nat} {spare : Nat → Bool} {held : Bool} {fuel : Nat} {a0 : Option Addr} {l0 c0 : Nat} {x : DataW H × List MemPlace} (h : DataW.trod enc Try.prog w base spare held fuel 22 [.slice a0 l0 c0] = some x) :
    ∃ z, IsActs w a0 l0 c0 z := by
  rcases open_slice Try.underlying22 h with ⟨h0, _⟩ | ⟨a, len, cap, m, n, D, Pl, hcs, hb, hl, hm, hmm, hx0, hx⟩
  · simp at h0
    obtain ⟨rfl, rfl, rfl⟩ := h0
    exact ⟨[], .inl ⟨rfl, rfl, rfl, rfl⟩⟩
  simp at hcs
  obtain ⟨rfl, rfl, rfl⟩ := hcs
  have hlm : l0 ≤ m := by rw [hmm]; split <;> omega
  have each : ∀ i, i < l0 → ∃ q : Int × Int × Bool, w.cell? (a.add (i * 3)) = some (.int .i64 q.1) ∧ w.cell? (a.add (i * 3 + 1)) = some (.int .i64 q.2.1) ∧ w.cell? (a.add (i * 3 + 2)) = some (.bool q.2.2) := by
    intro i hi
    obtain ⟨cs', h1, h2⟩ := hx i (by omega)
    rw [show Try.prog.cellsOf 27 = 3 by kernel_rfl] at h1
    obtain ⟨_, hlen, hcell⟩ := World.cells?_some h1
    obtain ⟨xs, k, hk, hxy, _, hxl, hf⟩ := DataW.trod_struct Try.underlying27 h2
    have e0 : DataW.trod enc Try.prog w base spare held k 3 ((cs'.drop 0).take (Try.prog.cellsOf 3)) = xs[0]? := hf 0 _ rfl
    rw [show Try.prog.cellsOf 3 = 1 by kernel_rfl, List.getElem?_eq_getElem (by rw [hxl]; decide)] at e0
    obtain ⟨x0, f0, _, _⟩ := DataW.trod_int Try.underlying3 e0
    have k0 := hcell 0 (by omega)
    rw [take_one f0, add_add] at k0
    have e1 : DataW.trod enc Try.prog w base spare held k 3 ((cs'.drop 1).take (Try.prog.cellsOf 3)) = xs[1]? := hf 1 _ rfl
    rw [show Try.prog.cellsOf 3 = 1 by kernel_rfl, List.getElem?_eq_getElem (by rw [hxl]; decide)] at e1
    obtain ⟨x1, f1, _, _⟩ := DataW.trod_int Try.underlying3 e1
    have k1 := hcell 1 (by omega)
    rw [take_one f1, add_add] at k1
    have e2 : DataW.trod enc Try.prog w base spare held k 4 ((cs'.drop 2).take (Try.prog.cellsOf 4)) = xs[2]? := hf 2 _ rfl
    rw [show Try.prog.cellsOf 4 = 1 by kernel_rfl, List.getElem?_eq_getElem (by rw [hxl]; decide)] at e2
    obtain ⟨x2, f2, _⟩ := DataW.trod_bool Try.underlying4 e2
    have k2 := hcell 2 (by omega)
    rw [take_one f2, add_add] at k2
    exact ⟨(x0, x1, x2), by simpa using k0, k1, k2⟩
  obtain ⟨q, hq⟩ := choose_lt each
  refine ⟨(List.range l0).map q, .inr ⟨a, rfl, hl, hm, by simp, fun i hi => ?_⟩⟩
  rw [show ((List.range l0).map q).getD i (0, 0, false) = q i by simp [List.getD, hi]]
  exact hq i hi
/-- What is read lives on. -/
theorem IsActs.below {w w' : World} {a : Option Addr} {len cap : Nat} {z : List (Int × Int × Bool)} (h : IsActs w a len cap z) (hb : Below w.heap.size w w') : IsActs w' a len cap z := by
  rcases h with h | ⟨ad, ha, hl, hm, hz, hc⟩
  · exact .inl h
  · refine .inr ⟨ad, ha, hl, hm, hz, fun i hi => ?_⟩
    obtain ⟨h0, h1, h2⟩ := hc i hi
    exact ⟨(hb.cell (World.block_lt_of_cell? w _ h0)).trans h0, (hb.cell (World.block_lt_of_cell? w _ h1)).trans h1, (hb.cell (World.block_lt_of_cell? w _ h2)).trans h2⟩
theorem IsActs.len {w : World} {a : Option Addr} {len cap : Nat} {z : List (Int × Int × Bool)} (h : IsActs w a len cap z) : z.length = len ∧ len ≤ 9223372036854775807 := by
  rcases h with ⟨_, h1, _, h2⟩ | ⟨ad, ha, hl, hm, hz, hc⟩
  · subst h1 h2
    exact ⟨rfl, by omega⟩
  · unfold maxLen at hm
    exact ⟨hz, by omega⟩
/-- Element i: the cells of its fields. -/
theorem IsActs.at_ {w : World} {a : Option Addr} {len cap : Nat} {z : List (Int × Int × Bool)} (h : IsActs w a len cap z) (i : Nat) (hi : i < len) : ∃ ad, a = some ad ∧ w.cell? (ad.add (i * 3)) = some (.int .i64 (z.getD i (0, 0, false)).1) ∧ w.cell? (ad.add (i * 3 + 1)) = some (.int .i64 (z.getD i (0, 0, false)).2.1) ∧ w.cell? (ad.add (i * 3 + 2)) = some (.bool (z.getD i (0, 0, false)).2.2) := by
  rcases h with ⟨_, h1, _, _⟩ | ⟨ad, ha, hl, hm, hz, hc⟩
  · omega
  · exact ⟨ad, ha, hc i hi⟩
end Go.Proofs.Ytflgngnkfcfhpaa.OpenA
