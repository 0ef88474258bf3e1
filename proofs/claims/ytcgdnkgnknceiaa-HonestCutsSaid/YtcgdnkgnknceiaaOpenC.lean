/- A slice of slices of octets that comes in: what it holds. No condition. -/
import Derived.Test.YtcgdnkgnknceiaaRows
import Derived.Test.YtcgdnkgnknceiaaK
import Derived.ChangeSame
import Derived.OpenShut
import Derived.KernelRfl
import Derived.Deep.Slices
import Derived.Below
namespace Go.Proofs.Ytcgdnkgnknceiaa.OpenC
open Go.RowKit Go.ChangeShapes Go.WideShapes Go.Deep Go.Proofs.YtcgdnkgnknceiaaW.PrintWords Go.Proofs.Ytcgdnkgnknceiaa.K
set_option linter.unusedVariables false
/-- The value is a slice that reads as these octets. -/
structure Oct (w : World) (v : Value) (l : List Int) : Prop where
  out : ∃ A n c, v = .slice A n c ∧ Rds (Kd.int .u8) w A n c l ∧ n ≤ 9223372036854775807
  oct : ∀ x ∈ l, 0 ≤ x ∧ x ≤ 255
theorem Oct.below {w w1 : World} {v : Value} {l : List Int} (h : Oct w v l) (hb : Below w.heap.size w w1) : Oct w1 v l := by
  obtain ⟨⟨A, n, c, e, hr, hm⟩, ho⟩ := h
  exact ⟨⟨A, n, c, e, hr.below hb, hm⟩, ho⟩
/-- A slice whose elements are single cells of which El holds. -/
structure RowOf {α : Type} (El : World → Value → α → Prop) (w : World) (A : Option Addr) (n c : Nat) (zs : List α) : Prop where
  len : n = zs.length
  cap : n ≤ c
  max : n ≤ 9223372036854775807
  at_ : ∀ (i : Nat) x, zs[i]? = some x → ∃ ad v, A = some ad ∧ w.cell? (ad.add i) = some v ∧ El w v x
theorem RowOf.below {α : Type} {El : World → Value → α → Prop} (hE : ∀ w w1 v x, Below w.heap.size w w1 → El w v x → El w1 v x) {w w1 : World} {A : Option Addr} {n c : Nat} {zs : List α} (h : RowOf El w A n c zs) (hb : Below w.heap.size w w1) : RowOf El w1 A n c zs :=
  ⟨h.len, h.cap, h.max, fun i x hx => by
    obtain ⟨ad, v, e, hc, he⟩ := h.at_ i x hx
    exact ⟨ad, v, e, (hb.cell (World.block_lt_of_cell? w _ hc)).trans hc, hE _ _ _ _ hb he⟩⟩
abbrev Grid := RowOf Oct
theorem Grid.below {w w1 : World} {A : Option Addr} {n c : Nat} {zs : List (List Int)} (h : Grid w A n c zs) (hb : Below w.heap.size w w1) : Grid w1 A n c zs := RowOf.below (fun _ _ _ _ hb h => h.below hb) h hb
theorem openRow {α : Type} [Inhabited α] (El : World → Value → α → Prop) {H : Type} {enc : TypeId × Value → H} {w : World} {base : Nat} {held : Bool} {t e : TypeId} (ht : Try.prog.underlying t = some (.slice e)) (hc : Try.prog.cellsOf e = 1)
    (hel : ∀ fuel V y, DataW.trod enc Try.prog w base (fun _ => true) held fuel e [V] = some y → ∃ x, El w V x)
    {fuel : Nat} {a0 : Option Addr} {l0 c0 : Nat} {x : DataW H × List MemPlace} (h : DataW.trod enc Try.prog w base (fun _ => true) held fuel t [.slice a0 l0 c0] = some x) : ∃ z, RowOf El w a0 l0 c0 z := by
  rcases open_slice1 ht hc h with ⟨h0, _⟩ | ⟨a, len, cap, m, n, V, D, Pl, hcs, hb, hl, hm, hmm, hx0, hx⟩
  · simp at h0
    obtain ⟨rfl, rfl, rfl⟩ := h0
    exact ⟨[], rfl, Nat.le_refl _, by omega, fun i x hx => by simp at hx⟩
  simp at hcs
  obtain ⟨rfl, rfl, rfl⟩ := hcs
  have hlm : l0 ≤ m := by rw [hmm]; split <;> omega
  obtain ⟨q, hq⟩ := choose_lt (n := l0) (p := fun i q => w.cell? (a.add i) = some (V i) ∧ El w (V i) q) (fun i hi => by
    obtain ⟨h1, h2⟩ := hx i (by omega)
    obtain ⟨x, hx⟩ := hel _ _ _ h2
    exact ⟨x, h1, hx⟩)
  refine ⟨(List.range l0).map q, by simp, hl, by unfold maxLen at hm; omega, fun i x hx => ?_⟩
  have hi : i < l0 := by
    have := (List.getElem?_eq_some_iff.1 hx).1
    simpa using this
  have e : x = q i := by
    simp [hi] at hx
    exact hx.symm
  exact ⟨a, V i, rfl, (hq i hi).1, e ▸ (hq i hi).2⟩
theorem openOct {H : Type} {enc : TypeId × Value → H} {w : World} {base : Nat} {held : Bool} (fuel : Nat) (V : Value) (y : DataW H × List MemPlace) (h : DataW.trod enc Try.prog w base (fun _ => true) held fuel 26 [V] = some y) : ∃ x, Oct w V x := by
  rcases open_ints Try.underlying26 Try.underlying5 (by kernel_rfl) h with ⟨hcs, _⟩ | ⟨x, l, c, zs, hcs, _, hl, hm, hz, _, hcell, hwz⟩
  · simp at hcs
    subst hcs
    exact ⟨[], ⟨none, 0, 0, rfl, (Own.nil (Kd.int .u8) 5 0 w).rds, by omega⟩, fun x hx => by simp at hx⟩
  · simp at hcs
    subst hcs
    obtain ⟨l', hr, hm', hw⟩ := rds_of_row (k := .u8) (w := w) (a := some x) (len := l) (cap := c) (z := zs) (.inr ⟨_, rfl, hl, hm, by simpa using hz, hcell, hwz⟩)
    exact ⟨l', ⟨_, _, _, rfl, hr, hm'⟩, fun x hx => wf_u8 (hw x hx)⟩
theorem openGrid {H : Type} {enc : TypeId × Value → H} {w : World} {base : Nat} {held : Bool} {fuel : Nat} {a0 : Option Addr} {l0 c0 : Nat} {x : DataW H × List MemPlace} (h : DataW.trod enc Try.prog w base (fun _ => true) held fuel 22 [.slice a0 l0 c0] = some x) :
    ∃ z, Grid w a0 l0 c0 z := openRow Oct Try.underlying22 (by kernel_rfl) (fun fuel V y h => openOct fuel V y h) h

/-- The value is a slice that reads as these rows. -/
structure Gr (w : World) (v : Value) (l : List (List Int)) : Prop where
  out : ∃ A n c, v = .slice A n c ∧ Grid w A n c l
theorem Gr.below {w w1 : World} {v : Value} {l : List (List Int)} (h : Gr w v l) (hb : Below w.heap.size w w1) : Gr w1 v l := by
  obtain ⟨A, n, c, e, hr⟩ := h.out
  exact ⟨A, n, c, e, hr.below hb⟩
abbrev Grid3 := RowOf Gr
theorem Grid3.below {w w1 : World} {A : Option Addr} {n c : Nat} {zs : List (List (List Int))} (h : Grid3 w A n c zs) (hb : Below w.heap.size w w1) : Grid3 w1 A n c zs := RowOf.below (fun _ _ _ _ hb h => h.below hb) h hb
theorem openGr {H : Type} {enc : TypeId × Value → H} {w : World} {base : Nat} {held : Bool} (fuel : Nat) (V : Value) (y : DataW H × List MemPlace) (h : DataW.trod enc Try.prog w base (fun _ => true) held fuel 22 [V] = some y) : ∃ x, Gr w V x := by
  have hs : ∃ A n c, V = .slice A n c := by
    rcases open_slice1 Try.underlying22 (by kernel_rfl) h with ⟨h0, _⟩ | ⟨a, len, cap, m, n, V', D, Pl, hcs, _⟩
    · simp at h0
      exact ⟨_, _, _, h0⟩
    · simp at hcs
      exact ⟨_, _, _, hcs⟩
  obtain ⟨A, n, c, rfl⟩ := hs
  obtain ⟨z, hz⟩ := openGrid h
  exact ⟨z, A, n, c, rfl, hz⟩
theorem openGrid3 {H : Type} {enc : TypeId × Value → H} {w : World} {base : Nat} {held : Bool} {fuel : Nat} {a0 : Option Addr} {l0 c0 : Nat} {x : DataW H × List MemPlace} (h : DataW.trod enc Try.prog w base (fun _ => true) held fuel 30 [.slice a0 l0 c0] = some x) :
    ∃ z, Grid3 w a0 l0 c0 z := openRow Gr Try.underlying30 (by kernel_rfl) (fun fuel V y h => openGr fuel V y h) h
end Go.Proofs.Ytcgdnkgnknceiaa.OpenC
