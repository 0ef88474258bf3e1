/- A slice of events that comes in: what it holds. No condition. -/
import Derived.Test.YtcgdnkgnknceiaaOpenC
import Derived.Deep.Slices
import Derived.SizedLaws
namespace Go.Proofs.Ytcgdnkgnknceiaa.OpenD
open Go.RowKit Go.ChangeShapes Go.WideShapes Go.Deep Go.Proofs.YtcgdnkgnknceiaaW.PrintWords Go.Proofs.Ytcgdnkgnknceiaa.K Go.Proofs.Ytcgdnkgnknceiaa.OpenC
set_option linter.unusedVariables false
theorem take_one {l : List Value} {i : Nat} {v : Value} (h : (l.drop i).take 1 = [v]) : l[i]? = some v := by
  have := congrArg (·[0]?) h
  simpa [List.getElem?_take, List.getElem?_drop] using this
/-- Event number i. -/
structure EvAt (w : World) (ad : Addr) (i : Nat) (q : Int × Int × List Int) : Prop where
  step : ∃ s, w.cell? (ad.add (i * 4)) = some (.int .i64 s)
  at_ : w.cell? (ad.add (i * 4 + 1)) = some (.int .i64 q.1)
  ind : w.cell? (ad.add (i * 4 + 2)) = some (.int .i64 q.2.1)
  b : ∃ V, w.cell? (ad.add (i * 4 + 3)) = some V ∧ Oct w V q.2.2
  sz : q.2.2.length ≤ 140737488351232
theorem EvAt.below {w w1 : World} {ad : Addr} {i : Nat} {q : Int × Int × List Int} (h : EvAt w ad i q) (hb : Below w.heap.size w w1) : EvAt w1 ad i q := by
  obtain ⟨⟨s, h0⟩, h1, h2, ⟨V, h3, h4⟩, h5⟩ := h
  exact ⟨⟨s, (hb.cell (World.block_lt_of_cell? w _ h0)).trans h0⟩, (hb.cell (World.block_lt_of_cell? w _ h1)).trans h1, (hb.cell (World.block_lt_of_cell? w _ h2)).trans h2, ⟨V, (hb.cell (World.block_lt_of_cell? w _ h3)).trans h3, h4.below hb⟩, h5⟩
/-- The slice reads as these events. -/
structure IsEvs (w : World) (A : Option Addr) (n c : Nat) (z : List (Int × Int × List Int)) : Prop where
  len : n = z.length
  cap : n ≤ c
  max : n ≤ 9223372036854775807
  at_ : ∀ (i : Nat) q, z[i]? = some q → ∃ ad, A = some ad ∧ EvAt w ad i q
theorem IsEvs.below {w w1 : World} {A : Option Addr} {n c : Nat} {z : List (Int × Int × List Int)} (h : IsEvs w A n c z) (hb : Below w.heap.size w w1) : IsEvs w1 A n c z :=
  ⟨h.len, h.cap, h.max, fun i q hq => by
    obtain ⟨ad, e, he⟩ := h.at_ i q hq
    exact ⟨ad, e, he.below hb⟩⟩
theorem weights_mem_all {H : Type} {P : Program} {e : TypeId} : ∀ {l : List (DataW H)} {d : DataW H}, d ∈ l → ∀ n ∈ d.weights P e, n ∈ DataW.weightsAll P e l := by
  intro l
  induction l with
  | nil => intro d hd; cases hd
  | cons x l ih =>
    intro d hd n hn
    simp only [DataW.weightsAll, List.mem_append]
    rcases List.mem_cons.1 hd with rfl | hd
    · exact Or.inl hn
    · exact Or.inr (ih hd n hn)
theorem openOctB {H : Type} {enc : TypeId × Value → H} {w : World} {base : Nat} {held : Bool} (fuel : Nat) (V : Value) (y : DataW H × List MemPlace) (h : DataW.trod enc Try.prog w base (fun _ => true) held fuel 26 [V] = some y) (hw : ∀ m ∈ y.1.weights Try.prog 26, m ≤ reachBytes) : ∃ x, Oct w V x ∧ x.length ≤ 140737488351232 := by
  have h0 := h
  obtain ⟨x, hx⟩ := openOct fuel V y h
  refine ⟨x, hx, ?_⟩
  obtain ⟨⟨A, n, c, rfl, hr, hm⟩, ho⟩ := hx
  rw [← hr.len]
  rcases open_ints Try.underlying26 Try.underlying5 (by kernel_rfl) h0 with ⟨hcs, _⟩ | ⟨a, len, cap, zs, hcs, _, hl, _, hz, hy, _, _⟩
  · simp at hcs
    omega
  · simp at hcs
    obtain ⟨rfl, rfl, rfl⟩ := hcs
    subst hy
    have := hw ((lits (H := H) .u8 (zs.take n)).length + (lits (H := H) .u8 (zs.drop n)).length) (by
      simp only [DataW.weights, Try.underlying26, show Try.prog.bytesOf 5 = 1 by kernel_rfl, Nat.mul_one]
      exact List.mem_cons_self ..)
    simp only [lits, List.length_map] at this
    have h2 : (zs.take n).length + (zs.drop n).length = zs.length := by rw [← List.length_append, List.take_append_drop]
    have h3 : zs.length = c := by simpa using hz
    have h4 : reachBytes = 140737488351232 := by decide
    omega
set_option maxHeartbeats 4000000 in
set_option maxRecDepth 100000 in
theorem openEvs {H : Type} {enc : TypeId × Value → H} {w : World} {base : Nat} {held : Bool} {fuel : Nat} {a0 : Option Addr} {l0 c0 : Nat} {x : DataW H × List MemPlace} (h : DataW.trod enc Try.prog w base (fun _ => true) held fuel 29 [.slice a0 l0 c0] = some x) (hw : ∀ m ∈ x.1.weights Try.prog 29, m ≤ reachBytes) :
    ∃ z, IsEvs w a0 l0 c0 z := by
  rcases open_slice Try.underlying29 h with ⟨h0, _⟩ | ⟨a, len, cap, m, n, D, Pl, hcs, hb, hl, hm, hmm, hx0, hx⟩
  · simp at h0
    obtain ⟨rfl, rfl, rfl⟩ := h0
    exact ⟨[], rfl, Nat.le_refl _, by omega, fun i x hx => by simp at hx⟩
  simp at hcs
  obtain ⟨rfl, rfl, rfl⟩ := hcs
  have hlm : l0 ≤ m := by rw [hmm]; split <;> omega
  have each : ∀ i, i < l0 → ∃ q : Int × Int × List Int, EvAt w a i q := by
    intro i hi
    obtain ⟨cs', h1, h2⟩ := hx i (by omega)
    rw [show Try.prog.cellsOf 39 = 4 by kernel_rfl] at h1
    obtain ⟨_, hlen, hcell⟩ := World.cells?_some h1
    obtain ⟨xs, k, hk, hxy, _, hxl, hf⟩ := DataW.trod_struct Try.underlying39 h2
    have e0 : DataW.trod enc Try.prog w base (fun _ => true) held k 3 ((cs'.drop 0).take (Try.prog.cellsOf 3)) = xs[0]? := hf 0 _ rfl
    rw [show Try.prog.cellsOf 3 = 1 by kernel_rfl, List.getElem?_eq_getElem (by rw [hxl]; decide)] at e0
    obtain ⟨x0, f0, _, _⟩ := DataW.trod_int Try.underlying3 e0
    have k0 := hcell 0 (by omega)
    rw [take_one f0, Deep.add_add] at k0
    have e1 : DataW.trod enc Try.prog w base (fun _ => true) held k 3 ((cs'.drop 1).take (Try.prog.cellsOf 3)) = xs[1]? := hf 1 _ rfl
    rw [show Try.prog.cellsOf 3 = 1 by kernel_rfl, List.getElem?_eq_getElem (by rw [hxl]; decide)] at e1
    obtain ⟨x1, f1, _, _⟩ := DataW.trod_int Try.underlying3 e1
    have k1 := hcell 1 (by omega)
    rw [take_one f1, Deep.add_add] at k1
    have e2 : DataW.trod enc Try.prog w base (fun _ => true) held k 3 ((cs'.drop 2).take (Try.prog.cellsOf 3)) = xs[2]? := hf 2 _ rfl
    rw [show Try.prog.cellsOf 3 = 1 by kernel_rfl, List.getElem?_eq_getElem (by rw [hxl]; decide)] at e2
    obtain ⟨x2, f2, _, _⟩ := DataW.trod_int Try.underlying3 e2
    have k2 := hcell 2 (by omega)
    rw [take_one f2, Deep.add_add] at k2
    have e3 : DataW.trod enc Try.prog w base (fun _ => true) held k 26 ((cs'.drop 3).take (Try.prog.cellsOf 26)) = xs[3]? := hf 3 _ rfl
    rw [show Try.prog.cellsOf 26 = 1 by kernel_rfl, List.getElem?_eq_getElem (by rw [hxl]; decide)] at e3
    obtain ⟨V, hV⟩ : ∃ V, (cs'.drop 3).take 1 = [V] := by
      have h3 : ((cs'.drop 3).take 1).length = 1 := by simp; omega
      exact List.length_eq_one_iff.1 h3
    have k3 := hcell 3 (by omega)
    rw [take_one hV, Deep.add_add] at k3
    rw [hV] at e3
    have hwi : ∀ m ∈ (xs[3]'(by rw [hxl]; decide)).1.weights Try.prog 26, m ≤ reachBytes := fun m hm2 => by
      refine hw m ?_
      rw [hx0]
      simp only [DataW.weights, Try.underlying29]
      refine List.mem_cons_of_mem _ (List.mem_append_left _ (weights_mem_all (d := D i) (List.mem_map.2 ⟨i, List.mem_range.2 hi, rfl⟩) m ?_))
      have hD : D i = .agg (xs.map (·.1)) := (Prod.mk.inj hxy).1
      rw [hD]
      simp only [DataW.weights, Try.underlying39]
      exact DataW.weights_mem_each (j := 3) (t := 26) rfl (by rw [List.getElem?_map, List.getElem?_eq_getElem (by rw [hxl]; decide)]; rfl) m hm2
    obtain ⟨b, hb, hbs⟩ := openOctB _ _ _ e3 hwi
    exact ⟨(x1, x2, b), ⟨x0, by simpa using k0⟩, k1, k2, ⟨V, k3, hb⟩, hbs⟩
  obtain ⟨q, hq⟩ := choose_lt each
  refine ⟨(List.range l0).map q, by simp, hl, by unfold maxLen at hm; omega, fun i x hx => ?_⟩
  have hi : i < l0 := by
    have := (List.getElem?_eq_some_iff.1 hx).1
    simpa using this
  have e : x = q i := by
    simp [hi] at hx
    exact hx.symm
  exact ⟨a, rfl, e ▸ hq i hi⟩
end Go.Proofs.Ytcgdnkgnknceiaa.OpenD
