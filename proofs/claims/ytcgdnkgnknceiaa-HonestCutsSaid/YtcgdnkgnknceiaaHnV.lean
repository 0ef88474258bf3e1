/- Rows of rows of the call's own. -/
import Derived.Test.YtcgdnkgnknceiaaHnD
import Derived.Test.YtcgdnkgnknceiaaOpenD
namespace Go.Proofs.Ytcgdnkgnknceiaa.HnV
open Go.RowKit Go.Proofs.YtcgdnkgnknceiaaW.PrintWords Go.Proofs.YtcgdnkgnknceiaaW.PrintLast Go.Proofs.YtcgdnkgnknceiaaW.PrintMore Go.Proofs.Ytcgdnkgnknceiaa.K Go.Proofs.Ytcgdnkgnknceiaa.OpenC Go.Proofs.Ytcgdnkgnknceiaa.OpenD Go.Proofs.Ytcgdnkgnknceiaa.HnA Go.Proofs.Ytcgdnkgnknceiaa.HnB Go.Proofs.Ytcgdnkgnknceiaa.HnC Go.Proofs.Ytcgdnkgnknceiaa.HnD
set_option linter.unusedVariables false
set_option linter.unusedSimpArgs false
attribute [local go_sem] max2_int min2_int max_two min_two

theorem cell_blk {w w' : World} {p : Addr} (h : w'.heap[p.block]? = w.heap[p.block]?) : w'.cell? p = w.cell? p := by simp [World.cell?, h]
theorem reads_of_rds {w : World} {A : Option Addr} {n c : Nat} {xs : List Int} (h : Rds (Kd.int .u8) w A n c xs) : ReadsOf (Value.int .u8) (0 : Int) w A n xs := by
  refine ⟨h.len.symm, h.row.2.1, fun hn => ?_⟩
  obtain ⟨ad, hA, _⟩ := h.row.2.2 hn
  refine ⟨ad, hA, fun j hj => ?_⟩
  obtain ⟨ad', hA', hc⟩ := h.int (j : Int) (by omega) (by omega)
  cases hA.symm.trans hA'
  simpa [rd] using hc
theorem rds_of_reads {w : World} {A : Option Addr} {n c : Nat} {xs : List Int} (h : ReadsOf (Value.int .u8) (0 : Int) w A n xs) (hc : n ≤ c) : Rds (Kd.int .u8) w A n c xs :=
  ⟨Kd.C_of_reads (enc := Value.int .u8) (d := (0 : Int)) (h1 := fun _ => rfl) h, h.1.symm, hc⟩
theorem add_blk (ad : Addr) (i : Nat) : (ad.add i).block = ad.block := by cases i <;> rfl
/-- The octets are read where their block is the same. -/
theorem Oct.move {w w2 : World} {A : Option Addr} {n c : Nat} {x : List Int} (h : Rds (Kd.int .u8) w A n c x) (hk : ∀ ad, A = some ad → 0 < n → w2.heap[ad.block]? = w.heap[ad.block]?) : Rds (Kd.int .u8) w2 A n c x := by
  have hr := reads_of_rds h
  refine rds_of_reads ⟨hr.1, hr.2.1, fun hn => ?_⟩ h.cap
  obtain ⟨ad, hA, hc⟩ := hr.2.2 hn
  exact ⟨ad, hA, fun j hj => (cell_blk (by rw [add_blk]; exact hk ad hA hn)).trans (hc j hj)⟩
/-- What stands still: what was there at first, octets, and rows of headers below Bm. -/
def Agr (W0 Bm : Nat) (w w2 : World) : Prop := ∀ k, (k < W0 ∨ (∃ cs fr, w.heap[k]? = some (.cells cs 5 fr)) ∨ (k < Bm ∧ ∃ cs fr, w.heap[k]? = some (.cells cs 26 fr))) → w2.heap[k]? = w.heap[k]?
theorem Agr.trans {W0 Bm : Nat} {w w1 w2 : World} (a : Agr W0 Bm w w1) (b : Agr W0 Bm w1 w2) : Agr W0 Bm w w2 := fun k hk => by
  have e := a k hk
  refine (b k ?_).trans e
  rw [e]
  exact hk
theorem Agr.low {W0 Bm B2 : Nat} {w w1 : World} (a : Agr W0 Bm w w1) (h : B2 ≤ Bm) : Agr W0 B2 w w1 := fun k hk => a k (hk.imp id (Or.imp id (fun q => ⟨Nat.lt_of_lt_of_le q.1 h, q.2⟩)))
theorem Agr.refl (W0 Bm : Nat) (w : World) : Agr W0 Bm w w := fun k _ => rfl
theorem Agr.below {W0 Bm : Nat} {w w1 : World} (hb : Below w.heap.size w w1) (h0 : W0 ≤ w.heap.size) : Agr W0 Bm w w1 := fun k hk => by
  refine hb.block k ?_
  rcases hk with h | ⟨cs, fr, h⟩ | ⟨_, cs, fr, h⟩
  · omega
  · exact (Array.getElem?_eq_some_iff.1 h).1
  · exact (Array.getElem?_eq_some_iff.1 h).1
def OctS (W0 : Nat) (w : World) (v : Value) (x : List Int) : Prop := ∀ w2, Agr W0 0 w w2 → Oct w2 v x
def GrS (W0 Bm : Nat) (w : World) (v : Value) (x : List (List Int)) : Prop := ∀ w2, Agr W0 Bm w w2 → Gr w2 v x
theorem OctS.step {W0 : Nat} {w w1 : World} {v : Value} {x : List Int} (h : OctS W0 w v x) (a : Agr W0 0 w w1) : OctS W0 w1 v x := fun w2 b => h w2 (a.trans b)
theorem GrS.step {W0 Bm : Nat} {w w1 : World} {v : Value} {x : List (List Int)} (h : GrS W0 Bm w v x) (a : Agr W0 Bm w w1) : GrS W0 Bm w1 v x := fun w2 b => h w2 (a.trans b)
theorem GrS.high {W0 Bm B2 : Nat} {w : World} {v : Value} {x : List (List Int)} (h : GrS W0 Bm w v x) (hb : Bm ≤ B2) : GrS W0 B2 w v x := fun w2 b => h w2 (b.low hb)
/-- Octets of before. -/
theorem octS_old {W0 : Nat} {w0 w : World} {v : Value} {x : List Int} (h : Oct w0 v x) (h0 : W0 = w0.heap.size) (hb : Below W0 w0 w) : OctS W0 w v x := fun w2 a => by
  obtain ⟨⟨A, n, c, e, hr, hm⟩, ho⟩ := h
  refine ⟨⟨A, n, c, e, Oct.move hr (fun ad hA hn => ?_), hm⟩, ho⟩
  obtain ⟨ad', hA', hc⟩ := (reads_of_rds hr).2.2 hn
  cases hA.symm.trans hA'
  have hlt := World.block_lt_of_cell? w0 _ (hc 0 hn)
  rw [add_blk] at hlt
  rw [a ad.block (Or.inl (by omega)), hb.block ad.block (by omega)]
theorem own5_typed {B : Nat} {w : World} {v : Value} {xs : List Int} (h : Own (Kd.int .u8) 5 B w v xs) (k : Nat) (hk : some k = v.ownBlock) : ∃ cells, w.heap[k]? = some (.cells cells 5 (0, 0)) := by
  have := (Kd.R_bound h.out).1 k hk.symm
  obtain ⟨_, h2, h3, q, hq, cells, hc⟩ := this
  refine ⟨cells, ?_⟩
  have : q = 5 := by simpa [Kd.int, Kd.scalar] using hq
  rwa [this] at hc
theorem ownH_typed {e B : Nat} {w : World} {v : Value} {xs : List (Option Addr × Nat × Nat)} (h : Own HK e B w v xs) (k : Nat) (hk : some k = v.ownBlock) : B ≤ k ∧ k < w.heap.size ∧ ∃ cells, w.heap[k]? = some (.cells cells e (0, 0)) := by
  have := (Kd.R_bound h.out).1 k hk.symm
  obtain ⟨_, h2, h3, q, hq, cells, hc⟩ := this
  refine ⟨h2, h3, cells, ?_⟩
  have : q = e := by simpa [HK, Kd.scalar] using hq
  rwa [this] at hc
/-- Octets of the call's own. -/
theorem octS_own {W0 B n c : Nat} {w : World} {A : Option Addr} {x : List Int} (h : Own (Kd.int .u8) 5 B w (.slice A n c) x) (ho : oct x) (hm : n ≤ 9223372036854775807) : OctS W0 w (.slice A n c) x := fun w2 a => by
  have hr := h.rds
  refine ⟨⟨A, n, c, rfl, Oct.move hr (fun ad hA hn => ?_), hm⟩, ho⟩
  obtain ⟨g, hA2, _⟩ := Own.elem (enc := Value.int .u8) (h1 := fun _ => rfl) (0 : Int) h 0 hn
  rw [hA] at hA2
  cases hA2
  obtain ⟨cells, hc⟩ := own5_typed h g (by simp [Value.ownBlock, hA])
  exact a g (Or.inr (Or.inl ⟨cells, _, hc⟩))
/-- A row of headers of octets, as it stands from now on. -/
theorem grS_own {W0 Bm B n c : Nat} {w : World} {A : Option Addr} {hs : List (Option Addr × Nat × Nat)} {x : List (List Int)} (h : Own HK 26 B w (.slice A n c) hs) (hB : w.heap.size ≤ Bm) (hl : hs.length = x.length) (hx : ∀ (j : Nat) e y, hs[j]? = some e → x[j]? = some y → OctS W0 w (encH e) y) (hm : n ≤ 9223372036854775807) : GrS W0 Bm w (.slice A n c) x := fun w2 a => by
  have hr := h.rds
  refine ⟨A, n, c, rfl, hr.len.trans hl, hr.cap, hm, fun i y hi => ?_⟩
  have hi2 : i < x.length := (List.getElem?_eq_some_iff.1 hi).1
  have hi3 : hs[i]? = some (hs[i]'(by omega)) := by simp
  obtain ⟨g, hA, _, hg, hc, _⟩ := Own.elem (enc := encH) (h1 := fun _ => rfl) (none, 0, 0) h i (by rw [hr.len, hl]; exact hi2)
  subst hA
  obtain ⟨_, _, cells, hcl⟩ := ownH_typed h g (by simp [Value.ownBlock])
  refine ⟨⟨g, 0, none⟩, encH (hs[i]'(by omega)), rfl, ?_, hx i _ y hi3 hi w2 (a.low (Nat.zero_le _))⟩
  rw [cell_blk (w := w) (by rw [add_blk]; exact a g (Or.inr (Or.inr ⟨by omega, cells, _, hcl⟩))), add_at, Nat.zero_add, hc]
  simp [rdOf, List.getD_eq_getElem?_getD, hi3]

theorem Agr.fr {W0 Bm : Nat} {w w2 : World} {S : Nat → Prop} (hf : Fr S w w2) (h0 : W0 ≤ w.heap.size) (hS : ∀ k, S k → W0 ≤ k ∧ ∃ t cs fr, w.heap[k]? = some (.cells cs t fr) ∧ (t = 22 ∨ (t = 26 ∧ Bm ≤ k))) : Agr W0 Bm w w2 := fun k hk => by
  have hlt : k < w.heap.size := by
    rcases hk with h | ⟨cs, fr, h⟩ | ⟨_, cs, fr, h⟩
    · omega
    · exact (Array.getElem?_eq_some_iff.1 h).1
    · exact (Array.getElem?_eq_some_iff.1 h).1
  refine hf.block k hlt (fun hs => ?_)
  obtain ⟨h1, t, cs, fr, h2, h3⟩ := hS k hs
  rcases hk with h | ⟨cs', fr', h⟩ | ⟨hb, cs', fr', h⟩
  · omega
  · rw [h2] at h
    cases h
    rcases h3 with h3 | ⟨h3, _⟩ <;> cases h3
  · rw [h2] at h
    cases h
    rcases h3 with h3 | ⟨h3, h4⟩
    · cases h3
    · omega
/-- Sessions that the call puts together: those that are closed, and the last one. -/
structure CutD (w w' : World) (vo : Value) (X : List (List (List Int))) (last : List (List Int)) (hs : List (Option Addr × Nat × Nat)) (hl : Option Addr × Nat × Nat) (Bm : Nat) (hsl : List (Option Addr × Nat × Nat)) : Prop where
  out : Own HK 22 w.heap.size w' vo (hs ++ [hl])
  len : hs.length = X.length
  old : ∀ (i : Nat) h x, hs[i]? = some h → X[i]? = some x → GrS w.heap.size Bm w' (encH h) x
  row : Own HK 26 Bm w' (encH hl) hsl
  lenl : hsl.length = last.length
  oct : ∀ (j : Nat) e y, hsl[j]? = some e → last[j]? = some y → OctS w.heap.size w' (encH e) y
  b0 : w.heap.size ≤ Bm
  b1 : Bm ≤ w'.heap.size
  bl : Below w.heap.size w w'
section
variable {w w' w2 : World} {vo vo' : Value} {X : List (List (List Int))} {last : List (List Int)} {hs hsl : List (Option Addr × Nat × Nat)} {hl hl' : Option Addr × Nat × Nat} {Bm : Nat}
theorem CutD.below (d : CutD w w' vo X last hs hl Bm hsl) (hb : Below w'.heap.size w' w2) : CutD w w2 vo X last hs hl Bm hsl :=
  ⟨d.out.below hb, d.len, fun i h x e1 e2 => (d.old i h x e1 e2).step (Agr.below hb d.bl.size), d.row.below hb, d.lenl, fun j e y e1 e2 => (d.oct j e y e1 e2).step (Agr.below hb d.bl.size), d.b0, Nat.le_trans d.b1 hb.size, below_step d.bl hb⟩
theorem CutD.rowS (d : CutD w w' vo X last hs hl Bm hsl) : ∀ k, some k = (encH hl).ownBlock → w.heap.size ≤ k ∧ ∃ t cs fr, w'.heap[k]? = some (.cells cs t fr) ∧ (t = 22 ∨ (t = 26 ∧ Bm ≤ k)) := fun k hk => by
  obtain ⟨h1, h2, cells, h3⟩ := ownH_typed d.row k hk
  exact ⟨Nat.le_trans d.b0 h1, 26, cells, _, h3, Or.inr ⟨rfl, h1⟩⟩
theorem CutD.outS (d : CutD w w' vo X last hs hl Bm hsl) (B2 : Nat) : ∀ k, some k = vo.ownBlock → w.heap.size ≤ k ∧ ∃ t cs fr, w'.heap[k]? = some (.cells cs t fr) ∧ (t = 22 ∨ (t = 26 ∧ B2 ≤ k)) := fun k hk => by
  obtain ⟨h1, h2, cells, h3⟩ := ownH_typed d.out k hk
  exact ⟨h1, 22, cells, _, h3, Or.inl rfl⟩
theorem own_apart {e1 e2 B1 B2 : Nat} {v u : Value} {xs ys : List (Option Addr × Nat × Nat)} (h : Own HK e1 B1 w v xs) (g : Own HK e2 B2 w u ys) (hne : e1 ≠ e2) (k : Nat) (hk : some k = v.ownBlock) : ¬ some k = u.ownBlock := fun hu => by
  obtain ⟨_, _, c1, h1⟩ := ownH_typed h k hk
  obtain ⟨_, _, c2, h2⟩ := ownH_typed g k hu
  rw [h1] at h2
  cases h2
  exact hne rfl
/-- The last row has grown; its header is still to be stored. -/
theorem CutD.grown (d : CutD w w' vo X last hs hl Bm hsl) {e : Option Addr × Nat × Nat} {y : List Int} {v1 : Value} (ho : Own HK 26 Bm w2 v1 (hsl ++ [e])) (hf : Fr (fun k => some k = (encH hl).ownBlock) w' w2) (hy : OctS w.heap.size w' (encH e) y) :
    Own HK 22 w.heap.size w2 vo (hs ++ [hl]) ∧ (∀ (i : Nat) h x, hs[i]? = some h → X[i]? = some x → GrS w.heap.size Bm w2 (encH h) x) ∧ (∀ (j : Nat) e' y', (hsl ++ [e])[j]? = some e' → (last ++ [y])[j]? = some y' → OctS w.heap.size w2 (encH e') y') ∧ Below w.heap.size w w2 := by
  have ag : Agr w.heap.size Bm w' w2 := Agr.fr hf d.bl.size d.rowS
  refine ⟨Own.fr (enc := encH) (h1 := fun _ => rfl) d.out hf (fun k hk h => own_apart d.out d.row (by decide) k hk h), fun i h x e1 e2 => (d.old i h x e1 e2).step ag, fun j e' y' e1 e2 => ?_, Fr.above d.bl d.bl.size hf (fun i hi h => by have := (d.rowS i h).1; omega)⟩
  by_cases hj : j < hsl.length
  · rw [List.getElem?_append_left hj] at e1
    rw [List.getElem?_append_left (by rw [← d.lenl]; exact hj)] at e2
    exact (d.oct j e' y' e1 e2).step (ag.low (Nat.zero_le _))
  · have hj2 : j = hsl.length := by
      have := (List.getElem?_eq_some_iff.1 e1).1
      simp at this
      omega
    subst hj2
    rw [List.getElem?_append_right (Nat.le_refl _)] at e1
    rw [d.lenl, List.getElem?_append_right (Nat.le_refl _)] at e2
    simp at e1 e2
    subst e1 e2
    exact hy.step (ag.low (Nat.zero_le _))
/-- .. and the header is stored. -/
theorem CutD.store (d : CutD w w' vo X last hs hl Bm hsl) {e : Option Addr × Nat × Nat} {y : List Int} (ho : Own HK 26 Bm w2 (encH hl') (hsl ++ [e])) (hf : Fr (fun k => some k = (encH hl).ownBlock) w' w2) (hy : OctS w.heap.size w' (encH e) y) {g n c : Nat} (hv : vo = .slice (some ⟨g, 0, none⟩) n c) (hn : hs.length + 1 = n) :
    w2.cell? ⟨g, hs.length, none⟩ = some (encH hl) ∧ w2.frozen? ⟨g, hs.length, none⟩ = false ∧ CutD w (w2.setCell ⟨g, hs.length, none⟩ (encH hl')) vo X (last ++ [y]) hs hl' Bm (hsl ++ [e]) := by
  obtain ⟨o2, old2, oct2, bl2⟩ := d.grown ho hf hy
  subst hv
  obtain ⟨g', hA, hg1, hg2, hc, hz, hset⟩ := Own.elem (enc := encH) (h1 := fun _ => rfl) (none, 0, 0) o2 hs.length (by omega)
  cases hA
  have hcc : w2.cell? ⟨g, hs.length, none⟩ = some (encH hl) := by
    rw [hc]
    simp [rdOf, List.getD_eq_getElem?_getD]
  have hs2 := hset hl'
  rw [show (hs ++ [hl]).set hs.length hl' = hs ++ [hl'] by simp] at hs2
  have fp := Fr.put (Fr.refl (fun k => k = g) w2) hs.length (encH hl')
  obtain ⟨_, _, cells, hty⟩ := ownH_typed o2 g (by simp [Value.ownBlock])
  have ag : Agr w.heap.size Bm w2 (w2.setCell ⟨g, hs.length, none⟩ (encH hl')) := Agr.fr fp bl2.size (fun k hk => by
    subst hk
    exact ⟨hg1, 22, cells, _, hty, Or.inl rfl⟩)
  refine ⟨hcc, hz, hs2, d.len, fun i h x e1 e2 => (old2 i h x e1 e2).step ag, Own.fr (enc := encH) (h1 := fun _ => rfl) ho fp (fun k hk h => ?_), by rw [List.length_append, List.length_append, d.lenl]; rfl, fun j e' y' e1 e2 => (oct2 j e' y' e1 e2).step (ag.low (Nat.zero_le _)), d.b0, ?_, Fr.above bl2 bl2.size fp (fun i hi h => by omega)⟩
  · obtain ⟨_, _, c1, h1⟩ := ownH_typed ho k hk
    rw [h, hty] at h1
    cases h1
  · have := fp.size
    have := hf.size
    have := d.b1
    omega
/-- A new session. -/
theorem CutD.new (d : CutD w w' vo X last hs hl Bm hsl) (hm : last.length ≤ 9223372036854775807) (ho : Own HK 22 w.heap.size w2 vo' (hs ++ [hl] ++ [(none, 0, 0)])) (hf : Fr (fun k => some k = vo.ownBlock) w' w2) : CutD w w2 vo' (X ++ [last]) [] (hs ++ [hl]) (none, 0, 0) w'.heap.size [] := by
  have ag : Agr w.heap.size w'.heap.size w' w2 := Agr.fr hf d.bl.size (d.outS _)
  refine ⟨ho, by rw [List.length_append, List.length_append, d.len]; rfl, fun i h x e1 e2 => ?_, Own.nil _ _ _ _, rfl, fun j e y e1 => by simp at e1, d.bl.size, hf.size, Fr.above d.bl d.bl.size hf (fun i hi h => by have := (d.outS 0 i h).1; omega)⟩
  by_cases hi : i < hs.length
  · rw [List.getElem?_append_left hi] at e1
    rw [List.getElem?_append_left (by rw [← d.len]; exact hi)] at e2
    exact ((d.old i h x e1 e2).high d.b1).step ag
  · have hi2 : i = hs.length := by
      have := (List.getElem?_eq_some_iff.1 e1).1
      simp at this
      omega
    subst hi2
    rw [List.getElem?_append_right (Nat.le_refl _)] at e1
    rw [d.len, List.getElem?_append_right (Nat.le_refl _)] at e2
    simp at e1 e2
    subst e1 e2
    have hr := d.row.rds.len
    exact (grS_own d.row (Nat.le_refl _) d.lenl d.oct (by rw [hr, d.lenl]; exact hm)).step ag
theorem CutD.grid {A : Option Addr} {n c : Nat} (d : CutD w w' (.slice A n c) X last hs hl Bm hsl) (hm : last.length ≤ 9223372036854775807) (hn : n ≤ 9223372036854775807) : Grid3 w' A n c (X ++ [last]) := by
  have hr := d.out.rds
  refine ⟨hr.len.trans (by rw [List.length_append, List.length_append, d.len]; rfl), hr.cap, hn, fun i x hi => ?_⟩
  have hi2 : i < (hs ++ [hl]).length := by
    have := (List.getElem?_eq_some_iff.1 hi).1
    rw [List.length_append, ← d.len] at this
    rw [List.length_append]
    simpa using this
  have hi3 : (hs ++ [hl])[i]? = some ((hs ++ [hl])[i]'hi2) := by simp
  obtain ⟨g, hA, _, hg, hc, _⟩ := Own.elem (enc := encH) (h1 := fun _ => rfl) (none, 0, 0) d.out i (by rw [hr.len]; exact hi2)
  subst hA
  refine ⟨⟨g, 0, none⟩, encH ((hs ++ [hl])[i]'hi2), rfl, by rw [add_at, Nat.zero_add, hc]; simp [rdOf, List.getD_eq_getElem?_getD, hi3], ?_⟩
  generalize (hs ++ [hl])[i]'hi2 = h at hi3
  by_cases hlt : i < hs.length
  · rw [List.getElem?_append_left hlt] at hi3
    rw [List.getElem?_append_left (by rw [← d.len]; exact hlt)] at hi
    exact d.old i h x hi3 hi w' (Agr.refl _ _ _)
  · have e : i = hs.length := by simp at hi2; omega
    subst e
    rw [List.getElem?_append_right (Nat.le_refl _)] at hi3
    rw [d.len, List.getElem?_append_right (Nat.le_refl _)] at hi
    simp at hi3 hi
    subst hi3 hi
    have hr2 := d.row.rds.len
    exact grS_own (W0 := w.heap.size) d.row (Nat.le_refl _) d.lenl d.oct (by rw [hr2, d.lenl]; exact hm) w' (Agr.refl _ _ _)
end
def cutStep (at_ : Int) (s : List (List (List Int)) × List (List Int)) (e : Int × Int × List Int) : List (List (List Int)) × List (List Int) :=
  if e.1 ≠ at_ then s else if e.2.1 = 0 then (s.1, s.2 ++ [e.2.2]) else if e.2.1 = 1 ∨ e.2.1 = 3 then (s.1 ++ [s.2], []) else s
def cutF (at_ : Int) (l : List (Int × Int × List Int)) : List (List (List Int)) × List (List Int) := l.foldl (cutStep at_) ([], [])
def cutP (at_ : Int) (l : List (Int × Int × List Int)) : List (List (List Int)) := (cutF at_ l).1 ++ [(cutF at_ l).2]
theorem cutF_snoc (at_ : Int) (l : List (Int × Int × List Int)) (e : Int × Int × List Int) : cutF at_ (l ++ [e]) = cutStep at_ (cutF at_ l) e := by simp [cutF, List.foldl_append]
theorem cutF_len (at_ : Int) (l : List (Int × Int × List Int)) : ∀ s : List (List (List Int)) × List (List Int), (l.foldl (cutStep at_) s).1.length + (l.foldl (cutStep at_) s).2.length ≤ s.1.length + s.2.length + l.length := by
  induction l with
  | nil => intro s; simp
  | cons e l ih =>
    intro s
    have := ih (cutStep at_ s e)
    have h : (cutStep at_ s e).1.length + (cutStep at_ s e).2.length ≤ s.1.length + s.2.length + 1 := by
      unfold cutStep
      (repeat' split) <;> simp <;> omega
    rw [List.foldl_cons, List.length_cons]
    omega

end Go.Proofs.Ytcgdnkgnknceiaa.HnV
