/- An end of a line, as it lies in memory, and what a call may turn. -/
import Derived.Test.YtflgngnkfcfhpaaK2
import Derived.Test.YtflgngnkfcfhpaaReP
namespace Go.Proofs.Ytflgngnkfcfhpaa.ReA
open Go.RowKit Go.Proofs.YtflgngnkfcfhpaaW.PrintWords Go.Proofs.YtflgngnkfcfhpaaW.PrintLast Go.Proofs.YtflgngnkfcfhpaaW.PrintMore Go.Proofs.Ytflgngnkfcfhpaa.K Go.Proofs.Ytflgngnkfcfhpaa.ReP
set_option linter.unusedVariables false
set_option linter.unusedSimpArgs false
attribute [local go_sem] max2_int min2_int max_two min_two

theorem bodyPost_ret0 {P : Program} {fn : Func} {R : Ending → World → Prop} {a : Act} {w : World} (hr : fn.results = #[]) (hd : a.defers = []) (hR : R (.returned (.tuple #[])) w) : bodyPost P fn R .ret a w := ⟨hd, _, results_none hr _ _ _, hR⟩
theorem lenb {a r b m : Nat} (h : a + (r + 1) ≤ b + m) (h2 : (b + m + 2) * 16 ≤ 140737488355328) : (a + 1) * 16 ≤ 140737488355328 := Nat.le_trans (Nat.mul_le_mul_right 16 (by omega : a + 1 ≤ b + m + 2)) h2
theorem w64 {x : Int} (h0 : -9223372036854775808 ≤ x) (h1 : x ≤ 9223372036854775807) : IntKind.i64.wrap x = x := by
  rw [i64_w]
  unfold wrap64
  omega
theorem hb_set {w : World} {B : Nat} {p : Addr} {u : Value} (h : B ≤ w.heap.size) : B ≤ (w.setCell p u).heap.size := by simpa [World.setCell] using h
def PK : Kd (Int × Int) := Kd.pair (Kd.int .i64) (Kd.int .i64)
def pcells (p : Int × Int) : List Value := [.int .i64 p.1, .int .i64 p.2]
theorem PK_M (w : World) (base : Nat) (ok : Nat → Prop) (p : Int × Int) : PK.M w base ok p (pcells p) := ⟨[.int .i64 p.1], [.int .i64 p.2], rfl, rfl, rfl⟩
theorem PK_K {w : World} {p : Int × Int} {cs : List Value} (h : PK.K w p cs) : cs = pcells p := by
  obtain ⟨c0, c1, rfl, h0, h1⟩ := h
  have h0 : c0 = [.int .i64 p.1] := h0
  have h1 : c1 = [.int .i64 p.2] := h1
  subst h0 h1
  rfl
theorem PK_MM {w : World} {base : Nat} {ok : Nat → Prop} {p : Int × Int} {cs : List Value} (h : PK.M w base ok p cs) : cs = pcells p := by
  obtain ⟨c0, c1, rfl, h0, h1⟩ := h
  have h0 : c0 = [.int .i64 p.1] := h0
  have h1 : c1 = [.int .i64 p.2] := h1
  subst h0 h1
  rfl
theorem PK_E : PK.E = [] := rfl
theorem PK_sz : PK.sz = 2 := rfl
def foot (g : Nat) (v : Value) (k : Nat) : Prop := k = g ∨ some k = v.ownBlock
/-- Two objects with a row each share no block. -/
def Apart (g : Nat) (v : Value) (g' : Nat) (v' : Value) : Prop := ∀ k, foot g v k → ¬ foot g' v' k
theorem Apart.symm {g g' : Nat} {v v' : Value} (h : Apart g v g' v') : Apart g' v' g v := fun k h1 h2 => h k h2 h1
/-- An object at block g of type t: its first cells, and last of all a row v of pairs. -/
structure IsO (t : TypeId) (B : Nat) (w : World) (g : Nat) (v : Value) (l : List Value) (out : List (Int × Int)) : Prop where
  tab : Ob w g t (l ++ [v])
  row : Own PK 39 B w v out
/-- A call on an object with row v left it with row v1: what it may have turned. -/
structure Mv (g : Nat) (v v1 : Value) (w w1 : World) : Prop where
  fr : Fr (foot g v) w w1
  nx : ∀ k, some k = v1.ownBlock → some k = v.ownBlock ∨ w.heap.size ≤ k
section
variable {t B g : Nat} {w w1 w2 : World} {v v1 v2 : Value} {l : List Value} {out : List (Int × Int)} {S : Nat → Prop}
theorem own_fr {xs : List (Int × Int)} (h : Own PK 39 B w v xs) (hf : Fr S w w1) (hne : ∀ k, some k = v.ownBlock → ¬ S k) : Own PK 39 B w1 v xs :=
  ⟨Kd.R_mono (Kd.R_kept (Kd.R_tight PK_E h.out) ⟨hf.size, hf.block⟩ hne) (fun _ _ => trivial)⟩
theorem own_ne {xs : List (Int × Int)} (h : Own PK 39 B w v xs) {l : List Value} (hb : Ob w g t l) (ht : 39 ≠ t) : ∀ k, some k = v.ownBlock → ¬ k = g := fun k hk hkg => Kd.R_ne h.out hb ht (by rw [← hk, hkg])
theorem own_b {xs : List (Int × Int)} (h : Own PK 39 B w v xs) : ∀ k, some k = v.ownBlock → B ≤ k ∧ k < w.heap.size := by
  obtain ⟨inner, ho⟩ := Kd.R_own h.out
  exact fun k hk => ⟨own_base ho k hk.symm, own_lt ho k hk.symm⟩
theorem IsO.fr (h : IsO t B w g v l out) (hf : Fr S w w1) (hS : ∀ k, foot g v k → ¬ S k) : IsO t B w1 g v l out :=
  ⟨h.tab.fr hf (hS g (.inl rfl)), own_fr h.row hf (fun k hk => hS k (.inr hk))⟩
theorem IsO.below (h : IsO t B w g v l out) (hb : Below w.heap.size w w1) : IsO t B w1 g v l out := ⟨h.tab.below hb, h.row.below hb⟩
theorem IsO.lt (h : IsO t B w g v l out) : ∀ k, foot g v k → k < w.heap.size := fun k hk => hk.elim (fun e => e ▸ h.tab.lt) (fun e => (own_b h.row k e).2)
theorem IsO.put (h : IsO t B w g v l out) (ht : 39 ≠ t) (i : Nat) (u : Value) (hi : i < l.length) : IsO t B (w.setCell ⟨g, i, none⟩ u) g v (l.set i u) out :=
  ⟨by have := h.tab.set i u; rwa [List.set_append_left _ _ hi] at this, own_fr h.row (Fr.put (Fr.refl (fun x => x = g) w) i u) (own_ne h.row h.tab ht)⟩
theorem IsO.putRow (h : Ob w g t (l ++ [v])) (ht : 39 ≠ t) (hv : Own PK 39 B w v1 out) : IsO t B (w.setCell ⟨g, l.length, none⟩ v1) g v1 l out :=
  ⟨by have := h.set l.length v1; rwa [List.set_append_right _ _ (Nat.le_refl _), Nat.sub_self, List.set_cons_zero] at this, own_fr hv (Fr.put (Fr.refl (fun x => x = g) w) l.length v1) (own_ne hv h ht)⟩
theorem Mv.refl (g : Nat) (v : Value) (w : World) : Mv g v v w w := ⟨Fr.refl _ _, fun _ h => .inl h⟩
theorem Mv.trans (h : Mv g v v1 w w1) (k : Mv g v1 v2 w1 w2) : Mv g v v2 w w2 :=
  ⟨h.fr.trans k.fr (fun b hb hf => hf.elim .inl (fun e => (h.nx b e).elim .inr (fun e2 => absurd hb (by omega)))), fun x hx => (k.nx x hx).elim (h.nx x) (fun e => .inr (Nat.le_trans h.fr.size e))⟩
theorem Mv.put (h : Mv g v v1 w w1) (i : Nat) (u : Value) : Mv g v v1 w (w1.setCell ⟨g, i, none⟩ u) := ⟨h.fr.set (p := ⟨g, i, none⟩) (Or.inl rfl) u, h.nx⟩
theorem Mv.then (h : Mv g v v1 w w1) (k : Below w1.heap.size w1 w2) : Mv g v v1 w w2 := ⟨h.fr.then k, h.nx⟩
theorem Mv.app (h : Mv g v v1 w w1) (f : Fr (fun k => some k = v1.ownBlock) w1 w2) (n : ∀ k, some k = v2.ownBlock → some k = v1.ownBlock ∨ w1.heap.size ≤ k) : Mv g v v2 w w2 := h.trans ⟨f.mono (fun _ e => .inr e), n⟩
theorem Mv.nil (h : Mv g v v1 w w1) : Mv g v (.slice none 0 0) w w1 := ⟨h.fr, fun k hk => by simp [Value.ownBlock] at hk⟩
/-- What lies apart stays as it is, and lies apart. -/
theorem IsO.mv {g' t' : Nat} {v' : Value} {l' : List Value} {out' : List (Int × Int)} (h : IsO t' B w g' v' l' out') (m : Mv g v v1 w w1) (ha : Apart g v g' v') : IsO t' B w1 g' v' l' out' := h.fr m.fr (fun k hk hf => ha k hf hk)
theorem Apart.mv {g' t' : Nat} {v' : Value} {l' : List Value} {out' : List (Int × Int)} (ha : Apart g v g' v') (m : Mv g v v1 w w1) (h : IsO t' B w g' v' l' out') : Apart g v1 g' v' := by
  intro k hk hf
  rcases hk with hk | hk
  · exact ha k (.inl hk) hf
  · rcases m.nx k hk with e | e
    · exact ha k (.inr e) hf
    · have := h.lt k hf; omega
theorem Mv.below {w0 : World} (m : Mv g v v1 w w1) (hb : Below w0.heap.size w0 w) (hg : w0.heap.size ≤ g) (h : ∀ k, some k = v.ownBlock → w0.heap.size ≤ k) : Below w0.heap.size w0 w1 :=
  Fr.above hb hb.size m.fr (fun i hi e => e.elim (fun e => by omega) (fun e => by have := h i e; omega))
end
theorem IsO.down {w0 w w1 : World} {t g : Nat} {v v1 : Value} {l : List Value} {out : List (Int × Int)} (h : IsO t w0.heap.size w g v l out) (hg : w0.heap.size ≤ g) (m : Mv g v v1 w w1) (hb : Below w0.heap.size w0 w) : Below w0.heap.size w0 w1 :=
  m.below hb hg (fun k hk => (own_b h.row k hk).1)
theorem pair_at {w : World} {A : Option Addr} {n c : Nat} {xs : List (Int × Int)} (h : Rds PK w A n c xs) (i : Nat) (hi : i < n) : ∃ ad, A = some ad ∧ w.cell? (ad.add (i * 2)) = some (.int .i64 (xs.getD i (0, 0)).1) ∧ w.cell? (ad.add (i * 2 + 1)) = some (.int .i64 (xs.getD i (0, 0)).2) := by
  obtain ⟨ad, cs, hA, _, hk, hc⟩ := Kd.C_get h.row (0, 0) (i : Int) (by omega) (by omega)
  have := PK_K hk
  subst this
  simp only [Int.toNat_natCast, PK_sz] at hc
  exact ⟨ad, hA, hc 0 _ rfl, hc 1 _ rfl⟩
theorem apart_new {w : World} {g t g' B : Nat} {v : Value} {l : List Value} {out : List (Int × Int)} (h : IsO t B w g v l out) (hg : w.heap.size ≤ g') : Apart g v g' (.slice none 0 0) := by
  intro k hk hf
  have := h.lt k hk
  rcases hf with hf | hf
  · omega
  · simp [Value.ownBlock] at hf
theorem eq39d (d : Nat) (w : World) (a b c e : Int) : (Op.equalIn (d + 2) 39 (.agg #[.int .i64 a, .int .i64 b]) (.agg #[.int .i64 c, .int .i64 e])).run Try.prog w = .ok (a == c && b == e) w := by
  have hs : (sizeOf 3).run Try.prog w = .ok 1 w := by kernel_rfl
  have h3 : ∀ x y, (Op.equalIn (d + 1) 3 (.int .i64 x) (.int .i64 y)).run Try.prog w = .ok (x == y) w := fun x y => by simp [Op.equalIn, run_underlying Try.underlying3]
  rw [Op.equalIn]
  simp [run_underlying Try.underlying39, hs, List.range'_succ, List.range'_zero, part, h3]
  by_cases h1 : a = c
  · by_cases h2 : b = e
    · simp [h1, h2]
    · simp [h1, h2]
  · simp [h1]
theorem eq39 (w : World) (a b c e : Int) : (Op.equalIn 10000 39 (.agg #[.int .i64 a, .int .i64 b]) (.agg #[.int .i64 c, .int .i64 e])).run Try.prog w = .ok (a == c && b == e) w := eq39d 9998 w a b c e
theorem own_pair {w : World} {B : Nat} {v : Value} {xs : List (Int × Int)} {n : Nat} (h : Own PK 39 B w v xs) (hn : xs.length = n) (h0 : 0 < n) : ∃ b cp, v = .slice (some ⟨b, 0, none⟩) n cp ∧ B ≤ b ∧ n ≤ cp ∧ ∀ i, i < n → w.cell? ⟨b, i * 2, none⟩ = some (.int .i64 (xs.getD i (0, 0)).1) ∧ w.cell? ⟨b, i * 2 + 1, none⟩ = some (.int .i64 (xs.getD i (0, 0)).2) := by
  obtain ⟨inner, ho⟩ := Kd.R_own h.out
  obtain ⟨g, cap, hv, hg, hb⟩ := ho.form (by omega)
  obtain ⟨A, c, hv2, hc⟩ := h.sliceN hn
  rw [hv2] at hv
  injection hv with e1 e2 e3
  subst e1
  rw [hv2] at h
  refine ⟨g, c, hv2, hg, hc, fun i hi => ?_⟩
  obtain ⟨ad, hA, p0, p1⟩ := pair_at h.rds i hi
  cases hA
  rw [add_at, Nat.zero_add] at p0 p1
  exact ⟨p0, p1⟩
theorem info39 : (Try.prog.info? 39).map (fun i => (i.zero, i.size, i.bytes)) = some (some (.agg #[.int .i64 0, .int .i64 0]), 2, 16) := by kernel_rfl
section
variable {ops : Array Oper} {rest : List Oper} {o : Oper} {a : Act} {Q : Exit → Act → World → Prop}
/-- append of one pair onto a row of the call's own. -/
theorem app_pair {W : World} {B : Nat} {v : Value} {xs : List (Int × Int)} {x0 x1 : Int} (s x : Operand) (hgd : o.guard = none) (ho : o.op = .call { callee := .builtin .append, args := #[s, x], argTypes := #[36, 36] })
    (hs : a.eval s = v) (hx : a.eval x = .slice (some ⟨W.heap.size, 0, none⟩) 1 1) (HO : Own PK 39 B W v xs) (hB : B ≤ W.heap.size) (hl : (xs.length + 1) * 16 ≤ 140737488355328)
    (h : ∀ v1 w1, Own PK 39 B w1 v1 (xs ++ [(x0, x1)]) → Fr (fun k => some k = v.ownBlock) W w1 → (∀ k, some k = v1.ownBlock → some k = v.ownBlock ∨ W.heap.size ≤ k) → wpList Try.prog ops Q rest (a.put o.dst v1) w1) :
    wpList Try.prog ops Q (o :: rest) a (W.alloc (.cells #[.int .i64 x0, .int .i64 x1] 39)) := by
  refine Kd.R_append PK (w0 := W) B hgd s x 36 39 (.agg #[.int .i64 0, .int .i64 0]) 16 ho Try.underlying36 info39 rfl (by decide) (by decide) v xs (x0, x1) (pcells (x0, x1)) (fun _ => True) (fun _ => False) hs hx (PK_M _ _ _ _) (fun _ h => h.elim) (fun _ _ => trivial) HO.out (Below.refl _ _) hB hl ?_
  intro v1 w1 h1 h2 h3 h4
  refine h v1 w1 ⟨h1⟩ ⟨h3.os, h3.tape, h3.output, h3.size, fun i hi hne => h3.block i hi hne⟩ (fun k hk => ?_)
  rcases h4 with h4 | ⟨b, h4, h5⟩
  · exact .inl (by rw [hk, h4])
  · rw [h4] at hk
    cases hk
    exact .inr h5
end

section
variable {ops : Array Oper} {o : Oper} {a : Act} {Q : Exit → Act → World → Prop} {Kc : Act → World → Prop}
/-- .. as a step of a region. -/
theorem step_pair {W' : World} (W : World) {B : Nat} {v : Value} {xs : List (Int × Int)} {x0 x1 : Int} (s x : Operand) (hw : Region.wanted o (yielded ops a.tmps) = true) (ho : o.op = .call { callee := .builtin .append, args := #[s, x], argTypes := #[36, 36] })
    (he : W.alloc (.cells #[.int .i64 x0, .int .i64 x1] 39) = W') (hs : a.eval s = v) (hx : a.eval x = .slice (some ⟨W.heap.size, 0, none⟩) 1 1) (HO : Own PK 39 B W v xs) (hB : B ≤ W.heap.size) (hl : (xs.length + 1) * 16 ≤ 140737488355328)
    (h : ∀ v1 w1, Own PK 39 B w1 v1 (xs ++ [(x0, x1)]) → Fr (fun k => some k = v.ownBlock) W w1 → (∀ k, some k = v1.ownBlock → some k = v.ownBlock ∨ W.heap.size ≤ k) → Kc (a.put o.dst v1) w1) :
    if Region.wanted o (yielded ops a.tmps) = true then Oper.wp Try.prog o a W' Kc Q else Kc (a.put o.dst undef) W' := by
  subst he
  refine Kd.R_append_step PK (w0 := W) B hw s x 36 39 (.agg #[.int .i64 0, .int .i64 0]) 16 ho Try.underlying36 info39 rfl (by decide) (by decide) v xs (x0, x1) (pcells (x0, x1)) (fun _ => True) (fun _ => False) hs hx (PK_M _ _ _ _) (fun _ h => h.elim) (fun _ _ => trivial) HO.out (Below.refl _ _) hB hl ?_
  intro v1 w1 h1 h2 h3 h4
  refine h v1 w1 ⟨h1⟩ ⟨h3.os, h3.tape, h3.output, h3.size, fun i hi hne => h3.block i hi hne⟩ (fun k hk => ?_)
  rcases h4 with h4 | ⟨b, h4, h5⟩
  · exact .inl (by rw [hk, h4])
  · rw [h4] at hk
    cases hk
    exact .inr h5
end

end Go.Proofs.Ytflgngnkfcfhpaa.ReA
