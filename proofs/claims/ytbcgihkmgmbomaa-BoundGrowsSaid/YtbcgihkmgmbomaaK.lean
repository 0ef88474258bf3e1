/- Words of this session for walks by hand: a row that the call owns, a row that came in, one append. No condition. -/
import Derived.Test.YtbcgihkmgmbomaaWMore
import Derived.Test.YtbcgihkmgmbomaaWShare
import Derived.Test.YtbcgihkmgmbomaaWAt
import Derived.Test.YtbcgihkmgmbomaaWKept
import Derived.Test.YtbcgihkmgmbomaaWFootNe
import Derived.Test.YtbcgihkmgmbomaaProg
import Derived.Tactics
import Derived.WalkKit
import Derived.KernelRfl
import Derived.OwnWalk
import Derived.Deep.LoopGhost
import Derived.Deep.QuietTactic
import Derived.BigQuiet
import Derived.Laws.BitsLemmas
import Derived.Deep.DeepCutAuto
import Derived.Deep.CutBlock
import Derived.OrdersHeld
import Derived.WalkMore
import Derived.ScopeJumps
import Derived.StillTailTactics
namespace Go.Proofs.Ytbcgihkmgmbomaa.K
open Go.RowKit Go.Proofs.YtbcgihkmgmbomaaW.PrintWords Go.Proofs.YtbcgihkmgmbomaaW.PrintLast Go.Proofs.YtbcgihkmgmbomaaW.PrintMore
set_option linter.unusedVariables false
set_option linter.unusedSimpArgs false

/-- The slice v is a row of the call's own (a block from B on), and reads as xs. -/
structure Own {α : Type} (d : Kd α) (e : Nat) (B : Nat) (w : World) (v : Value) (xs : List α) : Prop where
  out : d.R e w B (fun _ => True) v xs

/-- The slice reads as xs. -/
structure Rds {α : Type} (d : Kd α) (w : World) (A : Option Addr) (n c : Nat) (xs : List α) : Prop where
  row : d.C w A n xs
  len : n = xs.length
  cap : n ≤ c

/-- What was there is there: no block of the old ones has turned but those of S. -/
structure Fr (S : Nat → Prop) (w w' : World) : Prop where
  os : w'.os = w.os
  tape : w'.tape = w.tape
  output : w'.output = w.output
  size : w.heap.size ≤ w'.heap.size
  block : ∀ k, k < w.heap.size → ¬ S k → w'.heap[k]? = w.heap[k]?

section
variable {α : Type} {d : Kd α} {e B n c : Nat} {w w1 w2 : World} {v : Value} {xs : List α} {A : Option Addr} {S T : Nat → Prop}

theorem Own.nil (d : Kd α) (e B : Nat) (w : World) : Own d e B w (.slice none 0 0) [] := ⟨Kd.R_nil _ _ _ _ _⟩
theorem Own.below (h : Own d e B w v xs) (hb : Below w.heap.size w w1) : Own d e B w1 v xs := ⟨Kd.R_below h.out hb⟩
theorem Own.alloc (h : Own d e B w v xs) (o : Obj) : Own d e B (w.alloc o) v xs := h.below (below_alloc (Below.refl _ _) o)
theorem Own.drewN (h : Own d e B w v xs) (m : Nat) : Own d e B (w.drewN m) v xs := h.below (pw_below_drewN (Below.refl _ _) m)
theorem Own.drew (h : Own d e B w v xs) : Own d e B w.drew v xs := h.below (below_drew (Below.refl _ _))
theorem Own.lower {B' : Nat} (h : Own d e B w v xs) (hB : B' ≤ B) : Own d e B' w v xs := ⟨Kd.R_lower h.out hB⟩
/-- A store behind draws: the same row. -/
theorem Own.below2 {a : Addr} {u : Value} {v : Value} (h : Own d e B (w.setCell a u) v xs) (hb : Below w.heap.size w w1) (hs : w1.heap = w.heap) : Own d e B (w1.setCell a u) v xs :=
  h.below ⟨by simp [World.setCell, hb.os], by simp [World.setCell, hb.tape], by simp [World.setCell, hb.output], by simp [World.setCell, hs], fun k _ => by simp [World.setCell, hs]⟩
theorem Own.slice (h : Own d e B w v xs) : ∃ A c, v = .slice A xs.length c ∧ xs.length ≤ c := by
  obtain ⟨A, c, he, hl, _⟩ := Kd.R_reads h.out
  exact ⟨A, c, he, hl⟩
theorem Own.sliceN (h : Own d e B w v xs) (hn : xs.length = n) : ∃ A c, v = .slice A n c ∧ n ≤ c := by
  subst hn
  exact h.slice
theorem Own.rds (h : Own d e B w (.slice A n c) xs) : Rds d w A n c xs := by
  obtain ⟨h1, h2, h3⟩ := Kd.R_reads' h.out
  subst h1
  exact ⟨h3, rfl, h2⟩
theorem Rds.below (h : Rds d w A n c xs) (hb : Below w.heap.size w w1) : Rds d w1 A n c xs := ⟨Kd.C_below h.row hb, h.len, h.cap⟩
theorem Rds.alloc (h : Rds d w A n c xs) (o : Obj) : Rds d (w.alloc o) A n c xs := h.below (below_alloc (Below.refl _ _) o)
theorem Rds.drewN (h : Rds d w A n c xs) (m : Nat) : Rds d (w.drewN m) A n c xs := h.below (pw_below_drewN (Below.refl _ _) m)

theorem Rds.int {k : IntKind} {xs : List Int} (h : Rds (Kd.int k) w A n c xs) (i : Int) (h0 : 0 ≤ i) (h1 : i < n) : ∃ ad, A = some ad ∧ w.cell? (ad.add i.toNat) = some (.int k (rd xs i)) := Kd.at_int h.row i h0 h1
theorem Rds.bool {xs : List Bool} (h : Rds Kd.bool w A n c xs) (i : Int) (h0 : 0 ≤ i) (h1 : i < n) : ∃ ad, A = some ad ∧ w.cell? (ad.add i.toNat) = some (.bool (rdOf false xs i)) := Kd.at_bool h.row i h0 h1

theorem Rds.cell_int {k : IntKind} {xs : List Int} {ad : Addr} (h : Rds (Kd.int k) w (some ad) n c xs) (hb : Below w.heap.size w w1) (i : Nat) (h1 : i < n) : w1.cell? (ad.add i) = some (.int k (rd xs i)) := by
  obtain ⟨ad', ha, hx⟩ := (h.below hb).int (i : Int) (by omega) (by omega)
  cases ha
  simpa using hx
theorem Rds.some_at {d : Kd α} (h : Rds d w A n c xs) (i : Nat) (h1 : i < n) : ∃ ad, A = some ad := by
  obtain ⟨ad, ha, _⟩ := h.row.2.2 (by omega)
  exact ⟨ad, ha⟩

/-- An element of a row of the call's own: its cell, and what a store makes of it. -/
theorem Own.elem {enc : α → Value} {h1 : ∀ x, (enc x).oneCell' = true} (z : α) (h : Own (Kd.scalar enc h1) e B w (.slice A n c) xs) (i : Nat) (hi : i < n) :
    ∃ g, A = some ⟨g, 0, none⟩ ∧ B ≤ g ∧ g < w.heap.size ∧ w.cell? ⟨g, i, none⟩ = some (enc (rdOf z xs i)) ∧ w.frozen? ⟨g, i, none⟩ = false ∧
      ∀ x, Own (Kd.scalar enc h1) e B (w.setCell ⟨g, i, none⟩ (enc x)) (.slice A n c) (xs.set i x) := by
  have hr := h.rds
  obtain ⟨inner, ho⟩ := Kd.R_own h.out
  obtain ⟨g, cap, hv, hg, hb⟩ := ho.form (by have := hr.len; omega)
  injection hv with h1' h2' h3'
  subst h1'
  have hc := Kd.R_celln z h.out (i : Int) (by omega) (by omega)
  simp only [Int.toNat_natCast] at hc
  refine ⟨g, rfl, hg, World.block_lt_of_cell? w _ hc.1, hc.1, hc.2, fun x => ⟨?_⟩⟩
  have := Kd.R_putn h.out (i : Int) x
  simpa using this

theorem Fr.refl (S : Nat → Prop) (w : World) : Fr S w w := ⟨rfl, rfl, rfl, Nat.le_refl _, fun _ _ _ => rfl⟩
theorem Fr.trans (h : Fr S w w1) (k : Fr T w1 w2) (hT : ∀ b, b < w.heap.size → T b → S b) : Fr S w w2 :=
  ⟨k.os.trans h.os, k.tape.trans h.tape, k.output.trans h.output, Nat.le_trans h.size k.size, fun i hi hs => (k.block i (Nat.lt_of_lt_of_le hi h.size) (fun ht => hs (hT i hi ht))).trans (h.block i hi hs)⟩
theorem Fr.of_below (h : Below w.heap.size w w1) : Fr S w w1 := ⟨h.os, h.tape, h.output, h.size, fun k hk _ => h.block k hk⟩
theorem Fr.below (h : Fr S w w1) (hS : ∀ k, k < w.heap.size → ¬ S k) : Below w.heap.size w w1 := ⟨h.os, h.tape, h.output, h.size, fun k hk => h.block k hk (hS k hk)⟩
theorem Fr.then (h : Fr S w w1) (k : Below w1.heap.size w1 w2) : Fr S w w2 := h.trans (T := fun _ => False) (Fr.of_below k) (fun _ _ h => h.elim)
theorem Fr.alloc (h : Fr S w w1) (o : Obj) : Fr S w (w1.alloc o) := h.then (below_alloc (Below.refl _ _) o)
theorem Fr.drewN (h : Fr S w w1) (m : Nat) : Fr S w (w1.drewN m) := h.then (pw_below_drewN (Below.refl _ _) m)
theorem Fr.set (h : Fr S w w1) {p : Addr} (hp : S p.block) (u : Value) : Fr S w (w1.setCell p u) :=
  h.trans (T := fun b => b = p.block) ⟨rfl, rfl, rfl, by simp [World.setCell], fun k _ hs => Below.heap_setCell _ _ _ _ hs⟩ (fun b _ hb => hb ▸ hp)
theorem Fr.mono (h : Fr S w w1) (hST : ∀ k, S k → T k) : Fr T w w1 := ⟨h.os, h.tape, h.output, h.size, fun k hk ht => h.block k hk (fun hs => ht (hST k hs))⟩
end

/-- A slice of whole numbers that came in, as the row opens it. -/
def IsRow (k : IntKind) (w : World) (a : Option Addr) (len cap : Nat) (zs : List Int) : Prop :=
  (a = none ∧ len = 0 ∧ cap = 0 ∧ zs = []) ∨
  ∃ x, a = some x ∧ len ≤ cap ∧ cap ≤ maxLen ∧ zs.length = cap ∧ (∀ i, i < zs.length → w.cell? (x.add i) = some (.int k (zs.getD i 0))) ∧ ∀ n ∈ zs, (Lit.int k n).wf = true
theorem rds_of_row {k : IntKind} {w : World} {a : Option Addr} {len cap : Nat} {z : List Int} (h : IsRow k w a len cap z) : ∃ l, Rds (Kd.int k) w a len cap l ∧ len ≤ 9223372036854775807 ∧ ∀ x ∈ l, (Lit.int k x).wf = true := by
  obtain ⟨l, rfl, hr, hm, hw, hc⟩ := ReadsInt.ofRowC h
  exact ⟨l, ⟨Kd.C_of_reads (enc := Value.int k) (d := (0 : Int)) (h1 := fun _ => rfl) hr, rfl, hc⟩, by simpa [maxLen] using hm, hw⟩
theorem wf_u8 {x : Int} (h : (Lit.int .u8 x).wf = true) : 0 ≤ x ∧ x ≤ 255 := by
  have h1 : IntKind.u8.min = 0 := by decide
  have h2 : IntKind.u8.max = 255 := by decide
  simp [Lit.wf, h1, h2] at h
  exact h
/-- A literal, as the walk lays it. -/
theorem lit_own {α : Type} {enc : α → Value} {h1 : ∀ x : α, (enc x).oneCell' = true} (e B : Nat) (w : World) (xs : List α) (hB : B ≤ w.heap.size) (hm : xs.length ≤ 9223372036854775807) :
    Own (Kd.scalar enc h1) e B (w.alloc (.cells (xs.map enc).toArray e)) (.slice (some ⟨w.heap.size, 0, none⟩) xs.length xs.length) xs := by
  have h2 := World.ownsRow_lit (base := B) (e := e) (size := 1) w (xs.map enc).toArray xs.length hB (by simpa [maxLen] using hm) (by simp)
  exact ⟨Kd.R_of_own (by simpa [encs] using h2) (fun _ _ => trivial)⟩

section
variable {P : Program} {ops : Array Oper} {rest : List Oper} {o : Oper} {a : Act} {Q : Exit → Act → World → Prop}
/-- append of one whole number onto a row of the call's own. -/
theorem app_int {k : IntKind} {w0 W : World} {B : Nat} {v : Value} {xs : List Int} {p : Int} {t e bytes : Nat} {z : Value}
    (ht : P.underlying t = some (.slice e)) (hinfo : (P.info? e).map (fun i => (i.zero, i.size, i.bytes)) = some (some z, 1, bytes)) (hz : z.cells.size = 1) (hb0 : 0 < bytes)
    (s x : Operand) (hgd : o.guard = none) (ho : o.op = .call { callee := .builtin .append, args := #[s, x], argTypes := #[t, t] })
    (hs : a.eval s = v) (hx : a.eval x = .slice (some ⟨W.heap.size, 0, none⟩) 1 1)
    (HO : Own (Kd.int k) e B W v xs) (HB : Below B w0 W) (hB : B ≤ W.heap.size) (hl : (xs.length + 1) * bytes ≤ 140737488355328)
    (h : ∀ v1 w1, Own (Kd.int k) e B w1 v1 (xs ++ [p]) → Below B w0 w1 → B ≤ w1.heap.size → wpList P ops Q rest (a.put o.dst v1) w1) :
    wpList P ops Q (o :: rest) a (W.alloc (.cells #[.int k p] e)) := by
  refine Kd.R_append (Kd.int k) (w0 := w0) B hgd s x t e z bytes ho ht hinfo hz Nat.zero_lt_one hb0 v xs p [.int k p] (fun _ => True) (fun _ => False) hs hx rfl (fun _ h => h.elim) (fun _ _ => trivial) HO.out HB hB hl ?_
  intro v1 w1 h1 h2 h3 _
  exact h v1 w1 ⟨h1⟩ h2 (Nat.le_trans hB h3.size)
/-- append of a whole row onto a row of the call's own. -/
theorem app_row {α : Type} {enc : α → Value} {h1 : ∀ x : α, (enc x).oneCell' = true} (zz : α) {w0 W : World} {B : Nat} {v : Value} {xs ys : List α} {A : Option Addr} {m c t e bytes : Nat} {z : Value}
    (ht : P.underlying t = some (.slice e)) (hinfo : (P.info? e).map (fun i => (i.zero, i.size, i.bytes)) = some (some z, 1, bytes)) (hz : z.cells.size = 1) (hb0 : 0 < bytes)
    (s x : Operand) (hgd : o.guard = none) (ho : o.op = .call { callee := .builtin .append, args := #[s, x], argTypes := #[t, t] })
    (hs : a.eval s = v) (hx : a.eval x = .slice A m c)
    (HO : Own (Kd.scalar enc h1) e B W v xs) (HR : Rds (Kd.scalar enc h1) W A m c ys) (HB : Below B w0 W) (hB : B ≤ W.heap.size) (hl : (xs.length + m) * bytes ≤ 140737488355328)
    (h : ∀ v1 w1, Own (Kd.scalar enc h1) e B w1 v1 (xs ++ ys) → Below B w0 w1 → B ≤ w1.heap.size → wpList P ops Q rest (a.put o.dst v1) w1) :
    wpList P ops Q (o :: rest) a W := by
  refine Kd.R_append_row (w0 := w0) enc zz (h1 := h1) B hgd s x t e z bytes ho ht hinfo hz hb0 v xs ys A m c (fun _ => True) hs hx (fun _ _ => trivial) HO.out HR.row HB hB hl ?_
  intro v1 w1 h1 h2 h3 _
  exact h v1 w1 ⟨h1⟩ h2 (Nat.le_trans hB h3.size)
/-- The same, whole numbers. -/
theorem app_rowi {k : IntKind} {w0 W : World} {B : Nat} {v : Value} {xs ys : List Int} {A : Option Addr} {m c t e bytes : Nat} {z : Value}
    (ht : P.underlying t = some (.slice e)) (hinfo : (P.info? e).map (fun i => (i.zero, i.size, i.bytes)) = some (some z, 1, bytes)) (hz : z.cells.size = 1) (hb0 : 0 < bytes)
    (s x : Operand) (hgd : o.guard = none) (ho : o.op = .call { callee := .builtin .append, args := #[s, x], argTypes := #[t, t] })
    (hs : a.eval s = v) (hx : a.eval x = .slice A m c)
    (HO : Own (Kd.int k) e B W v xs) (HR : Rds (Kd.int k) W A m c ys) (HB : Below B w0 W) (hB : B ≤ W.heap.size) (hl : (xs.length + m) * bytes ≤ 140737488355328)
    (h : ∀ v1 w1, Own (Kd.int k) e B w1 v1 (xs ++ ys) → Below B w0 w1 → B ≤ w1.heap.size → wpList P ops Q rest (a.put o.dst v1) w1) :
    wpList P ops Q (o :: rest) a W :=
  app_row (enc := Value.int k) (h1 := fun _ => rfl) (0 : Int) ht hinfo hz hb0 s x hgd ho hs hx HO HR HB hB hl h
end

/-- As Q; by a goto: what is asked at that label. -/
def jumps (J : Nat → Act → World → Prop) (Q : Exit → Act → World → Prop) : Exit → Act → World → Prop
  | .goto l, a, w => J l a w
  | e, a, w => Q e a w
section
variable {P : Program} {a : Act} {w : World} {Q : Exit → Act → World → Prop} {J : Nat → Act → World → Prop}
@[go_sem] theorem jumps_normal : jumps J Q .normal a w = Q .normal a w := rfl
@[go_sem] theorem jumps_exit (id : Nat) : jumps J Q (.exit id) a w = Q (.exit id) a w := rfl
@[go_sem] theorem jumps_ret : jumps J Q .ret a w = Q .ret a w := rfl
@[go_sem] theorem jumps_panic (ch : List PanicEntry) : jumps J Q (.panic ch) a w = Q (.panic ch) a w := rfl
theorem jumps_goto (l : Nat) : jumps J Q (.goto l) a w = J l a w := rfl
/-- A scope with any labels: what holds at each jump, and a number that each pass lowers. -/
theorem wp_scope_labels {c : Code} (J : Nat → Nat → Act → World → Prop)
    (first : c.wp P (jumps (fun l a' w' => ∃ n, J n l a' w') Q) a w)
    (pass : ∀ n l a w, J n l a w → ∃ rest, findLabel c l = some rest ∧ rest.wp P (jumps (fun l' a' w' => ∃ m, m < n ∧ J m l' a' w') Q) a w) : (Code.scope c).wp P Q a w := by
  intro b k cs
  have key : ∀ n l a w, J n l a w → ∃ rest, gotoIn l (.inScope c :: k) = some (.code rest :: .inScope c :: k) ∧ ∃ e a' w', Q e a' w' ∧ Arrives P (lone (b.at a (.code rest :: .inScope c :: k)) cs w) b k cs e a' w' := by
    intro n
    induction n using Nat.strongRecOn with
    | _ n ih =>
      intro l a w hJ
      obtain ⟨rest, hf, hp⟩ := pass n l a w hJ
      refine ⟨rest, by simp [gotoIn, hf], ?_⟩
      obtain ⟨e, a₁, w₁, hq, harr⟩ := hp b (.inScope c :: k) cs
      cases e with
      | normal => exact ⟨.normal, a₁, w₁, hq, Steps.trans harr (.one step_inScope)⟩
      | exit id => exact ⟨.exit id, a₁, w₁, hq, fun k' hk => harr k' (by simp [exitTo, hk])⟩
      | goto l' =>
        obtain ⟨m, hlt, hJ'⟩ := hq
        obtain ⟨rest', hg, e₂, a₂, w₂, hq₂, harr₂⟩ := ih m hlt l' a₁ w₁ hJ'
        exact ⟨e₂, a₂, w₂, hq₂, .of_steps (harr _ hg) harr₂⟩
      | ret => exact ⟨_, a₁, w₁, hq, harr⟩
      | panic ch => exact ⟨_, a₁, w₁, hq, harr⟩
      | outgrown => exact ⟨_, a₁, w₁, hq, harr⟩
  obtain ⟨e, a₁, w₁, hq, harr⟩ := first b (.inScope c :: k) cs
  cases e with
  | normal => exact ⟨.normal, a₁, w₁, hq, .head step_scope (Steps.trans harr (.one step_inScope))⟩
  | exit id => exact ⟨.exit id, a₁, w₁, hq, fun k' hk => .head step_scope (harr k' (by simp [exitTo, hk]))⟩
  | goto l' =>
    obtain ⟨n, hJ'⟩ := hq
    obtain ⟨rest', hg, e₂, a₂, w₂, hq₂, harr₂⟩ := key n l' a₁ w₁ hJ'
    exact ⟨e₂, a₂, w₂, hq₂, .of_steps (.head step_scope (harr _ hg)) harr₂⟩
  | ret => exact ⟨_, a₁, w₁, hq, .of_steps (.one step_scope) harr⟩
  | panic ch => exact ⟨_, a₁, w₁, hq, .of_steps (.one step_scope) harr⟩
  | outgrown => exact ⟨_, a₁, w₁, hq, .of_steps (.one step_scope) harr⟩
end

section
variable {P : Program} {ops : Array Oper} {rest : List Oper} {o : Oper} {a : Act} {Q : Exit → Act → World → Prop}
/-- string(b). -/
theorem conv_str {W : World} {src dst e : TypeId} {A : Option Addr} {n c : Nat} {xs : List Int}
    (hs : P.underlying src = some (.slice e)) (he : P.underlying e = some (.int .u8)) (hd : P.underlying dst = some .string)
    (s : Operand) (hgd : o.guard = none) (ho : o.op = .convert src dst s) (hx : a.eval s = .slice A n c) (h : Rds (Kd.int .u8) W A n c xs)
    (hk : wpList P ops Q rest (a.put o.dst (.string (strOfNums xs))) W) : wpList P ops Q (o :: rest) a W :=
  Kd.event_run hgd (by simp [execOp, ho, hx, Kd.C_string hs he hd h.row]) hk
end

section
variable {P : Program} {a : Act} {Q : Exit → Act → World → Prop}
/-- A region that draws, whose operations only read. -/
theorem region_still {id : Nat} {w : World} {l : List Oper} (hm : P.follows .mixedOrders = true) (hB : Region.lexB .any l.toArray = true)
    (h : ∀ w2, Below w.heap.size w w2 → (∀ p, w2.cell? p = w.cell? p) → (∀ p, w2.frozen? p = w.frozen? p) → w2.heap = w.heap → wpStill P l.toArray w2 (fun a' => Q .normal a' w2) l a) : (Code.region id l.toArray true).wp P Q a w :=
  wp_region_still_lit hm hB (h { w with drawn := w.drawn + 1 } ⟨rfl, rfl, rfl, Nat.le_refl _, fun _ _ => rfl⟩ (fun _ => rfl) (fun _ => rfl) rfl)
/-- A region that draws, all of whose operations but the last only read: in a world of its own, of which the cells are known. -/
theorem region_tail {id : Nat} {w : World} {l : List Oper} (n : Nat) (hm : P.follows .mixedOrders = true) (hB : Region.lexTailB .any l.toArray n = true)
    (h : ∀ w2, Below w.heap.size w w2 → (∀ p, w2.cell? p = w.cell? p) → (∀ p, w2.frozen? p = w.frozen? p) → w2.heap = w.heap → wpStill P l.toArray w2 (fun a' => wpList P l.toArray Q (l.drop n) a' w2) (l.take n) a) : (Code.region id l.toArray true).wp P Q a w :=
  wp_region_still_tail n hm hB (h { w with drawn := w.drawn + 1 } ⟨rfl, rfl, rfl, Nat.le_refl _, fun _ _ => rfl⟩ (fun _ => rfl) (fun _ => rfl) rfl)
end
/-- The closed look at a region: each operation writes a slot of its own, and waits for earlier ones alone. -/
def regOk (l : List Oper) (size : Nat) : Bool :=
  (l.all fun o => match o.dst with | some d => decide (d < size) | none => false) &&
  decide ((l.map (·.dst)).Nodup) &&
  ((List.range l.length).all fun i => (l[i]?).all fun o => o.after.all fun e => decide (e.on < i))

section
variable {P : Program} {a : Act} {Q : Exit → Act → World → Prop} {W : World} {l : List Oper} {V : Nat → Value → World → Prop}

/-- What is known of a frame and a world when some operations of a region have come up. -/
structure RegSt (l : List Oper) (V : Nat → Value → World → Prop) (a : Act) (W : World) (listed : Nat → Prop) (a' : Act) (w' : World) : Prop where
  below : Below W.heap.size W w'
  defers : a'.defers = a.defers
  size : a'.tmps.size = a.tmps.size
  old : ∀ t, (∀ (j : Nat) (o : Oper), l[j]? = some o → o.dst ≠ some t) → a'.tmps.getD t undef = a.tmps.getD t undef
  val : ∀ (j : Nat) (o : Oper) (d : Tmp), l[j]? = some o → listed j → o.dst = some d → V j (a'.tmps.getD d undef) w'

theorem getD_put_self (a : Act) (d : Tmp) (v : Value) (h : d < a.tmps.size) : (a.put (some d) v).tmps.getD d undef = v := by
  simp [Act.put, Array.getD_eq_getD_getElem?, h]
theorem getD_put_ne (a : Act) (d t : Tmp) (v : Value) (h : d ≠ t) : (a.put (some d) v).tmps.getD t undef = a.tmps.getD t undef := by
  simp [Act.put, Array.getD_eq_getD_getElem?, Array.getElem?_setIfInBounds_ne h]

/-- Does the operation wait for number j? -/
def waits (o : Oper) (j : Nat) : Bool := o.after.toList.any fun e => e.on == j && Region.binds .any e
theorem of_waits {o : Oper} {j : Nat} (h : waits o j = true) : ∃ e ∈ o.after, e.on = j ∧ Region.binds .any e = true := by
  simp only [waits, List.any_eq_true, Bool.and_eq_true, beq_iff_eq] at h
  obtain ⟨e, he, h1, h2⟩ := h
  exact ⟨e, by simpa using he, h1, h2⟩
/-- An operation comes to a value that is as told, and no old block turns. -/
def OpOk (P : Program) (l : List Oper) (V : Nat → Value → World → Prop) (i : Nat) (o : Oper) (a' : Act) (w' : World) : Prop :=
  if Region.wanted o (yielded l.toArray a'.tmps) = true then ∀ K Q', (∀ v w'', Below w'.heap.size w' w'' → V i v w'' → K (a'.put o.dst v) w'') → o.wp P a' w' K Q' else V i undef w'
/-- .. each of these, from number i on. -/
def OpsOk (P : Program) (l : List Oper) (V : Nat → Value → World → Prop) (a : Act) (W : World) : Nat → List Oper → Prop
  | _, [] => True
  | i, o :: r => (∀ a' w', RegSt l V a W (fun j => waits o j = true) a' w' → OpOk P l V i o a' w') ∧ OpsOk P l V a W (i + 1) r
theorem OpsOk.at {i : Nat} {r : List Oper} (h : OpsOk P l V a W i r) : ∀ (j : Nat) (o : Oper), r[j]? = some o → ∀ a' w', RegSt l V a W (fun j => waits o j = true) a' w' → OpOk P l V (i + j) o a' w' := by
  induction r generalizing i with
  | nil => intro j o ho; simp at ho
  | cons p r ih =>
    intro j o ho
    cases j with
    | zero => simp at ho; subst ho; exact h.1
    | succ j => have := ih h.2 j o (by simpa using ho); rwa [show i + 1 + j = i + (j + 1) by omega] at this

section
variable {i : Nat} {o : Oper} {a' : Act} {w' : World} {X : Nat → Prop}
/-- A slot that the region does not write. -/
theorem RegSt.slot (st : RegSt l V a W X a' w') (t : Tmp) (h : (l.all fun o => !(o.dst == some t)) = true) : a'.eval (.tmp t) = a.tmps.getD t undef :=
  st.old t (fun j p hj hd => by
    have := List.all_eq_true.1 h p (List.mem_of_getElem? hj)
    simp [hd] at this)
/-- What an operation waits for. -/
theorem RegSt.dep (st : RegSt l V a W (fun j => waits o j = true) a' w') (j : Nat) (p : Oper) (d : Tmp) (hj : l[j]? = some p) (hd : p.dst = some d) (hw : waits o j = true) : V j (a'.eval (.tmp d)) w' :=
  st.val j p d hj hw hd
theorem RegSt.yields (st : RegSt l V a W X a' w') (j : Nat) (p : Oper) (d : Tmp) (hj : l[j]? = some p) (hd : p.dst = some d) (hlt : d < a.tmps.size) (b : Bool) (hv : a'.eval (.tmp d) = .bool b) : yielded l.toArray a'.tmps j = some b := by
  have hl : d < a'.tmps.size := by rw [st.size]; exact hlt
  have hv' : a'.tmps.getD d undef = .bool b := hv
  simp only [Array.getD_eq_getD_getElem?, Array.getElem?_eq_getElem hl, Option.getD_some] at hv'
  simp [yielded, hj, hd, Array.getElem?_eq_getElem hl, hv']
theorem wanted_none (hg : o.guard = none) (y : Nat → Option Bool) : Region.wanted o y = true := by simp [Region.wanted, hg]
theorem wanted_some {j : Nat} {b : Bool} (hg : o.guard = some (j, b)) {y : Nat → Option Bool} (hy : y j = some b) : Region.wanted o y = true := by simp [Region.wanted, hg, hy]
theorem wanted_not {j : Nat} {b : Bool} (hg : o.guard = some (j, b)) {y : Nat → Option Bool} (hy : y j = some (!b)) : Region.wanted o y = false := by simp [Region.wanted, hg, hy]
theorem op_yield (c : Value) (hw : Region.wanted o (yielded l.toArray a'.tmps) = true) (hrun : (execOp a'.eval o).run P w' = .ok (.value c) w') (hc : V i c w') : OpOk P l V i o a' w' := by
  unfold OpOk
  rw [if_pos hw]
  intro K Q' hK
  unfold Oper.wp
  rw [hrun]
  exact hK _ _ (Below.refl _ _) hc
theorem op_skip (hw : Region.wanted o (yielded l.toArray a'.tmps) = false) (hc : V i undef w') : OpOk P l V i o a' w' := by
  unfold OpOk
  rw [if_neg (by simp [hw])]
  exact hc
theorem op_call {f : FuncId} {fn : Func} {ars : Array Operand} {ts : Array TypeId} (hf : P.funcs[f]? = some fn) (hname : (fn.name == "runtime.NumGoroutine") = false) (hb : fn.body.isSome = true) (args : Array Value)
    (hw : Region.wanted o (yielded l.toArray a'.tmps) = true) (hop : o.op = .call { callee := .value (.func f), args := ars, argTypes := ts }) (hargs : ars.map a'.eval = args)
    (hc : Calls P f args w' fun e w'' => ∃ v, e = .returned v ∧ Below w'.heap.size w' w'' ∧ V i v w'') : OpOk P l V i o a' w' := by
  have he := enters_ hf hname hb args w'
  have hrun : (execOp a'.eval o).run P w' = .ok (.enter f args) w' := by
    unfold execOp
    simp [hop, resolve, Deferred.ofValue, invoke, Act.eval, hargs, he]
  unfold OpOk
  rw [if_pos hw]
  intro K Q' hK
  unfold Oper.wp
  rw [hrun, Oper.upon_enter]
  refine hc.mono ?_
  rintro e w'' ⟨v, rfl, hb, hv⟩
  exact hK _ _ hb hv
end

/-- The value is a slice that reads as xs. -/
def IsSl (xs : List Int) (v : Value) (w : World) : Prop := ∃ A c, v = .slice A xs.length c ∧ Rds (Kd.int .u8) w A xs.length c xs
/-- What a region's operations come to: number i to C i, or to a slice that reads as told. -/
def VT (C : Nat → Value) (X : List (Nat × List Int)) (i : Nat) (v : Value) (w : World) : Prop :=
  match X.lookup i with
  | some xs => IsSl xs v w
  | none => v = C i
theorem VT_stable (C : Nat → Value) (X : List (Nat × List Int)) (i : Nat) (v : Value) (w w' : World) (hb : Below w.heap.size w w') (h : VT C X i v w) : VT C X i v w' := by
  unfold VT at *
  split at h
  · obtain ⟨A, c, hv, hr⟩ := h
    exact ⟨A, c, hv, hr.below hb⟩
  · exact h
theorem calls_sl {f : FuncId} {args : Array Value} {w : World} {xs : List Int} {e0 : Nat}
    (h : Calls P f args w fun e w' => ∃ A1 c1, e = .returned (.slice A1 xs.length c1) ∧ Own (Kd.int .u8) e0 w.heap.size w' (.slice A1 xs.length c1) xs ∧ Below w.heap.size w w') :
    Calls P f args w fun e w' => ∃ v, e = .returned v ∧ Below w.heap.size w w' ∧ IsSl xs v w' :=
  h.mono fun e w' ⟨A1, c1, he, ho, hb⟩ => ⟨_, he, hb, A1, c1, rfl, ho.rds⟩
theorem calls_same {f : FuncId} {args : Array Value} {w : World} {c : Value} (h : Calls P f args w fun e w' => e = .returned c ∧ w' = w) :
    Calls P f args w fun e w' => ∃ v, e = .returned v ∧ Below w.heap.size w w' ∧ v = c :=
  h.mono fun e w' ⟨he, hw⟩ => ⟨c, he, hw ▸ Below.refl _ _, rfl⟩
theorem calls_below {f : FuncId} {args : Array Value} {w : World} {c : Value} (h : Calls P f args w fun e w' => e = .returned c ∧ Below w.heap.size w w') :
    Calls P f args w fun e w' => ∃ v, e = .returned v ∧ Below w.heap.size w w' ∧ v = c :=
  h.mono fun e w' ⟨he, hw⟩ => ⟨c, he, hw, rfl⟩

theorem region_facts {id : Nat} (hm : P.follows .mixedOrders = true) (hok : regOk l a.tmps.size = true)
    (hV : ∀ i v w w', Below w.heap.size w w' → V i v w → V i v w')
    (hop : ∀ (i : Nat) (o : Oper), l[i]? = some o → ∀ a' w', RegSt l V a W (fun j => waits o j = true) a' w' → OpOk P l V i o a' w')
    (hk : ∀ a' w', RegSt l V a W (fun _ => True) a' w' → Q .normal a' w') :
    (Code.region id l.toArray true).wp P Q a W := by
  simp only [regOk, Bool.and_eq_true, List.all_eq_true, decide_eq_true_eq, List.mem_range] at hok
  obtain ⟨⟨hdst, hnd⟩, hback⟩ := hok
  have hd : ∀ (j : Nat) (o : Oper), l[j]? = some o → ∃ d, o.dst = some d ∧ d < a.tmps.size := by
    intro j o ho
    have := hdst o (List.mem_of_getElem? ho)
    cases hdo : o.dst with
    | none => simp [hdo] at this
    | some d => exact ⟨d, rfl, by simpa [hdo] using this⟩
  have hne : ∀ (i j : Nat) (o p : Oper), l[i]? = some o → l[j]? = some p → o.dst = p.dst → i = j := by
    intro i j o p hi hj he
    have h1 : (l.map (·.dst))[i]? = some o.dst := by simp [hi]
    have h2 : (l.map (·.dst))[j]? = some o.dst := by simp [hj, he]
    have hil : i < (l.map (·.dst)).length := (List.getElem?_eq_some_iff.1 h1).1
    exact (List.getElem?_inj hil hnd).1 (h1.trans h2.symm)
  have hb : ∀ (i : Nat) (o : Oper), l[i]? = some o → ∀ e ∈ o.after, e.on < i := by
    intro i o hi e he
    have hil : i < l.length := (List.getElem?_eq_some_iff.1 hi).1
    have := hback i hil
    rw [hi] at this
    simp only [Option.all_some, Array.all_eq_true_iff_forall_mem, decide_eq_true_eq] at this
    exact this e he
  have all : ∀ listed : Array Bool, listed.size = l.length → Region.ready .any l.toArray listed = [] → ∀ i, i < l.length → listed.getD i false = true := by
    intro listed hsz hr i
    induction i using Nat.strongRecOn with
    | _ i ih =>
      intro hi
      cases hli : listed.getD i false with
      | true => rfl
      | false =>
        exfalso
        have ho : l[i]? = some l[i] := List.getElem?_eq_getElem hi
        have hmem : i ∈ Region.ready .any l.toArray listed := by
          rw [mem_ready]
          refine ⟨?_, l[i], by simp [hi], fun e he _ => ih e.on (hb i _ ho e he) (Nat.lt_trans (hb i _ ho e he) hi)⟩
          have : i < listed.size := by omega
          simp [Array.getD_eq_getD_getElem?, this] at hli ⊢
          exact hli
        rw [hr] at hmem
        exact absurd hmem (by simp)
  have key : ∀ (fuel : Nat) (listed : Array Bool) (a' : Act) (w' : World), listed.size = l.length → (List.range l.length).countP (fun i => !listed.getD i false) ≤ fuel →
      RegSt l V a W (fun j => listed.getD j false = true) a' w' → wpAny P .any l.toArray Q fuel listed a' w' := by
    intro fuel
    induction fuel with
    | zero =>
      intro listed a' w' hsz hc hst
      have hall : ∀ i, i < l.length → listed.getD i false = true := by
        intro i hi
        have h0 : (List.range l.length).countP (fun i => !listed.getD i false) = 0 := by omega
        rw [List.countP_eq_zero] at h0
        simpa using h0 i (by simpa using hi)
      refine ⟨?_, hk a' w' ⟨hst.below, hst.defers, hst.size, hst.old, fun j o d hj _ hdo => hst.val j o d hj (hall j (List.getElem?_eq_some_iff.1 hj).1) hdo⟩⟩
      rw [List.eq_nil_iff_forall_not_mem]
      intro i hi
      rw [mem_ready] at hi
      obtain ⟨h0, o, ho, _⟩ := hi
      have hil : i < l.length := by simpa using (Array.getElem?_eq_some_iff.1 ho).1
      have h1 := hall i hil
      have : i < listed.size := by omega
      simp [Array.getD_eq_getD_getElem?, this] at h0 h1
      rw [h1] at h0
      cases h0
    | succ fuel ih =>
      intro listed a' w' hsz hc hst
      refine ⟨fun hr => ?_, fun i hi => ?_⟩
      · have hall := all listed hsz hr
        exact hk a' w' ⟨hst.below, hst.defers, hst.size, hst.old, fun j o d hj _ hdo => hst.val j o d hj (hall j (List.getElem?_eq_some_iff.1 hj).1) hdo⟩
      · rw [mem_ready] at hi
        obtain ⟨h0, o, ho, hdep⟩ := hi
        have ho' : l[i]? = some o := by simpa using ho
        have hil : i < l.length := (List.getElem?_eq_some_iff.1 ho').1
        have hli : listed.getD i false = false := by
          have : i < listed.size := by omega
          simp [Array.getD_eq_getD_getElem?, this] at h0 ⊢
          exact h0
        obtain ⟨d, hdo, hdl⟩ := hd i o ho'
        have step : ∀ v w'', Below w'.heap.size w' w'' → V i v w'' → wpAny P .any l.toArray Q fuel (listed.setIfInBounds i true) (a'.put o.dst v) w'' := by
          intro v w'' hbel hv
          refine ih _ _ _ (by simpa using hsz) ?_ ⟨below_step hst.below hbel, ?_, ?_, ?_, ?_⟩
          · have hlt : (List.range l.length).countP (fun i_1 => !(listed.setIfInBounds i true).getD i_1 false) < (List.range l.length).countP (fun i => !listed.getD i false) := by
              have hsplit : List.range l.length = (List.range l.length).take i ++ i :: (List.range l.length).drop (i + 1) := by
                have h5 := List.drop_eq_getElem_cons (l := List.range l.length) (i := i) (by simpa using hil)
                rw [List.getElem_range] at h5
                rw [← h5, List.take_append_drop]
              rw [hsplit]
              simp only [List.countP_append, List.countP_cons]
              have h1 : ∀ L : List Nat, L.countP (fun i_1 => !(listed.setIfInBounds i true).getD i_1 false) ≤ L.countP (fun i => !listed.getD i false) := by
                intro L
                apply List.countP_mono_left
                intro x _ hx
                by_cases hxi : i = x
                · subst hxi; simp [hli]
                · rw [getD_set_ne false hxi] at hx; exact hx
              have h2 := h1 ((List.range l.length).take i)
              have h3 := h1 ((List.range l.length).drop (i + 1))
              have h4 : (listed.setIfInBounds i true).getD i false = true := by
                have : i < listed.size := by omega
                simp [this]
              rw [h4, hli]
              simp only [Bool.not_true, Bool.false_eq_true, if_false, Bool.not_false, if_true]
              omega
            omega
          · rw [hdo]; exact hst.defers
          · rw [hdo]; simpa [Act.put] using hst.size
          · intro t ht
            rw [hdo, getD_put_ne _ _ _ _ (fun e => ht i o ho' (by rw [hdo, e]))]
            exact hst.old t ht
          · intro j p dj hj hlj hdj
            by_cases hij : i = j
            · subst hij
              rw [ho'] at hj
              cases hj
              rw [hdo] at hdj
              cases hdj
              rw [hdo, getD_put_self _ _ _ (by rw [hst.size]; exact hdl)]
              exact hv
            · rw [getD_set_ne false hij] at hlj
              have hdd : d ≠ dj := fun e => hij (hne i j o p ho' hj (by rw [hdo, hdj, e]))
              rw [hdo, getD_put_ne _ _ _ _ hdd]
              exact hV _ _ _ _ hbel (hst.val j p dj hj hlj hdj)
        have hop' := hop i o ho' a' w' ⟨hst.below, hst.defers, hst.size, hst.old, fun j p dj hj hwt hdj => hst.val j p dj hj (by obtain ⟨e, he, hej, heb⟩ := of_waits hwt; rw [← hej]; exact hdep e he heb) hdj⟩
        unfold OpOk at hop'
        unfold wpOp
        simp only [ho]
        by_cases hw : Region.wanted o (yielded l.toArray a'.tmps) = true
        · rw [if_pos hw] at hop' ⊢
          exact .inl (hop' _ _ step)
        · rw [if_neg hw] at hop' ⊢
          exact step _ _ (Below.refl _ _) hop'
  refine wp_region_any hm ?_
  refine key _ _ _ _ (by simp) (Nat.le_trans List.countP_le_length (by simp)) ⟨below_drew (Below.refl _ _), rfl, rfl, fun _ _ => rfl, fun j o d hj hlj _ => ?_⟩
  exfalso
  simp only [Array.getD_eq_getD_getElem?, Array.getElem?_replicate] at hlj
  split at hlj <;> simp at hlj
/-- The same, the operations one by one. -/
theorem region_each {id : Nat} (V : Nat → Value → World → Prop) (hm : P.follows .mixedOrders = true) (hok : regOk l a.tmps.size = true)
    (hV : ∀ i v w w', Below w.heap.size w w' → V i v w → V i v w') (hops : OpsOk P l V a W 0 l)
    (hk : ∀ a' w', RegSt l V a W (fun _ => True) a' w' → Q .normal a' w') : (Code.region id l.toArray true).wp P Q a W :=
  region_facts hm hok hV (fun i o ho a' w' st => by have := hops.at i o ho a' w' st; rwa [Nat.zero_add] at this) hk
end

/-- len of a slice, as one operation of a region. -/
theorem run_len {P : Program} {o : Oper} {a' : Act} {w' : World} {x : Operand} {t : TypeId} {A : Option Addr} {n c : Nat} {e : TypeId} (ht : P.underlying t = some (.slice e)) (hop : o.op = .call { callee := .builtin .len, args := #[x], argTypes := #[t] }) (hx : a'.eval x = .slice A n c) (hn : n ≤ 9223372036854775807) :
    (execOp a'.eval o).run P w' = .ok (.value (.int .i64 n)) w' := by
  unfold execOp
  rw [hop]
  have hn' : (n : Int) ≤ 9223372036854775807 := by omega
  simp [resolve, hx]
  go_simp
theorem strOfNums_size (l : List Int) : (strOfNums l).size = l.length := by simp [strOfNums, ByteArray.size]
theorem and15_i64 (x : Int) : 0 ≤ bits .and .i64 x 15 ∧ bits .and .i64 x 15 ≤ 15 := by
  simp only [bits]
  have h1 : (BitVec.ofInt IntKind.i64.bits x &&& BitVec.ofInt IntKind.i64.bits 15).toNat ≤ 15 := by
    rw [BitVec.toNat_and]
    exact Nat.and_le_right
  generalize (BitVec.ofInt IntKind.i64.bits x &&& BitVec.ofInt IntKind.i64.bits 15).toNat = m at *
  rw [IntKind.wrap_i64]
  omega
theorem strOfNums_append (a b : List Int) : strOfNums (a ++ b) = strOfNums a ++ strOfNums b := by
  apply ByteArray.ext
  simp [strOfNums]
end Go.Proofs.Ytbcgihkmgmbomaa.K
