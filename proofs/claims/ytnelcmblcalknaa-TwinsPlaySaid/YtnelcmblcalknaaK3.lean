/- Words of this session on rows that live on. No condition. -/
import Derived.Test.YtnelcmblcalknaaK2
namespace Go.Proofs.Ytnelcmblcalknaa.K
open Go.RowKit Go.Proofs.YtnelcmblcalknaaW.PrintWords Go.Proofs.YtnelcmblcalknaaW.PrintLast Go.Proofs.YtnelcmblcalknaaW.PrintMore
set_option linter.unusedVariables false
section
variable {α : Type} {enc : α → Value} {h1 : ∀ x : α, (enc x).oneCell' = true} {e B : Nat} {w w' : World} {v : Value} {xs : List α} {S : Nat → Prop}
/-- A row of the call's own lives on where its block is not turned. -/
theorem Own.fr (h : Own (Kd.scalar enc h1) e B w v xs) (hf : Fr S w w') (hne : ∀ k, some k = v.ownBlock → ¬ S k) : Own (Kd.scalar enc h1) e B w' v xs :=
  ⟨Kd.R_mono (Kd.R_kept (Kd.R_tight rfl h.out) ⟨hf.size, hf.block⟩ hne) (fun _ _ => trivial)⟩
/-- Another type, another block. -/
theorem Own.ne (h : Own (Kd.scalar enc h1) e B w v xs) {g : Nat} {t : TypeId} {l : List Value} (hb : Ob w g t l) (ht : e ≠ t) : ∀ k, some k = v.ownBlock → ¬ k = g := fun k hk hkg => Kd.R_ne h.out hb ht (by rw [← hk, hkg])
end
section
variable {P : Program} {ops : Array Oper} {rest : List Oper} {o : Oper} {a : Act} {Q : Exit → Act → World → Prop}
/-- append of one whole number onto a row of the call's own: nothing else turns. -/
theorem app_int2 {k : IntKind} {w0 W : World} {B : Nat} {v : Value} {xs : List Int} {p : Int} {t e bytes : Nat} {z : Value}
    (ht : P.underlying t = some (.slice e)) (hinfo : (P.info? e).map (fun i => (i.zero, i.size, i.bytes)) = some (some z, 1, bytes)) (hz : z.cells.size = 1) (hb0 : 0 < bytes)
    (s x : Operand) (hgd : o.guard = none) (ho : o.op = .call { callee := .builtin .append, args := #[s, x], argTypes := #[t, t] })
    (hs : a.eval s = v) (hx : a.eval x = .slice (some ⟨W.heap.size, 0, none⟩) 1 1)
    (HO : Own (Kd.int k) e B W v xs) (HB : Below B w0 W) (hB : B ≤ W.heap.size) (hl : (xs.length + 1) * bytes ≤ 140737488355328)
    (h : ∀ v1 w1, Own (Kd.int k) e B w1 v1 (xs ++ [p]) → Below B w0 w1 → B ≤ w1.heap.size → Fr (fun k => some k = v.ownBlock) W w1 → wpList P ops Q rest (a.put o.dst v1) w1) :
    wpList P ops Q (o :: rest) a (W.alloc (.cells #[.int k p] e)) := by
  refine Kd.R_append (Kd.int k) (w0 := w0) B hgd s x t e z bytes ho ht hinfo hz Nat.zero_lt_one hb0 v xs p [.int k p] (fun _ => True) (fun _ => False) hs hx rfl (fun _ h => h.elim) (fun _ _ => trivial) HO.out HB hB hl ?_
  intro v1 w1 h1 h2 h3 _
  exact h v1 w1 ⟨h1⟩ h2 (Nat.le_trans hB h3.size) ⟨h3.os, h3.tape, h3.output, h3.size, fun i hi hne => h3.block i hi hne⟩
end
end Go.Proofs.Ytnelcmblcalknaa.K
