/- What an end that failed shows behind any calls: plain law. -/
import Derived.Test.YtflgngnkfcfhpaaReA
namespace Go.Proofs.Ytflgngnkfcfhpaa.ReO
open Go.RowKit Go.Proofs.Ytflgngnkfcfhpaa.K Go.Proofs.Ytflgngnkfcfhpaa.ReP Go.Proofs.Ytflgngnkfcfhpaa.ReA
set_option linter.unusedVariables false
theorem and255 (x : Int) : bits .and .i64 x 255 = x % 256 := by
  simp only [bits]
  have h1 : (BitVec.ofInt IntKind.i64.bits x &&& BitVec.ofInt IntKind.i64.bits 255).toNat = (BitVec.ofInt IntKind.i64.bits x).toNat % 256 := by
    rw [BitVec.toNat_and]
    exact Nat.and_two_pow_sub_one_eq_mod (BitVec.ofInt IntKind.i64.bits x).toNat 8
  have h2 : (BitVec.ofInt IntKind.i64.bits x).toNat = (x % 18446744073709551616).toNat := by
    rw [BitVec.toNat_ofInt]
    rfl
  rw [h1, h2, IntKind.wrap_i64]
  omega
theorem u8w (x : Int) : IntKind.u8.wrap x = x % 256 := by simp [IntKind.wrap, IntKind.bits, IntKind.signed]
structure Inv (f : Int) (E : En) (side : Int) (enough : Bool) (token : Int) (k : Nat) : Prop where
  ok : Ok E
  flush : E.flush = f
  tok : E.token = token
  st : E.state = 0 ∨ E.state = 1 ∨ E.state = 2
  s1 : E.state = 1 → side = f - E.left ∧ E.left ≤ f
  s2 : E.state = 2 → enough = true
  lo : 0 ≤ side
  hi : side ≤ k
  len : E.out.length ≤ k
theorem Inv.next {f : Int} {E : En} {side : Int} {enough : Bool} {token : Int} {k : Nat} (h : Inv f E side enough token k) : Inv f E side enough token (k + 1) :=
  ⟨h.ok, h.flush, h.tok, h.st, h.s1, h.s2, h.lo, by have := h.hi; omega, by have := h.len; omega⟩
theorem Inv.fail {f : Int} {E : En} {side : Int} {enough : Bool} {token : Int} {k : Nat} (h : Inv f E side enough token k) : Inv f (failE E) 0 false ((token + 1) % 256) (k + 1) := by
  refine ⟨h.ok.fail, h.flush, by simp only [failE]; rw [h.tok], .inr (.inl rfl), fun _ => ?_, fun h2 => by simp [failE] at h2, by omega, by omega, by have := h.len; simp only [failE]; omega⟩
  have := h.flush
  simp only [failE]
  omega
theorem Inv.note {f : Int} {E : En} {side : Int} {enough : Bool} {token : Int} {k : Nat} (h : Inv f E side enough token k) (ok : Bool) :
    Inv f (noteE E ok) (if ok = true then side + 1 else 0) (enough || decide (f ≤ if ok = true then side + 1 else 0)) token (k + 1) ∧ ((noteE E ok).state = 0 ↔ E.state = 0) := by
  have hk := h.ok.note ok
  obtain ⟨h1, h2, h3, h4, h5, h6, h7, h8, h9⟩ := h
  have q1 := h1.f0
  have hb : 0 ≤ (if ok = true then side + 1 else 0) ∧ (if ok = true then side + 1 else 0) ≤ ((k + 1 : Nat) : Int) := by split <;> omega
  by_cases hs : E.state = 1
  · obtain ⟨h5a, h5b⟩ := h5 hs
    have hne : ¬ E.state ≠ 1 := by simp [hs]
    unfold noteE at hk ⊢
    rw [if_neg hne] at hk ⊢
    by_cases hz : noteL E ok = 0
    · rw [if_pos hz] at hk ⊢
      refine ⟨⟨hk, h2, h3, .inr (.inr rfl), fun h => by simp [asksE] at h, fun _ => ?_, hb.1, hb.2, by simp [asksE, leftE]; omega⟩, by simp [asksE, hs]⟩
      have : f ≤ if ok = true then side + 1 else 0 := by
        unfold noteL at hz
        split at hz <;> rename_i ho
        · rw [if_pos ho]; omega
        · omega
      simp [this]
    · rw [if_neg hz] at hk ⊢
      refine ⟨⟨hk, h2, h3, h4, fun _ => ?_, fun h => by simp only [leftE] at h; omega, hb.1, hb.2, by simp only [leftE]; omega⟩, by simp [leftE]⟩
      simp only [leftE, noteL]
      split <;> omega
  · have e : noteE E ok = E := by unfold noteE; rw [if_pos hs]
    rw [e]
    exact ⟨⟨h1, h2, h3, h4, fun h => absurd h hs, fun h => by rw [h6 h]; rfl, hb.1, hb.2, by omega⟩, Iff.rfl⟩
theorem Inv.input {f : Int} {E : En} {side : Int} {enough : Bool} {token : Int} {k : Nat} (h : Inv f E side enough token k) (ok : Bool) (x : Int) :
    Inv f (inputE E ok x) side enough token (k + 1) ∧ (ok = true ∨ x ≠ token → (inputE E ok x).state = E.state) ∧ (ok = false → x = token → E.state = 2 → (inputE E ok x).state = 0 ∧ enough = true) ∧ (E.state ≠ 2 → (inputE E ok x).state = E.state) := by
  have hk := h.ok.input ok x
  obtain ⟨h1, h2, h3, h4, h5, h6, h7, h8, h9⟩ := h
  cases ok with
  | true =>
    have e : inputE E true x = outE E (E.out ++ [(2, x)]) := rfl
    rw [e] at hk ⊢
    exact ⟨⟨hk, h2, h3, h4, h5, h6, h7, by omega, by simp [outE]; omega⟩, fun _ => rfl, (fun h => by cases h), fun _ => rfl⟩
  | false =>
    unfold inputE at hk ⊢
    rw [if_neg (by simp)] at hk ⊢
    by_cases hs : E.state = 2 ∧ E.token = x
    · rw [if_pos hs] at hk ⊢
      refine ⟨⟨hk, h2, h3, .inl rfl, fun h => by simp [stateE] at h, fun h => by simp [stateE] at h, h7, by omega, by simp only [stateE]; omega⟩, fun h => ?_, fun _ _ h => ⟨rfl, h6 h⟩, fun h => absurd hs.1 h⟩
      rcases h with h | h
      · cases h
      · exact absurd (hs.2.symm.trans h3) h
    · rw [if_neg hs] at hk ⊢
      exact ⟨⟨hk, h2, h3, h4, h5, h6, h7, by omega, by omega⟩, fun _ => rfl, fun _ hx hst => absurd ⟨hst, h3.trans hx.symm⟩ hs, fun _ => rfl⟩
/-- What the law's two tests ask. -/
def Chk (s s2 : Int) (enough answer : Bool) : Prop := (s ≠ 0 → s2 = 0 → enough = true ∧ answer = true) ∧ (s = 2 → answer = true → s2 = 0)
theorem Inv.start (f : Int) (h1 : 1 ≤ f) (h2 : f ≤ 50) : Inv f (failE (newE f 10)) 0 false 1 0 := by
  have e1 : cutQ f 1 1000 = f := by unfold cutQ; (repeat' split) <;> omega
  refine ⟨(Ok.new f 10).fail, ?_, rfl, .inr (.inl rfl), fun _ => ?_, fun h => by simp [failE] at h, by omega, by omega, by simp [failE, newE]⟩
  · simp only [failE, newE]; exact e1
  · simp only [failE, newE]
    rw [e1]
    omega
end Go.Proofs.Ytflgngnkfcfhpaa.ReO
