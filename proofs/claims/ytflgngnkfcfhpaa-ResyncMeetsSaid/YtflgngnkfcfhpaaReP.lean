/- The ends of a line, as plain numbers. -/
import Derived.Test.YtflgngnkfcfhpaaK2
namespace Go.Proofs.Ytflgngnkfcfhpaa.ReP
set_option linter.unusedVariables false
structure En where
  flush : Int
  again : Int
  state : Int
  token : Int
  left : Int
  out : List (Int × Int)
def En.cells (E : En) : List Value := [.int .i64 E.flush, .int .i64 E.again, .int .i64 E.state, .int .u8 E.token, .int .i64 E.left]
def cutQ (n l h : Int) : Int := if n < l then l else if n > h then h else n
theorem cut_b (n l h : Int) (hlh : l ≤ h) : l ≤ cutQ n l h ∧ cutQ n l h ≤ h := by
  unfold cutQ
  split
  · omega
  · split <;> omega
def newE (flush again : Int) : En := ⟨cutQ flush 1 1000, cutQ again 1 1048576, 0, 0, 0, []⟩
def failE (E : En) : En := ⟨E.flush, E.again, 1, (E.token + 1) % 256, E.flush, E.out⟩
def asksE (E : En) : En := ⟨E.flush, E.again, 2, E.token, E.again, E.out ++ [(1, E.token)]⟩
def leftE (E : En) (l : Int) : En := ⟨E.flush, E.again, E.state, E.token, l, E.out⟩
def noteL (E : En) (ok : Bool) : Int := if ok = true then E.left - 1 else E.flush
def noteE (E : En) (ok : Bool) : En := if E.state ≠ 1 then E else if noteL E ok = 0 then asksE (leftE E 0) else leftE E (noteL E ok)
def passL : Nat → En → Int → En × Int
  | 0, E, n => (E, n)
  | k + 1, E, n => if E.left ≤ n then passL k (asksE E) (n - E.left) else (E, n)
def passN (n : Int) : Int := cutQ n 0 1048576
def passE (E : En) (n : Int) : En :=
  if E.state ≠ 2 then E else leftE (passL ((passN n).toNat + 1) E (passN n)).1 ((passL ((passN n).toNat + 1) E (passN n)).1.left - (passL ((passN n).toNat + 1) E (passN n)).2)
def outE (E : En) (l : List (Int × Int)) : En := ⟨E.flush, E.again, E.state, E.token, E.left, l⟩
def stateE (E : En) (s : Int) : En := ⟨E.flush, E.again, s, E.token, E.left, E.out⟩
def inputE (E : En) (asked : Bool) (t : Int) : En := if asked = true then outE E (E.out ++ [(2, t)]) else if E.state = 2 ∧ E.token = t then stateE E 0 else E
structure Ok (E : En) : Prop where
  f0 : 1 ≤ E.flush
  f1 : E.flush ≤ 1000
  a0 : 1 ≤ E.again
  a1 : E.again ≤ 1048576
  t0 : 0 ≤ E.token
  t1 : E.token < 256
  l0 : 0 ≤ E.left
  l1 : E.left ≤ 1048576
  l2 : E.state = 1 ∨ E.state = 2 → 1 ≤ E.left
theorem Ok.new (flush again : Int) : Ok (newE flush again) := by
  have h1 := cut_b flush 1 1000 (by omega)
  have h2 := cut_b again 1 1048576 (by omega)
  refine ⟨h1.1, h1.2, h2.1, h2.2, ?_, ?_, ?_, ?_, ?_⟩ <;> simp [newE]
theorem Ok.fail {E : En} (h : Ok E) : Ok (failE E) := by
  obtain ⟨h1, h2, h3, h4, h5, h6, h7, h8, h9⟩ := h
  refine ⟨h1, h2, h3, h4, ?_, ?_, ?_, ?_, ?_⟩ <;> simp only [failE] <;> omega
theorem Ok.asks {E : En} (h : Ok E) : Ok (asksE E) := by
  obtain ⟨h1, h2, h3, h4, h5, h6, h7, h8, h9⟩ := h
  refine ⟨h1, h2, h3, h4, h5, h6, ?_, ?_, ?_⟩ <;> simp only [asksE] <;> omega
theorem Ok.left {E : En} (h : Ok E) (l : Int) (h0 : 0 ≤ l) (h1 : l ≤ 1048576) (h2 : E.state = 1 ∨ E.state = 2 → 1 ≤ l) : Ok (leftE E l) := ⟨h.f0, h.f1, h.a0, h.a1, h.t0, h.t1, h0, h1, h2⟩
theorem noteL_b {E : En} (h : Ok E) (hs : E.state = 1) (ok : Bool) : 0 ≤ noteL E ok ∧ noteL E ok ≤ 1048576 := by
  obtain ⟨h1, h2, h3, h4, h5, h6, h7, h8, h9⟩ := h
  have := h9 (.inl hs)
  unfold noteL
  split <;> omega
theorem Ok.note {E : En} (h : Ok E) (ok : Bool) : Ok (noteE E ok) := by
  unfold noteE
  split
  · exact h
  · rename_i hs
    have hs : E.state = 1 := by simpa using hs
    have hb := noteL_b h hs ok
    split
    · obtain ⟨h1, h2, h3, h4, h5, h6, h7, h8, h9⟩ := h
      refine ⟨h1, h2, h3, h4, h5, h6, ?_, ?_, ?_⟩ <;> simp only [asksE, leftE] <;> omega
    · exact h.left _ hb.1 hb.2 (fun _ => by omega)
theorem passL_ok : ∀ (k : Nat) (E : En) (n : Int), Ok E → E.state = 2 → 0 ≤ n → n < k → Ok (passL k E n).1 ∧ (passL k E n).1.state = 2 ∧ 0 ≤ (passL k E n).2 ∧ (passL k E n).2 < (passL k E n).1.left ∧ (passL k E n).1.token = E.token ∧ (passL k E n).1.out.length ≤ E.out.length + k ∧ (passL k E n).1.flush = E.flush ∧ (passL k E n).1.again = E.again := by
  intro k
  induction k with
  | zero => intro E n _ _ h1 h2; omega
  | succ k ih =>
    intro E n h hs h1 h2
    unfold passL
    split
    · have := h.l2 (.inr hs)
      obtain ⟨a, b, c, d, e, f, g, i⟩ := ih (asksE E) (n - E.left) h.asks rfl (by omega) (by omega)
      refine ⟨a, b, c, d, e, ?_, g, i⟩
      have e9 : (asksE E).out.length = E.out.length + 1 := by simp [asksE]
      omega
    · exact ⟨h, hs, h1, by simp; omega, rfl, by simp, rfl, rfl⟩
theorem passN_b (n : Int) : 0 ≤ passN n ∧ passN n ≤ 1048576 := cut_b n 0 1048576 (by omega)
theorem passE_ok {E : En} (h : Ok E) (n : Int) : Ok (passE E n) ∧ (passE E n).out.length ≤ E.out.length + (passN n).toNat + 1 := by
  have hb := passN_b n
  unfold passE
  split
  · exact ⟨h, by omega⟩
  · rename_i hs
    have hs : E.state = 2 := by simpa using hs
    obtain ⟨a, b, c, d, e, f, g, i⟩ := passL_ok ((passN n).toNat + 1) E (passN n) h hs hb.1 (by omega)
    have := a.l1
    exact ⟨a.left _ (by omega) (by omega) (fun _ => by omega), by show (passL _ E _).1.out.length ≤ _; omega⟩
theorem Ok.pass {E : En} (h : Ok E) (n : Int) : Ok (passE E n) := (passE_ok h n).1
theorem Ok.out {E : En} (h : Ok E) (l : List (Int × Int)) : Ok (outE E l) := ⟨h.f0, h.f1, h.a0, h.a1, h.t0, h.t1, h.l0, h.l1, h.l2⟩
theorem Ok.input {E : En} (h : Ok E) (b : Bool) (t : Int) : Ok (inputE E b t) := by
  unfold inputE
  split
  · exact h.out _
  · split
    · exact ⟨h.f0, h.f1, h.a0, h.a1, h.t0, h.t1, h.l0, h.l1, fun hs => by simp [stateE] at hs⟩
    · exact h
/-- An end that asks, and lets steps go by. -/
theorem passL_asks : ∀ (q k : Nat) (E : En) (r : Int), E.left = E.again → E.state = 2 → 0 ≤ r → r < E.again → q < k → passL k E (q * E.again + r) = (⟨E.flush, E.again, 2, E.token, E.again, E.out ++ List.replicate q (1, E.token)⟩, r) := by
  intro q
  induction q with
  | zero =>
    intro k E r hl hs h0 h1 hk
    obtain ⟨k, rfl⟩ : ∃ m, k = m + 1 := ⟨k - 1, by omega⟩
    unfold passL
    rw [if_neg (by simp; omega)]
    obtain ⟨fl, ag, st, tk, lf, ou⟩ := E
    simp at hl hs ⊢
    exact ⟨hs.symm ▸ rfl, hl⟩
  | succ q ih =>
    intro k E r hl hs h0 h1 hk
    obtain ⟨k, rfl⟩ : ∃ m, k = m + 1 := ⟨k - 1, by omega⟩
    unfold passL
    have hm : ((q + 1 : Nat) : Int) * E.again = q * E.again + E.again := by rw [Int.natCast_add, Int.add_mul]; simp
    have hp : 0 ≤ (q : Int) * E.again := Int.mul_nonneg (by omega) (by omega)
    rw [if_pos (by rw [hl, hm]; omega)]
    rw [show ((q + 1 : Nat) : Int) * E.again + r - E.left = q * (asksE E).again + r by rw [hm, hl]; simp only [asksE]; omega]
    rw [ih k (asksE E) r rfl rfl h0 h1 (by omega)]
    simp [asksE, List.replicate_succ]
end Go.Proofs.Ytflgngnkfcfhpaa.ReP
