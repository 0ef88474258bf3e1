/- The reference's end, as plain numbers, and that it goes with the end. -/
import Derived.Test.YtflgngnkfcfhpaaReP
namespace Go.Proofs.Ytflgngnkfcfhpaa.RrP
open Go.Proofs.Ytflgngnkfcfhpaa.ReP
set_option linter.unusedVariables false
structure Rn where
  flush : Int
  again : Int
  state : Int
  token : Int
  need : Int
  left : Int
  out : List (Int × Int)
def Rn.cells (R : Rn) : List Value := [.int .i64 R.flush, .int .i64 R.again, .int .i64 R.state, .int .i64 R.token, .int .i64 R.need, .int .i64 R.left]
def newR (flush again : Int) : Rn := ⟨cutQ flush 1 1000, cutQ again 1 1048576, 0, 0, 0, 0, []⟩
def failR (R : Rn) : Rn := ⟨R.flush, R.again, 1, (R.token + 1) % 256, R.flush, R.left, R.out⟩
def askR (R : Rn) : Rn := ⟨R.flush, R.again, R.state, R.token, R.need, R.again, R.out ++ [(1, R.token)]⟩
def needR (R : Rn) (l : Int) : Rn := ⟨R.flush, R.again, R.state, R.token, l, R.left, R.out⟩
def leftR (R : Rn) (l : Int) : Rn := ⟨R.flush, R.again, R.state, R.token, R.need, l, R.out⟩
def stateR (R : Rn) (s : Int) : Rn := ⟨R.flush, R.again, s, R.token, R.need, R.left, R.out⟩
def outR (R : Rn) (l : List (Int × Int)) : Rn := ⟨R.flush, R.again, R.state, R.token, R.need, R.left, l⟩
def noteN (R : Rn) (ok : Bool) : Int := if ok = true then R.need - 1 else R.flush
def noteR (R : Rn) (ok : Bool) : Rn := if R.state ≠ 1 then R else if noteN R ok = 0 then askR (stateR (needR R 0) 2) else needR R (noteN R ok)
def passRL : Nat → Rn → Int → Rn × Int
  | 0, R, n => (R, n)
  | k + 1, R, n => if R.state = 2 ∧ R.left ≤ n then passRL k (askR R) (n - R.left) else (R, n)
def passR (R : Rn) (n : Int) : Rn := leftR (passRL ((passN n).toNat + 1) R (passN n)).1 ((passRL ((passN n).toNat + 1) R (passN n)).1.left - (passRL ((passN n).toNat + 1) R (passN n)).2)
def inputR (R : Rn) (asked : Bool) (t : Int) : Rn := if asked = true then outR R (R.out ++ [(2, t)]) else if R.state = 2 ∧ t = R.token then stateR R 0 else R
/-- The reference goes with the end; d: how far its idle count may have run down. -/
structure Sim (E : En) (R : Rn) (d : Int) : Prop where
  ok : Ok E
  flush : R.flush = E.flush
  again : R.again = E.again
  state : R.state = E.state
  token : R.token = E.token
  out : R.out = E.out
  need : E.state = 1 → R.need = E.left
  left : E.state = 2 → R.left = E.left
  n0 : 0 ≤ R.need
  n1 : R.need ≤ 1048576
  lo : -d ≤ R.left
  hi : R.left ≤ 1048576
theorem Sim.new (flush again : Int) : Sim (newE flush again) (newR flush again) 0 := by
  refine ⟨Ok.new _ _, rfl, rfl, rfl, rfl, rfl, fun h => ?_, fun h => ?_, ?_, ?_, ?_, ?_⟩ <;> simp [newE, newR] at *
theorem Sim.wider {E : En} {R : Rn} {d d' : Int} (h : Sim E R d) (hd : d ≤ d') : Sim E R d' := ⟨h.ok, h.flush, h.again, h.state, h.token, h.out, h.need, h.left, h.n0, h.n1, by have := h.lo; omega, h.hi⟩
theorem Sim.fail {E : En} {R : Rn} {d : Int} (h : Sim E R d) : Sim (failE E) (failR R) d := by
  obtain ⟨h1, h2, h3, h4, h5, h6, h7, h8, h9, h10, h11, h12⟩ := h
  have q1 := h1.f0
  have q2 := h1.f1
  exact ⟨h1.fail, h2, h3, rfl, by simp only [failE, failR, h5], h6, fun _ => h2, fun hs => absurd hs (by simp [failE]), by simp only [failR]; omega, by simp only [failR]; omega, h11, h12⟩
theorem Sim.note {E : En} {R : Rn} {d : Int} (h : Sim E R d) (hd : 0 ≤ d) (ok : Bool) : Sim (noteE E ok) (noteR R ok) d := by
  have hn := h.ok.note ok
  obtain ⟨h1, h2, h3, h4, h5, h6, h7, h8, h9, h10, h11, h12⟩ := h
  have q1 := h1.f0
  have q2 := h1.f1
  have q3 := h1.a0
  have q4 := h1.a1
  by_cases hs : E.state = 1
  · have hne : ¬ E.state ≠ 1 := by simp [hs]
    have hne2 : ¬ R.state ≠ 1 := by simp [h4, hs]
    have e : noteN R ok = noteL E ok := by unfold noteN noteL; rw [h7 hs, h2]
    have hb := noteL_b h1 hs ok
    unfold noteE at hn ⊢
    unfold noteR
    rw [if_neg hne] at hn ⊢
    rw [if_neg hne2, e]
    by_cases hz : noteL E ok = 0
    · rw [if_pos hz] at hn ⊢
      rw [if_pos hz]
      exact ⟨hn, h2, h3, rfl, h5, by simp only [asksE, leftE, askR, stateR, needR, h6, h5], fun h => by simp [asksE] at h, fun _ => h3, by simp [askR, stateR, needR], by simp [askR, stateR, needR], by simp only [askR, stateR, needR]; omega, by simp only [askR, stateR, needR]; omega⟩
    · rw [if_neg hz] at hn ⊢
      rw [if_neg hz]
      exact ⟨hn, h2, h3, h4, h5, h6, fun _ => rfl, fun h => by simp only [leftE] at h; omega, hb.1, hb.2, h11, h12⟩
  · have hs2 : R.state ≠ 1 := by rw [h4]; exact hs
    unfold noteE noteR
    rw [if_pos hs, if_pos hs2]
    exact ⟨h1, h2, h3, h4, h5, h6, h7, h8, h9, h10, h11, h12⟩
theorem Sim.input {E : En} {R : Rn} {d : Int} (h : Sim E R d) (b : Bool) (t : Int) : Sim (inputE E b t) (inputR R b t) d := by
  have hn := h.ok.input b t
  obtain ⟨h1, h2, h3, h4, h5, h6, h7, h8, h9, h10, h11, h12⟩ := h
  unfold inputE at hn ⊢
  unfold inputR
  by_cases hb : b = true
  · rw [if_pos hb] at hn ⊢
    rw [if_pos hb]
    exact ⟨hn, h2, h3, h4, h5, by simp only [outE, outR, h6], h7, h8, h9, h10, h11, h12⟩
  · rw [if_neg hb] at hn ⊢
    rw [if_neg hb]
    by_cases hs : E.state = 2 ∧ E.token = t
    · rw [if_pos hs] at hn ⊢
      rw [if_pos (show R.state = 2 ∧ t = R.token from ⟨by rw [h4]; exact hs.1, by rw [h5]; exact hs.2.symm⟩)]
      exact ⟨hn, h2, h3, rfl, h5, h6, fun h => by simp [stateE] at h, fun h => by simp [stateE] at h, h9, h10, h11, h12⟩
    · rw [if_neg hs] at hn ⊢
      rw [if_neg (show ¬ (R.state = 2 ∧ t = R.token) from fun h => hs ⟨by rw [← h4]; exact h.1, by rw [← h5]; exact h.2.symm⟩)]
      exact ⟨hn, h2, h3, h4, h5, h6, h7, h8, h9, h10, h11, h12⟩
theorem Sim.clear {E : En} {R : Rn} {d : Int} (h : Sim E R d) : Sim (outE E []) (outR R []) d := ⟨h.ok.out [], h.flush, h.again, h.state, h.token, rfl, h.need, h.left, h.n0, h.n1, h.lo, h.hi⟩
theorem Sim.asks {E : En} {R : Rn} {d : Int} (h : Sim E R d) (hd : 0 ≤ d) (hs : E.state = 2) : Sim (asksE E) (askR R) d := by
  have q3 := h.ok.a0
  have q4 := h.ok.a1
  have := h.again
  exact ⟨h.ok.asks, h.flush, h.again, by simp only [askR, asksE]; rw [h.state, hs], h.token, by simp only [askR, asksE, h.out, h.token], fun h => by simp [asksE] at h, fun _ => h.again, h.n0, h.n1, by simp only [askR]; omega, by simp only [askR]; omega⟩
theorem passRL_sim : ∀ (k : Nat) (E : En) (R : Rn) (d n : Int), Sim E R d → 0 ≤ d → E.state = 2 → (passRL k R n).2 = (passL k E n).2 ∧ Sim (passL k E n).1 (passRL k R n).1 d ∧ (passL k E n).1.state = 2 := by
  intro k
  induction k with
  | zero => intro E R d n h _ hs; exact ⟨rfl, h, hs⟩
  | succ k ih =>
    intro E R d n h hd hs
    unfold passL passRL
    have hl := h.left hs
    by_cases hle : E.left ≤ n
    · rw [if_pos hle, if_pos ⟨by rw [h.state]; exact hs, by rw [hl]; exact hle⟩, hl]
      exact ih _ _ d _ (h.asks hd hs) hd rfl
    · rw [if_neg hle, if_neg (fun h2 => hle (by rw [← hl]; exact h2.2))]
      exact ⟨rfl, h, hs⟩
theorem Sim.pass {E : En} {R : Rn} {d : Int} (h : Sim E R d) (hd : 0 ≤ d) (n : Int) : Sim (passE E n) (passR R n) (d + 1048576) := by
  have hb := passN_b n
  by_cases hs : E.state = 2
  · obtain ⟨e, s, st⟩ := passRL_sim ((passN n).toNat + 1) E R d (passN n) h hd hs
    obtain ⟨a, b, c, dd, f, g, i, j⟩ := passL_ok ((passN n).toNat + 1) E (passN n) h.ok hs hb.1 (by omega)
    have hl := s.left st
    have hu := a.l1
    unfold passE passR
    rw [if_neg (by simp [hs]), e, hl]
    exact ⟨a.left _ (by omega) (by omega) (fun _ => by omega), s.flush, s.again, s.state, s.token, s.out, fun h => by simp only [leftE] at h; omega, fun _ => rfl, s.n0, s.n1, by simp only [leftR]; omega, by simp only [leftR]; omega⟩
  · have hr : ¬ (R.state = 2 ∧ R.left ≤ passN n) := fun h2 => hs (by rw [← h.state]; exact h2.1)
    have := h.lo
    have := h.hi
    unfold passE passR
    rw [if_pos hs, passRL, if_neg hr]
    exact ⟨h.ok, h.flush, h.again, h.state, h.token, h.out, h.need, fun h2 => absurd h2 hs, h.n0, h.n1, by simp only [leftR]; omega, by simp only [leftR]; omega⟩
end Go.Proofs.Ytflgngnkfcfhpaa.RrP
