/- A table and the reference, behind any calls: plain law. -/
import Derived.Test.YtnelcmblcalknaaTwR
namespace Go.Proofs.Ytnelcmblcalknaa.TwPl
open Go.RowKit Go.Proofs.Ytnelcmblcalknaa.K Go.Proofs.Ytnelcmblcalknaa.TwP Go.Proofs.Ytnelcmblcalknaa.TwB Go.Proofs.Ytnelcmblcalknaa.TwQ Go.Proofs.Ytnelcmblcalknaa.TwR
set_option linter.unusedVariables false
set_option linter.unusedSimpArgs false
structure Play (T : Tb) (r : Rf) (k : Nat) : Prop where
  ok : Ok T
  size : r.size = T.came.length
  known : r.known = T.known
  rng : 0 ≤ r.high ∧ r.high < 4294967296
  high : T.known = true → r.high = T.high
  none : T.known = false → r.came = [] ∧ ∀ b, b < T.came.length → has T b = false
  came : T.known = true → ∀ b : Nat, b < T.came.length → has T b = r.came.contains (sub32 T.high b)
  near : T.known = true → ∀ x ∈ r.came, sub32 T.high x < T.came.length
  word : ∀ x ∈ r.came, 0 ≤ x ∧ x < 4294967296
  len : r.came.length ≤ k
theorem Play.start (size : Int) : Play (newT size) (newR size) 0 := by
  refine ⟨Ok.new size, ?_, rfl, by simp [newR], fun h => ?_, fun _ => ⟨rfl, fun b _ => has_new size b⟩, fun h => ?_, fun h => ?_, by simp [newR], by simp [newR]⟩
  · simp [newR, newT]
  all_goals cases h
theorem Play.clear {T : Tb} {r : Rf} {k : Nat} (h : Play T r k) : Play (clearT T) (clearR r) k := by
  refine ⟨h.ok.clear, ?_, rfl, h.rng, fun h => ?_, fun _ => ⟨rfl, fun b _ => has_clear T b⟩, fun h => ?_, fun h => ?_, by simp [clearR], by simp [clearR]⟩
  · simp [clearR, clearT, h.size]
  all_goals cases h
theorem Play.next {T : Tb} {r : Rf} {k : Nat} (h : Play T r k) : Play T r (k + 1) := ⟨h.ok, h.size, h.known, h.rng, h.high, h.none, h.came, h.near, h.word, by have := h.len; omega⟩
theorem contains_append (l : List Int) (x y : Int) : (l ++ [x]).contains y = (l.contains y || decide (y = x)) := by
  rw [Bool.eq_iff_iff]
  simp
theorem contains_filter (l : List Int) (p : Int → Bool) (y : Int) : (l.filter p).contains y = (l.contains y && p y) := by
  rw [Bool.eq_iff_iff]
  simp
theorem Play.fresh {T : Tb} {r : Rf} {k : Nat} (h : Play T r k) (n : Int) (h0 : 0 ≤ n) (h1 : n < 4294967296) : freshRB r n = freshB T n ∧ Play (freshT T n) (freshR r n) (k + 1) := by
  have hl := fresh_len T n
  have okf := h.ok.fresh n h0 h1
  have ho := h.ok.at_lt
  have ho2 := h.ok.len
  have q1 := h.ok.low
  have q2 := h.ok.up
  by_cases hk : T.known = false
  · obtain ⟨e1, e2⟩ := h.none hk
    obtain ⟨b1, b2, b3, b4⟩ := fresh_unknown T h.ok n hk (e2 0 (by omega))
    have hk2 : r.known = false := h.known.trans hk
    have er : freshR r n = ⟨r.size, true, n, [n]⟩ := by unfold freshR; rw [if_pos hk2]
    refine ⟨by rw [b1]; unfold freshRB; rw [if_pos hk2], ?_⟩
    rw [er]
    refine ⟨okf, by rw [hl]; exact h.size, b2.symm, ⟨h0, h1⟩, fun _ => b3.symm, fun hh => (by rw [b2] at hh; cases hh), fun _ b hb => ?_, fun _ x hx => ?_, fun x hx => ?_, by simp⟩
    · rw [hl] at hb
      rw [b4 b hb, b3]
      by_cases hb0 : b = 0
      · subst hb0
        have : sub32 n ((0 : Nat) : Int) = n := by unfold sub32; omega
        rw [this]
        simp
      · have : ¬ sub32 n (b : Int) = n := by unfold sub32; omega
        rw [if_neg hb0, e2 b hb]
        simp [this]
    · simp at hx
      subst hx
      rw [b3, hl]
      unfold sub32
      omega
    · simp at hx
      subst hx
      exact ⟨h0, h1⟩
  · have hkt : T.known = true := by simpa using hk
    have hk2 : ¬ r.known = false := by rw [h.known]; exact hk
    have hh := h.high hkt
    have hlen := h.len
    have dd := sub32_b n T.high
    have bb := sub32_b T.high n
    unfold freshRB freshR
    rw [if_neg hk2, if_neg hk2, hh]
    by_cases hz : sub32 n T.high = 0
    · rw [if_pos hz, if_pos hz]
      obtain ⟨c1, c2⟩ := fresh_same T n hkt (by unfold sub32 at *; omega)
      rw [c1, c2]
      exact ⟨rfl, h.next⟩
    · rw [if_neg hz, if_neg hz]
      by_cases hu : sub32 n T.high < 2147483648
      · rw [if_pos hu, if_pos hu]
        obtain ⟨d, hd⟩ : ∃ d : Nat, sub32 n T.high = d := ⟨(sub32 n T.high).toNat, by omega⟩
        obtain ⟨b1, b2, b3, b4⟩ := fresh_up T h.ok n hkt d (by unfold sub32 at *; omega) hd (by omega) (by omega)
        refine ⟨b1.symm, okf, by rw [hl]; exact h.size, by show r.known = _; rw [b2, h.known, hkt], ⟨h0, h1⟩, fun _ => b3.symm, fun hh => (by rw [b2] at hh; cases hh), fun _ b hb => ?_, fun _ x hx => ?_, fun x hx => ?_, ?_⟩
        · rw [hl] at hb
          rw [b4 b hb, b3, contains_append, contains_filter, h.size]
          by_cases hb0 : b = 0
          · subst hb0
            have : sub32 n ((0 : Nat) : Int) = n := by unfold sub32; omega
            rw [this]
            simp
          · have e5 : ¬ sub32 n (b : Int) = n := by unfold sub32; omega
            have e6 : sub32 n (sub32 n (b : Int)) < (T.came.length : Int) := by unfold sub32; omega
            rw [if_neg hb0]
            by_cases hbd : b < d
            · rw [if_pos hbd]
              have e7 : r.came.contains (sub32 n (b : Int)) = false := by
                cases hc : r.came.contains (sub32 n (b : Int))
                · rfl
                · have := h.near hkt (sub32 n (b : Int)) (by simpa using hc)
                  unfold sub32 at *
                  omega
              rw [e7, Bool.false_and, Bool.false_or, decide_eq_false e5]
            · rw [if_neg hbd, h.came hkt (b - d) (by omega)]
              have e8 : sub32 T.high ((b - d : Nat) : Int) = sub32 n (b : Int) := by unfold sub32 at *; omega
              rw [e8]
              simp [e5, e6]
        · simp at hx
          rw [b3, hl]
          rcases hx with hx | rfl
          · rw [← h.size]; exact hx.2
          · unfold sub32; omega
        · simp at hx
          rcases hx with hx | rfl
          · exact h.word x hx.1
          · exact ⟨h0, h1⟩
        · simp
          exact Nat.le_trans (List.length_filter_le _ _) hlen
      · rw [if_neg hu, if_neg hu]
        obtain ⟨d, hd⟩ : ∃ d : Nat, sub32 T.high n = d := ⟨(sub32 T.high n).toNat, by omega⟩
        obtain ⟨b1, b2, b3, b4⟩ := fresh_back T h.ok n hkt d hd (by unfold sub32 at *; omega) hu
        rw [h.size, hd]
        by_cases hs : (T.came.length : Int) ≤ d
        · rw [if_pos hs, if_pos hs]
          have hnd : ¬ d < T.came.length := by omega
          refine ⟨by rw [b1]; simp [hnd], okf, by rw [hl]; exact h.size, by rw [b2, h.known, hkt], h.rng, fun _ => by rw [b3]; exact hh, fun hh => (by rw [b2] at hh; cases hh), fun _ b hb => ?_, fun _ x hx => ?_, h.word, by omega⟩
          · rw [hl] at hb
            rw [b4 b hb, if_neg (by omega), b3]
            exact h.came hkt b hb
          · rw [b3, hl]
            exact h.near hkt x hx
        · rw [if_neg hs, if_neg hs]
          have hdl : d < T.came.length := by omega
          have hn : sub32 T.high (d : Int) = n := by unfold sub32 at *; omega
          have hc := h.came hkt d hdl
          rw [hn] at hc
          by_cases hm : r.came.contains n = true
          · rw [hm, if_pos rfl]
            rw [hm] at hc
            refine ⟨by rw [b1, hc]; simp, okf, by rw [hl]; exact h.size, by rw [b2, h.known, hkt], h.rng, fun _ => by rw [b3]; exact hh, fun hh => (by rw [b2] at hh; cases hh), fun _ b hb => ?_, fun _ x hx => ?_, h.word, by omega⟩
            · rw [hl] at hb
              rw [b4 b hb, b3]
              by_cases hbd : b = d
              · subst hbd
                rw [if_pos rfl, hn, hm]
              · rw [if_neg hbd]
                exact h.came hkt b hb
            · rw [b3, hl]
              exact h.near hkt x hx
          · have hm2 : r.came.contains n = false := by simpa using hm
            rw [hm2, if_neg (by simp)]
            rw [hm2] at hc
            refine ⟨by rw [b1, hc]; simp [hdl], okf, by rw [hl], by show r.known = _; rw [b2, h.known, hkt], ⟨q1, q2⟩, fun _ => b3.symm, fun hh => (by rw [b2] at hh; cases hh), fun _ b hb => ?_, fun _ x hx => ?_, fun x hx => ?_, by simp; omega⟩
            · rw [hl] at hb
              rw [b4 b hb, b3, contains_append]
              by_cases hbd : b = d
              · subst hbd
                rw [if_pos rfl, hn]
                simp
              · have : ¬ sub32 T.high (b : Int) = n := by unfold sub32 at *; omega
                rw [if_neg hbd, h.came hkt b hb]
                simp [this]
            · rw [b3, hl]
              simp at hx
              rcases hx with hx | rfl
              · exact h.near hkt x hx
              · omega
            · simp at hx
              rcases hx with hx | rfl
              · exact h.word x hx
              · exact ⟨h0, h1⟩
end Go.Proofs.Ytnelcmblcalknaa.TwPl
