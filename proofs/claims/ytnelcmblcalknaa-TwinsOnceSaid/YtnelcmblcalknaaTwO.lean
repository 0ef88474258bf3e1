/- Two rows of the same numbers, each with some left out, that come mixed: plain laws. -/
import Derived.Test.YtnelcmblcalknaaTwQ
namespace Go.Proofs.Ytnelcmblcalknaa.TwO
open Go.RowKit Go.Proofs.Ytnelcmblcalknaa.K Go.Proofs.Ytnelcmblcalknaa.TwP Go.Proofs.Ytnelcmblcalknaa.TwB Go.Proofs.Ytnelcmblcalknaa.TwQ
set_option linter.unusedVariables false
set_option linter.unusedSimpArgs false
/-- The numbers first + k of which P holds came, and no others. -/
structure Know (fst : Int) (T : Tb) (P : Nat → Bool) : Prop where
  ok : Ok T
  none : (∀ k, P k = false) → T.known = false ∧ ∀ b, b < T.came.length → has T b = false
  some : ∀ k, P k = true → ∃ M, P M = true ∧ (∀ j, P j = true → j ≤ M) ∧ T.known = true ∧ T.high = (fst + M) % 4294967296 ∧ ∀ b, b < T.came.length → has T b = (decide (b ≤ M) && P (M - b))
theorem Know.start (fst : Int) (size : Int) (P : Nat → Bool) (hP : ∀ k, P k = false) : Know fst (newT size) P := ⟨Ok.new size, fun _ => ⟨rfl, fun b _ => has_new size b⟩, fun k hk => by rw [hP k] at hk; cases hk⟩
theorem Know.congr {fst : Int} {T : Tb} {P P' : Nat → Bool} (h : Know fst T P) (hP : ∀ k, P' k = P k) : Know fst T P' := by rw [show P' = P from funext hP]; exact h
theorem Know.push {fst : Int} {T : Tb} {P : Nat → Bool} (h : Know fst T P) (h0 : 0 ≤ fst) (h1 : fst < 4294967296) (k : Nat) (hk : k ≤ 100) (hP : ∀ j, P j = true → j ≤ 100) (hM : ∀ M, P M = true → M < k + T.came.length) :
    freshB T ((fst + k) % 4294967296) = !P k ∧ Know fst (freshT T ((fst + k) % 4294967296)) (fun j => P j || decide (j = k)) := by
  have hl := fresh_len T ((fst + k) % 4294967296)
  obtain ⟨ok, hn, hs⟩ := h
  have ho := ok.at_lt
  have okf := ok.fresh ((fst + k) % 4294967296) (by omega) (by omega)
  by_cases he : ∀ j, P j = false
  · obtain ⟨a1, a2⟩ := hn he
    obtain ⟨b1, b2, b3, b4⟩ := fresh_unknown T ok ((fst + k) % 4294967296) a1 (a2 0 (by omega))
    refine ⟨by rw [b1, he k]; rfl, okf, fun hh => ?_, fun j hj => ⟨k, by simp, ?_, b2, b3, ?_⟩⟩
    · have := hh k
      simp at this
    · intro j hj
      simp [he j] at hj
      omega
    · intro b hb
      rw [hl] at hb
      rw [b4 b hb]
      simp only [he, Bool.false_or]
      by_cases hb0 : b = 0
      · subst hb0
        simp
      · rw [if_neg hb0, a2 b hb]
        by_cases hbk : b ≤ k
        · have : ¬ k - b = k := by omega
          simp [this]
        · simp [hbk]
  · have : ∃ j, P j = true := by
      apply Classical.byContradiction
      intro hne
      exact he (fun j => by
        cases hj : P j
        · rfl
        · exact absurd ⟨j, hj⟩ hne)
    obtain ⟨j0, hj0⟩ := this
    obtain ⟨M, m1, m2, m3, m4, m5⟩ := hs j0 hj0
    have hM1 := hM M m1
    have hM2 := hP M m1
    rcases Nat.lt_trichotomy M k with hx | hx | hx
    · obtain ⟨b1, b2, b3, b4⟩ := fresh_up T ok ((fst + k) % 4294967296) m3 (k - M) (by rw [m4]; unfold sub32; omega) (by rw [m4]; unfold sub32; omega) (by omega) (by omega)
      have hpk : P k = false := by
        cases hpk : P k
        · rfl
        · have := m2 k hpk; omega
      refine ⟨by rw [b1, hpk]; rfl, okf, fun hh => ?_, fun j hj => ⟨k, by simp, ?_, b2, b3, ?_⟩⟩
      · have := hh k
        simp at this
      · intro j hj
        simp at hj
        rcases hj with hj | hj
        · have := m2 j hj; omega
        · omega
      · intro b hb
        rw [hl] at hb
        rw [b4 b hb]
        by_cases hb0 : b = 0
        · subst hb0
          simp
        · rw [if_neg hb0]
          by_cases hbd : b < k - M
          · rw [if_pos hbd]
            have h6 : P (k - b) = false := by
              cases hpb : P (k - b)
              · rfl
              · have := m2 _ hpb; omega
            have h7 : ¬ k - b = k := by omega
            simp [h6, h7]
          · rw [if_neg hbd, m5 _ (by omega)]
            by_cases hbk : b ≤ k
            · have h7 : ¬ k - b = k := by omega
              have h8 : b - (k - M) ≤ M := by omega
              rw [show M - (b - (k - M)) = k - b by omega]
              simp [h7, h8, hbk]
            · have h8 : ¬ b - (k - M) ≤ M := by omega
              simp [h8, hbk]
    · subst hx
      obtain ⟨b1, b2⟩ := fresh_same T ((fst + M) % 4294967296) m3 (by rw [m4]; unfold sub32; omega)
      rw [b1, b2]
      refine ⟨by rw [m1]; rfl, ok, fun hh => ?_, fun j hj => ⟨M, by simp, ?_, m3, m4, ?_⟩⟩
      · have := hh M
        simp at this
      · intro j hj
        simp at hj
        rcases hj with hj | hj
        · exact m2 j hj
        · omega
      · intro b hb
        rw [m5 b hb]
        by_cases hbM : b ≤ M
        · by_cases hb0 : M - b = M
          · simp [hbM, hb0, m1]
          · simp [hbM, hb0]
        · simp [hbM]
    · obtain ⟨b1, b2, b3, b4⟩ := fresh_back T ok ((fst + k) % 4294967296) m3 (M - k) (by rw [m4]; unfold sub32; omega) (by omega) (by rw [m4]; unfold sub32; omega)
      have h9 : M - k < T.came.length := by omega
      have h10 := m5 (M - k) h9
      rw [show M - (M - k) = k by omega] at h10
      refine ⟨?_, okf, fun hh => ?_, fun j hj => ⟨M, by simp [m1], ?_, b2, by rw [b3]; exact m4, ?_⟩⟩
      · rw [b1, h10]
        simp [h9]
      · have := hh k
        simp at this
      · intro j hj
        simp at hj
        rcases hj with hj | hj
        · exact m2 j hj
        · omega
      · intro b hb
        rw [hl] at hb
        rw [b4 b hb]
        by_cases hbd : b = M - k
        · subst hbd
          rw [if_pos rfl, show M - (M - k) = k by omega]
          simp
        · rw [if_neg hbd, m5 b hb]
          by_cases hbM : b ≤ M
          · have : ¬ M - b = k := by omega
            simp [hbM, this]
          · simp [hbM]
def pushB (L1 L2 : Nat → Bool) (a b k : Nat) : Bool := (decide (k < a) && L1 k) || (decide (k < b) && L2 k)
/-- The two rows, so many of the one and so many of the other having come. -/
structure Onc (fst : Int) (n size : Nat) (L1 L2 : Nat → Bool) (a b : Nat) (T : Tb) (ts : List Int) : Prop where
  know : Know fst T (pushB L1 L2 a b)
  len : T.came.length = size
  an : a ≤ n
  bn : b ≤ n
  ab : a + 1 ≤ b + size
  ba : b + 1 ≤ a + size
  tl : ts.length = n
  times : ∀ k, k < n → ts.getD k 0 = if pushB L1 L2 a b k = true then 1 else 0
theorem push_le {L1 L2 : Nat → Bool} {a b j : Nat} (h : pushB L1 L2 a b j = true) : j < a ∨ j < b := by
  unfold pushB at h
  simp at h
  omega
theorem getD_seti (l : List Int) (i j : Nat) (x : Int) (hi : i < l.length) : (l.set i x).getD j 0 = if j = i then x else l.getD j 0 := by
  simp only [List.getD_eq_getElem?_getD, List.getElem?_set]
  by_cases h : i = j
  · subst h
    simp [hi]
  · rw [if_neg h, if_neg (fun e => h e.symm)]
/-- One more of a row that is not taken: nothing turns. -/
theorem Onc.skip {fst : Int} {n size : Nat} {L1 L2 : Nat → Bool} {a b a' b' : Nat} {T : Tb} {ts : List Int} (h : Onc fst n size L1 L2 a b T ts) (han : a' ≤ n) (hbn : b' ≤ n) (hab : a' + 1 ≤ b' + size) (hba : b' + 1 ≤ a' + size) (hP : ∀ k, pushB L1 L2 a' b' k = pushB L1 L2 a b k) : Onc fst n size L1 L2 a' b' T ts :=
  ⟨h.know.congr hP, h.len, han, hbn, hab, hba, h.tl, fun k hk => by rw [hP k]; exact h.times k hk⟩
theorem Onc.take {fst : Int} {n size : Nat} {L1 L2 : Nat → Bool} {a b a' b' k : Nat} {T : Tb} {ts : List Int} (h : Onc fst n size L1 L2 a b T ts) (h0 : 0 ≤ fst) (h1 : fst < 4294967296) (hn : n ≤ 100) (hk : k < n) (hka : a ≤ k + size) (hkb : b ≤ k + size)
    (han : a' ≤ n) (hbn : b' ≤ n) (hab : a' + 1 ≤ b' + size) (hba : b' + 1 ≤ a' + size) (hP : ∀ j, pushB L1 L2 a' b' j = (pushB L1 L2 a b j || decide (j = k))) :
    (freshB T ((fst + k) % 4294967296) = true → Onc fst n size L1 L2 a' b' (freshT T ((fst + k) % 4294967296)) (ts.set k (ts.getD k 0 + 1)) ∧ ts.getD k 0 = 0) ∧
    (freshB T ((fst + k) % 4294967296) = false → Onc fst n size L1 L2 a' b' (freshT T ((fst + k) % 4294967296)) ts) := by
  have hp := h.know.push h0 h1 k (by omega) (fun j hj => by have := push_le hj; have := h.an; have := h.bn; omega) (fun M hM => by have := push_le hM; rw [h.len]; omega)
  obtain ⟨p1, p2⟩ := hp
  have hl := (fresh_len T ((fst + k) % 4294967296)).trans h.len
  have htk := h.times k hk
  refine ⟨fun hf => ?_, fun hf => ?_⟩
  · rw [p1] at hf
    have hpk : pushB L1 L2 a b k = false := by simpa using hf
    rw [hpk] at htk
    have htk0 : ts.getD k 0 = 0 := htk
    refine ⟨⟨p2.congr hP, hl, han, hbn, hab, hba, by simpa using h.tl, fun j hj => ?_⟩, htk0⟩
    rw [getD_seti _ _ _ _ (by rw [h.tl]; exact hk), hP j]
    by_cases hjk : j = k
    · subst hjk
      rw [if_pos rfl, htk0]
      simp
    · rw [if_neg hjk, h.times j hj]
      simp [hjk]
  · rw [p1] at hf
    have hpk : pushB L1 L2 a b k = true := by simpa using hf
    refine ⟨p2.congr hP, hl, han, hbn, hab, hba, h.tl, fun j hj => ?_⟩
    rw [hP j, h.times j hj]
    by_cases hjk : j = k
    · subst hjk
      simp [hpk]
    · simp [hjk]
theorem Onc.start (fst : Int) (n : Nat) (size : Nat) (L1 L2 : Nat → Bool) (hs : 2 ≤ size) (hs2 : size ≤ 64) : Onc fst n size L1 L2 0 0 (newT size) (List.replicate n 0) := by
  refine ⟨Know.start fst size _ (fun k => by simp [pushB]), ?_, Nat.zero_le _, Nat.zero_le _, by omega, by omega, by simp, fun k hk => ?_⟩
  · simp only [newT, List.length_replicate, sizeQ]
    rw [if_neg (by omega), if_neg (by omega)]
    omega
  · have : pushB L1 L2 0 0 k = false := by simp [pushB]
    rw [this]
    simp [List.getD_eq_getElem?_getD, hk]
theorem push_a (L1 L2 : Nat → Bool) (a b j : Nat) : pushB L1 L2 (a + 1) b j = (pushB L1 L2 a b j || (decide (j = a) && L1 a)) := by
  unfold pushB
  by_cases h : j = a
  · subst h
    simp [Bool.or_comm]
  · have : (j < a + 1) = (j < a) := by apply propext; omega
    simp [h, this]
theorem push_b (L1 L2 : Nat → Bool) (a b j : Nat) : pushB L1 L2 a (b + 1) j = (pushB L1 L2 a b j || (decide (j = b) && L2 b)) := by
  unfold pushB
  by_cases h : j = b
  · subst h
    simp [Bool.or_assoc]
  · have : (j < b + 1) = (j < b) := by apply propext; omega
    simp [h, this]
end Go.Proofs.Ytnelcmblcalknaa.TwO
