/- What a table of numbers knows, behind any calls: plain laws. -/
import Derived.Test.YtnelcmblcalknaaTwB
namespace Go.Proofs.Ytnelcmblcalknaa.TwQ
open Go.RowKit Go.Proofs.Ytnelcmblcalknaa.K Go.Proofs.Ytnelcmblcalknaa.TwP Go.Proofs.Ytnelcmblcalknaa.TwB
set_option linter.unusedVariables false
/-- Did the number so many behind the highest one come? -/
def has (T : Tb) (b : Nat) : Bool := T.came.getD (idx T b) false
theorem idx_low (T : Tb) (ok : Ok T) (b : Nat) (hb : b < T.came.length) : idx T b = if b ≤ T.at_ then T.at_ - b else T.at_ + T.came.length - b := by
  have h := ok.at_lt
  unfold idx
  split
  · rw [show T.at_ + T.came.length - b = (T.at_ - b) + T.came.length by omega, Nat.add_mod_right, Nat.mod_eq_of_lt (by omega)]
  · rw [Nat.mod_eq_of_lt (by omega)]
theorem idx_inj (T : Tb) (ok : Ok T) (b b' : Nat) (hb : b < T.came.length) (hb' : b' < T.came.length) (h : idx T b = idx T b') : b = b' := by
  have h1 := ok.at_lt
  rw [idx_low T ok b hb, idx_low T ok b' hb'] at h
  split at h <;> split at h <;> omega
theorem getD_set (l : List Bool) (i j : Nat) (x : Bool) (hi : i < l.length) : (l.set i x).getD j false = if j = i then x else l.getD j false := by
  simp only [List.getD_eq_getElem?_getD, List.getElem?_set]
  by_cases h : i = j
  · subst h
    simp [hi]
  · rw [if_neg h, if_neg (fun e => h e.symm)]
theorem has_first (T : Tb) (ok : Ok T) (b b' : Nat) (hb : b < T.came.length) (hb' : b' < T.came.length) : has (firstT T b) b' = if b' = b then true else has T b' := by
  have e : idx (firstT T b) b' = idx T b' := by simp [idx, firstT]
  unfold has
  rw [e]
  show (T.came.set (idx T b) true).getD (idx T b') false = _
  rw [getD_set _ _ _ _ (idx_lt ok b)]
  by_cases h : b' = b
  · subst h
    rw [if_pos rfl, if_pos rfl]
  · rw [if_neg (fun e => h (idx_inj T ok b' b hb' hb e)), if_neg h]
theorem first_has (T : Tb) (b : Nat) : firstB T b = !has T b := rfl
theorem has_raise (T : Tb) (ok : Ok T) (b : Nat) (hb : b < T.came.length) : has (raiseT T) b = if b = 0 then false else has T (b - 1) := by
  have ok2 := ok.raise
  have h1 := ok.at_lt
  have hl : (raiseT T).came.length = T.came.length := by simp [raiseT]
  have ha : (raiseT T).at_ = (T.at_ + 1) % T.came.length := rfl
  have hm : (T.at_ + 1) % T.came.length = if T.at_ + 1 = T.came.length then 0 else T.at_ + 1 := by
    split
    · rename_i h
      rw [h, Nat.mod_self]
    · exact Nat.mod_eq_of_lt (by omega)
  have hlt : (T.at_ + 1) % T.came.length < T.came.length := Nat.mod_lt _ (by omega)
  unfold has
  rw [idx_low (raiseT T) ok2 b (by rw [hl]; exact hb), hl, ha]
  show (T.came.set ((T.at_ + 1) % T.came.length) false).getD _ false = _
  rw [getD_set _ _ _ _ hlt]
  by_cases h0 : b = 0
  · subst h0
    rw [if_pos (Nat.zero_le _), if_pos rfl, if_pos (by omega)]
  · rw [if_neg h0, idx_low T ok (b - 1) (by omega)]
    have : (if b ≤ (T.at_ + 1) % T.came.length then (T.at_ + 1) % T.came.length - b else (T.at_ + 1) % T.came.length + T.came.length - b) = if b - 1 ≤ T.at_ then T.at_ - (b - 1) else T.at_ + T.came.length - (b - 1) := by
      rw [hm]
      split <;> split <;> split <;> omega
    rw [this]
    rw [if_neg]
    rw [hm]
    split <;> split <;> omega
theorem has_raiseN : ∀ (k : Nat) (T : Tb), Ok T → ∀ b, b < T.came.length → has (raiseN k T) b = if b < k then false else has T (b - k)
  | 0, T, ok, b, hb => by simp [raiseN]
  | k + 1, T, ok, b, hb => by
    rw [raiseN_succ, has_raise _ (ok.raiseN k) b (by rw [raiseN_len]; exact hb)]
    by_cases h0 : b = 0
    · subst h0
      rw [if_pos rfl, if_pos (by omega)]
    · rw [if_neg h0, has_raiseN k T ok (b - 1) (by omega)]
      by_cases h1 : b - 1 < k
      · rw [if_pos h1, if_pos (by omega)]
      · rw [if_neg h1, if_neg (by omega), show b - 1 - k = b - (k + 1) by omega]
theorem has_high (T : Tb) (k : Bool) (n : Int) (b : Nat) : has { T with known := k, high := n } b = has T b := rfl
theorem has_high2 (T : Tb) (n : Int) (b : Nat) : has { T with high := n } b = has T b := rfl
theorem has_new (size : Int) (b : Nat) : has (newT size) b = false := by
  unfold has newT
  simp only [List.getD_eq_getElem?_getD, List.getElem?_replicate]
  split <;> rfl
theorem has_clear (T : Tb) (b : Nat) : has (clearT T) b = false := by
  unfold has clearT
  simp only [List.getD_eq_getElem?_getD, List.getElem?_replicate]
  split <;> rfl
theorem fresh_len (T : Tb) (n : Int) : (freshT T n).came.length = T.came.length := by
  unfold freshT
  split
  · simp [firstT]
  · split
    · rfl
    · split
      · simp [firstT, raiseN_len]
      · split
        · simp [firstT]
        · rfl
/-- A number, while none is known. -/
theorem fresh_unknown (T : Tb) (ok : Ok T) (n : Int) (hk : T.known = false) (h0 : has T 0 = false) : freshB T n = true ∧ (freshT T n).known = true ∧ (freshT T n).high = n ∧ ∀ b, b < T.came.length → has (freshT T n) b = if b = 0 then true else has T b := by
  have hl := ok.at_lt
  unfold freshB freshT
  rw [if_pos hk, if_pos hk]
  refine ⟨?_, rfl, rfl, fun b hb => ?_⟩
  · rw [first_has, has_high, h0]
    rfl
  · have ok2 : Ok { T with known := true, high := T.high } := ⟨ok.at_lt, ok.len, ok.low, ok.up⟩
    have := has_first { T with known := true, high := T.high } ok2 0 b (by show 0 < T.came.length; omega) hb
    exact this
/-- The highest one again. -/
theorem fresh_same (T : Tb) (n : Int) (hk : T.known = true) (h : sub32 T.high n = 0) : freshB T n = false ∧ freshT T n = T := by
  unfold freshB freshT
  have hkn : ¬ T.known = false := by rw [hk]; decide
  rw [if_neg hkn, if_neg hkn, if_pos h, if_pos h]
  exact ⟨rfl, rfl⟩
/-- A higher one. -/
theorem fresh_up (T : Tb) (ok : Ok T) (n : Int) (hk : T.known = true) (d : Nat) (h0 : sub32 T.high n ≠ 0) (h : sub32 n T.high = d) (hd : 0 < d) (hd2 : d < 2147483648) :
    freshB T n = true ∧ (freshT T n).known = true ∧ (freshT T n).high = n ∧ ∀ b, b < T.came.length → has (freshT T n) b = if b = 0 then true else if b < d then false else has T (b - d) := by
  have hl := ok.at_lt
  unfold freshB freshT
  have hkn : ¬ T.known = false := by rw [hk]; decide
  have hdd : (d : Int) < 2147483648 := by omega
  rw [if_neg hkn, if_neg hkn, if_neg h0, if_neg h0, h, if_pos hdd, if_pos hdd, Int.toNat_natCast]
  have okn := ok.raiseN (min d T.came.length)
  have key : ∀ b, b < T.came.length → has (raiseN (min d T.came.length) T) b = if b < d then false else has T (b - d) := by
    intro b hb
    rw [has_raiseN _ T ok b hb]
    by_cases h1 : b < d
    · rw [if_pos h1, if_pos (by omega)]
    · rw [if_neg h1, if_neg (by omega), show min d T.came.length = d by omega]
  refine ⟨?_, by show (raiseN _ T).known = true; rw [raiseN_known]; exact hk, rfl, fun b hb => ?_⟩
  · rw [first_has, has_high2, key 0 (by omega), if_pos hd]
    rfl
  · have := has_first (raiseN (min d T.came.length) T) okn 0 b (by rw [raiseN_len]; omega) (by rw [raiseN_len]; exact hb)
    have e : has (firstT { raiseN (min d T.came.length) T with high := n } 0) b = has (firstT (raiseN (min d T.came.length) T) 0) b := rfl
    rw [e, this, key b hb]
/-- One behind. -/
theorem fresh_back (T : Tb) (ok : Ok T) (n : Int) (hk : T.known = true) (d : Nat) (h : sub32 T.high n = d) (hd : 0 < d) (hup : ¬ sub32 n T.high < 2147483648) :
    freshB T n = (decide (d < T.came.length) && !has T d) ∧ (freshT T n).known = true ∧ (freshT T n).high = T.high ∧ ∀ b, b < T.came.length → has (freshT T n) b = if b = d then true else has T b := by
  have hl := ok.at_lt
  unfold freshB freshT
  have hkn : ¬ T.known = false := by rw [hk]; decide
  have hd0 : ¬ (d : Int) = 0 := by omega
  rw [if_neg hkn, if_neg hkn, h, if_neg hd0, if_neg hd0, if_neg hup, if_neg hup, Int.toNat_natCast]
  by_cases h1 : d < T.came.length
  · have h2 : (d : Int) < (T.came.length : Int) := by omega
    rw [if_pos h2, if_pos h2, first_has]
    refine ⟨by simp [h1], hk, rfl, fun b hb => has_first T ok d b h1 hb⟩
  · have h2 : ¬ (d : Int) < (T.came.length : Int) := by omega
    rw [if_neg h2, if_neg h2]
    refine ⟨by simp [h1], hk, rfl, fun b hb => by rw [if_neg (by omega)]⟩
end Go.Proofs.Ytnelcmblcalknaa.TwQ
