/- Plain facts on stuffed bits: a list, each five 1s followed by a 0. No condition. -/
import Derived.RowKit
namespace Go.Proofs.Ytcmacdjocbeeaaa.BitsPure

/-- A bit: 0 for 0, else 1. -/
def one (x : Int) : Int := if x = 0 then 0 else 1

/-- What n ones ahead and these bits are, stuffed. -/
def stuffL : Nat → List Int → List Int
  | _, [] => []
  | n, x :: xs => if x = 0 then 0 :: stuffL 0 xs else if n + 1 = 5 then 1 :: 0 :: stuffL 0 xs else 1 :: stuffL (n + 1) xs

/-- No six ones side by side, and only 0 and 1. -/
def okRun : Int → List Int → Bool
  | _, [] => true
  | n, x :: xs => if x = 0 then okRun 0 xs else decide (n + 1 ≤ 5) && (decide (x ≤ 1) && okRun (n + 1) xs)

theorem okRun_stuffL (l : List Int) : ∀ n : Nat, n ≤ 4 → okRun n (stuffL n l) = true := by
  induction l with
  | nil => intro n _; rfl
  | cons x xs ih =>
    intro n hn
    unfold stuffL
    by_cases hx : x = 0
    · rw [if_pos hx]
      simp only [okRun, if_true]
      exact ih 0 (by omega)
    · rw [if_neg hx]
      by_cases h5 : n + 1 = 5
      · rw [if_pos h5]
        have := ih 0 (by omega)
        simp only [okRun, if_true]
        rw [if_neg (by omega)]
        simp only [Bool.and_eq_true, decide_eq_true_eq]
        exact ⟨by omega, by omega, this⟩
      · rw [if_neg h5]
        have := ih (n + 1) (by omega)
        simp only [okRun]
        rw [if_neg (by omega)]
        simp only [Bool.and_eq_true, decide_eq_true_eq]
        exact ⟨by omega, by omega, by exact_mod_cast this⟩

theorem stuffL_len (l : List Int) : ∀ n : Nat, n ≤ 4 → l.length ≤ (stuffL n l).length ∧ (stuffL n l).length ≤ l.length + (l.length + n) / 5 := by
  induction l with
  | nil => intro n _; simp [stuffL]
  | cons x xs ih =>
    intro n hn
    unfold stuffL
    by_cases hx : x = 0
    · rw [if_pos hx]
      have := ih 0 (by omega)
      simp only [List.length_cons]
      omega
    · rw [if_neg hx]
      by_cases h5 : n + 1 = 5
      · rw [if_pos h5]
        have := ih 0 (by omega)
        simp only [List.length_cons]
        omega
      · rw [if_neg h5]
        have := ih (n + 1) (by omega)
        simp only [List.length_cons]
        omega

theorem stuffL_bit (l : List Int) : ∀ n : Nat, ∀ x ∈ stuffL n l, x = 0 ∨ x = 1 := by
  induction l with
  | nil => intro n x h; simp [stuffL] at h
  | cons y ys ih =>
    intro n x h
    unfold stuffL at h
    by_cases hx : y = 0
    · rw [if_pos hx] at h
      rcases List.mem_cons.1 h with h | h
      · exact .inl h
      · exact ih _ _ h
    · rw [if_neg hx] at h
      by_cases h5 : n + 1 = 5
      · rw [if_pos h5] at h
        rcases List.mem_cons.1 h with h | h
        · exact .inr h
        · rcases List.mem_cons.1 h with h | h
          · exact .inl h
          · exact ih _ _ h
      · rw [if_neg h5] at h
        rcases List.mem_cons.1 h with h | h
        · exact .inr h
        · exact ih _ _ h


/-- What is left behind n ones and these stuffed bits, behind acc; and the error's number. -/
def unstuffL : Nat → List Int → List Int → List Int × Int
  | n, [], acc => if n = 5 then ([], 3) else (acc, 0)
  | n, x :: xs, acc => if n = 5 then (if x = 0 then unstuffL 0 xs acc else ([], 4)) else unstuffL (if x = 0 then 0 else n + 1) xs (acc ++ [one x])

theorem unstuffL_len (l : List Int) : ∀ (n : Nat) (acc : List Int), (unstuffL n l acc).1.length ≤ acc.length + l.length := by
  induction l with
  | nil => intro n acc; unfold unstuffL; split <;> simp
  | cons x xs ih =>
    intro n acc
    unfold unstuffL
    by_cases h5 : n = 5
    · rw [if_pos h5]
      by_cases hx : x = 0
      · rw [if_pos hx]
        have := ih 0 acc
        simp only [List.length_cons]
        omega
      · rw [if_neg hx]
        simp
    · rw [if_neg h5]
      have := ih (if x = 0 then 0 else n + 1) (acc ++ [one x])
      simp only [List.length_append, List.length_cons, List.length_nil] at this ⊢
      omega

/-- What is stuffed comes back, with each bit 0 or 1. -/
theorem unstuffL_stuffL (l : List Int) : ∀ (n : Nat) (acc : List Int), n ≤ 4 → unstuffL n (stuffL n l) acc = (acc ++ l.map one, 0) := by
  induction l with
  | nil => intro n acc hn; unfold stuffL unstuffL; rw [if_neg (by omega)]; simp
  | cons x xs ih =>
    intro n acc hn
    unfold stuffL
    by_cases hx : x = 0
    · rw [if_pos hx]
      unfold unstuffL
      rw [if_neg (by omega), if_pos rfl, ih 0 _ (by omega)]
      simp [one, hx]
    · rw [if_neg hx]
      by_cases h5 : n + 1 = 5
      · rw [if_pos h5]
        unfold unstuffL
        rw [if_neg (by omega), if_neg (by omega), h5]
        unfold unstuffL
        rw [if_pos rfl, if_pos rfl, ih 0 _ (by omega)]
        simp [one, hx]
      · rw [if_neg h5]
        unfold unstuffL
        rw [if_neg (by omega), if_neg (by omega), ih (n + 1) _ (by omega)]
        simp [one, hx]

/-- Bit j of a byte. -/
def bitAt (x : Int) (j : Nat) : Int := (x / 2 ^ j) % 2
def byteBits (x : Int) : List Int := (List.range 8).map (bitAt x)
theorem byteBits_drop (x : Int) (j : Nat) (h : j < 8) : (byteBits x).drop j = bitAt x j :: (byteBits x).drop (j + 1) := by
  rw [List.drop_eq_getElem_cons (by simp [byteBits]; exact h)]
  simp [byteBits]
/-- Bytes' bits. -/
def ofL (l : List Int) : List Int := l.flatMap byteBits
theorem ofL_cons (x : Int) (l : List Int) : ofL (x :: l) = byteBits x ++ ofL l := by simp [ofL]
theorem ofL_len (l : List Int) : (ofL l).length = 8 * l.length := by
  induction l with
  | nil => rfl
  | cons x xs ih => rw [ofL_cons, List.length_append, ih]; simp [byteBits]; omega

def get (l : List Int) (i : Nat) : Int := l.getD i 0
/-- What the first k bits of byte q come to. -/
def bv (l : List Int) (q : Nat) : Nat → Int
  | 0 => 0
  | k + 1 => bv l q k + one (get l (8 * q + k)) * 2 ^ k
theorem one_01 (x : Int) : 0 ≤ one x ∧ one x ≤ 1 := by unfold one; split <;> omega
theorem bv_bound (l : List Int) (q : Nat) : ∀ k, 0 ≤ bv l q k ∧ bv l q k < 2 ^ k
  | 0 => by simp [bv]
  | k + 1 => by
    have ih := bv_bound l q k
    have h1 := one_01 (get l (8 * q + k))
    unfold bv
    generalize one (get l (8 * q + k)) = x at *
    have hp : (0 : Int) < 2 ^ k := Int.pow_pos (by omega)
    rw [Int.pow_succ]
    generalize (2 : Int) ^ k = p at *
    obtain ⟨h2, h3⟩ := h1
    have h4 : x = 0 ∨ x = 1 := by omega
    rcases h4 with rfl | rfl <;> omega
/-- The first m bytes when i bits were taken. -/
def outAt (l : List Int) (m i : Nat) : List Int := (List.range m).map fun q => bv l q (min 8 (i - 8 * q))
theorem outAt_len (l : List Int) (m i : Nat) : (outAt l m i).length = m := by simp [outAt]
theorem outAt_get (l : List Int) (m i q : Nat) (h : q < m) : (outAt l m i).getD q 0 = bv l q (min 8 (i - 8 * q)) := by
  simp [outAt, List.getD_eq_getElem?_getD, h]
theorem outAt_step (l : List Int) (m i : Nat) (h : i < 8 * m) : outAt l m (i + 1) = (outAt l m i).set (i / 8) (bv l (i / 8) (i % 8 + 1)) := by
  apply List.ext_getElem?
  intro q
  rw [List.getElem?_set]
  simp only [outAt, List.getElem?_map, List.length_map, List.length_range]
  by_cases hq : q < m
  · rw [List.getElem?_range hq]
    by_cases he : i / 8 = q
    · subst he
      rw [if_pos rfl, if_pos hq]
      simp only [Option.map_some, Option.some.injEq]
      congr 1
      omega
    · rw [if_neg he]
      simp only [Option.map_some, Option.some.injEq]
      congr 1
      omega
  · rw [List.getElem?_eq_none (by simp; omega)]
    rw [if_neg (by omega)]
    rfl
theorem outAt_zero (l : List Int) (m : Nat) : outAt l m 0 = List.replicate m 0 := by
  apply List.ext_getElem?
  intro q
  simp only [outAt, List.getElem?_map, List.getElem?_replicate]
  by_cases hq : q < m
  · rw [List.getElem?_range hq, if_pos hq]; simp [bv]
  · rw [List.getElem?_eq_none (by simp; omega), if_neg hq]; rfl
theorem outAt_more (l : List Int) (i : Nat) (h : i % 8 = 0) : outAt l (i / 8 + 1) i = outAt l (i / 8) i ++ [0] := by
  unfold outAt
  rw [List.range_succ, List.map_append]
  congr 1
  simp only [List.map_cons, List.map_nil, List.cons.injEq, and_true]
  rw [show i - 8 * (i / 8) = 0 by omega]
  rfl
/-- A byte's bits come to the byte. -/
theorem bv_byte (l : List Int) (q : Nat) (x : Int) (h0 : 0 ≤ x) (hx : ∀ k, k < 8 → one (get l (8 * q + k)) = bitAt x k) : ∀ k, k ≤ 8 → bv l q k = x % 2 ^ k
  | 0, _ => by simp [bv]
  | k + 1, hk => by
    unfold bv
    rw [bv_byte l q x h0 hx k (by omega), hx k (by omega)]
    unfold bitAt
    have hc : k = 0 ∨ k = 1 ∨ k = 2 ∨ k = 3 ∨ k = 4 ∨ k = 5 ∨ k = 6 ∨ k = 7 := by omega
    rcases hc with rfl | rfl | rfl | rfl | rfl | rfl | rfl | rfl
    all_goals
      simp only [Nat.reduceAdd, Int.reducePow, Int.pow_zero]
      omega

end Go.Proofs.Ytcmacdjocbeeaaa.BitsPure
