/- Whole numbers as floats: what nearest gives reads back. -/
import Derived.Test.YtoaoebkllcmanaaTaR
namespace Go.Proofs.Ytoaoebkllcmanaa.TcF
open Go.RowKit Go.Proofs.Ytoaoebkllcmanaa.TaP Ieee
set_option linter.unusedVariables false
set_option linter.unusedSimpArgs false
theorem cut0 (m : Nat) (way : Toward) (neg : Bool) : way.cut neg m 0 = m := by
  cases way <;> simp [Toward.cut, Nat.mod_one]
theorem bounds (n : Nat) (h : 1 ≤ n) (hk : n.log2 ≤ 52) : 2 ^ 52 ≤ n * 2 ^ (52 - n.log2) ∧ n * 2 ^ (52 - n.log2) < 2 ^ 53 := by
  have h1 := Nat.log2_self_le (n := n) (by omega)
  have h2 := Nat.lt_log2_self (n := n)
  have e1 : 2 ^ n.log2 * 2 ^ (52 - n.log2) = 2 ^ 52 := by rw [← Nat.pow_add]; congr 1; omega
  have e2 : 2 ^ (n.log2 + 1) * 2 ^ (52 - n.log2) = 2 ^ 53 := by rw [← Nat.pow_add]; congr 1; omega
  constructor
  · rw [← e1]; exact Nat.mul_le_mul_right _ h1
  · rw [← e2]; exact Nat.mul_lt_mul_of_pos_right h2 (Nat.two_pow_pos _)
theorem fl_is (n : Nat) (h : 1 ≤ n) (hk : n.log2 ≤ 52) : fl n = (n.log2 + 1022) * 2 ^ 52 + n * 2 ^ (52 - n.log2) := by
  have hb := bounds n h hk
  have e0 : fl n = double.nearest (decide ((n : Int) < 0)) (n : Int).natAbs 0 := rfl
  rw [e0, Int.natAbs_natCast]
  unfold Format.nearest
  rw [if_neg (by omega)]
  have hl : double.leastPlace = -1074 := by decide
  have hf : (double.fractionBits : Int) = 52 := rfl
  have hbn : double.binade = 2 ^ 52 := rfl
  have hin : double.infRung = 2047 * 2 ^ 52 := by decide
  have hm : max ((0 : Int) + (n.log2 : Nat) - double.fractionBits) double.leastPlace = (n.log2 : Int) - 52 := by rw [hl, hf]; omega
  simp only [hm]
  rw [show ((0 : Int) - ((n.log2 : Int) - 52)).toNat = 52 - n.log2 by omega, show ((n.log2 : Int) - 52 - 0).toNat = 0 by omega, cut0, Nat.shiftLeft_eq, hl, hbn, hin]
  rw [show ((n.log2 : Int) - 52 - -1074).toNat = n.log2 + 1022 by omega]
  have : ¬ ((n : Int) < 0) := by omega
  rw [decide_eq_false this]
  unfold Format.word
  rw [if_neg (by decide), Nat.min_eq_left (by omega)]
theorem read_is (n : Nat) (h : 1 ≤ n) (hk : n.log2 ≤ 52) : double.read (fl n) = .number false (n * 2 ^ (52 - n.log2)) ((n.log2 : Int) - 52) := by
  have hb := bounds n h hk
  have e := fl_is n h hk
  have hl : double.leastPlace = -1074 := by decide
  have hbn : double.binade = 2 ^ 52 := rfl
  have hin : double.infRung = 2047 * 2 ^ 52 := by decide
  have hs : double.signWeight = 2 ^ 63 := rfl
  unfold Format.read
  simp only [hl, hbn, hin, hs]
  generalize n * 2 ^ (52 - n.log2) = m at *
  generalize n.log2 = k at *
  have e1 : fl n / 2 ^ 63 = 0 := by omega
  have e2 : fl n % 2 ^ 63 = fl n := by omega
  rw [e1, e2, if_neg (by omega), if_pos (by omega)]
  have e3 : fl n / 2 ^ 52 = k + 1023 := by omega
  have e4 : fl n % 2 ^ 52 = m - 2 ^ 52 := by omega
  rw [e3, e4, show 2 ^ 52 + (m - 2 ^ 52) = m by omega, show (-1074 : Int) + ((k + 1023 - 1 : Nat) : Int) = (k : Int) - 52 by omega]
  rfl
theorem log_le (n : Nat) (h : n < 8589934592) : n.log2 ≤ 52 := by
  rcases Nat.eq_zero_or_pos n with h0 | h0
  · subst h0; decide
  · have := (Nat.log2_lt (n := n) (k := 33) (by omega)).2 (by omega)
    omega
theorem toI_big (n : Nat) (hn : n < 8589934592) : floatToIntVal .f64 (fl n) .i64 = some (n : Int) := by
  rcases Nat.eq_zero_or_pos n with h0 | h0
  · subst h0; exact toI 0 (by omega)
  have hk := log_le n hn
  have hd : FloatKind.f64.decode (fl n) = double.read (fl n) := rfl
  unfold floatToIntVal
  rw [hd, read_is n h0 hk]
  have ht : (Datum.number false (n * 2 ^ (52 - n.log2)) ((n.log2 : Int) - 52)).toInt .zero = some (n : Int) := by
    unfold Datum.toInt Datum.integral Toward.cut signed
    have hb := bounds n h0 hk
    have hlg : (n * 2 ^ (52 - n.log2)).log2 = 52 := (Nat.log2_eq_iff (by omega)).2 ⟨hb.1, hb.2⟩
    have e1 : ((n.log2 : Int) - 52).toNat = 0 := by omega
    have e2 : (-((n.log2 : Int) - 52)).toNat = 52 - n.log2 := by omega
    simp only [e1, e2, Nat.shiftLeft_zero, hlg]
    rw [Nat.min_eq_left (by omega), Nat.one_shiftLeft, Nat.mul_div_cancel _ (Nat.two_pow_pos _)]
    simp
  rw [ht]
  have hb : IntKind.i64.min = -9223372036854775808 ∧ IntKind.i64.max = 9223372036854775807 := by decide
  simp [hb.1, hb.2]
  omega
theorem ord_same (n : Nat) (hn : n < 8589934592) : FloatKind.f64.format.order (fl n) (fl n) = some .eq := by
  rcases Nat.eq_zero_or_pos n with h0 | h0
  · subst h0; exact ordE 0 (by omega)
  have hd : FloatKind.f64.format = double := rfl
  unfold Format.order
  rw [hd, read_is n h0 (log_le n hn)]
  simp [Datum.order, compare, compareOfLessAndEq]
theorem ord_zero (n : Nat) (hn : n < 8589934592) : (FloatKind.f64.format.order (fl n) 0 == some .gt || FloatKind.f64.format.order (fl n) 0 == some .eq) = true := by
  rcases Nat.eq_zero_or_pos n with h0 | h0
  · subst h0; exact ordG 0 (by omega)
  have hd : FloatKind.f64.format = double := rfl
  have h00 : double.read 0 = .number false 0 (-1074) := by decide
  have hk := log_le n hn
  have hb := bounds n h0 hk
  have e : FloatKind.f64.format.order (fl n) 0 = some .gt := by
    unfold Format.order
    rw [hd, read_is n h0 hk, h00]
    simp only [Datum.order, signed, Bool.false_eq_true, if_false]
    congr 1
    rw [Nat.zero_shiftLeft, Nat.shiftLeft_eq]
    have hp : 0 < n * 2 ^ (52 - n.log2) * 2 ^ (((n.log2 : Int) - 52 - min ((n.log2 : Int) - 52) (-1074)).toNat) := Nat.mul_pos (by omega) (Nat.two_pow_pos _)
    generalize n * 2 ^ (52 - n.log2) * 2 ^ (((n.log2 : Int) - 52 - min ((n.log2 : Int) - 52) (-1074)).toNat) = x at *
    simp only [compare, compareOfLessAndEq]
    rw [if_neg (by omega), if_neg (by omega)]
  rw [e]
  rfl
theorem ord_le (a b : Nat) (ha : 1 ≤ a) (hab : a ≤ b) (hb : b < 8589934592) : (FloatKind.f64.format.order (fl a) (fl b) == some .lt || FloatKind.f64.format.order (fl a) (fl b) == some .eq) = true := by
  have hd : FloatKind.f64.format = double := rfl
  have ka := log_le a (by omega)
  have kb := log_le b hb
  have e : FloatKind.f64.format.order (fl a) (fl b) = some .lt ∨ FloatKind.f64.format.order (fl a) (fl b) = some .eq := by
    unfold Format.order
    rw [hd, read_is a ha ka, read_is b (by omega) kb]
    simp only [Datum.order, signed, Bool.false_eq_true, if_false]
    generalize hm : min ((a.log2 : Int) - 52) ((b.log2 : Int) - 52) = m
    rw [Nat.shiftLeft_eq, Nat.shiftLeft_eq, Nat.mul_assoc, Nat.mul_assoc, ← Nat.pow_add, ← Nat.pow_add]
    have e1 : 52 - a.log2 + ((a.log2 : Int) - 52 - m).toNat = (-m).toNat := by omega
    have e2 : 52 - b.log2 + ((b.log2 : Int) - 52 - m).toNat = (-m).toNat := by omega
    rw [e1, e2]
    have hle : a * 2 ^ (-m).toNat ≤ b * 2 ^ (-m).toNat := Nat.mul_le_mul_right _ hab
    generalize a * 2 ^ (-m).toNat = x at *
    generalize b * 2 ^ (-m).toNat = y at *
    simp only [compare, compareOfLessAndEq]
    by_cases h : x = y
    · right; subst h; simp
    · left; rw [if_pos (by omega)]
  rcases e with e | e <;> rw [e] <;> rfl
theorem most_is : fl 4294967295 = 4751297606873776128 := by kernel_rfl
theorem ord_most (n : Nat) (hn : n ≤ 4294967295) : (FloatKind.f64.format.order (fl n) 4751297606873776128 == some .lt || FloatKind.f64.format.order (fl n) 4751297606873776128 == some .eq) = true := by
  rcases Nat.eq_zero_or_pos n with h0 | h0
  · subst h0; exact ordL 0 (by omega)
  · rw [← most_is]; exact ord_le n 4294967295 h0 hn (by omega)
end Go.Proofs.Ytoaoebkllcmanaa.TcF
