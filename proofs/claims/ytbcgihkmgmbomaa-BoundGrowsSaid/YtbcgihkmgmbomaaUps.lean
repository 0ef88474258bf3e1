/- Steps of a number of octets at a rate: plain law. -/
import Derived.Test.YtbcgihkmgmbomaaK
namespace Go.Proofs.Ytbcgihkmgmbomaa.Ups
set_option linter.unusedVariables false
def stp (o r : Int) : Int := o / r + (if o % r > 0 then 1 else 0)
theorem up_low (o r : Int) (ho : 0 ≤ o) (hr : 1 ≤ r) : (stp o r - 1) * r < o := by
  have d1 := Int.emod_add_mul_ediv o r
  have m0 : 0 ≤ o % r := Int.emod_nonneg _ (by omega)
  have c1 : o / r * r = r * (o / r) := Int.mul_comm _ _
  unfold stp
  by_cases h : o % r > 0
  · rw [if_pos h, show o / r + 1 - 1 = o / r by omega]
    omega
  · rw [if_neg h, Int.add_zero, Int.sub_mul, Int.one_mul]
    omega
theorem up_high (o r : Int) (ho : 0 ≤ o) (hr : 1 ≤ r) : o ≤ stp o r * r := by
  have d1 := Int.emod_add_mul_ediv o r
  have m1 : o % r < r := Int.emod_lt_of_pos _ (by omega)
  have m0 : 0 ≤ o % r := Int.emod_nonneg _ (by omega)
  have c1 : o / r * r = r * (o / r) := Int.mul_comm _ _
  unfold stp
  by_cases h : o % r > 0
  · rw [if_pos h, Int.add_mul, Int.one_mul]
    omega
  · rw [if_neg h, Int.add_zero]
    omega
theorem up_nn (o r : Int) (ho : 0 ≤ o) (hr : 1 ≤ r) : 0 ≤ stp o r := by
  have q0 : 0 ≤ o / r := Int.ediv_nonneg ho (by omega)
  unfold stp
  split <;> omega
theorem up_le (o r : Int) (ho : 0 ≤ o) (hr : 1 ≤ r) : stp o r ≤ o := by
  have h := up_low o r ho hr
  have h0 := up_nn o r ho hr
  by_cases hz : stp o r = 0
  · omega
  · have : (stp o r - 1) * 1 ≤ (stp o r - 1) * r := Int.mul_le_mul_of_nonneg_left hr (by omega)
    omega
/-- A greater rate makes it no longer. -/
theorem up_anti (o r s : Int) (ho : 0 ≤ o) (hr : 1 ≤ r) (h : r ≤ s) : stp o s ≤ stp o r := by
  have a := up_low o s ho (by omega)
  have b := up_high o r ho hr
  have c : stp o r * r ≤ stp o r * s := Int.mul_le_mul_of_nonneg_left h (up_nn o r ho hr)
  have d : stp o s - 1 < stp o r := Int.lt_of_mul_lt_mul_right (Int.lt_of_lt_of_le a (Int.le_trans b c)) (by omega)
  omega
/-- A longer message makes it none shorter. -/
theorem up_mono (o p r : Int) (ho : 0 ≤ o) (hr : 1 ≤ r) (h : o ≤ p) : stp o r ≤ stp p r := by
  have a := up_low o r ho hr
  have b := up_high p r (by omega) hr
  have d : stp o r - 1 < stp p r := Int.lt_of_mul_lt_mul_right (Int.lt_of_lt_of_le a (Int.le_trans h b)) (by omega)
  omega
end Go.Proofs.Ytbcgihkmgmbomaa.Ups
