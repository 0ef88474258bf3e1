/- So many steps are enough, and one less are not: plain law. -/
import Derived.Test.YtbcgihkmgmbomaaK
import Derived.Test.YtbcgihkmgmbomaaQBoundStepsx3
namespace Go.Proofs.Ytbcgihkmgmbomaa.QPureSteps
open Go.RowKit Go.Proofs.Ytbcgihkmgmbomaa.PBoundSteps Go.Proofs.YtbcgihkmgmbomaaW.PrintWords Go.Proofs.YtbcgihkmgmbomaaW.PrintLast Go.Proofs.YtbcgihkmgmbomaaW.PrintMore
set_option linter.unusedVariables false
set_option linter.unusedSimpArgs false
theorem w_id (x : Int) (h1 : -9223372036854775808 ≤ x) (h2 : x ≤ 9223372036854775807) : wrap64 x = x := by
  simp only [wrap64, IntKind.wrap_i64]
  omega
theorem wf_bounds {x : Int} (h : (Lit.int .i64 x).wf = true) : -9223372036854775808 ≤ x ∧ x ≤ 9223372036854775807 := by
  have h1 : IntKind.i64.min = -9223372036854775808 := by decide
  have h2 : IntKind.i64.max = 9223372036854775807 := by decide
  simp [Lit.wf, h1, h2] at h
  omega
theorem alive_eq : signalmanlaw23_alive.f 5 = some true := by decide +kernel

theorem steps_val (o r : Int) (o1 : 1 ≤ o) (o2 : o ≤ 1099511627776) (r1 : 1 ≤ r) (r2 : r ≤ 1048576) : ∃ n, bound_Steps.f o r = some n ∧ n ≥ 1 ∧ wrap64 (n * r) ≥ o ∧ wrap64 (wrap64 (n - 1) * r) < o := by
  have e1 : mx 0 o = o := by unfold mx; split <;> omega
  have e2 : mx 1 r = r := by unfold mx; split <;> omega
  have d1 := Int.emod_add_mul_ediv o r
  have m0 : 0 ≤ o % r := Int.emod_nonneg _ (by omega)
  have m1 : o % r < r := Int.emod_lt_of_pos _ (by omega)
  have q0 : 0 ≤ o / r := Int.ediv_nonneg (by omega) (by omega)
  have q1 : o / r ≤ o := Int.ediv_le_self _ (by omega)
  unfold bound_Steps.f
  rw [e1, e2, if_neg (by omega)]
  generalize o / r = q at *
  generalize o % r = m at *
  have c1 : q * r = r * q := Int.mul_comm _ _
  have c2 : (q + 1) * r = q * r + r := by rw [Int.add_mul, Int.one_mul]
  have c3 : (q - 1) * r = q * r - r := by rw [Int.sub_mul, Int.one_mul]
  have c4 : q = 0 → q * r = 0 := fun h => by rw [h, Int.zero_mul]
  rw [w_id q (by omega) (by omega)]
  by_cases h : m > 0
  · rw [if_pos h, w_id (q + 1) (by omega) (by omega)]
    refine ⟨_, rfl, by omega, ?_, ?_⟩
    · rw [c2, w_id _ (by omega) (by omega)]
      omega
    · rw [show q + 1 - 1 = q by omega, w_id q (by omega) (by omega), w_id _ (by omega) (by omega)]
      omega
  · rw [if_neg h]
    have : 1 ≤ q := by
      by_cases hq : q = 0
      · have := c4 hq
        omega
      · omega
    refine ⟨_, rfl, by omega, ?_, ?_⟩
    · rw [w_id _ (by omega) (by omega)]
      omega
    · rw [w_id (q - 1) (by omega) (by omega), c3, w_id _ (by omega) (by omega)]
      omega
theorem law : signalmanlaw23_BoundSteps.Pure := by
  intro a0 a1 w0 w1
  refine ⟨5, ?_⟩
  simp only [signalmanlaw23_BoundSteps.f, alive_eq, Option.bind_some, if_true]
  by_cases h1 : a0 < 1
  · rw [if_pos h1]
  rw [if_neg h1]
  by_cases h2 : a0 > 1099511627776
  · rw [if_pos h2]
  rw [if_neg h2]
  by_cases h3 : a1 < 1
  · rw [if_pos h3]
  rw [if_neg h3]
  by_cases h4 : a1 > 1048576
  · rw [if_pos h4]
  rw [if_neg h4]
  obtain ⟨n, hn, g1, g2, g3⟩ := steps_val a0 a1 (by omega) (by omega) (by omega) (by omega)
  rw [hn]
  simp only [Option.bind_some]
  rw [if_pos g1, if_pos g2, decide_eq_true g3]
theorem walk (a0 a1 : Int) (w : World) (w0 : (Lit.int .i64 a0).wf = true) (w1 : (Lit.int .i64 a1).wf = true) :
    Calls Try.prog 4 #[.int .i64 a0, .int .i64 a1] w fun e w' => e = .returned (.bool true) ∧ Below w.heap.size w w' :=
  signalmanlaw23_BoundSteps.walk law a0 a1 w w0 w1

end Go.Proofs.Ytbcgihkmgmbomaa.QPureSteps
