/- A greater rate and a longer message: plain law. -/
import Derived.Test.YtbcgihkmgmbomaaK
import Derived.Test.YtbcgihkmgmbomaaQChkGrows
import Derived.Test.YtbcgihkmgmbomaaUps
namespace Go.Proofs.Ytbcgihkmgmbomaa.QPureGrows
open Go.RowKit Go.Proofs.Ytbcgihkmgmbomaa.PBoundGrows Go.Proofs.YtbcgihkmgmbomaaW.PrintWords Go.Proofs.YtbcgihkmgmbomaaW.PrintLast Go.Proofs.YtbcgihkmgmbomaaW.PrintMore
set_option linter.unusedVariables false
set_option linter.unusedSimpArgs false
theorem w_id (x : Int) (h1 : -9223372036854775808 ≤ x) (h2 : x ≤ 9223372036854775807) : wrap64 x = x := by
  simp only [wrap64, IntKind.wrap_i64]
  omega
theorem wf_bounds {x : Int} (h : (Lit.int .i64 x).wf = true) : -9223372036854775808 ≤ x ∧ x ≤ 9223372036854775807 := by
  have h1 : IntKind.i64.min = -9223372036854775808 := by decide
  have h2 : IntKind.i64.max = 9223372036854775807 := by decide
  simp [Lit.wf, h1, h2] at h
  omega
theorem alive_eq : signalmanlaw23_alive.f 5 = some true := by decide +kernel
open Go.Proofs.Ytbcgihkmgmbomaa.QChkGrows Go.Proofs.Ytbcgihkmgmbomaa.Ups
theorem alive_ok (w : World) : Calls Try.prog 13 #[] w fun e w' => e = .returned (.bool true) ∧ Below w.heap.size w w' := signalmanlaw23_alive.calls 5 true w alive_eq
theorem steps_up (o r : Int) (o1 : 0 ≤ o) (o2 : o ≤ 1099511627776) (r1 : 1 ≤ r) : bound_Steps.f o r = some (stp o r) := by
  have e1 : mx 0 o = o := by unfold mx; split <;> omega
  have e2 : mx 1 r = r := by unfold mx; split <;> omega
  have q0 : 0 ≤ o / r := Int.ediv_nonneg (by omega) (by omega)
  have q1 : o / r ≤ o := Int.ediv_le_self _ (by omega)
  unfold bound_Steps.f stp
  rw [e1, e2, if_neg (by omega), w_id (o / r) (by omega) (by omega)]
  by_cases h : o % r > 0
  · rw [if_pos h, if_pos h, w_id _ (by omega) (by omega)]
  · rw [if_neg h, if_neg h, Int.add_zero]
theorem steps_some (o r : Int) : ∃ n, bound_Steps.f o r = some n := by
  unfold bound_Steps.f
  rw [if_neg (by unfold mx; split <;> omega)]
  split <;> exact ⟨_, rfl⟩
section
variable (a0 a1 a2 a3 a4 a5 a6 a7 a8 a9 a10 a11 a12 a13 : Int) (a14 a15 : Bool)
def lat : Int := bif ok a0 a1 a2 a3 a4 a5 a6 a7 a8 a9 a10 a11 a12 a13 a14 a15 then stp (2 * most a9 + 96) a11 + 4 else 0
def settle : Int := bif ok a0 a1 a2 a3 a4 a5 a6 a7 a8 a9 a10 a11 a12 a13 a14 a15 then a7 * (5 + a13) + a5 + a6 + 8 * stp a10 a11 + lat a0 a1 a2 a3 a4 a5 a6 a7 a8 a9 a10 a11 a12 a13 a14 a15 + 8 else 0
theorem most_le (x : Int) : 36 ≤ most x ∧ most x ≤ 2034 := by
  unfold most
  repeat' split
  all_goals omega
theorem wi_true {x l h : Int} (e : wi x l h = true) : l ≤ x ∧ x ≤ h := by
  unfold wi at e
  exact of_decide_eq_true e
/-- What a link that can be is known to be. -/
theorem ok_out (h : ok a0 a1 a2 a3 a4 a5 a6 a7 a8 a9 a10 a11 a12 a13 a14 a15 = true) : (0 ≤ a5 ∧ a5 ≤ 1048576) ∧ (1 ≤ a6 ∧ a6 ≤ 1048576) ∧ (1 ≤ a7 ∧ a7 ≤ 65536) ∧ (1 ≤ a9 ∧ a9 ≤ 1000) ∧ (36 ≤ a10 ∧ a10 ≤ 1048576) ∧ (1 ≤ a11 ∧ a11 ≤ 4096) ∧ (1 ≤ a13 ∧ a13 ≤ 16) := by
  simp only [ok, p1, p2, p3, Bool.and_eq_true] at h
  obtain ⟨⟨⟨⟨h0, ⟨⟨⟨⟨h3, h4⟩, h5⟩, h6⟩, h7⟩⟩, ⟨⟨⟨⟨h2, h8⟩, h9⟩, h11⟩, h10⟩⟩, ⟨h12, h13⟩⟩, hk⟩ := h
  have e10 := wi_true h10
  have em := most_le a9
  exact ⟨wi_true h5, wi_true h6, wi_true h7, wi_true h9, ⟨by omega, e10.2⟩, wi_true h11, wi_true h13⟩
theorem lat_eq : bound_Latency.f 5 a0 a1 a2 a3 a4 a5 a6 a7 a8 a9 a10 a11 a12 a13 a14 a15 = some (lat a0 a1 a2 a3 a4 a5 a6 a7 a8 a9 a10 a11 a12 a13 a14 a15) := by
  simp only [bound_Latency.f, check_eq, most_eq, Option.bind_some, lat]
  cases hok : ok a0 a1 a2 a3 a4 a5 a6 a7 a8 a9 a10 a11 a12 a13 a14 a15
  · simp
  · have h := ok_out a0 a1 a2 a3 a4 a5 a6 a7 a8 a9 a10 a11 a12 a13 a14 a15 hok
    have em := most_le a9
    have u1 := up_nn (2 * most a9 + 96) a11 (by omega) (by omega)
    have u2 := up_le (2 * most a9 + 96) a11 (by omega) (by omega)
    simp only [cond_true, if_true]
    rw [w_id (2 * most a9) (by omega) (by omega), w_id (2 * most a9 + 96) (by omega) (by omega), steps_up _ _ (by omega) (by omega) (by omega)]
    simp only [Option.bind_some]
    rw [w_id _ (by omega) (by omega)]
theorem settle_eq : bound_Settle.f 5 a0 a1 a2 a3 a4 a5 a6 a7 a8 a9 a10 a11 a12 a13 a14 a15 = some (settle a0 a1 a2 a3 a4 a5 a6 a7 a8 a9 a10 a11 a12 a13 a14 a15) := by
  simp only [bound_Settle.f, check_eq, lat_eq, Option.bind_some, settle]
  cases hok : ok a0 a1 a2 a3 a4 a5 a6 a7 a8 a9 a10 a11 a12 a13 a14 a15
  · obtain ⟨n, hn⟩ := steps_some a10 a11
    simp
  · have h := ok_out a0 a1 a2 a3 a4 a5 a6 a7 a8 a9 a10 a11 a12 a13 a14 a15 hok
    have em := most_le a9
    have u1 := up_nn (2 * most a9 + 96) a11 (by omega) (by omega)
    have u2 := up_le (2 * most a9 + 96) a11 (by omega) (by omega)
    have u3 := up_nn a10 a11 (by omega) (by omega)
    have u4 := up_le a10 a11 (by omega) (by omega)
    have p0 : 0 ≤ a7 * (5 + a13) := Int.mul_nonneg (by omega) (by omega)
    have p1 : a7 * (5 + a13) ≤ 65536 * (5 + a13) := Int.mul_le_mul_of_nonneg_right (by omega) (by omega)
    have hl : lat a0 a1 a2 a3 a4 a5 a6 a7 a8 a9 a10 a11 a12 a13 a14 a15 = stp (2 * most a9 + 96) a11 + 4 := by unfold lat; rw [hok]; rfl
    simp only [cond_true, if_true]
    rw [steps_up _ _ (by omega) (by omega) (by omega)]
    simp only [Option.bind_some]
    rw [hl]
    generalize stp (2 * most a9 + 96) a11 = x at *
    generalize stp a10 a11 = y at *
    rw [w_id (5 + a13) (by omega) (by omega)]
    generalize a7 * (5 + a13) = z at *
    rw [w_id z (by omega) (by omega), w_id (z + a5) (by omega) (by omega), w_id (z + a5 + a6) (by omega) (by omega), w_id (8 * y) (by omega) (by omega), w_id (z + a5 + a6 + 8 * y) (by omega) (by omega), w_id (z + a5 + a6 + 8 * y + (x + 4)) (by omega) (by omega), w_id _ (by omega) (by omega)]
theorem lat_ok (h : lat a0 a1 a2 a3 a4 a5 a6 a7 a8 a9 a10 a11 a12 a13 a14 a15 ≠ 0) : ok a0 a1 a2 a3 a4 a5 a6 a7 a8 a9 a10 a11 a12 a13 a14 a15 = true := by
  cases hok : ok a0 a1 a2 a3 a4 a5 a6 a7 a8 a9 a10 a11 a12 a13 a14 a15
  · exact absurd (by unfold lat; rw [hok]; rfl) h
  · rfl
/-- The law. -/
theorem law (m : Int) (m0 : 0 ≤ m) (hc : lat a0 a1 a2 a3 a4 a5 a6 a7 a8 a9 a10 a11 a12 a13 a14 a15 ≠ 0) (hd : lat a0 a1 a2 a3 a4 a5 a6 a7 a8 a9 a10 (a11 + m) a12 a13 a14 a15 ≠ 0) (he : lat a0 a1 a2 a3 a4 a5 a6 a7 a8 (a9 + m) a10 a11 a12 a13 a14 a15 ≠ 0) :
    lat a0 a1 a2 a3 a4 a5 a6 a7 a8 a9 a10 (a11 + m) a12 a13 a14 a15 ≤ lat a0 a1 a2 a3 a4 a5 a6 a7 a8 a9 a10 a11 a12 a13 a14 a15 ∧ lat a0 a1 a2 a3 a4 a5 a6 a7 a8 a9 a10 a11 a12 a13 a14 a15 ≤ lat a0 a1 a2 a3 a4 a5 a6 a7 a8 (a9 + m) a10 a11 a12 a13 a14 a15 ∧ settle a0 a1 a2 a3 a4 a5 a6 a7 a8 a9 a10 (a11 + m) a12 a13 a14 a15 ≤ settle a0 a1 a2 a3 a4 a5 a6 a7 a8 a9 a10 a11 a12 a13 a14 a15 ∧ lat a0 a1 a2 a3 a4 a5 a6 a7 a8 a9 a10 a11 a12 a13 a14 a15 < settle a0 a1 a2 a3 a4 a5 a6 a7 a8 a9 a10 a11 a12 a13 a14 a15 := by
  have oc := lat_ok a0 a1 a2 a3 a4 a5 a6 a7 a8 a9 a10 a11 a12 a13 a14 a15 hc
  have od := lat_ok a0 a1 a2 a3 a4 a5 a6 a7 a8 a9 a10 (a11 + m) a12 a13 a14 a15 hd
  have oe := lat_ok a0 a1 a2 a3 a4 a5 a6 a7 a8 (a9 + m) a10 a11 a12 a13 a14 a15 he
  have h := ok_out a0 a1 a2 a3 a4 a5 a6 a7 a8 a9 a10 a11 a12 a13 a14 a15 oc
  have h2 := ok_out a0 a1 a2 a3 a4 a5 a6 a7 a8 (a9 + m) a10 a11 a12 a13 a14 a15 oe
  have em := most_le a9
  have mm : most a9 ≤ most (a9 + m) := by
    unfold most
    repeat' split
    all_goals omega
  have v1 := up_anti (2 * most a9 + 96) a11 (a11 + m) (by omega) (by omega) (by omega)
  have v2 := up_mono (2 * most a9 + 96) (2 * most (a9 + m) + 96) a11 (by omega) (by omega) (by omega)
  have v3 := up_anti a10 a11 (a11 + m) (by omega) (by omega) (by omega)
  have v4 := up_nn a10 a11 (by omega) (by omega)
  have p0 : 0 ≤ a7 * (5 + a13) := Int.mul_nonneg (by omega) (by omega)
  simp only [lat, settle, oc, od, oe, cond_true]
  generalize a7 * (5 + a13) = z at *
  refine ⟨by omega, by omega, by omega, by omega⟩
end
theorem latc (a0 a1 a2 a3 a4 a5 a6 a7 a8 a9 a10 a11 a12 a13 : Int) (a14 a15 : Bool) (w : World) : Calls Try.prog 16 #[.agg #[.int .i64 a0, .int .i64 a1, .int .i64 a2, .int .i64 a3, .int .i64 a4, .int .i64 a5, .int .i64 a6, .int .i64 a7, .int .i64 a8, .int .i64 a9, .int .i64 a10, .int .i64 a11, .int .i64 a12, .int .i64 a13, .bool a14, .bool a15]] w fun e w' => e = .returned (.int .i64 (lat a0 a1 a2 a3 a4 a5 a6 a7 a8 a9 a10 a11 a12 a13 a14 a15)) ∧ Below w.heap.size w w' :=
  bound_Latency.calls 5 _ _ _ _ _ _ _ _ _ _ _ _ _ _ _ _ _ w (lat_eq ..)
theorem settlec (a0 a1 a2 a3 a4 a5 a6 a7 a8 a9 a10 a11 a12 a13 : Int) (a14 a15 : Bool) (w : World) : Calls Try.prog 18 #[.agg #[.int .i64 a0, .int .i64 a1, .int .i64 a2, .int .i64 a3, .int .i64 a4, .int .i64 a5, .int .i64 a6, .int .i64 a7, .int .i64 a8, .int .i64 a9, .int .i64 a10, .int .i64 a11, .int .i64 a12, .int .i64 a13, .bool a14, .bool a15]] w fun e w' => e = .returned (.int .i64 (settle a0 a1 a2 a3 a4 a5 a6 a7 a8 a9 a10 a11 a12 a13 a14 a15)) ∧ Below w.heap.size w w' :=
  bound_Settle.calls 5 _ _ _ _ _ _ _ _ _ _ _ _ _ _ _ _ _ w (settle_eq ..)

end Go.Proofs.Ytbcgihkmgmbomaa.QPureGrows
