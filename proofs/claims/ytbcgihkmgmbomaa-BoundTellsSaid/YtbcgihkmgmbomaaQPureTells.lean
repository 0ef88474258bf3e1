/- Both accounts of the bounds come to the same: plain law. -/
import Derived.Test.YtbcgihkmgmbomaaK
import Derived.Test.YtbcgihkmgmbomaaQTellsW
import Derived.Test.YtbcgihkmgmbomaaQChkTells
namespace Go.Proofs.Ytbcgihkmgmbomaa.QPureTells
open Go.RowKit Go.Proofs.Ytbcgihkmgmbomaa.PBoundTells Go.Proofs.YtbcgihkmgmbomaaW.PrintWords Go.Proofs.YtbcgihkmgmbomaaW.PrintLast Go.Proofs.YtbcgihkmgmbomaaW.PrintMore
set_option linter.unusedVariables false
set_option linter.unusedSimpArgs false
theorem w_id (x : Int) (h1 : -9223372036854775808 ≤ x) (h2 : x ≤ 9223372036854775807) : wrap64 x = x := by
  simp only [wrap64, IntKind.wrap_i64]
  omega
theorem wf_bounds {x : Int} (h : (Lit.int .i64 x).wf = true) : -9223372036854775808 ≤ x ∧ x ≤ 9223372036854775807 := by
  have h1 : IntKind.i64.min = -9223372036854775808 := by decide
  have h2 : IntKind.i64.max = 9223372036854775807 := by decide
  simp [Lit.wf, h1, h2] at h
  omega
theorem alive_eq : signalmanlaw23_alive.f 5 = some true := by decide +kernel
open Go.Proofs.Ytbcgihkmgmbomaa.QChkTells
theorem steps_j (k : Nat) (o r : Int) (ho : 0 ≤ o) (hr : 1 ≤ r) : (if o.tmod r > 0 then some (wrap64 (wrap64 (o.tdiv r) + 1)) else some (wrap64 (o.tdiv r))) = (if o % r > 0 then some (wrap64 (wrap64 (o / r) + 1)) else some (wrap64 (o / r))) := by
  rw [Int.tdiv_eq_ediv_of_nonneg ho, Int.tmod_eq_emod_of_nonneg ho]
theorem mx0 (o : Int) : mx 0 o = if o < 0 then 0 else o := by
  unfold mx
  repeat' split
  all_goals omega
theorem mx1 (o : Int) : mx 1 o = if o < 1 then 1 else o := by
  unfold mx
  repeat' split
  all_goals omega
theorem steps_eq (k : Nat) (o r : Int) : signalmanref20_Steps.f (k + 1) o r = bound_Steps.f o r := by
  unfold signalmanref20_Steps.f bound_Steps.f signalmanref20_Steps.j0
  rw [mx0, mx1]
  by_cases h1 : o < 0 <;> by_cases h2 : r < 1
  · simp only [if_pos h1, if_pos h2]
    rw [if_neg (show ¬ (1 : Int) = 0 by omega)]
    exact steps_j k _ _ (by omega) (by omega)
  · simp only [if_pos h1, if_neg h2]
    rw [if_neg (show ¬ r = 0 by omega), if_neg (show ¬ r = 0 by omega)]
    exact steps_j k _ _ (by omega) (by omega)
  · simp only [if_neg h1, if_pos h2]
    rw [if_neg (show ¬ (1 : Int) = 0 by omega)]
    exact steps_j k _ _ (by omega) (by omega)
  · simp only [if_neg h1, if_neg h2]
    rw [if_neg (show ¬ r = 0 by omega), if_neg (show ¬ r = 0 by omega)]
    exact steps_j k _ _ (by omega) (by omega)
theorem steps_some (o r : Int) : ∃ n, bound_Steps.f o r = some n := by
  unfold bound_Steps.f
  rw [if_neg (by rw [mx1]; split <;> omega)]
  split <;> exact ⟨_, rfl⟩
section
variable (a0 a1 a2 a3 a4 a5 a6 a7 a8 a9 a10 a11 a12 a13 : Int) (a14 a15 : Bool)
def lat : Option Int := bif ok a0 a1 a2 a3 a4 a5 a6 a7 a8 a9 a10 a11 a12 a13 a14 a15 then (bound_Steps.f (wrap64 (wrap64 (2 * most a9) + 96)) a11).bind fun t => some (wrap64 (t + 4)) else some 0
theorem lat_eq : bound_Latency.f 5 a0 a1 a2 a3 a4 a5 a6 a7 a8 a9 a10 a11 a12 a13 a14 a15 = lat a0 a1 a2 a3 a4 a5 a6 a7 a8 a9 a10 a11 a12 a13 a14 a15 := by
  simp only [bound_Latency.f, check_eq, most_eq, Option.bind_some, lat]
  cases ok a0 a1 a2 a3 a4 a5 a6 a7 a8 a9 a10 a11 a12 a13 a14 a15 <;> simp
theorem rlat_eq : signalmanref20_Latency.f 5 a0 a1 a2 a3 a4 a5 a6 a7 a8 a9 a10 a11 a12 a13 a14 a15 = lat a0 a1 a2 a3 a4 a5 a6 a7 a8 a9 a10 a11 a12 a13 a14 a15 := by
  simp only [signalmanref20_Latency.f, rcheck_eq, rmost_eq, Option.bind_some, lat, steps_eq 4]
  cases ok a0 a1 a2 a3 a4 a5 a6 a7 a8 a9 a10 a11 a12 a13 a14 a15 <;> simp
theorem lat_some : ∃ n, lat a0 a1 a2 a3 a4 a5 a6 a7 a8 a9 a10 a11 a12 a13 a14 a15 = some n := by
  unfold lat
  obtain ⟨n, hn⟩ := steps_some (wrap64 (wrap64 (2 * most a9) + 96)) a11
  rw [hn]
  cases ok a0 a1 a2 a3 a4 a5 a6 a7 a8 a9 a10 a11 a12 a13 a14 a15 <;> exact ⟨_, rfl⟩
theorem settle_eq : ∃ n, bound_Settle.f 5 a0 a1 a2 a3 a4 a5 a6 a7 a8 a9 a10 a11 a12 a13 a14 a15 = some n ∧ signalmanref20_Settle.f 5 a0 a1 a2 a3 a4 a5 a6 a7 a8 a9 a10 a11 a12 a13 a14 a15 = some n := by
  obtain ⟨n, hn⟩ := steps_some a10 a11
  obtain ⟨m, hm⟩ := lat_some a0 a1 a2 a3 a4 a5 a6 a7 a8 a9 a10 a11 a12 a13 a14 a15
  simp only [bound_Settle.f, signalmanref20_Settle.f, check_eq, rcheck_eq, Option.bind_some, steps_eq 4, lat_eq, rlat_eq, hn, hm]
  rw [Int.add_comm a13 5]
  cases ok a0 a1 a2 a3 a4 a5 a6 a7 a8 a9 a10 a11 a12 a13 a14 a15 <;> simp
end
theorem walk (a0 a1 a2 a3 a4 a5 a6 a7 a8 a9 a10 a11 a12 a13 : Int) (a14 a15 : Bool) (o r : Int) (w : World) (_h1 : (Lit.int .i64 o).wf = true) (_h2 : (Lit.int .i64 r).wf = true) :
    Calls Try.prog 5 #[.agg #[.int .i64 a0, .int .i64 a1, .int .i64 a2, .int .i64 a3, .int .i64 a4, .int .i64 a5, .int .i64 a6, .int .i64 a7, .int .i64 a8, .int .i64 a9, .int .i64 a10, .int .i64 a11, .int .i64 a12, .int .i64 a13, .bool a14, .bool a15], .int .i64 o, .int .i64 r] w fun e w' => e = .returned (.bool true) ∧ Below w.heap.size w w' := by
  obtain ⟨n, hn⟩ := steps_some o r
  obtain ⟨m, hm⟩ := lat_some a0 a1 a2 a3 a4 a5 a6 a7 a8 a9 a10 a11 a12 a13 a14 a15
  obtain ⟨s, hs, hs'⟩ := settle_eq a0 a1 a2 a3 a4 a5 a6 a7 a8 a9 a10 a11 a12 a13 a14 a15
  have := tells_ok 5 a0 a1 a2 a3 a4 a5 a6 a7 a8 a9 a10 a11 a12 a13 a14 a15 o r n n m m s s w alive_eq hn ((steps_eq 4 o r).trans hn) ((lat_eq ..).trans hm) ((rlat_eq ..).trans hm) hs hs' rfl rfl
  refine this.mono ?_
  rintro e w' ⟨rfl, hb⟩
  exact ⟨by simp, hb⟩

end Go.Proofs.Ytbcgihkmgmbomaa.QPureTells
