/- The most octets of a frame are enough for the longest message even if each octet is escaped, and a longer message needs no fewer: for every size and octet. No condition. -/
import Derived.Test.YtckfkmgfilfgfaaPShapeFitsx3
namespace Go.Proofs.Ytckfkmgfilfgfaa.Pure
open Go.RowKit Go.Proofs.Ytckfkmgfilfgfaa.PShapeFits Go.Proofs.YtckfkmgfilfgfaaW.PrintWords Go.Proofs.YtckfkmgfilfgfaaW.PrintLast

theorem fits_alive (k : Nat) : signalmanlaw19_alive.f (k + 4) = some true := by
  unfold signalmanlaw19_alive.f
  simp [shape_Most.f, mx, mn, signalmanlaw19_good.f, shape_Check.f, shape_Check.j0, shape_Check.j1, shape_Check.j2, shape_within.f, signalmanlaw19_num.f, wrap64]

/-- The printed statement. -/
theorem ShapeFits : signalmanlaw19_ShapeFits.Pure := by
  intro a b ha hb
  refine ⟨4, ?_⟩
  unfold signalmanlaw19_ShapeFits.f
  rw [fits_alive 0]
  simp only [Option.bind_some, if_true]
  by_cases h1 : a < 1
  · rw [if_pos h1]; simp [signalmanlaw19_ShapeFits.j0]
  · rw [if_neg h1]
    by_cases h2 : a > 1000
    · simp [signalmanlaw19_ShapeFits.j0, h2]
    · have h2' : a ≤ 1000 := by omega
      simp only [signalmanlaw19_ShapeFits.j0, h2, decide_false, Bool.false_eq_true, if_false, shape_Most.f, Option.bind_some]
      have e1 : wrap64 (a + 1) = a + 1 := by unfold wrap64; omega
      have e2 : wrap64 ((wrap64 (2 * (wrap64 ((wrap64 (11 + a)) + 4)))) + 2) = 2 * (a + 15) + 2 := by unfold wrap64; omega
      rw [e1, e2]
      rw [if_pos (by unfold mx mn; split <;> split <;> omega)]
      simp only [Option.some.injEq, decide_eq_true_eq]
      unfold mx mn
      repeat' split
      all_goals omega

end Go.Proofs.Ytckfkmgfilfgfaa.Pure
