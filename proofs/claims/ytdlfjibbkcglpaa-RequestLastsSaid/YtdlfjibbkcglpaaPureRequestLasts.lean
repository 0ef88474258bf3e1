/- A request that wins over another one wins over all that one wins over: for every three numbers. No condition. -/
import Derived.Test.YtdlfjibbkcglpaaPRequestLastsx1
namespace Go.Proofs.Ytdlfjibbkcglpaa.Pure
open Go.RowKit Go.Proofs.Ytdlfjibbkcglpaa.PRequestLasts Go.Proofs.YtdlfjibbkcglpaaW.PrintWords Go.Proofs.YtdlfjibbkcglpaaW.PrintLast

theorem lasts_alive : signalmanlaw16_alive.f = some true := by
  simp [signalmanlaw16_alive.f, request_Line.f, request_Wins.f, request_Of.f, mx]

theorem lasts_wins (a b : Int) (h1 : ¬ a < 0) (h2 : ¬ a > 8) (h3 : ¬ b < 0) (h4 : ¬ b > 8) : request_Wins.f a b = some (mx a b) := by
  simp only [request_Wins.f, request_Of.f, if_neg h1, if_neg h2, if_neg h3, if_neg h4, Option.bind_some]

/-- The printed statement. -/
theorem RequestLasts : signalmanlaw16_RequestLasts.Pure := by
  intro a b c _ _ _
  refine ⟨1, ?_⟩
  unfold signalmanlaw16_RequestLasts.f
  rw [lasts_alive]
  simp only [Option.bind_some, if_true]
  repeat' split
  all_goals first | (simp [signalmanlaw16_RequestLasts.j0]; done) | skip
  by_cases h : c > 8
  · simp [signalmanlaw16_RequestLasts.j0, h]
  · simp only [signalmanlaw16_RequestLasts.j0, h, decide_false, Bool.false_eq_true, if_false]
    rw [lasts_wins a b (by assumption) (by assumption) (by assumption) (by assumption), lasts_wins b c (by assumption) (by assumption) (by assumption) (by assumption), lasts_wins a c (by assumption) (by assumption) (by assumption) (by assumption)]
    simp only [Option.bind_some]
    unfold mx
    repeat' split
    all_goals first | rfl | omega | (simp; done) | (simp; omega)

end Go.Proofs.Ytdlfjibbkcglpaa.Pure
