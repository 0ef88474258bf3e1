/- The own request of any command and lines, the winner of any two requests, and the line of any request are as defined: for all numbers. No condition. -/
import Derived.Test.YtdlfjibbkcglpaaPRequestTellsx1
namespace Go.Proofs.Ytdlfjibbkcglpaa.Pure
open Go.RowKit Go.Proofs.Ytdlfjibbkcglpaa.PRequestTells Go.Proofs.YtdlfjibbkcglpaaW.PrintWords Go.Proofs.YtdlfjibbkcglpaaW.PrintLast

theorem tells_alive : signalmanlaw16_alive.f = some true := by
  simp [signalmanlaw16_alive.f, request_Line.f, request_Wins.f, request_Of.f, mx]

theorem tells_local (a b c : Int) : ∃ r, request_Local.f a b c = some r ∧ signalmanref15_Local.f a b c = some r := by
  unfold request_Local.f signalmanref15_Local.f
  repeat' split
  all_goals exact ⟨_, rfl, rfl⟩

theorem tells_line (a : Int) : ∃ r, request_Line.f a = some r ∧ signalmanref15_Line.f a = some r := by
  unfold request_Line.f signalmanref15_Line.f
  repeat' split
  all_goals exact ⟨_, rfl, rfl⟩

theorem tells_of (a : Int) : ∃ r, request_Of.f a = some r ∧ signalmanref15_request.f a = some r := by
  unfold request_Of.f signalmanref15_request.f
  repeat' split
  all_goals exact ⟨_, rfl, rfl⟩

theorem tells_wins (a b : Int) : ∃ r, request_Wins.f a b = some r ∧ signalmanref15_Wins.f a b = some r := by
  obtain ⟨r, h1, h2⟩ := tells_of a
  obtain ⟨s, h3, h4⟩ := tells_of b
  refine ⟨mx r s, by simp [request_Wins.f, h1, h3], ?_⟩
  simp only [signalmanref15_Wins.f, h2, h4, Option.bind_some]
  unfold mx
  by_cases h : s > r
  · rw [if_pos h]; split <;> first | rfl | (simp; omega)
  · rw [if_neg h]; split <;> first | rfl | (simp; omega)

/-- The printed statement. -/
theorem RequestTells : signalmanlaw16_RequestTells.Pure := by
  intro a b c d e _ _ _ _ _
  obtain ⟨r, h1, h2⟩ := tells_local a b c
  obtain ⟨s, h3, h4⟩ := tells_wins d e
  obtain ⟨t, h5, h6⟩ := tells_line d
  simp [signalmanlaw16_RequestTells.f, tells_alive, h1, h2, h3, h4, h5, h6]

end Go.Proofs.Ytdlfjibbkcglpaa.Pure
