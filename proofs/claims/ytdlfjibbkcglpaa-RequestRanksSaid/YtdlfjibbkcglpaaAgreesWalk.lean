/- Both ends select one line: the winner of two requests is the same either way round, for every three numbers. No condition. -/
import Derived.Test.YtdlfjibbkcglpaaPRequestTellsx1
namespace Go.Proofs.Ytdlfjibbkcglpaa.Agrees
open Go.RowKit Go.Proofs.Ytdlfjibbkcglpaa.PRequestTells Go.Proofs.YtdlfjibbkcglpaaW.PrintWords Go.Proofs.YtdlfjibbkcglpaaW.PrintLast Go.Proofs.YtdlfjibbkcglpaaW.PrintMore

theorem alive_ok (w : World) : Calls Try.prog 7 #[] w fun e w' => e = .returned (.bool true) ∧ Below w.heap.size w w' :=
  signalmanlaw16_alive.calls true w (by simp [signalmanlaw16_alive.f, request_Line.f, request_Wins.f, request_Of.f, mx])

def maxOf (a b : Int) : Int := max a b
def lineOf (a : Int) : Int := if 1 ≤ a ∧ a ≤ 6 then 1 else 0

theorem maxOf_in {a b : Int} (h1 : 0 ≤ a ∧ a ≤ 8) (h2 : 0 ≤ b ∧ b ≤ 8) : 0 ≤ maxOf a b ∧ maxOf a b ≤ 8 := by unfold maxOf; omega

theorem wins_ok (a b : Int) (w : World) (h1 : 0 ≤ a ∧ a ≤ 8) (h2 : 0 ≤ b ∧ b ≤ 8) : Calls Try.prog 8 #[.int .i64 a, .int .i64 b] w fun e w' => e = .returned (.int .i64 (maxOf a b)) ∧ Below w.heap.size w w' :=
  request_Wins.calls a b _ w (by
    rw [request_Wins.f, request_Of.f, if_neg (by omega), if_neg (by omega), Option.bind_some, request_Of.f, if_neg (by omega), if_neg (by omega), Option.bind_some]
    unfold mx maxOf; congr 1; split <;> omega)

theorem line_ok (a : Int) (w : World) : Calls Try.prog 9 #[.int .i64 a] w fun e w' => e = .returned (.int .i64 (lineOf a)) ∧ Below w.heap.size w w' :=
  (request_Line.calls a (lineOf a) w (by
    unfold request_Line.f lineOf
    by_cases h1 : 1 ≤ a
    · by_cases h2 : a ≤ 6
      · rw [if_pos h1, if_pos h2, if_pos ⟨h1, h2⟩]
      · rw [if_pos h1, if_neg h2, if_neg (by omega)]
    · rw [if_neg h1, if_neg (by omega)])).mono fun e w' ⟨he, hd⟩ => ⟨he, by obtain ⟨n, rfl⟩ := hd; exact pw_below_drewN (Below.refl _ _) n⟩

set_option maxHeartbeats 4000000 in
set_option maxRecDepth 100000 in
theorem agrees_in (a b c : Int) (w : World) (ha : 0 ≤ a ∧ a ≤ 8) (hb : 0 ≤ b ∧ b ≤ 8) (hc : 0 ≤ c ∧ c ≤ 8) : Calls Try.prog 3 #[.int .i64 a, .int .i64 b, .int .i64 c] w fun e w' => e = .returned (.bool true) ∧ Below w.heap.size w w' := by
  have HB := Aside0.mk (Below.refl w.heap.size w)
  have e1 : (maxOf a b == maxOf b a) = true := by simp only [maxOf, beq_iff_eq]; omega
  have e2 : (maxOf a a == a) = true := by simp [maxOf]
  have e3 : (maxOf a (maxOf b c) == maxOf (maxOf a b) c) = true := by simp only [maxOf, beq_iff_eq]; omega
  have e4 : (lineOf (maxOf a b) == lineOf (maxOf b a)) = true := by rw [show maxOf a b = maxOf b a by unfold maxOf; omega]; exact beq_self_eq_true _
  have ia := Aside0.mk ha
  have ib := Aside0.mk hb
  have ic := Aside0.mk hc
  obtain ⟨ha1, ha2⟩ := ha
  obtain ⟨hb1, hb2⟩ := hb
  obtain ⟨hc1, hc2⟩ := hc
  go_enter Try.func3, Try.ntmps3
  go_wp2_with (first | (go_at_call 7; refine (alive_ok _).mono ?_; rintro e w1 ⟨rfl, hn⟩; replace HB := Aside0.mk (below_step HB.out hn); clear hn) | (go_at_call 8; (with_reducible refine (wins_ok _ _ _ (by first | exact ia.out | exact ib.out | exact ic.out | exact maxOf_in ia.out ib.out) (by first | exact ia.out | exact ib.out | exact ic.out | exact maxOf_in ib.out ic.out)).mono ?_); rintro e w1 ⟨rfl, hn⟩; replace HB := Aside0.mk (below_step HB.out hn); clear hn) | (go_at_call 9; (with_reducible refine (line_ok _ _).mono ?_); rintro e w1 ⟨rfl, hn⟩; replace HB := Aside0.mk (below_step HB.out hn); clear hn))
  go_ret
  exact ⟨rfl, HB.out⟩

set_option maxHeartbeats 4000000 in
set_option maxRecDepth 100000 in
theorem agrees_out (a b c : Int) (w : World) (h : ¬ ((0 ≤ a ∧ a ≤ 8) ∧ (0 ≤ b ∧ b ≤ 8) ∧ (0 ≤ c ∧ c ≤ 8))) : Calls Try.prog 3 #[.int .i64 a, .int .i64 b, .int .i64 c] w fun e w' => e = .returned (.bool true) ∧ Below w.heap.size w w' := by
  have HB := Aside0.mk (Below.refl w.heap.size w)
  have H := Aside0.mk h
  clear h
  by_cases h1 : a < 0 <;> by_cases h2 : a > 8 <;> by_cases h3 : b < 0 <;> by_cases h4 : b > 8 <;> by_cases h5 : c < 0 <;> by_cases h6 : c > 8
  all_goals first | (exfalso; have := H.out; omega) | skip
  all_goals
    go_enter Try.func3, Try.ntmps3
    go_wp2_with (first | (go_at_call 7; refine (alive_ok _).mono ?_; rintro e w1 ⟨rfl, hn⟩; replace HB := Aside0.mk (below_step HB.out hn); clear hn))
    go_ret
    exact ⟨rfl, HB.out⟩

theorem agrees (a b c : Int) (W : World) (_ : (Lit.int .i64 a).wf = true) (_ : (Lit.int .i64 b).wf = true) (_ : (Lit.int .i64 c).wf = true) : Calls Try.prog 3 #[.int .i64 a, .int .i64 b, .int .i64 c] W fun e w' => e = .returned (.bool true) ∧ Below W.heap.size W w' := by
  by_cases h : (0 ≤ a ∧ a ≤ 8) ∧ (0 ≤ b ∧ b ≤ 8) ∧ (0 ≤ c ∧ c ≤ 8)
  · exact agrees_in a b c W h.1 h.2.1 h.2.2
  · exact agrees_out a b c W h
end Go.Proofs.Ytdlfjibbkcglpaa.Agrees
