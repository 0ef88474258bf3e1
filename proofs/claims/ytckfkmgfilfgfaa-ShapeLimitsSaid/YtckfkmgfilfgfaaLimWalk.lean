/- Every limit of a link that can be is looked at: a number that is one too small or too great is told. No condition. -/
import Derived.Test.YtckfkmgfilfgfaaLimW2
namespace Go.Proofs.Ytckfkmgfilfgfaa.Limits4
open Go.RowKit Go.Proofs.YtckfkmgfilfgfaaW.PrintWords Go.Proofs.YtckfkmgfilfgfaaW.PrintLast Go.Proofs.YtckfkmgfilfgfaaW.PrintMore Go.Proofs.Ytckfkmgfilfgfaa.K 
set_option linter.unusedVariables false
set_option linter.unusedSimpArgs false
open Go.Proofs.Ytckfkmgfilfgfaa.PShapeLimits
set_option maxHeartbeats 8000000 in
set_option maxRecDepth 100000 in
theorem lim_out (a : Int) (b : Bool) (w : World) (h : a < 0 ∨ 12 < a) : Calls Try.prog 4 #[.int .i64 a, .bool b] w fun e w' => e = .returned (.bool true) ∧ Below w.heap.size w w' := by
  have hu23 := Try.underlying23
  have HA := Aside0.mk (show signalmanlaw19_alive.f 8 = some true by decide +kernel)
  rcases h with h | h
  all_goals
    go_enter Try.func4, Try.ntmps4
    go_wp2_with (first
      | (go_at_call 6; (with_reducible refine (signalmanlaw19_alive.calls 8 true _ HA.out).mono ?_); rintro e w1 ⟨rfl, HB1⟩)
      | (go_at_call 12; (with_reducible refine (signalmanlaw19_good.calls 0 128 4 10 3 0 5 20 4 20 500 10 3 3 false false _ rfl).mono ?_); rintro e w2 ⟨rfl, hn⟩; have HB2 := below_step HB1 hn; clear hn)
      | (go_at_call 12; (with_reducible refine (signalmanlaw19_good.calls 0 128 4 10 3 0 5 20 4 20 500 10 3 3 false false _ rfl).mono ?_); rintro e w3 ⟨rfl, hn⟩; have HB3 := below_step (below_alloc HB2 (.cells #[.int .i64 0, .int .i64 128, .int .i64 4, .int .i64 10, .int .i64 3, .int .i64 0, .int .i64 5, .int .i64 20, .int .i64 4, .int .i64 20, .int .i64 500, .int .i64 10, .int .i64 3, .int .i64 3, .bool false, .bool false] 23)) hn; have HBA := below_alloc HB3 (.cells #[.int .i64 0, .int .i64 128, .int .i64 4, .int .i64 10, .int .i64 3, .int .i64 0, .int .i64 5, .int .i64 20, .int .i64 4, .int .i64 20, .int .i64 500, .int .i64 10, .int .i64 3, .int .i64 3, .bool false, .bool false] 23); clear hn))
    go_ret
    exact ⟨rfl, HBA⟩

theorem walk (a : Int) (b : Bool) (W : World) (_h : (Lit.int .i64 a).wf = true) : Calls Try.prog 4 #[.int .i64 a, .bool b] W fun e w' => e = .returned (.bool true) ∧ Below W.heap.size W w' := by
  by_cases h : a < 0 ∨ 12 < a
  · exact lim_out a b W h
  · have hc : a = 0 ∨ a = 1 ∨ a = 2 ∨ a = 3 ∨ a = 4 ∨ a = 5 ∨ a = 6 ∨ a = 7 ∨ a = 8 ∨ a = 9 ∨ a = 10 ∨ a = 11 ∨ a = 12 := by omega
    rcases hc with rfl | rfl | rfl | rfl | rfl | rfl | rfl | rfl | rfl | rfl | rfl | rfl | rfl
    · cases b
      · exact lim_low (lo := 0) (hi := 1) 0 (by decide) 0 (by decide) (by decide) rfl rfl (by decide) (by decide) rfl 0 128 4 10 3 0 5 20 4 20 500 10 3 3 (-1) 128 4 10 3 0 5 20 4 20 500 10 3 3 rfl rfl (by decide +kernel) (by decide +kernel) W
      · exact lim_high (lo := 0) (hi := 1) 0 (by decide) 1 (by decide) (by decide) rfl rfl (by decide) (by decide) rfl 1 128 4 10 3 0 5 20 4 20 500 10 3 3 2 128 4 10 3 0 5 20 4 20 500 10 3 3 rfl rfl (by decide +kernel) (by decide +kernel) W
    · cases b
      · exact lim_low (lo := 1) (hi := 16) 1 (by decide) 1 (by decide) (by decide) rfl rfl (by decide) (by decide) rfl 0 128 1 10 3 0 5 20 4 20 500 10 3 3 0 128 0 10 3 0 5 20 4 20 500 10 3 3 rfl rfl (by decide +kernel) (by decide +kernel) W
      · exact lim_high (lo := 1) (hi := 16) 1 (by decide) 16 (by decide) (by decide) rfl rfl (by decide) (by decide) rfl 0 128 16 10 3 0 5 20 4 20 500 10 3 3 0 128 17 10 3 0 5 20 4 20 500 10 3 3 rfl rfl (by decide +kernel) (by decide +kernel) W
    · cases b
      · exact lim_low (lo := 1) (hi := 1048576) 2 (by decide) 1 (by decide) (by decide) rfl rfl (by decide) (by decide) rfl 0 128 4 1 3 0 5 20 4 20 500 10 3 3 0 128 4 0 3 0 5 20 4 20 500 10 3 3 rfl rfl (by decide +kernel) (by decide +kernel) W
      · exact lim_high (lo := 1) (hi := 1048576) 2 (by decide) 1048576 (by decide) (by decide) rfl rfl (by decide) (by decide) rfl 0 128 4 1048576 3 0 5 20 4 20 500 10 3 3 0 128 4 1048577 3 0 5 20 4 20 500 10 3 3 rfl rfl (by decide +kernel) (by decide +kernel) W
    · cases b
      · exact lim_low (lo := 1) (hi := 100) 3 (by decide) 1 (by decide) (by decide) rfl rfl (by decide) (by decide) rfl 0 128 4 10 1 0 5 20 4 20 500 10 3 3 0 128 4 10 0 0 5 20 4 20 500 10 3 3 rfl rfl (by decide +kernel) (by decide +kernel) W
      · exact lim_high (lo := 1) (hi := 100) 3 (by decide) 100 (by decide) (by decide) rfl rfl (by decide) (by decide) rfl 0 128 4 10 100 0 5 20 4 20 500 10 3 3 0 128 4 10 101 0 5 20 4 20 500 10 3 3 rfl rfl (by decide +kernel) (by decide +kernel) W
    · cases b
      · exact lim_low (lo := 0) (hi := 1048576) 4 (by decide) 0 (by decide) (by decide) rfl rfl (by decide) (by decide) rfl 0 128 4 10 3 0 5 20 4 20 500 10 3 3 0 128 4 10 3 (-1) 5 20 4 20 500 10 3 3 rfl rfl (by decide +kernel) (by decide +kernel) W
      · exact lim_high (lo := 0) (hi := 1048576) 4 (by decide) 1048576 (by decide) (by decide) rfl rfl (by decide) (by decide) rfl 0 128 4 10 3 1048576 5 20 4 20 500 10 3 3 0 128 4 10 3 1048577 5 20 4 20 500 10 3 3 rfl rfl (by decide +kernel) (by decide +kernel) W
    · cases b
      · exact lim_low (lo := 1) (hi := 1048576) 5 (by decide) 1 (by decide) (by decide) rfl rfl (by decide) (by decide) rfl 0 128 4 10 3 0 1 20 4 20 500 10 3 3 0 128 4 10 3 0 0 20 4 20 500 10 3 3 rfl rfl (by decide +kernel) (by decide +kernel) W
      · exact lim_high (lo := 1) (hi := 1048576) 5 (by decide) 1048576 (by decide) (by decide) rfl rfl (by decide) (by decide) rfl 0 128 4 10 3 0 1048576 20 4 20 500 10 3 3 0 128 4 10 3 0 1048577 20 4 20 500 10 3 3 rfl rfl (by decide +kernel) (by decide +kernel) W
    · cases b
      · exact lim_low (lo := 4) (hi := 65536) 6 (by decide) 4 (by decide) (by decide) rfl rfl (by decide) (by decide) rfl 0 128 4 10 3 0 5 4 4 20 500 10 3 3 0 128 4 10 3 0 5 3 4 20 500 10 3 3 rfl rfl (by decide +kernel) (by decide +kernel) W
      · exact lim_high (lo := 4) (hi := 65536) 6 (by decide) 65536 (by decide) (by decide) rfl rfl (by decide) (by decide) rfl 0 128 4 10 3 0 5 65536 4 20 500 10 3 3 0 128 4 10 3 0 5 65537 4 20 500 10 3 3 rfl rfl (by decide +kernel) (by decide +kernel) W
    · cases b
      · exact lim_low (lo := 0) (hi := 1000) 7 (by decide) 0 (by decide) (by decide) rfl rfl (by decide) (by decide) rfl 0 128 4 10 3 0 5 20 0 20 500 10 3 3 0 128 4 10 3 0 5 20 (-1) 20 500 10 3 3 rfl rfl (by decide +kernel) (by decide +kernel) W
      · exact lim_high (lo := 0) (hi := 1000) 7 (by decide) 1000 (by decide) (by decide) rfl rfl (by decide) (by decide) rfl 0 128 4 10 3 0 5 20 1000 20 500 10 3 3 0 128 4 10 3 0 5 20 1001 20 500 10 3 3 rfl rfl (by decide +kernel) (by decide +kernel) W
    · cases b
      · exact lim_low (lo := 1) (hi := 1000) 8 (by decide) 1 (by decide) (by decide) rfl rfl (by decide) (by decide) rfl 0 128 4 10 3 0 5 20 4 1 1048576 10 3 3 0 128 4 10 3 0 5 20 4 0 1048576 10 3 3 rfl rfl (by decide +kernel) (by decide +kernel) W
      · exact lim_high (lo := 1) (hi := 1000) 8 (by decide) 1000 (by decide) (by decide) rfl rfl (by decide) (by decide) rfl 0 128 4 10 3 0 5 20 4 1000 1048576 10 3 3 0 128 4 10 3 0 5 20 4 1001 1048576 10 3 3 rfl rfl (by decide +kernel) (by decide +kernel) W
    · cases b
      · exact lim_low (lo := 74) (hi := 1048576) 9 (by decide) 74 (by decide) (by decide) rfl rfl (by decide) (by decide) rfl 0 128 4 10 3 0 5 20 4 20 74 10 3 3 0 128 4 10 3 0 5 20 4 20 73 10 3 3 rfl rfl (by decide +kernel) (by decide +kernel) W
      · exact lim_high (lo := 74) (hi := 1048576) 9 (by decide) 1048576 (by decide) (by decide) rfl rfl (by decide) (by decide) rfl 0 128 4 10 3 0 5 20 4 20 1048576 10 3 3 0 128 4 10 3 0 5 20 4 20 1048577 10 3 3 rfl rfl (by decide +kernel) (by decide +kernel) W
    · cases b
      · exact lim_low (lo := 2) (hi := 4096) 10 (by decide) 2 (by decide) (by decide) rfl rfl (by decide) (by decide) rfl 0 128 4 10 3 0 5 20 4 20 500 2 3 3 0 128 4 10 3 0 5 20 4 20 500 1 3 3 rfl rfl (by decide +kernel) (by decide +kernel) W
      · exact lim_high (lo := 2) (hi := 4096) 10 (by decide) 4096 (by decide) (by decide) rfl rfl (by decide) (by decide) rfl 0 128 4 10 3 0 5 20 4 20 500 4096 3 3 0 128 4 10 3 0 5 20 4 20 500 4097 3 3 rfl rfl (by decide +kernel) (by decide +kernel) W
    · cases b
      · exact lim_low (lo := 1) (hi := 16) 11 (by decide) 1 (by decide) (by decide) rfl rfl (by decide) (by decide) rfl 0 128 4 10 3 0 5 20 4 20 500 10 1 3 0 128 4 10 3 0 5 20 4 20 500 10 0 3 rfl rfl (by decide +kernel) (by decide +kernel) W
      · exact lim_high (lo := 1) (hi := 16) 11 (by decide) 16 (by decide) (by decide) rfl rfl (by decide) (by decide) rfl 0 128 4 10 3 0 5 20 4 20 500 10 16 3 0 128 4 10 3 0 5 20 4 20 500 10 17 3 rfl rfl (by decide +kernel) (by decide +kernel) W
    · cases b
      · exact lim_low (lo := 1) (hi := 16) 12 (by decide) 1 (by decide) (by decide) rfl rfl (by decide) (by decide) rfl 0 128 4 10 3 0 5 20 4 20 500 10 3 1 0 128 4 10 3 0 5 20 4 20 500 10 3 0 rfl rfl (by decide +kernel) (by decide +kernel) W
      · exact lim_high (lo := 1) (hi := 16) 12 (by decide) 16 (by decide) (by decide) rfl rfl (by decide) (by decide) rfl 0 128 4 10 3 0 5 20 4 20 500 10 3 16 0 128 4 10 3 0 5 20 4 20 500 10 3 17 rfl rfl (by decide +kernel) (by decide +kernel) W

end Go.Proofs.Ytckfkmgfilfgfaa.Limits4
