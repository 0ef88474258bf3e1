/- Requests have the documented priorities: for every number of a row of the table, and every other number. No condition. -/
import Derived.Test.YtdlfjibbkcglpaaAgreesWalk
namespace Go.Proofs.Ytdlfjibbkcglpaa.Ranks
open Go.RowKit Go.Proofs.Ytdlfjibbkcglpaa.PRequestTells Go.Proofs.Ytdlfjibbkcglpaa.Agrees Go.Proofs.YtdlfjibbkcglpaaW.PrintWords Go.Proofs.YtdlfjibbkcglpaaW.PrintLast Go.Proofs.YtdlfjibbkcglpaaW.PrintMore

theorem local_q (a b c r : Int) (w : World) (n : Nat) (h : request_Local.f a b c = some r) : Calls Try.prog 10 #[.int .i64 a, .int .i64 b, .int .i64 c] (w.drewN n) fun e w' => e = .returned (.int .i64 r) ∧ ∃ m, w' = w.drewN m :=
  Calls.quiet_of ((request_Local.calls a b c r _ h).mono fun _ _ h => ⟨h.1, h.2.out⟩)

theorem line_q (a r : Int) (w : World) (q n : Nat) (h : request_Line.f a = some r) : Calls Try.prog 9 #[.int .i64 a] (w.drewN (q + n)) fun e w' => e = .returned (.int .i64 r) ∧ ∃ m, w' = w.drewN (q + m) :=
  (request_Line.calls a r _ h).mono fun _ _ h => ⟨h.1, by obtain ⟨m, rfl⟩ := h.2; exact ⟨n + m, by rw [World.drewN_drewN, Nat.add_assoc]⟩⟩

set_option maxHeartbeats 4000000 in
set_option maxRecDepth 100000 in
theorem rank0 (w : World) : Calls Try.prog 6 #[.int .i64 0] w fun e w' => e = .returned (.bool true) ∧ Below w.heap.size w w' := by
  have HB := Aside0.mk (Below.refl w.heap.size w)
  go_enter Try.func6, Try.ntmps6
  go_wp2_with (first | (go_at_call 7; refine (alive_ok _).mono ?_; rintro e w1 ⟨rfl, hn⟩; replace HB := Aside0.mk (below_step HB.out hn); clear hn))
  go_quiet ((go_at_call 10; exact local_q 3 2 2 8 _ _ (by simp [request_Local.f])))
  go_wp2
  go_quiet ((go_at_call 9; exact line_q 8 0 _ _ _ (by simp [request_Line.f])))
  go_wp2
  go_ret
  exact ⟨rfl, by repeat (first | (with_reducible first | exact HB.out | apply below_alloc | apply pw_below_drewN | apply below_drew1) | exact HB.out)⟩

set_option maxHeartbeats 4000000 in
set_option maxRecDepth 100000 in
theorem rank1 (w : World) : Calls Try.prog 6 #[.int .i64 1] w fun e w' => e = .returned (.bool true) ∧ Below w.heap.size w w' := by
  have HB := Aside0.mk (Below.refl w.heap.size w)
  go_enter Try.func6, Try.ntmps6
  go_wp2_with (first | (go_at_call 7; refine (alive_ok _).mono ?_; rintro e w1 ⟨rfl, hn⟩; replace HB := Aside0.mk (below_step HB.out hn); clear hn))
  go_quiet ((go_at_call 10; exact local_q 2 2 2 7 _ _ (by simp [request_Local.f])))
  go_wp2
  go_quiet ((go_at_call 9; exact line_q 7 0 _ _ _ (by simp [request_Line.f])))
  go_wp2
  go_ret
  exact ⟨rfl, by repeat (first | (with_reducible first | exact HB.out | apply below_alloc | apply pw_below_drewN | apply below_drew1) | exact HB.out)⟩

set_option maxHeartbeats 4000000 in
set_option maxRecDepth 100000 in
theorem rank2 (w : World) : Calls Try.prog 6 #[.int .i64 2] w fun e w' => e = .returned (.bool true) ∧ Below w.heap.size w w' := by
  have HB := Aside0.mk (Below.refl w.heap.size w)
  go_enter Try.func6, Try.ntmps6
  go_wp2_with (first | (go_at_call 7; refine (alive_ok _).mono ?_; rintro e w1 ⟨rfl, hn⟩; replace HB := Aside0.mk (below_step HB.out hn); clear hn))
  go_quiet ((go_at_call 10; exact local_q 2 2 1 6 _ _ (by simp [request_Local.f])))
  go_wp2
  go_quiet ((go_at_call 9; exact line_q 6 1 _ _ _ (by simp [request_Line.f])))
  go_wp2
  go_ret
  exact ⟨rfl, by repeat (first | (with_reducible first | exact HB.out | apply below_alloc | apply pw_below_drewN | apply below_drew1) | exact HB.out)⟩

set_option maxHeartbeats 4000000 in
set_option maxRecDepth 100000 in
theorem rank3 (w : World) : Calls Try.prog 6 #[.int .i64 3] w fun e w' => e = .returned (.bool true) ∧ Below w.heap.size w w' := by
  have HB := Aside0.mk (Below.refl w.heap.size w)
  go_enter Try.func6, Try.ntmps6
  go_wp2_with (first | (go_at_call 7; refine (alive_ok _).mono ?_; rintro e w1 ⟨rfl, hn⟩; replace HB := Aside0.mk (below_step HB.out hn); clear hn))
  go_quiet ((go_at_call 10; exact local_q 2 0 0 6 _ _ (by simp [request_Local.f])))
  go_wp2
  go_quiet ((go_at_call 9; exact line_q 6 1 _ _ _ (by simp [request_Line.f])))
  go_wp2
  go_ret
  exact ⟨rfl, by repeat (first | (with_reducible first | exact HB.out | apply below_alloc | apply pw_below_drewN | apply below_drew1) | exact HB.out)⟩

set_option maxHeartbeats 4000000 in
set_option maxRecDepth 100000 in
theorem rank4 (w : World) : Calls Try.prog 6 #[.int .i64 4] w fun e w' => e = .returned (.bool true) ∧ Below w.heap.size w w' := by
  have HB := Aside0.mk (Below.refl w.heap.size w)
  go_enter Try.func6, Try.ntmps6
  go_wp2_with (first | (go_at_call 7; refine (alive_ok _).mono ?_; rintro e w1 ⟨rfl, hn⟩; replace HB := Aside0.mk (below_step HB.out hn); clear hn))
  go_quiet ((go_at_call 10; exact local_q 1 2 0 5 _ _ (by simp [request_Local.f])))
  go_wp2
  go_quiet ((go_at_call 9; exact line_q 5 1 _ _ _ (by simp [request_Line.f])))
  go_wp2
  go_ret
  exact ⟨rfl, by repeat (first | (with_reducible first | exact HB.out | apply below_alloc | apply pw_below_drewN | apply below_drew1) | exact HB.out)⟩

set_option maxHeartbeats 4000000 in
set_option maxRecDepth 100000 in
theorem rank5 (w : World) : Calls Try.prog 6 #[.int .i64 5] w fun e w' => e = .returned (.bool true) ∧ Below w.heap.size w w' := by
  have HB := Aside0.mk (Below.refl w.heap.size w)
  go_enter Try.func6, Try.ntmps6
  go_wp2_with (first | (go_at_call 7; refine (alive_ok _).mono ?_; rintro e w1 ⟨rfl, hn⟩; replace HB := Aside0.mk (below_step HB.out hn); clear hn))
  go_quiet ((go_at_call 10; exact local_q 1 1 0 4 _ _ (by simp [request_Local.f])))
  go_wp2
  go_quiet ((go_at_call 9; exact line_q 4 1 _ _ _ (by simp [request_Line.f])))
  go_wp2
  go_ret
  exact ⟨rfl, by repeat (first | (with_reducible first | exact HB.out | apply below_alloc | apply pw_below_drewN | apply below_drew1) | exact HB.out)⟩

set_option maxHeartbeats 4000000 in
set_option maxRecDepth 100000 in
theorem rank6 (w : World) : Calls Try.prog 6 #[.int .i64 6] w fun e w' => e = .returned (.bool true) ∧ Below w.heap.size w w' := by
  have HB := Aside0.mk (Below.refl w.heap.size w)
  go_enter Try.func6, Try.ntmps6
  go_wp2_with (first | (go_at_call 7; refine (alive_ok _).mono ?_; rintro e w1 ⟨rfl, hn⟩; replace HB := Aside0.mk (below_step HB.out hn); clear hn))
  go_quiet ((go_at_call 10; exact local_q 1 0 1 3 _ _ (by simp [request_Local.f])))
  go_wp2
  go_quiet ((go_at_call 9; exact line_q 3 1 _ _ _ (by simp [request_Line.f])))
  go_wp2
  go_ret
  exact ⟨rfl, by repeat (first | (with_reducible first | exact HB.out | apply below_alloc | apply pw_below_drewN | apply below_drew1) | exact HB.out)⟩

set_option maxHeartbeats 4000000 in
set_option maxRecDepth 100000 in
theorem rank7 (w : World) : Calls Try.prog 6 #[.int .i64 7] w fun e w' => e = .returned (.bool true) ∧ Below w.heap.size w w' := by
  have HB := Aside0.mk (Below.refl w.heap.size w)
  go_enter Try.func6, Try.ntmps6
  go_wp2_with (first | (go_at_call 7; refine (alive_ok _).mono ?_; rintro e w1 ⟨rfl, hn⟩; replace HB := Aside0.mk (below_step HB.out hn); clear hn))
  go_quiet ((go_at_call 10; exact local_q 0 0 2 7 _ _ (by simp [request_Local.f])))
  go_wp2
  go_quiet ((go_at_call 9; exact line_q 7 0 _ _ _ (by simp [request_Line.f])))
  go_wp2
  go_ret
  exact ⟨rfl, by repeat (first | (with_reducible first | exact HB.out | apply below_alloc | apply pw_below_drewN | apply below_drew1) | exact HB.out)⟩

set_option maxHeartbeats 4000000 in
set_option maxRecDepth 100000 in
theorem rank8 (w : World) : Calls Try.prog 6 #[.int .i64 8] w fun e w' => e = .returned (.bool true) ∧ Below w.heap.size w w' := by
  have HB := Aside0.mk (Below.refl w.heap.size w)
  go_enter Try.func6, Try.ntmps6
  go_wp2_with (first | (go_at_call 7; refine (alive_ok _).mono ?_; rintro e w1 ⟨rfl, hn⟩; replace HB := Aside0.mk (below_step HB.out hn); clear hn))
  go_quiet ((go_at_call 10; exact local_q 0 2 2 7 _ _ (by simp [request_Local.f])))
  go_wp2
  go_quiet ((go_at_call 9; exact line_q 7 0 _ _ _ (by simp [request_Line.f])))
  go_wp2
  go_ret
  exact ⟨rfl, by repeat (first | (with_reducible first | exact HB.out | apply below_alloc | apply pw_below_drewN | apply below_drew1) | exact HB.out)⟩

set_option maxHeartbeats 4000000 in
set_option maxRecDepth 100000 in
theorem rank9 (w : World) : Calls Try.prog 6 #[.int .i64 9] w fun e w' => e = .returned (.bool true) ∧ Below w.heap.size w w' := by
  have HB := Aside0.mk (Below.refl w.heap.size w)
  go_enter Try.func6, Try.ntmps6
  go_wp2_with (first | (go_at_call 7; refine (alive_ok _).mono ?_; rintro e w1 ⟨rfl, hn⟩; replace HB := Aside0.mk (below_step HB.out hn); clear hn))
  go_quiet ((go_at_call 10; exact local_q 0 2 1 5 _ _ (by simp [request_Local.f])))
  go_wp2
  go_quiet ((go_at_call 9; exact line_q 5 1 _ _ _ (by simp [request_Line.f])))
  go_wp2
  go_ret
  exact ⟨rfl, by repeat (first | (with_reducible first | exact HB.out | apply below_alloc | apply pw_below_drewN | apply below_drew1) | exact HB.out)⟩

set_option maxHeartbeats 4000000 in
set_option maxRecDepth 100000 in
theorem rank10 (w : World) : Calls Try.prog 6 #[.int .i64 10] w fun e w' => e = .returned (.bool true) ∧ Below w.heap.size w w' := by
  have HB := Aside0.mk (Below.refl w.heap.size w)
  go_enter Try.func6, Try.ntmps6
  go_wp2_with (first | (go_at_call 7; refine (alive_ok _).mono ?_; rintro e w1 ⟨rfl, hn⟩; replace HB := Aside0.mk (below_step HB.out hn); clear hn))
  go_quiet ((go_at_call 10; exact local_q 0 1 0 4 _ _ (by simp [request_Local.f])))
  go_wp2
  go_quiet ((go_at_call 9; exact line_q 4 1 _ _ _ (by simp [request_Line.f])))
  go_wp2
  go_ret
  exact ⟨rfl, by repeat (first | (with_reducible first | exact HB.out | apply below_alloc | apply pw_below_drewN | apply below_drew1) | exact HB.out)⟩

set_option maxHeartbeats 4000000 in
set_option maxRecDepth 100000 in
theorem rank11 (w : World) : Calls Try.prog 6 #[.int .i64 11] w fun e w' => e = .returned (.bool true) ∧ Below w.heap.size w w' := by
  have HB := Aside0.mk (Below.refl w.heap.size w)
  go_enter Try.func6, Try.ntmps6
  go_wp2_with (first | (go_at_call 7; refine (alive_ok _).mono ?_; rintro e w1 ⟨rfl, hn⟩; replace HB := Aside0.mk (below_step HB.out hn); clear hn))
  go_quiet ((go_at_call 10; exact local_q 0 0 1 0 _ _ (by simp [request_Local.f])))
  go_wp2
  go_quiet ((go_at_call 9; exact line_q 0 0 _ _ _ (by simp [request_Line.f])))
  go_wp2
  go_ret
  exact ⟨rfl, by repeat (first | (with_reducible first | exact HB.out | apply below_alloc | apply pw_below_drewN | apply below_drew1) | exact HB.out)⟩

set_option maxHeartbeats 4000000 in
set_option maxRecDepth 100000 in
theorem rank12 (w : World) : Calls Try.prog 6 #[.int .i64 12] w fun e w' => e = .returned (.bool true) ∧ Below w.heap.size w w' := by
  have HB := Aside0.mk (Below.refl w.heap.size w)
  go_enter Try.func6, Try.ntmps6
  go_wp2_with (first | (go_at_call 7; refine (alive_ok _).mono ?_; rintro e w1 ⟨rfl, hn⟩; replace HB := Aside0.mk (below_step HB.out hn); clear hn))
  go_quiet ((go_at_call 10; exact local_q 9 0 0 0 _ _ (by simp [request_Local.f])))
  go_wp2
  go_quiet ((go_at_call 9; exact line_q 0 0 _ _ _ (by simp [request_Line.f])))
  go_wp2
  go_ret
  exact ⟨rfl, by repeat (first | (with_reducible first | exact HB.out | apply below_alloc | apply pw_below_drewN | apply below_drew1) | exact HB.out)⟩

set_option maxHeartbeats 4000000 in
set_option maxRecDepth 100000 in
theorem rank13 (w : World) : Calls Try.prog 6 #[.int .i64 13] w fun e w' => e = .returned (.bool true) ∧ Below w.heap.size w w' := by
  have HB := Aside0.mk (Below.refl w.heap.size w)
  go_enter Try.func6, Try.ntmps6
  go_wp2_with (first | (go_at_call 7; refine (alive_ok _).mono ?_; rintro e w1 ⟨rfl, hn⟩; replace HB := Aside0.mk (below_step HB.out hn); clear hn))
  go_quiet ((go_at_call 10; exact local_q (-1) 9 9 0 _ _ (by simp [request_Local.f])))
  go_wp2
  go_quiet ((go_at_call 9; exact line_q 0 0 _ _ _ (by simp [request_Line.f])))
  go_wp2
  go_ret
  exact ⟨rfl, by repeat (first | (with_reducible first | exact HB.out | apply below_alloc | apply pw_below_drewN | apply below_drew1) | exact HB.out)⟩

set_option maxHeartbeats 4000000 in
set_option maxRecDepth 100000 in
theorem rank_out (a : Int) (w : World) (h : a < 0 ∨ 14 ≤ a) : Calls Try.prog 6 #[.int .i64 a] w fun e w' => e = .returned (.bool true) ∧ Below w.heap.size w w' := by
  have HB := Aside0.mk (Below.refl w.heap.size w)
  rcases h with h | h
  all_goals
    go_enter Try.func6, Try.ntmps6
    go_wp2_with (first | (go_at_call 7; refine (alive_ok _).mono ?_; rintro e w1 ⟨rfl, hn⟩; replace HB := Aside0.mk (below_step HB.out hn); clear hn))
    go_ret
    exact ⟨rfl, by repeat (first | (with_reducible first | exact HB.out | apply below_alloc | apply pw_below_drewN | apply below_drew1) | exact HB.out)⟩

theorem ranks (a : Int) (W : World) (_ : (Lit.int .i64 a).wf = true) : Calls Try.prog 6 #[.int .i64 a] W fun e w' => e = .returned (.bool true) ∧ Below W.heap.size W w' := by
  by_cases h : a < 0 ∨ 14 ≤ a
  · exact rank_out a W h
  · have hc : a = 0 ∨ a = 1 ∨ a = 2 ∨ a = 3 ∨ a = 4 ∨ a = 5 ∨ a = 6 ∨ a = 7 ∨ a = 8 ∨ a = 9 ∨ a = 10 ∨ a = 11 ∨ a = 12 ∨ a = 13 := by omega
    rcases hc with rfl | rfl | rfl | rfl | rfl | rfl | rfl | rfl | rfl | rfl | rfl | rfl | rfl | rfl
    · exact rank0 W
    · exact rank1 W
    · exact rank2 W
    · exact rank3 W
    · exact rank4 W
    · exact rank5 W
    · exact rank6 W
    · exact rank7 W
    · exact rank8 W
    · exact rank9 W
    · exact rank10 W
    · exact rank11 W
    · exact rank12 W
    · exact rank13 W

end Go.Proofs.Ytdlfjibbkcglpaa.Ranks
