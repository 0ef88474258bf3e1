/- Check and Most are as defined, for every link. No condition. -/
import Derived.Test.YtckfkmgfilfgfaaPShapeChecksx4
import Derived.Test.YtckfkmgfilfgfaaChkPure
import Derived.Test.YtckfkmgfilfgfaaK
namespace Go.Proofs.Ytckfkmgfilfgfaa.Chk3
open Go.RowKit Go.Proofs.YtckfkmgfilfgfaaW.PrintWords Go.Proofs.YtckfkmgfilfgfaaW.PrintLast Go.Proofs.YtckfkmgfilfgfaaW.PrintMore Go.Proofs.Ytckfkmgfilfgfaa.K Go.Proofs.Ytckfkmgfilfgfaa.ChkPure
set_option linter.unusedVariables false
set_option linter.unusedSimpArgs false
open Go.Proofs.Ytckfkmgfilfgfaa.PShapeChecks
set_option maxHeartbeats 8000000 in
set_option maxRecDepth 100000 in
theorem num_ok (x : Int) (w : World) : Calls Try.prog 7 #[.int .i64 x] w fun e w' => e = .returned (.int .i64 x) ∧ w' = w := by
  go_enter Try.func7, Try.ntmps7
  go_wp2
  go_ret
  exact ⟨rfl, rfl⟩
set_option maxHeartbeats 8000000 in
set_option maxRecDepth 100000 in
theorem walk (a0 a1 a2 a3 a4 a5 a6 a7 a8 a9 a10 a11 a12 a13 : Int) (a14 a15 : Bool) (w : World) : Calls Try.prog 3 #[.agg #[.int .i64 a0, .int .i64 a1, .int .i64 a2, .int .i64 a3, .int .i64 a4, .int .i64 a5, .int .i64 a6, .int .i64 a7, .int .i64 a8, .int .i64 a9, .int .i64 a10, .int .i64 a11, .int .i64 a12, .int .i64 a13, .bool a14, .bool a15]] w fun e w' => e = .returned (.bool true) ∧ Below w.heap.size w w' := by
  have hu23 := Try.underlying23
  have HA := Aside0.mk (show signalmanlaw19_alive.f 8 = some true by decide +kernel)
  obtain ⟨r, hr⟩ : ∃ r : Int, r = (bif ok a0 a1 a2 a3 a4 a5 a6 a7 a8 a9 a10 a11 a12 a13 a14 a15 then 0 else 1) := ⟨_, rfl⟩
  obtain ⟨m, hm⟩ : ∃ m, m = most a9 := ⟨_, rfl⟩
  have HC := Aside0.mk (check_eq 0 a0 a1 a2 a3 a4 a5 a6 a7 a8 a9 a10 a11 a12 a13 a14 a15)
  have HD := Aside0.mk (rcheck_eq 0 a0 a1 a2 a3 a4 a5 a6 a7 a8 a9 a10 a11 a12 a13 a14 a15)
  have HM := Aside0.mk (most_eq a0 a1 a2 a3 a4 a5 a6 a7 a8 a9 a10 a11 a12 a13 a14 a15)
  have HN := Aside0.mk (rmost_eq a0 a1 a2 a3 a4 a5 a6 a7 a8 a9 a10 a11 a12 a13 a14 a15)
  rw [← hr] at HC HD
  rw [← hm] at HM HN
  clear hr hm
  go_enter Try.func3, Try.ntmps3
  go_wp2_with (first
    | (go_at_call 6; (with_reducible refine (signalmanlaw19_alive.calls 8 true _ HA.out).mono ?_); rintro e w1 ⟨rfl, hn⟩; have HGW := Aside0.mk (blk_below (blk_new w (.cells #[.int .i64 a0, .int .i64 a1, .int .i64 a2, .int .i64 a3, .int .i64 a4, .int .i64 a5, .int .i64 a6, .int .i64 a7, .int .i64 a8, .int .i64 a9, .int .i64 a10, .int .i64 a11, .int .i64 a12, .int .i64 a13, .bool a14, .bool a15] 23)) hn); have HB1 := below_step (below_alloc (Below.refl _ _) (.cells #[.int .i64 a0, .int .i64 a1, .int .i64 a2, .int .i64 a3, .int .i64 a4, .int .i64 a5, .int .i64 a6, .int .i64 a7, .int .i64 a8, .int .i64 a9, .int .i64 a10, .int .i64 a11, .int .i64 a12, .int .i64 a13, .bool a14, .bool a15] 23)) hn; clear hn))
  as_aux_lemma =>
  refine region_each (VT (fun i => match i with | 0 => .bool true | 1 => .bool true | 2 => .agg #[.int .i64 a0, .int .i64 a1, .int .i64 a2, .int .i64 a3, .int .i64 a4, .int .i64 a5, .int .i64 a6, .int .i64 a7, .int .i64 a8, .int .i64 a9, .int .i64 a10, .int .i64 a11, .int .i64 a12, .int .i64 a13, .bool a14, .bool a15] | 3 => .int .i64 r | 4 => .int .i64 r | 5 => .agg #[.int .i64 a0, .int .i64 a1, .int .i64 a2, .int .i64 a3, .int .i64 a4, .int .i64 a5, .int .i64 a6, .int .i64 a7, .int .i64 a8, .int .i64 a9, .int .i64 a10, .int .i64 a11, .int .i64 a12, .int .i64 a13, .bool a14, .bool a15] | 6 => .int .i64 r | 7 => .bool true | 8 => .bool true | 9 => .bool true | 10 => .agg #[.int .i64 a0, .int .i64 a1, .int .i64 a2, .int .i64 a3, .int .i64 a4, .int .i64 a5, .int .i64 a6, .int .i64 a7, .int .i64 a8, .int .i64 a9, .int .i64 a10, .int .i64 a11, .int .i64 a12, .int .i64 a13, .bool a14, .bool a15] | 11 => .int .i64 m | 12 => .agg #[.int .i64 a0, .int .i64 a1, .int .i64 a2, .int .i64 a3, .int .i64 a4, .int .i64 a5, .int .i64 a6, .int .i64 a7, .int .i64 a8, .int .i64 a9, .int .i64 a10, .int .i64 a11, .int .i64 a12, .int .i64 a13, .bool a14, .bool a15] | 13 => .int .i64 m | 14 => .bool true | 15 => .bool true | 16 => .bool true | _ => undef) []) (by kernel_rfl) (by kernel_rfl) (VT_stable _ _) ?_ ?_
  · refine ⟨?_, ?_, ?_, ?_, ?_, ?_, ?_, ?_, ?_, ?_, ?_, ?_, ?_, ?_, ?_, ?_, ?_, trivial⟩
    · as_aux_lemma =>
      intro a_ w_ st
      have e3 : a_.eval (.tmp 3) = .bool true := st.slot 3 (by kernel_rfl)
      exact op_yield (.bool true) (wanted_none rfl _) (by simp only [execOp, e3]; rfl) rfl
    · as_aux_lemma =>
      intro a_ w_ st
      have e5 : a_.eval (.tmp 5) = .bool true := st.dep 0 _ 5 rfl rfl (by kernel_rfl)
      exact op_yield (.bool true) (wanted_none rfl _) (by simp only [execOp, e5]; rfl) rfl
    · as_aux_lemma =>
      intro a_ w_ st
      have e6 : a_.eval (.tmp 6) = .bool true := st.dep 1 _ 6 rfl rfl (by kernel_rfl)
      have e1 : a_.eval (.tmp 1) = .pointer (some ⟨w.heap.size, 0, none⟩) := st.slot 1 (by kernel_rfl)
      have HG := blk_below HGW.out st.below; have q0 : w_.cell? ⟨w.heap.size, 0, none⟩ = some (.int .i64 a0) := (blk_cell HG 0); have q1 : w_.cell? ⟨w.heap.size, 1, none⟩ = some (.int .i64 a1) := (blk_cell HG 1); have q2 : w_.cell? ⟨w.heap.size, 2, none⟩ = some (.int .i64 a2) := (blk_cell HG 2); have q3 : w_.cell? ⟨w.heap.size, 3, none⟩ = some (.int .i64 a3) := (blk_cell HG 3); have q4 : w_.cell? ⟨w.heap.size, 4, none⟩ = some (.int .i64 a4) := (blk_cell HG 4); have q5 : w_.cell? ⟨w.heap.size, 5, none⟩ = some (.int .i64 a5) := (blk_cell HG 5); have q6 : w_.cell? ⟨w.heap.size, 6, none⟩ = some (.int .i64 a6) := (blk_cell HG 6); have q7 : w_.cell? ⟨w.heap.size, 7, none⟩ = some (.int .i64 a7) := (blk_cell HG 7); have q8 : w_.cell? ⟨w.heap.size, 8, none⟩ = some (.int .i64 a8) := (blk_cell HG 8); have q9 : w_.cell? ⟨w.heap.size, 9, none⟩ = some (.int .i64 a9) := (blk_cell HG 9); have q10 : w_.cell? ⟨w.heap.size, 10, none⟩ = some (.int .i64 a10) := (blk_cell HG 10); have q11 : w_.cell? ⟨w.heap.size, 11, none⟩ = some (.int .i64 a11) := (blk_cell HG 11); have q12 : w_.cell? ⟨w.heap.size, 12, none⟩ = some (.int .i64 a12) := (blk_cell HG 12); have q13 : w_.cell? ⟨w.heap.size, 13, none⟩ = some (.int .i64 a13) := (blk_cell HG 13); have q14 : w_.cell? ⟨w.heap.size, 14, none⟩ = some (.bool a14) := (blk_cell HG 14); have q15 : w_.cell? ⟨w.heap.size, 15, none⟩ = some (.bool a15) := (blk_cell HG 15)
      exact op_yield (.agg #[.int .i64 a0, .int .i64 a1, .int .i64 a2, .int .i64 a3, .int .i64 a4, .int .i64 a5, .int .i64 a6, .int .i64 a7, .int .i64 a8, .int .i64 a9, .int .i64 a10, .int .i64 a11, .int .i64 a12, .int .i64 a13, .bool a14, .bool a15]) (wanted_some rfl (st.yields 1 _ 6 rfl rfl (of_decide_eq_true (by kernel_rfl)) true e6)) (by simp only [execOp, e6, e1]; go_simp) rfl
    · as_aux_lemma =>
      intro a_ w_ st
      have e6 : a_.eval (.tmp 6) = .bool true := st.dep 1 _ 6 rfl rfl (by kernel_rfl)
      have e7 : a_.eval (.tmp 7) = .agg #[.int .i64 a0, .int .i64 a1, .int .i64 a2, .int .i64 a3, .int .i64 a4, .int .i64 a5, .int .i64 a6, .int .i64 a7, .int .i64 a8, .int .i64 a9, .int .i64 a10, .int .i64 a11, .int .i64 a12, .int .i64 a13, .bool a14, .bool a15] := st.dep 2 _ 7 rfl rfl (by kernel_rfl)
      skip
      exact op_call Try.func8 (by kernel_rfl) rfl #[.agg #[.int .i64 a0, .int .i64 a1, .int .i64 a2, .int .i64 a3, .int .i64 a4, .int .i64 a5, .int .i64 a6, .int .i64 a7, .int .i64 a8, .int .i64 a9, .int .i64 a10, .int .i64 a11, .int .i64 a12, .int .i64 a13, .bool a14, .bool a15]] (wanted_some rfl (st.yields 1 _ 6 rfl rfl (of_decide_eq_true (by kernel_rfl)) true e6)) rfl (by simp [e6, e7]) (calls_below (shape_Check.calls 3 a0 a1 a2 a3 a4 a5 a6 a7 a8 a9 a10 a11 a12 a13 a14 a15 r _ HC.out))
    · as_aux_lemma =>
      intro a_ w_ st
      have e6 : a_.eval (.tmp 6) = .bool true := st.dep 1 _ 6 rfl rfl (by kernel_rfl)
      have e8 : a_.eval (.tmp 8) = .int .i64 r := st.dep 3 _ 8 rfl rfl (by kernel_rfl)
      skip
      exact op_call Try.func7 (by kernel_rfl) rfl #[.int .i64 r] (wanted_some rfl (st.yields 1 _ 6 rfl rfl (of_decide_eq_true (by kernel_rfl)) true e6)) rfl (by simp [e6, e8]) (calls_same (num_ok _ _))
    · as_aux_lemma =>
      intro a_ w_ st
      have e6 : a_.eval (.tmp 6) = .bool true := st.dep 1 _ 6 rfl rfl (by kernel_rfl)
      have e1 : a_.eval (.tmp 1) = .pointer (some ⟨w.heap.size, 0, none⟩) := st.slot 1 (by kernel_rfl)
      have HG := blk_below HGW.out st.below; have q0 : w_.cell? ⟨w.heap.size, 0, none⟩ = some (.int .i64 a0) := (blk_cell HG 0); have q1 : w_.cell? ⟨w.heap.size, 1, none⟩ = some (.int .i64 a1) := (blk_cell HG 1); have q2 : w_.cell? ⟨w.heap.size, 2, none⟩ = some (.int .i64 a2) := (blk_cell HG 2); have q3 : w_.cell? ⟨w.heap.size, 3, none⟩ = some (.int .i64 a3) := (blk_cell HG 3); have q4 : w_.cell? ⟨w.heap.size, 4, none⟩ = some (.int .i64 a4) := (blk_cell HG 4); have q5 : w_.cell? ⟨w.heap.size, 5, none⟩ = some (.int .i64 a5) := (blk_cell HG 5); have q6 : w_.cell? ⟨w.heap.size, 6, none⟩ = some (.int .i64 a6) := (blk_cell HG 6); have q7 : w_.cell? ⟨w.heap.size, 7, none⟩ = some (.int .i64 a7) := (blk_cell HG 7); have q8 : w_.cell? ⟨w.heap.size, 8, none⟩ = some (.int .i64 a8) := (blk_cell HG 8); have q9 : w_.cell? ⟨w.heap.size, 9, none⟩ = some (.int .i64 a9) := (blk_cell HG 9); have q10 : w_.cell? ⟨w.heap.size, 10, none⟩ = some (.int .i64 a10) := (blk_cell HG 10); have q11 : w_.cell? ⟨w.heap.size, 11, none⟩ = some (.int .i64 a11) := (blk_cell HG 11); have q12 : w_.cell? ⟨w.heap.size, 12, none⟩ = some (.int .i64 a12) := (blk_cell HG 12); have q13 : w_.cell? ⟨w.heap.size, 13, none⟩ = some (.int .i64 a13) := (blk_cell HG 13); have q14 : w_.cell? ⟨w.heap.size, 14, none⟩ = some (.bool a14) := (blk_cell HG 14); have q15 : w_.cell? ⟨w.heap.size, 15, none⟩ = some (.bool a15) := (blk_cell HG 15)
      exact op_yield (.agg #[.int .i64 a0, .int .i64 a1, .int .i64 a2, .int .i64 a3, .int .i64 a4, .int .i64 a5, .int .i64 a6, .int .i64 a7, .int .i64 a8, .int .i64 a9, .int .i64 a10, .int .i64 a11, .int .i64 a12, .int .i64 a13, .bool a14, .bool a15]) (wanted_some rfl (st.yields 1 _ 6 rfl rfl (of_decide_eq_true (by kernel_rfl)) true e6)) (by simp only [execOp, e6, e1]; go_simp) rfl
    · as_aux_lemma =>
      intro a_ w_ st
      have e6 : a_.eval (.tmp 6) = .bool true := st.dep 1 _ 6 rfl rfl (by kernel_rfl)
      have e10 : a_.eval (.tmp 10) = .agg #[.int .i64 a0, .int .i64 a1, .int .i64 a2, .int .i64 a3, .int .i64 a4, .int .i64 a5, .int .i64 a6, .int .i64 a7, .int .i64 a8, .int .i64 a9, .int .i64 a10, .int .i64 a11, .int .i64 a12, .int .i64 a13, .bool a14, .bool a15] := st.dep 5 _ 10 rfl rfl (by kernel_rfl)
      skip
      exact op_call Try.func9 (by kernel_rfl) rfl #[.agg #[.int .i64 a0, .int .i64 a1, .int .i64 a2, .int .i64 a3, .int .i64 a4, .int .i64 a5, .int .i64 a6, .int .i64 a7, .int .i64 a8, .int .i64 a9, .int .i64 a10, .int .i64 a11, .int .i64 a12, .int .i64 a13, .bool a14, .bool a15]] (wanted_some rfl (st.yields 1 _ 6 rfl rfl (of_decide_eq_true (by kernel_rfl)) true e6)) rfl (by simp [e6, e10]) (calls_below (signalmanref15_Check.calls 3 a0 a1 a2 a3 a4 a5 a6 a7 a8 a9 a10 a11 a12 a13 a14 a15 r _ HD.out))
    · as_aux_lemma =>
      intro a_ w_ st
      have e6 : a_.eval (.tmp 6) = .bool true := st.dep 1 _ 6 rfl rfl (by kernel_rfl)
      have e9 : a_.eval (.tmp 9) = .int .i64 r := st.dep 4 _ 9 rfl rfl (by kernel_rfl)
      have e11 : a_.eval (.tmp 11) = .int .i64 r := st.dep 6 _ 11 rfl rfl (by kernel_rfl)
      exact op_yield (.bool true) (wanted_some rfl (st.yields 1 _ 6 rfl rfl (of_decide_eq_true (by kernel_rfl)) true e6)) (by simp only [execOp, e6, e9, e11]; go_simp) rfl
    · as_aux_lemma =>
      intro a_ w_ st
      have e6 : a_.eval (.tmp 6) = .bool true := st.dep 1 _ 6 rfl rfl (by kernel_rfl)
      have e12 : a_.eval (.tmp 12) = .bool true := st.dep 7 _ 12 rfl rfl (by kernel_rfl)
      exact op_yield (.bool true) (wanted_none rfl _) (by simp only [execOp, e6, e12]; rfl) rfl
    · as_aux_lemma =>
      intro a_ w_ st
      have e13 : a_.eval (.tmp 13) = .bool true := st.dep 8 _ 13 rfl rfl (by kernel_rfl)
      exact op_yield (.bool true) (wanted_none rfl _) (by simp only [execOp, e13]; rfl) rfl
    · as_aux_lemma =>
      intro a_ w_ st
      have e14 : a_.eval (.tmp 14) = .bool true := st.dep 9 _ 14 rfl rfl (by kernel_rfl)
      have e1 : a_.eval (.tmp 1) = .pointer (some ⟨w.heap.size, 0, none⟩) := st.slot 1 (by kernel_rfl)
      have HG := blk_below HGW.out st.below; have q0 : w_.cell? ⟨w.heap.size, 0, none⟩ = some (.int .i64 a0) := (blk_cell HG 0); have q1 : w_.cell? ⟨w.heap.size, 1, none⟩ = some (.int .i64 a1) := (blk_cell HG 1); have q2 : w_.cell? ⟨w.heap.size, 2, none⟩ = some (.int .i64 a2) := (blk_cell HG 2); have q3 : w_.cell? ⟨w.heap.size, 3, none⟩ = some (.int .i64 a3) := (blk_cell HG 3); have q4 : w_.cell? ⟨w.heap.size, 4, none⟩ = some (.int .i64 a4) := (blk_cell HG 4); have q5 : w_.cell? ⟨w.heap.size, 5, none⟩ = some (.int .i64 a5) := (blk_cell HG 5); have q6 : w_.cell? ⟨w.heap.size, 6, none⟩ = some (.int .i64 a6) := (blk_cell HG 6); have q7 : w_.cell? ⟨w.heap.size, 7, none⟩ = some (.int .i64 a7) := (blk_cell HG 7); have q8 : w_.cell? ⟨w.heap.size, 8, none⟩ = some (.int .i64 a8) := (blk_cell HG 8); have q9 : w_.cell? ⟨w.heap.size, 9, none⟩ = some (.int .i64 a9) := (blk_cell HG 9); have q10 : w_.cell? ⟨w.heap.size, 10, none⟩ = some (.int .i64 a10) := (blk_cell HG 10); have q11 : w_.cell? ⟨w.heap.size, 11, none⟩ = some (.int .i64 a11) := (blk_cell HG 11); have q12 : w_.cell? ⟨w.heap.size, 12, none⟩ = some (.int .i64 a12) := (blk_cell HG 12); have q13 : w_.cell? ⟨w.heap.size, 13, none⟩ = some (.int .i64 a13) := (blk_cell HG 13); have q14 : w_.cell? ⟨w.heap.size, 14, none⟩ = some (.bool a14) := (blk_cell HG 14); have q15 : w_.cell? ⟨w.heap.size, 15, none⟩ = some (.bool a15) := (blk_cell HG 15)
      exact op_yield (.agg #[.int .i64 a0, .int .i64 a1, .int .i64 a2, .int .i64 a3, .int .i64 a4, .int .i64 a5, .int .i64 a6, .int .i64 a7, .int .i64 a8, .int .i64 a9, .int .i64 a10, .int .i64 a11, .int .i64 a12, .int .i64 a13, .bool a14, .bool a15]) (wanted_some rfl (st.yields 9 _ 14 rfl rfl (of_decide_eq_true (by kernel_rfl)) true e14)) (by simp only [execOp, e14, e1]; go_simp) rfl
    · as_aux_lemma =>
      intro a_ w_ st
      have e14 : a_.eval (.tmp 14) = .bool true := st.dep 9 _ 14 rfl rfl (by kernel_rfl)
      have e15 : a_.eval (.tmp 15) = .agg #[.int .i64 a0, .int .i64 a1, .int .i64 a2, .int .i64 a3, .int .i64 a4, .int .i64 a5, .int .i64 a6, .int .i64 a7, .int .i64 a8, .int .i64 a9, .int .i64 a10, .int .i64 a11, .int .i64 a12, .int .i64 a13, .bool a14, .bool a15] := st.dep 10 _ 15 rfl rfl (by kernel_rfl)
      skip
      exact op_call Try.func10 (by kernel_rfl) rfl #[.agg #[.int .i64 a0, .int .i64 a1, .int .i64 a2, .int .i64 a3, .int .i64 a4, .int .i64 a5, .int .i64 a6, .int .i64 a7, .int .i64 a8, .int .i64 a9, .int .i64 a10, .int .i64 a11, .int .i64 a12, .int .i64 a13, .bool a14, .bool a15]] (wanted_some rfl (st.yields 9 _ 14 rfl rfl (of_decide_eq_true (by kernel_rfl)) true e14)) rfl (by simp [e14, e15]) (calls_below (shape_Most.calls a0 a1 a2 a3 a4 a5 a6 a7 a8 a9 a10 a11 a12 a13 a14 a15 m _ HM.out))
    · as_aux_lemma =>
      intro a_ w_ st
      have e14 : a_.eval (.tmp 14) = .bool true := st.dep 9 _ 14 rfl rfl (by kernel_rfl)
      have e1 : a_.eval (.tmp 1) = .pointer (some ⟨w.heap.size, 0, none⟩) := st.slot 1 (by kernel_rfl)
      have HG := blk_below HGW.out st.below; have q0 : w_.cell? ⟨w.heap.size, 0, none⟩ = some (.int .i64 a0) := (blk_cell HG 0); have q1 : w_.cell? ⟨w.heap.size, 1, none⟩ = some (.int .i64 a1) := (blk_cell HG 1); have q2 : w_.cell? ⟨w.heap.size, 2, none⟩ = some (.int .i64 a2) := (blk_cell HG 2); have q3 : w_.cell? ⟨w.heap.size, 3, none⟩ = some (.int .i64 a3) := (blk_cell HG 3); have q4 : w_.cell? ⟨w.heap.size, 4, none⟩ = some (.int .i64 a4) := (blk_cell HG 4); have q5 : w_.cell? ⟨w.heap.size, 5, none⟩ = some (.int .i64 a5) := (blk_cell HG 5); have q6 : w_.cell? ⟨w.heap.size, 6, none⟩ = some (.int .i64 a6) := (blk_cell HG 6); have q7 : w_.cell? ⟨w.heap.size, 7, none⟩ = some (.int .i64 a7) := (blk_cell HG 7); have q8 : w_.cell? ⟨w.heap.size, 8, none⟩ = some (.int .i64 a8) := (blk_cell HG 8); have q9 : w_.cell? ⟨w.heap.size, 9, none⟩ = some (.int .i64 a9) := (blk_cell HG 9); have q10 : w_.cell? ⟨w.heap.size, 10, none⟩ = some (.int .i64 a10) := (blk_cell HG 10); have q11 : w_.cell? ⟨w.heap.size, 11, none⟩ = some (.int .i64 a11) := (blk_cell HG 11); have q12 : w_.cell? ⟨w.heap.size, 12, none⟩ = some (.int .i64 a12) := (blk_cell HG 12); have q13 : w_.cell? ⟨w.heap.size, 13, none⟩ = some (.int .i64 a13) := (blk_cell HG 13); have q14 : w_.cell? ⟨w.heap.size, 14, none⟩ = some (.bool a14) := (blk_cell HG 14); have q15 : w_.cell? ⟨w.heap.size, 15, none⟩ = some (.bool a15) := (blk_cell HG 15)
      exact op_yield (.agg #[.int .i64 a0, .int .i64 a1, .int .i64 a2, .int .i64 a3, .int .i64 a4, .int .i64 a5, .int .i64 a6, .int .i64 a7, .int .i64 a8, .int .i64 a9, .int .i64 a10, .int .i64 a11, .int .i64 a12, .int .i64 a13, .bool a14, .bool a15]) (wanted_some rfl (st.yields 9 _ 14 rfl rfl (of_decide_eq_true (by kernel_rfl)) true e14)) (by simp only [execOp, e14, e1]; go_simp) rfl
    · as_aux_lemma =>
      intro a_ w_ st
      have e14 : a_.eval (.tmp 14) = .bool true := st.dep 9 _ 14 rfl rfl (by kernel_rfl)
      have e17 : a_.eval (.tmp 17) = .agg #[.int .i64 a0, .int .i64 a1, .int .i64 a2, .int .i64 a3, .int .i64 a4, .int .i64 a5, .int .i64 a6, .int .i64 a7, .int .i64 a8, .int .i64 a9, .int .i64 a10, .int .i64 a11, .int .i64 a12, .int .i64 a13, .bool a14, .bool a15] := st.dep 12 _ 17 rfl rfl (by kernel_rfl)
      skip
      exact op_call Try.func11 (by kernel_rfl) rfl #[.agg #[.int .i64 a0, .int .i64 a1, .int .i64 a2, .int .i64 a3, .int .i64 a4, .int .i64 a5, .int .i64 a6, .int .i64 a7, .int .i64 a8, .int .i64 a9, .int .i64 a10, .int .i64 a11, .int .i64 a12, .int .i64 a13, .bool a14, .bool a15]] (wanted_some rfl (st.yields 9 _ 14 rfl rfl (of_decide_eq_true (by kernel_rfl)) true e14)) rfl (by simp [e14, e17]) (calls_below (signalmanref15_Most.calls a0 a1 a2 a3 a4 a5 a6 a7 a8 a9 a10 a11 a12 a13 a14 a15 m _ HN.out))
    · as_aux_lemma =>
      intro a_ w_ st
      have e14 : a_.eval (.tmp 14) = .bool true := st.dep 9 _ 14 rfl rfl (by kernel_rfl)
      have e16 : a_.eval (.tmp 16) = .int .i64 m := st.dep 11 _ 16 rfl rfl (by kernel_rfl)
      have e18 : a_.eval (.tmp 18) = .int .i64 m := st.dep 13 _ 18 rfl rfl (by kernel_rfl)
      exact op_yield (.bool true) (wanted_some rfl (st.yields 9 _ 14 rfl rfl (of_decide_eq_true (by kernel_rfl)) true e14)) (by simp only [execOp, e14, e16, e18]; go_simp) rfl
    · as_aux_lemma =>
      intro a_ w_ st
      have e14 : a_.eval (.tmp 14) = .bool true := st.dep 9 _ 14 rfl rfl (by kernel_rfl)
      have e19 : a_.eval (.tmp 19) = .bool true := st.dep 14 _ 19 rfl rfl (by kernel_rfl)
      exact op_yield (.bool true) (wanted_none rfl _) (by simp only [execOp, e14, e19]; rfl) rfl
    · as_aux_lemma =>
      intro a_ w_ st
      have e20 : a_.eval (.tmp 20) = .bool true := st.dep 15 _ 20 rfl rfl (by kernel_rfl)
      exact op_yield (.bool true) (wanted_none rfl _) (by simp only [execOp, e20]; rfl) rfl
  · intro a_ w_ st
    go_step
    go_step
    refine wp_ret ?_
    exact ⟨st.defers, _, results_tmp rfl _ _ _, ⟨by rw [show a_.tmps.getD 2 undef = .bool true from st.val 16 _ 2 rfl trivial rfl], below_step HB1 st.below⟩⟩

end Go.Proofs.Ytckfkmgfilfgfaa.Chk3
