/- Put and Read are as defined: for every request and line, and every bytes up to 50; of longer ones nothing is asked. No condition. -/
import Derived.Test.YtdeaeeihmdpcdaaKW3
namespace Go.Proofs.Ytdeaeeihmdpcdaa.Tells3
open Go.RowKit Go.Proofs.YtdeaeeihmdpcdaaW.PrintWords Go.Proofs.YtdeaeeihmdpcdaaW.PrintLast Go.Proofs.YtdeaeeihmdpcdaaW.PrintMore Go.Proofs.Ytdeaeeihmdpcdaa.K Go.Proofs.Ytdeaeeihmdpcdaa.KW
set_option linter.unusedVariables false
set_option linter.unusedSimpArgs false

set_option maxHeartbeats 8000000 in
set_option maxRecDepth 100000 in
theorem tl_long (q line : Int) (A0 : Option Addr) (n c : Nat) (w : World) (hl : 50 < n) (hn : n ≤ 9223372036854775807) :
    Calls Try.prog 3 #[.int .i64 q, .int .i64 line, .slice A0 n c] w fun e w' => e = .returned (.bool true) ∧ Below w.heap.size w w' := by
  have h1 : (50 : Int) < (n : Int) := by omega
  clear hl
  go_enter Try.func3, Try.ntmps3
  go_wp2_with (first | (go_at_call 5; refine (alive_ok _).mono ?_; rintro e w1 ⟨rfl, HB1⟩))
  go_ret
  exact ⟨rfl, HB1⟩

set_option maxHeartbeats 8000000 in
set_option maxRecDepth 100000 in
theorem tl_short (q line : Int) (A0 : Option Addr) (n c : Nat) (b : List Int) (w : World) (hr : Rds (Kd.int .u8) w A0 n c b) (hb : octOk b) (hl : n ≤ 50) :
    Calls Try.prog 3 #[.int .i64 q, .int .i64 line, .slice A0 n c] w fun e w' => e = .returned (.bool true) ∧ Below w.heap.size w w' := by
  have h1 : ¬ (50 : Int) < (n : Int) := by omega
  have hlen := Aside0.mk hr.len
  generalize hU : readK b = U at *
  have HU := Aside0.mk hU
  clear hU
  obtain ⟨u1, u2, u3⟩ := U
  go_enter Try.func3, Try.ntmps3
  go_wp2_with (first
    | (go_at_call 5; refine (alive_ok _).mono ?_; rintro e w1 ⟨rfl, HB1⟩)
    | (at_builtin; refine app_rowi Try.underlying22 info5 rfl (by decide) (.const (.slice none 0 0)) (.tmp 24) rfl rfl rfl rfl (Own.nil _ _ w.heap.size _) (hr.below HB1) HB1 HB1.size (by simp; omega) ?_; intro v2 w2 HO2 HB2 hB2; rw [List.nil_append] at HO2; obtain ⟨A2, c2, rfl, hc2⟩ := HO2.slice)
    | (go_at_call 6; (with_reducible refine (read_ok _ _ _ b _ HO2.rds hb (by have := hlen.out; omega)).mono ?_); rintro e w3 ⟨rfl, hn⟩; have HB3 := below_step HB2 hn; clear hn; rw [HU.out])
    | (go_at_call 7; (with_reducible refine (readref_ok _ _ _ b _ (hr.below HB3) hb (by omega)).mono ?_); rintro e w4 ⟨rfl, hn⟩; have HB4 := below_step HB3 hn; clear hn; rw [HU.out]))
  obtain ⟨L, hL⟩ : ∃ L, [putB q line, 255 - putB q line] = L := ⟨_, rfl⟩
  have HLL := Aside0.mk hL
  clear hL
  refine region_each (VT (fun i => match i with | 0 => .int .i64 q | 1 => .int .i64 line | 3 => .string (strOfNums L) | 4 => .int .i64 q | 5 => .int .i64 line | 7 => .string (strOfNums L) | 8 => .bool true | 9 => .bool true | 10 => .int .i64 u1 | 11 => .int .i64 u1 | 12 => .bool true | 13 => .bool true | 14 => .bool true | 15 => .int .i64 u2 | 16 => .int .i64 u2 | 17 => .bool true | 18 => .bool true | 19 => .bool true | 20 => .int .i64 u3 | 21 => .int .i64 u3 | 22 => .int .i64 u3 | 23 => .bool true | 24 => .bool true | 25 => .bool true | _ => undef) [(2, L), (6, L)]) (by kernel_rfl) (by kernel_rfl) (VT_stable _ _) ?_ ?_
  · refine ⟨?_, ?_, ?_, ?_, ?_, ?_, ?_, ?_, ?_, ?_, ?_, ?_, ?_, ?_, ?_, ?_, ?_, ?_, ?_, ?_, ?_, ?_, ?_, ?_, ?_, ?_, trivial⟩
    · intro a_ w_ st
      have e0 : a_.eval (.tmp 0) = .int .i64 q := st.slot 0 (by kernel_rfl)
      exact op_yield (.int .i64 q) (wanted_none rfl _) (by simp only [execOp, e0]; rfl) rfl
    · intro a_ w_ st
      have e1 : a_.eval (.tmp 1) = .int .i64 line := st.slot 1 (by kernel_rfl)
      exact op_yield (.int .i64 line) (wanted_none rfl _) (by simp only [execOp, e1]; rfl) rfl
    · intro a_ w_ st
      have e36 : a_.eval (.tmp 36) = .int .i64 q := st.dep 0 _ 36 rfl rfl (by kernel_rfl)
      have e37 : a_.eval (.tmp 37) = .int .i64 line := st.dep 1 _ 37 rfl rfl (by kernel_rfl)
      skip
      exact op_call Try.func8 (by kernel_rfl) rfl #[.int .i64 q, .int .i64 line] (wanted_none rfl _) rfl (by simp [e36, e37]) (calls_sl (by rw [← HLL.out]; exact put_ok q line w_))
    · intro a_ w_ st
      obtain ⟨A38_, c38_, e38, h38_⟩ : IsSl L (a_.eval (.tmp 38)) w_ := st.dep 2 _ 38 rfl rfl (by kernel_rfl)
      have hc_ := conv22 _ _ _ _ w_ (h38_)
      exact op_yield (.string (strOfNums L)) (wanted_none rfl _) (by simp [execOp, e38, hc_]) rfl
    · intro a_ w_ st
      have e0 : a_.eval (.tmp 0) = .int .i64 q := st.slot 0 (by kernel_rfl)
      exact op_yield (.int .i64 q) (wanted_none rfl _) (by simp only [execOp, e0]; rfl) rfl
    · intro a_ w_ st
      have e1 : a_.eval (.tmp 1) = .int .i64 line := st.slot 1 (by kernel_rfl)
      exact op_yield (.int .i64 line) (wanted_none rfl _) (by simp only [execOp, e1]; rfl) rfl
    · intro a_ w_ st
      have e40 : a_.eval (.tmp 40) = .int .i64 q := st.dep 4 _ 40 rfl rfl (by kernel_rfl)
      have e41 : a_.eval (.tmp 41) = .int .i64 line := st.dep 5 _ 41 rfl rfl (by kernel_rfl)
      skip
      exact op_call Try.func9 (by kernel_rfl) rfl #[.int .i64 q, .int .i64 line] (wanted_none rfl _) rfl (by simp [e40, e41]) (calls_sl (by rw [← HLL.out]; exact putref_ok q line w_))
    · intro a_ w_ st
      obtain ⟨A42_, c42_, e42, h42_⟩ : IsSl L (a_.eval (.tmp 42)) w_ := st.dep 6 _ 42 rfl rfl (by kernel_rfl)
      have hc_ := conv22 _ _ _ _ w_ (h42_)
      exact op_yield (.string (strOfNums L)) (wanted_none rfl _) (by simp [execOp, e42, hc_]) rfl
    · intro a_ w_ st
      have e39 : a_.eval (.tmp 39) = .string (strOfNums L) := st.dep 3 _ 39 rfl rfl (by kernel_rfl)
      have e43 : a_.eval (.tmp 43) = .string (strOfNums L) := st.dep 7 _ 43 rfl rfl (by kernel_rfl)
      exact op_yield (.bool true) (wanted_none rfl _) (by simp only [execOp, e39, e43]; go_simp) rfl
    · intro a_ w_ st
      have e44 : a_.eval (.tmp 44) = .bool true := st.dep 8 _ 44 rfl rfl (by kernel_rfl)
      exact op_yield (.bool true) (wanted_none rfl _) (by simp only [execOp, e44]; rfl) rfl
    · intro a_ w_ st
      have e45 : a_.eval (.tmp 45) = .bool true := st.dep 9 _ 45 rfl rfl (by kernel_rfl)
      have e8 : a_.eval (.tmp 8) = .int .i64 u1 := st.slot 8 (by kernel_rfl)
      exact op_yield (.int .i64 u1) (wanted_some rfl (st.yields 9 _ 45 rfl rfl (of_decide_eq_true (by kernel_rfl)) true e45)) (by simp only [execOp, e45, e8]; rfl) rfl
    · intro a_ w_ st
      have e45 : a_.eval (.tmp 45) = .bool true := st.dep 9 _ 45 rfl rfl (by kernel_rfl)
      have e11 : a_.eval (.tmp 11) = .int .i64 u1 := st.slot 11 (by kernel_rfl)
      exact op_yield (.int .i64 u1) (wanted_some rfl (st.yields 9 _ 45 rfl rfl (of_decide_eq_true (by kernel_rfl)) true e45)) (by simp only [execOp, e45, e11]; rfl) rfl
    · intro a_ w_ st
      have e45 : a_.eval (.tmp 45) = .bool true := st.dep 9 _ 45 rfl rfl (by kernel_rfl)
      have e46 : a_.eval (.tmp 46) = .int .i64 u1 := st.dep 10 _ 46 rfl rfl (by kernel_rfl)
      have e47 : a_.eval (.tmp 47) = .int .i64 u1 := st.dep 11 _ 47 rfl rfl (by kernel_rfl)
      exact op_yield (.bool true) (wanted_some rfl (st.yields 9 _ 45 rfl rfl (of_decide_eq_true (by kernel_rfl)) true e45)) (by simp only [execOp, e45, e46, e47]; go_simp) rfl
    · intro a_ w_ st
      have e45 : a_.eval (.tmp 45) = .bool true := st.dep 9 _ 45 rfl rfl (by kernel_rfl)
      have e48 : a_.eval (.tmp 48) = .bool true := st.dep 12 _ 48 rfl rfl (by kernel_rfl)
      exact op_yield (.bool true) (wanted_none rfl _) (by simp only [execOp, e45, e48]; rfl) rfl
    · intro a_ w_ st
      have e49 : a_.eval (.tmp 49) = .bool true := st.dep 13 _ 49 rfl rfl (by kernel_rfl)
      exact op_yield (.bool true) (wanted_none rfl _) (by simp only [execOp, e49]; rfl) rfl
    · intro a_ w_ st
      have e50 : a_.eval (.tmp 50) = .bool true := st.dep 14 _ 50 rfl rfl (by kernel_rfl)
      have e9 : a_.eval (.tmp 9) = .int .i64 u2 := st.slot 9 (by kernel_rfl)
      exact op_yield (.int .i64 u2) (wanted_some rfl (st.yields 14 _ 50 rfl rfl (of_decide_eq_true (by kernel_rfl)) true e50)) (by simp only [execOp, e50, e9]; rfl) rfl
    · intro a_ w_ st
      have e50 : a_.eval (.tmp 50) = .bool true := st.dep 14 _ 50 rfl rfl (by kernel_rfl)
      have e12 : a_.eval (.tmp 12) = .int .i64 u2 := st.slot 12 (by kernel_rfl)
      exact op_yield (.int .i64 u2) (wanted_some rfl (st.yields 14 _ 50 rfl rfl (of_decide_eq_true (by kernel_rfl)) true e50)) (by simp only [execOp, e50, e12]; rfl) rfl
    · intro a_ w_ st
      have e50 : a_.eval (.tmp 50) = .bool true := st.dep 14 _ 50 rfl rfl (by kernel_rfl)
      have e51 : a_.eval (.tmp 51) = .int .i64 u2 := st.dep 15 _ 51 rfl rfl (by kernel_rfl)
      have e52 : a_.eval (.tmp 52) = .int .i64 u2 := st.dep 16 _ 52 rfl rfl (by kernel_rfl)
      exact op_yield (.bool true) (wanted_some rfl (st.yields 14 _ 50 rfl rfl (of_decide_eq_true (by kernel_rfl)) true e50)) (by simp only [execOp, e50, e51, e52]; go_simp) rfl
    · intro a_ w_ st
      have e50 : a_.eval (.tmp 50) = .bool true := st.dep 14 _ 50 rfl rfl (by kernel_rfl)
      have e53 : a_.eval (.tmp 53) = .bool true := st.dep 17 _ 53 rfl rfl (by kernel_rfl)
      exact op_yield (.bool true) (wanted_none rfl _) (by simp only [execOp, e50, e53]; rfl) rfl
    · intro a_ w_ st
      have e54 : a_.eval (.tmp 54) = .bool true := st.dep 18 _ 54 rfl rfl (by kernel_rfl)
      exact op_yield (.bool true) (wanted_none rfl _) (by simp only [execOp, e54]; rfl) rfl
    · intro a_ w_ st
      have e55 : a_.eval (.tmp 55) = .bool true := st.dep 19 _ 55 rfl rfl (by kernel_rfl)
      have e10 : a_.eval (.tmp 10) = .int .i64 u3 := st.slot 10 (by kernel_rfl)
      exact op_yield (.int .i64 u3) (wanted_some rfl (st.yields 19 _ 55 rfl rfl (of_decide_eq_true (by kernel_rfl)) true e55)) (by simp only [execOp, e55, e10]; rfl) rfl
    · intro a_ w_ st
      have e55 : a_.eval (.tmp 55) = .bool true := st.dep 19 _ 55 rfl rfl (by kernel_rfl)
      have e56 : a_.eval (.tmp 56) = .int .i64 u3 := st.dep 20 _ 56 rfl rfl (by kernel_rfl)
      skip
      exact op_call Try.func10 (by kernel_rfl) rfl #[.int .i64 u3] (wanted_some rfl (st.yields 19 _ 55 rfl rfl (of_decide_eq_true (by kernel_rfl)) true e55)) rfl (by simp [e55, e56]) (calls_same (num_ok _ _))
    · intro a_ w_ st
      have e55 : a_.eval (.tmp 55) = .bool true := st.dep 19 _ 55 rfl rfl (by kernel_rfl)
      have e13 : a_.eval (.tmp 13) = .int .i64 u3 := st.slot 13 (by kernel_rfl)
      exact op_yield (.int .i64 u3) (wanted_some rfl (st.yields 19 _ 55 rfl rfl (of_decide_eq_true (by kernel_rfl)) true e55)) (by simp only [execOp, e55, e13]; rfl) rfl
    · intro a_ w_ st
      have e55 : a_.eval (.tmp 55) = .bool true := st.dep 19 _ 55 rfl rfl (by kernel_rfl)
      have e57 : a_.eval (.tmp 57) = .int .i64 u3 := st.dep 21 _ 57 rfl rfl (by kernel_rfl)
      have e58 : a_.eval (.tmp 58) = .int .i64 u3 := st.dep 22 _ 58 rfl rfl (by kernel_rfl)
      exact op_yield (.bool true) (wanted_some rfl (st.yields 19 _ 55 rfl rfl (of_decide_eq_true (by kernel_rfl)) true e55)) (by simp only [execOp, e55, e57, e58]; go_simp) rfl
    · intro a_ w_ st
      have e55 : a_.eval (.tmp 55) = .bool true := st.dep 19 _ 55 rfl rfl (by kernel_rfl)
      have e59 : a_.eval (.tmp 59) = .bool true := st.dep 23 _ 59 rfl rfl (by kernel_rfl)
      exact op_yield (.bool true) (wanted_none rfl _) (by simp only [execOp, e55, e59]; rfl) rfl
    · intro a_ w_ st
      have e60 : a_.eval (.tmp 60) = .bool true := st.dep 24 _ 60 rfl rfl (by kernel_rfl)
      exact op_yield (.bool true) (wanted_none rfl _) (by simp only [execOp, e60]; rfl) rfl
  · intro a_ w_ st
    go_step
    go_step
    refine wp_ret ?_
    exact ⟨st.defers, _, results_tmp rfl _ _ _, ⟨by rw [show a_.tmps.getD 6 undef = .bool true from st.val 25 _ 6 rfl trivial rfl], below_step HB4 st.below⟩⟩

theorem walk (q line : Int) (a0 : Option Addr) (len0 cap0 : Nat) (z0 : List Int) (W : World) (_q : (Lit.int .i64 q).wf = true) (_l : (Lit.int .i64 line).wf = true) (w0 : IsRow .u8 W a0 len0 cap0 z0) (_y0 : len0 * 1 ≤ 140737488351232) :
    Calls Try.prog 3 #[.int .i64 q, .int .i64 line, .slice a0 len0 cap0] W fun e w' => e = .returned (.bool true) ∧ Below W.heap.size W w' := by
  obtain ⟨l, hr, hm, hw⟩ := rds_of_row w0
  rcases Nat.lt_or_ge 50 len0 with h | h
  · exact tl_long q line a0 len0 cap0 W h hm
  · exact tl_short q line a0 len0 cap0 l W hr (fun x hx => wf_u8 (hw x hx)) h

end Go.Proofs.Ytdeaeeihmdpcdaa.Tells3
