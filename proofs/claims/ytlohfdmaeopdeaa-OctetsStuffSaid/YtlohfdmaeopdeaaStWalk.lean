/- Stuffed octets are as defined, have no Flag among them, and come back: for every octets up to 500; of longer ones nothing is asked. No condition. -/
import Derived.Test.YtlohfdmaeopdeaaOctW3
namespace Go.Proofs.Ytlohfdmaeopdeaa.St3
open Go.RowKit Go.Proofs.YtlohfdmaeopdeaaW.PrintWords Go.Proofs.YtlohfdmaeopdeaaW.PrintLast Go.Proofs.YtlohfdmaeopdeaaW.PrintMore Go.Proofs.Ytlohfdmaeopdeaa.K Go.Proofs.Ytlohfdmaeopdeaa.OctPure Go.Proofs.Ytlohfdmaeopdeaa.OctW
set_option linter.unusedVariables false
set_option linter.unusedSimpArgs false

set_option maxHeartbeats 8000000 in
set_option maxRecDepth 100000 in
theorem st_long (A0 : Option Addr) (n c : Nat) (w : World) (hl : 500 < n) (hn : n ≤ 9223372036854775807) :
    Calls Try.prog 3 #[.slice A0 n c] w fun e w' => e = .returned (.bool true) ∧ Below w.heap.size w w' := by
  have h1 : (500 : Int) < (n : Int) := by omega
  clear hl
  go_enter Try.func3, Try.ntmps3
  go_wp2_with (first | (go_at_call 8; refine (alive_ok _).mono ?_; rintro e w1 ⟨rfl, HB1⟩))
  go_ret
  exact ⟨rfl, HB1⟩

set_option maxHeartbeats 8000000 in
set_option maxRecDepth 100000 in
theorem st_short (A0 : Option Addr) (n c : Nat) (b : List Int) (w : World) (hr : Rds (Kd.int .u8) w A0 n c b) (hb : octOk b) (hl : n ≤ 500) :
    Calls Try.prog 3 #[.slice A0 n c] w fun e w' => e = .returned (.bool true) ∧ Below w.heap.size w w' := by
  have h1 : ¬ (500 : Int) < (n : Int) := by omega
  have hlen := Aside0.mk hr.len
  have hs1 := stuffO_len b
  have hun := unO_stuffO b []
  have hno := stuffO_noflag b
  generalize hS : stuffO b = S at *
  have HS1 := Aside0.mk hs1
  have HUN := Aside0.mk hun
  have HNO := Aside0.mk hno
  have HSb := Aside0.mk hS
  clear hb hs1 hun hno hS
  go_enter Try.func3, Try.ntmps3
  go_wp2_with (first
    | (go_at_call 8; refine (alive_ok _).mono ?_; rintro e w1 ⟨rfl, HB1⟩)
    | (at_builtin; refine app_rowi Try.underlying22 info5 rfl (by decide) (.const (.slice none 0 0)) (.tmp 17) rfl rfl rfl rfl (Own.nil _ _ w.heap.size _) (hr.below HB1) HB1 HB1.size (by simp; omega) ?_; intro v2 w2 HO2 HB2 hB2; rw [List.nil_append] at HO2; obtain ⟨A2, c2, rfl, hc2⟩ := HO2.slice)
    | (go_at_call 9; (with_reducible refine (stuff_ok _ _ _ b _ HO2.rds (by have := hlen.out; omega)).mono ?_); rintro e w4 ⟨A4, c4, rfl, HO4, hn⟩; have HB4 := below_step HB2 hn; clear hn; rw [HSb.out] at HO4 ⊢))
  have hS2 : S.length ≤ 1000 := by have := hlen.out; have := HS1.out; omega
  have hRS := HO4.rds
  go_loopg [5] (S.length + 1) (fun kq v5 w' => ∃ (i : Nat), v5 = .int .i64 i ∧ i ≤ S.length ∧ kq = S.length + 1 - i ∧ w' = w4)
  case atStart => exact ⟨0, rfl, by omega, by omega, rfl⟩
  case round =>
    obtain ⟨i, rfl, hi, hk, rfl⟩ := hrel
    by_cases hlt : i < S.length
    · obtain ⟨ad, hA⟩ := hRS.some_at i hlt
      subst hA
      have hx := hRS.cell_int (Below.refl _ _) i hlt
      have hbx := HNO.out (rd S i) (rd_mem S i hlt)
      generalize hg : rd S i = x at *
      clear hg
      have c0 : (x == 126) = false := beq_eq_false_iff_ne.mpr hbx
      clear hbx
      go_wp2_with fail
      go_roundg (S.length - i)
      case measure => omega
      case rel => exact ⟨i + 1, by go_num, by omega, by omega, rfl⟩
    · have hi2 : i = S.length := by omega
      subst hi2
      go_wp2_with (first
        | (go_at_call 10; (with_reducible refine (unstuff_ok _ _ _ S _ HO4.rds (by have := hlen.out; have := HS1.out; omega)).mono ?_); rintro e w5 ⟨A5, c5, rfl, HO5, hn⟩; have HO45 := HO4.below hn; have HB5 := below_step HB4 hn; clear hn; rw [HUN.out, List.nil_append] at HO5 ⊢))
      have hr5 := (hr.below HB5)
      refine region_each (VT (fun i => match i with | 0 => .slice A4 S.length c4 | 1 => .string (strOfNums S) | 2 => .slice A0 n c | 4 => .string (strOfNums S) | 5 => .bool true | 6 => .bool true | 7 => .int .i64 0 | 8 => .int .i64 0 | 9 => .bool true | 10 => .bool true | 11 => .bool true | 12 => .slice A5 b.length c5 | 13 => .string (strOfNums b) | 14 => .slice A0 n c | 15 => .string (strOfNums b) | 16 => .bool true | 17 => .bool true | 18 => .bool true | _ => undef) [(3, S)]) (by kernel_rfl) (by kernel_rfl) (VT_stable _ _) ?_ ?_
      · refine ⟨?_, ?_, ?_, ?_, ?_, ?_, ?_, ?_, ?_, ?_, ?_, ?_, ?_, ?_, ?_, ?_, ?_, ?_, ?_, trivial⟩
        · intro a_ w_ st
          have e4 : a_.eval (.tmp 4) = .slice A4 S.length c4 := st.slot 4 (by kernel_rfl)
          exact op_yield (.slice A4 S.length c4) (wanted_none rfl _) (by simp only [execOp, e4]; rfl) rfl
        · intro a_ w_ st
          have e36 : a_.eval (.tmp 36) = .slice A4 S.length c4 := st.dep 0 _ 36 rfl rfl (by kernel_rfl)
          have hc_ := conv22 _ _ _ _ w_ (HO45.rds.below st.below)
          exact op_yield (.string (strOfNums S)) (wanted_none rfl _) (by simp [execOp, e36, hc_]) rfl
        · intro a_ w_ st
          have e0 : a_.eval (.tmp 0) = .slice A0 n c := st.slot 0 (by kernel_rfl)
          exact op_yield (.slice A0 n c) (wanted_none rfl _) (by simp only [execOp, e0]; rfl) rfl
        · intro a_ w_ st
          have e38 : a_.eval (.tmp 38) = .slice A0 n c := st.dep 2 _ 38 rfl rfl (by kernel_rfl)
          skip
          exact op_call Try.func11 (by kernel_rfl) rfl #[.slice A0 n c] (wanted_none rfl _) rfl (by simp [e38]) (calls_sl (by have h_ := stuffref_ok _ _ _ b w_ (hr5.below st.below) (by have := hlen.out; omega); rw [HSb.out] at h_; exact h_))
        · intro a_ w_ st
          obtain ⟨A39_, c39_, e39, h39_⟩ : IsSl S (a_.eval (.tmp 39)) w_ := st.dep 3 _ 39 rfl rfl (by kernel_rfl)
          have hc_ := conv22 _ _ _ _ w_ (h39_)
          exact op_yield (.string (strOfNums S)) (wanted_none rfl _) (by simp [execOp, e39, hc_]) rfl
        · intro a_ w_ st
          have e37 : a_.eval (.tmp 37) = .string (strOfNums S) := st.dep 1 _ 37 rfl rfl (by kernel_rfl)
          have e40 : a_.eval (.tmp 40) = .string (strOfNums S) := st.dep 4 _ 40 rfl rfl (by kernel_rfl)
          exact op_yield (.bool true) (wanted_none rfl _) (by simp only [execOp, e37, e40]; go_simp) rfl
        · intro a_ w_ st
          have e41 : a_.eval (.tmp 41) = .bool true := st.dep 5 _ 41 rfl rfl (by kernel_rfl)
          exact op_yield (.bool true) (wanted_none rfl _) (by simp only [execOp, e41]; rfl) rfl
        · intro a_ w_ st
          have e42 : a_.eval (.tmp 42) = .bool true := st.dep 6 _ 42 rfl rfl (by kernel_rfl)
          have e7 : a_.eval (.tmp 7) = .int .i64 0 := st.slot 7 (by kernel_rfl)
          exact op_yield (.int .i64 0) (wanted_some rfl (st.yields 6 _ 42 rfl rfl (of_decide_eq_true (by kernel_rfl)) true e42)) (by simp only [execOp, e42, e7]; rfl) rfl
        · intro a_ w_ st
          have e42 : a_.eval (.tmp 42) = .bool true := st.dep 6 _ 42 rfl rfl (by kernel_rfl)
          have e43 : a_.eval (.tmp 43) = .int .i64 0 := st.dep 7 _ 43 rfl rfl (by kernel_rfl)
          skip
          exact op_call Try.func12 (by kernel_rfl) rfl #[.int .i64 0] (wanted_some rfl (st.yields 6 _ 42 rfl rfl (of_decide_eq_true (by kernel_rfl)) true e42)) rfl (by simp [e42, e43]) (calls_same (num_ok _ _))
        · intro a_ w_ st
          have e42 : a_.eval (.tmp 42) = .bool true := st.dep 6 _ 42 rfl rfl (by kernel_rfl)
          have e44 : a_.eval (.tmp 44) = .int .i64 0 := st.dep 8 _ 44 rfl rfl (by kernel_rfl)
          exact op_yield (.bool true) (wanted_some rfl (st.yields 6 _ 42 rfl rfl (of_decide_eq_true (by kernel_rfl)) true e42)) (by simp only [execOp, e42, e44]; go_simp) rfl
        · intro a_ w_ st
          have e42 : a_.eval (.tmp 42) = .bool true := st.dep 6 _ 42 rfl rfl (by kernel_rfl)
          have e45 : a_.eval (.tmp 45) = .bool true := st.dep 9 _ 45 rfl rfl (by kernel_rfl)
          exact op_yield (.bool true) (wanted_none rfl _) (by simp only [execOp, e42, e45]; rfl) rfl
        · intro a_ w_ st
          have e46 : a_.eval (.tmp 46) = .bool true := st.dep 10 _ 46 rfl rfl (by kernel_rfl)
          exact op_yield (.bool true) (wanted_none rfl _) (by simp only [execOp, e46]; rfl) rfl
        · intro a_ w_ st
          have e47 : a_.eval (.tmp 47) = .bool true := st.dep 11 _ 47 rfl rfl (by kernel_rfl)
          have e6 : a_.eval (.tmp 6) = .slice A5 b.length c5 := st.slot 6 (by kernel_rfl)
          exact op_yield (.slice A5 b.length c5) (wanted_some rfl (st.yields 11 _ 47 rfl rfl (of_decide_eq_true (by kernel_rfl)) true e47)) (by simp only [execOp, e47, e6]; rfl) rfl
        · intro a_ w_ st
          have e47 : a_.eval (.tmp 47) = .bool true := st.dep 11 _ 47 rfl rfl (by kernel_rfl)
          have e48 : a_.eval (.tmp 48) = .slice A5 b.length c5 := st.dep 12 _ 48 rfl rfl (by kernel_rfl)
          have hc_ := conv22 _ _ _ _ w_ (HO5.rds.below st.below)
          exact op_yield (.string (strOfNums b)) (wanted_some rfl (st.yields 11 _ 47 rfl rfl (of_decide_eq_true (by kernel_rfl)) true e47)) (by simp [execOp, e47, e48, hc_]) rfl
        · intro a_ w_ st
          have e47 : a_.eval (.tmp 47) = .bool true := st.dep 11 _ 47 rfl rfl (by kernel_rfl)
          have e0 : a_.eval (.tmp 0) = .slice A0 n c := st.slot 0 (by kernel_rfl)
          exact op_yield (.slice A0 n c) (wanted_some rfl (st.yields 11 _ 47 rfl rfl (of_decide_eq_true (by kernel_rfl)) true e47)) (by simp only [execOp, e47, e0]; rfl) rfl
        · intro a_ w_ st
          have e47 : a_.eval (.tmp 47) = .bool true := st.dep 11 _ 47 rfl rfl (by kernel_rfl)
          have e50 : a_.eval (.tmp 50) = .slice A0 n c := st.dep 14 _ 50 rfl rfl (by kernel_rfl)
          have hc_ := conv22 _ _ _ _ w_ (hr5.below st.below)
          exact op_yield (.string (strOfNums b)) (wanted_some rfl (st.yields 11 _ 47 rfl rfl (of_decide_eq_true (by kernel_rfl)) true e47)) (by simp [execOp, e47, e50, hc_]) rfl
        · intro a_ w_ st
          have e47 : a_.eval (.tmp 47) = .bool true := st.dep 11 _ 47 rfl rfl (by kernel_rfl)
          have e49 : a_.eval (.tmp 49) = .string (strOfNums b) := st.dep 13 _ 49 rfl rfl (by kernel_rfl)
          have e51 : a_.eval (.tmp 51) = .string (strOfNums b) := st.dep 15 _ 51 rfl rfl (by kernel_rfl)
          exact op_yield (.bool true) (wanted_some rfl (st.yields 11 _ 47 rfl rfl (of_decide_eq_true (by kernel_rfl)) true e47)) (by simp only [execOp, e47, e49, e51]; go_simp) rfl
        · intro a_ w_ st
          have e47 : a_.eval (.tmp 47) = .bool true := st.dep 11 _ 47 rfl rfl (by kernel_rfl)
          have e52 : a_.eval (.tmp 52) = .bool true := st.dep 16 _ 52 rfl rfl (by kernel_rfl)
          exact op_yield (.bool true) (wanted_none rfl _) (by simp only [execOp, e47, e52]; rfl) rfl
        · intro a_ w_ st
          have e53 : a_.eval (.tmp 53) = .bool true := st.dep 17 _ 53 rfl rfl (by kernel_rfl)
          exact op_yield (.bool true) (wanted_none rfl _) (by simp only [execOp, e53]; rfl) rfl
      · intro a_ w_ st
        go_step
        go_step
        refine wp_ret ?_
        exact ⟨st.defers, _, results_tmp rfl _ _ _, ⟨by rw [show a_.tmps.getD 2 undef = .bool true from st.val 18 _ 2 rfl trivial rfl], below_step HB5 st.below⟩⟩

theorem walk (a0 : Option Addr) (len0 cap0 : Nat) (z0 : List Int) (W : World) (w0 : IsRow .u8 W a0 len0 cap0 z0) (_y0 : len0 * 1 ≤ 140737488351232) :
    Calls Try.prog 3 #[.slice a0 len0 cap0] W fun e w' => e = .returned (.bool true) ∧ Below W.heap.size W w' := by
  obtain ⟨l, hr, hm, hw⟩ := rds_of_row w0
  rcases Nat.lt_or_ge 500 len0 with h | h
  · exact st_long a0 len0 cap0 W h hm
  · exact st_short a0 len0 cap0 l W hr (fun x hx => wf_u8 (hw x hx)) h

end Go.Proofs.Ytlohfdmaeopdeaa.St3
