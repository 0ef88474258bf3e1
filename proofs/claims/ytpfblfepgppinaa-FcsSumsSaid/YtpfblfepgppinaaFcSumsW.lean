/- Both sums of any bytes, and what they look like behind them: the walk. -/
import Derived.Test.YtpfblfepgppinaaFcF
namespace Go.Proofs.Ytpfblfepgppinaa.FcSumsW
open Go.RowKit Go.Proofs.YtpfblfepgppinaaW.PrintWords Go.Proofs.YtpfblfepgppinaaW.PrintLast Go.Proofs.YtpfblfepgppinaaW.PrintMore Go.Proofs.Ytpfblfepgppinaa.K Go.Proofs.Ytpfblfepgppinaa.FcP Go.Proofs.Ytpfblfepgppinaa.FcA Go.Proofs.Ytpfblfepgppinaa.FcB Go.Proofs.Ytpfblfepgppinaa.FcC Go.Proofs.Ytpfblfepgppinaa.FcR Go.Proofs.Ytpfblfepgppinaa.FcD Go.Proofs.Ytpfblfepgppinaa.FcE Go.Proofs.Ytpfblfepgppinaa.FcF
set_option linter.unusedVariables false
set_option linter.unusedSimpArgs false
attribute [local go_sem] max2_int min2_int max_two min_two

theorem calls_samex {f : FuncId} {args : Array Value} {w : World} {c : Value} (h : Calls Try.prog f args w fun e w' => e = .returned c ∧ w = w') : Calls Try.prog f args w fun e w' => ∃ v, e = .returned v ∧ Below w.heap.size w w' ∧ v = c :=
  h.mono fun e w' ⟨he, hw⟩ => ⟨c, he, hw ▸ Below.refl _ _, rfl⟩
set_option maxHeartbeats 8000000 in
set_option maxRecDepth 100000 in
theorem num_ok (x : Int) (w : World) : Calls Try.prog 15 #[.int .i64 x] w fun e w' => e = .returned (.int .i64 x) ∧ w = w' := by
  go_enter Try.func15, Try.ntmps15
  go_wp2
  go_ret
  exact ⟨rfl, rfl⟩
theorem both_b {l m : List Int} (h1 : ∀ x ∈ l, 0 ≤ x ∧ x ≤ 255) (h2 : ∀ x ∈ m, 0 ≤ x ∧ x ≤ 255) : ∀ x ∈ l ++ m, 0 ≤ x ∧ x ≤ 255 := by
  intro x hx
  rcases List.mem_append.1 hx with h | h
  · exact h1 x h
  · exact h2 x h
theorem check_put (A : Option Addr) (L c n : Nat) (l : List Int) (wide : Bool) (w : World) (hr : Rds (Kd.int .u8) w A L c (l ++ tailL l wide)) (hl : ∀ x ∈ l, 0 ≤ x ∧ x ≤ 255) (hn : n ≤ 500) (hln : l.length = n) :
    Calls Try.prog 13 #[.slice A L c, .bool wide] w fun e w' => ∃ v, e = .returned (.tuple #[v, .int .i64 0]) ∧ Own (Kd.int .u8) 5 w.heap.size w' v l ∧ Below w.heap.size w w' := by
  have hs := sizeT_le wide
  have hL : L = n + sizeT wide := by rw [hr.len, List.length_append, tailL_len, hln]
  have h := check_good A L c n (l ++ tailL l wide) wide w hr (both_b hl (tailL_b l wide)) (by omega) hL
  have e1 : (l ++ tailL l wide).take n = l := by rw [← hln]; simp
  have e2 : (l ++ tailL l wide).drop n = tailL l wide := by rw [← hln]; simp
  rw [e1, e2] at h
  exact h rfl
set_option maxHeartbeats 8000000 in
set_option maxRecDepth 100000 in
theorem sums_in (A : Option Addr) (n c : Nat) (l : List Int) (wide : Bool) (w : World) (hr : Rds (Kd.int .u8) w A n c l) (hl : ∀ x ∈ l, 0 ≤ x ∧ x ≤ 255) (hn : n ≤ 500) :
    Calls Try.prog 8 #[.slice A n c, .bool wide] w fun e w' => e = .returned (.bool true) ∧ Below w.heap.size w w' := by
  have HR := Aside0.mk hr
  have HL := Aside0.mk hl
  have HLN := Aside0.mk hr.len.symm
  obtain ⟨P, hP⟩ : ∃ P, P = l ++ tailL l wide := ⟨_, rfl⟩
  have HP := Aside0.mk hP
  obtain ⟨L, hL⟩ : ∃ L, P.length = L := ⟨_, rfl⟩
  have LL := Aside0.mk hL
  have RPX := Aside0.mk (fun w' (hb : Below w.heap.size w w') => (show Calls Try.prog 16 #[.slice A n c, .bool wide] w' fun e w'' => ∃ v, e = .returned v ∧ Own (Kd.int .u8) 5 w'.heap.size w'' v P ∧ Below w'.heap.size w' w'' by rw [hP]; exact rput_ok A n c l wide w' (hr.below hb) hl (by omega)))
  have hs : L ≤ 504 := by rw [← hL, hP, List.length_append, tailL_len]; have := sizeT_le wide; have := hr.len; omega
  clear hr hl hL hP
  go_enter Try.func8, Try.ntmps8
  go_wp2_with (first
      | (go_at_call 9; (with_reducible refine (alive_ok _).mono ?_); rintro e w1 ⟨rfl, hb1⟩; have HB1 := Aside0.mk hb1; clear hb1)
      | (at_builtin; refine app_rowi Try.underlying22 info5 rfl (by decide) (.const (.slice none 0 0)) (.tmp 18) rfl rfl rfl rfl (Own.nil (Kd.int .u8) 5 w.heap.size w1) (HR.out.below HB1.out) HB1.out HB1.out.size (by simp; omega) ?_; intro v2 w2 ho hb _; obtain ⟨A2, c2, hv, _⟩ := ho.sliceN (n := n) (by simpa using HLN.out); subst hv; have O2 := Aside0.mk (show Own (Kd.int .u8) 5 w.heap.size w2 (.slice A2 n c2) l by simpa using ho); have HB2 := Aside0.mk hb; clear ho hb)
      | (go_at_call 12; have hcall := put_ok A2 n c2 l wide w2 O2.out.rds HL.out (by omega); rw [← HP.out] at hcall; (with_reducible refine hcall.mono ?_); clear hcall; rintro e w3 ⟨v3, rfl, ho, hb⟩; obtain ⟨A3, c3, hv3, _⟩ := ho.sliceN LL.out; subst hv3; have O3 := Aside0.mk ho; have HB3 := Aside0.mk (below_step HB2.out hb); clear hb ho)
      | (go_at_call 13; have hcall := check_put A3 L c3 n l wide w3 (HP.out ▸ O3.out.rds) HL.out (by omega) HLN.out; (with_reducible refine hcall.mono ?_); clear hcall; rintro e w4 ⟨v4, rfl, ho, hb⟩; obtain ⟨A4, c4, hv4, _⟩ := ho.sliceN HLN.out; subst hv4; have O4 := Aside0.mk ho; have P4 := Aside0.mk (O3.out.below hb); have HB4 := Aside0.mk (below_step HB3.out hb); clear hb ho))
  refine region_each (VT (fun i => match i with | 0 => .slice A n c | 1 => .int .u16 ((shortN l : Nat) : Int) | 2 => .slice A n c | 3 => .int .u16 ((shortN l : Nat) : Int) | 4 => .bool true | 5 => .bool true | 6 => .slice A n c | 7 => .int .u32 ((longN l : Nat) : Int) | 8 => .slice A n c | 9 => .int .u32 ((longN l : Nat) : Int) | 10 => .bool true | 11 => .bool true | 12 => .bool true | 13 => .slice A3 L c3 | 14 => .string (strOfNums P) | 15 => .slice A n c | 16 => .bool wide | 18 => .string (strOfNums P) | 19 => .bool true | 20 => .bool true | 21 => .bool true | 22 => .int .i64 0 | 23 => .int .i64 0 | 24 => .bool true | 25 => .bool true | 26 => .bool true | 27 => .slice A4 n c4 | 28 => .string (strOfNums l) | 29 => .slice A n c | 30 => .string (strOfNums l) | 31 => .bool true | 32 => .bool true | 33 => .bool true | _ => undef) [(17, P)]) (by kernel_rfl) (by kernel_rfl) (VT_stable _ _) ?_ ?_
  · refine ⟨?_, ?_, ?_, ?_, ?_, ?_, ?_, ?_, ?_, ?_, ?_, ?_, ?_, ?_, ?_, ?_, ?_, ?_, ?_, ?_, ?_, ?_, ?_, ?_, ?_, ?_, ?_, ?_, ?_, ?_, ?_, ?_, ?_, ?_, trivial⟩
    · intro a_ w_ st
      have e0 : a_.eval (.tmp 0) = .slice A n c := st.slot 0 (by kernel_rfl)
      exact op_yield (.slice A n c) (wanted_none rfl _) (by simp only [execOp, e0]; rfl) rfl
    · intro a_ w_ st
      have e28 : a_.eval (.tmp 28) = .slice A n c := st.dep 0 _ 28 rfl rfl (by kernel_rfl)
      skip
      exact op_call Try.func10 (by kernel_rfl) rfl #[.slice A n c] (wanted_none rfl _) rfl (by simp [e28]) (calls_samex (short_ok A n c l w_ (HR.out.below (below_step HB4.out st.below)) HL.out (by omega)))
    · intro a_ w_ st
      have e0 : a_.eval (.tmp 0) = .slice A n c := st.slot 0 (by kernel_rfl)
      exact op_yield (.slice A n c) (wanted_none rfl _) (by simp only [execOp, e0]; rfl) rfl
    · intro a_ w_ st
      have e30 : a_.eval (.tmp 30) = .slice A n c := st.dep 2 _ 30 rfl rfl (by kernel_rfl)
      skip
      exact op_call Try.func17 (by kernel_rfl) rfl #[.slice A n c] (wanted_none rfl _) rfl (by simp [e30]) (calls_samex (rshort_ok A n c l w_ (HR.out.below (below_step HB4.out st.below)) HL.out (by omega)))
    · intro a_ w_ st
      have e29 : a_.eval (.tmp 29) = .int .u16 ((shortN l : Nat) : Int) := st.dep 1 _ 29 rfl rfl (by kernel_rfl)
      have e31 : a_.eval (.tmp 31) = .int .u16 ((shortN l : Nat) : Int) := st.dep 3 _ 31 rfl rfl (by kernel_rfl)
      exact op_yield (.bool true) (wanted_none rfl _) (by simp only [execOp, e29, e31]; go_simp) rfl
    · intro a_ w_ st
      have e32 : a_.eval (.tmp 32) = .bool true := st.dep 4 _ 32 rfl rfl (by kernel_rfl)
      exact op_yield (.bool true) (wanted_none rfl _) (by simp only [execOp, e32]; rfl) rfl
    · intro a_ w_ st
      have e33 : a_.eval (.tmp 33) = .bool true := st.dep 5 _ 33 rfl rfl (by kernel_rfl)
      have e0 : a_.eval (.tmp 0) = .slice A n c := st.slot 0 (by kernel_rfl)
      exact op_yield (.slice A n c) (wanted_some rfl (st.yields 5 _ 33 rfl rfl (of_decide_eq_true (by kernel_rfl)) true e33)) (by simp only [execOp, e33, e0]; rfl) rfl
    · intro a_ w_ st
      have e33 : a_.eval (.tmp 33) = .bool true := st.dep 5 _ 33 rfl rfl (by kernel_rfl)
      have e34 : a_.eval (.tmp 34) = .slice A n c := st.dep 6 _ 34 rfl rfl (by kernel_rfl)
      skip
      exact op_call Try.func11 (by kernel_rfl) rfl #[.slice A n c] (wanted_some rfl (st.yields 5 _ 33 rfl rfl (of_decide_eq_true (by kernel_rfl)) true e33)) rfl (by simp [e33, e34]) (calls_samex (long_ok A n c l w_ (HR.out.below (below_step HB4.out st.below)) HL.out (by omega)))
    · intro a_ w_ st
      have e33 : a_.eval (.tmp 33) = .bool true := st.dep 5 _ 33 rfl rfl (by kernel_rfl)
      have e0 : a_.eval (.tmp 0) = .slice A n c := st.slot 0 (by kernel_rfl)
      exact op_yield (.slice A n c) (wanted_some rfl (st.yields 5 _ 33 rfl rfl (of_decide_eq_true (by kernel_rfl)) true e33)) (by simp only [execOp, e33, e0]; rfl) rfl
    · intro a_ w_ st
      have e33 : a_.eval (.tmp 33) = .bool true := st.dep 5 _ 33 rfl rfl (by kernel_rfl)
      have e36 : a_.eval (.tmp 36) = .slice A n c := st.dep 8 _ 36 rfl rfl (by kernel_rfl)
      skip
      exact op_call Try.func18 (by kernel_rfl) rfl #[.slice A n c] (wanted_some rfl (st.yields 5 _ 33 rfl rfl (of_decide_eq_true (by kernel_rfl)) true e33)) rfl (by simp [e33, e36]) (calls_samex (rlong_ok A n c l w_ (HR.out.below (below_step HB4.out st.below)) HL.out (by omega)))
    · intro a_ w_ st
      have e33 : a_.eval (.tmp 33) = .bool true := st.dep 5 _ 33 rfl rfl (by kernel_rfl)
      have e35 : a_.eval (.tmp 35) = .int .u32 ((longN l : Nat) : Int) := st.dep 7 _ 35 rfl rfl (by kernel_rfl)
      have e37 : a_.eval (.tmp 37) = .int .u32 ((longN l : Nat) : Int) := st.dep 9 _ 37 rfl rfl (by kernel_rfl)
      exact op_yield (.bool true) (wanted_some rfl (st.yields 5 _ 33 rfl rfl (of_decide_eq_true (by kernel_rfl)) true e33)) (by simp only [execOp, e33, e35, e37]; go_simp) rfl
    · intro a_ w_ st
      have e33 : a_.eval (.tmp 33) = .bool true := st.dep 5 _ 33 rfl rfl (by kernel_rfl)
      have e38 : a_.eval (.tmp 38) = .bool true := st.dep 10 _ 38 rfl rfl (by kernel_rfl)
      exact op_yield (.bool true) (wanted_none rfl _) (by simp only [execOp, e33, e38]; rfl) rfl
    · intro a_ w_ st
      have e39 : a_.eval (.tmp 39) = .bool true := st.dep 11 _ 39 rfl rfl (by kernel_rfl)
      exact op_yield (.bool true) (wanted_none rfl _) (by simp only [execOp, e39]; rfl) rfl
    · intro a_ w_ st
      have e40 : a_.eval (.tmp 40) = .bool true := st.dep 12 _ 40 rfl rfl (by kernel_rfl)
      have e6 : a_.eval (.tmp 6) = .slice A3 L c3 := st.slot 6 (by kernel_rfl)
      exact op_yield (.slice A3 L c3) (wanted_some rfl (st.yields 12 _ 40 rfl rfl (of_decide_eq_true (by kernel_rfl)) true e40)) (by simp only [execOp, e40, e6]; rfl) rfl
    · intro a_ w_ st
      have e40 : a_.eval (.tmp 40) = .bool true := st.dep 12 _ 40 rfl rfl (by kernel_rfl)
      have e41 : a_.eval (.tmp 41) = .slice A3 L c3 := st.dep 13 _ 41 rfl rfl (by kernel_rfl)
      have hc_ := conv22 _ _ _ _ w_ (P4.out.rds.below st.below)
      exact op_yield (.string (strOfNums P)) (wanted_some rfl (st.yields 12 _ 40 rfl rfl (of_decide_eq_true (by kernel_rfl)) true e40)) (by simp [execOp, e40, e41, hc_]) rfl
    · intro a_ w_ st
      have e40 : a_.eval (.tmp 40) = .bool true := st.dep 12 _ 40 rfl rfl (by kernel_rfl)
      have e0 : a_.eval (.tmp 0) = .slice A n c := st.slot 0 (by kernel_rfl)
      exact op_yield (.slice A n c) (wanted_some rfl (st.yields 12 _ 40 rfl rfl (of_decide_eq_true (by kernel_rfl)) true e40)) (by simp only [execOp, e40, e0]; rfl) rfl
    · intro a_ w_ st
      have e40 : a_.eval (.tmp 40) = .bool true := st.dep 12 _ 40 rfl rfl (by kernel_rfl)
      have e1 : a_.eval (.tmp 1) = .bool wide := st.slot 1 (by kernel_rfl)
      exact op_yield (.bool wide) (wanted_some rfl (st.yields 12 _ 40 rfl rfl (of_decide_eq_true (by kernel_rfl)) true e40)) (by simp only [execOp, e40, e1]; rfl) rfl
    · intro a_ w_ st
      have e40 : a_.eval (.tmp 40) = .bool true := st.dep 12 _ 40 rfl rfl (by kernel_rfl)
      have e43 : a_.eval (.tmp 43) = .slice A n c := st.dep 15 _ 43 rfl rfl (by kernel_rfl)
      have e44 : a_.eval (.tmp 44) = .bool wide := st.dep 16 _ 44 rfl rfl (by kernel_rfl)
      skip
      exact op_call Try.func16 (by kernel_rfl) rfl #[.slice A n c, .bool wide] (wanted_some rfl (st.yields 12 _ 40 rfl rfl (of_decide_eq_true (by kernel_rfl)) true e40)) rfl (by simp [e40, e43, e44]) (calls_slx (RPX.out w_ (below_step HB4.out st.below)))
    · intro a_ w_ st
      have e40 : a_.eval (.tmp 40) = .bool true := st.dep 12 _ 40 rfl rfl (by kernel_rfl)
      obtain ⟨A45_, c45_, e45, h45_⟩ : IsSl P (a_.eval (.tmp 45)) w_ := st.dep 17 _ 45 rfl rfl (by kernel_rfl)
      have hc_ := conv22 _ _ _ _ w_ (h45_)
      exact op_yield (.string (strOfNums P)) (wanted_some rfl (st.yields 12 _ 40 rfl rfl (of_decide_eq_true (by kernel_rfl)) true e40)) (by simp [execOp, e40, e45, hc_]) rfl
    · intro a_ w_ st
      have e40 : a_.eval (.tmp 40) = .bool true := st.dep 12 _ 40 rfl rfl (by kernel_rfl)
      have e42 : a_.eval (.tmp 42) = .string (strOfNums P) := st.dep 14 _ 42 rfl rfl (by kernel_rfl)
      have e46 : a_.eval (.tmp 46) = .string (strOfNums P) := st.dep 18 _ 46 rfl rfl (by kernel_rfl)
      exact op_yield (.bool true) (wanted_some rfl (st.yields 12 _ 40 rfl rfl (of_decide_eq_true (by kernel_rfl)) true e40)) (by simp only [execOp, e40, e42, e46]; go_simp) rfl
    · intro a_ w_ st
      have e40 : a_.eval (.tmp 40) = .bool true := st.dep 12 _ 40 rfl rfl (by kernel_rfl)
      have e47 : a_.eval (.tmp 47) = .bool true := st.dep 19 _ 47 rfl rfl (by kernel_rfl)
      exact op_yield (.bool true) (wanted_none rfl _) (by simp only [execOp, e40, e47]; rfl) rfl
    · intro a_ w_ st
      have e48 : a_.eval (.tmp 48) = .bool true := st.dep 20 _ 48 rfl rfl (by kernel_rfl)
      exact op_yield (.bool true) (wanted_none rfl _) (by simp only [execOp, e48]; rfl) rfl
    · intro a_ w_ st
      have e49 : a_.eval (.tmp 49) = .bool true := st.dep 21 _ 49 rfl rfl (by kernel_rfl)
      have e8 : a_.eval (.tmp 8) = .int .i64 0 := st.slot 8 (by kernel_rfl)
      exact op_yield (.int .i64 0) (wanted_some rfl (st.yields 21 _ 49 rfl rfl (of_decide_eq_true (by kernel_rfl)) true e49)) (by simp only [execOp, e49, e8]; rfl) rfl
    · intro a_ w_ st
      have e49 : a_.eval (.tmp 49) = .bool true := st.dep 21 _ 49 rfl rfl (by kernel_rfl)
      have e50 : a_.eval (.tmp 50) = .int .i64 0 := st.dep 22 _ 50 rfl rfl (by kernel_rfl)
      skip
      exact op_call Try.func15 (by kernel_rfl) rfl #[.int .i64 0] (wanted_some rfl (st.yields 21 _ 49 rfl rfl (of_decide_eq_true (by kernel_rfl)) true e49)) rfl (by simp [e49, e50]) (calls_samex (num_ok _ _))
    · intro a_ w_ st
      have e49 : a_.eval (.tmp 49) = .bool true := st.dep 21 _ 49 rfl rfl (by kernel_rfl)
      have e51 : a_.eval (.tmp 51) = .int .i64 0 := st.dep 23 _ 51 rfl rfl (by kernel_rfl)
      exact op_yield (.bool true) (wanted_some rfl (st.yields 21 _ 49 rfl rfl (of_decide_eq_true (by kernel_rfl)) true e49)) (by simp only [execOp, e49, e51]; go_simp) rfl
    · intro a_ w_ st
      have e49 : a_.eval (.tmp 49) = .bool true := st.dep 21 _ 49 rfl rfl (by kernel_rfl)
      have e52 : a_.eval (.tmp 52) = .bool true := st.dep 24 _ 52 rfl rfl (by kernel_rfl)
      exact op_yield (.bool true) (wanted_none rfl _) (by simp only [execOp, e49, e52]; rfl) rfl
    · intro a_ w_ st
      have e53 : a_.eval (.tmp 53) = .bool true := st.dep 25 _ 53 rfl rfl (by kernel_rfl)
      exact op_yield (.bool true) (wanted_none rfl _) (by simp only [execOp, e53]; rfl) rfl
    · intro a_ w_ st
      have e54 : a_.eval (.tmp 54) = .bool true := st.dep 26 _ 54 rfl rfl (by kernel_rfl)
      have e7 : a_.eval (.tmp 7) = .slice A4 n c4 := st.slot 7 (by kernel_rfl)
      exact op_yield (.slice A4 n c4) (wanted_some rfl (st.yields 26 _ 54 rfl rfl (of_decide_eq_true (by kernel_rfl)) true e54)) (by simp only [execOp, e54, e7]; rfl) rfl
    · intro a_ w_ st
      have e54 : a_.eval (.tmp 54) = .bool true := st.dep 26 _ 54 rfl rfl (by kernel_rfl)
      have e55 : a_.eval (.tmp 55) = .slice A4 n c4 := st.dep 27 _ 55 rfl rfl (by kernel_rfl)
      have hc_ := conv22 _ _ _ _ w_ (O4.out.rds.below st.below)
      exact op_yield (.string (strOfNums l)) (wanted_some rfl (st.yields 26 _ 54 rfl rfl (of_decide_eq_true (by kernel_rfl)) true e54)) (by simp [execOp, e54, e55, hc_]) rfl
    · intro a_ w_ st
      have e54 : a_.eval (.tmp 54) = .bool true := st.dep 26 _ 54 rfl rfl (by kernel_rfl)
      have e0 : a_.eval (.tmp 0) = .slice A n c := st.slot 0 (by kernel_rfl)
      exact op_yield (.slice A n c) (wanted_some rfl (st.yields 26 _ 54 rfl rfl (of_decide_eq_true (by kernel_rfl)) true e54)) (by simp only [execOp, e54, e0]; rfl) rfl
    · intro a_ w_ st
      have e54 : a_.eval (.tmp 54) = .bool true := st.dep 26 _ 54 rfl rfl (by kernel_rfl)
      have e57 : a_.eval (.tmp 57) = .slice A n c := st.dep 29 _ 57 rfl rfl (by kernel_rfl)
      have hc_ := conv22 _ _ _ _ w_ ((HR.out.below (below_step HB4.out st.below)))
      exact op_yield (.string (strOfNums l)) (wanted_some rfl (st.yields 26 _ 54 rfl rfl (of_decide_eq_true (by kernel_rfl)) true e54)) (by simp [execOp, e54, e57, hc_]) rfl
    · intro a_ w_ st
      have e54 : a_.eval (.tmp 54) = .bool true := st.dep 26 _ 54 rfl rfl (by kernel_rfl)
      have e56 : a_.eval (.tmp 56) = .string (strOfNums l) := st.dep 28 _ 56 rfl rfl (by kernel_rfl)
      have e58 : a_.eval (.tmp 58) = .string (strOfNums l) := st.dep 30 _ 58 rfl rfl (by kernel_rfl)
      exact op_yield (.bool true) (wanted_some rfl (st.yields 26 _ 54 rfl rfl (of_decide_eq_true (by kernel_rfl)) true e54)) (by simp only [execOp, e54, e56, e58]; go_simp) rfl
    · intro a_ w_ st
      have e54 : a_.eval (.tmp 54) = .bool true := st.dep 26 _ 54 rfl rfl (by kernel_rfl)
      have e59 : a_.eval (.tmp 59) = .bool true := st.dep 31 _ 59 rfl rfl (by kernel_rfl)
      exact op_yield (.bool true) (wanted_none rfl _) (by simp only [execOp, e54, e59]; rfl) rfl
    · intro a_ w_ st
      have e60 : a_.eval (.tmp 60) = .bool true := st.dep 32 _ 60 rfl rfl (by kernel_rfl)
      exact op_yield (.bool true) (wanted_none rfl _) (by simp only [execOp, e60]; rfl) rfl
  · intro a_ w_ st
    go_step
    go_step
    refine wp_ret ?_
    exact ⟨st.defers, _, results_tmp rfl _ _ _, ⟨by rw [show a_.tmps.getD 4 undef = .bool true from st.val 33 _ 4 rfl trivial rfl], below_step HB4.out st.below⟩⟩

set_option maxHeartbeats 8000000 in
set_option maxRecDepth 100000 in
theorem sums_long (A : Option Addr) (n c : Nat) (wide : Bool) (w : World) (hl : 500 < n) (hm : n ≤ 9223372036854775807) :
    Calls Try.prog 8 #[.slice A n c, .bool wide] w fun e w' => e = .returned (.bool true) ∧ Below w.heap.size w w' := by
  have h1 : (500 : Int) < (n : Int) := by omega
  clear hl
  go_enter Try.func8, Try.ntmps8
  go_wp2_with (first
      | (go_at_call 9; (with_reducible refine (alive_ok _).mono ?_); rintro e w1 ⟨rfl, hb1⟩; have HB1 := Aside0.mk hb1; clear hb1))
  go_ret
  exact ⟨rfl, HB1.out⟩
theorem walk (a0 : Option Addr) (len0 cap0 : Nat) (z0 : List Int) (a1 : Bool) (W : World) (w0 : IsRow .u8 W a0 len0 cap0 z0) (_y0 : len0 * 1 ≤ 140737488351232) :
    Calls Try.prog 8 #[.slice a0 len0 cap0, .bool a1] W fun e w' => e = .returned (.bool true) ∧ Below W.heap.size W w' := by
  obtain ⟨l, hr, hm, hw⟩ := rds_of_row w0
  rcases Nat.lt_or_ge 500 len0 with h | h
  · exact sums_long a0 len0 cap0 a1 W h hm
  · exact sums_in a0 len0 cap0 l a1 W hr (fun x hx => wf_u8 (hw x hx)) h

end Go.Proofs.Ytpfblfepgppinaa.FcSumsW
