/- The law of Put: the walk. -/
import Derived.Test.YtlcemeligolabaaFmH
namespace Go.Proofs.Ytlcemeligolabaa.FmPutsW
open Go.RowKit Go.Proofs.YtlcemeligolabaaW.PrintWords Go.Proofs.YtlcemeligolabaaW.PrintLast Go.Proofs.YtlcemeligolabaaW.PrintMore Go.Proofs.Ytlcemeligolabaa.K Go.Proofs.Ytlcemeligolabaa.FmP Go.Proofs.Ytlcemeligolabaa.FmA Go.Proofs.Ytlcemeligolabaa.FmB Go.Proofs.Ytlcemeligolabaa.FmC Go.Proofs.Ytlcemeligolabaa.FmF Go.Proofs.Ytlcemeligolabaa.FmG Go.Proofs.Ytlcemeligolabaa.FmH Go.Proofs.Ytlcemeligolabaa.FcP Go.Proofs.Ytlcemeligolabaa.FcA Go.Proofs.Ytlcemeligolabaa.FcB Go.Proofs.Ytlcemeligolabaa.FcC Go.Proofs.Ytlcemeligolabaa.FcR Go.Proofs.Ytlcemeligolabaa.FcD Go.Proofs.Ytlcemeligolabaa.FcE Go.Proofs.Ytlcemeligolabaa.FcF Go.Proofs.Ytlcemeligolabaa.OctPure
set_option linter.unusedVariables false
set_option linter.unusedSimpArgs false
attribute [local go_sem] max2_int min2_int max_two min_two

section
variable {l : List Oper} {V : Nat → Value → World → Prop} {i : Nat} {o : Oper} {a' : Act} {w' : World}
/-- append onto nothing, as one operation of a region. -/
theorem op_append {A : Option Addr} {n c : Nat} {xs : List Int} (x : Operand) (hw : Region.wanted o (yielded l.toArray a'.tmps) = true) (ho : o.op = .call { callee := .builtin .append, args := #[.const (.slice none 0 0), x], argTypes := #[24, 24] })
    (hx : a'.eval x = .slice A n c) (hr : Rds (Kd.int .u8) w' A n c xs) (hl : n ≤ 140737488355328) (hV : ∀ v w'', IsSl xs v w'' → V i v w'') : OpOk Try.prog l V i o a' w' := by
  unfold OpOk
  rw [if_pos hw]
  intro K Q' hK
  have h := Kd.R_append_rows_step (ops := l.toArray) (Kc := K) (Q := Q') (Kd.int .u8) (Rr := fun x cs => cs = [Value.int .u8 x]) (w0 := w') w'.heap.size hw (.const (.slice none 0 0)) x 24 5 (.int .u8 0) 1 ho Try.underlying24 info5 rfl (by decide) (by decide) (.slice none 0 0) [] xs A n c (fun _ => True) (fun _ => False) rfl hx (Own.nil (Kd.int .u8) 5 _ _).out hr.row (fun x cs h => h) (fun _ h => h.elim) (fun _ _ => trivial) (Below.refl _ _) (Nat.le_refl _) (by simpa using hl) (fun v1 w1 h1 h2 _ _ => hK v1 w1 h2 (hV v1 w1 (by
    have ho := Own.mk h1
    rw [List.nil_append] at ho
    obtain ⟨A1, c1, rfl, _⟩ := ho.slice
    exact ⟨A1, c1, rfl, ho.rds⟩)))
  rwa [if_pos hw] at h
end
set_option maxHeartbeats 8000000 in
set_option maxRecDepth 100000 in
theorem puts_in (A : Option Addr) (n c : Nat) (l : List Int) (wide : Bool) (w : World) (hr : Rds (Kd.int .u8) w A n c l) (hl : octOk l) (hn : n ≤ 500) :
    Calls Try.prog 6 #[.slice A n c, .bool wide] w fun e w' => e = .returned (.bool true) ∧ Below w.heap.size w w' := by
  have HR := Aside0.mk hr
  have HL := Aside0.mk hl
  obtain ⟨F, hF⟩ : ∃ F, F = frameL l wide := ⟨_, rfl⟩
  have PX := Aside0.mk (fun A1 (w' : World) c1 (hb : Rds (Kd.int .u8) w' A1 l.length c1 l) => (show Calls Try.prog 11 #[.slice A1 l.length c1, .bool wide] w' fun e w'' => ∃ v, e = .returned v ∧ Own (Kd.int .u8) 5 w'.heap.size w'' v F ∧ Below w'.heap.size w' w'' by rw [hF]; exact fput_ok A1 _ c1 l wide w' hb hl (by have := hr.len; omega)))
  have FX := Aside0.mk (fun w' (hb : Below w.heap.size w w') => (show Calls Try.prog 13 #[.slice A n c, .bool wide] w' fun e w'' => ∃ v, e = .returned v ∧ Own (Kd.int .u8) 5 w'.heap.size w'' v F ∧ Below w'.heap.size w' w'' by rw [hF]; exact rframe_ok A n c l wide w' (hr.below hb) hl (by omega)))
  clear hr hl hF
  go_enter Try.func6, Try.ntmps6
  go_wp2_with (first | (go_at_call 10; (with_reducible refine (alive_ok _).mono ?_); rintro e w1 ⟨rfl, hb1⟩; have HB1 := Aside0.mk hb1; clear hb1))
  refine region_each (VT (fun i => match i with | 0 => .slice A n c | 2 => .bool wide | 4 => .string (strOfNums F) | 5 => .slice A n c | 6 => .bool wide | 8 => .string (strOfNums F) | 9 => .bool true | 10 => .bool true | _ => undef) [(1, l), (3, F), (7, F)]) (by kernel_rfl) (by kernel_rfl) (VT_stable _ _) ?_ ?_
  · refine ⟨?_, ?_, ?_, ?_, ?_, ?_, ?_, ?_, ?_, ?_, ?_, trivial⟩
    · intro a_ w_ st
      have e0 : a_.eval (.tmp 0) = .slice A n c := st.slot 0 (by kernel_rfl)
      exact op_yield (.slice A n c) (wanted_none rfl _) (by simp only [execOp, e0]; rfl) rfl
    · intro a_ w_ st
      have e15 : a_.eval (.tmp 15) = .slice A n c := st.dep 0 _ 15 rfl rfl (by kernel_rfl)
      exact op_append (.tmp 15) (wanted_none rfl _) rfl e15 (HR.out.below (below_step HB1.out st.below)) (by omega) (fun _ _ h => h)
    · intro a_ w_ st
      have e1 : a_.eval (.tmp 1) = .bool wide := st.slot 1 (by kernel_rfl)
      exact op_yield (.bool wide) (wanted_none rfl _) (by simp only [execOp, e1]; rfl) rfl
    · intro a_ w_ st
      obtain ⟨A16_, c16_, e16, h16_⟩ : IsSl l (a_.eval (.tmp 16)) w_ := st.dep 1 _ 16 rfl rfl (by kernel_rfl)
      have e17 : a_.eval (.tmp 17) = .bool wide := st.dep 2 _ 17 rfl rfl (by kernel_rfl)
      skip
      exact op_call Try.func11 (by kernel_rfl) rfl #[.slice A16_ _ c16_, .bool wide] (wanted_none rfl _) rfl (by simp [e16, e17]) (calls_slx (PX.out _ w_ _ h16_))
    · intro a_ w_ st
      obtain ⟨A18_, c18_, e18, h18_⟩ : IsSl F (a_.eval (.tmp 18)) w_ := st.dep 3 _ 18 rfl rfl (by kernel_rfl)
      have hc_ := conv22 _ _ _ _ w_ (h18_)
      exact op_yield (.string (strOfNums F)) (wanted_none rfl _) (by simp [execOp, e18, hc_]) rfl
    · intro a_ w_ st
      have e0 : a_.eval (.tmp 0) = .slice A n c := st.slot 0 (by kernel_rfl)
      exact op_yield (.slice A n c) (wanted_none rfl _) (by simp only [execOp, e0]; rfl) rfl
    · intro a_ w_ st
      have e1 : a_.eval (.tmp 1) = .bool wide := st.slot 1 (by kernel_rfl)
      exact op_yield (.bool wide) (wanted_none rfl _) (by simp only [execOp, e1]; rfl) rfl
    · intro a_ w_ st
      have e20 : a_.eval (.tmp 20) = .slice A n c := st.dep 5 _ 20 rfl rfl (by kernel_rfl)
      have e21 : a_.eval (.tmp 21) = .bool wide := st.dep 6 _ 21 rfl rfl (by kernel_rfl)
      skip
      exact op_call Try.func13 (by kernel_rfl) rfl #[.slice A n c, .bool wide] (wanted_none rfl _) rfl (by simp [e20, e21]) (calls_slx (FX.out w_ (below_step HB1.out st.below)))
    · intro a_ w_ st
      obtain ⟨A22_, c22_, e22, h22_⟩ : IsSl F (a_.eval (.tmp 22)) w_ := st.dep 7 _ 22 rfl rfl (by kernel_rfl)
      have hc_ := conv22 _ _ _ _ w_ (h22_)
      exact op_yield (.string (strOfNums F)) (wanted_none rfl _) (by simp [execOp, e22, hc_]) rfl
    · intro a_ w_ st
      have e19 : a_.eval (.tmp 19) = .string (strOfNums F) := st.dep 4 _ 19 rfl rfl (by kernel_rfl)
      have e23 : a_.eval (.tmp 23) = .string (strOfNums F) := st.dep 8 _ 23 rfl rfl (by kernel_rfl)
      exact op_yield (.bool true) (wanted_none rfl _) (by simp only [execOp, e19, e23]; go_simp) rfl
    · intro a_ w_ st
      have e24 : a_.eval (.tmp 24) = .bool true := st.dep 9 _ 24 rfl rfl (by kernel_rfl)
      exact op_yield (.bool true) (wanted_none rfl _) (by simp only [execOp, e24]; rfl) rfl
  · intro a_ w_ st
    go_step
    go_step
    refine wp_ret ?_
    exact ⟨st.defers, _, results_tmp rfl _ _ _, ⟨by rw [show a_.tmps.getD 4 undef = .bool true from st.val 10 _ 4 rfl trivial rfl], below_step HB1.out st.below⟩⟩

set_option maxHeartbeats 8000000 in
set_option maxRecDepth 100000 in
theorem puts_long (A : Option Addr) (n c : Nat) (wide : Bool) (w : World) (hl : 500 < n) (hm : n ≤ 9223372036854775807) :
    Calls Try.prog 6 #[.slice A n c, .bool wide] w fun e w' => e = .returned (.bool true) ∧ Below w.heap.size w w' := by
  have h1 : (500 : Int) < (n : Int) := by omega
  clear hl
  go_enter Try.func6, Try.ntmps6
  go_wp2_with (first | (go_at_call 10; (with_reducible refine (alive_ok _).mono ?_); rintro e w1 ⟨rfl, hb1⟩; have HB1 := Aside0.mk hb1; clear hb1))
  go_ret
  exact ⟨rfl, HB1.out⟩
theorem walk (a0 : Option Addr) (len0 cap0 : Nat) (z0 : List Int) (a1 : Bool) (W : World) (w0 : IsRow .u8 W a0 len0 cap0 z0) (_y0 : len0 * 1 ≤ 140737488351232) :
    Calls Try.prog 6 #[.slice a0 len0 cap0, .bool a1] W fun e w' => e = .returned (.bool true) ∧ Below W.heap.size W w' := by
  obtain ⟨l, hr, hm, hw⟩ := rds_of_row w0
  rcases Nat.lt_or_ge 500 len0 with h | h
  · exact puts_long a0 len0 cap0 a1 W h hm
  · exact puts_in a0 len0 cap0 l a1 W hr (fun x hx => wf_u8 (hw x hx)) h

end Go.Proofs.Ytlcemeligolabaa.FmPutsW
