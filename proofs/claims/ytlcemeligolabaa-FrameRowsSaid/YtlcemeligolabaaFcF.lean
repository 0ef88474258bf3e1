/- Contracts of the reference of Check. -/
import Derived.Test.YtlcemeligolabaaFcE
namespace Go.Proofs.Ytlcemeligolabaa.FcF
open Go.RowKit Go.Proofs.YtlcemeligolabaaW.PrintWords Go.Proofs.YtlcemeligolabaaW.PrintLast Go.Proofs.YtlcemeligolabaaW.PrintMore Go.Proofs.Ytlcemeligolabaa.K Go.Proofs.Ytlcemeligolabaa.FcP Go.Proofs.Ytlcemeligolabaa.FcA Go.Proofs.Ytlcemeligolabaa.FcB Go.Proofs.Ytlcemeligolabaa.FcC Go.Proofs.Ytlcemeligolabaa.FcR Go.Proofs.Ytlcemeligolabaa.FcD Go.Proofs.Ytlcemeligolabaa.FcE
set_option linter.unusedVariables false
set_option linter.unusedSimpArgs false
attribute [local go_sem] max2_int min2_int max_two min_two

theorem conv22 (A : Option Addr) (n c : Nat) (xs : List Int) (w : World) (h : Rds (Kd.int .u8) w A n c xs) : (convert 24 9 (.slice A n c)).run Try.prog w = .ok (.string (strOfNums xs)) w := Kd.C_string Try.underlying24 Try.underlying5 Try.underlying9 h.row
theorem map_inj_b (f : Int → UInt8) (hf : ∀ x y : Int, 0 ≤ x ∧ x ≤ 255 → 0 ≤ y ∧ y ≤ 255 → f x = f y → x = y) : ∀ {a b : List Int}, (∀ x ∈ a, 0 ≤ x ∧ x ≤ 255) → (∀ x ∈ b, 0 ≤ x ∧ x ≤ 255) → a.map f = b.map f → a = b := by
  intro a
  induction a with
  | nil => intro b _ _ h; cases b with
    | nil => rfl
    | cons => simp at h
  | cons x a ih =>
    intro b ha hb h
    cases b with
    | nil => simp at h
    | cons y b =>
      simp only [List.map_cons, List.cons.injEq] at h
      rw [hf x y (ha x (by simp)) (hb y (by simp)) h.1, ih (fun z hz => ha z (by simp [hz])) (fun z hz => hb z (by simp [hz])) h.2]
theorem str_inj {a b : List Int} (ha : ∀ x ∈ a, 0 ≤ x ∧ x ≤ 255) (hb : ∀ x ∈ b, 0 ≤ x ∧ x ≤ 255) (h : (strOfNums a).toList = (strOfNums b).toList) : a = b := by
  rw [ByteArray.toList_eq, ByteArray.toList_eq] at h
  simp only [strOfNums] at h
  refine map_inj_b _ ?_ ha hb (by simpa using h)
  intro x y hx hy he
  have := congrArg UInt8.toNat he
  simp at this
  omega
set_option maxHeartbeats 8000000 in
set_option maxRecDepth 100000 in
theorem tailn_ok (wide : Bool) (w : World) : Calls Try.prog 25 #[.bool wide] w fun e w' => e = .returned (.int .i64 ((sizeT wide : Nat) : Int)) ∧ w = w' := by
  cases wide
  · go_enter Try.func25, Try.ntmps25
    go_wp2
    go_ret
    exact ⟨rfl, rfl⟩
  · go_enter Try.func25, Try.ntmps25
    go_wp2
    go_ret
    exact ⟨rfl, rfl⟩
set_option maxHeartbeats 8000000 in
set_option maxRecDepth 100000 in
theorem rcheck_short (A : Option Addr) (n c : Nat) (wide : Bool) (w : World) (hn : n < sizeT wide) :
    Calls Try.prog 33 #[.slice A n c, .bool wide] w fun e w' => e = .returned (.tuple #[.slice none 0 0, .int .i64 3]) ∧ Below w.heap.size w w' := by
  have hs := sizeT_le wide
  have CT := Aside0.mk (tailn_ok wide w)
  generalize sizeT wide = q at hs hn CT
  have hneg : (n : Int) - (q : Int) < 0 := by omega
  have ew : IntKind.i64.wrap ((n : Int) - (q : Int)) = (n : Int) - (q : Int) := by rw [i64_w]; unfold wrap64; omega
  go_enter Try.func33, Try.ntmps33
  go_wp2_with (first
    | (go_at_call 25; (with_reducible refine CT.out.mono ?_); rintro e w' ⟨rfl, rfl⟩))
  go_ret2
  exact ⟨rfl, Below.refl _ _⟩

set_option maxHeartbeats 8000000 in
set_option maxRecDepth 100000 in
theorem rcheck_good (A : Option Addr) (n c m : Nat) (l : List Int) (wide : Bool) (w : World) (hr : Rds (Kd.int .u8) w A n c l) (hl : ∀ x ∈ l, 0 ≤ x ∧ x ≤ 255) (hn : n ≤ 1000000) (hm : n = m + sizeT wide) (heq : tailL (l.take m) wide = l.drop m) :
    Calls Try.prog 33 #[.slice A n c, .bool wide] w fun e w' => ∃ v, e = .returned (.tuple #[v, .int .i64 0]) ∧ Own (Kd.int .u8) 5 w.heap.size w' v (l.take m) ∧ Below w.heap.size w w' := by
  have hs := sizeT_le wide
  have HR := Aside0.mk hr
  have CT := Aside0.mk (tailn_ok wide w)
  obtain ⟨k1, k2, A2, d1, d2⟩ := cut_in A n c m l hr.len (by omega) hr.cap
  have K1 := Aside0.mk k1
  have K2 := Aside0.mk k2
  have D1 := Aside0.mk d1
  have D2 := Aside0.mk d2
  have LM : Aside0 ((l.take m).length = m) := ⟨by rw [List.length_take]; have := hr.len; omega⟩
  have CM := Aside0.mk (fun w' (hb : Below w.heap.size w w') => rsum_ok A m c (l.take m) wide w' (k2 w' (hr.below hb)) (fun x hx => hl x (List.mem_of_mem_take hx)) (by omega))
  have HEQ := Aside0.mk (show strOfNums (l.drop m) = strOfNums (tailL (l.take m) wide) by rw [heq])
  have TM := Aside0.mk (tailL_len (l.take m) wide)
  have hmc : (m : Int) ≤ (c : Int) := by have := hr.cap; omega
  have hmn : (m : Int) ≤ (n : Int) := by omega
  clear k1 k2 d1 d2 hr hl heq
  generalize tailL (l.take m) wide = tl at CM HEQ TM
  have htl : tl.length ≤ 4 := by rw [TM.out]; exact hs
  generalize sizeT wide = q at CT hs hm TM
  have ew : IntKind.i64.wrap ((n : Int) - (q : Int)) = (m : Int) := by rw [i64_w]; unfold wrap64; omega
  have hm0 : ¬ (m : Int) < 0 := by omega
  have hm2 : m ≤ 1000000 := by omega
  clear hm hmn
  go_enter Try.func33, Try.ntmps33
  go_wp2_with (first
    | (go_at_call 25; (with_reducible refine CT.out.mono ?_); rintro e w' ⟨rfl, rfl⟩))
  refine region_each (VT (fun i => match i with | 0 => .slice A n c | 1 => .int .i64 m | 2 => .slice A2 (n - m) (c - m) | 3 => .string (strOfNums (l.drop m)) | 4 => .slice A n c | 5 => .int .i64 m | 6 => .slice A m c | 7 => .bool wide | 9 => .string (strOfNums tl) | 10 => .bool false | _ => undef) [(8, tl)]) (by kernel_rfl) (by kernel_rfl) (VT_stable _ _) ?_ ?_
  · refine ⟨?_, ?_, ?_, ?_, ?_, ?_, ?_, ?_, ?_, ?_, ?_, trivial⟩
    · intro a_ w_ st
      have e0 : a_.eval (.tmp 0) = .slice A n c := st.slot 0 (by kernel_rfl)
      exact op_yield (.slice A n c) (wanted_none rfl _) (by simp only [execOp, e0]; rfl) rfl
    · intro a_ w_ st
      have e6 : a_.eval (.tmp 6) = .int .i64 m := st.slot 6 (by kernel_rfl)
      exact op_yield (.int .i64 m) (wanted_none rfl _) (by simp only [execOp, e6]; rfl) rfl
    · intro a_ w_ st
      have e14 : a_.eval (.tmp 14) = .slice A n c := st.dep 0 _ 14 rfl rfl (by kernel_rfl)
      have e15 : a_.eval (.tmp 15) = .int .i64 m := st.dep 1 _ 15 rfl rfl (by kernel_rfl)
      exact op_yield (.slice A2 (n - m) (c - m)) (wanted_none rfl _) (run_slice rfl e14 (by simp [e15]) rfl (D1.out w_)) rfl
    · intro a_ w_ st
      have e16 : a_.eval (.tmp 16) = .slice A2 (n - m) (c - m) := st.dep 2 _ 16 rfl rfl (by kernel_rfl)
      have hc_ := conv22 _ _ _ _ w_ (D2.out _ (HR.out.below st.below))
      exact op_yield (.string (strOfNums (l.drop m))) (wanted_none rfl _) (by simp [execOp, e16, hc_]) rfl
    · intro a_ w_ st
      have e0 : a_.eval (.tmp 0) = .slice A n c := st.slot 0 (by kernel_rfl)
      exact op_yield (.slice A n c) (wanted_none rfl _) (by simp only [execOp, e0]; rfl) rfl
    · intro a_ w_ st
      have e6 : a_.eval (.tmp 6) = .int .i64 m := st.slot 6 (by kernel_rfl)
      exact op_yield (.int .i64 m) (wanted_none rfl _) (by simp only [execOp, e6]; rfl) rfl
    · intro a_ w_ st
      have e18 : a_.eval (.tmp 18) = .slice A n c := st.dep 4 _ 18 rfl rfl (by kernel_rfl)
      have e19 : a_.eval (.tmp 19) = .int .i64 m := st.dep 5 _ 19 rfl rfl (by kernel_rfl)
      exact op_yield (.slice A m c) (wanted_none rfl _) (run_slice rfl e18 rfl (by simp [e19]) (K1.out w_)) rfl
    · intro a_ w_ st
      have e1 : a_.eval (.tmp 1) = .bool wide := st.slot 1 (by kernel_rfl)
      exact op_yield (.bool wide) (wanted_none rfl _) (by simp only [execOp, e1]; rfl) rfl
    · intro a_ w_ st
      have e20 : a_.eval (.tmp 20) = .slice A m c := st.dep 6 _ 20 rfl rfl (by kernel_rfl)
      have e21 : a_.eval (.tmp 21) = .bool wide := st.dep 7 _ 21 rfl rfl (by kernel_rfl)
      skip
      exact op_call Try.func29 (by kernel_rfl) rfl #[.slice A m c, .bool wide] (wanted_none rfl _) rfl (by simp [e20, e21]) (calls_slx (CM.out w_ st.below))
    · intro a_ w_ st
      obtain ⟨A22_, c22_, e22, h22_⟩ : IsSl tl (a_.eval (.tmp 22)) w_ := st.dep 8 _ 22 rfl rfl (by kernel_rfl)
      have hc_ := conv22 _ _ _ _ w_ (h22_)
      exact op_yield (.string (strOfNums tl)) (wanted_none rfl _) (by simp [execOp, e22, hc_]) rfl
    · intro a_ w_ st
      have e17 : a_.eval (.tmp 17) = .string (strOfNums (l.drop m)) := st.dep 3 _ 17 rfl rfl (by kernel_rfl)
      have e23 : a_.eval (.tmp 23) = .string (strOfNums tl) := st.dep 9 _ 23 rfl rfl (by kernel_rfl)
      have hq_ := HEQ.out
      exact op_yield (.bool false) (wanted_none rfl _) (by simp only [execOp, e17, e23]; go_simp) rfl
  · intro a_ a_w st
    obtain ⟨A22_, c22_, e22_, h22_⟩ : IsSl tl (a_.eval (.tmp 22)) a_w := st.val 8 _ 22 rfl trivial rfl
    have hfr := frame_of st (by kernel_rfl) [.slice A n c, .int .i64 m, .slice A2 (n - m) (c - m), .string (strOfNums (l.drop m)), .slice A n c, .int .i64 m, .slice A m c, .bool wide, .slice A22_ tl.length c22_, .string (strOfNums tl), .bool false] ⟨(fun d h => by cases h; exact st.val 0 _ _ rfl trivial rfl), (fun d h => by cases h; exact st.val 1 _ _ rfl trivial rfl), (fun d h => by cases h; exact st.val 2 _ _ rfl trivial rfl), (fun d h => by cases h; exact st.val 3 _ _ rfl trivial rfl), (fun d h => by cases h; exact st.val 4 _ _ rfl trivial rfl), (fun d h => by cases h; exact st.val 5 _ _ rfl trivial rfl), (fun d h => by cases h; exact st.val 6 _ _ rfl trivial rfl), (fun d h => by cases h; exact st.val 7 _ _ rfl trivial rfl), (fun d h => by cases h; exact e22_), (fun d h => by cases h; exact st.val 9 _ _ rfl trivial rfl), (fun d h => by cases h; exact st.val 10 _ _ rfl trivial rfl), trivial⟩
    have BX := Aside0.mk st.below
    rw [hfr]
    clear hfr st
    simp only [putL, Act.put, List.headD_cons, List.tail_cons, List.setIfInBounds_toArray, List.set_cons_zero, List.set_cons_succ]
    go_wp2_with (first | (at_builtin; refine app_rowi Try.underlying24 info5 rfl (by decide) (.const (.slice none 0 0)) (.tmp 27) rfl rfl rfl rfl (Own.nil (Kd.int .u8) 5 w.heap.size a_w) (K2.out _ (HR.out.below BX.out)) BX.out BX.out.size (by simp; omega) ?_; intro v5 w5 ho hb _; obtain ⟨A5, c5, hv5, _⟩ := ho.sliceN (n := m) (by simpa using LM.out); subst hv5; have O5 := Aside0.mk (show Own (Kd.int .u8) 5 w.heap.size w5 (.slice A5 m c5) (l.take m) by simpa using ho); have B5 := Aside0.mk hb; clear ho hb))
    go_ret2
    exact ⟨_, rfl, O5.out, B5.out⟩

set_option maxHeartbeats 8000000 in
set_option maxRecDepth 100000 in
theorem rcheck_bad (A : Option Addr) (n c m : Nat) (l : List Int) (wide : Bool) (w : World) (hr : Rds (Kd.int .u8) w A n c l) (hl : ∀ x ∈ l, 0 ≤ x ∧ x ≤ 255) (hn : n ≤ 1000000) (hm : n = m + sizeT wide) (heq : tailL (l.take m) wide ≠ l.drop m) :
    Calls Try.prog 33 #[.slice A n c, .bool wide] w fun e w' => e = .returned (.tuple #[.slice none 0 0, .int .i64 2]) ∧ Below w.heap.size w w' := by
  have hs := sizeT_le wide
  have HR := Aside0.mk hr
  have CT := Aside0.mk (tailn_ok wide w)
  obtain ⟨k1, k2, A2, d1, d2⟩ := cut_in A n c m l hr.len (by omega) hr.cap
  have K1 := Aside0.mk k1
  have K2 := Aside0.mk k2
  have D1 := Aside0.mk d1
  have D2 := Aside0.mk d2
  have LM : Aside0 ((l.take m).length = m) := ⟨by rw [List.length_take]; have := hr.len; omega⟩
  have CM := Aside0.mk (fun w' (hb : Below w.heap.size w w') => rsum_ok A m c (l.take m) wide w' (k2 w' (hr.below hb)) (fun x hx => hl x (List.mem_of_mem_take hx)) (by omega))
  have HEQ := Aside0.mk (show ¬ (strOfNums (l.drop m)).toList = (strOfNums (tailL (l.take m) wide)).toList from fun h => heq (str_inj (fun x hx => hl x (List.mem_of_mem_drop hx)) (tailL_b _ _) h).symm)
  have TM := Aside0.mk (tailL_len (l.take m) wide)
  have hmc : (m : Int) ≤ (c : Int) := by have := hr.cap; omega
  have hmn : (m : Int) ≤ (n : Int) := by omega
  clear k1 k2 d1 d2 hr hl heq
  generalize tailL (l.take m) wide = tl at CM HEQ TM
  have htl : tl.length ≤ 4 := by rw [TM.out]; exact hs
  generalize sizeT wide = q at CT hs hm TM
  have ew : IntKind.i64.wrap ((n : Int) - (q : Int)) = (m : Int) := by rw [i64_w]; unfold wrap64; omega
  have hm0 : ¬ (m : Int) < 0 := by omega
  have hm2 : m ≤ 1000000 := by omega
  clear hm hmn
  go_enter Try.func33, Try.ntmps33
  go_wp2_with (first
    | (go_at_call 25; (with_reducible refine CT.out.mono ?_); rintro e w' ⟨rfl, rfl⟩))
  refine region_each (VT (fun i => match i with | 0 => .slice A n c | 1 => .int .i64 m | 2 => .slice A2 (n - m) (c - m) | 3 => .string (strOfNums (l.drop m)) | 4 => .slice A n c | 5 => .int .i64 m | 6 => .slice A m c | 7 => .bool wide | 9 => .string (strOfNums tl) | 10 => .bool true | _ => undef) [(8, tl)]) (by kernel_rfl) (by kernel_rfl) (VT_stable _ _) ?_ ?_
  · refine ⟨?_, ?_, ?_, ?_, ?_, ?_, ?_, ?_, ?_, ?_, ?_, trivial⟩
    · intro a_ w_ st
      have e0 : a_.eval (.tmp 0) = .slice A n c := st.slot 0 (by kernel_rfl)
      exact op_yield (.slice A n c) (wanted_none rfl _) (by simp only [execOp, e0]; rfl) rfl
    · intro a_ w_ st
      have e6 : a_.eval (.tmp 6) = .int .i64 m := st.slot 6 (by kernel_rfl)
      exact op_yield (.int .i64 m) (wanted_none rfl _) (by simp only [execOp, e6]; rfl) rfl
    · intro a_ w_ st
      have e14 : a_.eval (.tmp 14) = .slice A n c := st.dep 0 _ 14 rfl rfl (by kernel_rfl)
      have e15 : a_.eval (.tmp 15) = .int .i64 m := st.dep 1 _ 15 rfl rfl (by kernel_rfl)
      exact op_yield (.slice A2 (n - m) (c - m)) (wanted_none rfl _) (run_slice rfl e14 (by simp [e15]) rfl (D1.out w_)) rfl
    · intro a_ w_ st
      have e16 : a_.eval (.tmp 16) = .slice A2 (n - m) (c - m) := st.dep 2 _ 16 rfl rfl (by kernel_rfl)
      have hc_ := conv22 _ _ _ _ w_ (D2.out _ (HR.out.below st.below))
      exact op_yield (.string (strOfNums (l.drop m))) (wanted_none rfl _) (by simp [execOp, e16, hc_]) rfl
    · intro a_ w_ st
      have e0 : a_.eval (.tmp 0) = .slice A n c := st.slot 0 (by kernel_rfl)
      exact op_yield (.slice A n c) (wanted_none rfl _) (by simp only [execOp, e0]; rfl) rfl
    · intro a_ w_ st
      have e6 : a_.eval (.tmp 6) = .int .i64 m := st.slot 6 (by kernel_rfl)
      exact op_yield (.int .i64 m) (wanted_none rfl _) (by simp only [execOp, e6]; rfl) rfl
    · intro a_ w_ st
      have e18 : a_.eval (.tmp 18) = .slice A n c := st.dep 4 _ 18 rfl rfl (by kernel_rfl)
      have e19 : a_.eval (.tmp 19) = .int .i64 m := st.dep 5 _ 19 rfl rfl (by kernel_rfl)
      exact op_yield (.slice A m c) (wanted_none rfl _) (run_slice rfl e18 rfl (by simp [e19]) (K1.out w_)) rfl
    · intro a_ w_ st
      have e1 : a_.eval (.tmp 1) = .bool wide := st.slot 1 (by kernel_rfl)
      exact op_yield (.bool wide) (wanted_none rfl _) (by simp only [execOp, e1]; rfl) rfl
    · intro a_ w_ st
      have e20 : a_.eval (.tmp 20) = .slice A m c := st.dep 6 _ 20 rfl rfl (by kernel_rfl)
      have e21 : a_.eval (.tmp 21) = .bool wide := st.dep 7 _ 21 rfl rfl (by kernel_rfl)
      skip
      exact op_call Try.func29 (by kernel_rfl) rfl #[.slice A m c, .bool wide] (wanted_none rfl _) rfl (by simp [e20, e21]) (calls_slx (CM.out w_ st.below))
    · intro a_ w_ st
      obtain ⟨A22_, c22_, e22, h22_⟩ : IsSl tl (a_.eval (.tmp 22)) w_ := st.dep 8 _ 22 rfl rfl (by kernel_rfl)
      have hc_ := conv22 _ _ _ _ w_ (h22_)
      exact op_yield (.string (strOfNums tl)) (wanted_none rfl _) (by simp [execOp, e22, hc_]) rfl
    · intro a_ w_ st
      have e17 : a_.eval (.tmp 17) = .string (strOfNums (l.drop m)) := st.dep 3 _ 17 rfl rfl (by kernel_rfl)
      have e23 : a_.eval (.tmp 23) = .string (strOfNums tl) := st.dep 9 _ 23 rfl rfl (by kernel_rfl)
      have hq_ := HEQ.out
      exact op_yield (.bool true) (wanted_none rfl _) (by simp only [execOp, e17, e23]; go_simp) rfl
  · intro a_ a_w st
    obtain ⟨A22_, c22_, e22_, h22_⟩ : IsSl tl (a_.eval (.tmp 22)) a_w := st.val 8 _ 22 rfl trivial rfl
    have hfr := frame_of st (by kernel_rfl) [.slice A n c, .int .i64 m, .slice A2 (n - m) (c - m), .string (strOfNums (l.drop m)), .slice A n c, .int .i64 m, .slice A m c, .bool wide, .slice A22_ tl.length c22_, .string (strOfNums tl), .bool true] ⟨(fun d h => by cases h; exact st.val 0 _ _ rfl trivial rfl), (fun d h => by cases h; exact st.val 1 _ _ rfl trivial rfl), (fun d h => by cases h; exact st.val 2 _ _ rfl trivial rfl), (fun d h => by cases h; exact st.val 3 _ _ rfl trivial rfl), (fun d h => by cases h; exact st.val 4 _ _ rfl trivial rfl), (fun d h => by cases h; exact st.val 5 _ _ rfl trivial rfl), (fun d h => by cases h; exact st.val 6 _ _ rfl trivial rfl), (fun d h => by cases h; exact st.val 7 _ _ rfl trivial rfl), (fun d h => by cases h; exact e22_), (fun d h => by cases h; exact st.val 9 _ _ rfl trivial rfl), (fun d h => by cases h; exact st.val 10 _ _ rfl trivial rfl), trivial⟩
    have BX := Aside0.mk st.below
    rw [hfr]
    clear hfr st
    simp only [putL, Act.put, List.headD_cons, List.tail_cons, List.setIfInBounds_toArray, List.set_cons_zero, List.set_cons_succ]
    go_wp2_with fail
    go_ret2
    exact ⟨rfl, BX.out⟩

end Go.Proofs.Ytlcemeligolabaa.FcF
