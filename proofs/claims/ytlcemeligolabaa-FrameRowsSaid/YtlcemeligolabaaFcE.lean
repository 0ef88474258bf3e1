/- Contracts of Check, and of the reference of Check. -/
import Derived.Test.YtlcemeligolabaaFcD
namespace Go.Proofs.Ytlcemeligolabaa.FcE
open Go.RowKit Go.Proofs.YtlcemeligolabaaW.PrintWords Go.Proofs.YtlcemeligolabaaW.PrintLast Go.Proofs.YtlcemeligolabaaW.PrintMore Go.Proofs.Ytlcemeligolabaa.K Go.Proofs.Ytlcemeligolabaa.FcP Go.Proofs.Ytlcemeligolabaa.FcA Go.Proofs.Ytlcemeligolabaa.FcB Go.Proofs.Ytlcemeligolabaa.FcC Go.Proofs.Ytlcemeligolabaa.FcR Go.Proofs.Ytlcemeligolabaa.FcD
set_option linter.unusedVariables false
set_option linter.unusedSimpArgs false
attribute [local go_sem] max2_int min2_int max_two min_two

theorem reads_of_rds {w : World} {A : Option Addr} {n c : Nat} {xs : List Int} (h : Rds (Kd.int .u8) w A n c xs) : ReadsOf (Value.int .u8) (0 : Int) w A n xs := by
  refine ⟨h.len.symm, h.row.2.1, fun hn => ?_⟩
  obtain ⟨ad, hA, _⟩ := h.row.2.2 hn
  refine ⟨ad, hA, fun j hj => ?_⟩
  obtain ⟨ad', hA', hc⟩ := h.int (j : Int) (by omega) (by omega)
  cases hA.symm.trans hA'
  simpa [rd] using hc
theorem rds_of_reads {w : World} {A : Option Addr} {n c : Nat} {xs : List Int} (h : ReadsOf (Value.int .u8) (0 : Int) w A n xs) (hc : n ≤ c) : Rds (Kd.int .u8) w A n c xs :=
  ⟨Kd.C_of_reads (enc := Value.int .u8) (d := (0 : Int)) (h1 := fun _ => rfl) h, h.1.symm, hc⟩
theorem i22 : ∃ i, Try.prog.info? 5 = some i ∧ i.size = 1 := by
  have h := info5
  cases hi : Try.prog.info? 5 with
  | none => rw [hi] at h; cases h
  | some i =>
    rw [hi] at h
    simp at h
    exact ⟨i, rfl, h.2.1⟩
/-- A slice is cut in two. -/
theorem cut_in (A : Option Addr) (n c m : Nat) (l : List Int) (hn : n = l.length) (hm : m ≤ n) (hc : n ≤ c) :
    (∀ W : World, (Instr.slice 24 (.slice A n c) none (some (.int .i64 m)) none).run Try.prog W = .ok (.slice A m c) W) ∧
    (∀ w : World, Rds (Kd.int .u8) w A n c l → Rds (Kd.int .u8) w A m c (l.take m)) ∧
    ∃ A2, (∀ W : World, (Instr.slice 24 (.slice A n c) (some (.int .i64 m)) none none).run Try.prog W = .ok (.slice A2 (n - m) (c - m)) W) ∧
      (∀ w : World, Rds (Kd.int .u8) w A n c l → Rds (Kd.int .u8) w A2 (n - m) (c - m) (l.drop m)) := by
  subst hn
  obtain ⟨i, hi, hs⟩ := i22
  obtain ⟨k1, k2, k3⟩ := print_take_of (P := Try.prog) (Value.int .u8) (0 : Int) 24 5 .i64 Try.underlying24 hi hs A c l (m : Int) (by omega) (by omega) hc
  obtain ⟨A2, d1, d2, d3⟩ := print_drop_of (P := Try.prog) (Value.int .u8) (0 : Int) 24 5 .i64 Try.underlying24 hi hs A c l (m : Int) (by omega) (by omega) hc
  simp only [Int.toNat_natCast, List.length_take, List.length_drop, Nat.min_eq_left hm] at k1 k2 k3 d1 d2 d3
  exact ⟨k1, fun w h => rds_of_reads (k2 w (reads_of_rds h)) k3, A2, d1, fun w h => rds_of_reads (d2 w (reads_of_rds h)) d3⟩
theorem run_slice {o : Oper} {ρ : Operand → Value} {w : World} {x : Operand} {lo hi : Option Operand} {v r : Value} {lov hiv : Option Value} (hop : o.op = .slice 24 x lo hi none) (hx : ρ x = v) (hlo : lo.map ρ = lov) (hhi : hi.map ρ = hiv)
    (h : (Instr.slice 24 v lov hiv none).run Try.prog w = .ok r w) : (execOp ρ o).run Try.prog w = .ok (.value r) w := by
  unfold execOp
  simp [hop, hx, hlo, hhi, Instr.sliceAt, run_underlying Try.underlying24, h]
def Fits (a' : Act) : List Oper → List Value → Prop
  | [], _ => True
  | o :: r, vs => (∀ d, o.dst = some d → a'.tmps.getD d undef = vs.headD undef) ∧ Fits a' r vs.tail
theorem Fits.at_ {a' : Act} : ∀ {l : List Oper} {vs : List Value}, Fits a' l vs → ∀ (j : Nat) (o : Oper) (d : Tmp), l[j]? = some o → o.dst = some d → a'.tmps.getD d undef = vs.getD j undef := by
  intro l
  induction l with
  | nil => intro vs _ j o d h; simp at h
  | cons p r ih =>
    intro vs h j o d ho hd
    cases j with
    | zero =>
      simp at ho
      subst ho
      have := h.1 d hd
      cases vs <;> simpa using this
    | succ j =>
      have := ih h.2 j o d (by simpa using ho) hd
      cases vs <;> simpa using this
/-- The frame behind a region. -/
theorem frame_of {l : List Oper} {V : Nat → Value → World → Prop} {a a' : Act} {W w' : World} (st : RegSt l V a W (fun _ => True) a' w') (hok : regOkN l a.tmps.size = true) (vs : List Value) (hf : Fits a' l vs) : a' = putL a l vs := by
  simp only [regOkN, Bool.and_eq_true, List.all_eq_true, decide_eq_true_eq] at hok
  obtain ⟨⟨hdst, hnd⟩, _⟩ := hok
  refine act_ext (by rw [st.size, putL_size]) (by rw [st.defers, putL_defers]) (fun t => ?_)
  by_cases ht : ∀ o ∈ l, o.dst ≠ some t
  · rw [putL_old _ _ _ _ ht]
    exact st.old t (fun j o ho => ht o (List.mem_of_getElem? ho))
  · have : ∃ o ∈ l, o.dst = some t := by
      apply Classical.byContradiction
      intro hne
      exact ht (fun o ho he => hne ⟨o, ho, he⟩)
    obtain ⟨o, ho, hd⟩ := this
    obtain ⟨j, hj⟩ := List.getElem?_of_mem ho
    have hlt : t < a.tmps.size := by have := hdst o ho; simpa [hd] using this
    rw [putL_at l a vs j o t hnd hj hd hlt]
    exact hf.at_ j o t hj hd
set_option maxHeartbeats 8000000 in
set_option maxRecDepth 100000 in
theorem check_short (A : Option Addr) (n c : Nat) (wide : Bool) (w : World) (hn : n < sizeT wide) :
    Calls Try.prog 39 #[.slice A n c, .bool wide] w fun e w' => e = .returned (.tuple #[.slice none 0 0, .int .i64 3]) ∧ Below w.heap.size w w' := by
  have hs := sizeT_le wide
  have CT := Aside0.mk (tail_ok none 0 0 [] wide w (show Rds (Kd.int .u8) w none 0 0 [] from ⟨(Own.nil (Kd.int .u8) 5 0 w).rds.row, rfl, Nat.le_refl _⟩) (by simp) (by omega))
  have TL := Aside0.mk (tailL_len [] wide)
  generalize sizeT wide = q at TL hs hn
  generalize tailL [] wide = tl at CT TL
  have hneg : (n : Int) - (q : Int) < 0 := by omega
  have ew : IntKind.i64.wrap ((n : Int) - (q : Int)) = (n : Int) - (q : Int) := by rw [i64_w]; unfold wrap64; omega
  go_enter Try.func39, Try.ntmps39
  go_wp2_with (first
    | (go_at_call 31; (with_reducible refine CT.out.mono ?_); rintro e w1 ⟨v1, rfl, ho, hb⟩; obtain ⟨A1, c1, hv1, _⟩ := ho.sliceN TL.out; subst hv1; have B1 := Aside0.mk hb; clear ho hb))
  go_ret2
  exact ⟨rfl, B1.out⟩

theorem calls_slx {f : FuncId} {args : Array Value} {w : World} {xs : List Int} (h : Calls Try.prog f args w fun e w' => ∃ v, e = .returned v ∧ Own (Kd.int .u8) 5 w.heap.size w' v xs ∧ Below w.heap.size w w') :
    Calls Try.prog f args w fun e w' => ∃ v, e = .returned v ∧ Below w.heap.size w w' ∧ IsSl xs v w' :=
  h.mono fun e w' ⟨v, he, ho, hb⟩ => by
    obtain ⟨A, c, hv, _⟩ := ho.slice
    subst hv
    exact ⟨_, he, hb, A, c, rfl, ho.rds⟩

set_option maxHeartbeats 8000000 in
set_option maxRecDepth 100000 in
theorem check_good (A : Option Addr) (n c m : Nat) (l : List Int) (wide : Bool) (w : World) (hr : Rds (Kd.int .u8) w A n c l) (hl : ∀ x ∈ l, 0 ≤ x ∧ x ≤ 255) (hn : n ≤ 1000000) (hm : n = m + sizeT wide) (heq : tailL (l.take m) wide = l.drop m) :
    Calls Try.prog 39 #[.slice A n c, .bool wide] w fun e w' => ∃ v, e = .returned (.tuple #[v, .int .i64 0]) ∧ Own (Kd.int .u8) 5 w.heap.size w' v (l.take m) ∧ Below w.heap.size w w' := by
  have hs := sizeT_le wide
  have HR := Aside0.mk hr
  have CT := Aside0.mk (tail_ok none 0 0 [] wide w (show Rds (Kd.int .u8) w none 0 0 [] from ⟨(Own.nil (Kd.int .u8) 5 0 w).rds.row, rfl, Nat.le_refl _⟩) (by simp) (by omega))
  have TL := Aside0.mk (tailL_len [] wide)
  obtain ⟨k1, k2, A2, d1, d2⟩ := cut_in A n c m l hr.len (by omega) hr.cap
  have K1 := Aside0.mk k1
  have K2 := Aside0.mk k2
  have D1 := Aside0.mk d1
  have D2 := Aside0.mk d2
  have LM : Aside0 ((l.take m).length = m) := ⟨by rw [List.length_take]; have := hr.len; omega⟩
  have CM := Aside0.mk (fun w' (hb : Below w.heap.size w w') => tail_ok A m c (l.take m) wide w' (k2 w' (hr.below hb)) (fun x hx => hl x (List.mem_of_mem_take hx)) (by omega))
  have HEQ := Aside0.mk heq
  have TM := Aside0.mk (tailL_len (l.take m) wide)
  have hmc : (m : Int) ≤ (c : Int) := by have := hr.cap; omega
  have hmn : (m : Int) ≤ (n : Int) := by omega
  clear k1 k2 d1 d2 hr hl heq
  generalize tailL (l.take m) wide = tl at CM HEQ TM
  have htl : tl.length ≤ 4 := by rw [TM.out]; exact hs
  generalize sizeT wide = q at TL hs hm TM
  generalize tailL [] wide = t0 at CT TL
  have ew : IntKind.i64.wrap ((n : Int) - (q : Int)) = (m : Int) := by rw [i64_w]; unfold wrap64; omega
  have hm0 : ¬ (m : Int) < 0 := by omega
  have hm2 : m ≤ 1000000 := by omega
  clear hm hmn
  go_enter Try.func39, Try.ntmps39
  go_wp2_with (first
    | (go_at_call 31; (with_reducible refine CT.out.mono ?_); rintro e w1 ⟨v1, rfl, ho, hb⟩; obtain ⟨A1, c1, hv1, _⟩ := ho.sliceN TL.out; subst hv1; have B1 := Aside0.mk hb; clear ho hb))
  refine region_each (VT (fun i => match i with | 0 => .slice A n c | 1 => .int .i64 m | 2 => .slice A m c | 3 => .bool wide | 5 => .slice A n c | 6 => .int .i64 m | 7 => .slice A2 (n - m) (c - m) | 8 => .bool true | 9 => .bool false | _ => undef) [(4, tl)]) (by kernel_rfl) (by kernel_rfl) (VT_stable _ _) ?_ ?_
  · refine ⟨?_, ?_, ?_, ?_, ?_, ?_, ?_, ?_, ?_, ?_, trivial⟩
    · intro a_ w_ st
      have e0 : a_.eval (.tmp 0) = .slice A n c := st.slot 0 (by kernel_rfl)
      exact op_yield (.slice A n c) (wanted_none rfl _) (by simp only [execOp, e0]; rfl) rfl
    · intro a_ w_ st
      have e6 : a_.eval (.tmp 6) = .int .i64 m := st.slot 6 (by kernel_rfl)
      exact op_yield (.int .i64 m) (wanted_none rfl _) (by simp only [execOp, e6]; rfl) rfl
    · intro a_ w_ st
      have e15 : a_.eval (.tmp 15) = .slice A n c := st.dep 0 _ 15 rfl rfl (by kernel_rfl)
      have e16 : a_.eval (.tmp 16) = .int .i64 m := st.dep 1 _ 16 rfl rfl (by kernel_rfl)
      exact op_yield (.slice A m c) (wanted_none rfl _) (run_slice rfl e15 rfl (by simp [e16]) (K1.out w_)) rfl
    · intro a_ w_ st
      have e1 : a_.eval (.tmp 1) = .bool wide := st.slot 1 (by kernel_rfl)
      exact op_yield (.bool wide) (wanted_none rfl _) (by simp only [execOp, e1]; rfl) rfl
    · intro a_ w_ st
      have e17 : a_.eval (.tmp 17) = .slice A m c := st.dep 2 _ 17 rfl rfl (by kernel_rfl)
      have e18 : a_.eval (.tmp 18) = .bool wide := st.dep 3 _ 18 rfl rfl (by kernel_rfl)
      skip
      exact op_call Try.func31 (by kernel_rfl) rfl #[.slice A m c, .bool wide] (wanted_none rfl _) rfl (by simp [e17, e18]) (calls_slx (CM.out w_ (below_step B1.out st.below)))
    · intro a_ w_ st
      have e0 : a_.eval (.tmp 0) = .slice A n c := st.slot 0 (by kernel_rfl)
      exact op_yield (.slice A n c) (wanted_none rfl _) (by simp only [execOp, e0]; rfl) rfl
    · intro a_ w_ st
      have e6 : a_.eval (.tmp 6) = .int .i64 m := st.slot 6 (by kernel_rfl)
      exact op_yield (.int .i64 m) (wanted_none rfl _) (by simp only [execOp, e6]; rfl) rfl
    · intro a_ w_ st
      have e20 : a_.eval (.tmp 20) = .slice A n c := st.dep 5 _ 20 rfl rfl (by kernel_rfl)
      have e21 : a_.eval (.tmp 21) = .int .i64 m := st.dep 6 _ 21 rfl rfl (by kernel_rfl)
      exact op_yield (.slice A2 (n - m) (c - m)) (wanted_none rfl _) (run_slice rfl e20 (by simp [e21]) rfl (D1.out w_)) rfl
    · intro a_ w_ st
      obtain ⟨A19_, c19_, e19, h19_⟩ : IsSl tl (a_.eval (.tmp 19)) w_ := st.dep 4 _ 19 rfl rfl (by kernel_rfl)
      have e22 : a_.eval (.tmp 22) = .slice A2 (n - m) (c - m) := st.dep 7 _ 22 rfl rfl (by kernel_rfl)
      skip
      exact op_call Try.func41 (by kernel_rfl) rfl #[.slice A19_ _ c19_, .slice A2 (n - m) (c - m)] (wanted_none rfl _) rfl (by simp [e19, e22]) (calls_below (equal_true _ _ tl.length (n - m) _ _ tl (l.drop m) w_ h19_ (D2.out _ (HR.out.below (below_step B1.out st.below))) (by omega) (by omega) HEQ.out))
    · intro a_ w_ st
      have e23 : a_.eval (.tmp 23) = .bool true := st.dep 8 _ 23 rfl rfl (by kernel_rfl)
      exact op_yield (.bool false) (wanted_none rfl _) (by simp only [execOp, e23]; rfl) rfl
  · intro a_ a_w st
    obtain ⟨A19_, c19_, e19_, h19_⟩ : IsSl tl (a_.eval (.tmp 19)) a_w := st.val 4 _ 19 rfl trivial rfl
    have hfr := frame_of st (by kernel_rfl) [.slice A n c, .int .i64 m, .slice A m c, .bool wide, .slice A19_ tl.length c19_, .slice A n c, .int .i64 m, .slice A2 (n - m) (c - m), .bool true, .bool false] ⟨(fun d h => by cases h; exact st.val 0 _ _ rfl trivial rfl), (fun d h => by cases h; exact st.val 1 _ _ rfl trivial rfl), (fun d h => by cases h; exact st.val 2 _ _ rfl trivial rfl), (fun d h => by cases h; exact st.val 3 _ _ rfl trivial rfl), (fun d h => by cases h; exact e19_), (fun d h => by cases h; exact st.val 5 _ _ rfl trivial rfl), (fun d h => by cases h; exact st.val 6 _ _ rfl trivial rfl), (fun d h => by cases h; exact st.val 7 _ _ rfl trivial rfl), (fun d h => by cases h; exact st.val 8 _ _ rfl trivial rfl), (fun d h => by cases h; exact st.val 9 _ _ rfl trivial rfl), trivial⟩
    have BX := Aside0.mk (below_step B1.out st.below)
    rw [hfr]
    clear hfr st
    simp only [putL, Act.put, List.headD_cons, List.tail_cons, List.setIfInBounds_toArray, List.set_cons_zero, List.set_cons_succ]
    go_wp2_with (first | (go_at_call 42; have hcall := clone_ok A m c (l.take m) a_w (K2.out _ (HR.out.below BX.out)) (by omega); (with_reducible refine hcall.mono ?_); clear hcall; rintro e w5 ⟨v5, rfl, ho, hb⟩; obtain ⟨A5, c5, hv5, _⟩ := ho.sliceN LM.out; subst hv5; have O5 := Aside0.mk (ho.lower BX.out.size); have B5 := Aside0.mk (below_step BX.out hb); clear ho hb))
    go_ret2
    exact ⟨_, rfl, O5.out, B5.out⟩

set_option maxHeartbeats 8000000 in
set_option maxRecDepth 100000 in
theorem check_bad (A : Option Addr) (n c m : Nat) (l : List Int) (wide : Bool) (w : World) (hr : Rds (Kd.int .u8) w A n c l) (hl : ∀ x ∈ l, 0 ≤ x ∧ x ≤ 255) (hn : n ≤ 1000000) (hm : n = m + sizeT wide) (heq : tailL (l.take m) wide ≠ l.drop m) :
    Calls Try.prog 39 #[.slice A n c, .bool wide] w fun e w' => e = .returned (.tuple #[.slice none 0 0, .int .i64 2]) ∧ Below w.heap.size w w' := by
  have hs := sizeT_le wide
  have HR := Aside0.mk hr
  have CT := Aside0.mk (tail_ok none 0 0 [] wide w (show Rds (Kd.int .u8) w none 0 0 [] from ⟨(Own.nil (Kd.int .u8) 5 0 w).rds.row, rfl, Nat.le_refl _⟩) (by simp) (by omega))
  have TL := Aside0.mk (tailL_len [] wide)
  obtain ⟨k1, k2, A2, d1, d2⟩ := cut_in A n c m l hr.len (by omega) hr.cap
  have K1 := Aside0.mk k1
  have K2 := Aside0.mk k2
  have D1 := Aside0.mk d1
  have D2 := Aside0.mk d2
  have LM : Aside0 ((l.take m).length = m) := ⟨by rw [List.length_take]; have := hr.len; omega⟩
  have CM := Aside0.mk (fun w' (hb : Below w.heap.size w w') => tail_ok A m c (l.take m) wide w' (k2 w' (hr.below hb)) (fun x hx => hl x (List.mem_of_mem_take hx)) (by omega))
  have HEQ := Aside0.mk heq
  have TM := Aside0.mk (tailL_len (l.take m) wide)
  have hmc : (m : Int) ≤ (c : Int) := by have := hr.cap; omega
  have hmn : (m : Int) ≤ (n : Int) := by omega
  clear k1 k2 d1 d2 hr hl heq
  generalize tailL (l.take m) wide = tl at CM HEQ TM
  have htl : tl.length ≤ 4 := by rw [TM.out]; exact hs
  generalize sizeT wide = q at TL hs hm TM
  generalize tailL [] wide = t0 at CT TL
  have ew : IntKind.i64.wrap ((n : Int) - (q : Int)) = (m : Int) := by rw [i64_w]; unfold wrap64; omega
  have hm0 : ¬ (m : Int) < 0 := by omega
  have hm2 : m ≤ 1000000 := by omega
  clear hm hmn
  go_enter Try.func39, Try.ntmps39
  go_wp2_with (first
    | (go_at_call 31; (with_reducible refine CT.out.mono ?_); rintro e w1 ⟨v1, rfl, ho, hb⟩; obtain ⟨A1, c1, hv1, _⟩ := ho.sliceN TL.out; subst hv1; have B1 := Aside0.mk hb; clear ho hb))
  refine region_each (VT (fun i => match i with | 0 => .slice A n c | 1 => .int .i64 m | 2 => .slice A m c | 3 => .bool wide | 5 => .slice A n c | 6 => .int .i64 m | 7 => .slice A2 (n - m) (c - m) | 8 => .bool false | 9 => .bool true | _ => undef) [(4, tl)]) (by kernel_rfl) (by kernel_rfl) (VT_stable _ _) ?_ ?_
  · refine ⟨?_, ?_, ?_, ?_, ?_, ?_, ?_, ?_, ?_, ?_, trivial⟩
    · intro a_ w_ st
      have e0 : a_.eval (.tmp 0) = .slice A n c := st.slot 0 (by kernel_rfl)
      exact op_yield (.slice A n c) (wanted_none rfl _) (by simp only [execOp, e0]; rfl) rfl
    · intro a_ w_ st
      have e6 : a_.eval (.tmp 6) = .int .i64 m := st.slot 6 (by kernel_rfl)
      exact op_yield (.int .i64 m) (wanted_none rfl _) (by simp only [execOp, e6]; rfl) rfl
    · intro a_ w_ st
      have e15 : a_.eval (.tmp 15) = .slice A n c := st.dep 0 _ 15 rfl rfl (by kernel_rfl)
      have e16 : a_.eval (.tmp 16) = .int .i64 m := st.dep 1 _ 16 rfl rfl (by kernel_rfl)
      exact op_yield (.slice A m c) (wanted_none rfl _) (run_slice rfl e15 rfl (by simp [e16]) (K1.out w_)) rfl
    · intro a_ w_ st
      have e1 : a_.eval (.tmp 1) = .bool wide := st.slot 1 (by kernel_rfl)
      exact op_yield (.bool wide) (wanted_none rfl _) (by simp only [execOp, e1]; rfl) rfl
    · intro a_ w_ st
      have e17 : a_.eval (.tmp 17) = .slice A m c := st.dep 2 _ 17 rfl rfl (by kernel_rfl)
      have e18 : a_.eval (.tmp 18) = .bool wide := st.dep 3 _ 18 rfl rfl (by kernel_rfl)
      skip
      exact op_call Try.func31 (by kernel_rfl) rfl #[.slice A m c, .bool wide] (wanted_none rfl _) rfl (by simp [e17, e18]) (calls_slx (CM.out w_ (below_step B1.out st.below)))
    · intro a_ w_ st
      have e0 : a_.eval (.tmp 0) = .slice A n c := st.slot 0 (by kernel_rfl)
      exact op_yield (.slice A n c) (wanted_none rfl _) (by simp only [execOp, e0]; rfl) rfl
    · intro a_ w_ st
      have e6 : a_.eval (.tmp 6) = .int .i64 m := st.slot 6 (by kernel_rfl)
      exact op_yield (.int .i64 m) (wanted_none rfl _) (by simp only [execOp, e6]; rfl) rfl
    · intro a_ w_ st
      have e20 : a_.eval (.tmp 20) = .slice A n c := st.dep 5 _ 20 rfl rfl (by kernel_rfl)
      have e21 : a_.eval (.tmp 21) = .int .i64 m := st.dep 6 _ 21 rfl rfl (by kernel_rfl)
      exact op_yield (.slice A2 (n - m) (c - m)) (wanted_none rfl _) (run_slice rfl e20 (by simp [e21]) rfl (D1.out w_)) rfl
    · intro a_ w_ st
      obtain ⟨A19_, c19_, e19, h19_⟩ : IsSl tl (a_.eval (.tmp 19)) w_ := st.dep 4 _ 19 rfl rfl (by kernel_rfl)
      have e22 : a_.eval (.tmp 22) = .slice A2 (n - m) (c - m) := st.dep 7 _ 22 rfl rfl (by kernel_rfl)
      skip
      exact op_call Try.func41 (by kernel_rfl) rfl #[.slice A19_ _ c19_, .slice A2 (n - m) (c - m)] (wanted_none rfl _) rfl (by simp [e19, e22]) (calls_below (equal_false _ _ tl.length (n - m) _ _ tl (l.drop m) w_ h19_ (D2.out _ (HR.out.below (below_step B1.out st.below))) (by omega) (by omega) HEQ.out))
    · intro a_ w_ st
      have e23 : a_.eval (.tmp 23) = .bool false := st.dep 8 _ 23 rfl rfl (by kernel_rfl)
      exact op_yield (.bool true) (wanted_none rfl _) (by simp only [execOp, e23]; rfl) rfl
  · intro a_ a_w st
    obtain ⟨A19_, c19_, e19_, h19_⟩ : IsSl tl (a_.eval (.tmp 19)) a_w := st.val 4 _ 19 rfl trivial rfl
    have hfr := frame_of st (by kernel_rfl) [.slice A n c, .int .i64 m, .slice A m c, .bool wide, .slice A19_ tl.length c19_, .slice A n c, .int .i64 m, .slice A2 (n - m) (c - m), .bool false, .bool true] ⟨(fun d h => by cases h; exact st.val 0 _ _ rfl trivial rfl), (fun d h => by cases h; exact st.val 1 _ _ rfl trivial rfl), (fun d h => by cases h; exact st.val 2 _ _ rfl trivial rfl), (fun d h => by cases h; exact st.val 3 _ _ rfl trivial rfl), (fun d h => by cases h; exact e19_), (fun d h => by cases h; exact st.val 5 _ _ rfl trivial rfl), (fun d h => by cases h; exact st.val 6 _ _ rfl trivial rfl), (fun d h => by cases h; exact st.val 7 _ _ rfl trivial rfl), (fun d h => by cases h; exact st.val 8 _ _ rfl trivial rfl), (fun d h => by cases h; exact st.val 9 _ _ rfl trivial rfl), trivial⟩
    have BX := Aside0.mk (below_step B1.out st.below)
    rw [hfr]
    clear hfr st
    simp only [putL, Act.put, List.headD_cons, List.tail_cons, List.setIfInBounds_toArray, List.set_cons_zero, List.set_cons_succ]
    go_wp2_with fail
    go_ret2
    exact ⟨rfl, BX.out⟩

end Go.Proofs.Ytlcemeligolabaa.FcE
