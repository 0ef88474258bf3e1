/- Contracts of a step of a selector. -/
import Derived.Test.YtijjmhgcfhkffaaApsC
namespace Go.Proofs.Ytijjmhgcfhkffaa.ApsD
open Go.RowKit Go.Proofs.YtijjmhgcfhkffaaW.PrintWords Go.Proofs.YtijjmhgcfhkffaaW.PrintLast Go.Proofs.YtijjmhgcfhkffaaW.PrintMore Go.Proofs.Ytijjmhgcfhkffaa.K Go.Proofs.Ytijjmhgcfhkffaa.ApsP Go.Proofs.Ytijjmhgcfhkffaa.ApsA Go.Proofs.Ytijjmhgcfhkffaa.ApsB Go.Proofs.Ytijjmhgcfhkffaa.ApsC
set_option linter.unusedVariables false
set_option linter.unusedSimpArgs false
attribute [local go_sem] max2_int min2_int max_two min_two
theorem ok_bad {s : St} (h : Ok s) (work : Int) : Ok ({ s with bad := heldB s work } : St) := by
  obtain ⟨h1, h2, h3, h4, h5, h6, h7, h8, h9⟩ := h
  have hb : 0 ≤ heldB s work ∧ heldB s work ≤ s.hold + 1 := by
    unfold heldB
    split
    · omega
    · split <;> omega
  exact ⟨h1, h2, h3, h4, hb.1, hb.2, h7, h8, h9⟩
set_option maxHeartbeats 8000000 in
set_option maxRecDepth 100000 in
theorem pass_ok (g : Nat) (s : St) (work spare : Int) (ok : Ok s) (w : World) (h : Ob w g 44 s.cells) :
    Calls Try.prog 12 #[.pointer (some ⟨g, 0, none⟩), .int .i64 work, .int .i64 spare] w fun e w' => e = .returned (.int .i64 (passS s work spare).line) ∧ Ob w' g 44 (passS s work spare).cells ∧ Fr (· = g) w w' := by
  obtain ⟨p, hp⟩ : ∃ p, p = passS s work spare := ⟨_, rfl⟩
  rw [← hp]
  have HP := Aside0.mk hp
  have OK2 := Aside0.mk (ok_bad ok work)
  clear hp
  go_enter Try.func12, Try.ntmps12
  go_wp2
  refine region_known 6 10 [?rc1_0, ?rc1_1, ?rc1_2, ?rc1_3, ?rc1_4, ?rc1_5, .int .i64 (heldW s work), ?rc1_7, .int .i64 (localQ s.command (heldW s work) spare), ?rc1_9] (fun b1 _ w' => Ob w' g 44 (cond b1 ({ s with bad := heldB s work } : St) s).cells ∧ Fr (· = g) w w') (by kernel_rfl) (by kernel_rfl) (by kernel_rfl) (fun b1 _ w1 w2 hb hj => ⟨hj.1.below hb, hj.2.then hb⟩) (⟨h, Fr.refl _ _⟩) ?rgo1 ?rgr1
  case rgo1 =>
    refine ⟨?_, ?_, ?_, ?_, ?_, ?_, ?_, ?_, ?_, ?_, trivial⟩
    · intro b1_ b2_ a_ w_ st x1_ x2_ y1_ y2_ hJ_
      have e0 : a_.eval (.tmp 0) = _ := st.slot 0 (by kernel_rfl)
      simp only [List.getD_cons_zero, List.getD_cons_succ] at e0
      refine op2_yield _ (by rfl) ?_ rfl (by decide) (by decide) hJ_
      simp only [execOp, e0]
      go_simp
      with_reducible rfl
    · intro b1_ b2_ a_ w_ st x1_ x2_ y1_ y2_ hJ_
      have e8 : a_.eval (.tmp 8) = _ := st.dep 0 _ 8 rfl rfl (by kernel_rfl)
      simp only [List.getD_cons_zero, List.getD_cons_succ] at e8
      refine op2_yield _ (by rfl) ?_ rfl (by decide) (by decide) hJ_
      simp only [execOp, e8]
      go_simp
      with_reducible rfl
    · intro b1_ b2_ a_ w_ st x1_ x2_ y1_ y2_ hJ_
      have e9 : a_.eval (.tmp 9) = _ := st.dep 1 _ 9 rfl rfl (by kernel_rfl)
      simp only [List.getD_cons_zero, List.getD_cons_succ] at e9
      refine op2_yield _ (by rfl) ?_ rfl (by decide) (by decide) hJ_
      simp only [execOp, e9]
      go_simp
      with_reducible rfl
    · intro b1_ b2_ a_ w_ st x1_ x2_ y1_ y2_ hJ_
      have e10 : a_.eval (.tmp 10) = _ := st.dep 2 _ 10 rfl rfl (by kernel_rfl)
      simp only [List.getD_cons_zero, List.getD_cons_succ] at e10
      have c3_ : w_.cell? ⟨g, 3, none⟩ = some (.int .i64 s.command) := by cases b1_ <;> exact hJ_.1.at_ 3 rfl
      refine op2_yield _ (by rfl) ?_ rfl (by decide) (by decide) hJ_
      simp only [execOp, e10]
      go_simp
      with_reducible rfl
    · intro b1_ b2_ a_ w_ st x1_ x2_ y1_ y2_ hJ_
      have e0 : a_.eval (.tmp 0) = _ := st.slot 0 (by kernel_rfl)
      simp only [List.getD_cons_zero, List.getD_cons_succ] at e0
      refine op2_yield _ (by rfl) ?_ rfl (by decide) (by decide) hJ_
      simp only [execOp, e0]
      go_simp
      with_reducible rfl
    · intro b1_ b2_ a_ w_ st x1_ x2_ y1_ y2_ hJ_
      have e1 : a_.eval (.tmp 1) = _ := st.slot 1 (by kernel_rfl)
      simp only [List.getD_cons_zero, List.getD_cons_succ] at e1
      refine op2_yield _ (by rfl) ?_ rfl (by decide) (by decide) hJ_
      simp only [execOp, e1]
      go_simp
      with_reducible rfl
    · intro b1_ b2_ a_ w_ st x1_ x2_ y1_ y2_ hJ_
      have e12 : a_.eval (.tmp 12) = _ := st.dep 4 _ 12 rfl rfl (by kernel_rfl)
      have e13 : a_.eval (.tmp 13) = _ := st.dep 5 _ 13 rfl rfl (by kernel_rfl)
      simp only [List.getD_cons_zero, List.getD_cons_succ] at e12 e13
      obtain rfl : b1_ = false := x1_ rfl
      exact op2_go Try.func27 (by kernel_rfl) rfl #[.pointer (some ⟨g, 0, none⟩), .int .i64 work] (by rfl) rfl (by simp [e12, e13]) ((held_ok g s work ok w_ hJ_.1).mono fun e w' hh => ⟨_, hh.1, VC_keep, .inr rfl, hh.2.1, hJ_.2.comp hh.2.2⟩)
    · intro b1_ b2_ a_ w_ st x1_ x2_ y1_ y2_ hJ_
      have e2 : a_.eval (.tmp 2) = _ := st.slot 2 (by kernel_rfl)
      simp only [List.getD_cons_zero, List.getD_cons_succ] at e2
      refine op2_yield _ (by rfl) ?_ rfl (by decide) (by decide) hJ_
      simp only [execOp, e2]
      go_simp
      with_reducible rfl
    · intro b1_ b2_ a_ w_ st x1_ x2_ y1_ y2_ hJ_
      have e11 : a_.eval (.tmp 11) = _ := st.dep 3 _ 11 rfl rfl (by kernel_rfl)
      have e14 : a_.eval (.tmp 14) = _ := st.dep 6 _ 14 rfl rfl (by kernel_rfl)
      have e15 : a_.eval (.tmp 15) = _ := st.dep 7 _ 15 rfl rfl (by kernel_rfl)
      simp only [List.getD_cons_zero, List.getD_cons_succ] at e11 e14 e15
      exact op2_call Try.func26 (by kernel_rfl) rfl #[.int .i64 s.command, .int .i64 (heldW s work), .int .i64 spare] (by rfl) rfl (by simp [e11, e14, e15]) (VC_stable _) (fun b1 _ w1 w2 hb hj => ⟨hj.1.below hb, hj.2.then hb⟩) (by decide) (by decide) hJ_ (calls_same (local_ok _ _ _ _))
    · intro b1_ b2_ a_ w_ st x1_ x2_ y1_ y2_ hJ_
      have e16 : a_.eval (.tmp 16) = _ := st.dep 8 _ 16 rfl rfl (by kernel_rfl)
      simp only [List.getD_cons_zero, List.getD_cons_succ] at e16
      refine op2_yield _ (by rfl) ?_ rfl (by decide) (by decide) hJ_
      simp only [execOp, e16]
      go_simp
      with_reducible rfl
  case rgr1 =>
    intro w1 hj
    obtain ⟨h1, FR⟩ := (show Ob w1 g 44 ({ s with bad := heldB s work } : St).cells ∧ Fr (· = g) w w1 from hj)
    simp only [putL, Act.put, List.headD_cons, List.tail_cons, List.setIfInBounds_toArray, List.set_cons_zero, List.set_cons_succ]
    have c5 := h1.at_ 5 (v := .int .i64 s.own) rfl
    have f5 := h1.frozen 5
    have c4 := h1.at_ 4 (v := .int .i64 s.remote) rfl
    have f8 := h1.frozen 8
    have c8 := h1.at_ 8 (v := .int .i64 s.line) rfl
    have H := Aside0.mk h1
    have FR := Aside0.mk FR
    clear h1 hj
    by_cases hq : localQ s.command (heldW s work) spare = 0
    · have HE := Aside0.mk (show p = { s with bad := heldB s work, own := afterQ s, left := afterL s, line := lineQ (winsQ (afterQ s) s.remote) } by rw [HP.out, passS, passQ, passL, if_pos hq, if_pos hq])
      have bq : (localQ s.command (heldW s work) spare == 0) = true := beq_iff_eq.mpr hq
      generalize localQ s.command (heldW s work) spare = q at bq hq ⊢
      subst hq
      go_wp2_with (first
        | (go_at_call 28; (with_reducible refine (after_ok g ({ s with bad := heldB s work } : St) OK2.out _ H.out).mono ?_); rintro e w2 ⟨rfl, h2, fr2⟩; rw [show afterQ ({ s with bad := heldB s work } : St) = afterQ s from rfl]; clear c5 f5 c4 f8 c8; have c5 := h2.at_ 5 (v := .int .i64 s.own) rfl; have f5 := h2.frozen 5; have c4 := h2.at_ 4 (v := .int .i64 s.remote) rfl; have f8 := h2.frozen 8; have c8 := h2.at_ 8 (v := .int .i64 s.line) rfl; have H2 := Aside0.mk (show Ob w2 g 44 ({ s with bad := heldB s work, left := afterL s } : St).cells from h2); have FR2 := Aside0.mk (FR.out.comp fr2); clear H FR h2 fr2; have H := H2; have FR := FR2; clear H2 FR2)
        | (go_at_call 30; (with_reducible refine (wins_ok _ _ _).mono ?_); rintro e w' ⟨rfl, rfl⟩)
        | (go_at_call 29; (with_reducible refine (line_ok _ _).mono ?_); rintro e w' ⟨rfl, rfl⟩))
      first | go_ret | go_ret2 | go_end0
      exact ⟨by rw [HE.out]; rfl, by rw [HE.out]; apply Ob.to; (repeat first | (with_reducible first | exact H.out | apply Ob.set) | exact H.out); rfl, by repeat first | (with_reducible first | exact FR.out | apply Fr.put) | exact FR.out⟩
    · have HE := Aside0.mk (show p = { s with bad := heldB s work, own := localQ s.command (heldW s work) spare, line := lineQ (winsQ (localQ s.command (heldW s work) spare) s.remote) } by rw [HP.out, passS, passQ, passL, if_neg hq, if_neg hq])
      have bq : (localQ s.command (heldW s work) spare == 0) = false := beq_eq_false_iff_ne.mpr hq
      generalize localQ s.command (heldW s work) spare = q at bq hq HE ⊢
      go_wp2_with (first
        | (go_at_call 30; (with_reducible refine (wins_ok _ _ _).mono ?_); rintro e w' ⟨rfl, rfl⟩)
        | (go_at_call 29; (with_reducible refine (line_ok _ _).mono ?_); rintro e w' ⟨rfl, rfl⟩))
      first | go_ret | go_ret2 | go_end0
      exact ⟨by rw [HE.out]; rfl, by rw [HE.out]; apply Ob.to; (repeat first | (with_reducible first | exact H.out | apply Ob.set) | exact H.out); rfl, by repeat first | (with_reducible first | exact FR.out | apply Fr.put) | exact FR.out⟩

end Go.Proofs.Ytijjmhgcfhkffaa.ApsD
