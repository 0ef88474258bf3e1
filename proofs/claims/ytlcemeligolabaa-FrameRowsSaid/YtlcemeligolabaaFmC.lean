/- Contracts of a reader of frames: flag, Push. -/
import Derived.Test.YtlcemeligolabaaFmB
namespace Go.Proofs.Ytlcemeligolabaa.FmC
open Go.RowKit Go.Proofs.YtlcemeligolabaaW.PrintWords Go.Proofs.YtlcemeligolabaaW.PrintLast Go.Proofs.YtlcemeligolabaaW.PrintMore Go.Proofs.Ytlcemeligolabaa.K Go.Proofs.Ytlcemeligolabaa.FmP Go.Proofs.Ytlcemeligolabaa.FmA Go.Proofs.Ytlcemeligolabaa.FmB Go.Proofs.Ytlcemeligolabaa.FcP Go.Proofs.Ytlcemeligolabaa.FcA Go.Proofs.Ytlcemeligolabaa.FcB Go.Proofs.Ytlcemeligolabaa.FcC Go.Proofs.Ytlcemeligolabaa.FcR Go.Proofs.Ytlcemeligolabaa.FcD Go.Proofs.Ytlcemeligolabaa.FcE Go.Proofs.Ytlcemeligolabaa.OctPure
set_option linter.unusedVariables false
set_option linter.unusedSimpArgs false
attribute [local go_sem] max2_int min2_int max_two min_two

/-- What holds at a label of Push. -/
def PJ (L0 : Nat) (p : Nat) (x : Int) (w0 : World) (n L : Nat) (a' : Act) (w' : World) : Prop := L = L0 ∧ w' = w0 ∧ ∃ (u2 u3 u6 u7 u8 u9 u10 u11 u12 u13 u14 u15 u16 u17 u18 u19 u20 u21 u22 u23 u24 u25 u26 u27 u28 u29 u30 : Value), a' = { tmps := #[.pointer (some ⟨p, 0, none⟩), .int .u8 x, u2, u3, .int .i64 0, .slice none 0 0, u6, u7, u8, u9, u10, u11, u12, u13, u14, u15, u16, u17, u18, u19, u20, u21, u22, u23, u24, u25, u26, u27, u28, u29, u30], defers := [] }
theorem up_own {w w1 : World} {p B : Nat} {u : Value} {xs : List Int} (h : Own (Kd.int .u8) 5 B w u xs) (hp : p < B) (i : Nat) (x : Value) : Own (Kd.int .u8) 5 B (w.setCell ⟨p, i, none⟩ x) u xs :=
  h.fr (Fr.put (Fr.refl (fun k => k = p) w) i x) (fun k hk e => by have := (FmA.Own.lt h k hk).1; omega)
set_option maxHeartbeats 8000000 in
set_option maxRecDepth 100000 in
theorem flag_ok (p : Nat) (v : Value) (R : Re) (k : Ok R) (w : World) (i : IsP w p v R) :
    Calls Try.prog 27 #[.pointer (some ⟨p, 0, none⟩)] w fun e w' => ∃ u, e = .returned (.tuple #[.int .i64 R.told.1, u]) ∧ Own (Kd.int .u8) 5 w.heap.size w' u R.told.2 ∧ IsP w' p (.slice none 0 0) R.clr ∧ Fr (Sp p v) w w' := by
  obtain ⟨n, hn⟩ : ∃ n, n = R.b.length := ⟨_, rfl⟩
  obtain ⟨A, cp, rfl, hcp⟩ := i.row.sliceN hn.symm
  have J0 := Aside0.mk i
  have K0 := Aside0.mk k
  have PW := Aside0.mk i.tab.lt
  have c2 := i.tab.at_ 2 (v := .int .i64 R.st) rfl
  have f2 := i.tab.frozen 2
  have c3 := i.tab.at_ 3 (v := .slice A n cp) rfl
  have f3 := i.tab.frozen 3
  by_cases h2 : R.st = 2
  · rw [h2] at c2
    have HE : Aside0 (R.told = endK R.wide R.b) := ⟨by unfold Re.told; rw [if_pos h2]⟩
    rw [HE.out]
    clear i k h2 hn
    go_enter Try.func27, Try.ntmps27
    go_wp2_with (first | (go_at_call 34; (with_reducible refine (ends_ok p (.slice A n cp) R K0.out w J0.out).mono ?_); rintro e w1 ⟨u, rfl, ho, hb⟩; have J1 := Aside0.mk (J0.out.below hb); have O1 := Aside0.mk ho; have HB1 := Aside0.mk hb; clear c2 f2 c3 f3; have c2 := J1.out.tab.at_ 2 (v := .int .i64 R.st) rfl; have f2 := J1.out.tab.frozen 2; have c3 := J1.out.tab.at_ 3 (v := .slice A n cp) rfl; have f3 := J1.out.tab.frozen 3; clear ho hb))
    first | go_ret | go_ret2 | ((try simp only [Exit.inBlock, Exit.then]); refine bodyPost_ret (results_tmp3 rfl _ _ _) rfl ?_) | go_end0 | refine bodyPost_ret0 rfl rfl ?_
    exact ⟨_, rfl, up_own (w1 := w1) (up_own (w1 := w1) O1.out PW.out 2 _) PW.out 3 _, ⟨(J1.out.tab.set 2 (.int .i64 1)).set 3 (.slice none 0 0), Own.nil _ _ _ _⟩, sp_put (sp_put (Fr.of_below HB1.out) _) _⟩
  · by_cases h3 : R.st = 3
    · rw [h3] at c2
      have HE : Aside0 (R.told = (5, [])) := ⟨by unfold Re.told; rw [if_neg h2, if_pos h3]⟩
      rw [HE.out]
      clear i k h2 h3 hn
      go_enter Try.func27, Try.ntmps27
      go_wp2
      first | go_ret | go_ret2 | ((try simp only [Exit.inBlock, Exit.then]); refine bodyPost_ret (results_tmp3 rfl _ _ _) rfl ?_) | go_end0 | refine bodyPost_ret0 rfl rfl ?_
      exact ⟨_, rfl, Own.nil _ _ _ _, ⟨(J0.out.tab.set 2 (.int .i64 1)).set 3 (.slice none 0 0), Own.nil _ _ _ _⟩, sp_put (sp_put (Fr.refl _ _) _) _⟩
    · by_cases h4 : R.st = 4
      · rw [h4] at c2
        have HE : Aside0 (R.told = (3, [])) := ⟨by unfold Re.told; rw [if_neg h2, if_neg h3, if_pos h4]⟩
        rw [HE.out]
        clear i k h2 h3 h4 hn
        go_enter Try.func27, Try.ntmps27
        go_wp2
        first | go_ret | go_ret2 | ((try simp only [Exit.inBlock, Exit.then]); refine bodyPost_ret (results_tmp3 rfl _ _ _) rfl ?_) | go_end0 | refine bodyPost_ret0 rfl rfl ?_
        exact ⟨_, rfl, Own.nil _ _ _ _, ⟨(J0.out.tab.set 2 (.int .i64 1)).set 3 (.slice none 0 0), Own.nil _ _ _ _⟩, sp_put (sp_put (Fr.refl _ _) _) _⟩
      · have b2 : (R.st == 2) = false := beq_eq_false_iff_ne.mpr h2
        have b3 : (R.st == 3) = false := beq_eq_false_iff_ne.mpr h3
        have b4 : (R.st == 4) = false := beq_eq_false_iff_ne.mpr h4
        have HE : Aside0 (R.told = (0, [])) := ⟨by unfold Re.told; rw [if_neg h2, if_neg h3, if_neg h4]⟩
        rw [HE.out]
        clear i k h2 h3 h4 hn
        go_enter Try.func27, Try.ntmps27
        go_wp2
        first | go_ret | go_ret2 | ((try simp only [Exit.inBlock, Exit.then]); refine bodyPost_ret (results_tmp3 rfl _ _ _) rfl ?_) | go_end0 | refine bodyPost_ret0 rfl rfl ?_
        exact ⟨_, rfl, Own.nil _ _ _ _, ⟨(J0.out.tab.set 2 (.int .i64 1)).set 3 (.slice none 0 0), Own.nil _ _ _ _⟩, sp_put (sp_put (Fr.refl _ _) _) _⟩
set_option maxHeartbeats 8000000 in
set_option maxRecDepth 100000 in
theorem push_ok (p : Nat) (v : Value) (R : Re) (c : Int) (k : Ok R) (c0 : 0 ≤ c) (cm : c ≤ 255) (w : World) (i : IsP w p v R) :
    Calls Try.prog 17 #[.pointer (some ⟨p, 0, none⟩), .int .u8 c] w fun e w' => ∃ u v', e = .returned (.tuple #[.int .i64 (R.out c).1, u]) ∧ Own (Kd.int .u8) 5 w.heap.size w' u (R.out c).2 ∧ IsP w' p v' (R.push c) ∧ Nw w v v' ∧ Fr (Sp p v) w w' := by
  have J0 := Aside0.mk i
  have K0 := Aside0.mk k
  have HL : Aside0 (R.b.length ≤ 100000) := ⟨by have := k.len; have := k.m1; omega⟩
  have c2 := i.tab.at_ 2 (v := .int .i64 R.st) rfl
  have f2 := i.tab.frozen 2
  by_cases h126 : c = 126
  · subst h126
    have e1 : R.out 126 = R.told := rfl
    have e2 : R.push 126 = R.clr := rfl
    rw [e1, e2]
    clear e1 e2 i k
    go_enter Try.func17, Try.ntmps17
    go_wp2
    refine wp_scope_labels (fun _ _ _ _ => False) ?_ ?_
    · go_wp2_with (first | (go_at_call 27; (with_reducible refine (flag_ok p v R K0.out w J0.out).mono ?_); rintro e w1 ⟨u, rfl, ho, hi, hf⟩; have O1 := Aside0.mk ho; have I1 := Aside0.mk hi; have F1 := Aside0.mk hf; clear ho hi hf))
      (try rw [jumps_ret])
      first | go_ret | go_ret2 | ((try simp only [Exit.inBlock, Exit.then]); refine bodyPost_ret (results_tmp3 rfl _ _ _) rfl ?_) | go_end0 | refine bodyPost_ret0 rfl rfl ?_
      exact ⟨_, _, rfl, O1.out, I1.out, Nw.none _ _, F1.out⟩
    · rintro n L a' w' h
      exact h.elim
  · have b126 : (c == 126) = false := beq_eq_false_iff_ne.mpr h126
    have e1 : R.out c = (0, []) := by unfold Re.out; rw [if_neg h126]
    rw [e1]
    by_cases hs : R.st = 0 ∨ R.st = 4
    · have e2 : R.push c = R := by unfold Re.push; rw [if_neg h126, if_pos hs]
      rw [e2]
      clear e1 e2 i k h126
      rcases hs with h | h
      all_goals
        rw [h] at c2
        clear h
        go_enter Try.func17, Try.ntmps17
        go_wp2
        refine wp_scope_labels (PJ 0 p c w) ?_ ?_
        · go_wp2
          go_step3
          exact ⟨0, rfl, rfl, _, _, _, _, _, _, _, _, _, _, _, _, _, _, _, _, _, _, _, _, _, _, _, _, _, _, _, rfl⟩
        · rintro n L a' w' ⟨rfl, rfl, u2, u3, u6, u7, u8, u9, u10, u11, u12, u13, u14, u15, u16, u17, u18, u19, u20, u21, u22, u23, u24, u25, u26, u27, u28, u29, u30, rfl⟩
          refine ⟨_, rfl, ?_⟩
          go_wp2
          (try rw [jumps_ret])
          first | go_ret | go_ret2 | ((try simp only [Exit.inBlock, Exit.then]); refine bodyPost_ret (results_tmp3 rfl _ _ _) rfl ?_) | go_end0 | refine bodyPost_ret0 rfl rfl ?_
          exact ⟨_, _, rfl, Own.nil _ _ _ _, J0.out, Nw.refl _ _, Fr.refl _ _⟩
    · by_cases h3 : R.st = 3
      · have e2 : R.push c = R.take (x32 c) := by unfold Re.push; rw [if_neg h126, if_neg hs, if_pos h3]
        rw [e2]
        rw [h3] at c2
        have e3 : bits .xor .u8 c 32 = x32 c := rfl
        clear e1 e2 i k h126 hs h3
        go_enter Try.func17, Try.ntmps17
        go_wp2
        refine wp_scope_labels (PJ 1 p (x32 c) w) ?_ ?_
        · go_wp2
          go_step3
          exact ⟨0, rfl, rfl, _, _, _, _, _, _, _, _, _, _, _, _, _, _, _, _, _, _, _, _, _, _, _, _, _, _, _, rfl⟩
        · rintro n L a' w' ⟨rfl, rfl, u2, u3, u6, u7, u8, u9, u10, u11, u12, u13, u14, u15, u16, u17, u18, u19, u20, u21, u22, u23, u24, u25, u26, u27, u28, u29, u30, rfl⟩
          refine ⟨_, rfl, ?_⟩
          go_wp2_with (first | (go_at_call 28; (with_reducible refine (take_ok p v R (x32 c) w' J0.out HL.out).mono ?_); rintro e w1 ⟨v1, rfl, hi, hn, hf⟩; have I1 := Aside0.mk hi; have N1 := Aside0.mk hn; have F1 := Aside0.mk hf; clear hi hn hf))
          go_step3
          go_wp2
          (try rw [jumps_ret])
          first | go_ret | go_ret2 | ((try simp only [Exit.inBlock, Exit.then]); refine bodyPost_ret (results_tmp3 rfl _ _ _) rfl ?_) | go_end0 | refine bodyPost_ret0 rfl rfl ?_
          exact ⟨_, _, rfl, Own.nil _ _ _ _, I1.out, N1.out, F1.out⟩
      · have b0 : (R.st == 0) = false := beq_eq_false_iff_ne.mpr (fun h => hs (Or.inl h))
        have b3 : (R.st == 3) = false := beq_eq_false_iff_ne.mpr h3
        have b4 : (R.st == 4) = false := beq_eq_false_iff_ne.mpr (fun h => hs (Or.inr h))
        by_cases h125 : c = 125
        · have e2 : R.push c = ⟨R.wide, R.most, 3, R.b⟩ := by unfold Re.push; rw [if_neg h126, if_neg hs, if_neg h3, if_pos h125]
          rw [e2]
          subst h125
          clear e1 e2 i k h126 hs h3 b126
          go_enter Try.func17, Try.ntmps17
          go_wp2
          refine wp_scope_labels (PJ 0 p 125 (w.setCell ⟨p, 2, none⟩ (.int .i64 3))) ?_ ?_
          · go_wp2
            go_step3
            exact ⟨0, rfl, rfl, _, _, _, _, _, _, _, _, _, _, _, _, _, _, _, _, _, _, _, _, _, _, _, _, _, _, _, rfl⟩
          · rintro n L a' w' ⟨rfl, rfl, u2, u3, u6, u7, u8, u9, u10, u11, u12, u13, u14, u15, u16, u17, u18, u19, u20, u21, u22, u23, u24, u25, u26, u27, u28, u29, u30, rfl⟩
            refine ⟨_, rfl, ?_⟩
            go_wp2
            (try rw [jumps_ret])
            first | go_ret | go_ret2 | ((try simp only [Exit.inBlock, Exit.then]); refine bodyPost_ret (results_tmp3 rfl _ _ _) rfl ?_) | go_end0 | refine bodyPost_ret0 rfl rfl ?_
            exact ⟨_, _, rfl, Own.nil _ _ _ _, J0.out.put 2 (.int .i64 3) ⟨R.wide, R.most, 3, R.b⟩ rfl rfl, Nw.refl _ _, sp_put (Fr.refl _ _) _⟩
        · have e2 : R.push c = R.take c := by unfold Re.push; rw [if_neg h126, if_neg hs, if_neg h3, if_neg h125]
          rw [e2]
          have b125 : (c == 125) = false := beq_eq_false_iff_ne.mpr h125
          clear e1 e2 i k h126 hs h3 h125
          go_enter Try.func17, Try.ntmps17
          go_wp2
          refine wp_scope_labels (fun _ _ _ _ => False) ?_ ?_
          · go_wp2
            go_step3
            go_wp2_with (first | (go_at_call 28; (with_reducible refine (take_ok p v R c w J0.out HL.out).mono ?_); rintro e w1 ⟨v1, rfl, hi, hn, hf⟩; have I1 := Aside0.mk hi; have N1 := Aside0.mk hn; have F1 := Aside0.mk hf; clear hi hn hf))
            go_step3
            go_wp2
            (try rw [jumps_ret])
            first | go_ret | go_ret2 | ((try simp only [Exit.inBlock, Exit.then]); refine bodyPost_ret (results_tmp3 rfl _ _ _) rfl ?_) | go_end0 | refine bodyPost_ret0 rfl rfl ?_
            exact ⟨_, _, rfl, Own.nil _ _ _ _, I1.out, N1.out, F1.out⟩
          · rintro n L a' w' h
            exact h.elim

end Go.Proofs.Ytlcemeligolabaa.FmC
