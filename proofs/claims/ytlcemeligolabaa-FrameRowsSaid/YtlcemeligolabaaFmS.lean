/- Contracts of the reference's reader of frames: Push. -/
import Derived.Test.YtlcemeligolabaaFmR
namespace Go.Proofs.Ytlcemeligolabaa.FmS
open Go.RowKit Go.Proofs.YtlcemeligolabaaW.PrintWords Go.Proofs.YtlcemeligolabaaW.PrintLast Go.Proofs.YtlcemeligolabaaW.PrintMore Go.Proofs.Ytlcemeligolabaa.K Go.Proofs.Ytlcemeligolabaa.FmP Go.Proofs.Ytlcemeligolabaa.FmA Go.Proofs.Ytlcemeligolabaa.FmB Go.Proofs.Ytlcemeligolabaa.FmC Go.Proofs.Ytlcemeligolabaa.FmR Go.Proofs.Ytlcemeligolabaa.FcP Go.Proofs.Ytlcemeligolabaa.FcA Go.Proofs.Ytlcemeligolabaa.FcB Go.Proofs.Ytlcemeligolabaa.FcC Go.Proofs.Ytlcemeligolabaa.FcR Go.Proofs.Ytlcemeligolabaa.FcD Go.Proofs.Ytlcemeligolabaa.FcE Go.Proofs.Ytlcemeligolabaa.FcF Go.Proofs.Ytlcemeligolabaa.OctPure
set_option linter.unusedVariables false
set_option linter.unusedSimpArgs false
attribute [local go_sem] max2_int min2_int max_two min_two

def Rr.esc1 (r : Rr) (c : Int) : Rr := ⟨r.most, r.wide, r.inn, r.b ++ [c], r.n, true, r.long⟩
set_option maxHeartbeats 8000000 in
set_option maxRecDepth 100000 in
theorem rpush_ok (p : Nat) (v : Value) (r : Rr) (c : Int) (k : OkR r) (c0 : 0 ≤ c) (cm : c ≤ 255) (w : World) (i : IsS w p v r) :
    Calls Try.prog 15 #[.pointer (some ⟨p, 0, none⟩), .int .u8 c] w fun e w' => ∃ u v', e = .returned (.tuple #[.int .i64 (r.out c).1, u]) ∧ Own (Kd.int .u8) 5 w.heap.size w' u (r.out c).2 ∧ IsS w' p v' (r.push c) ∧ Nw w v v' ∧ Fr (Sp p v) w w' := by
  obtain ⟨n, hn⟩ : ∃ n, n = r.b.length := ⟨_, rfl⟩
  obtain ⟨A, cp, rfl, hcp⟩ := i.row.sliceN hn.symm
  have hnb : n ≤ 200000 := by have := k.len; have := k.n2; omega
  have hlen : (r.b.length + 1) * 1 ≤ 140737488355328 := by rw [← hn]; omega
  have HO := Aside0.mk i.row
  have hn1 : Aside0 ((r.b ++ [c]).length = n + 1) := ⟨by rw [List.length_append, ← hn]; rfl⟩
  have hnn0 := k.n0
  have hnn1 := k.n2
  have c0 := i.tab.at_ 0 (v := .int .i64 r.most) rfl
  have f0 := i.tab.frozen 0
  have c1 := i.tab.at_ 1 (v := .bool r.wide) rfl
  have f1 := i.tab.frozen 1
  have c2 := i.tab.at_ 2 (v := .bool r.inn) rfl
  have f2 := i.tab.frozen 2
  have c3 := i.tab.at_ 3 (v := .slice A n cp) rfl
  have f3 := i.tab.frozen 3
  have c4 := i.tab.at_ 4 (v := .int .i64 r.n) rfl
  have f4 := i.tab.frozen 4
  have c5 := i.tab.at_ 5 (v := .bool r.esc) rfl
  have f5 := i.tab.frozen 5
  have c6 := i.tab.at_ 6 (v := .bool r.long) rfl
  have f6 := i.tab.frozen 6
  have I0 := Aside0.mk i
  have K0 := Aside0.mk k
  have PW := Aside0.mk i.tab.lt
  obtain ⟨q, hq⟩ : ∃ q, q = sizeT r.wide := ⟨_, rfl⟩
  have hq4 : q ≤ 4 := by rw [hq]; exact (sizeT_b r.wide).2
  have hm1 := k.m1
  have hm0 := k.m0
  have TLN : Aside0 (∀ w', Calls Try.prog 25 #[.bool r.wide] w' fun e w'' => e = .returned (.int .i64 ((q : Nat) : Int)) ∧ w'' = w') := ⟨fun w' => by rw [hq]; exact (tailn_ok r.wide w').mono fun _ _ h => ⟨h.1, h.2.symm⟩⟩
  by_cases h126 : c = 126
  · subst h126
    have e1 : r.out 126 = r.told := rfl
    have e2 : r.push 126 = r.clr := rfl
    rw [e1, e2]
    clear e1 e2 i k hn hq hlen
    go_enter Try.func15, Try.ntmps15
    go_wp2_with (first | (go_at_call 24; (with_reducible refine (rends_ok p (.slice A n cp) r K0.out w I0.out).mono ?_); rintro e w1 ⟨u, rfl, ho, hb⟩; have O1 := Aside0.mk ho; have B1 := Aside0.mk hb; clear c0 f0 c1 f1 c2 f2 c3 f3 c4 f4 c5 f5 c6 f6; have c2 := (I0.out.below hb).tab.at_ 2 (v := .bool r.inn) rfl; have f2 := (I0.out.below hb).tab.frozen 2; have c3 := (I0.out.below hb).tab.at_ 3 (v := .slice A n cp) rfl; have f3 := (I0.out.below hb).tab.frozen 3; have c4 := (I0.out.below hb).tab.at_ 4 (v := .int .i64 r.n) rfl; have f4 := (I0.out.below hb).tab.frozen 4; have c5 := (I0.out.below hb).tab.at_ 5 (v := .bool r.esc) rfl; have f5 := (I0.out.below hb).tab.frozen 5; have c6 := (I0.out.below hb).tab.at_ 6 (v := .bool r.long) rfl; have f6 := (I0.out.below hb).tab.frozen 6; clear ho hb))
    first | go_ret | go_ret2 | ((try simp only [Exit.inBlock, Exit.then]); refine bodyPost_ret (results_tmp3 rfl _ _ _) rfl ?_) | go_end0 | refine bodyPost_ret0 rfl rfl ?_
    exact ⟨_, _, rfl, up_own (w1 := w1) (up_own (w1 := w1) (up_own (w1 := w1) (up_own (w1 := w1) (up_own (w1 := w1) O1.out PW.out 2 _) PW.out 3 _) PW.out 4 _) PW.out 5 _) PW.out 6 _, ⟨(((((I0.out.below B1.out).tab.set 2 (.bool true)).set 3 (.slice none 0 0)).set 4 (.int .i64 0)).set 5 (.bool false)).set 6 (.bool false), Own.nil _ _ _ _⟩, Nw.none _ _, sp_put (sp_put (sp_put (sp_put (sp_put (Fr.of_below B1.out) _) _) _) _) _⟩
  have b126 : (c == 126) = false := beq_eq_false_iff_ne.mpr h126
  have e1 : r.out c = (0, []) := by unfold Rr.out; rw [if_neg h126]
  rw [e1]
  by_cases hs : r.inn = false ∨ r.long = true
  · have e2 : r.push c = r := by unfold Rr.push; rw [if_neg h126, if_pos hs]
    rw [e2]
    clear e1 e2 i k hn hq hlen h126
    by_cases h1 : r.inn = false
    · rw [h1] at c2
      clear hs h1
      go_enter Try.func15, Try.ntmps15
      go_wp2
      first | go_ret | go_ret2 | ((try simp only [Exit.inBlock, Exit.then]); refine bodyPost_ret (results_tmp3 rfl _ _ _) rfl ?_) | go_end0 | refine bodyPost_ret0 rfl rfl ?_
      exact ⟨_, _, rfl, Own.nil _ _ _ _, I0.out, Nw.refl _ _, Fr.refl _ _⟩
    · have h2 : r.long = true := hs.resolve_left h1
      have h1t : r.inn = true := by simpa using h1
      rw [h1t] at c2
      rw [h2] at c6
      clear hs h1 h2 h1t
      go_enter Try.func15, Try.ntmps15
      go_wp2
      first | go_ret | go_ret2 | ((try simp only [Exit.inBlock, Exit.then]); refine bodyPost_ret (results_tmp3 rfl _ _ _) rfl ?_) | go_end0 | refine bodyPost_ret0 rfl rfl ?_
      exact ⟨_, _, rfl, Own.nil _ _ _ _, I0.out, Nw.refl _ _, Fr.refl _ _⟩
  have h1t : r.inn = true := by cases h : r.inn; exact absurd (Or.inl h) hs; rfl
  have h2f : r.long = false := by cases h : r.long; rfl; exact absurd (Or.inr h) hs
  have KN := k.n1 h2f
  have hc2 := c2
  rw [h1t] at c2
  rw [h2f] at c6
  by_cases h5 : c = 125 ∧ r.esc = false
  · have e2 : r.push c = ⟨r.most, r.wide, r.inn, r.b ++ [c], r.n, true, r.long⟩ := by unfold Rr.push; rw [if_neg h126, if_neg hs, if_pos h5]
    rw [e2]
    have b125 : (c == 125) = true := by rw [h5.1]; rfl
    have h5e := h5.2
    have hee : r.esc = false := h5e
    clear e1 e2 i k hn hq h126 hs h5 h1t h2f KN hc2 h5e
    go_enter Try.func15, Try.ntmps15
    go_wp2_with (first | (at_builtin; refine FmA.app_own Try.underlying24 info5 rfl (by decide) (.tmp 47) (.tmp 49) rfl rfl rfl rfl HO.out hlen ?_; intro v1 w1 HO1 F1 N1; obtain ⟨A1, cp1, rfl, hc1⟩ := HO1.sliceN hn1.out; have T1 := I0.out.tab.fr F1 (fun h => I0.out.ne p h rfl); have f3 := T1.frozen 3; have k3 := T1.at_ 3 (v := .slice A n cp) rfl; have I1 := Aside0.mk (I0.out.taken HO1 F1 N1); have G1 := Aside0.mk (sp_put (i := 3) (F1.mono (T := Sp p (.slice A n cp)) (fun k hk => Or.inr hk)) (.slice A1 (n + 1) cp1)); have N1' := Aside0.mk (show Nw w (.slice A n cp) (.slice A1 (n + 1) cp1) from N1); clear c0 f0 c1 f1 c2 f2 c3 c4 f4 c5 f5 c6 f6; have c0 := T1.at_ 0 (v := .int .i64 r.most) rfl; have f0 := T1.frozen 0; have c1 := T1.at_ 1 (v := .bool r.wide) rfl; have f1 := T1.frozen 1; have c4 := T1.at_ 4 (v := .int .i64 r.n) rfl; have f4 := T1.frozen 4; have c6 := T1.at_ 6 (v := .bool r.long) rfl; have f6 := T1.frozen 6; have f5 := T1.frozen 5; have c5 : w1.cell? ⟨p, 5, none⟩ = some (.bool false) := (T1.at_ 5 (v := .bool r.esc) rfl).trans (by first | rfl | rw [hee]); clear T1 HO1 F1 N1))
    first | go_ret | go_ret2 | ((try simp only [Exit.inBlock, Exit.then]); refine bodyPost_ret (results_tmp3 rfl _ _ _) rfl ?_) | go_end0 | refine bodyPost_ret0 rfl rfl ?_
    exact ⟨_, _, rfl, Own.nil _ _ _ _, I1.out.put 5 (.bool true) _ rfl rfl, N1'.out, sp_put G1.out _⟩
  · have e2 : r.push c = ⟨r.most, r.wide, r.inn, r.b ++ [c], r.n + 1, false, decide (r.n + 1 > r.most + ((sizeT r.wide : Nat) : Int))⟩ := by unfold Rr.push; rw [if_neg h126, if_neg hs, if_neg h5]
    rw [e2, ← hq]
    have PT := fun (w' : World) (x : Value) (j : IsS w' p x ⟨r.most, r.wide, r.inn, r.b ++ [c], r.n, r.esc, r.long⟩) => ((j.put 5 (.bool false) ⟨r.most, r.wide, r.inn, r.b ++ [c], r.n, false, r.long⟩ rfl rfl).put 4 (.int .i64 (r.n + 1)) ⟨r.most, r.wide, r.inn, r.b ++ [c], r.n + 1, false, r.long⟩ rfl rfl)
    have PT := Aside0.mk PT
    have HX : Aside0 (c = 125 → r.esc = true) := ⟨fun h => by cases he : r.esc; exact absurd ⟨h, he⟩ h5; rfl⟩
    clear e1 e2 i k hn hq h126 hs h5 h1t h2f KN hc2
    by_cases h125 : c = 125
    · have hee := HX.out h125
      have b125 : (c == 125) = true := by rw [h125]; rfl
      clear h125
      go_enter Try.func15, Try.ntmps15
      go_wp2_with (first | (at_builtin; refine FmA.app_own Try.underlying24 info5 rfl (by decide) (.tmp 47) (.tmp 49) rfl rfl rfl rfl HO.out hlen ?_; intro v1 w1 HO1 F1 N1; obtain ⟨A1, cp1, rfl, hc1⟩ := HO1.sliceN hn1.out; have T1 := I0.out.tab.fr F1 (fun h => I0.out.ne p h rfl); have f3 := T1.frozen 3; have k3 := T1.at_ 3 (v := .slice A n cp) rfl; have I1 := Aside0.mk (I0.out.taken HO1 F1 N1); have G1 := Aside0.mk (sp_put (i := 3) (F1.mono (T := Sp p (.slice A n cp)) (fun k hk => Or.inr hk)) (.slice A1 (n + 1) cp1)); have N1' := Aside0.mk (show Nw w (.slice A n cp) (.slice A1 (n + 1) cp1) from N1); clear c0 f0 c1 f1 c2 f2 c3 c4 f4 c5 f5 c6 f6; have c0 := T1.at_ 0 (v := .int .i64 r.most) rfl; have f0 := T1.frozen 0; have c1 := T1.at_ 1 (v := .bool r.wide) rfl; have f1 := T1.frozen 1; have c4 := T1.at_ 4 (v := .int .i64 r.n) rfl; have f4 := T1.frozen 4; have c6 := T1.at_ 6 (v := .bool r.long) rfl; have f6 := T1.frozen 6; have f5 := T1.frozen 5; have c5 : w1.cell? ⟨p, 5, none⟩ = some (.bool true) := (T1.at_ 5 (v := .bool r.esc) rfl).trans (by first | rfl | rw [hee]); clear T1 HO1 F1 N1))
      have I2' := PT.out _ _ I1.out
      have G2' := sp_put (i := 4) (sp_put (i := 5) G1.out (.bool false)) (.int .i64 (r.n + 1))
      clear k3 f3 I1 G1 c0 f0 c1 f1 c4 f4 c5 f5 c6 f6
      generalize ((w1.setCell ⟨p, 3, none⟩ (.slice A1 (n + 1) cp1)).setCell ⟨p, 5, none⟩ (.bool false)).setCell ⟨p, 4, none⟩ (.int .i64 (r.n + 1)) = w2 at I2' G2' ⊢
      have c0 := I2'.tab.at_ 0 (v := .int .i64 r.most) rfl
      have c1 := I2'.tab.at_ 1 (v := .bool r.wide) rfl
      have c4 := I2'.tab.at_ 4 (v := .int .i64 (r.n + 1)) rfl
      have c6 := I2'.tab.at_ 6 (v := .bool r.long) rfl
      have f6 := I2'.tab.frozen 6
      have I2 := Aside0.mk I2'
      have G2 := Aside0.mk G2'
      clear I2' G2'
      refine region_tail 18 (by kernel_rfl) (by kernel_rfl) ?_
      intro w3 hb3 hc3 hf3 hh3
      replace c0 := (hc3 _).trans c0
      replace c1 := (hc3 _).trans c1
      replace c4 := (hc3 _).trans c4
      replace c6 := (hc3 _).trans c6
      replace f6 := (hf3 _).trans f6
      have I3 := Aside0.mk (I2.out.below hb3)
      have G3 := Aside0.mk (G2.out.then hb3)
      clear hb3 hc3 hf3 hh3 I2 G2
      simp only [List.take_succ_cons, List.take_zero, List.drop_succ_cons, List.drop_zero]
      repeat still_step
      still_call (TLN.out _)
      repeat still_step
      refine wpStill_nil ?_
      go_wp2
      first | go_ret | go_ret2 | ((try simp only [Exit.inBlock, Exit.then]); refine bodyPost_ret (results_tmp3 rfl _ _ _) rfl ?_) | go_end0 | refine bodyPost_ret0 rfl rfl ?_
      exact ⟨_, _, rfl, Own.nil _ _ _ _, (by first | exact I3.out.put 6 (.bool (decide (r.n + 1 > r.most + ((q : Nat) : Int)))) _ rfl rfl), N1'.out, sp_put G3.out _⟩
    · have hee : r.esc = r.esc := rfl
      have b125 : (c == 125) = false := beq_eq_false_iff_ne.mpr h125
      clear h125
      go_enter Try.func15, Try.ntmps15
      go_wp2_with (first | (at_builtin; refine FmA.app_own Try.underlying24 info5 rfl (by decide) (.tmp 47) (.tmp 49) rfl rfl rfl rfl HO.out hlen ?_; intro v1 w1 HO1 F1 N1; obtain ⟨A1, cp1, rfl, hc1⟩ := HO1.sliceN hn1.out; have T1 := I0.out.tab.fr F1 (fun h => I0.out.ne p h rfl); have f3 := T1.frozen 3; have k3 := T1.at_ 3 (v := .slice A n cp) rfl; have I1 := Aside0.mk (I0.out.taken HO1 F1 N1); have G1 := Aside0.mk (sp_put (i := 3) (F1.mono (T := Sp p (.slice A n cp)) (fun k hk => Or.inr hk)) (.slice A1 (n + 1) cp1)); have N1' := Aside0.mk (show Nw w (.slice A n cp) (.slice A1 (n + 1) cp1) from N1); clear c0 f0 c1 f1 c2 f2 c3 c4 f4 c5 f5 c6 f6; have c0 := T1.at_ 0 (v := .int .i64 r.most) rfl; have f0 := T1.frozen 0; have c1 := T1.at_ 1 (v := .bool r.wide) rfl; have f1 := T1.frozen 1; have c4 := T1.at_ 4 (v := .int .i64 r.n) rfl; have f4 := T1.frozen 4; have c6 := T1.at_ 6 (v := .bool r.long) rfl; have f6 := T1.frozen 6; have f5 := T1.frozen 5; have c5 : w1.cell? ⟨p, 5, none⟩ = some (.bool r.esc) := (T1.at_ 5 (v := .bool r.esc) rfl).trans (by first | rfl | rw [hee]); clear T1 HO1 F1 N1))
      have I2' := PT.out _ _ I1.out
      have G2' := sp_put (i := 4) (sp_put (i := 5) G1.out (.bool false)) (.int .i64 (r.n + 1))
      clear k3 f3 I1 G1 c0 f0 c1 f1 c4 f4 c5 f5 c6 f6
      generalize ((w1.setCell ⟨p, 3, none⟩ (.slice A1 (n + 1) cp1)).setCell ⟨p, 5, none⟩ (.bool false)).setCell ⟨p, 4, none⟩ (.int .i64 (r.n + 1)) = w2 at I2' G2' ⊢
      have c0 := I2'.tab.at_ 0 (v := .int .i64 r.most) rfl
      have c1 := I2'.tab.at_ 1 (v := .bool r.wide) rfl
      have c4 := I2'.tab.at_ 4 (v := .int .i64 (r.n + 1)) rfl
      have c6 := I2'.tab.at_ 6 (v := .bool r.long) rfl
      have f6 := I2'.tab.frozen 6
      have I2 := Aside0.mk I2'
      have G2 := Aside0.mk G2'
      clear I2' G2'
      refine region_tail 18 (by kernel_rfl) (by kernel_rfl) ?_
      intro w3 hb3 hc3 hf3 hh3
      replace c0 := (hc3 _).trans c0
      replace c1 := (hc3 _).trans c1
      replace c4 := (hc3 _).trans c4
      replace c6 := (hc3 _).trans c6
      replace f6 := (hf3 _).trans f6
      have I3 := Aside0.mk (I2.out.below hb3)
      have G3 := Aside0.mk (G2.out.then hb3)
      clear hb3 hc3 hf3 hh3 I2 G2
      simp only [List.take_succ_cons, List.take_zero, List.drop_succ_cons, List.drop_zero]
      repeat still_step
      still_call (TLN.out _)
      repeat still_step
      refine wpStill_nil ?_
      go_wp2
      first | go_ret | go_ret2 | ((try simp only [Exit.inBlock, Exit.then]); refine bodyPost_ret (results_tmp3 rfl _ _ _) rfl ?_) | go_end0 | refine bodyPost_ret0 rfl rfl ?_
      exact ⟨_, _, rfl, Own.nil _ _ _ _, (by first | exact I3.out.put 6 (.bool (decide (r.n + 1 > r.most + ((q : Nat) : Int)))) _ rfl rfl), N1'.out, sp_put G3.out _⟩


end Go.Proofs.Ytlcemeligolabaa.FmS
