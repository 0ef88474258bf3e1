/- Contracts of the methods of a selector that read and write. -/
import Derived.Test.YtijjmhgcfhkffaaApsB
namespace Go.Proofs.Ytijjmhgcfhkffaa.ApsC
open Go.RowKit Go.Proofs.YtijjmhgcfhkffaaW.PrintWords Go.Proofs.YtijjmhgcfhkffaaW.PrintLast Go.Proofs.YtijjmhgcfhkffaaW.PrintMore Go.Proofs.Ytijjmhgcfhkffaa.K Go.Proofs.Ytijjmhgcfhkffaa.ApsP Go.Proofs.Ytijjmhgcfhkffaa.ApsA Go.Proofs.Ytijjmhgcfhkffaa.ApsB
set_option linter.unusedVariables false
set_option linter.unusedSimpArgs false
attribute [local go_sem] max2_int min2_int max_two min_two
set_option maxHeartbeats 8000000 in
set_option maxRecDepth 100000 in
theorem held_ok (g : Nat) (s : St) (work : Int) (ok : Ok s) (w : World) (h : Ob w g 44 s.cells) : Calls Try.prog 27 #[.pointer (some ⟨g, 0, none⟩), .int .i64 work] w fun e w' => e = .returned (.int .i64 (heldW s work)) ∧ Ob w' g 44 ({ s with bad := heldB s work } : St).cells ∧ Fr (· = g) w w' := by
  have OB1 := Aside0.mk h
  have FR1 := Aside0.mk (Fr.refl (fun x => x = g) w)
  obtain ⟨q1, q2, q3, q4, q5, q6, q7, q8, q9⟩ := ok
  obtain ⟨hold, wait, revert, command, remote, own, bad, left, line⟩ := s
  simp only at q1 q2 q3 q4 q5 q6 q7 q8 q9
  clear q3 q4 q7 q8 q9
  have c6 := h.at_ 6 (v := .int .i64 bad) rfl
  have f6 := h.frozen 6
  have c0 := h.at_ 0 (v := .int .i64 hold) rfl
  clear h
  by_cases h0 : work = 0
  · subst h0
    rw [show heldW (St.mk hold wait revert command remote own bad left line) 0 = 0 from rfl, show heldB (St.mk hold wait revert command remote own bad left line) 0 = 0 from rfl]
    have H := OB1
    go_enter Try.func27, Try.ntmps27
    go_wp2
    first | go_ret | go_ret2 | go_end0
    exact ⟨rfl, (by apply Ob.to; (repeat first | (with_reducible first | exact H.out | apply Ob.set | apply Ob.drewN | apply Ob.drew | apply Ob.alloc) | exact H.out); rfl), (by repeat first | (with_reducible first | exact Fr.refl _ _ | apply Fr.put | apply Fr.drewN | apply Fr.drew | apply Fr.alloc) | exact Fr.refl _ _)⟩
  · have b0 : (work == 0) = false := beq_eq_false_iff_ne.mpr h0
    by_cases h1 : bad < hold
    · rw [show heldW (St.mk hold wait revert command remote own bad left line) work = 0 by unfold heldW; rw [if_neg h0, if_pos h1], show heldB (St.mk hold wait revert command remote own bad left line) work = bad + 1 by unfold heldB; rw [if_neg h0, if_pos (show bad ≤ hold by omega)]]
      clear h0
      have e1 : IntKind.i64.wrap (bad + 1) = bad + 1 := by rw [i64_w]; unfold wrap64; omega
      have e2 : IntKind.i64.wrap (hold + 1) = hold + 1 := by rw [i64_w]; unfold wrap64; omega
      go_enter Try.func27, Try.ntmps27
      go_wp2
      refine region_tail 14 (by kernel_rfl) (by kernel_rfl) ?_
      intro w2 hb2 hc2 hf2 hh2
      replace c6 := (hc2 _).trans c6
      replace c0 := (hc2 _).trans c0
      replace f6 := (hf2 _).trans f6
      have OB2 := Aside0.mk (OB1.out.heap hh2)
      have FR2 := Aside0.mk (FR1.out.comp (Fr.of_below hb2))
      clear hb2 hc2 hf2 hh2
      simp only [List.take_succ_cons, List.take_zero, List.drop_succ_cons, List.drop_zero]
      repeat still_step
      refine wpStill_nil ?_
      go_wp2_with fail
      all_goals (try (exfalso; omega))
      have OB3' : Ob (w2.setCell ⟨g, 6, none⟩ (.int .i64 (bad + 1))) g 44 (St.mk hold wait revert command remote own (bad + 1) left line).cells := OB2.out.set 6 (.int .i64 (bad + 1))
      have FR3' := FR2.out.put 6 (.int .i64 (bad + 1))
      generalize w2.setCell ⟨g, 6, none⟩ (.int .i64 (bad + 1)) = w3 at OB3' FR3' ⊢
      clear c6
      have c6 := OB3'.at_ 6 (v := .int .i64 (bad + 1)) rfl
      clear c0
      have c0 := OB3'.at_ 0 (v := .int .i64 hold) rfl
      have OB3 := Aside0.mk OB3'
      have FR3 := Aside0.mk FR3'
      clear OB3' FR3'
      refine region_still (by kernel_rfl) (by kernel_rfl) ?_
      intro w4 hb4 hc4 hf4 hh4
      replace c6 := (hc4 _).trans c6
      replace c0 := (hc4 _).trans c0
      have OB4 := Aside0.mk (OB3.out.heap hh4)
      have FR4 := Aside0.mk (FR3.out.comp (Fr.of_below hb4))
      clear hb4 hc4 hf4 hh4
      repeat still_step
      refine wpStill_nil ?_
      go_wp2_with fail
      all_goals (try (exfalso; omega))
      first | go_ret | go_ret2 | go_end0
      exact ⟨rfl, OB4.out, FR4.out⟩
    · rw [show heldW (St.mk hold wait revert command remote own bad left line) work = work by unfold heldW; rw [if_neg h0, if_neg h1]]
      by_cases h2 : bad = hold
      · subst h2
        rw [show heldB (St.mk bad wait revert command remote own bad left line) work = bad + 1 by unfold heldB; rw [if_neg h0, if_pos (show bad ≤ bad by omega)]]
        clear h0 h1
        have e1 : IntKind.i64.wrap (bad + 1) = bad + 1 := by rw [i64_w]; unfold wrap64; omega
        have e2 : IntKind.i64.wrap (bad + 1) = bad + 1 := by rw [i64_w]; unfold wrap64; omega
        go_enter Try.func27, Try.ntmps27
        go_wp2
        refine region_tail 14 (by kernel_rfl) (by kernel_rfl) ?_
        intro w2 hb2 hc2 hf2 hh2
        replace c6 := (hc2 _).trans c6
        replace c0 := (hc2 _).trans c0
        replace f6 := (hf2 _).trans f6
        have OB2 := Aside0.mk (OB1.out.heap hh2)
        have FR2 := Aside0.mk (FR1.out.comp (Fr.of_below hb2))
        clear hb2 hc2 hf2 hh2
        simp only [List.take_succ_cons, List.take_zero, List.drop_succ_cons, List.drop_zero]
        repeat still_step
        refine wpStill_nil ?_
        go_wp2_with fail
        all_goals (try (exfalso; omega))
        have OB3' : Ob (w2.setCell ⟨g, 6, none⟩ (.int .i64 (bad + 1))) g 44 (St.mk bad wait revert command remote own (bad + 1) left line).cells := OB2.out.set 6 (.int .i64 (bad + 1))
        have FR3' := FR2.out.put 6 (.int .i64 (bad + 1))
        generalize w2.setCell ⟨g, 6, none⟩ (.int .i64 (bad + 1)) = w3 at OB3' FR3' ⊢
        clear c6
        have c6 := OB3'.at_ 6 (v := .int .i64 (bad + 1)) rfl
        clear c0
        have c0 := OB3'.at_ 0 (v := .int .i64 bad) rfl
        have OB3 := Aside0.mk OB3'
        have FR3 := Aside0.mk FR3'
        clear OB3' FR3'
        refine region_still (by kernel_rfl) (by kernel_rfl) ?_
        intro w4 hb4 hc4 hf4 hh4
        replace c6 := (hc4 _).trans c6
        replace c0 := (hc4 _).trans c0
        have OB4 := Aside0.mk (OB3.out.heap hh4)
        have FR4 := Aside0.mk (FR3.out.comp (Fr.of_below hb4))
        clear hb4 hc4 hf4 hh4
        repeat still_step
        refine wpStill_nil ?_
        go_wp2_with fail
        all_goals (try (exfalso; omega))
        first | go_ret | go_ret2 | go_end0
        exact ⟨rfl, OB4.out, FR4.out⟩
      · obtain rfl : bad = hold + 1 := by omega
        rw [show heldB (St.mk hold wait revert command remote own (hold + 1) left line) work = hold + 1 by unfold heldB; rw [if_neg h0, if_neg (show ¬ hold + 1 ≤ hold by omega)]]
        clear h0 h1 h2
        have e1 : IntKind.i64.wrap (hold + 1 + 1) = hold + 1 + 1 := by rw [i64_w]; unfold wrap64; omega
        have e2 : IntKind.i64.wrap (hold + 1) = hold + 1 := by rw [i64_w]; unfold wrap64; omega
        go_enter Try.func27, Try.ntmps27
        go_wp2
        refine region_tail 14 (by kernel_rfl) (by kernel_rfl) ?_
        intro w2 hb2 hc2 hf2 hh2
        replace c6 := (hc2 _).trans c6
        replace c0 := (hc2 _).trans c0
        replace f6 := (hf2 _).trans f6
        have OB2 := Aside0.mk (OB1.out.heap hh2)
        have FR2 := Aside0.mk (FR1.out.comp (Fr.of_below hb2))
        clear hb2 hc2 hf2 hh2
        simp only [List.take_succ_cons, List.take_zero, List.drop_succ_cons, List.drop_zero]
        repeat still_step
        refine wpStill_nil ?_
        go_wp2_with fail
        all_goals (try (exfalso; omega))
        have OB3' : Ob (w2.setCell ⟨g, 6, none⟩ (.int .i64 (hold + 1))) g 44 (St.mk hold wait revert command remote own (hold + 1) left line).cells := OB2.out.set 6 (.int .i64 (hold + 1))
        have FR3' := FR2.out.put 6 (.int .i64 (hold + 1))
        generalize w2.setCell ⟨g, 6, none⟩ (.int .i64 (hold + 1)) = w3 at OB3' FR3' ⊢
        clear c6
        have c6 := OB3'.at_ 6 (v := .int .i64 (hold + 1)) rfl
        clear c0
        have c0 := OB3'.at_ 0 (v := .int .i64 hold) rfl
        have OB3 := Aside0.mk OB3'
        have FR3 := Aside0.mk FR3'
        clear OB3' FR3'
        refine region_still (by kernel_rfl) (by kernel_rfl) ?_
        intro w4 hb4 hc4 hf4 hh4
        replace c6 := (hc4 _).trans c6
        replace c0 := (hc4 _).trans c0
        have OB4 := Aside0.mk (OB3.out.heap hh4)
        have FR4 := Aside0.mk (FR3.out.comp (Fr.of_below hb4))
        clear hb4 hc4 hf4 hh4
        repeat still_step
        refine wpStill_nil ?_
        go_wp2_with fail
        all_goals (try (exfalso; omega))
        first | go_ret | go_ret2 | go_end0
        exact ⟨rfl, OB4.out, FR4.out⟩
set_option maxHeartbeats 8000000 in
set_option maxRecDepth 100000 in
theorem after_ok (g : Nat) (s : St) (ok : Ok s) (w : World) (h : Ob w g 44 s.cells) : Calls Try.prog 28 #[.pointer (some ⟨g, 0, none⟩)] w fun e w' => e = .returned (.int .i64 (afterQ s)) ∧ Ob w' g 44 ({ s with left := afterL s } : St).cells ∧ Fr (· = g) w w' := by
  obtain ⟨q1, q2, q3, q4, q5, q6, q7, q8, q9⟩ := ok
  obtain ⟨hold, wait, revert, command, remote, own, bad, left, line⟩ := s
  simp only at q1 q2 q3 q4 q5 q6 q7 q8 q9
  clear q1 q2 q3 q4 q5 q6
  by_cases h4 : own = 4
  · subst h4
    clear q9
    cases revert
    · skip
      rw [show afterQ (St.mk hold wait false command remote 4 bad left line) = 1 by simp [afterQ], show afterL (St.mk hold wait false command remote 4 bad left line) = left by simp [afterL]]
      have c5 := h.at_ 5 (v := .int .i64 4) rfl
      have c2 := h.at_ 2 (v := .bool false) rfl
      have c1 := h.at_ 1 (v := .int .i64 wait) rfl
      have c7 := h.at_ 7 (v := .int .i64 left) rfl
      have f7 := h.frozen 7
      have H := Aside0.mk h
      clear h
      go_enter Try.func28, Try.ntmps28
      go_wp2
      first | go_ret | go_ret2 | go_end0
      exact ⟨rfl, (by apply Ob.to; (repeat first | (with_reducible first | exact H.out | apply Ob.set | apply Ob.drewN | apply Ob.drew | apply Ob.alloc) | exact H.out); rfl), (by repeat first | (with_reducible first | exact Fr.refl _ _ | apply Fr.put | apply Fr.drewN | apply Fr.drew | apply Fr.alloc) | exact Fr.refl _ _)⟩
    · skip
      rw [show afterQ (St.mk hold wait true command remote 4 bad left line) = 2 by simp [afterQ], show afterL (St.mk hold wait true command remote 4 bad left line) = wait by simp [afterL]]
      have c5 := h.at_ 5 (v := .int .i64 4) rfl
      have c2 := h.at_ 2 (v := .bool true) rfl
      have c1 := h.at_ 1 (v := .int .i64 wait) rfl
      have c7 := h.at_ 7 (v := .int .i64 left) rfl
      have f7 := h.frozen 7
      have H := Aside0.mk h
      clear h
      go_enter Try.func28, Try.ntmps28
      go_wp2
      first | go_ret | go_ret2 | go_end0
      exact ⟨rfl, (by apply Ob.to; (repeat first | (with_reducible first | exact H.out | apply Ob.set | apply Ob.drewN | apply Ob.drew | apply Ob.alloc) | exact H.out); rfl), (by repeat first | (with_reducible first | exact Fr.refl _ _ | apply Fr.put | apply Fr.drewN | apply Fr.drew | apply Fr.alloc) | exact Fr.refl _ _)⟩
  · by_cases h5 : own = 5
    · subst h5
      clear q9 h4
      cases revert
      · skip
        rw [show afterQ (St.mk hold wait false command remote 5 bad left line) = 1 by simp [afterQ], show afterL (St.mk hold wait false command remote 5 bad left line) = left by simp [afterL]]
        have c5 := h.at_ 5 (v := .int .i64 5) rfl
        have c2 := h.at_ 2 (v := .bool false) rfl
        have c1 := h.at_ 1 (v := .int .i64 wait) rfl
        have c7 := h.at_ 7 (v := .int .i64 left) rfl
        have f7 := h.frozen 7
        have H := Aside0.mk h
        clear h
        go_enter Try.func28, Try.ntmps28
        go_wp2
        first | go_ret | go_ret2 | go_end0
        exact ⟨rfl, (by apply Ob.to; (repeat first | (with_reducible first | exact H.out | apply Ob.set | apply Ob.drewN | apply Ob.drew | apply Ob.alloc) | exact H.out); rfl), (by repeat first | (with_reducible first | exact Fr.refl _ _ | apply Fr.put | apply Fr.drewN | apply Fr.drew | apply Fr.alloc) | exact Fr.refl _ _)⟩
      · skip
        rw [show afterQ (St.mk hold wait true command remote 5 bad left line) = 2 by simp [afterQ], show afterL (St.mk hold wait true command remote 5 bad left line) = wait by simp [afterL]]
        have c5 := h.at_ 5 (v := .int .i64 5) rfl
        have c2 := h.at_ 2 (v := .bool true) rfl
        have c1 := h.at_ 1 (v := .int .i64 wait) rfl
        have c7 := h.at_ 7 (v := .int .i64 left) rfl
        have f7 := h.frozen 7
        have H := Aside0.mk h
        clear h
        go_enter Try.func28, Try.ntmps28
        go_wp2
        first | go_ret | go_ret2 | go_end0
        exact ⟨rfl, (by apply Ob.to; (repeat first | (with_reducible first | exact H.out | apply Ob.set | apply Ob.drewN | apply Ob.drew | apply Ob.alloc) | exact H.out); rfl), (by repeat first | (with_reducible first | exact Fr.refl _ _ | apply Fr.put | apply Fr.drewN | apply Fr.drew | apply Fr.alloc) | exact Fr.refl _ _)⟩
    · by_cases h2 : own = 2
      · subst h2
        have q9 := q9 rfl
        clear h4 h5
        by_cases hl : left = 1
        · subst hl
          rw [show afterQ (St.mk hold wait revert command remote 2 bad 1 line) = 0 by simp [afterQ], show afterL (St.mk hold wait revert command remote 2 bad 1 line) = 0 by simp [afterL]]
          have c5 := h.at_ 5 (v := .int .i64 2) rfl
          have c2 := h.at_ 2 (v := .bool revert) rfl
          have c1 := h.at_ 1 (v := .int .i64 wait) rfl
          have c7 := h.at_ 7 (v := .int .i64 1) rfl
          have f7 := h.frozen 7
          have H := Aside0.mk h
          clear h
          go_enter Try.func28, Try.ntmps28
          go_wp2
          first | go_ret | go_ret2 | go_end0
          exact ⟨rfl, (by apply Ob.to; (repeat first | (with_reducible first | exact H.out | apply Ob.set | apply Ob.drewN | apply Ob.drew | apply Ob.alloc) | exact H.out); rfl), (by repeat first | (with_reducible first | exact Fr.refl _ _ | apply Fr.put | apply Fr.drewN | apply Fr.drew | apply Fr.alloc) | exact Fr.refl _ _)⟩
        · have hz : ¬ left - 1 = 0 := by omega
          have bz : (left - 1 == 0) = false := beq_eq_false_iff_ne.mpr hz
          rw [show afterQ (St.mk hold wait revert command remote 2 bad left line) = 2 by simp [afterQ, hz], show afterL (St.mk hold wait revert command remote 2 bad left line) = (left - 1) by simp [afterL, hz]]
          have c5 := h.at_ 5 (v := .int .i64 2) rfl
          have c2 := h.at_ 2 (v := .bool revert) rfl
          have c1 := h.at_ 1 (v := .int .i64 wait) rfl
          have c7 := h.at_ 7 (v := .int .i64 left) rfl
          have f7 := h.frozen 7
          have H := Aside0.mk h
          clear h
          go_enter Try.func28, Try.ntmps28
          go_wp2
          first | go_ret | go_ret2 | go_end0
          exact ⟨rfl, (by apply Ob.to; (repeat first | (with_reducible first | exact H.out | apply Ob.set | apply Ob.drewN | apply Ob.drew | apply Ob.alloc) | exact H.out); rfl), (by repeat first | (with_reducible first | exact Fr.refl _ _ | apply Fr.put | apply Fr.drewN | apply Fr.drew | apply Fr.alloc) | exact Fr.refl _ _)⟩
      · by_cases h1 : own = 1
        · subst h1
          clear q9 h4 h5 h2
          rw [show afterQ (St.mk hold wait revert command remote 1 bad left line) = 1 by simp [afterQ], show afterL (St.mk hold wait revert command remote 1 bad left line) = left by simp [afterL]]
          have c5 := h.at_ 5 (v := .int .i64 1) rfl
          have c2 := h.at_ 2 (v := .bool revert) rfl
          have c1 := h.at_ 1 (v := .int .i64 wait) rfl
          have c7 := h.at_ 7 (v := .int .i64 left) rfl
          have f7 := h.frozen 7
          have H := Aside0.mk h
          clear h
          go_enter Try.func28, Try.ntmps28
          go_wp2
          first | go_ret | go_ret2 | go_end0
          exact ⟨rfl, (by apply Ob.to; (repeat first | (with_reducible first | exact H.out | apply Ob.set | apply Ob.drewN | apply Ob.drew | apply Ob.alloc) | exact H.out); rfl), (by repeat first | (with_reducible first | exact Fr.refl _ _ | apply Fr.put | apply Fr.drewN | apply Fr.drew | apply Fr.alloc) | exact Fr.refl _ _)⟩
        · have b4 : (own == 4) = false := beq_eq_false_iff_ne.mpr h4
          have b5 : (own == 5) = false := beq_eq_false_iff_ne.mpr h5
          have b2 : (own == 2) = false := beq_eq_false_iff_ne.mpr h2
          have b1 : (own == 1) = false := beq_eq_false_iff_ne.mpr h1
          clear q9
          rw [show afterQ (St.mk hold wait revert command remote own bad left line) = 0 by simp [afterQ, h4, h5, h2, h1], show afterL (St.mk hold wait revert command remote own bad left line) = left by simp [afterL, h4, h5, h2, h1]]
          have c5 := h.at_ 5 (v := .int .i64 own) rfl
          have c2 := h.at_ 2 (v := .bool revert) rfl
          have c1 := h.at_ 1 (v := .int .i64 wait) rfl
          have c7 := h.at_ 7 (v := .int .i64 left) rfl
          have f7 := h.frozen 7
          have H := Aside0.mk h
          clear h
          go_enter Try.func28, Try.ntmps28
          go_wp2
          first | go_ret | go_ret2 | go_end0
          exact ⟨rfl, (by apply Ob.to; (repeat first | (with_reducible first | exact H.out | apply Ob.set | apply Ob.drewN | apply Ob.drew | apply Ob.alloc) | exact H.out); rfl), (by repeat first | (with_reducible first | exact Fr.refl _ _ | apply Fr.put | apply Fr.drewN | apply Fr.drew | apply Fr.alloc) | exact Fr.refl _ _)⟩
set_option maxHeartbeats 8000000 in
set_option maxRecDepth 100000 in
theorem newr_ok (hold wait : Int) (r : Bool) (w : World) : Calls Try.prog 17 #[.int .i64 hold, .int .i64 wait, .bool r] w fun e w' => ∃ g, e = .returned (.pointer (some ⟨g, 0, none⟩)) ∧ w.heap.size ≤ g ∧ Ob w' g 47 (newS hold wait r).cells ∧ Below w.heap.size w w' := by
  go_enter Try.func17, Try.ntmps17
  go_wp2_with (first | (go_at_call 32; (with_reducible refine (cut_ok _ _ _ _).mono ?_); rintro e w' ⟨rfl, rfl⟩))
  go_ret
  exact ⟨_, rfl, Nat.le_refl _, Ob.new _ 47 _, below_alloc (Below.refl _ _) _⟩
set_option maxHeartbeats 8000000 in
set_option maxRecDepth 100000 in
theorem new_ok (hold wait : Int) (r : Bool) (w : World) : Calls Try.prog 11 #[.int .i64 hold, .int .i64 wait, .bool r] w fun e w' => ∃ g, e = .returned (.pointer (some ⟨g, 0, none⟩)) ∧ w.heap.size ≤ g ∧ Ob w' g 44 (newS hold wait r).cells ∧ Below w.heap.size w w' := by
  have key : ∀ n l : Int, (n > 1048576 ∧ cutQ n l 1048576 = 1048576) ∨ (n ≤ l ∧ cutQ n l 1048576 = l) ∨ (¬ n > 1048576 ∧ ¬ n ≤ l ∧ cutQ n l 1048576 = n) ∨ ¬ (l < 1048576) := by
    intro n l
    unfold cutQ
    (repeat' split) <;> omega
  rcases key hold 0 with ⟨h1, e1⟩ | ⟨h1, e1⟩ | ⟨h1, h1', e1⟩ | h1
  all_goals rcases key wait 1 with ⟨h2, e2⟩ | ⟨h2, e2⟩ | ⟨h2, h2', e2⟩ | h2
  all_goals (try exact absurd (by omega) h1)
  all_goals (try exact absurd (by omega) h2)
  all_goals
    rw [newS, e1, e2]
    clear key e1 e2
    go_enter Try.func11, Try.ntmps11
    go_wp2
    go_ret
    exact ⟨_, rfl, Nat.le_refl _, Ob.new _ 44 _, below_alloc (Below.refl _ _) _⟩

end Go.Proofs.Ytijjmhgcfhkffaa.ApsC
