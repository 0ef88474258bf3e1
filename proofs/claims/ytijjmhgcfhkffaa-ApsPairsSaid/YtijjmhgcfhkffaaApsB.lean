/- Contracts of the methods of a selector that are short. -/
import Derived.Test.YtijjmhgcfhkffaaApsA
namespace Go.Proofs.Ytijjmhgcfhkffaa.ApsB
open Go.RowKit Go.Proofs.YtijjmhgcfhkffaaW.PrintWords Go.Proofs.YtijjmhgcfhkffaaW.PrintLast Go.Proofs.YtijjmhgcfhkffaaW.PrintMore Go.Proofs.Ytijjmhgcfhkffaa.K Go.Proofs.Ytijjmhgcfhkffaa.ApsP Go.Proofs.Ytijjmhgcfhkffaa.ApsA
set_option linter.unusedVariables false
set_option linter.unusedSimpArgs false
attribute [local go_sem] max2_int min2_int max_two min_two
set_option maxHeartbeats 8000000 in
set_option maxRecDepth 100000 in
theorem request_ok (g : Nat) (s : St)  (w : World) (h : Ob w g 44 s.cells) : Calls Try.prog 14 #[.pointer (some ⟨g, 0, none⟩)] w fun e w' => e = .returned (.int .i64 s.own) ∧ Ob w' g 44 (s).cells ∧ Fr (· = g) w w' := by
  have H := Aside0.mk h
  have c5 := h.at_ 5 (v := .int .i64 s.own) rfl
  have f5 := h.frozen 5
  clear h
  go_enter Try.func14, Try.ntmps14
  go_wp2
  go_ret
  exact ⟨rfl, H.out, Fr.refl _ _⟩
set_option maxHeartbeats 8000000 in
set_option maxRecDepth 100000 in
theorem requestr_ok (g : Nat) (s : St)  (w : World) (h : Ob w g 47 s.cells) : Calls Try.prog 23 #[.pointer (some ⟨g, 0, none⟩)] w fun e w' => e = .returned (.int .i64 s.own) ∧ Ob w' g 47 (s).cells ∧ Fr (· = g) w w' := by
  have H := Aside0.mk h
  have c5 := h.at_ 5 (v := .int .i64 s.own) rfl
  have f5 := h.frozen 5
  clear h
  go_enter Try.func23, Try.ntmps23
  go_wp2
  go_ret
  exact ⟨rfl, H.out, Fr.refl _ _⟩
set_option maxHeartbeats 8000000 in
set_option maxRecDepth 100000 in
theorem getline_ok (g : Nat) (s : St)  (w : World) (h : Ob w g 44 s.cells) : Calls Try.prog 21 #[.pointer (some ⟨g, 0, none⟩)] w fun e w' => e = .returned (.int .i64 s.line) ∧ Ob w' g 44 (s).cells ∧ Fr (· = g) w w' := by
  have H := Aside0.mk h
  have c8 := h.at_ 8 (v := .int .i64 s.line) rfl
  have f8 := h.frozen 8
  clear h
  go_enter Try.func21, Try.ntmps21
  go_wp2
  go_ret
  exact ⟨rfl, H.out, Fr.refl _ _⟩
set_option maxHeartbeats 8000000 in
set_option maxRecDepth 100000 in
theorem getliner_ok (g : Nat) (s : St)  (w : World) (h : Ob w g 47 s.cells) : Calls Try.prog 22 #[.pointer (some ⟨g, 0, none⟩)] w fun e w' => e = .returned (.int .i64 s.line) ∧ Ob w' g 47 (s).cells ∧ Fr (· = g) w w' := by
  have H := Aside0.mk h
  have c8 := h.at_ 8 (v := .int .i64 s.line) rfl
  have f8 := h.frozen 8
  clear h
  go_enter Try.func22, Try.ntmps22
  go_wp2
  go_ret
  exact ⟨rfl, H.out, Fr.refl _ _⟩
set_option maxHeartbeats 8000000 in
set_option maxRecDepth 100000 in
theorem remote_ok (g : Nat) (s : St) (q : Int) (w : World) (h : Ob w g 44 s.cells) : Calls Try.prog 13 #[.pointer (some ⟨g, 0, none⟩), .int .i64 q] w fun e w' => e = .returned (.tuple #[]) ∧ Ob w' g 44 (remoteS s q).cells ∧ Fr (· = g) w w' := by
  have H := Aside0.mk h
  have c4 := h.at_ 4 (v := .int .i64 s.remote) rfl
  have f4 := h.frozen 4
  clear h
  go_enter Try.func13, Try.ntmps13
  go_wp2_with (first | (go_at_call 31; (with_reducible refine (of_ok _ _).mono ?_); rintro e w' ⟨rfl, rfl⟩))
  first | go_ret | go_ret2 | go_end0
  exact ⟨rfl, (by apply Ob.to; (repeat first | (with_reducible first | exact H.out | apply Ob.set | apply Ob.drewN | apply Ob.drew | apply Ob.alloc) | exact H.out); rfl), (by repeat first | (with_reducible first | exact Fr.refl _ _ | apply Fr.put | apply Fr.drewN | apply Fr.drew | apply Fr.alloc) | exact Fr.refl _ _)⟩
set_option maxHeartbeats 8000000 in
set_option maxRecDepth 100000 in
theorem remoter_ok (g : Nat) (s : St) (q : Int) (w : World) (h : Ob w g 47 s.cells) : Calls Try.prog 20 #[.pointer (some ⟨g, 0, none⟩), .int .i64 q] w fun e w' => e = .returned (.tuple #[]) ∧ Ob w' g 47 (remoteS s q).cells ∧ Fr (· = g) w w' := by
  have H := Aside0.mk h
  have c4 := h.at_ 4 (v := .int .i64 s.remote) rfl
  have f4 := h.frozen 4
  clear h
  go_enter Try.func20, Try.ntmps20
  go_wp2_with (first | (go_at_call 34; (with_reducible refine (ofr_ok _ _).mono ?_); rintro e w' ⟨rfl, rfl⟩))
  first | go_ret | go_ret2 | go_end0
  exact ⟨rfl, (by apply Ob.to; (repeat first | (with_reducible first | exact H.out | apply Ob.set | apply Ob.drewN | apply Ob.drew | apply Ob.alloc) | exact H.out); rfl), (by repeat first | (with_reducible first | exact Fr.refl _ _ | apply Fr.put | apply Fr.drewN | apply Fr.drew | apply Fr.alloc) | exact Fr.refl _ _)⟩
set_option maxHeartbeats 8000000 in
set_option maxRecDepth 100000 in
theorem command_ok (g : Nat) (s : St) (n : Int) (w : World) (h : Ob w g 44 s.cells) : Calls Try.prog 15 #[.pointer (some ⟨g, 0, none⟩), .int .i64 n] w fun e w' => e = .returned (.bool (okC n)) ∧ Ob w' g 44 (commandS s n).cells ∧ Fr (· = g) w w' := by
  have H := Aside0.mk h
  have c3 := h.at_ 3 (v := .int .i64 s.command) rfl
  have f3 := h.frozen 3
  have c5 := h.at_ 5 (v := .int .i64 s.own) rfl
  have f5 := h.frozen 5
  clear h
  by_cases h0 : n < 0
  · have e2 : okC n = false := by simp [okC]; omega
    have e : commandS s n = s := by unfold commandS; rw [e2]; rfl
    rw [e, e2]
    clear e e2
    go_enter Try.func15, Try.ntmps15
    go_wp2
    first | go_ret | go_ret2 | go_end0
    exact ⟨rfl, (by apply Ob.to; (repeat first | (with_reducible first | exact H.out | apply Ob.set | apply Ob.drewN | apply Ob.drew | apply Ob.alloc) | exact H.out); rfl), (by repeat first | (with_reducible first | exact Fr.refl _ _ | apply Fr.put | apply Fr.drewN | apply Fr.drew | apply Fr.alloc) | exact Fr.refl _ _)⟩
  by_cases h1 : n > 3
  · have e2 : okC n = false := by simp [okC]; omega
    have e : commandS s n = s := by unfold commandS; rw [e2]; rfl
    rw [e, e2]
    clear e e2
    go_enter Try.func15, Try.ntmps15
    go_wp2
    first | go_ret | go_ret2 | go_end0
    exact ⟨rfl, (by apply Ob.to; (repeat first | (with_reducible first | exact H.out | apply Ob.set | apply Ob.drewN | apply Ob.drew | apply Ob.alloc) | exact H.out); rfl), (by repeat first | (with_reducible first | exact Fr.refl _ _ | apply Fr.put | apply Fr.drewN | apply Fr.drew | apply Fr.alloc) | exact Fr.refl _ _)⟩
  have e2 : okC n = true := by simp [okC]; omega
  have e : commandS s n = { s with command := n, own := if n = 0 ∧ (s.own = 1 ∨ s.own = 2) then 0 else s.own } := by unfold commandS; rw [e2]; rfl
  rw [e, e2]
  clear e e2
  by_cases h2 : n = 0
  · subst h2
    by_cases h3 : s.own = 1
    · have b3 : (s.own == 1) = true := beq_iff_eq.mpr h3
      rw [if_pos ⟨rfl, Or.inl h3⟩]
      clear h3
      go_enter Try.func15, Try.ntmps15
      go_wp2
      first | go_ret | go_ret2 | go_end0
      exact ⟨rfl, (by apply Ob.to; (repeat first | (with_reducible first | exact H.out | apply Ob.set | apply Ob.drewN | apply Ob.drew | apply Ob.alloc) | exact H.out); rfl), (by repeat first | (with_reducible first | exact Fr.refl _ _ | apply Fr.put | apply Fr.drewN | apply Fr.drew | apply Fr.alloc) | exact Fr.refl _ _)⟩
    · have b3 : (s.own == 1) = false := beq_eq_false_iff_ne.mpr h3
      by_cases h4 : s.own = 2
      · have b4 : (s.own == 2) = true := beq_iff_eq.mpr h4
        rw [if_pos ⟨rfl, Or.inr h4⟩]
        clear h4 h3
        go_enter Try.func15, Try.ntmps15
        go_wp2
        first | go_ret | go_ret2 | go_end0
        exact ⟨rfl, (by apply Ob.to; (repeat first | (with_reducible first | exact H.out | apply Ob.set | apply Ob.drewN | apply Ob.drew | apply Ob.alloc) | exact H.out); rfl), (by repeat first | (with_reducible first | exact Fr.refl _ _ | apply Fr.put | apply Fr.drewN | apply Fr.drew | apply Fr.alloc) | exact Fr.refl _ _)⟩
      · have b4 : (s.own == 2) = false := beq_eq_false_iff_ne.mpr h4
        rw [if_neg (by omega)]
        clear h4 h3
        go_enter Try.func15, Try.ntmps15
        go_wp2
        first | go_ret | go_ret2 | go_end0
        exact ⟨rfl, (by apply Ob.to; (repeat first | (with_reducible first | exact H.out | apply Ob.set | apply Ob.drewN | apply Ob.drew | apply Ob.alloc) | exact H.out); rfl), (by repeat first | (with_reducible first | exact Fr.refl _ _ | apply Fr.put | apply Fr.drewN | apply Fr.drew | apply Fr.alloc) | exact Fr.refl _ _)⟩
  · have b2 : (n == 0) = false := beq_eq_false_iff_ne.mpr h2
    rw [if_neg (by omega)]
    clear h2
    go_enter Try.func15, Try.ntmps15
    go_wp2
    first | go_ret | go_ret2 | go_end0
    exact ⟨rfl, (by apply Ob.to; (repeat first | (with_reducible first | exact H.out | apply Ob.set | apply Ob.drewN | apply Ob.drew | apply Ob.alloc) | exact H.out); rfl), (by repeat first | (with_reducible first | exact Fr.refl _ _ | apply Fr.put | apply Fr.drewN | apply Fr.drew | apply Fr.alloc) | exact Fr.refl _ _)⟩
set_option maxHeartbeats 8000000 in
set_option maxRecDepth 100000 in
theorem commandr_ok (g : Nat) (s : St) (n : Int) (w : World) (h : Ob w g 47 s.cells) : Calls Try.prog 19 #[.pointer (some ⟨g, 0, none⟩), .int .i64 n] w fun e w' => e = .returned (.bool (okC n)) ∧ Ob w' g 47 (commandS s n).cells ∧ Fr (· = g) w w' := by
  have H := Aside0.mk h
  have c3 := h.at_ 3 (v := .int .i64 s.command) rfl
  have f3 := h.frozen 3
  have c5 := h.at_ 5 (v := .int .i64 s.own) rfl
  have f5 := h.frozen 5
  clear h
  by_cases h0 : n < 0
  · have e2 : okC n = false := by simp [okC]; omega
    have e : commandS s n = s := by unfold commandS; rw [e2]; rfl
    rw [e, e2]
    clear e e2
    go_enter Try.func19, Try.ntmps19
    go_wp2
    first | go_ret | go_ret2 | go_end0
    exact ⟨rfl, (by apply Ob.to; (repeat first | (with_reducible first | exact H.out | apply Ob.set | apply Ob.drewN | apply Ob.drew | apply Ob.alloc) | exact H.out); rfl), (by repeat first | (with_reducible first | exact Fr.refl _ _ | apply Fr.put | apply Fr.drewN | apply Fr.drew | apply Fr.alloc) | exact Fr.refl _ _)⟩
  by_cases h1 : n > 3
  · have e2 : okC n = false := by simp [okC]; omega
    have e : commandS s n = s := by unfold commandS; rw [e2]; rfl
    rw [e, e2]
    clear e e2
    go_enter Try.func19, Try.ntmps19
    go_wp2
    first | go_ret | go_ret2 | go_end0
    exact ⟨rfl, (by apply Ob.to; (repeat first | (with_reducible first | exact H.out | apply Ob.set | apply Ob.drewN | apply Ob.drew | apply Ob.alloc) | exact H.out); rfl), (by repeat first | (with_reducible first | exact Fr.refl _ _ | apply Fr.put | apply Fr.drewN | apply Fr.drew | apply Fr.alloc) | exact Fr.refl _ _)⟩
  have e2 : okC n = true := by simp [okC]; omega
  have e : commandS s n = { s with command := n, own := if n = 0 ∧ (s.own = 1 ∨ s.own = 2) then 0 else s.own } := by unfold commandS; rw [e2]; rfl
  rw [e, e2]
  clear e e2
  by_cases h2 : n = 0
  · subst h2
    by_cases h3 : s.own = 1
    · have b3 : (s.own == 1) = true := beq_iff_eq.mpr h3
      rw [if_pos ⟨rfl, Or.inl h3⟩]
      clear h3
      go_enter Try.func19, Try.ntmps19
      go_wp2
      first | go_ret | go_ret2 | go_end0
      exact ⟨rfl, (by apply Ob.to; (repeat first | (with_reducible first | exact H.out | apply Ob.set | apply Ob.drewN | apply Ob.drew | apply Ob.alloc) | exact H.out); rfl), (by repeat first | (with_reducible first | exact Fr.refl _ _ | apply Fr.put | apply Fr.drewN | apply Fr.drew | apply Fr.alloc) | exact Fr.refl _ _)⟩
    · have b3 : (s.own == 1) = false := beq_eq_false_iff_ne.mpr h3
      by_cases h4 : s.own = 2
      · have b4 : (s.own == 2) = true := beq_iff_eq.mpr h4
        rw [if_pos ⟨rfl, Or.inr h4⟩]
        clear h4 h3
        go_enter Try.func19, Try.ntmps19
        go_wp2
        first | go_ret | go_ret2 | go_end0
        exact ⟨rfl, (by apply Ob.to; (repeat first | (with_reducible first | exact H.out | apply Ob.set | apply Ob.drewN | apply Ob.drew | apply Ob.alloc) | exact H.out); rfl), (by repeat first | (with_reducible first | exact Fr.refl _ _ | apply Fr.put | apply Fr.drewN | apply Fr.drew | apply Fr.alloc) | exact Fr.refl _ _)⟩
      · have b4 : (s.own == 2) = false := beq_eq_false_iff_ne.mpr h4
        rw [if_neg (by omega)]
        clear h4 h3
        go_enter Try.func19, Try.ntmps19
        go_wp2
        first | go_ret | go_ret2 | go_end0
        exact ⟨rfl, (by apply Ob.to; (repeat first | (with_reducible first | exact H.out | apply Ob.set | apply Ob.drewN | apply Ob.drew | apply Ob.alloc) | exact H.out); rfl), (by repeat first | (with_reducible first | exact Fr.refl _ _ | apply Fr.put | apply Fr.drewN | apply Fr.drew | apply Fr.alloc) | exact Fr.refl _ _)⟩
  · have b2 : (n == 0) = false := beq_eq_false_iff_ne.mpr h2
    rw [if_neg (by omega)]
    clear h2
    go_enter Try.func19, Try.ntmps19
    go_wp2
    first | go_ret | go_ret2 | go_end0
    exact ⟨rfl, (by apply Ob.to; (repeat first | (with_reducible first | exact H.out | apply Ob.set | apply Ob.drewN | apply Ob.drew | apply Ob.alloc) | exact H.out); rfl), (by repeat first | (with_reducible first | exact Fr.refl _ _ | apply Fr.put | apply Fr.drewN | apply Fr.drew | apply Fr.alloc) | exact Fr.refl _ _)⟩

end Go.Proofs.Ytijjmhgcfhkffaa.ApsB
