/- Contracts of the functions that rank requests. -/
import Derived.Test.YtijjmhgcfhkffaaK2
import Derived.Test.YtijjmhgcfhkffaaApsP
namespace Go.Proofs.Ytijjmhgcfhkffaa.ApsA
open Go.RowKit Go.Proofs.YtijjmhgcfhkffaaW.PrintWords Go.Proofs.YtijjmhgcfhkffaaW.PrintLast Go.Proofs.YtijjmhgcfhkffaaW.PrintMore Go.Proofs.Ytijjmhgcfhkffaa.K Go.Proofs.Ytijjmhgcfhkffaa.ApsP
set_option linter.unusedVariables false
set_option linter.unusedSimpArgs false
attribute [local go_sem] max2_int min2_int max_two min_two
set_option maxHeartbeats 8000000 in
set_option maxRecDepth 100000 in
theorem of_ok (q : Int) (w : World) : Calls Try.prog 31 #[.int .i64 q] w fun e w' => e = .returned (.int .i64 (ofQ q)) ∧ w' = w := by
  by_cases h0 : q < 0
  · skip
    rw [ofQ, if_pos h0]
    go_enter Try.func31, Try.ntmps31
    go_wp2
    go_ret
    exact ⟨rfl, rfl⟩
  · skip
    by_cases h1 : q > 8
    · skip
      rw [ofQ, if_neg h0, if_pos h1]
      go_enter Try.func31, Try.ntmps31
      go_wp2
      go_ret
      exact ⟨rfl, rfl⟩
    · skip
      rw [ofQ, if_neg h0, if_neg h1]
      go_enter Try.func31, Try.ntmps31
      go_wp2
      go_ret
      exact ⟨rfl, rfl⟩
set_option maxHeartbeats 8000000 in
set_option maxRecDepth 100000 in
theorem ofr_ok (q : Int) (w : World) : Calls Try.prog 34 #[.int .i64 q] w fun e w' => e = .returned (.int .i64 (ofQ q)) ∧ w' = w := by
  by_cases h0 : q < 0
  · skip
    rw [ofQ, if_pos h0]
    go_enter Try.func34, Try.ntmps34
    go_wp2
    go_ret
    exact ⟨rfl, rfl⟩
  · skip
    by_cases h1 : q > 8
    · skip
      rw [ofQ, if_neg h0, if_pos h1]
      go_enter Try.func34, Try.ntmps34
      go_wp2
      go_ret
      exact ⟨rfl, rfl⟩
    · skip
      rw [ofQ, if_neg h0, if_neg h1]
      go_enter Try.func34, Try.ntmps34
      go_wp2
      go_ret
      exact ⟨rfl, rfl⟩
set_option maxHeartbeats 8000000 in
set_option maxRecDepth 100000 in
theorem local_ok (c k s : Int) (w : World) : Calls Try.prog 26 #[.int .i64 c, .int .i64 k, .int .i64 s] w fun e w' => e = .returned (.int .i64 (localQ c k s)) ∧ w' = w := by
  by_cases h0 : c = 3
  · have b0 : (c == 3) = true := beq_iff_eq.mpr h0
    rw [localQ, if_pos h0]
    go_enter Try.func26, Try.ntmps26
    go_wp2
    go_ret
    exact ⟨rfl, rfl⟩
  · have b0 : (c == 3) = false := beq_eq_false_iff_ne.mpr h0
    by_cases h1 : s = 2
    · have b1 : (s == 2) = true := beq_iff_eq.mpr h1
      rw [localQ, if_neg h0, if_pos h1]
      go_enter Try.func26, Try.ntmps26
      go_wp2
      go_ret
      exact ⟨rfl, rfl⟩
    · have b1 : (s == 2) = false := beq_eq_false_iff_ne.mpr h1
      by_cases h2 : c = 2
      · have b2 : (c == 2) = true := beq_iff_eq.mpr h2
        rw [localQ, if_neg h0, if_neg h1, if_pos h2]
        go_enter Try.func26, Try.ntmps26
        go_wp2
        go_ret
        exact ⟨rfl, rfl⟩
      · have b2 : (c == 2) = false := beq_eq_false_iff_ne.mpr h2
        by_cases h3 : k = 2
        · have b3 : (k == 2) = true := beq_iff_eq.mpr h3
          rw [localQ, if_neg h0, if_neg h1, if_neg h2, if_pos h3]
          go_enter Try.func26, Try.ntmps26
          go_wp2
          go_ret
          exact ⟨rfl, rfl⟩
        · have b3 : (k == 2) = false := beq_eq_false_iff_ne.mpr h3
          by_cases h4 : k = 1
          · have b4 : (k == 1) = true := beq_iff_eq.mpr h4
            rw [localQ, if_neg h0, if_neg h1, if_neg h2, if_neg h3, if_pos h4]
            go_enter Try.func26, Try.ntmps26
            go_wp2
            go_ret
            exact ⟨rfl, rfl⟩
          · have b4 : (k == 1) = false := beq_eq_false_iff_ne.mpr h4
            by_cases h5 : c = 1
            · have b5 : (c == 1) = true := beq_iff_eq.mpr h5
              rw [localQ, if_neg h0, if_neg h1, if_neg h2, if_neg h3, if_neg h4, if_pos h5]
              go_enter Try.func26, Try.ntmps26
              go_wp2
              go_ret
              exact ⟨rfl, rfl⟩
            · have b5 : (c == 1) = false := beq_eq_false_iff_ne.mpr h5
              rw [localQ, if_neg h0, if_neg h1, if_neg h2, if_neg h3, if_neg h4, if_neg h5]
              go_enter Try.func26, Try.ntmps26
              go_wp2
              go_ret
              exact ⟨rfl, rfl⟩
set_option maxHeartbeats 8000000 in
set_option maxRecDepth 100000 in
theorem localr_ok (c k s : Int) (w : World) : Calls Try.prog 33 #[.int .i64 c, .int .i64 k, .int .i64 s] w fun e w' => e = .returned (.int .i64 (localQ c k s)) ∧ w' = w := by
  by_cases h0 : c = 3
  · have b0 : (c == 3) = true := beq_iff_eq.mpr h0
    rw [localQ, if_pos h0]
    go_enter Try.func33, Try.ntmps33
    go_wp2
    go_ret
    exact ⟨rfl, rfl⟩
  · have b0 : (c == 3) = false := beq_eq_false_iff_ne.mpr h0
    by_cases h1 : s = 2
    · have b1 : (s == 2) = true := beq_iff_eq.mpr h1
      rw [localQ, if_neg h0, if_pos h1]
      go_enter Try.func33, Try.ntmps33
      go_wp2
      go_ret
      exact ⟨rfl, rfl⟩
    · have b1 : (s == 2) = false := beq_eq_false_iff_ne.mpr h1
      by_cases h2 : c = 2
      · have b2 : (c == 2) = true := beq_iff_eq.mpr h2
        rw [localQ, if_neg h0, if_neg h1, if_pos h2]
        go_enter Try.func33, Try.ntmps33
        go_wp2
        go_ret
        exact ⟨rfl, rfl⟩
      · have b2 : (c == 2) = false := beq_eq_false_iff_ne.mpr h2
        by_cases h3 : k = 2
        · have b3 : (k == 2) = true := beq_iff_eq.mpr h3
          rw [localQ, if_neg h0, if_neg h1, if_neg h2, if_pos h3]
          go_enter Try.func33, Try.ntmps33
          go_wp2
          go_ret
          exact ⟨rfl, rfl⟩
        · have b3 : (k == 2) = false := beq_eq_false_iff_ne.mpr h3
          by_cases h4 : k = 1
          · have b4 : (k == 1) = true := beq_iff_eq.mpr h4
            rw [localQ, if_neg h0, if_neg h1, if_neg h2, if_neg h3, if_pos h4]
            go_enter Try.func33, Try.ntmps33
            go_wp2
            go_ret
            exact ⟨rfl, rfl⟩
          · have b4 : (k == 1) = false := beq_eq_false_iff_ne.mpr h4
            by_cases h5 : c = 1
            · have b5 : (c == 1) = true := beq_iff_eq.mpr h5
              rw [localQ, if_neg h0, if_neg h1, if_neg h2, if_neg h3, if_neg h4, if_pos h5]
              go_enter Try.func33, Try.ntmps33
              go_wp2
              go_ret
              exact ⟨rfl, rfl⟩
            · have b5 : (c == 1) = false := beq_eq_false_iff_ne.mpr h5
              rw [localQ, if_neg h0, if_neg h1, if_neg h2, if_neg h3, if_neg h4, if_neg h5]
              go_enter Try.func33, Try.ntmps33
              go_wp2
              go_ret
              exact ⟨rfl, rfl⟩
set_option maxHeartbeats 8000000 in
set_option maxRecDepth 100000 in
theorem line_ok (q : Int) (w : World) : Calls Try.prog 29 #[.int .i64 q] w fun e w' => e = .returned (.int .i64 (lineQ q)) ∧ w' = w := by
  by_cases h0 : 1 ≤ q
  · by_cases h1 : q ≤ 6
    · rw [lineQ, if_pos h0, if_pos h1]
      go_enter Try.func29, Try.ntmps29
      go_wp2
      go_ret
      exact ⟨rfl, rfl⟩
    · rw [lineQ, if_pos h0, if_neg h1]
      go_enter Try.func29, Try.ntmps29
      go_wp2
      go_ret
      exact ⟨rfl, rfl⟩
  · rw [lineQ, if_neg h0]
    go_enter Try.func29, Try.ntmps29
    go_wp2
    go_ret
    exact ⟨rfl, rfl⟩
set_option maxHeartbeats 8000000 in
set_option maxRecDepth 100000 in
theorem liner_ok (q : Int) (w : World) : Calls Try.prog 24 #[.int .i64 q] w fun e w' => e = .returned (.int .i64 (lineQ q)) ∧ w' = w := by
  by_cases h0 : 1 ≤ q
  · by_cases h1 : q ≤ 6
    · rw [lineQ, if_pos h0, if_pos h1]
      go_enter Try.func24, Try.ntmps24
      go_wp2
      go_ret
      exact ⟨rfl, rfl⟩
    · rw [lineQ, if_pos h0, if_neg h1]
      go_enter Try.func24, Try.ntmps24
      go_wp2
      go_ret
      exact ⟨rfl, rfl⟩
  · rw [lineQ, if_neg h0]
    go_enter Try.func24, Try.ntmps24
    go_wp2
    go_ret
    exact ⟨rfl, rfl⟩
set_option maxHeartbeats 8000000 in
set_option maxRecDepth 100000 in
theorem cut_ok (n l h : Int) (w : World) : Calls Try.prog 32 #[.int .i64 n, .int .i64 l, .int .i64 h] w fun e w' => e = .returned (.int .i64 (cutQ n l h)) ∧ w' = w := by
  by_cases h0 : n < l
  · skip
    rw [cutQ, if_pos h0]
    go_enter Try.func32, Try.ntmps32
    go_wp2
    go_ret
    exact ⟨rfl, rfl⟩
  · skip
    by_cases h1 : n > h
    · skip
      rw [cutQ, if_neg h0, if_pos h1]
      go_enter Try.func32, Try.ntmps32
      go_wp2
      go_ret
      exact ⟨rfl, rfl⟩
    · skip
      rw [cutQ, if_neg h0, if_neg h1]
      go_enter Try.func32, Try.ntmps32
      go_wp2
      go_ret
      exact ⟨rfl, rfl⟩
set_option maxHeartbeats 8000000 in
set_option maxRecDepth 100000 in
theorem wins_ok (a b : Int) (w : World) : Calls Try.prog 30 #[.int .i64 a, .int .i64 b] w fun e w' => e = .returned (.int .i64 (winsQ a b)) ∧ w' = w := by
  by_cases h : ofQ a < ofQ b
  · have hx : winsQ a b = ofQ b := by unfold winsQ; rw [if_pos h]
    rw [hx]
    clear hx
    go_enter Try.func30, Try.ntmps30
    go_wp2_with (first | (go_at_call 31; (with_reducible refine (of_ok _ _).mono ?_); rintro e w' ⟨rfl, rfl⟩))
    go_ret
    exact ⟨rfl, rfl⟩
  · have hx : winsQ a b = ofQ a := by unfold winsQ; rw [if_neg h]
    rw [hx]
    clear hx
    go_enter Try.func30, Try.ntmps30
    go_wp2_with (first | (go_at_call 31; (with_reducible refine (of_ok _ _).mono ?_); rintro e w' ⟨rfl, rfl⟩))
    go_ret
    exact ⟨rfl, rfl⟩
set_option maxHeartbeats 8000000 in
set_option maxRecDepth 100000 in
theorem winsr_ok (a b : Int) (w : World) : Calls Try.prog 25 #[.int .i64 a, .int .i64 b] w fun e w' => e = .returned (.int .i64 (winsQ a b)) ∧ w' = w := by
  by_cases h : ofQ a < ofQ b
  · have hx : winsQ a b = ofQ b := by unfold winsQ; rw [if_pos h]
    rw [hx]
    clear hx
    go_enter Try.func25, Try.ntmps25
    go_wp2_with (first | (go_at_call 34; (with_reducible refine (ofr_ok _ _).mono ?_); rintro e w' ⟨rfl, rfl⟩))
    go_ret
    exact ⟨rfl, rfl⟩
  · have hx : winsQ a b = ofQ a := by unfold winsQ; rw [if_neg h]
    rw [hx]
    clear hx
    go_enter Try.func25, Try.ntmps25
    go_wp2_with (first | (go_at_call 34; (with_reducible refine (ofr_ok _ _).mono ?_); rintro e w' ⟨rfl, rfl⟩))
    go_ret
    exact ⟨rfl, rfl⟩
set_option maxHeartbeats 8000000 in
set_option maxRecDepth 100000 in
theorem pick_ok (c : Bool) (a b : Int) (w : World) : Calls Try.prog 16 #[.bool c, .int .i64 a, .int .i64 b] w fun e w' => e = .returned (.int .i64 (if c then a else b)) ∧ w' = w := by
  cases c
  · go_enter Try.func16, Try.ntmps16
    go_wp2
    go_ret
    exact ⟨rfl, rfl⟩
  · go_enter Try.func16, Try.ntmps16
    go_wp2
    go_ret
    exact ⟨rfl, rfl⟩

end Go.Proofs.Ytijjmhgcfhkffaa.ApsA
