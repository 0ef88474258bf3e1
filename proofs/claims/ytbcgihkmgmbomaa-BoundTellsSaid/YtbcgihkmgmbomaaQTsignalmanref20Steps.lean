/- signalmanref20_Steps: its part of the walk of BoundTells, as its printer wrote it. -/
import Derived.Test.YtbcgihkmgmbomaaQBoundTellsx2
namespace Go.Proofs.Ytbcgihkmgmbomaa.PBoundTells
open Go.RowKit Go.Proofs.YtbcgihkmgmbomaaW.PrintWords Go.Proofs.YtbcgihkmgmbomaaW.PrintLast Go.Proofs.YtbcgihkmgmbomaaW.PrintMore
attribute [local go_sem] max2_int min2_int max_two min_two max_three min_three max_four min_four   -- for this text's walks alone
set_option linter.unusedVariables false
set_option linter.unusedSimpArgs false

/-! ### signalmanref20_Steps: function 15 -/
def signalmanref20_Steps.j0 : Nat → Int → Int → Option (Int)
  | 0, _, _ => none
  | k + 1, x0, x1 => if x1 < 1 then (if (Int.tmod x0 1) > 0 then (some (wrap64 ((wrap64 (Int.tdiv x0 1)) + 1))) else (some (wrap64 (Int.tdiv x0 1)))) else (if x1 = 0 then (none) else (if (Int.tmod x0 x1) > 0 then (some (wrap64 ((wrap64 (Int.tdiv x0 x1)) + 1))) else (some (wrap64 (Int.tdiv x0 x1)))))
def signalmanref20_Steps.f (k : Nat) (a0 : Int) (a1 : Int) : Option (Int) := if a0 < 0 then (signalmanref20_Steps.j0 k 0 a1) else (signalmanref20_Steps.j0 k a0 a1)
theorem signalmanref20_Steps.mono_l : ∀ k, (∀ y0 y1, LeO (signalmanref20_Steps.j0 k y0 y1) (signalmanref20_Steps.j0 (k + 1) y0 y1))
  | 0 => fun _ _ r h => by simp [signalmanref20_Steps.j0] at h
  | k + 1 => by
    have ih0 := signalmanref20_Steps.mono_l k
    · intro y0 y1
      unfold signalmanref20_Steps.j0
      repeat' first
      | (with_reducible exact ih0 _ _)
      | (with_reducible exact LeO.refl _)
      | (with_reducible exact LeO.none _)
      | (with_reducible refine LeO.ite ?_ ?_)
      | (with_reducible refine LeO.bind ?_ (fun _ => ?_))
      | exact ih0 _ _
      | exact LeO.none _
      | refine LeO.ite ?_ ?_
      | refine LeO.bind ?_ (fun _ => ?_)
theorem signalmanref20_Steps.mono : ∀ a0 a1 k, LeO (signalmanref20_Steps.f k a0 a1) (signalmanref20_Steps.f (k + 1) a0 a1) := by
  intro a0 a1 k
  have ih0 := signalmanref20_Steps.mono_l k
  unfold signalmanref20_Steps.f
  repeat' first
      | (with_reducible exact ih0 _ _)
      | (with_reducible exact LeO.refl _)
      | (with_reducible exact LeO.none _)
      | (with_reducible refine LeO.ite ?_ ?_)
      | (with_reducible refine LeO.bind ?_ (fun _ => ?_))
      | exact ih0 _ _
      | exact LeO.none _
      | refine LeO.ite ?_ ?_
      | refine LeO.bind ?_ (fun _ => ?_)
set_option maxHeartbeats 8000000 in
set_option maxRecDepth 100000 in
theorem signalmanref20_Steps.calls (k : Nat) (a0 : Int) (a1 : Int) (r : Int) (w : World) (h : signalmanref20_Steps.f k a0 a1 = some r) :
    Calls Try.prog 15 #[.int .i64 a0, .int .i64 a1] w fun e w' => e = .returned (.int .i64 r) ∧ Drawn0 w w' := by
  have H : (if a0 < 0 then (signalmanref20_Steps.j0 k 0 a1) else (signalmanref20_Steps.j0 k a0 a1)) = some r := h
  clear h
  have HC3 := Aside0.mk H
  clear H
  go_enter Try.func15, Try.ntmps15
  go_upto_if 7 with (fail)
  go_cut [0] (fun v0 wc => ∃ (kq : Nat) (x0_2 : Int), v0 = .int .i64 x0_2 ∧ Aside0 (signalmanref20_Steps.j0 kq x0_2 a1 = some r) ∧ Aside0 (kq ≤ k) ∧ Drawn0 w wc)
  case first =>
    have H := HC3.out
    clear HC3
    by_cases c4 : a0 < 0
    · rw [if_pos c4] at H
      have c4b0 : decide (a0 < 0) = true := decide_eq_true c4
      clear c4
      (first | rw [c4b0] | (simp only [i64_w, i32_w]; rw [c4b0]) | skip)
      have H' := Aside0.mk H
      clear H
      go_wp2
      go_meet
      case rel => exact ⟨_, (0), (by first | rfl | (simp; done) | (simp [*]; done)), H', ⟨by first | omega | exact Nat.le_refl _⟩, by repeat (first | exact Drawn0.refl _ | apply Drawn0.step)⟩
    · rw [if_neg c4] at H
      have c4b0 : decide (a0 < 0) = false := decide_eq_false c4
      clear c4
      (first | rw [c4b0] | (simp only [i64_w, i32_w]; rw [c4b0]) | skip)
      have H' := Aside0.mk H
      clear H
      go_wp2
      go_meet
      case rel => exact ⟨_, (a0), (by first | rfl | (simp; done) | (simp [*]; done)), H', ⟨by first | omega | exact Nat.le_refl _⟩, by repeat (first | exact Drawn0.refl _ | apply Drawn0.step)⟩
  case rest =>
    clear HC3
    try clear c1
    try clear p2
    try clear c4
    try clear c4b0
    obtain ⟨kq, x0_2, rfl, HA, HJ2, ⟨mc2, rfl⟩⟩ := hcut
    cases kq with
    | zero => exact absurd HA.out (by simp [signalmanref20_Steps.j0])
    | succ kj2 =>
      have H := HA.out
      clear HA
      simp only [signalmanref20_Steps.j0] at H
      by_cases c5 : a1 < 1
      · rw [if_pos c5] at H
        have c5b0 : decide (a1 < 1) = true := decide_eq_true c5
        clear c5
        by_cases c6 : (Int.tmod x0_2 1) > 0
        · rw [if_pos c6] at H
          have c6b0 : decide (0 < (Int.tmod x0_2 1)) = true := decide_eq_true c6
          clear c6
          obtain rfl := Option.some.inj H
          go_wp2
          go_ret
          exact ⟨by first | rfl | (exfalso; simp [Int.tmod_one] at c6b0; done) | (rw [Int.tdiv_eq_ediv_of_nonneg (by assumption)]; rfl) | (simp; done) | (simp [*]; done), by repeat (first | exact Drawn0.refl _ | apply Drawn0.step)⟩
        · rw [if_neg c6] at H
          have c6b0 : decide (0 < (Int.tmod x0_2 1)) = false := decide_eq_false c6
          clear c6
          obtain rfl := Option.some.inj H
          go_wp2
          go_ret
          exact ⟨by first | rfl | (exfalso; simp [Int.tmod_one] at c6b0; done) | (rw [Int.tdiv_eq_ediv_of_nonneg (by assumption)]; rfl) | (simp; done) | (simp [*]; done), by repeat (first | exact Drawn0.refl _ | apply Drawn0.step)⟩
      · rw [if_neg c5] at H
        have c5b0 : decide (a1 < 1) = false := decide_eq_false c5
        clear c5
        by_cases c7 : a1 = 0
        · rw [if_pos c7] at H
          exact absurd H (by simp)
        · rw [if_neg c7] at H
          have c7b0 : (a1 == 0) = false := beq_eq_false_iff_ne.mpr c7
          have c7b1 : (a1 != 0) = true := bne_iff_ne.mpr c7
          by_cases c8 : (Int.tmod x0_2 a1) > 0
          · rw [if_pos c8] at H
            have c8b0 : decide (0 < (Int.tmod x0_2 a1)) = true := decide_eq_true c8
            clear c8
            obtain rfl := Option.some.inj H
            go_wp2
            go_ret
            exact ⟨by first | rfl | (exfalso; simp [Int.tmod_one] at c6b0; done) | (rw [Int.tdiv_eq_ediv_of_nonneg (by assumption)]; rfl) | (simp; done) | (simp [*]; done), by repeat (first | exact Drawn0.refl _ | apply Drawn0.step)⟩
          · rw [if_neg c8] at H
            have c8b0 : decide (0 < (Int.tmod x0_2 a1)) = false := decide_eq_false c8
            clear c8
            obtain rfl := Option.some.inj H
            go_wp2
            go_ret
            exact ⟨by first | rfl | (exfalso; simp [Int.tmod_one] at c6b0; done) | (rw [Int.tdiv_eq_ediv_of_nonneg (by assumption)]; rfl) | (simp; done) | (simp [*]; done), by repeat (first | exact Drawn0.refl _ | apply Drawn0.step)⟩


end Go.Proofs.Ytbcgihkmgmbomaa.PBoundTells
