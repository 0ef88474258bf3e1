/- Contracts of the functions that read requests, by walks. No condition but the slices readings. -/
import Derived.Test.YtdeaeeihmdpcdaaKW
namespace Go.Proofs.Ytdeaeeihmdpcdaa.KW
open Go.RowKit Go.Proofs.YtdeaeeihmdpcdaaW.PrintWords Go.Proofs.YtdeaeeihmdpcdaaW.PrintLast Go.Proofs.YtdeaeeihmdpcdaaW.PrintMore Go.Proofs.Ytdeaeeihmdpcdaa.K 
set_option linter.unusedVariables false
set_option linter.unusedSimpArgs false

set_option maxHeartbeats 8000000 in
set_option maxRecDepth 100000 in
theorem readref_ok (A : Option Addr) (n c : Nat) (b : List Int) (w : World) (hr : Rds (Kd.int .u8) w A n c b) (hb : octOk b) (hn : n ≤ 1000) :
    Calls Try.prog 7 #[.slice A n c] w fun e w' => e = .returned (.tuple #[.int .i64 (readK b).1, .int .i64 (readK b).2.1, .int .i64 (readK b).2.2]) ∧ Below w.heap.size w w' := by
  have hc := hr.cap
  rcases b with _ | ⟨x, _ | ⟨y, _ | ⟨z, r⟩⟩⟩
  · have hl := hr.len
    simp only [List.length_nil] at hl
    subst hl
    go_enter Try.func7, Try.ntmps7
    go_wp2
    go_ret3
    exact ⟨rfl, Below.refl _ _⟩
  · have hl := hr.len
    simp only [List.length_cons, List.length_nil] at hl
    subst hl
    go_enter Try.func7, Try.ntmps7
    go_wp2
    go_ret3
    exact ⟨rfl, Below.refl _ _⟩
  · have hl := hr.len
    simp only [List.length_cons, List.length_nil] at hl
    have hx := hb x (by simp)
    have hy := hb y (by simp)
    obtain ⟨ad, hA⟩ := hr.some_at 0 (by omega)
    subst hA
    have x0 := hr.cell_int (Below.refl _ _) 0 (by omega)
    rw [show ad.add 0 = ad from rfl, show rd [x, y] ((0 : Nat) : Int) = x from rfl] at x0
    have x1 := hr.cell_int (Below.refl _ _) 1 (by omega)
    rw [show ad.add 1 = ⟨ad.block, ad.off + 1, none⟩ from rfl, show rd [x, y] ((1 : Nat) : Int) = y from rfl] at x1
    subst hl
    obtain ⟨hx0, hx1⟩ := hx
    have hnot := not_u8 x hx0 hx1
    have hnot2 : bits .xor .u8 (if IntKind.u8.signed = true then -1 else IntKind.u8.max) x = 255 - x := hnot
    have hand := and15_u8 x hx0 hx1
    have hsh : (0 : Int) ≤ x / 16 := by omega
    have R : readK [x, y] = if y = 255 - x ∧ x / 16 ≤ 8 ∧ x % 16 ≤ 1 then (x / 16, x % 16, 0) else (0, 0, 2) := rfl
    have HR := Aside0.mk R
    clear R
    generalize readK [x, y] = res at *
    by_cases e1 : y = 255 - x
    · have b1 : (y != 255 - x) = false := by simp [e1]
      by_cases e2 : x / 16 ≤ 8
      · have b2 : decide (8 < x / 16) = false := decide_eq_false (by omega)
        by_cases e3 : x % 16 ≤ 1
        · have b3 : decide (1 < x % 16) = false := decide_eq_false (by omega)
          have hres := HR.out
          rw [if_pos ⟨e1, e2, e3⟩] at hres
          subst hres
          clear e1 e2 e3 HR
          go_enter Try.func7, Try.ntmps7
          go_wp2
          repeat (go_quiet (fail); go_wp2)
          go_ret3
          exact ⟨rfl, by repeat (first | (with_reducible first | exact Below.refl _ _ | apply pw_below_drewN) | exact Below.refl _ _)⟩
        · have b3 : decide (1 < x % 16) = true := decide_eq_true (by omega)
          have hres := HR.out
          rw [if_neg (by omega)] at hres
          subst hres
          clear e1 e2 e3 HR
          go_enter Try.func7, Try.ntmps7
          go_wp2
          repeat (go_quiet (fail); go_wp2)
          go_ret3
          exact ⟨rfl, by repeat (first | (with_reducible first | exact Below.refl _ _ | apply pw_below_drewN) | exact Below.refl _ _)⟩
      · have b2 : decide (8 < x / 16) = true := decide_eq_true (by omega)
        have hres := HR.out
        rw [if_neg (by omega)] at hres
        subst hres
        clear e1 e2 HR
        go_enter Try.func7, Try.ntmps7
        go_wp2
        repeat (go_quiet (fail); go_wp2)
        go_ret3
        exact ⟨rfl, by repeat (first | (with_reducible first | exact Below.refl _ _ | apply pw_below_drewN) | exact Below.refl _ _)⟩
    · have b1 : (y != 255 - x) = true := by simp [e1]
      have hres := HR.out
      rw [if_neg (by omega)] at hres
      subst hres
      clear e1 HR
      go_enter Try.func7, Try.ntmps7
      go_wp2
      repeat (go_quiet (fail); go_wp2)
      go_ret3
      exact ⟨rfl, by repeat (first | (with_reducible first | exact Below.refl _ _ | apply pw_below_drewN) | exact Below.refl _ _)⟩
  · have hl := hr.len
    have h3 : (2 : Int) < (n : Int) := by simp only [List.length_cons] at hl; omega
    have hx := hb x (by simp)
    obtain ⟨ad, hA⟩ := hr.some_at 0 (by omega)
    subst hA
    have x0 := hr.cell_int (Below.refl _ _) 0 (by omega)
    rw [show ad.add 0 = ad from rfl, show rd (x :: y :: z :: r) ((0 : Nat) : Int) = x from rfl] at x0
    clear hl
    obtain ⟨hx0, hx1⟩ := hx
    have n0 : (0 : Int) < (n : Int) := by omega
    go_enter Try.func7, Try.ntmps7
    go_wp2
    repeat (go_quiet (fail); go_wp2)
    go_ret3
    exact ⟨rfl, by repeat (first | (with_reducible first | exact Below.refl _ _ | apply pw_below_drewN) | exact Below.refl _ _)⟩

end Go.Proofs.Ytdeaeeihmdpcdaa.KW
