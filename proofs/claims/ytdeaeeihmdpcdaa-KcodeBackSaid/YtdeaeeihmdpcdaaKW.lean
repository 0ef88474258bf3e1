/- Contracts of the functions that write and read requests, by walks. No condition but the slices' readings. -/
import Derived.Test.YtdeaeeihmdpcdaaK
namespace Go.Proofs.Ytdeaeeihmdpcdaa.KW
open Go.RowKit Go.Proofs.YtdeaeeihmdpcdaaW.PrintWords Go.Proofs.YtdeaeeihmdpcdaaW.PrintLast Go.Proofs.YtdeaeeihmdpcdaaW.PrintMore Go.Proofs.Ytdeaeeihmdpcdaa.K 
set_option linter.unusedVariables false
set_option linter.unusedSimpArgs false

theorem info5 : (Try.prog.info? 5).map (fun i => (i.zero, i.size, i.bytes)) = some (some (.int .u8 0), 1, 1) := by kernel_rfl
theorem conv22 (A : Option Addr) (n c : Nat) (xs : List Int) (w : World) (h : Rds (Kd.int .u8) w A n c xs) : (convert 22 9 (.slice A n c)).run Try.prog w = .ok (.string (strOfNums xs)) w :=
  Kd.C_string Try.underlying22 Try.underlying5 Try.underlying9 h.row
def octOk (l : List Int) : Prop := ∀ x ∈ l, 0 ≤ x ∧ x ≤ 255
def codeOf (q : Int) : Int := if 0 ≤ q ∧ q ≤ 8 then q else 0
def putB (q line : Int) : Int := 16 * codeOf q + (if line = 1 then 1 else 0)
theorem codeOf_in (q : Int) : 0 ≤ codeOf q ∧ codeOf q ≤ 8 := by unfold codeOf; split <;> omega
set_option maxHeartbeats 8000000 in
set_option maxRecDepth 100000 in
theorem of_ok (q : Int) (w : World) : Calls Try.prog 11 #[.int .i64 q] w fun e w' => e = .returned (.int .i64 (codeOf q)) ∧ w' = w := by
  have H := Aside0.mk (show codeOf q = if 0 ≤ q ∧ q ≤ 8 then q else 0 from rfl)
  by_cases h0 : q < 0
  · go_enter Try.func11, Try.ntmps11
    go_wp2
    go_ret
    exact ⟨by rw [H.out, if_neg (by omega)]; rfl, rfl⟩
  · by_cases h1 : 8 < q
    · go_enter Try.func11, Try.ntmps11
      go_wp2
      go_ret
      exact ⟨by rw [H.out, if_neg (by omega)]; rfl, rfl⟩
    · go_enter Try.func11, Try.ntmps11
      go_wp2
      go_ret
      exact ⟨by rw [H.out, if_pos (by omega)]; rfl, rfl⟩
set_option maxHeartbeats 8000000 in
set_option maxRecDepth 100000 in
theorem ofref_ok (q : Int) (w : World) : Calls Try.prog 12 #[.int .i64 q] w fun e w' => e = .returned (.int .i64 (codeOf q)) ∧ w' = w := by
  have H := Aside0.mk (show codeOf q = if 0 ≤ q ∧ q ≤ 8 then q else 0 from rfl)
  by_cases h0 : q < 0
  · go_enter Try.func12, Try.ntmps12
    go_wp2
    go_ret
    exact ⟨by rw [H.out, if_neg (by omega)]; rfl, rfl⟩
  · by_cases h1 : 8 < q
    · go_enter Try.func12, Try.ntmps12
      go_wp2
      go_ret
      exact ⟨by rw [H.out, if_neg (by omega)]; rfl, rfl⟩
    · go_enter Try.func12, Try.ntmps12
      go_wp2
      go_ret
      exact ⟨by rw [H.out, if_pos (by omega)]; rfl, rfl⟩
set_option maxHeartbeats 8000000 in
set_option maxRecDepth 100000 in
theorem num_ok (x : Int) (w : World) : Calls Try.prog 10 #[.int .i64 x] w fun e w' => e = .returned (.int .i64 x) ∧ w' = w := by
  go_enter Try.func10, Try.ntmps10
  go_wp2
  go_ret
  exact ⟨rfl, rfl⟩

theorem not_all : ∀ n : Fin 256, bits .xor .u8 255 (n.val : Int) = 255 - (n.val : Int) := by decide +kernel
theorem not_u8 (x : Int) (h0 : 0 ≤ x) (h1 : x ≤ 255) : bits .xor .u8 IntKind.u8.max x = 255 - x := by
  rw [show IntKind.u8.max = 255 by decide]
  have := not_all ⟨x.toNat, by omega⟩
  simpa only [Int.toNat_of_nonneg h0] using this
theorem and15_all : ∀ n : Fin 256, bits .and .u8 (n.val : Int) 15 = (n.val : Int) % 16 := by decide +kernel
theorem and15_u8 (x : Int) (h0 : 0 ≤ x) (h1 : x ≤ 255) : bits .and .u8 x 15 = x % 16 := by
  have := and15_all ⟨x.toNat, by omega⟩
  simpa only [Int.toNat_of_nonneg h0] using this

set_option maxHeartbeats 8000000 in
set_option maxRecDepth 100000 in
theorem put_ok (q line : Int) (w : World) : Calls Try.prog 8 #[.int .i64 q, .int .i64 line] w fun e w' => ∃ A1 c1, e = .returned (.slice A1 2 c1) ∧ Own (Kd.int .u8) 5 w.heap.size w' (.slice A1 2 c1) [putB q line, 255 - putB q line] ∧ Below w.heap.size w w' := by
  obtain ⟨h0, h1⟩ := codeOf_in q
  by_cases hl : line = 1
  · subst hl
    have hp := Aside0.mk (show putB q 1 = codeOf q * 16 + 1 by unfold putB; rw [if_pos rfl]; omega)
    have hx := not_u8 (codeOf q * 16 + 1) (by omega) (by omega)
    go_enter Try.func8, Try.ntmps8
    go_wp2_with (first | (go_at_call 11; (with_reducible refine (of_ok _ _).mono ?_); rintro e w' ⟨rfl, rfl⟩))
    go_ret
    rw [hp.out]
    exact ⟨_, 2, rfl, lit_own (enc := Value.int .u8) (h1 := fun _ => rfl) 5 w'.heap.size w' [codeOf q * 16 + 1, 255 - (codeOf q * 16 + 1)] (Nat.le_refl _) (by simp), below_alloc (Below.refl _ _) _⟩
  · have hp := Aside0.mk (show putB q line = codeOf q * 16 by unfold putB; rw [if_neg hl]; omega)
    have hx := not_u8 (codeOf q * 16) (by omega) (by omega)
    have c1 : (line == 1) = false := beq_eq_false_iff_ne.mpr hl
    have c2 : (line != 1) = true := by simp [hl]
    go_enter Try.func8, Try.ntmps8
    go_wp2_with (first | (go_at_call 11; (with_reducible refine (of_ok _ _).mono ?_); rintro e w' ⟨rfl, rfl⟩))
    go_ret
    rw [hp.out]
    exact ⟨_, 2, rfl, lit_own (enc := Value.int .u8) (h1 := fun _ => rfl) 5 w'.heap.size w' [codeOf q * 16, 255 - codeOf q * 16] (Nat.le_refl _) (by simp), below_alloc (Below.refl _ _) _⟩

set_option maxHeartbeats 8000000 in
set_option maxRecDepth 100000 in
theorem putref_ok (q line : Int) (w : World) : Calls Try.prog 9 #[.int .i64 q, .int .i64 line] w fun e w' => ∃ A1 c1, e = .returned (.slice A1 2 c1) ∧ Own (Kd.int .u8) 5 w.heap.size w' (.slice A1 2 c1) [putB q line, 255 - putB q line] ∧ Below w.heap.size w w' := by
  obtain ⟨h0, h1⟩ := codeOf_in q
  by_cases hl : line = 1
  · subst hl
    have hp := Aside0.mk (show putB q 1 = codeOf q * 16 + 1 by unfold putB; rw [if_pos rfl]; omega)
    have hx := not_u8 (codeOf q * 16 + 1) (by omega) (by omega)
    go_enter Try.func9, Try.ntmps9
    go_wp2_with (first | (go_at_call 12; (with_reducible refine (ofref_ok _ _).mono ?_); rintro e w' ⟨rfl, rfl⟩))
    go_ret
    rw [hp.out]
    exact ⟨_, 2, rfl, lit_own (enc := Value.int .u8) (h1 := fun _ => rfl) 5 w'.heap.size w' [codeOf q * 16 + 1, 255 - (codeOf q * 16 + 1)] (Nat.le_refl _) (by simp), below_alloc (Below.refl _ _) _⟩
  · have hp := Aside0.mk (show putB q line = codeOf q * 16 by unfold putB; rw [if_neg hl]; omega)
    have hx := not_u8 (codeOf q * 16) (by omega) (by omega)
    have c1 : (line == 1) = false := beq_eq_false_iff_ne.mpr hl
    have c2 : (line != 1) = true := by simp [hl]
    go_enter Try.func9, Try.ntmps9
    go_wp2_with (first | (go_at_call 12; (with_reducible refine (ofref_ok _ _).mono ?_); rintro e w' ⟨rfl, rfl⟩))
    go_ret
    rw [hp.out]
    exact ⟨_, 2, rfl, lit_own (enc := Value.int .u8) (h1 := fun _ => rfl) 5 w'.heap.size w' [codeOf q * 16, 255 - codeOf q * 16] (Nat.le_refl _) (by simp), below_alloc (Below.refl _ _) _⟩

/-- What any bytes are read as. -/
def readK (b : List Int) : Int × Int × Int :=
  match b with
  | [x, y] => if y = 255 - x ∧ x / 16 ≤ 8 ∧ x % 16 ≤ 1 then (x / 16, x % 16, 0) else (0, 0, 2)
  | [] => (0, 0, 3)
  | [_] => (0, 0, 3)
  | _ => (0, 0, 2)

set_option maxHeartbeats 8000000 in
set_option maxRecDepth 100000 in
theorem read_ok (A : Option Addr) (n c : Nat) (b : List Int) (w : World) (hr : Rds (Kd.int .u8) w A n c b) (hb : octOk b) (hn : n ≤ 1000) :
    Calls Try.prog 6 #[.slice A n c] w fun e w' => e = .returned (.tuple #[.int .i64 (readK b).1, .int .i64 (readK b).2.1, .int .i64 (readK b).2.2]) ∧ Below w.heap.size w w' := by
  have hc := hr.cap
  rcases b with _ | ⟨x, _ | ⟨y, _ | ⟨z, r⟩⟩⟩
  · have hl := hr.len
    simp only [List.length_nil] at hl
    subst hl
    go_enter Try.func6, Try.ntmps6
    go_wp2
    go_ret3
    exact ⟨rfl, Below.refl _ _⟩
  · have hl := hr.len
    simp only [List.length_cons, List.length_nil] at hl
    subst hl
    go_enter Try.func6, Try.ntmps6
    go_wp2
    go_ret3
    exact ⟨rfl, Below.refl _ _⟩
  · have hl := hr.len
    simp only [List.length_cons, List.length_nil] at hl
    have hx := hb x (by simp)
    have hy := hb y (by simp)
    obtain ⟨ad, hA⟩ := hr.some_at 0 (by omega)
    subst hA
    have x0 := hr.cell_int (Below.refl _ _) 0 (by omega)
    rw [show ad.add 0 = ad from rfl, show rd [x, y] ((0 : Nat) : Int) = x from rfl] at x0
    have x1 := hr.cell_int (Below.refl _ _) 1 (by omega)
    rw [show ad.add 1 = ⟨ad.block, ad.off + 1, none⟩ from rfl, show rd [x, y] ((1 : Nat) : Int) = y from rfl] at x1
    subst hl
    obtain ⟨hx0, hx1⟩ := hx
    have hnot := not_u8 x hx0 hx1
    have hnot2 : bits .xor .u8 (if IntKind.u8.signed = true then -1 else IntKind.u8.max) x = 255 - x := hnot
    skip
    have R : readK [x, y] = if y = 255 - x ∧ x / 16 ≤ 8 ∧ x % 16 ≤ 1 then (x / 16, x % 16, 0) else (0, 0, 2) := rfl
    have HR := Aside0.mk R
    clear R
    generalize readK [x, y] = res at *
    by_cases e1 : y = 255 - x
    · have b1 : (y != 255 - x) = false := by simp [e1]
      by_cases e2 : x / 16 ≤ 8
      · have b2 : decide (8 < x / 16) = false := decide_eq_false (by omega)
        by_cases e3 : x % 16 ≤ 1
        · have b3 : decide (1 < x % 16) = false := decide_eq_false (by omega)
          have hres := HR.out
          rw [if_pos ⟨e1, e2, e3⟩] at hres
          subst hres
          clear e1 e2 e3 HR
          go_enter Try.func6, Try.ntmps6
          go_wp2
          repeat (go_quiet (fail); go_wp2)
          go_ret3
          exact ⟨rfl, by repeat (first | (with_reducible first | exact Below.refl _ _ | apply pw_below_drewN) | exact Below.refl _ _)⟩
        · have b3 : decide (1 < x % 16) = true := decide_eq_true (by omega)
          have hres := HR.out
          rw [if_neg (by omega)] at hres
          subst hres
          clear e1 e2 e3 HR
          go_enter Try.func6, Try.ntmps6
          go_wp2
          repeat (go_quiet (fail); go_wp2)
          go_ret3
          exact ⟨rfl, by repeat (first | (with_reducible first | exact Below.refl _ _ | apply pw_below_drewN) | exact Below.refl _ _)⟩
      · have b2 : decide (8 < x / 16) = true := decide_eq_true (by omega)
        have hres := HR.out
        rw [if_neg (by omega)] at hres
        subst hres
        clear e1 e2 HR
        go_enter Try.func6, Try.ntmps6
        go_wp2
        repeat (go_quiet (fail); go_wp2)
        go_ret3
        exact ⟨rfl, by repeat (first | (with_reducible first | exact Below.refl _ _ | apply pw_below_drewN) | exact Below.refl _ _)⟩
    · have b1 : (y != 255 - x) = true := by simp [e1]
      have hres := HR.out
      rw [if_neg (by omega)] at hres
      subst hres
      clear e1 HR
      go_enter Try.func6, Try.ntmps6
      go_wp2
      repeat (go_quiet (fail); go_wp2)
      go_ret3
      exact ⟨rfl, by repeat (first | (with_reducible first | exact Below.refl _ _ | apply pw_below_drewN) | exact Below.refl _ _)⟩
  · have hl := hr.len
    have h3 : (2 : Int) < (n : Int) := by simp only [List.length_cons] at hl; omega
    have hx := hb x (by simp)
    obtain ⟨ad, hA⟩ := hr.some_at 0 (by omega)
    subst hA
    have x0 := hr.cell_int (Below.refl _ _) 0 (by omega)
    rw [show ad.add 0 = ad from rfl, show rd (x :: y :: z :: r) ((0 : Nat) : Int) = x from rfl] at x0
    clear hl
    obtain ⟨hx0, hx1⟩ := hx
    have n0 : (0 : Int) < (n : Int) := by omega
    go_enter Try.func6, Try.ntmps6
    go_wp2
    repeat (go_quiet (fail); go_wp2)
    go_ret3
    exact ⟨rfl, by repeat (first | (with_reducible first | exact Below.refl _ _ | apply pw_below_drewN) | exact Below.refl _ _)⟩

end Go.Proofs.Ytdeaeeihmdpcdaa.KW
