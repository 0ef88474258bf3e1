/- Contract of the reference of an end: Pass. -/
import Derived.Test.YtflgngnkfcfhpaaReR
namespace Go.Proofs.Ytflgngnkfcfhpaa.ReS
open Go.RowKit Go.Proofs.YtflgngnkfcfhpaaW.PrintWords Go.Proofs.YtflgngnkfcfhpaaW.PrintLast Go.Proofs.YtflgngnkfcfhpaaW.PrintMore Go.Proofs.Ytflgngnkfcfhpaa.K Go.Proofs.Ytflgngnkfcfhpaa.ReP Go.Proofs.Ytflgngnkfcfhpaa.ReA Go.Proofs.Ytflgngnkfcfhpaa.ReB Go.Proofs.Ytflgngnkfcfhpaa.ReC Go.Proofs.Ytflgngnkfcfhpaa.RrP Go.Proofs.Ytflgngnkfcfhpaa.ReR
set_option linter.unusedVariables false
set_option linter.unusedSimpArgs false
attribute [local go_sem] max2_int min2_int max_two min_two

theorem passRL_st : ∀ (k : Nat) (R : Rn) (n : Int), R.state ≠ 2 → passRL (k + 1) R n = (R, n) := by
  intro k R n h
  rw [passRL, if_neg (fun h2 => h h2.1)]
set_option maxHeartbeats 8000000 in
set_option maxRecDepth 100000 in
theorem passr_ok (B g : Nat) (v : Value) (R : Rn) (n : Int) (d : Int) (d0 : 0 ≤ d) (d1 : d ≤ 1000000000) (a0 : 1 ≤ R.again) (a1 : R.again ≤ 1048576) (l0 : -d ≤ R.left) (l1 : R.left ≤ 1048576) (l2 : R.state = 2 → 1 ≤ R.left) (hl : (R.out.length + (passN n).toNat + 2) * 16 ≤ 140737488355328) (w : World) (hB : B ≤ w.heap.size) (h : IsO 45 B w g v R.cells R.out) : Calls Try.prog 17 #[.pointer (some ⟨g, 0, none⟩), .int .i64 n] w fun e w' => e = .returned (.tuple #[]) ∧ (∃ v', IsO 45 B w' g v' (passR R n).cells (passR R n).out ∧ Mv g v v' w w') := by
  obtain ⟨m, hm⟩ : ∃ m : Nat, passN n = m := ⟨(passN n).toNat, by have := passN_b n; omega⟩
  have hpe : passR R n = leftR (passRL (m + 1) R m).1 ((passRL (m + 1) R m).1.left - (passRL (m + 1) R m).2) := by unfold passR; rw [hm]; rfl
  have hmb := passN_b n
  rw [hpe]
  rw [hm] at hl hmb
  have hmx := Aside0.mk hm
  clear hpe hm
  have hl : (R.out.length + m + 2) * 16 ≤ 140737488355328 := by simpa using hl
  have I0 := Aside0.mk h
  have M0 := Aside0.mk (Mv.refl g v w)
  have HB0 := Aside0.mk hB
  have HL := Aside0.mk hl
  have HA := Aside0.mk a0
  have L2 := Aside0.mk l2
  have hm1 : m ≤ 1048576 := by omega
  clear h hB hl l2 hmb
  by_cases hs : R.state = 2
  · have S0 := Aside0.mk hs
    have q1 := L2.out hs
    clear hs L2
    go_enter Try.func17, Try.ntmps17
    go_wp2_with (first | (go_at_call 24; (with_reducible refine (cut_ok _ _ _ _).mono ?_); rintro e w' ⟨rfl, rfl⟩; rw [show cutQ n 0 1048576 = (m : Int) from hmx.out]))
    go_loopg [1] (m + 1) (fun kq x1 w' => ∃ (R1 : Rn) (n1 : Int) (u : Value) (r : Nat), kq = r + 1 ∧ x1 = .int .i64 n1 ∧ 0 ≤ n1 ∧ n1 ≤ r ∧ n1 ≤ 1048576 ∧ 1 ≤ R1.left ∧ R1.left ≤ 1048576 ∧ 1 ≤ R1.again ∧ R1.again ≤ 1048576 ∧ Aside0 (passRL (m + 1) R m = passRL (r + 1) R1 n1) ∧ Aside0 (R1.state = 2) ∧ Aside0 (R1.out.length + r ≤ R.out.length + m) ∧ Aside0 (IsO 45 B w' g u R1.cells R1.out) ∧ Aside0 (Mv g v u w w') ∧ Aside0 (B ≤ w'.heap.size))
    case atStart => exact ⟨R, _, v, m, rfl, rfl, by omega, by omega, by omega, q1, l1, a0, a1, ⟨rfl⟩, S0, ⟨by omega⟩, I0, M0, HB0⟩
    case round =>
      clear I0 M0 HB0 q1 l0 l1 a0 a1 S0
      obtain ⟨R1, n1, u, r, hkq, rfl, h3, h4, h5, q1, q2, q3, q4, EQ, S1, L1, I1, M1, B1⟩ := hrel
      have c2 := I1.out.tab.at_ 2 (v := .int .i64 R1.state) rfl
      rw [S1.out] at c2
      have c5 := I1.out.tab.at_ 5 (v := .int .i64 R1.left) rfl
      have f5 := I1.out.tab.frozen 5
      by_cases hle : R1.left ≤ n1
      · obtain ⟨r', rfl⟩ : ∃ r', r = r' + 1 := ⟨r - 1, by omega⟩
        have EQ2 : Aside0 (passRL (m + 1) R m = passRL (r' + 1) (askR R1) (n1 - R1.left)) := ⟨by rw [EQ.out, passRL, if_pos ⟨S1.out, hle⟩]⟩
        have e2 : IntKind.i64.wrap (n1 - R1.left) = n1 - R1.left := w64 (by omega) (by omega)
        have HL2 : Aside0 ((R1.out.length + 1) * 16 ≤ 140737488355328) := ⟨lenb L1.out HL.out⟩
        go_wp2_with (first
      | (go_at_call 25; have hcall := askr_ok B g _ R1 HL2.out _ B1.out I1.out; (with_reducible refine hcall.mono ?_); clear hcall; rintro e w2 ⟨rfl, v2, i2, m2⟩; have I2 := Aside0.mk i2; have M2 := Aside0.mk (M1.out.trans m2); have m2s := m2.fr.size; clear i2 m2))
        go_roundg (r' + 1)
        case measure => (rw [hkq]; exact Nat.lt_succ_self _)
        case rel => exact ⟨askR R1, n1 - R1.left, v2, r', rfl, rfl, by omega, by omega, by omega, q3, q4, q3, q4, EQ2, S1, ⟨by have := L1.out; simp [askR]; omega⟩, I2, M2, ⟨Nat.le_trans B1.out m2s⟩⟩
      · have EQ2 : Aside0 (passRL (m + 1) R m = (R1, n1)) := ⟨by rw [EQ.out, passRL, if_neg (fun h => hle h.2)]⟩
        have hlt : n1 < R1.left := by omega
        have e2 : IntKind.i64.wrap (R1.left - n1) = R1.left - n1 := w64 (by omega) (by omega)
        go_wp2_with fail
        first | go_ret | go_ret2 | go_end0 | refine bodyPost_ret0 rfl rfl ?_
        rw [EQ2.out]
        exact ⟨rfl, _, I1.out.put (by decide) 5 (.int .i64 (R1.left - n1)) (by simp [Rn.cells]), M1.out.put 5 _⟩
  · rw [passRL_st m R m hs]
    have bs : (R.state == 2) = false := beq_eq_false_iff_ne.mpr hs
    have c2 := I0.out.tab.at_ 2 (v := .int .i64 R.state) rfl
    have c5 := I0.out.tab.at_ 5 (v := .int .i64 R.left) rfl
    have f5 := I0.out.tab.frozen 5
    have e2 : IntKind.i64.wrap (R.left - m) = R.left - m := w64 (by omega) (by omega)
    clear hs
    go_enter Try.func17, Try.ntmps17
    go_wp2_with (first | (go_at_call 24; (with_reducible refine (cut_ok _ _ _ _).mono ?_); rintro e w' ⟨rfl, rfl⟩; rw [show cutQ n 0 1048576 = (m : Int) from hmx.out]))
    go_loopg [1] (1) (fun kq x1 w' => kq = 1 ∧ x1 = .int .i64 m ∧ w = w')
    case atStart => exact ⟨rfl, rfl, rfl⟩
    case round =>
      obtain ⟨hkq, rfl, rfl⟩ := hrel
      go_wp2_with fail
      first | go_ret | go_ret2 | go_end0 | refine bodyPost_ret0 rfl rfl ?_
      exact ⟨rfl, _, I0.out.put (by decide) 5 (.int .i64 (R.left - m)) (by simp [Rn.cells]), M0.out.put 5 _⟩

end Go.Proofs.Ytflgngnkfcfhpaa.ReS
