/- The law MonitorSilent. -/
import Derived.Test.YtjmkddadbblblaaMoC
namespace Go.Proofs.Ytjmkddadbblblaa.MoSilentW
open Go.Proofs.Ytjmkddadbblblaa.MoP (Mo Ok)
open Go.RowKit Go.Proofs.YtjmkddadbblblaaW.PrintWords Go.Proofs.YtjmkddadbblblaaW.PrintLast Go.Proofs.YtjmkddadbblblaaW.PrintMore Go.Proofs.Ytjmkddadbblblaa.K Go.Proofs.Ytjmkddadbblblaa.TaP Go.Proofs.Ytjmkddadbblblaa.TaA Go.Proofs.Ytjmkddadbblblaa.TaB Go.Proofs.Ytjmkddadbblblaa.TaR Go.Proofs.Ytjmkddadbblblaa.MoA Go.Proofs.Ytjmkddadbblblaa.MoR Go.Proofs.Ytjmkddadbblblaa.MoB Go.Proofs.Ytjmkddadbblblaa.MoC
set_option linter.unusedVariables false
set_option linter.unusedSimpArgs false
attribute [local go_sem] max2_int min2_int max_two min_two

theorem and63 (x : Int) : 0 ≤ bits .and .i64 x 63 ∧ bits .and .i64 x 63 ≤ 63 := by
  simp only [bits]
  have h1 : (BitVec.ofInt IntKind.i64.bits x &&& BitVec.ofInt IntKind.i64.bits 63).toNat ≤ 63 := by
    rw [BitVec.toNat_and]
    exact Nat.and_le_right
  generalize (BitVec.ofInt IntKind.i64.bits x &&& BitVec.ofInt IntKind.i64.bits 63).toNat = m at *
  rw [IntKind.wrap_i64]
  omega
def SM (s : Int) (T : Nat) : Mo := ⟨3, 2, s, if s ≤ T then 0 else 1, T, if s ≤ T then 2 else 0, [true]⟩
theorem sm_ok (s : Int) (T : Nat) (h0 : 1 ≤ s) (h1 : s ≤ 1000) (h : T ≤ 10000) : Ok (SM s T) :=
  ⟨by simp [SM], by simp [SM], by simp [SM], by simp [SM], h0, by simp only [SM]; omega, by simp only [SM]; split <;> omega, by simp only [SM]; split <;> omega, by simp only [SM]; omega, by simp only [SM]; omega, by simp [SM]⟩
theorem sm_new (s : Int) (h0 : 1 ≤ s) (h1 : s ≤ 1000) : MoP.noteM (MoP.newM 3 2 s) true = SM s 0 := by
  have e1 : MoP.cutQ s 1 1073741824 = s := by unfold MoP.cutQ; rw [if_neg (by omega), if_neg (by omega)]
  have e2 : MoP.newM 3 2 s = ⟨3, 2, s, 0, 0, 0, []⟩ := by unfold MoP.newM; rw [e1]; rfl
  rw [e2]
  have e3 : ¬ s ≤ ((0 : Nat) : Int) := by omega
  unfold SM
  rw [if_neg e3, if_neg e3]
  rfl
theorem sm_pass (s : Int) (T k : Nat) (h : T + k ≤ 10000) : MoP.passM (SM s T) (k : Int) = SM s (T + k) := by
  have e1 : MoP.cutQ (k : Int) 0 1073741824 = k := by unfold MoP.cutQ; rw [if_neg (by omega), if_neg (by omega)]
  have e2 : MoP.quietM (SM s T) k = ((T + k : Nat) : Int) := by
    unfold MoP.quietM
    rw [e1]
    show (if ((T : Nat) : Int) + (k : Int) < 1073741824 then ((T : Nat) : Int) + (k : Int) else 1073741824) = _
    rw [if_pos (by omega)]
    omega
  unfold MoP.passM
  rw [e2]
  by_cases hs : s ≤ ((T + k : Nat) : Int)
  · rw [if_pos (show (SM s T).silent ≤ ((T + k : Nat) : Int) from hs)]
    simp only [SM]
    rw [if_pos hs, if_pos hs]
  · rw [if_neg (show ¬ (SM s T).silent ≤ ((T + k : Nat) : Int) from hs)]
    simp only [SM]
    rw [if_neg hs, if_neg hs, if_neg (by omega), if_neg (by omega)]
theorem sm_state (s : Int) (T : Nat) : ((SM s T).state == 2) = decide (s ≤ (T : Int)) := by
  simp only [SM]
  split <;> rename_i h <;> simp [h]
set_option maxHeartbeats 8000000 in
set_option maxRecDepth 100000 in
theorem silent_in (s : Int) (A : Option Addr) (n c0 : Nat) (l : List Int) (w : World) (hr : Rds (Kd.int .i64) w A n c0 l) (h0 : 1 ≤ s) (h1 : s ≤ 1000) (hn : n ≤ 50) :
    Calls Try.prog 6 #[.int .i64 s, .slice A n c0] w fun e w' => e = .returned (.bool true) ∧ Below w.heap.size w w' := by
  have HR := Aside0.mk hr
  have H0 := Aside0.mk h0
  have H1 := Aside0.mk h1
  have KN := Aside0.mk (MoP.Ok.new 3 2 s)
  have SN := Aside0.mk (sm_new s h0 h1)
  clear hr
  go_enter Try.func6, Try.ntmps6
  go_wp2_with (first
      | (go_at_call 8; have hcall := alive_ok w; (with_reducible refine hcall.mono ?_); clear hcall; rintro e w1 ⟨rfl, hb⟩; have B1 := Aside0.mk hb; clear hb)
      | (go_at_call 9; (with_reducible refine (newm_ok 3 2 s _).mono ?_); rintro e w2 ⟨p, g, c, rfl, hp, hg, hc, i, hb⟩; have HP := Aside0.mk (Nat.le_trans B1.out.size hp); have HG := Aside0.mk (Nat.le_trans B1.out.size hg); have HC := Aside0.mk (Nat.le_trans B1.out.size hc); have I2 := Aside0.mk i; have B2 := Aside0.mk (below_step B1.out hb); clear hp hg hc i hb)
      | (go_at_call 10; (with_reducible refine (notem_ok p g c (MoP.newM 3 2 s) true KN.out _ I2.out).mono ?_); rintro e w3 ⟨rfl, i, f⟩; have I3 := Aside0.mk (SN.out ▸ i); have B3 := Aside0.mk (Fr.above B2.out B2.out.size f (fun i hi he => by have := HP.out; have := HG.out; have := HC.out; omega)); clear i f I2 B2))
  go_loopg [7, 8, 9, 10] (n + 1) (fun kq v7 v8 v9 v10 w' => ∃ (i T : Nat), v8 = .int .i64 i ∧ v7 = .int .i64 T ∧ i ≤ n ∧ T ≤ 63 * i ∧ kq = n + 1 - i ∧ Aside0 (IsM w' p g c (SM s T)) ∧ Aside0 (Below w.heap.size w w'))
  case atStart => exact ⟨0, 0, rfl, rfl, by omega, by omega, by omega, I3, B3⟩
  case round =>
    clear I3 B3
    obtain ⟨i, T, rfl, rfl, hi, hT, hkq, I4, B4⟩ := hrel
    by_cases hlt : i < n
    · obtain ⟨ad, hA, x0⟩ := (HR.out.below B4.out).int (i : Int) (by omega) (by omega)
      subst hA
      simp only [Int.toNat_natCast] at x0
      obtain ⟨y1, y2⟩ := and63 (rd l i)
      obtain ⟨k, hk⟩ : ∃ k : Nat, bits .and .i64 (rd l i) 63 = (k : Int) := ⟨(bits .and .i64 (rd l i) 63).toNat, by omega⟩
      have hk2 : k ≤ 63 := by omega
      have e1 : IntKind.i64.wrap ((T : Int) + (k : Int)) = ((T + k : Nat) : Int) := by rw [w64 (by omega) (by omega)]; omega
      have E1 := Aside0.mk (sm_pass s T k (by omega))
      have es := sm_state s (T + k)
      have OKT := Aside0.mk (sm_ok s T h0 h1 (by omega))
      obtain ⟨q, hq⟩ : ∃ q, q = (SM s (T + k)).state := ⟨_, rfl⟩
      rw [← hq] at es
      have HQ := Aside0.mk hq
      clear y1 y2 hq
      have es : (q == 2) = decide (s ≤ (T : Int) + (k : Int)) := by rw [es]; exact decide_eq_decide.2 (by omega)
      have e1 : IntKind.i64.wrap ((T : Int) + (k : Int)) = (T : Int) + (k : Int) := w64 (by omega) (by omega)
      by_cases hd : s ≤ (T : Int) + (k : Int)
      all_goals
        first
          | rw [decide_eq_true hd] at es
          | rw [decide_eq_false hd] at es
        go_wp2_with (first
      | (go_at_call 14; (with_reducible refine (passm_ok p g c (SM s T) k OKT.out _ I4.out).mono ?_); rintro e w5 ⟨rfl, i5, f5⟩; rw [E1.out] at i5; have I5 := Aside0.mk i5; have B5 := Aside0.mk (Fr.above B4.out B4.out.size f5 (fun i hi he => by have := HP.out; have := HG.out; have := HC.out; omega)); clear i5 f5 I4 B4; rw [E1.out, ← HQ.out]))
        go_roundg (n - i)
        case measure => omega
        case rel => exact ⟨i + 1, T + k, by go_num, by go_num, by omega, by omega, by omega, I5, B5⟩
    · obtain rfl : i = n := by omega
      go_wp2_with fail
      first | go_ret | go_ret2 | ((try simp only [Exit.inBlock, Exit.then]); refine bodyPost_ret (results_tmp3 rfl _ _ _) rfl ?_) | go_end0 | refine bodyPost_ret0 rfl rfl ?_
      exact ⟨rfl, B4.out⟩
set_option maxHeartbeats 8000000 in
set_option maxRecDepth 100000 in
theorem silent_out (s : Int) (A : Option Addr) (n c0 : Nat) (w : World) (h : ¬ (1 ≤ s ∧ s ≤ 1000 ∧ n ≤ 50)) (hm : n ≤ 9223372036854775807) :
    Calls Try.prog 6 #[.int .i64 s, .slice A n c0] w fun e w' => e = .returned (.bool true) ∧ Below w.heap.size w w' := by
  have key : s < 1 ∨ (¬ s < 1 ∧ s > 1000) ∨ (¬ s < 1 ∧ ¬ s > 1000 ∧ (50 : Int) < (n : Int)) := by omega
  clear h
  rcases key with h1 | ⟨h1, h2⟩ | ⟨h1, h2, h3⟩
  all_goals
    go_enter Try.func6, Try.ntmps6
    go_wp2_with (first
      | (go_at_call 8; have hcall := alive_ok w; (with_reducible refine hcall.mono ?_); clear hcall; rintro e w1 ⟨rfl, hb⟩; have B1 := Aside0.mk hb; clear hb))
    first | go_ret | go_ret2 | ((try simp only [Exit.inBlock, Exit.then]); refine bodyPost_ret (results_tmp3 rfl _ _ _) rfl ?_) | go_end0 | refine bodyPost_ret0 rfl rfl ?_
    exact ⟨rfl, B1.out⟩
theorem walk (a0 : Int) (a1 : Option Addr) (len1 cap1 : Nat) (z1 : List Int) (W : World) (w0 : (Lit.int .i64 a0).wf = true) (w1 : IsRow .i64 W a1 len1 cap1 z1) (_y1 : len1 * 8 ≤ 140737488351232) :
    Calls Try.prog 6 #[.int .i64 a0, .slice a1 len1 cap1] W fun e W' => e = .returned (.bool true) ∧ Below W.heap.size W W' := by
  obtain ⟨l, hr, hm, hw⟩ := rds_of_row w1
  by_cases h : 1 ≤ a0 ∧ a0 ≤ 1000 ∧ len1 ≤ 50
  · exact silent_in a0 a1 len1 cap1 l W hr h.1 h.2.1 h.2.2
  · exact silent_out a0 a1 len1 cap1 W h hm

end Go.Proofs.Ytjmkddadbblblaa.MoSilentW
