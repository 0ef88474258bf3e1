/- The law MonitorFails. -/
import Derived.Test.YtjmkddadbblblaaMoC
namespace Go.Proofs.Ytjmkddadbblblaa.MoFailsW
open Go.Proofs.Ytjmkddadbblblaa.MoP (Mo Ok)
open Go.RowKit Go.Proofs.YtjmkddadbblblaaW.PrintWords Go.Proofs.YtjmkddadbblblaaW.PrintLast Go.Proofs.YtjmkddadbblblaaW.PrintMore Go.Proofs.Ytjmkddadbblblaa.K Go.Proofs.Ytjmkddadbblblaa.TaP Go.Proofs.Ytjmkddadbblblaa.TaA Go.Proofs.Ytjmkddadbblblaa.TaB Go.Proofs.Ytjmkddadbblblaa.TaR Go.Proofs.Ytjmkddadbblblaa.MoA Go.Proofs.Ytjmkddadbblblaa.MoR Go.Proofs.Ytjmkddadbblblaa.MoB Go.Proofs.Ytjmkddadbblblaa.MoC
set_option linter.unusedVariables false
set_option linter.unusedSimpArgs false
attribute [local go_sem] max2_int min2_int max_two min_two

def stF (bad : Int) (j : Nat) : Int := if bad ≤ j then 2 else if (bad + 1) / 2 ≤ j then 1 else 0
def FM (bad : Int) (i j : Nat) : Mo := ⟨bad, 16, 1073741824, if j = 0 then i else 0, 0, stF bad j, List.replicate i true ++ List.replicate j false⟩
theorem fm_ok (bad : Int) (i j : Nat) (h0 : 1 ≤ bad) (h1 : bad ≤ 16) (h : i + j ≤ 16) : Ok (FM bad i j) :=
  ⟨h0, h1, by simp [FM], by simp [FM], by simp [FM], by simp [FM], by simp only [FM]; split <;> omega, by simp only [FM]; split <;> omega, by simp [FM], by simp [FM], by simp [FM]; omega⟩
theorem fm_new (bad : Int) (h0 : 1 ≤ bad) (h1 : bad ≤ 16) : MoP.newM bad 16 1073741824 = FM bad 0 0 := by
  have e1 : MoP.cutQ bad 1 16 = bad := by unfold MoP.cutQ; rw [if_neg (by omega), if_neg (by omega)]
  have e2 : stF bad 0 = 0 := by unfold stF; rw [if_neg (by omega), if_neg (by omega)]
  unfold MoP.newM FM
  rw [e1, e2]
  rfl
theorem fm_good (bad : Int) (i : Nat) (h0 : 1 ≤ bad) (h : i + 1 ≤ 16) : MoP.noteM (FM bad i 0) true = FM bad (i + 1) 0 := by
  have e2 : stF bad 0 = 0 := by unfold stF; rw [if_neg (by omega), if_neg (by omega)]
  have ek : keep 16 (List.replicate i true) true = List.replicate (i + 1) true := by
    unfold keep
    rw [if_neg (by simp; omega), ← List.replicate_succ']
  unfold MoP.noteM MoP.sideM MoP.endM
  simp only [FM, e2, if_true, List.replicate_zero, List.append_nil, ek]
  rw [if_neg (by simp), if_neg (by simp [List.count_replicate]; omega), if_neg (by simp [List.count_replicate]; omega), if_pos (by omega)]
  simp
theorem fm_bad (bad : Int) (i j : Nat) (h0 : 1 ≤ bad) (h : i + j + 1 ≤ 16) : MoP.noteM (FM bad i j) false = FM bad i (j + 1) := by
  have ek : keep 16 (List.replicate i true ++ List.replicate j false) false = List.replicate i true ++ List.replicate (j + 1) false := by
    unfold keep
    rw [if_neg (by simp; omega), List.append_assoc, ← List.replicate_succ']
  have ec : (List.replicate i true ++ List.replicate (j + 1) false).count false = j + 1 := by simp [List.count_append, List.count_replicate]
  unfold MoP.noteM MoP.sideM MoP.endM
  simp only [FM, ek, ec]
  rw [if_neg (by simp)]
  have e3 : (if j + 1 = 0 then ((i : Nat) : Int) else 0) = 0 := by simp
  simp only [Bool.false_eq_true, if_false, e3]
  by_cases h1 : bad ≤ ((j + 1 : Nat) : Int)
  · rw [if_pos h1, show stF bad (j + 1) = 2 by unfold stF; rw [if_pos h1]]
  · rw [if_neg h1]
    by_cases h2 : (bad + 1) / 2 ≤ ((j + 1 : Nat) : Int)
    · have e4 : stF bad (j + 1) = 1 := by unfold stF; rw [if_neg h1, if_pos h2]
      by_cases h3 : stF bad j = 0
      · rw [if_pos ⟨h2, h3⟩, e4]
      · rw [if_neg (fun h => h3 h.2), e4]
        have : stF bad j = 1 := by
          unfold stF at h3 ⊢
          rw [if_neg (by omega)] at h3 ⊢
          split at h3
          · rename_i h4; rw [if_pos h4]
          · exact absurd rfl h3
        rw [this]
    · rw [if_neg (fun h => h2 h.1), show stF bad (j + 1) = 0 by unfold stF; rw [if_neg h1, if_neg h2], show stF bad j = 0 by unfold stF; rw [if_neg (by omega), if_neg (by omega)]]
theorem fm_count (bad : Int) (i j : Nat) : (FM bad i j).h.count true = i ∧ (FM bad i j).h.count false = j := by
  simp [FM, List.count_append, List.count_replicate]
theorem of_s (a b : Nat) (ha : a ≤ 4294967295) (hb : b ≤ 4294967295) (w : World) : Calls Try.prog 13 #[.int .i64 a, .int .i64 b] w fun e w' => e = .returned (.complex .f64 (fl a) (fl b)) ∧ w' = w := (of_ok a b ha hb w).mono fun _ _ h => ⟨h.1, h.2.symm⟩
set_option maxHeartbeats 8000000 in
set_option maxRecDepth 100000 in
theorem fails_in (bad : Int) (n gd : Nat) (w : World) (h0 : 1 ≤ bad) (h1 : bad ≤ 16) (hn : n ≤ 16) (hg : gd ≤ 16 - n) :
    Calls Try.prog 5 #[.int .i64 bad, .int .i64 n, .int .i64 gd] w fun e w' => e = .returned (.bool true) ∧ Below w.heap.size w w' := by
  have e1 : IntKind.i64.wrap (16 - (n : Int)) = 16 - (n : Int) := w64 (by omega) (by omega)
  have q1 : ¬ (16 - (n : Int)) < (gd : Int) := by omega
  have FN := Aside0.mk (fm_new bad h0 h1)
  have H0 := Aside0.mk h0
  have H1 := Aside0.mk h1
  obtain ⟨half, hf⟩ : ∃ x, x = (bad + 1) / 2 := ⟨_, rfl⟩
  have et : (bad + 1).tdiv 2 = half := by rw [MoA.half_t _ h0, hf]
  have ew : IntKind.i64.wrap (bad + 1) = bad + 1 := w64 (by omega) (by omega)
  have eh : IntKind.i64.wrap half = half := w64 (by omega) (by omega)
  have HF := Aside0.mk hf
  clear hf
  go_enter Try.func5, Try.ntmps5
  go_wp2_with (first
      | (go_at_call 8; have hcall := alive_ok w; (with_reducible refine hcall.mono ?_); clear hcall; rintro e w1 ⟨rfl, hb⟩; have B1 := Aside0.mk hb; clear hb)
      | (go_at_call 9; (with_reducible refine (newm_ok bad 16 1073741824 _).mono ?_); rintro e w2 ⟨p, g, c, rfl, hp, hg, hc, i, hb⟩; have HP := Aside0.mk (Nat.le_trans B1.out.size hp); have HG := Aside0.mk (Nat.le_trans B1.out.size hg); have HC := Aside0.mk (Nat.le_trans B1.out.size hc); have I2 := Aside0.mk (FN.out ▸ i); have B2 := Aside0.mk (below_step B1.out hb); clear hp hg hc i hb))
  go_loopg [9] (gd + 1) (fun kq v9 w' => ∃ i : Nat, v9 = .int .i64 i ∧ i ≤ gd ∧ kq = gd + 1 - i ∧ Aside0 (IsM w' p g c (FM bad i 0)) ∧ Aside0 (Below w.heap.size w w'))
  case atStart => exact ⟨0, rfl, by omega, by omega, I2, B2⟩
  case round =>
    clear I2 B2
    obtain ⟨i, rfl, hi, hkq, I3, B3⟩ := hrel
    have HNK : Aside0 (n + gd ≤ 16) := ⟨by omega⟩
    by_cases hlt : i < gd
    · go_wp2_with (first
      | (go_at_call 10; (with_reducible refine (notem_ok p g c (FM bad i 0) true (fm_ok bad i 0 H0.out H1.out (by have := HNK.out; omega)) _ I3.out).mono ?_); rintro e w4 ⟨rfl, i, f⟩; have I4 := Aside0.mk i; have B4 := Aside0.mk (Fr.above B3.out B3.out.size f (fun i hi he => by have := HP.out; have := HG.out; have := HC.out; omega)); clear i f I3 B3))
      have e1 : MoP.noteM (FM bad i 0) true = FM bad (i + 1) 0 := fm_good bad i H0.out (by have := HNK.out; omega)
      rw [e1] at I4
      go_roundg (gd - i)
      case measure => omega
      case rel => exact ⟨i + 1, by go_num, by omega, by omega, I4, B4⟩
    · obtain rfl : i = gd := by omega
      go_wp2_with fail
      go_loopg [10] (n + 1) (fun kq v10 w' => ∃ j : Nat, v10 = .int .i64 j ∧ j ≤ n ∧ kq = n + 1 - j ∧ Aside0 (IsM w' p g c (FM bad i j)) ∧ Aside0 (Below w.heap.size w w'))
      case atStart => exact ⟨0, rfl, by omega, by omega, I3, B3⟩
      case round =>
        clear I3 B3
        obtain ⟨j, rfl, hj, hkq2, I5, B5⟩ := hrel
        by_cases hlt2 : j < n
        · go_wp2_with (first
      | (go_at_call 10; (with_reducible refine (notem_ok p g c (FM bad i j) false (fm_ok bad i j H0.out H1.out (by have := HNK.out; omega)) _ I5.out).mono ?_); rintro e w6 ⟨rfl, i, f⟩; have I6 := Aside0.mk i; have B6 := Aside0.mk (Fr.above B5.out B5.out.size f (fun i hi he => by have := HP.out; have := HG.out; have := HC.out; omega)); clear i f I5 B5))
          have e1 : MoP.noteM (FM bad i j) false = FM bad i (j + 1) := fm_bad bad i j H0.out (by have := HNK.out; omega)
          rw [e1] at I6
          go_roundg (n - j)
          case measure => omega
          case rel => exact ⟨j + 1, by go_num, by omega, by omega, I6, B6⟩
        · obtain rfl : j = n := by omega
          obtain ⟨c1, c2⟩ := fm_count bad i j
          have hS : (FM bad i j).state = if bad ≤ j then 2 else if half ≤ j then 1 else 0 := by rw [HF.out]; rfl
          have oi : (FloatKind.f64.format.order (fl i) (fl i) == some .eq) = true := by rw [ordE i (by omega)]; rfl
          have oj : (FloatKind.f64.format.order (fl j) (fl j) == some .eq) = true := by rw [ordE j (by omega)]; rfl
          have C := Aside0.mk (And.intro c1 c2)
          clear c1 c2
          by_cases hb1 : bad ≤ (j : Int)
          · rw [if_pos hb1] at hS
            by_cases hb2 : half ≤ (j : Int)
            all_goals
              go_wp2_with (first
      | (go_at_call 11; (with_reducible refine (state_ok p g c (FM bad i j) _ I5.out).mono ?_); rintro e wK ⟨rfl, rfl⟩; rw [hS])
      | (go_at_call 12; (with_reducible refine (summ_ok p g c (FM bad i j) _ I5.out).mono ?_); rintro e wK ⟨rfl, rfl⟩; rw [C.out.1, C.out.2])
      | (go_at_call 13; (with_reducible refine (of_s i j (by omega) (by omega) _).mono ?_); rintro e wK ⟨rfl, rfl⟩))
              first | go_ret | go_ret2 | ((try simp only [Exit.inBlock, Exit.then]); refine bodyPost_ret (results_tmp3 rfl _ _ _) rfl ?_) | go_end0 | refine bodyPost_ret0 rfl rfl ?_
              exact ⟨rfl, B5.out⟩
          · rw [if_neg hb1] at hS
            by_cases hb2 : half ≤ (j : Int)
            all_goals
              first
                | rw [if_pos hb2] at hS
                | rw [if_neg hb2] at hS
              go_wp2_with (first
      | (go_at_call 11; (with_reducible refine (state_ok p g c (FM bad i j) _ I5.out).mono ?_); rintro e wK ⟨rfl, rfl⟩; rw [hS])
      | (go_at_call 12; (with_reducible refine (summ_ok p g c (FM bad i j) _ I5.out).mono ?_); rintro e wK ⟨rfl, rfl⟩; rw [C.out.1, C.out.2])
      | (go_at_call 13; (with_reducible refine (of_s i j (by omega) (by omega) _).mono ?_); rintro e wK ⟨rfl, rfl⟩))
              first | go_ret | go_ret2 | ((try simp only [Exit.inBlock, Exit.then]); refine bodyPost_ret (results_tmp3 rfl _ _ _) rfl ?_) | go_end0 | refine bodyPost_ret0 rfl rfl ?_
              exact ⟨rfl, B5.out⟩
set_option maxHeartbeats 8000000 in
set_option maxRecDepth 100000 in
theorem fails_out (bad n good : Int) (w : World) (h : ¬ (1 ≤ bad ∧ bad ≤ 16 ∧ 0 ≤ n ∧ n ≤ 16 ∧ 0 ≤ good ∧ good ≤ 16 - n)) (hw1 : -9223372036854775808 ≤ n) (hw2 : n ≤ 9223372036854775807) :
    Calls Try.prog 5 #[.int .i64 bad, .int .i64 n, .int .i64 good] w fun e w' => e = .returned (.bool true) ∧ Below w.heap.size w w' := by
  have key : bad < 1 ∨ (¬ bad < 1 ∧ bad > 16) ∨ (¬ bad < 1 ∧ ¬ bad > 16 ∧ n < 0) ∨ (¬ bad < 1 ∧ ¬ bad > 16 ∧ ¬ n < 0 ∧ n > 16) ∨ (¬ bad < 1 ∧ ¬ bad > 16 ∧ ¬ n < 0 ∧ ¬ n > 16 ∧ good < 0) ∨ (¬ bad < 1 ∧ ¬ bad > 16 ∧ ¬ n < 0 ∧ ¬ n > 16 ∧ ¬ good < 0 ∧ good > 16 - n ∧ IntKind.i64.wrap (16 - n) = 16 - n) := by
    rcases Int.lt_or_le bad 1 with h1 | h1
    · exact .inl h1
    · rcases Int.lt_or_le 16 bad with h2 | h2
      · exact .inr (.inl ⟨by omega, h2⟩)
      · rcases Int.lt_or_le n 0 with h3 | h3
        · exact .inr (.inr (.inl ⟨by omega, by omega, h3⟩))
        · rcases Int.lt_or_le 16 n with h4 | h4
          · exact .inr (.inr (.inr (.inl ⟨by omega, by omega, by omega, h4⟩)))
          · rcases Int.lt_or_le good 0 with h5 | h5
            · exact .inr (.inr (.inr (.inr (.inl ⟨by omega, by omega, by omega, by omega, h5⟩))))
            · exact .inr (.inr (.inr (.inr (.inr ⟨by omega, by omega, by omega, by omega, by omega, by omega, w64 (by omega) (by omega)⟩))))
  clear h hw1 hw2
  rcases key with h1 | ⟨h1, h2⟩ | ⟨h1, h2, h3⟩ | ⟨h1, h2, h3, h4⟩ | ⟨h1, h2, h3, h4, h5⟩ | ⟨h1, h2, h3, h4, h5, h6, e⟩
  all_goals
    go_enter Try.func5, Try.ntmps5
    go_wp2_with (first
      | (go_at_call 8; have hcall := alive_ok w; (with_reducible refine hcall.mono ?_); clear hcall; rintro e w1 ⟨rfl, hb⟩; have B1 := Aside0.mk hb; clear hb))
    first | go_ret | go_ret2 | ((try simp only [Exit.inBlock, Exit.then]); refine bodyPost_ret (results_tmp3 rfl _ _ _) rfl ?_) | go_end0 | refine bodyPost_ret0 rfl rfl ?_
    exact ⟨rfl, B1.out⟩
theorem walk (a0 a1 a2 : Int) (W : World) (w0 : (Lit.int .i64 a0).wf = true) (w1 : (Lit.int .i64 a1).wf = true) (w2 : (Lit.int .i64 a2).wf = true) :
    Calls Try.prog 5 #[.int .i64 a0, .int .i64 a1, .int .i64 a2] W fun e W' => e = .returned (.bool true) ∧ Below W.heap.size W W' := by
  by_cases h : 1 ≤ a0 ∧ a0 ≤ 16 ∧ 0 ≤ a1 ∧ a1 ≤ 16 ∧ 0 ≤ a2 ∧ a2 ≤ 16 - a1
  · obtain ⟨h1, h2, h3, h4, h5, h6⟩ := h
    obtain ⟨n, rfl⟩ : ∃ n : Nat, a1 = n := ⟨a1.toNat, by omega⟩
    obtain ⟨gd, rfl⟩ : ∃ n : Nat, a2 = n := ⟨a2.toNat, by omega⟩
    exact fails_in a0 n gd W h1 h2 (by omega) (by omega)
  · have hb : IntKind.i64.min = -9223372036854775808 ∧ IntKind.i64.max = 9223372036854775807 := by decide
    simp [Lit.wf, hb.1, hb.2] at w1
    exact fails_out a0 a1 a2 W h (by omega) (by omega)

end Go.Proofs.Ytjmkddadbblblaa.MoFailsW
