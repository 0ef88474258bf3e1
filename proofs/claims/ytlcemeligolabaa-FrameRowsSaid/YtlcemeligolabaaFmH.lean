/- Contract of alive. -/
import Derived.Test.YtlcemeligolabaaFmG
namespace Go.Proofs.Ytlcemeligolabaa.FmH
open Go.RowKit Go.Proofs.YtlcemeligolabaaW.PrintWords Go.Proofs.YtlcemeligolabaaW.PrintLast Go.Proofs.YtlcemeligolabaaW.PrintMore Go.Proofs.Ytlcemeligolabaa.K Go.Proofs.Ytlcemeligolabaa.FmP Go.Proofs.Ytlcemeligolabaa.FmA Go.Proofs.Ytlcemeligolabaa.FmB Go.Proofs.Ytlcemeligolabaa.FmC Go.Proofs.Ytlcemeligolabaa.FmF Go.Proofs.Ytlcemeligolabaa.FmG Go.Proofs.Ytlcemeligolabaa.FcP Go.Proofs.Ytlcemeligolabaa.FcA Go.Proofs.Ytlcemeligolabaa.FcB Go.Proofs.Ytlcemeligolabaa.FcC Go.Proofs.Ytlcemeligolabaa.FcR Go.Proofs.Ytlcemeligolabaa.FcD Go.Proofs.Ytlcemeligolabaa.FcE Go.Proofs.Ytlcemeligolabaa.FcF Go.Proofs.Ytlcemeligolabaa.OctPure
set_option linter.unusedVariables false
set_option linter.unusedSimpArgs false
attribute [local go_sem] max2_int min2_int max_two min_two

theorem new_push : (newR 10 false).push 126 = beg false 12 := by simp [newR, Re.push, Re.clr, beg, cut5, sizeT]
theorem new_out : (newR 10 false).out 126 = (0, []) := by simp [newR, Re.out, Re.told]
theorem hear_a : hear (beg false 12) (frameL [97] false) = [[97]] := by
  rw [frameL, hear_beg_flag, hear_mid false 12 [97] (by decide)]
  rfl
theorem hear_part (R : Re) (l : List Int) (i : Nat) : ∀ x ∈ hear R (l.take i), x ∈ hear R l := fun x hx => by
  have := hear_append (l.take i) (l.drop i) R
  rw [List.take_append_drop] at this
  rw [this]
  exact List.mem_append_left _ hx
set_option maxHeartbeats 8000000 in
set_option maxRecDepth 100000 in
theorem push_flag (p : Nat) (v : Value) (R : Re) (k : Ok R) (w : World) (i : IsP w p v R) :
    Calls Try.prog 17 #[.pointer (some ⟨p, 0, none⟩), .int .u8 126] w fun e w' => ∃ u, e = .returned (.tuple #[.int .i64 (R.out 126).1, u]) ∧ Own (Kd.int .u8) 5 w.heap.size w' u (R.out 126).2 ∧ IsP w' p (.slice none 0 0) (R.push 126) ∧ Fr (Sp p v) w w' := by
  have J0 := Aside0.mk i
  have K0 := Aside0.mk k
  have e1 : R.out 126 = R.told := rfl
  have e2 : R.push 126 = R.clr := rfl
  rw [e1, e2]
  clear e1 e2 i k
  go_enter Try.func17, Try.ntmps17
  go_wp2
  refine wp_scope_labels (fun _ _ _ _ => False) ?_ ?_
  · go_wp2_with (first | (go_at_call 27; (with_reducible refine (flag_ok p v R K0.out w J0.out).mono ?_); rintro e w1 ⟨u, rfl, ho, hi, hf⟩; have O1 := Aside0.mk ho; have I1 := Aside0.mk hi; have F1 := Aside0.mk hf; clear ho hi hf))
    (try rw [jumps_ret])
    first | go_ret | go_ret2 | ((try simp only [Exit.inBlock, Exit.then]); refine bodyPost_ret (results_tmp3 rfl _ _ _) rfl ?_) | go_end0 | refine bodyPost_ret0 rfl rfl ?_
    exact ⟨_, rfl, O1.out, I1.out, F1.out⟩
  · rintro n L a' w' h
    exact h.elim
theorem one_a : strOfNums [97] = ⟨#[97]⟩ := rfl
set_option maxHeartbeats 8000000 in
set_option maxRecDepth 100000 in
theorem alive_ok (w : World) : Calls Try.prog 10 #[] w fun e w' => e = .returned (.bool true) ∧ Below w.heap.size w w' := by
  obtain ⟨R0, hR0⟩ : ∃ R0, R0 = newR 10 false := ⟨_, rfl⟩
  obtain ⟨R1, hR1⟩ : ∃ R1, R1 = beg false 12 := ⟨_, rfl⟩
  obtain ⟨F, hF⟩ : ∃ F, F = frameL [97] false := ⟨_, rfl⟩
  obtain ⟨L, hL⟩ : ∃ L, L = F.length := ⟨_, rfl⟩
  have hL2 : L ≤ 12 := by have := frameL_len [97] false; rw [hL, hF]; simpa using this
  have OF : octOk F := by rw [hF]; exact frameL_oct (fun x hx => by simp at hx; omega) false
  have NW := Aside0.mk (new_ok 10 false w)
  have K0 := Ok.new 10 false
  have e1 := new_push
  have e2 := new_out
  have e3 := hear_a
  have FP := fun (w' : World) => fput_ok (some ⟨w'.heap.size, 0, none⟩) 1 1 [97] false (w'.alloc (.cells #[.int .u8 97] 5 (1, 2))) (rds_lit w' 5 (1, 2) [97] 1 rfl (by omega)) (fun x hx => by simp at hx; omega) (by omega)
  rw [← hR0, ← hR1] at e1
  rw [← hR0] at e2 K0 NW
  rw [← hR1, ← hF] at e3
  rw [← hF] at FP
  have K1 : Ok R1 := by rw [← e1]; exact K0.push (by omega) (by omega)
  have K0 := Aside0.mk K0
  have K1 := Aside0.mk K1
  have P1 := Aside0.mk e1
  have U1 := Aside0.mk e2
  have H1 := Aside0.mk e3
  have FP := Aside0.mk FP
  have HL := Aside0.mk hL
  have OF := Aside0.mk OF
  have kc := fun (w : World) (C : Array Value) (n c : Nat) => Go.Lib.run_convert_bytes_const (P := Try.prog) w 24 5 C n c Try.underlying24 Try.underlying5
  have ba := one_a
  clear hF hL hR0 hR1 e1 e2 e3
  go_enter Try.func10, Try.ntmps10
  go_wp2_with (first
    | (go_at_call 16; (with_reducible refine NW.out.mono ?_); rintro e w1 ⟨p, rfl, hp, hi, hb⟩; have HP := Aside0.mk hp; have B1 := Aside0.mk hb; have I1 := Aside0.mk hi; clear hp hi hb NW)
    | (go_at_call 17; have hcall := push_flag p (.slice none 0 0) R0 K0.out w1 I1.out; rw [P1.out, U1.out] at hcall; (with_reducible refine hcall.mono ?_); clear hcall; rintro e w2 ⟨u, rfl, ho, hi, hf⟩; obtain ⟨A2, c2, rfl, hc2⟩ := ho.slice; have I2 := Aside0.mk hi; have PL := Aside0.mk hi.tab.lt; have HS := Aside0.mk hf.size; have B2 := Aside0.mk (Fr.above B1.out B1.out.size hf (fun i hi h => by rcases h with h | h; have := HP.out; omega; simp [Value.ownBlock] at h)); clear ho hi hf)
    | (go_at_call 11; (with_reducible refine (FP.out w2).mono ?_); rintro e w3 ⟨v3, rfl, ho, hb⟩; obtain ⟨A3, c3, rfl, hc3⟩ := ho.sliceN HL.out.symm; have O3 := Aside0.mk ho; have B3 := Aside0.mk (below_step (below_alloc B2.out _) hb); have I3 := Aside0.mk ((I2.out.below (below_alloc (Below.refl _ _) _)).below hb); have HSS := Aside0.mk hb.size; clear ho hb))
  have E0 := Aside0.mk (show Ear w3 w3 p (.slice none 0 0) (after R1 (F.take 0)) (.slice none 0 0) [] from ⟨Fr.refl _ _, fun k hk => by simp [Value.ownBlock] at hk, by simpa [after] using I3.out, Own.nil Kd.string 9 w3.heap.size w3⟩)
  have OB : Aside0 (∀ w', Fr (fun k => k = p) w3 w' → Rds (Kd.int .u8) w' A3 L c3 F) := ⟨fun w' hf => (O3.out.fr hf (fun k hk e => by have h1 := (FmA.Own.lt O3.out k hk).1; have h2 := PL.out; rw [World.size_alloc] at h1; omega)).rds⟩
  clear I1 I2 I3 O3
  go_loopg [5, 6, 7, 8] (L + 1) (fun kq v5 v6 v7 v8 w' => ∃ (i : Nat) (v : Value), v5 = .int .i64 (((hear R1 (F.take i)).length : Nat) : Int) ∧ v6 = .int .i64 i ∧ i ≤ L ∧ kq = L + 1 - i ∧ Aside0 (Ear w3 w' p v (after R1 (F.take i)) (.slice none 0 0) []))
  case atStart => exact ⟨0, _, by simp [hear], rfl, by omega, by omega, E0⟩
  case round =>
    clear E0
    obtain ⟨i, v, rfl, rfl, hi, hkq, E2⟩ := hrel
    have HB := Aside0.mk (E2.out.below B3.out B3.out.size HP.out)
    have hb := OB.out wr E2.out.fr
    have HLN := hear_len (F.take i) R1
    rw [List.length_take] at HLN
    by_cases hlt : i < L
    · obtain ⟨ad, hA⟩ := hb.some_at i hlt
      subst hA
      have hx := hb.cell_int (Below.refl _ _) i hlt
      have hil : i < F.length := by have := HL.out; omega
      have hcb := OF.out _ (rd_mem F i hil)
      have KK := Aside0.mk (after_ok (F.take i) K1.out (fun x hx => OF.out x (List.mem_of_mem_take hx)))
      have PU := push_ok p v (after R1 (F.take i)) (rd F i) KK.out hcb.1 hcb.2 wr E2.out.is
      have AS := after_s R1 F i hil
      have HS := hear_s R1 F i hil
      have HM := hear_part R1 F (i + 1)
      rw [← AS] at PU
      obtain ⟨kk, bb, hkb⟩ : ∃ kk bb, (after R1 (F.take i)).out (rd F i) = (kk, bb) := ⟨_, _, rfl⟩
      rw [hkb] at PU HS
      rw [H1.out] at HM
      rw [HS] at HM
      have HS := Aside0.mk HS
      have PU := Aside0.mk PU
      obtain ⟨m, hm⟩ : ∃ m, m = (hear R1 (F.take i)).length := ⟨_, rfl⟩
      rw [← hm] at HLN ⊢
      have HMM := Aside0.mk hm
      clear AS hkb hcb hb hm
      generalize rd F i = x at *
      by_cases hk1 : kk = 1
      · subst hk1
        have hbb : bb = [97] := by have := HM bb (by simp); simpa using this
        subst hbb
        clear HM
        go_wp2_with (first
          | (go_at_call 17; (with_reducible refine PU.out.mono ?_); rintro e w4 ⟨u, v2, rfl, ho, hi2, hn2, hf2⟩; obtain ⟨A2, c2, rfl, hc2⟩ := ho.sliceN (n := 1) rfl; have CV := conv22 A2 _ c2 [97] w4 ho.rds; have E3 := Aside0.mk (E2.out.push hi2 hn2 hf2); clear ho hi2 hn2 hf2))
        go_roundg (L - i)
        case measure => omega
        case rel => exact ⟨i + 1, v2, by rw [HS.out, List.length_append, ← HMM.out]; simp, by go_num, by omega, by omega, ⟨E3.out⟩⟩
      · have b1 : (kk == 1) = false := beq_eq_false_iff_ne.mpr hk1
        have HK := Aside0.mk hk1
        clear hk1 HM
        go_wp2_with (first
          | (go_at_call 17; (with_reducible refine PU.out.mono ?_); rintro e w4 ⟨u, v2, rfl, ho, hi2, hn2, hf2⟩; obtain ⟨A2, c2, rfl, hc2⟩ := ho.slice; have E3 := Aside0.mk (E2.out.push hi2 hn2 hf2); clear ho hi2 hn2 hf2))
        go_roundg (L - i)
        case measure => omega
        case rel => exact ⟨i + 1, v2, by rw [HS.out, if_neg HK.out, List.append_nil, ← HMM.out], by go_num, by omega, by omega, ⟨E3.out⟩⟩
    · have hi2 : i = L := by omega
      subst hi2
      rw [List.take_of_length_le (by have := HL.out; omega), H1.out]
      go_wp2_with fail
      first | go_ret | go_ret2 | ((try simp only [Exit.inBlock, Exit.then]); refine bodyPost_ret (results_tmp3 rfl _ _ _) rfl ?_) | go_end0 | refine bodyPost_ret0 rfl rfl ?_
      exact ⟨rfl, HB.out⟩

end Go.Proofs.Ytlcemeligolabaa.FmH
