/- The contract of Fresh. -/
import Derived.Test.YtnelcmblcalknaaTwA
namespace Go.Proofs.Ytnelcmblcalknaa.TwB
open Go.RowKit Go.Proofs.YtnelcmblcalknaaW.PrintWords Go.Proofs.YtnelcmblcalknaaW.PrintLast Go.Proofs.YtnelcmblcalknaaW.PrintMore Go.Proofs.Ytnelcmblcalknaa.K Go.Proofs.Ytnelcmblcalknaa.TwP Go.Proofs.Ytnelcmblcalknaa.TwA
set_option linter.unusedVariables false
set_option linter.unusedSimpArgs false
attribute [local go_sem] max2_int min2_int max_two min_two

theorem first_okx (g c : Nat) (T : Tb) (ok : Ok T) (b : Nat) (x : Int) (hx : (b : Int) = x) (hb : b < T.came.length) (w : World) (h : Is w g c T) :
    Calls Try.prog 15 #[.pointer (some ⟨g, 0, none⟩), .int .i64 x] w fun e w' => e = .returned (.bool (firstB T b)) ∧ Is w' g c (firstT T b) ∧ Fr (fun k => k = g ∨ k = c) w w' := by
  subst hx
  exact first_ok g c T ok b hb w h
theorem sub32_b (a b : Int) : 0 ≤ sub32 a b ∧ sub32 a b < 4294967296 := by unfold sub32; omega
theorem u32_w (x : Int) : IntKind.u32.wrap x = x % 4294967296 := by simp [IntKind.wrap, IntKind.bits, IntKind.signed]
set_option maxHeartbeats 8000000 in
set_option maxRecDepth 100000 in
theorem fresh_ok (g c : Nat) (T : Tb) (ok : Ok T) (n : Int) (hn0 : 0 ≤ n) (hn1 : n < 4294967296) (w : World) (h : Is w g c T) :
    Calls Try.prog 10 #[.pointer (some ⟨g, 0, none⟩), .int .u32 n] w fun e w' => e = .returned (.bool (freshB T n)) ∧ Is w' g c (freshT T n) ∧ Fr (fun k => k = g ∨ k = c) w w' := by
  have I0 := Aside0.mk h
  have F0 := Aside0.mk (Fr.refl (fun k => k = g ∨ k = c) w)
  have OK := Aside0.mk ok
  have q1 := ok.at_lt
  have q2 := ok.len
  have q3 := ok.low
  have q4 := ok.up
  have c0 := h.tab.at_ 0 (v := .bool T.known) rfl
  have f0 := h.tab.frozen 0
  have c1 := h.tab.at_ 1 (v := .int .u32 T.high) rfl
  have f1 := h.tab.frozen 1
  have c3 := h.tab.at_ 3 (v := .slice (some ⟨c, 0, none⟩) T.came.length T.came.length) rfl
  by_cases hk : T.known = false
  · rw [show freshB T n = firstB { T with known := true, high := n } 0 by unfold freshB; rw [if_pos hk], show freshT T n = firstT { T with known := true, high := n } 0 by unfold freshT; rw [if_pos hk]]
    rw [hk] at c0
    have I2 := Aside0.mk (put_high (put_known h true) n)
    have F2 := Aside0.mk (fr_g (i := 1) (fr_g (i := 0) F0.out (.bool true)) (.int .u32 n))
    clear h hk ok
    go_enter Try.func10, Try.ntmps10
    go_wp2_with (first | (go_at_call 15; (with_reducible refine (first_okx g c { T with known := true, high := n } (OK.out.set true n hn0 hn1) 0 0 rfl (Nat.lt_of_le_of_lt (Nat.zero_le _) (OK.out.set true n hn0 hn1).at_lt) _ I2.out).mono ?_); rintro e w3 ⟨rfl, i3, f3⟩; have I3 := Aside0.mk i3; have F3 := Aside0.mk (F2.out.comp f3); clear i3 f3))
    first | go_ret | go_ret2 | go_end0
    exact ⟨rfl, I3.out, F3.out⟩
  · have hk2 : T.known = true := by simpa using hk
    rw [hk2] at c0
    obtain ⟨up, hup⟩ : ∃ x, x = sub32 n T.high := ⟨_, rfl⟩
    obtain ⟨be, hbe⟩ : ∃ x, x = sub32 T.high n := ⟨_, rfl⟩
    have u0 := sub32_b n T.high
    have b0 := sub32_b T.high n
    have e1 : IntKind.u32.wrap (n - T.high) = up := by rw [u32_w, hup]; rfl
    have e2 : IntKind.u32.wrap (T.high - n) = be := by rw [u32_w, hbe]; rfl
    have eB : freshB T n = if be = 0 then false else if up < 2147483648 then firstB { raiseN (min up.toNat T.came.length) T with high := n } 0 else if be < T.came.length then firstB T be.toNat else false := by unfold freshB; rw [if_neg hk, hup, hbe]
    have eT : freshT T n = if be = 0 then T else if up < 2147483648 then firstT { raiseN (min up.toNat T.came.length) T with high := n } 0 else if be < T.came.length then firstT T be.toNat else T := by unfold freshT; rw [if_neg hk, hup, hbe]
    rw [eB, eT]
    rw [← hup] at u0
    rw [← hbe] at b0
    clear eB eT hup hbe hk hk2
    have e3 : IntKind.u32.wrap (T.came.length : Int) = (T.came.length : Int) := by rw [u32_w]; omega
    have HL := Aside0.mk q2
    clear h ok
    by_cases hz : be = 0
    · rw [if_pos hz, if_pos hz]
      subst hz
      go_enter Try.func10, Try.ntmps10
      go_wp2
      refine region_still (by kernel_rfl) (by kernel_rfl) ?_
      intro w1 hb1 hc1 hf1 hh1
      replace c0 := (hc1 _).trans c0
      replace c1 := (hc1 _).trans c1
      replace c3 := (hc1 _).trans c3
      replace f0 := (hf1 _).trans f0
      replace f1 := (hf1 _).trans f1
      have I1 := Aside0.mk (I0.out.heap hh1)
      have F1 := Aside0.mk (F0.out.comp (Fr.of_below hb1))
      clear hb1 hc1 hf1 hh1
      repeat still_step
      refine wpStill_nil ?_
      go_wp2_with fail
      first | go_ret | go_ret2 | go_end0
      exact ⟨rfl, I1.out, F1.out⟩
    · rw [if_neg hz, if_neg hz]
      have bz : (be == 0) = false := beq_eq_false_iff_ne.mpr hz
      by_cases hu : up < 2147483648
      · rw [if_pos hu, if_pos hu]
        obtain ⟨K, hK⟩ : ∃ K, K = min up.toNat T.came.length := ⟨_, rfl⟩
        rw [← hK]
        have hKi : (if (T.came.length : Int) < up then (T.came.length : Int) else up) = (K : Int) := by rw [hK]; split <;> omega
        have hK2 : K ≤ 4096 := by omega
        clear hK
        have hKl : Aside0 (K = K) := ⟨rfl⟩
        clear hKl
        go_enter Try.func10, Try.ntmps10
        go_wp2
        refine region_still (by kernel_rfl) (by kernel_rfl) ?_
        intro w1 hb1 hc1 hf1 hh1
        replace c0 := (hc1 _).trans c0
        replace c1 := (hc1 _).trans c1
        replace c3 := (hc1 _).trans c3
        replace f0 := (hf1 _).trans f0
        replace f1 := (hf1 _).trans f1
        have I1 := Aside0.mk (I0.out.heap hh1)
        have F1 := Aside0.mk (F0.out.comp (Fr.of_below hb1))
        clear hb1 hc1 hf1 hh1
        repeat still_step
        refine wpStill_nil ?_
        go_wp2_with fail
        go_loopg [47] (K + 1) (fun kq v47 w' => ∃ j : Nat, v47 = .int .u32 j ∧ j ≤ K ∧ kq = K + 1 - j ∧ Aside0 (Is w' g c (raiseN j T)) ∧ Aside0 (Fr (fun k => k = g ∨ k = c) w w'))
        case atStart => exact ⟨0, by simp, by omega, by omega, I1, F1⟩
        case round =>
          clear I1 F1 c0 c1 c3 f0 f1
          obtain ⟨j, rfl, hj, hm, I2, F2⟩ := hrel
          by_cases hlt : j < K
          · have e4 : IntKind.u32.wrap ((j : Int) + 1) = ((j + 1 : Nat) : Int) := by rw [u32_w]; omega
            go_wp2_with (first | (go_at_call 16; (with_reducible refine (raise_ok g c (raiseN j T) (OK.out.raiseN j) _ I2.out).mono ?_); rintro e w3 ⟨rfl, i3, f3⟩; have I3 := Aside0.mk i3; have F3 := Aside0.mk (F2.out.comp f3); clear i3 f3))
            go_roundg (K - j)
            case measure => omega
            case rel => exact ⟨j + 1, by simp [e4], by omega, by omega, ⟨by rw [raiseN_succ]; exact I3.out⟩, F3⟩
          · obtain rfl : j = K := by omega
            have I3 := Aside0.mk (put_high I2.out n)
            have F3 := Aside0.mk (fr_g (i := 1) F2.out (.int .u32 n))
            have f1 := I2.out.tab.frozen 1
            have c1 := I2.out.tab.at_ 1 (v := .int .u32 (raiseN j T).high) rfl
            have OK2 := Aside0.mk ((OK.out.raiseN j).high n hn0 hn1)
            go_wp2_with (first | (go_at_call 15; (with_reducible refine (first_okx g c { raiseN j T with high := n } OK2.out 0 0 rfl (Nat.lt_of_le_of_lt (Nat.zero_le _) OK2.out.at_lt) _ I3.out).mono ?_); rintro e w4 ⟨rfl, i4, f4⟩; have I4 := Aside0.mk i4; have F4 := Aside0.mk (F3.out.comp f4); clear i4 f4))
            first | go_ret | go_ret2 | go_end0
            exact ⟨rfl, I4.out, F4.out⟩
      · rw [if_neg hu, if_neg hu]
        by_cases hb : be < T.came.length
        · rw [if_pos hb, if_pos hb]
          have ebe : (be.toNat : Int) = be := by omega
          go_enter Try.func10, Try.ntmps10
          go_wp2
          refine region_still (by kernel_rfl) (by kernel_rfl) ?_
          intro w1 hb1 hc1 hf1 hh1
          replace c0 := (hc1 _).trans c0
          replace c1 := (hc1 _).trans c1
          replace c3 := (hc1 _).trans c3
          replace f0 := (hf1 _).trans f0
          replace f1 := (hf1 _).trans f1
          have I1 := Aside0.mk (I0.out.heap hh1)
          have F1 := Aside0.mk (F0.out.comp (Fr.of_below hb1))
          clear hb1 hc1 hf1 hh1
          repeat still_step
          refine wpStill_nil ?_
          go_wp2_with (first | (go_at_call 15; (with_reducible refine (first_okx g c T OK.out be.toNat be ebe (by omega) _ I1.out).mono ?_); rintro e w3 ⟨rfl, i3, f3⟩; have I3 := Aside0.mk i3; have F3 := Aside0.mk (F1.out.comp f3); clear i3 f3))
          first | go_ret | go_ret2 | go_end0
          exact ⟨rfl, I3.out, F3.out⟩
        · rw [if_neg hb, if_neg hb]
          go_enter Try.func10, Try.ntmps10
          go_wp2
          refine region_still (by kernel_rfl) (by kernel_rfl) ?_
          intro w1 hb1 hc1 hf1 hh1
          replace c0 := (hc1 _).trans c0
          replace c1 := (hc1 _).trans c1
          replace c3 := (hc1 _).trans c3
          replace f0 := (hf1 _).trans f0
          replace f1 := (hf1 _).trans f1
          have I1 := Aside0.mk (I0.out.heap hh1)
          have F1 := Aside0.mk (F0.out.comp (Fr.of_below hb1))
          clear hb1 hc1 hf1 hh1
          repeat still_step
          refine wpStill_nil ?_
          go_wp2_with fail
          first | go_ret | go_ret2 | go_end0
          exact ⟨rfl, I1.out, F1.out⟩

end Go.Proofs.Ytnelcmblcalknaa.TwB
