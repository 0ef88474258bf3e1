/- The law TallyParts. -/
import Derived.Test.YtoaoebkllcmanaaTcA
import Derived.Test.YtoaoebkllcmanaaTcF
namespace Go.Proofs.Ytoaoebkllcmanaa.TcPartsW
open Go.RowKit Go.Proofs.YtoaoebkllcmanaaW.PrintWords Go.Proofs.YtoaoebkllcmanaaW.PrintLast Go.Proofs.YtoaoebkllcmanaaW.PrintMore Go.Proofs.Ytoaoebkllcmanaa.K Go.Proofs.Ytoaoebkllcmanaa.TaP Go.Proofs.Ytoaoebkllcmanaa.TaA Go.Proofs.Ytoaoebkllcmanaa.TaB Go.Proofs.Ytoaoebkllcmanaa.TaR Go.Proofs.Ytoaoebkllcmanaa.TcA Go.Proofs.Ytoaoebkllcmanaa.TcF
set_option linter.unusedVariables false
set_option linter.unusedSimpArgs false
attribute [local go_sem] max2_int min2_int max_two min_two

def lst (n : Nat) : Nat := if n > 4294967295 then 4294967295 else n
theorem lst_b (n : Nat) : lst n ≤ 4294967295 := by unfold lst; split <;> omega
theorem lst_cut (n : Nat) : cutQ (n : Int) 0 4294967295 = (lst n : Int) := by
  unfold cutQ lst
  (repeat' split) <;> omega
set_option maxHeartbeats 8000000 in
set_option maxRecDepth 100000 in
theorem of_any (a b : Nat) (w : World) : Calls Try.prog 10 #[.int .i64 a, .int .i64 b] w fun e w' => e = .returned (.complex .f64 (fl (lst a)) (fl (lst b))) ∧ w' = w := by
  have EA := Aside0.mk (lst_cut a)
  have EB := Aside0.mk (lst_cut b)
  have fa := foi (lst a)
  have fb := foi (lst b)
  go_enter Try.func10, Try.ntmps10
  go_wp2_with (first | (go_at_call 19; (with_reducible refine (cut_ok a 0 4294967295 (by decide) _).mono ?_); rintro e wK ⟨rfl, rfl⟩; rw [EA.out]) | (go_at_call 19; (with_reducible refine (cut_ok b 0 4294967295 (by decide) _).mono ?_); rintro e wK ⟨rfl, rfl⟩; rw [EB.out]))
  first | go_ret | go_ret2 | ((try simp only [Exit.inBlock, Exit.then]); refine bodyPost_ret (results_tmp3 rfl _ _ _) rfl ?_) | go_end0 | refine bodyPost_ret0 rfl rfl ?_
  exact ⟨rfl, rfl⟩
set_option maxHeartbeats 8000000 in
set_option maxRecDepth 100000 in
theorem count_big (n : Nat) (hn : n ≤ 4294967295) (w : World) : Calls Try.prog 24 #[.float .f64 (fl n)] w fun e w' => e = .returned (.tuple #[.int .i64 n, .bool true]) ∧ w' = w := by
  have og := ord_zero n (by omega)
  have ol := ord_most n hn
  have oe : (FloatKind.f64.format.order (fl n) (fl n) == some .eq) = true := by rw [ord_same n (by omega)]; rfl
  have ci := run_convert_float_int (P := Try.prog) w 39 3 .f64 .i64 (fl n) n (by kernel_rfl) (by kernel_rfl) (toI_big n (by omega))
  have fo := foi n
  clear hn
  go_enter Try.func24, Try.ntmps24
  go_wp2_with fail
  first | go_ret | go_ret2 | ((try simp only [Exit.inBlock, Exit.then]); refine bodyPost_ret (results_tmp3 rfl _ _ _) rfl ?_) | go_end0 | refine bodyPost_ret0 rfl rfl ?_
  exact ⟨rfl, rfl⟩
set_option maxHeartbeats 8000000 in
set_option maxRecDepth 100000 in
theorem parts_big (a b : Nat) (ha : a ≤ 4294967295) (hb : b ≤ 4294967295) (w : World) : Calls Try.prog 16 #[.complex .f64 (fl a) (fl b)] w fun e w' => e = .returned (.tuple #[.int .i64 a, .int .i64 b, .bool true]) ∧ w' = w := by
  go_enter Try.func16, Try.ntmps16
  go_wp2_with (first | (go_at_call 24; (with_reducible refine (count_big a ha _).mono ?_); rintro e wK ⟨rfl, rfl⟩) | (go_at_call 24; (with_reducible refine (count_big b hb _).mono ?_); rintro e wK ⟨rfl, rfl⟩))
  first | go_ret | go_ret2 | ((try simp only [Exit.inBlock, Exit.then]); refine bodyPost_ret (results_tmp3 rfl _ _ _) rfl ?_) | go_end0 | refine bodyPost_ret0 rfl rfl ?_
  exact ⟨rfl, rfl⟩
set_option maxHeartbeats 8000000 in
set_option maxRecDepth 100000 in
theorem add_big (a b c d : Nat) (ha : a ≤ 4294967295) (hb : b ≤ 4294967295) (hc : c ≤ 4294967295) (hd : d ≤ 4294967295) (w : World) :
    Calls Try.prog 17 #[.complex .f64 (fl a) (fl b), .complex .f64 (fl c) (fl d)] w fun e w' => e = .returned (.complex .f64 (fl (lst (a + c))) (fl (lst (b + d)))) ∧ w' = w := by
  have e1 : IntKind.i64.wrap ((a : Int) + (c : Int)) = ((a + c : Nat) : Int) := by rw [w64 (by omega) (by omega)]; omega
  have e2 : IntKind.i64.wrap ((b : Int) + (d : Int)) = ((b + d : Nat) : Int) := by rw [w64 (by omega) (by omega)]; omega
  have OA := Aside0.mk (fun w => of_any (a + c) (b + d) w)
  obtain ⟨x, hx⟩ : ∃ x, x = a + c := ⟨_, rfl⟩
  obtain ⟨y, hy⟩ : ∃ y, y = b + d := ⟨_, rfl⟩
  rw [← hx, ← hy] at OA ⊢
  rw [← hx] at e1
  rw [← hy] at e2
  clear hx hy
  go_enter Try.func17, Try.ntmps17
  go_wp2_with (first | (go_at_call 16; (with_reducible refine (parts_big a b ha hb _).mono ?_); rintro e wK ⟨rfl, rfl⟩) | (go_at_call 16; (with_reducible refine (parts_big c d hc hd _).mono ?_); rintro e wK ⟨rfl, rfl⟩) | (go_at_call 10; (with_reducible refine (OA.out _).mono ?_); rintro e wK ⟨rfl, rfl⟩))
  first | go_ret | go_ret2 | ((try simp only [Exit.inBlock, Exit.then]); refine bodyPost_ret (results_tmp3 rfl _ _ _) rfl ?_) | go_end0 | refine bodyPost_ret0 rfl rfl ?_
  exact ⟨rfl, rfl⟩
set_option maxHeartbeats 8000000 in
set_option maxRecDepth 100000 in
theorem least_ok (n : Nat) (w : World) : Calls Try.prog 18 #[.int .i64 n] w fun e w' => e = .returned (.int .i64 (lst n)) ∧ w' = w := by
  by_cases h : (4294967295 : Int) < (n : Int)
  · have e : lst n = 4294967295 := by unfold lst; rw [if_pos (by omega)]
    rw [e]
    clear e
    go_enter Try.func18, Try.ntmps18
    go_wp2
    go_ret
    exact ⟨rfl, rfl⟩
  · have e : lst n = n := by unfold lst; rw [if_neg (by omega)]
    rw [e]
    clear e
    go_enter Try.func18, Try.ntmps18
    go_wp2
    go_ret
    exact ⟨rfl, rfl⟩
set_option maxHeartbeats 8000000 in
set_option maxRecDepth 100000 in
theorem parts_in (a b c d : Nat) (ha : a ≤ 4294967295) (hb : b ≤ 4294967295) (hc : c ≤ 4294967295) (hd : d ≤ 4294967295) (w : World) :
    Calls Try.prog 5 #[.int .i64 a, .int .i64 b, .int .i64 c, .int .i64 d] w fun e w' => e = .returned (.bool true) ∧ Below w.heap.size w w' := by
  have OAB := Aside0.mk (fun w => of_s a b ha hb w)
  have OCD := Aside0.mk (fun w => of_s c d hc hd w)
  have e1 : IntKind.i64.wrap ((a : Int) + (c : Int)) = ((a + c : Nat) : Int) := by rw [w64 (by omega) (by omega)]; omega
  have e2 : IntKind.i64.wrap ((b : Int) + (d : Int)) = ((b + d : Nat) : Int) := by rw [w64 (by omega) (by omega)]; omega
  have A1 := Aside0.mk (fun w => add_big a b c d ha hb hc hd w)
  have A2 := Aside0.mk (fun w => add_big c d a b hc hd ha hb w)
  rw [Nat.add_comm c a, Nat.add_comm d b] at A2
  have L1 := Aside0.mk (fun w => least_ok (a + c) w)
  have L2 := Aside0.mk (fun w => least_ok (b + d) w)
  have P1 := Aside0.mk (fun w => parts_big (lst (a + c)) (lst (b + d)) (lst_b _) (lst_b _) w)
  have fa := foi a
  have fb := foi b
  have oa : (FloatKind.f64.format.order (fl a) (fl a) == some .eq) = true := by rw [ord_same a (by omega)]; rfl
  have ob : (FloatKind.f64.format.order (fl b) (fl b) == some .eq) = true := by rw [ord_same b (by omega)]; rfl
  have os : (FloatKind.f64.format.order (fl (lst (a + c))) (fl (lst (a + c))) == some .eq) = true := by rw [ord_same _ (by have := lst_b (a + c); omega)]; rfl
  have ot : (FloatKind.f64.format.order (fl (lst (b + d))) (fl (lst (b + d))) == some .eq) = true := by rw [ord_same _ (by have := lst_b (b + d); omega)]; rfl
  obtain ⟨x, hx⟩ : ∃ x, x = a + c := ⟨_, rfl⟩
  obtain ⟨y, hy⟩ : ∃ y, y = b + d := ⟨_, rfl⟩
  rw [← hx, ← hy] at A1 A2 P1
  rw [← hx] at e1 L1 os
  rw [← hy] at e2 L2 ot
  clear hx hy
  have h1 : ¬ (4294967295 : Int) < (a : Int) := by omega
  have h2 : ¬ (4294967295 : Int) < (b : Int) := by omega
  have h3 : ¬ (4294967295 : Int) < (c : Int) := by omega
  have h4 : ¬ (4294967295 : Int) < (d : Int) := by omega
  generalize lst x = x2 at *
  generalize lst y = y2 at *
  go_enter Try.func5, Try.ntmps5
  go_wp2_with (first
      | (go_at_call 6; have hcall := alive_ok w; (with_reducible refine hcall.mono ?_); clear hcall; rintro e w1 ⟨rfl, hb⟩; have B1 := Aside0.mk hb; clear hb)
      | (go_at_call 10; (with_reducible refine (OAB.out _).mono ?_); rintro e wK ⟨rfl, rfl⟩)
      | (go_at_call 10; (with_reducible refine (OCD.out _).mono ?_); rintro e wK ⟨rfl, rfl⟩)
      | (go_at_call 17; (with_reducible refine (A1.out _).mono ?_); rintro e wK ⟨rfl, rfl⟩)
      | (go_at_call 17; (with_reducible refine (A2.out _).mono ?_); rintro e wK ⟨rfl, rfl⟩)
      | (go_at_call 16; (with_reducible refine (P1.out _).mono ?_); rintro e wK ⟨rfl, rfl⟩)
      | (go_at_call 18; (with_reducible refine (L1.out _).mono ?_); rintro e wK ⟨rfl, rfl⟩)
      | (go_at_call 18; (with_reducible refine (L2.out _).mono ?_); rintro e wK ⟨rfl, rfl⟩))
  first | go_ret | go_ret2 | ((try simp only [Exit.inBlock, Exit.then]); refine bodyPost_ret (results_tmp3 rfl _ _ _) rfl ?_) | go_end0 | refine bodyPost_ret0 rfl rfl ?_
  exact ⟨rfl, B1.out⟩

set_option maxHeartbeats 8000000 in
set_option maxRecDepth 100000 in
theorem parts_out (a b c d : Int) (w : World) (h : ¬ (0 ≤ a ∧ 0 ≤ b ∧ 0 ≤ c ∧ 0 ≤ d ∧ a ≤ 4294967295 ∧ b ≤ 4294967295 ∧ c ≤ 4294967295 ∧ d ≤ 4294967295)) :
    Calls Try.prog 5 #[.int .i64 a, .int .i64 b, .int .i64 c, .int .i64 d] w fun e w' => e = .returned (.bool true) ∧ Below w.heap.size w w' := by
  by_cases h0 : a < 0
  · clear h
    go_enter Try.func5, Try.ntmps5
    go_wp2_with (first
      | (go_at_call 6; have hcall := alive_ok w; (with_reducible refine hcall.mono ?_); clear hcall; rintro e w1 ⟨rfl, hb⟩; have B1 := Aside0.mk hb; clear hb))
    first | go_ret | go_ret2 | ((try simp only [Exit.inBlock, Exit.then]); refine bodyPost_ret (results_tmp3 rfl _ _ _) rfl ?_) | go_end0 | refine bodyPost_ret0 rfl rfl ?_
    exact ⟨rfl, B1.out⟩
  by_cases h1 : b < 0
  · clear h
    go_enter Try.func5, Try.ntmps5
    go_wp2_with (first
      | (go_at_call 6; have hcall := alive_ok w; (with_reducible refine hcall.mono ?_); clear hcall; rintro e w1 ⟨rfl, hb⟩; have B1 := Aside0.mk hb; clear hb))
    first | go_ret | go_ret2 | ((try simp only [Exit.inBlock, Exit.then]); refine bodyPost_ret (results_tmp3 rfl _ _ _) rfl ?_) | go_end0 | refine bodyPost_ret0 rfl rfl ?_
    exact ⟨rfl, B1.out⟩
  by_cases h2 : c < 0
  · clear h
    go_enter Try.func5, Try.ntmps5
    go_wp2_with (first
      | (go_at_call 6; have hcall := alive_ok w; (with_reducible refine hcall.mono ?_); clear hcall; rintro e w1 ⟨rfl, hb⟩; have B1 := Aside0.mk hb; clear hb))
    first | go_ret | go_ret2 | ((try simp only [Exit.inBlock, Exit.then]); refine bodyPost_ret (results_tmp3 rfl _ _ _) rfl ?_) | go_end0 | refine bodyPost_ret0 rfl rfl ?_
    exact ⟨rfl, B1.out⟩
  by_cases h3 : d < 0
  · clear h
    go_enter Try.func5, Try.ntmps5
    go_wp2_with (first
      | (go_at_call 6; have hcall := alive_ok w; (with_reducible refine hcall.mono ?_); clear hcall; rintro e w1 ⟨rfl, hb⟩; have B1 := Aside0.mk hb; clear hb))
    first | go_ret | go_ret2 | ((try simp only [Exit.inBlock, Exit.then]); refine bodyPost_ret (results_tmp3 rfl _ _ _) rfl ?_) | go_end0 | refine bodyPost_ret0 rfl rfl ?_
    exact ⟨rfl, B1.out⟩
  by_cases h4 : a > 4294967295
  · clear h
    go_enter Try.func5, Try.ntmps5
    go_wp2_with (first
      | (go_at_call 6; have hcall := alive_ok w; (with_reducible refine hcall.mono ?_); clear hcall; rintro e w1 ⟨rfl, hb⟩; have B1 := Aside0.mk hb; clear hb))
    first | go_ret | go_ret2 | ((try simp only [Exit.inBlock, Exit.then]); refine bodyPost_ret (results_tmp3 rfl _ _ _) rfl ?_) | go_end0 | refine bodyPost_ret0 rfl rfl ?_
    exact ⟨rfl, B1.out⟩
  by_cases h5 : b > 4294967295
  · clear h
    go_enter Try.func5, Try.ntmps5
    go_wp2_with (first
      | (go_at_call 6; have hcall := alive_ok w; (with_reducible refine hcall.mono ?_); clear hcall; rintro e w1 ⟨rfl, hb⟩; have B1 := Aside0.mk hb; clear hb))
    first | go_ret | go_ret2 | ((try simp only [Exit.inBlock, Exit.then]); refine bodyPost_ret (results_tmp3 rfl _ _ _) rfl ?_) | go_end0 | refine bodyPost_ret0 rfl rfl ?_
    exact ⟨rfl, B1.out⟩
  by_cases h6 : c > 4294967295
  · clear h
    go_enter Try.func5, Try.ntmps5
    go_wp2_with (first
      | (go_at_call 6; have hcall := alive_ok w; (with_reducible refine hcall.mono ?_); clear hcall; rintro e w1 ⟨rfl, hb⟩; have B1 := Aside0.mk hb; clear hb))
    first | go_ret | go_ret2 | ((try simp only [Exit.inBlock, Exit.then]); refine bodyPost_ret (results_tmp3 rfl _ _ _) rfl ?_) | go_end0 | refine bodyPost_ret0 rfl rfl ?_
    exact ⟨rfl, B1.out⟩
  by_cases h7 : d > 4294967295
  · clear h
    go_enter Try.func5, Try.ntmps5
    go_wp2_with (first
      | (go_at_call 6; have hcall := alive_ok w; (with_reducible refine hcall.mono ?_); clear hcall; rintro e w1 ⟨rfl, hb⟩; have B1 := Aside0.mk hb; clear hb))
    first | go_ret | go_ret2 | ((try simp only [Exit.inBlock, Exit.then]); refine bodyPost_ret (results_tmp3 rfl _ _ _) rfl ?_) | go_end0 | refine bodyPost_ret0 rfl rfl ?_
    exact ⟨rfl, B1.out⟩
  exact absurd ⟨by omega, by omega, by omega, by omega, by omega, by omega, by omega, by omega⟩ h
theorem walk (a0 a1 a2 a3 : Int) (W : World) (w0 : (Lit.int .i64 a0).wf = true) (w1 : (Lit.int .i64 a1).wf = true) (w2 : (Lit.int .i64 a2).wf = true) (w3 : (Lit.int .i64 a3).wf = true) :
    Calls Try.prog 5 #[.int .i64 a0, .int .i64 a1, .int .i64 a2, .int .i64 a3] W fun e W' => e = .returned (.bool true) ∧ Below W.heap.size W W' := by
  by_cases h : 0 ≤ a0 ∧ 0 ≤ a1 ∧ 0 ≤ a2 ∧ 0 ≤ a3 ∧ a0 ≤ 4294967295 ∧ a1 ≤ 4294967295 ∧ a2 ≤ 4294967295 ∧ a3 ≤ 4294967295
  · obtain ⟨a, rfl⟩ : ∃ n : Nat, a0 = n := ⟨a0.toNat, by omega⟩
    obtain ⟨b, rfl⟩ : ∃ n : Nat, a1 = n := ⟨a1.toNat, by omega⟩
    obtain ⟨c, rfl⟩ : ∃ n : Nat, a2 = n := ⟨a2.toNat, by omega⟩
    obtain ⟨d, rfl⟩ : ∃ n : Nat, a3 = n := ⟨a3.toNat, by omega⟩
    exact parts_in a b c d (by omega) (by omega) (by omega) (by omega) W
  · exact parts_out a0 a1 a2 a3 W h

end Go.Proofs.Ytoaoebkllcmanaa.TcPartsW
