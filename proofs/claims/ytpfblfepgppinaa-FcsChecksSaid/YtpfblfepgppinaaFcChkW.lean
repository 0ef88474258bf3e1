/- Which bytes have their sum behind them: the walk. -/
import Derived.Test.YtpfblfepgppinaaFcF
namespace Go.Proofs.Ytpfblfepgppinaa.FcChkW
open Go.RowKit Go.Proofs.YtpfblfepgppinaaW.PrintWords Go.Proofs.YtpfblfepgppinaaW.PrintLast Go.Proofs.YtpfblfepgppinaaW.PrintMore Go.Proofs.Ytpfblfepgppinaa.K Go.Proofs.Ytpfblfepgppinaa.FcP Go.Proofs.Ytpfblfepgppinaa.FcA Go.Proofs.Ytpfblfepgppinaa.FcB Go.Proofs.Ytpfblfepgppinaa.FcC Go.Proofs.Ytpfblfepgppinaa.FcR Go.Proofs.Ytpfblfepgppinaa.FcD Go.Proofs.Ytpfblfepgppinaa.FcE Go.Proofs.Ytpfblfepgppinaa.FcF
set_option linter.unusedVariables false
set_option linter.unusedSimpArgs false
attribute [local go_sem] max2_int min2_int max_two min_two

set_option maxHeartbeats 8000000 in
set_option maxRecDepth 100000 in
theorem num_ok (x : Int) (w : World) : Calls Try.prog 15 #[.int .i64 x] w fun e w' => e = .returned (.int .i64 x) ∧ w = w' := by
  go_enter Try.func15, Try.ntmps15
  go_wp2
  go_ret
  exact ⟨rfl, rfl⟩
theorem conv_nil (w : World) : (convert 22 9 (.slice none 0 0)).run Try.prog w = .ok (.string (strOfNums [])) w := conv22 none 0 0 [] w ⟨(Own.nil (Kd.int .u8) 5 0 w).rds.row, rfl, Nat.le_refl _⟩
set_option maxHeartbeats 8000000 in
set_option maxRecDepth 100000 in
theorem chk_in (A : Option Addr) (n c : Nat) (l : List Int) (wide : Bool) (w : World) (hr : Rds (Kd.int .u8) w A n c l) (hl : ∀ x ∈ l, 0 ≤ x ∧ x ≤ 255) (hn : n ≤ 500) :
    Calls Try.prog 6 #[.slice A n c, .bool wide] w fun e w' => e = .returned (.bool true) ∧ Below w.heap.size w w' := by
  have HR := Aside0.mk hr
  have HL := Aside0.mk hl
  have HLN := Aside0.mk hr.len.symm
  have kn := conv_nil
  clear hr hl
  by_cases hs : n < sizeT wide
  · have HS := Aside0.mk hs
    clear hs
    go_enter Try.func6, Try.ntmps6
    go_wp2_with (first
      | (go_at_call 9; (with_reducible refine (alive_ok _).mono ?_); rintro e w1 ⟨rfl, hb1⟩; have HB1 := Aside0.mk hb1; clear hb1)
      | (at_builtin; refine app_rowi Try.underlying22 info5 rfl (by decide) (.const (.slice none 0 0)) (.tmp 20) rfl rfl rfl rfl (Own.nil (Kd.int .u8) 5 w.heap.size w1) (HR.out.below HB1.out) HB1.out HB1.out.size (by simp; omega) ?_; intro v2 w2 ho hb _; obtain ⟨A2, c2, hv, _⟩ := ho.sliceN (n := n) (by simpa using HLN.out); subst hv; have O2 := Aside0.mk (show Own (Kd.int .u8) 5 w.heap.size w2 (.slice A2 n c2) l by simpa using ho); have HB2 := Aside0.mk hb; clear ho hb)
      | (go_at_call 13; have hcall := check_short A2 n c2 wide w2 HS.out; (with_reducible refine hcall.mono ?_); clear hcall; rintro e w3 ⟨rfl, hb⟩; have HB3 := Aside0.mk (below_step HB2.out hb); clear hb)
      | (go_at_call 14; have hcall := rcheck_short A n c wide w3 HS.out; (with_reducible refine hcall.mono ?_); clear hcall; rintro e w4 ⟨rfl, hb⟩; have HB4 := Aside0.mk (below_step HB3.out hb); clear hb)
      | (go_at_call 15; (with_reducible refine (num_ok _ _).mono ?_); rintro e w' ⟨rfl, rfl⟩))
    go_ret
    exact ⟨rfl, HB4.out⟩
  · obtain ⟨m, hm⟩ : ∃ m, n = m + sizeT wide := ⟨n - sizeT wide, by omega⟩
    have HM := Aside0.mk hm
    have LM : Aside0 ((l.take m).length = m) := ⟨by rw [List.length_take]; have := HLN.out; omega⟩
    clear hs hm
    by_cases he : tailL (l.take m) wide = l.drop m
    · have HE := Aside0.mk he
      clear he
      go_enter Try.func6, Try.ntmps6
      go_wp2_with (first
      | (go_at_call 9; (with_reducible refine (alive_ok _).mono ?_); rintro e w1 ⟨rfl, hb1⟩; have HB1 := Aside0.mk hb1; clear hb1)
      | (at_builtin; refine app_rowi Try.underlying22 info5 rfl (by decide) (.const (.slice none 0 0)) (.tmp 20) rfl rfl rfl rfl (Own.nil (Kd.int .u8) 5 w.heap.size w1) (HR.out.below HB1.out) HB1.out HB1.out.size (by simp; omega) ?_; intro v2 w2 ho hb _; obtain ⟨A2, c2, hv, _⟩ := ho.sliceN (n := n) (by simpa using HLN.out); subst hv; have O2 := Aside0.mk (show Own (Kd.int .u8) 5 w.heap.size w2 (.slice A2 n c2) l by simpa using ho); have HB2 := Aside0.mk hb; clear ho hb)
      | (go_at_call 13; have hcall := check_good A2 n c2 m l wide w2 O2.out.rds HL.out (by omega) HM.out HE.out; (with_reducible refine hcall.mono ?_); clear hcall; rintro e w3 ⟨v3, rfl, ho, hb⟩; obtain ⟨A3, c3, hv3, _⟩ := ho.sliceN LM.out; subst hv3; have O3 := Aside0.mk ho; have HB3 := Aside0.mk (below_step HB2.out hb); clear hb ho)
      | (go_at_call 14; have hcall := rcheck_good A n c m l wide w3 (HR.out.below HB3.out) HL.out (by omega) HM.out HE.out; (with_reducible refine hcall.mono ?_); clear hcall; rintro e w4 ⟨v4, rfl, ho, hb⟩; obtain ⟨A4, c4, hv4, _⟩ := ho.sliceN LM.out; subst hv4; have k3 := conv22 _ _ _ _ _ (O3.out.rds.below hb); have k4 := conv22 _ _ _ _ _ ho.rds; have HB4 := Aside0.mk (below_step HB3.out hb); clear hb ho)
      | (go_at_call 15; (with_reducible refine (num_ok _ _).mono ?_); rintro e w' ⟨rfl, rfl⟩))
      go_ret
      exact ⟨rfl, HB4.out⟩
    · have HE := Aside0.mk he
      clear he
      go_enter Try.func6, Try.ntmps6
      go_wp2_with (first
      | (go_at_call 9; (with_reducible refine (alive_ok _).mono ?_); rintro e w1 ⟨rfl, hb1⟩; have HB1 := Aside0.mk hb1; clear hb1)
      | (at_builtin; refine app_rowi Try.underlying22 info5 rfl (by decide) (.const (.slice none 0 0)) (.tmp 20) rfl rfl rfl rfl (Own.nil (Kd.int .u8) 5 w.heap.size w1) (HR.out.below HB1.out) HB1.out HB1.out.size (by simp; omega) ?_; intro v2 w2 ho hb _; obtain ⟨A2, c2, hv, _⟩ := ho.sliceN (n := n) (by simpa using HLN.out); subst hv; have O2 := Aside0.mk (show Own (Kd.int .u8) 5 w.heap.size w2 (.slice A2 n c2) l by simpa using ho); have HB2 := Aside0.mk hb; clear ho hb)
      | (go_at_call 13; have hcall := check_bad A2 n c2 m l wide w2 O2.out.rds HL.out (by omega) HM.out HE.out; (with_reducible refine hcall.mono ?_); clear hcall; rintro e w3 ⟨rfl, hb⟩; have HB3 := Aside0.mk (below_step HB2.out hb); clear hb)
      | (go_at_call 14; have hcall := rcheck_bad A n c m l wide w3 (HR.out.below HB3.out) HL.out (by omega) HM.out HE.out; (with_reducible refine hcall.mono ?_); clear hcall; rintro e w4 ⟨rfl, hb⟩; have HB4 := Aside0.mk (below_step HB3.out hb); clear hb)
      | (go_at_call 15; (with_reducible refine (num_ok _ _).mono ?_); rintro e w' ⟨rfl, rfl⟩))
      go_ret
      exact ⟨rfl, HB4.out⟩
set_option maxHeartbeats 8000000 in
set_option maxRecDepth 100000 in
theorem chk_long (A : Option Addr) (n c : Nat) (wide : Bool) (w : World) (hl : 500 < n) (hm : n ≤ 9223372036854775807) :
    Calls Try.prog 6 #[.slice A n c, .bool wide] w fun e w' => e = .returned (.bool true) ∧ Below w.heap.size w w' := by
  have h1 : (500 : Int) < (n : Int) := by omega
  clear hl
  go_enter Try.func6, Try.ntmps6
  go_wp2_with (first
      | (go_at_call 9; (with_reducible refine (alive_ok _).mono ?_); rintro e w1 ⟨rfl, hb1⟩; have HB1 := Aside0.mk hb1; clear hb1))
  go_ret
  exact ⟨rfl, HB1.out⟩
theorem walk (a0 : Option Addr) (len0 cap0 : Nat) (z0 : List Int) (a1 : Bool) (W : World) (w0 : IsRow .u8 W a0 len0 cap0 z0) (_y0 : len0 * 1 ≤ 140737488351232) :
    Calls Try.prog 6 #[.slice a0 len0 cap0, .bool a1] W fun e w' => e = .returned (.bool true) ∧ Below W.heap.size W w' := by
  obtain ⟨l, hr, hm, hw⟩ := rds_of_row w0
  rcases Nat.lt_or_ge 500 len0 with h | h
  · exact chk_long a0 len0 cap0 a1 W h hm
  · exact chk_in a0 len0 cap0 l a1 W hr (fun x hx => wf_u8 (hw x hx)) h

end Go.Proofs.Ytpfblfepgppinaa.FcChkW
