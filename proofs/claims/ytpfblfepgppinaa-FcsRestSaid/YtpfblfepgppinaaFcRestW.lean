/- Over bytes with their sum behind them each sum comes to one number: the walk. -/
import Derived.Test.YtpfblfepgppinaaFcC
namespace Go.Proofs.Ytpfblfepgppinaa.FcRestW
open Go.RowKit Go.Proofs.YtpfblfepgppinaaW.PrintWords Go.Proofs.YtpfblfepgppinaaW.PrintLast Go.Proofs.YtpfblfepgppinaaW.PrintMore Go.Proofs.Ytpfblfepgppinaa.K Go.Proofs.Ytpfblfepgppinaa.FcP Go.Proofs.Ytpfblfepgppinaa.FcA Go.Proofs.Ytpfblfepgppinaa.FcB Go.Proofs.Ytpfblfepgppinaa.FcC
set_option linter.unusedVariables false
set_option linter.unusedSimpArgs false
attribute [local go_sem] max2_int min2_int max_two min_two

theorem sizeT_le (b : Bool) : sizeT b ≤ 4 := by unfold sizeT; split <;> omega
theorem nat_append (l m : List Int) : nat (l ++ m) = nat l ++ nat m := by simp [nat]
theorem nat_byi (n x : Nat) : nat (byi n x) = bys n x := by
  unfold nat byi
  rw [List.map_map]
  conv => rhs; rw [← List.map_id (bys n x)]
  apply List.map_congr_left
  intro c _
  rfl
theorem rest_s (l : List Int) (hl : ∀ x ∈ l, 0 ≤ x ∧ x ≤ 255) : shortN (l ++ byi 2 (shortN l)) = com 16 (it 33800 16 65535) := by
  have h := (rest_iff 33800 15 2 (by decide) (by decide) (by decide) (by decide) (nat l) (bys 2 (sumN 33800 16 (nat l))) (nat_lt hl) (bys_lt 2 _) (bys_len 2 _)).2 rfl
  unfold shortN at *
  rw [nat_append, nat_byi]
  unfold sumN at h ⊢
  exact congrArg (com 16) h
theorem rest_l (l : List Int) (hl : ∀ x ∈ l, 0 ≤ x ∧ x ≤ 255) : longN (l ++ byi 4 (longN l)) = com 32 (it 3988292384 32 4294967295) := by
  have h := (rest_iff 3988292384 31 4 (by decide) (by decide) (by decide) (by decide) (nat l) (bys 4 (sumN 3988292384 32 (nat l))) (nat_lt hl) (bys_lt 4 _) (bys_len 4 _)).2 rfl
  unfold longN at *
  rw [nat_append, nat_byi]
  unfold sumN at h ⊢
  exact congrArg (com 32) h
theorem both_b {l m : List Int} (h1 : ∀ x ∈ l, 0 ≤ x ∧ x ≤ 255) (h2 : ∀ x ∈ m, 0 ≤ x ∧ x ≤ 255) : ∀ x ∈ l ++ m, 0 ≤ x ∧ x ≤ 255 := by
  intro x hx
  rcases List.mem_append.1 hx with h | h
  · exact h1 x h
  · exact h2 x h
theorem rds_nil8 (w : World) : Rds (Kd.int .u8) w none 0 0 [] := ⟨(Own.nil (Kd.int .u8) 5 0 w).rds.row, rfl, Nat.le_refl _⟩
/-- Short of what Put makes, Long of what Put makes. -/
theorem short_put (A : Option Addr) (n c : Nat) (l : List Int) (w : World) (hl : ∀ x ∈ l, 0 ≤ x ∧ x ≤ 255) (hn : n ≤ 200000) (hr : Rds (Kd.int .u8) w A n c (l ++ tailL l false)) :
    Calls Try.prog 10 #[.slice A n c] w fun e w' => e = .returned (.int .u16 ((com 16 (it 33800 16 65535) : Nat) : Int)) ∧ w = w' := by
  have h := short_ok A n c _ w hr (both_b hl (tailL_b l false)) (by omega)
  rw [show tailL l false = byi 2 (shortN l) from rfl, rest_s l hl] at h
  exact h
theorem long_put (A : Option Addr) (n c : Nat) (l : List Int) (w : World) (hl : ∀ x ∈ l, 0 ≤ x ∧ x ≤ 255) (hn : n ≤ 200000) (hr : Rds (Kd.int .u8) w A n c (l ++ tailL l true)) :
    Calls Try.prog 11 #[.slice A n c] w fun e w' => e = .returned (.int .u32 ((com 32 (it 3988292384 32 4294967295) : Nat) : Int)) ∧ w = w' := by
  have h := long_ok A n c _ w hr (both_b hl (tailL_b l true)) (by omega)
  rw [show tailL l true = byi 4 (longN l) from rfl, rest_l l hl] at h
  exact h

set_option maxHeartbeats 8000000 in
set_option maxRecDepth 100000 in
theorem rest_in (A : Option Addr) (n c : Nat) (l : List Int) (w : World) (hr : Rds (Kd.int .u8) w A n c l) (hl : ∀ x ∈ l, 0 ≤ x ∧ x ≤ 255) (hn : n ≤ 300) :
    Calls Try.prog 5 #[.slice A n c] w fun e w' => e = .returned (.bool true) ∧ Below w.heap.size w w' := by
  have HR := Aside0.mk hr
  have HL := Aside0.mk hl
  have NL : Aside0 (∀ x ∈ ([] : List Int), 0 ≤ x ∧ x ≤ 255) := ⟨by simp⟩
  obtain ⟨q1, hq1⟩ : ∃ q, (l ++ tailL l false).length = q := ⟨_, rfl⟩
  obtain ⟨q2, hq2⟩ : ∃ q, (l ++ tailL l true).length = q := ⟨_, rfl⟩
  have L1 := Aside0.mk hq1
  have L2 := Aside0.mk hq2
  have L3 : Aside0 (([] ++ tailL [] false : List Int).length = 2) := ⟨by simp [tailL_len, sizeT]⟩
  have L4 : Aside0 (([] ++ tailL [] true : List Int).length = 4) := ⟨by simp [tailL_len, sizeT]⟩
  have hb1 : q1 ≤ 1000 := by rw [← hq1, List.length_append, tailL_len]; have := hr.len; have := sizeT_le false; omega
  have hb2 : q2 ≤ 1000 := by rw [← hq2, List.length_append, tailL_len]; have := hr.len; have := sizeT_le true; omega
  have SS : Aside0 (∀ (A : Option Addr) (n c : Nat) (l : List Int) (w : World), (∀ x ∈ l, 0 ≤ x ∧ x ≤ 255) → n ≤ 200000 → Rds (Kd.int .u8) w A n c (l ++ tailL l false) → Calls Try.prog 10 #[.slice A n c] w fun e w' => e = .returned (.int .u16 ((com 16 (it 33800 16 65535) : Nat) : Int)) ∧ w = w') := ⟨short_put⟩
  have LL : Aside0 (∀ (A : Option Addr) (n c : Nat) (l : List Int) (w : World), (∀ x ∈ l, 0 ≤ x ∧ x ≤ 255) → n ≤ 200000 → Rds (Kd.int .u8) w A n c (l ++ tailL l true) → Calls Try.prog 11 #[.slice A n c] w fun e w' => e = .returned (.int .u32 ((com 32 (it 3988292384 32 4294967295) : Nat) : Int)) ∧ w = w') := ⟨long_put⟩
  generalize com 16 (it 33800 16 65535) = k1 at SS
  generalize com 32 (it 3988292384 32 4294967295) = k2 at LL
  clear hr hl hq1 hq2
  go_enter Try.func5, Try.ntmps5
  go_wp2_with (first
      | (go_at_call 9; (with_reducible refine (alive_ok _).mono ?_); rintro e w1 ⟨rfl, hb1⟩; have HB1 := Aside0.mk hb1; clear hb1)
      | (go_at_call 12; have hcall := put_ok A n c l false _ (HR.out.below HB1.out) HL.out (by omega); (with_reducible refine hcall.mono ?_); clear hcall; rintro e w2 ⟨v, rfl, ho, hb⟩; obtain ⟨A2, c2, hv, _⟩ := ho.sliceN L1.out; subst hv; have O2 := Aside0.mk ho; have HB2 := Aside0.mk (below_step HB1.out hb); clear ho hb)
      | (go_at_call 10; have hcall := SS.out _ q1 _ l _ HL.out (by omega) O2.out.rds; (with_reducible refine hcall.mono ?_); clear hcall; rintro e w' ⟨rfl, rfl⟩)
      | (go_at_call 12; have hcall := put_ok none 0 0 [] false _ (rds_nil8 w2) NL.out (by omega); (with_reducible refine hcall.mono ?_); clear hcall; rintro e w3 ⟨v, rfl, ho, hb⟩; obtain ⟨A3, c3, hv, _⟩ := ho.sliceN L3.out; subst hv; have O3 := Aside0.mk ho; have HB3 := Aside0.mk (below_step HB2.out hb); clear ho hb)
      | (go_at_call 10; have hcall := SS.out _ 2 _ [] _ NL.out (by omega) O3.out.rds; (with_reducible refine hcall.mono ?_); clear hcall; rintro e w' ⟨rfl, rfl⟩)
      | (go_at_call 12; have hcall := put_ok A n c l true _ (HR.out.below HB3.out) HL.out (by omega); (with_reducible refine hcall.mono ?_); clear hcall; rintro e w4 ⟨v, rfl, ho, hb⟩; obtain ⟨A4, c4, hv, _⟩ := ho.sliceN L2.out; subst hv; have O4 := Aside0.mk ho; have HB4 := Aside0.mk (below_step HB3.out hb); clear ho hb)
      | (go_at_call 11; have hcall := LL.out _ q2 _ l _ HL.out (by omega) O4.out.rds; (with_reducible refine hcall.mono ?_); clear hcall; rintro e w' ⟨rfl, rfl⟩)
      | (go_at_call 12; have hcall := put_ok none 0 0 [] true _ (rds_nil8 w4) NL.out (by omega); (with_reducible refine hcall.mono ?_); clear hcall; rintro e w5 ⟨v, rfl, ho, hb⟩; obtain ⟨A5, c5, hv, _⟩ := ho.sliceN L4.out; subst hv; have O5 := Aside0.mk ho; have HB5 := Aside0.mk (below_step HB4.out hb); clear ho hb)
      | (go_at_call 11; have hcall := LL.out _ 4 _ [] _ NL.out (by omega) O5.out.rds; (with_reducible refine hcall.mono ?_); clear hcall; rintro e w' ⟨rfl, rfl⟩))
  go_ret
  exact ⟨rfl, HB5.out⟩
set_option maxHeartbeats 8000000 in
set_option maxRecDepth 100000 in
theorem rest_long (A : Option Addr) (n c : Nat) (w : World) (hl : 300 < n) (hm : n ≤ 9223372036854775807) :
    Calls Try.prog 5 #[.slice A n c] w fun e w' => e = .returned (.bool true) ∧ Below w.heap.size w w' := by
  have h1 : (300 : Int) < (n : Int) := by omega
  clear hl
  go_enter Try.func5, Try.ntmps5
  go_wp2_with (first
      | (go_at_call 9; (with_reducible refine (alive_ok _).mono ?_); rintro e w1 ⟨rfl, hb1⟩; have HB1 := Aside0.mk hb1; clear hb1))
  go_ret
  exact ⟨rfl, HB1.out⟩
theorem walk (a0 : Option Addr) (len0 cap0 : Nat) (z0 : List Int) (W : World) (w0 : IsRow .u8 W a0 len0 cap0 z0) (_y0 : len0 * 1 ≤ 140737488351232) :
    Calls Try.prog 5 #[.slice a0 len0 cap0] W fun e w' => e = .returned (.bool true) ∧ Below W.heap.size W w' := by
  obtain ⟨l, hr, hm, hw⟩ := rds_of_row w0
  rcases Nat.lt_or_ge 300 len0 with h | h
  · exact rest_long a0 len0 cap0 W h hm
  · exact rest_in a0 len0 cap0 l W hr (fun x hx => wf_u8 (hw x hx)) h

end Go.Proofs.Ytpfblfepgppinaa.FcRestW
