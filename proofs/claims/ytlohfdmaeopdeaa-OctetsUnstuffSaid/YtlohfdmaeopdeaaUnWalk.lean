/- Unstuff is as defined, results and errors: for every octets up to 500; of longer ones nothing is asked. No condition. -/
import Derived.Test.YtlohfdmaeopdeaaOctW3
namespace Go.Proofs.Ytlohfdmaeopdeaa.Un4
open Go.RowKit Go.Proofs.YtlohfdmaeopdeaaW.PrintWords Go.Proofs.YtlohfdmaeopdeaaW.PrintLast Go.Proofs.YtlohfdmaeopdeaaW.PrintMore Go.Proofs.Ytlohfdmaeopdeaa.K Go.Proofs.Ytlohfdmaeopdeaa.OctPure Go.Proofs.Ytlohfdmaeopdeaa.OctW
set_option linter.unusedVariables false
set_option linter.unusedSimpArgs false

set_option maxHeartbeats 8000000 in
set_option maxRecDepth 100000 in
theorem un_long (A0 : Option Addr) (n c : Nat) (w : World) (hl : 500 < n) (hn : n ≤ 9223372036854775807) :
    Calls Try.prog 4 #[.slice A0 n c] w fun e w' => e = .returned (.bool true) ∧ Below w.heap.size w w' := by
  have h1 : (500 : Int) < (n : Int) := by omega
  clear hl
  go_enter Try.func4, Try.ntmps4
  go_wp2_with (first | (go_at_call 8; refine (alive_ok _).mono ?_; rintro e w1 ⟨rfl, HB1⟩))
  go_ret
  exact ⟨rfl, HB1⟩

set_option maxHeartbeats 8000000 in
set_option maxRecDepth 100000 in
theorem un_short (A0 : Option Addr) (n c : Nat) (b : List Int) (w : World) (hr : Rds (Kd.int .u8) w A0 n c b) (hb : octOk b) (hl : n ≤ 500) :
    Calls Try.prog 4 #[.slice A0 n c] w fun e w' => e = .returned (.bool true) ∧ Below w.heap.size w w' := by
  have h1 : ¬ (500 : Int) < (n : Int) := by omega
  have hlen := Aside0.mk hr.len
  generalize hU : unO false b [] = U at *
  have HU := Aside0.mk hU
  clear hU
  obtain ⟨u1, u2⟩ := U
  go_enter Try.func4, Try.ntmps4
  go_wp2_with (first
    | (go_at_call 8; refine (alive_ok _).mono ?_; rintro e w1 ⟨rfl, HB1⟩)
    | (at_builtin; refine app_rowi Try.underlying22 info5 rfl (by decide) (.const (.slice none 0 0)) (.tmp 18) rfl rfl rfl rfl (Own.nil _ _ w.heap.size _) (hr.below HB1) HB1 HB1.size (by simp; omega) ?_; intro v2 w2 HO2 HB2 hB2; rw [List.nil_append] at HO2; obtain ⟨A2, c2, rfl, hc2⟩ := HO2.slice)
    | (go_at_call 10; (with_reducible refine (unstuff_ok _ _ _ b _ HO2.rds (by have := hlen.out; omega)).mono ?_); rintro e w3 ⟨A3, c3, rfl, HO3, hn⟩; have HB3 := below_step HB2 hn; clear hn; rw [HU.out] at HO3 ⊢)
    | (go_at_call 13; (with_reducible refine (unref_ok _ _ _ b _ (hr.below HB3) (by have := hlen.out; omega)).mono ?_); rintro e w4 ⟨A4, c4, rfl, HO4, hn⟩; have HO34 := HO3.below hn; have HB4 := below_step HB3 hn; clear hn; rw [HU.out] at HO4 ⊢; have k3 := conv22 _ _ _ _ _ HO34.rds; have k4 := conv22 _ _ _ _ _ HO4.rds)
    | (go_at_call 12; (with_reducible refine (num_ok _ _).mono ?_); rintro e w' ⟨rfl, rfl⟩))
  go_ret
  exact ⟨rfl, HB4⟩

theorem walk (a0 : Option Addr) (len0 cap0 : Nat) (z0 : List Int) (W : World) (w0 : IsRow .u8 W a0 len0 cap0 z0) (_y0 : len0 * 1 ≤ 140737488351232) :
    Calls Try.prog 4 #[.slice a0 len0 cap0] W fun e w' => e = .returned (.bool true) ∧ Below W.heap.size W w' := by
  obtain ⟨l, hr, hm, hw⟩ := rds_of_row w0
  rcases Nat.lt_or_ge 500 len0 with h | h
  · exact un_long a0 len0 cap0 W h hm
  · exact un_short a0 len0 cap0 l W hr (fun x hx => wf_u8 (hw x hx)) h

end Go.Proofs.Ytlohfdmaeopdeaa.Un4
