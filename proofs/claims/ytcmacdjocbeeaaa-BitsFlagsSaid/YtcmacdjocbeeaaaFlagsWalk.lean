/- Stuffed bits never have six 1 side by side, are 0 or 1, and not more than each sixth one was stuffed in: for every row of bits up to 500; of a longer one nothing is asked. No condition. -/
import Derived.Test.YtcmacdjocbeeaaaBitsW6
namespace Go.Proofs.Ytcmacdjocbeeaaa.Flags3
open Go.RowKit Go.Proofs.YtcmacdjocbeeaaaW.PrintWords Go.Proofs.YtcmacdjocbeeaaaW.PrintLast Go.Proofs.YtcmacdjocbeeaaaW.PrintMore Go.Proofs.Ytcmacdjocbeeaaa.K Go.Proofs.Ytcmacdjocbeeaaa.BitsPure Go.Proofs.Ytcmacdjocbeeaaa.StuffW Go.Proofs.Ytcmacdjocbeeaaa.BitsW
set_option linter.unusedVariables false
set_option linter.unusedSimpArgs false

set_option maxHeartbeats 4000000 in
set_option maxRecDepth 100000 in
theorem flags_long (A0 : Option Addr) (n c : Nat) (w : World) (hl : 500 < n) (hn : n ≤ 9223372036854775807) :
    Calls Try.prog 3 #[.slice A0 n c] w fun e w' => e = .returned (.bool true) ∧ Below w.heap.size w w' := by
  have h1 : (500 : Int) < (n : Int) := by omega
  clear hl
  go_enter Try.func3, Try.ntmps3
  go_wp2_with (first | (go_at_call 8; refine (alive_ok _).mono ?_; rintro e w1 ⟨rfl, HB1⟩))
  go_ret
  exact ⟨rfl, HB1⟩

set_option maxHeartbeats 8000000 in
set_option maxRecDepth 100000 in
theorem flags_short (A0 : Option Addr) (n c : Nat) (b : List Int) (w : World) (hr : Rds (Kd.int .u8) w A0 n c b) (hb : bitsOk b) (hl : n ≤ 500) :
    Calls Try.prog 3 #[.slice A0 n c] w fun e w' => e = .returned (.bool true) ∧ Below w.heap.size w w' := by
  have h1 : ¬ (500 : Int) < (n : Int) := by omega
  have hlen := Aside0.mk hr.len
  have hs1 := stuffL_len b 0 (by omega)
  have hok := Aside0.mk (okRun_stuffL b 0 (by omega))
  have hbit := Aside0.mk (stuffL_bit b 0)
  generalize hS : stuffL 0 b = S at *
  have HS1 := Aside0.mk hs1
  have HSb := Aside0.mk hS
  clear hs1 hS
  go_enter Try.func3, Try.ntmps3
  go_wp2_with (first
    | (go_at_call 8; refine (alive_ok _).mono ?_; rintro e w1 ⟨rfl, HB1⟩)
    | (go_at_call 9; (with_reducible refine (stuff_ok _ _ _ b _ (hr.below HB1) hb (by have := hlen.out; omega)).mono ?_); rintro e w4 ⟨A4, c4, rfl, HO4, hn⟩; have HB4 := below_step HB1 hn; clear hn; rw [HSb.out] at HO4 ⊢))
  have hS1 := HS1.out
  have hS2 : S.length ≤ 1000 := by have := hlen.out; omega
  have hRS := HO4.rds
  clear hS1
  go_loopg [5, 6] (S.length + 1) (fun kq v5 v6 w' => ∃ (i m : Nat), v6 = .int .i64 i ∧ v5 = .int .i64 m ∧ i ≤ S.length ∧ m ≤ 5 ∧ kq = S.length + 1 - i ∧ Aside0 (okRun m (S.drop i) = true) ∧ w' = w4)
  case atStart => exact ⟨0, 0, rfl, rfl, by omega, by omega, by omega, ⟨by simpa using hok.out⟩, rfl⟩
  case round =>
    obtain ⟨i, m, rfl, rfl, hi, hm, hk, HK, rfl⟩ := hrel
    by_cases hlt : i < S.length
    · obtain ⟨ad, hA⟩ := hRS.some_at i hlt
      subst hA
      have hx := hRS.cell_int (Below.refl _ _) i hlt
      have hdr := drop_rd S i hlt
      have hbx := hbit.out (rd S i) (rd_mem S i hlt)
      have hkk := HK.out
      rw [hdr, okRun] at hkk
      have HKK := Aside0.mk hkk
      clear hkk hdr
      generalize hg : rd S i = x at *
      clear hg
      rcases hbx with rfl | rfl
      · go_wp2_with fail
        go_roundg (S.length - i)
        case measure => omega
        case rel => exact ⟨i + 1, 0, by go_num, rfl, by omega, by omega, by omega, ⟨by have := HKK.out; simpa using this⟩, rfl⟩
      · have hm5 : m < 5 := by have := HKK.out; simp at this; omega
        go_wp2_with fail
        go_roundg (S.length - i)
        case measure => omega
        case rel => exact ⟨i + 1, m + 1, by go_num, by go_num, by omega, by omega, by omega, ⟨by have := HKK.out; simp at this; exact_mod_cast this.2⟩, rfl⟩
    · have hi2 : i = S.length := by omega
      subst hi2
      have g1 : (n : Int) ≤ (S.length : Int) := by have := HS1.out; have := hlen.out; omega
      have g2 : (S.length : Int) ≤ (n : Int) + (n : Int) / 5 := by have := HS1.out; have := hlen.out; omega
      go_wp2_with fail
      go_ret
      exact ⟨rfl, HB4⟩

theorem walk (a0 : Option Addr) (len0 cap0 : Nat) (z0 : List Int) (W : World) (w0 : IsRow .u8 W a0 len0 cap0 z0) (_y0 : len0 * 1 ≤ 140737488351232) :
    Calls Try.prog 3 #[.slice a0 len0 cap0] W fun e w' => e = .returned (.bool true) ∧ Below W.heap.size W w' := by
  obtain ⟨l, hr, hm, hw⟩ := rds_of_row w0
  rcases Nat.lt_or_ge 500 len0 with h | h
  · exact flags_long a0 len0 cap0 W h hm
  · exact flags_short a0 len0 cap0 l W hr (fun x hx => wf_u8 (hw x hx)) h

end Go.Proofs.Ytcmacdjocbeeaaa.Flags3
