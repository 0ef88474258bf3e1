/- Stuffing adds one octet for each Flag and each Escape: for every octets up to 500; of longer ones nothing is asked. No condition. -/
import Derived.Test.YtlohfdmaeopdeaaOctW3
namespace Go.Proofs.Ytlohfdmaeopdeaa.Cn6
open Go.RowKit Go.Proofs.YtlohfdmaeopdeaaW.PrintWords Go.Proofs.YtlohfdmaeopdeaaW.PrintLast Go.Proofs.YtlohfdmaeopdeaaW.PrintMore Go.Proofs.Ytlohfdmaeopdeaa.K Go.Proofs.Ytlohfdmaeopdeaa.OctPure Go.Proofs.Ytlohfdmaeopdeaa.OctW
set_option linter.unusedVariables false
set_option linter.unusedSimpArgs false

set_option maxHeartbeats 8000000 in
set_option maxRecDepth 100000 in
theorem cn_long (A0 : Option Addr) (n c : Nat) (w : World) (hl : 500 < n) (hn : n ≤ 9223372036854775807) :
    Calls Try.prog 6 #[.slice A0 n c] w fun e w' => e = .returned (.bool true) ∧ Below w.heap.size w w' := by
  have h1 : (500 : Int) < (n : Int) := by omega
  clear hl
  go_enter Try.func6, Try.ntmps6
  go_wp2_with (first | (go_at_call 8; refine (alive_ok _).mono ?_; rintro e w1 ⟨rfl, HB1⟩))
  go_ret
  exact ⟨rfl, HB1⟩

set_option maxHeartbeats 8000000 in
set_option maxRecDepth 100000 in
theorem cn_short (A0 : Option Addr) (n c : Nat) (b : List Int) (w : World) (hr : Rds (Kd.int .u8) w A0 n c b) (hb : octOk b) (hl : n ≤ 500) :
    Calls Try.prog 6 #[.slice A0 n c] w fun e w' => e = .returned (.bool true) ∧ Below w.heap.size w w' := by
  have h1 : ¬ (500 : Int) < (n : Int) := by omega
  have hlen := Aside0.mk hr.len
  have HCN := Aside0.mk (stuffO_count b)
  go_enter Try.func6, Try.ntmps6
  go_wp2_with (first
    | (go_at_call 8; refine (alive_ok _).mono ?_; rintro e w1 ⟨rfl, HB1⟩))
  have HSP : Aside0 (special b ≤ 500) := ⟨by have := (stuffO_len b).2; have := HCN.out; have := hlen.out; omega⟩
  go_loopg [4, 5] (n + 1) (fun kq v4 v5 w' => ∃ (i m : Nat), v5 = .int .i64 i ∧ v4 = .int .i64 m ∧ i ≤ n ∧ m ≤ 1000 ∧ kq = n + 1 - i ∧ Aside0 (m + special (b.drop i) = n + special b) ∧ w' = w1)
  case atStart => exact ⟨0, n, rfl, rfl, by omega, by omega, by omega, ⟨by simp⟩, rfl⟩
  case round =>
    obtain ⟨i, m, rfl, rfl, hi, hm, hk, HA, rfl⟩ := hrel
    by_cases hlt : i < n
    · obtain ⟨ad, hA⟩ := hr.some_at i hlt
      subst hA
      have hx := hr.cell_int HB1 i hlt
      have hdr := drop_rd b i (by have := hlen.out; omega)
      have HAD := HA.out
      rw [hdr, special] at HAD
      have hmb : m + 1 ≤ 1000 ∨ ¬ (rd b i = 126 ∨ rd b i = 125) := by
        by_cases hq : rd b i = 126 ∨ rd b i = 125
        · left
          rw [if_pos hq] at HAD
          have := HSP.out
          omega
        · exact .inr hq
      have HAD' := Aside0.mk HAD
      clear HAD hdr
      generalize hg : rd b i = x at *
      clear hg
      by_cases h0 : x = 126
      · subst h0
        have hm2 : m + 1 ≤ 1000 := by rcases hmb with h | h <;> omega
        clear hmb
        go_wp2_with fail
        go_roundg (n - i)
        case measure => omega
        case rel => exact ⟨i + 1, m + 1, by go_num, by go_num, by omega, by omega, by omega, ⟨by have := HAD'.out; simp at this; omega⟩, rfl⟩
      · by_cases h2 : x = 125
        · subst h2
          have hm2 : m + 1 ≤ 1000 := by rcases hmb with h | h <;> omega
          clear hmb
          go_wp2_with fail
          go_roundg (n - i)
          case measure => omega
          case rel => exact ⟨i + 1, m + 1, by go_num, by go_num, by omega, by omega, by omega, ⟨by have := HAD'.out; simp at this; omega⟩, rfl⟩
        · have c0 : (x == 126) = false := beq_eq_false_iff_ne.mpr h0
          have c1 : (x == 125) = false := beq_eq_false_iff_ne.mpr h2
          have H0 := Aside0.mk h0
          have H2 := Aside0.mk h2
          clear hmb h0 h2
          go_wp2_with fail
          go_roundg (n - i)
          case measure => omega
          case rel => exact ⟨i + 1, m, by go_num, rfl, by omega, by omega, by omega, ⟨by have := HAD'.out; rw [if_neg (by have := H0.out; have := H2.out; omega)] at this; omega⟩, rfl⟩
    · have hi2 : i = n := by omega
      subst hi2
      have hfin : (stuffO b).length = m := by
        have h3 := HA.out
        rw [List.drop_eq_nil_of_le (by have := hlen.out; omega), special] at h3
        have h4 := HCN.out
        have h5 := hlen.out
        omega
      have hf2 : (((stuffO b).length : Int) == (m : Int)) = true := by simp [hfin]
      have HFN := Aside0.mk hfin
      clear hfin
      generalize hS : stuffO b = S at *
      have HSS := Aside0.mk hS
      clear hS
      go_wp2_with (first
        | (go_at_call 9; (with_reducible refine (stuff_ok _ _ _ b _ (hr.below HB1) (by have := hlen.out; omega)).mono ?_); rintro e w4 ⟨A4, c4, rfl, HO4, hn⟩; have HB4 := below_step HB1 hn; clear hn; rw [HSS.out]))
      go_ret
      exact ⟨rfl, HB4⟩

theorem walk (a0 : Option Addr) (len0 cap0 : Nat) (z0 : List Int) (W : World) (w0 : IsRow .u8 W a0 len0 cap0 z0) (_y0 : len0 * 1 ≤ 140737488351232) :
    Calls Try.prog 6 #[.slice a0 len0 cap0] W fun e w' => e = .returned (.bool true) ∧ Below W.heap.size W w' := by
  obtain ⟨l, hr, hm, hw⟩ := rds_of_row w0
  rcases Nat.lt_or_ge 500 len0 with h | h
  · exact cn_long a0 len0 cap0 W h hm
  · exact cn_short a0 len0 cap0 l W hr (fun x hx => wf_u8 (hw x hx)) h

end Go.Proofs.Ytlohfdmaeopdeaa.Cn6
