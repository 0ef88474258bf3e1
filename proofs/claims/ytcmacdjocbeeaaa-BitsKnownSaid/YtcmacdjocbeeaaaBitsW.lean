/- Contracts of the functions that stuff and unstuff bits, by walks. No condition but the slices' readings. -/
import Derived.Test.YtcmacdjocbeeaaaK
import Derived.Test.YtcmacdjocbeeaaaStuffWalk
import Derived.Test.YtcmacdjocbeeaaaBitsPure
namespace Go.Proofs.Ytcmacdjocbeeaaa.BitsW
open Go.RowKit Go.Proofs.YtcmacdjocbeeaaaW.PrintWords Go.Proofs.YtcmacdjocbeeaaaW.PrintLast Go.Proofs.YtcmacdjocbeeaaaW.PrintMore Go.Proofs.Ytcmacdjocbeeaaa.K Go.Proofs.Ytcmacdjocbeeaaa.BitsPure Go.Proofs.Ytcmacdjocbeeaaa.StuffW
attribute [local go_sem] max2_int min2_int max_two min_two
set_option linter.unusedVariables false
set_option linter.unusedSimpArgs false

set_option maxHeartbeats 1000000 in
set_option maxRecDepth 100000 in
theorem one_ok (b : Int) (w : World) : Calls Try.prog 20 #[.int .u8 b] w fun e w' => e = .returned (.int .u8 (one b)) ∧ w' = w := by
  by_cases h : b = 0
  · subst h
    go_enter Try.func20, Try.ntmps20
    go_wp2
    go_ret
    exact ⟨rfl, rfl⟩
  · have h2 : (b == 0) = false := beq_eq_false_iff_ne.mpr h
    have h3 : one b = 1 := by unfold one; rw [if_neg h]
    have H3 := Aside0.mk h3
    clear h h3
    go_enter Try.func20, Try.ntmps20
    go_wp2
    go_ret
    exact ⟨by rw [H3.out]; rfl, rfl⟩

theorem one_bit (b : Int) : one b = 0 ∨ one b = 1 := by unfold one; split <;> simp

set_option maxHeartbeats 4000000 in
set_option maxRecDepth 100000 in
theorem stuffref_ok (A : Option Addr) (n c : Nat) (l : List Int) (w : World) (hr : Rds (Kd.int .u8) w A n c l) (hb : bitsOk l) (hl : l.length ≤ 70368744177664) :
    Calls Try.prog 10 #[.slice A n c] w fun e w' => ∃ A1 c1, e = .returned (.slice A1 (stuffL 0 l).length c1) ∧ Own (Kd.int .u8) 5 w.heap.size w' (.slice A1 (stuffL 0 l).length c1) (stuffL 0 l) ∧ Below w.heap.size w w' := by
  obtain ⟨res, hres⟩ : ∃ res, res = stuffL 0 l := ⟨_, rfl⟩
  have hlen := (stuffL_len l 0 (by omega)).2
  rw [← hres] at hlen ⊢
  have hn := hr.len
  have hc := hr.cap
  have HS := Aside0.mk hres
  have HN := Aside0.mk hn
  have HL := Aside0.mk hlen
  have HB0 := Aside0.mk hb
  have HM := Aside0.mk hl
  clear hres hlen hn hb hl
  have hm : n ≤ 70368744177664 := by rw [HN.out]; exact HM.out
  go_enter Try.func10, Try.ntmps10
  go_wp2
  go_loopg [3, 4, 5] (n + 1) (fun kq v3 v4 v5 w' => ∃ (i m : Nat) (acc : List Int), v5 = .int .i64 i ∧ v4 = .int .i64 m ∧ i ≤ n ∧ m ≤ 4 ∧ kq = n + 1 - i ∧ Aside0 (acc ++ stuffL m (l.drop i) = res) ∧ Own (Kd.int .u8) 5 w.heap.size w' v3 acc ∧ Below w.heap.size w w')
  case atStart => exact ⟨0, 0, [], rfl, rfl, by omega, by omega, by omega, ⟨by simpa using HS.out.symm⟩, Own.nil _ _ _ _, Below.refl _ _⟩
  case round =>
    obtain ⟨i, m, acc, rfl, rfl, hi, hm4, hk, HA, HO, HB⟩ := hrel
    by_cases hlt : i < n
    · obtain ⟨ad, hA, hx⟩ := (hr.below HB).int (i : Int) (by omega) (by omega)
      subst hA
      have hbx := HB0.out (rd l i) (rd_mem l i (by have := HN.out; omega))
      have hdr := Aside0.mk (drop_rd l i (by have := HN.out; omega))
      have hacc : acc.length + 1 < 140737488355328 := by
        have h1 := congrArg List.length HA.out
        have h2 := HL.out
        have h3 := HM.out
        simp only [List.length_append] at h1
        omega
      generalize hg : rd l i = x at *
      simp only [Int.toNat_natCast] at hx
      clear hg hbx
      have HAD := Aside0.mk HA.out
      rw [hdr.out] at HAD
      by_cases h0 : x = 0
      · subst h0
        have ho : one 0 = 0 := rfl
        go_wp2_with (first | (at_builtin; refine app_int Try.underlying22 info5 rfl (by decide) (.tmp 18) (.tmp 20) rfl rfl rfl rfl HO HB HB.size (by omega) ?_; intro v1 w1 HO1 HB1 hB1) | (go_at_call 20; (with_reducible refine (one_ok _ _).mono ?_); rintro e w' ⟨rfl, rfl⟩))
        go_roundg (n - i)
        case measure => omega
        case rel => exact ⟨i + 1, 0, acc ++ [0], by go_num, rfl, by omega, by omega, by omega, ⟨by rw [← HAD.out]; simp [stuffL]⟩, HO1, HB1⟩
      · have ho : one x = 1 := by unfold one; rw [if_neg h0]
        rcases Nat.lt_or_ge m 4 with hm | hm
        · go_wp2_with (first | (at_builtin; refine app_int Try.underlying22 info5 rfl (by decide) (.tmp 18) (.tmp 20) rfl rfl rfl rfl HO HB HB.size (by omega) ?_; intro v1 w1 HO1 HB1 hB1) | (go_at_call 20; (with_reducible refine (one_ok _ _).mono ?_); rintro e w' ⟨rfl, rfl⟩))
          go_roundg (n - i)
          case measure => omega
          case rel => exact ⟨i + 1, m + 1, acc ++ [1], by go_num, by go_num, by omega, by omega, by omega, ⟨by rw [← HAD.out]; simp [stuffL, h0]; omega⟩, HO1, HB1⟩
        · obtain rfl : m = 4 := by omega
          go_wp2_with (first | (at_builtin; refine app_int Try.underlying22 info5 rfl (by decide) (.tmp 18) (.tmp 20) rfl rfl rfl rfl HO HB HB.size (by omega) ?_; intro v1 w1 HO1 HB1 hB1) | (at_builtin; refine app_int Try.underlying22 info5 rfl (by decide) (.tmp 28) (.tmp 29) rfl rfl rfl rfl HO1 HB1 hB1 (by simp; omega) ?_; intro v2 w2 HO2 HB2 hB2) | (go_at_call 20; (with_reducible refine (one_ok _ _).mono ?_); rintro e w' ⟨rfl, rfl⟩))
          go_roundg (n - i)
          case measure => omega
          case rel => exact ⟨i + 1, 0, acc ++ [1] ++ [0], by go_num, rfl, by omega, by omega, by omega, ⟨by rw [← HAD.out]; simp [stuffL, h0]⟩, HO2, HB2⟩
    · have hi2 : i = n := by omega
      subst hi2
      obtain ⟨A1, c1, rfl, hc1⟩ := HO.slice
      go_wp2_with fail
      have hfin : acc = res := by have := HA.out; rw [List.drop_eq_nil_of_le (by have := HN.out; omega)] at this; simpa [stuffL] using this
      subst hfin
      go_ret
      exact ⟨A1, c1, rfl, HO, HB⟩

set_option maxHeartbeats 4000000 in
set_option maxRecDepth 100000 in
theorem unref_ok (A : Option Addr) (n c : Nat) (l : List Int) (w : World) (hr : Rds (Kd.int .u8) w A n c l) (hb : bitsOk l) (hl : l.length ≤ 70368744177664) :
    Calls Try.prog 17 #[.slice A n c] w fun e w' => ∃ A1 c1, e = .returned (.tuple #[.slice A1 (unstuffL 0 l []).1.length c1, .int .i64 (unstuffL 0 l []).2]) ∧ Own (Kd.int .u8) 5 w.heap.size w' (.slice A1 (unstuffL 0 l []).1.length c1) (unstuffL 0 l []).1 ∧ Below w.heap.size w w' := by
  obtain ⟨res, hres⟩ : ∃ res, res = unstuffL 0 l [] := ⟨_, rfl⟩
  have hlen := unstuffL_len l 0 []
  rw [← hres] at hlen ⊢
  have hn := hr.len
  have hc := hr.cap
  have HS := Aside0.mk hres
  have HN := Aside0.mk hn
  have HL := Aside0.mk hlen
  have HB0 := Aside0.mk hb
  have HM := Aside0.mk hl
  clear hres hlen hn hb hl
  have hm : n ≤ 70368744177664 := by rw [HN.out]; exact HM.out
  go_enter Try.func17, Try.ntmps17
  go_wp2
  go_loopg [4, 5, 6] (n + 1) (fun kq v4 v5 v6 w' => ∃ (i m : Nat) (acc : List Int), v6 = .int .i64 i ∧ v5 = .int .i64 m ∧ i ≤ n ∧ m ≤ 5 ∧ kq = n + 1 - i ∧ Aside0 (acc.length ≤ i) ∧ Aside0 (unstuffL m (l.drop i) acc = res) ∧ Own (Kd.int .u8) 5 w.heap.size w' v4 acc ∧ Below w.heap.size w w')
  case atStart => exact ⟨0, 0, [], rfl, rfl, by omega, by omega, by omega, ⟨by simp⟩, ⟨by simpa using HS.out.symm⟩, Own.nil _ _ _ _, Below.refl _ _⟩
  case round =>
    obtain ⟨i, m, acc, rfl, rfl, hi, hm4, hk, HI, HA, HO, HB⟩ := hrel
    by_cases hlt : i < n
    · obtain ⟨ad, hA, hx⟩ := (hr.below HB).int (i : Int) (by omega) (by omega)
      subst hA
      have hbx := HB0.out (rd l i) (rd_mem l i (by have := HN.out; omega))
      have hdr := Aside0.mk (drop_rd l i (by have := HN.out; omega))
      have hacc : acc.length + 1 < 140737488355328 := by have := HI.out; omega
      generalize hg : rd l i = x at *
      simp only [Int.toNat_natCast] at hx
      clear hg hbx
      have HAD := Aside0.mk HA.out
      rw [hdr.out] at HAD
      by_cases h0 : x = 0
      · subst h0
        have ho : one 0 = 0 := rfl
        rcases Nat.lt_or_ge m 5 with hm5 | hm5
        · go_wp2_with (first | (at_builtin; refine app_int Try.underlying22 info5 rfl (by decide) (.tmp 23) (.tmp 25) rfl rfl rfl rfl HO HB HB.size (by omega) ?_; intro v1 w1 HO1 HB1 hB1) | (go_at_call 20; (with_reducible refine (one_ok _ _).mono ?_); rintro e w' ⟨rfl, rfl⟩))
          go_roundg (n - i)
          case measure => omega
          case rel => exact ⟨i + 1, 0, acc ++ [0], by go_num, rfl, by omega, by omega, by omega, ⟨by have := HI.out; simp; omega⟩, ⟨by rw [← HAD.out]; conv => rhs; rw [unstuffL, if_neg (by omega), if_pos rfl, ho]⟩, HO1, HB1⟩
        · obtain rfl : m = 5 := by omega
          go_wp2_with (first | (go_at_call 20; (with_reducible refine (one_ok _ _).mono ?_); rintro e w' ⟨rfl, rfl⟩))
          go_roundg (n - i)
          case measure => omega
          case rel => exact ⟨i + 1, 0, acc, by go_num, rfl, by omega, by omega, by omega, ⟨by have := HI.out; omega⟩, ⟨by rw [← HAD.out]; rw [unstuffL, if_pos rfl, if_pos rfl]⟩, HO, HB⟩
      · have ho : one x = 1 := by unfold one; rw [if_neg h0]
        rcases Nat.lt_or_ge m 5 with hm5 | hm5
        · go_wp2_with (first | (at_builtin; refine app_int Try.underlying22 info5 rfl (by decide) (.tmp 23) (.tmp 25) rfl rfl rfl rfl HO HB HB.size (by omega) ?_; intro v1 w1 HO1 HB1 hB1) | (go_at_call 20; (with_reducible refine (one_ok _ _).mono ?_); rintro e w' ⟨rfl, rfl⟩))
          go_roundg (n - i)
          case measure => omega
          case rel => exact ⟨i + 1, m + 1, acc ++ [1], by go_num, by go_num, by omega, by omega, by omega, ⟨by have := HI.out; simp; omega⟩, ⟨by rw [← HAD.out]; conv => rhs; rw [unstuffL, if_neg (by omega), if_neg h0, ho]⟩, HO1, HB1⟩
        · obtain rfl : m = 5 := by omega
          have hfin : res = ([], 4) := by rw [← HAD.out, unstuffL, if_pos rfl, if_neg h0]
          subst hfin
          go_wp2_with (first | (go_at_call 20; (with_reducible refine (one_ok _ _).mono ?_); rintro e w' ⟨rfl, rfl⟩))
          go_ret2
          exact ⟨none, 0, rfl, Own.nil _ _ _ _, HB⟩
    · have hi2 : i = n := by omega
      subst hi2
      obtain ⟨A1, c1, rfl, hc1⟩ := HO.slice
      have hfin := HA.out
      rw [List.drop_eq_nil_of_le (by have := HN.out; omega), unstuffL] at hfin
      rcases Nat.lt_or_ge m 5 with hm5 | hm5
      · rw [if_neg (by omega)] at hfin
        subst hfin
        go_wp2_with fail
        go_ret2
        exact ⟨A1, c1, rfl, HO, HB⟩
      · obtain rfl : m = 5 := by omega
        rw [if_pos rfl] at hfin
        subst hfin
        go_wp2_with fail
        go_ret2
        exact ⟨none, 0, rfl, Own.nil _ _ _ _, HB⟩

/-- What holds at a label of bits.Unstuff. -/
def UnJ (A : Option Addr) (n c : Nat) (l : List Int) (w : World) (res : List Int × Int) (N L : Nat) (a' : Act) (w' : World) : Prop :=
  ∃ (i m : Nat) (acc : List Int) (v4 u7 u8 u9 u10 u11 u12 u13 u14 u15 u16 u17 u18 u19 u20 u21 u22 u23 u24 u25 u26 u27 u28 u29 u30 u31 u32 u33 u34 u35 u36 u37 u38 u39 u40 : Value), a' = { tmps := #[.slice A n c, undef, .slice none 0 0, .int .i64 0, v4, .int .i64 i, .int .i64 m, u7, u8, u9, u10, u11, u12, u13, u14, u15, u16, u17, u18, u19, u20, u21, u22, u23, u24, u25, u26, u27, u28, u29, u30, u31, u32, u33, u34, u35, u36, u37, u38, u39, u40], defers := [] } ∧ i ≤ n ∧ m ≤ 5 ∧ N = 2 * (n - i) + (if L = 1 then 1 else 0) ∧ (L = 1 ∨ L = 0 ∧ m = 5) ∧ acc.length ≤ i ∧ unstuffL m (l.drop i) acc = res ∧ Own (Kd.int .u8) 5 w.heap.size w' v4 acc ∧ Below w.heap.size w w'

set_option maxHeartbeats 4000000 in
set_option maxRecDepth 100000 in
theorem unstuff_ok (A : Option Addr) (n c : Nat) (l : List Int) (w : World) (hr : Rds (Kd.int .u8) w A n c l) (hb : bitsOk l) (hl : l.length ≤ 70368744177664) :
    Calls Try.prog 11 #[.slice A n c] w fun e w' => ∃ A1 c1, e = .returned (.tuple #[.slice A1 (unstuffL 0 l []).1.length c1, .int .i64 (unstuffL 0 l []).2]) ∧ Own (Kd.int .u8) 5 w.heap.size w' (.slice A1 (unstuffL 0 l []).1.length c1) (unstuffL 0 l []).1 ∧ Below w.heap.size w w' := by
  obtain ⟨res, hres⟩ : ∃ res, res = unstuffL 0 l [] := ⟨_, rfl⟩
  have hlen := unstuffL_len l 0 []
  rw [← hres] at hlen ⊢
  have hn := hr.len
  have hc := hr.cap
  have HS := Aside0.mk hres
  have HN := Aside0.mk hn
  have HL := Aside0.mk hlen
  have HB0 := Aside0.mk hb
  have HM := Aside0.mk hl
  clear hres hlen hn hb hl
  have hm : n ≤ 70368744177664 := by rw [HN.out]; exact HM.out
  go_enter Try.func11, Try.ntmps11
  go_wp2
  refine wp_scope_labels (UnJ A n c l w res) ?_ ?_
  · go_wp2
    go_step3
    have HO : Own (Kd.int .u8) 5 w.heap.size w (.slice none 0 0) [] := Own.nil _ _ _ _
    have HB := Below.refl w.heap.size w
    rcases Nat.eq_zero_or_pos n with hz | hlt
    · subst hz
      have hfin := HS.out
      rw [show l = [] from List.eq_nil_of_length_eq_zero HN.out.symm, unstuffL, if_neg (by omega)] at hfin
      subst hfin
      go_wp2_with fail
      go_ret2
      exact ⟨none, 0, rfl, HO, HB⟩
    · obtain ⟨ad, hA⟩ := hr.some_at 0 hlt
      subst hA
      have hx := hr.cell_int HB 0 hlt
      rw [show ad.add 0 = ad from rfl] at hx
      have hdr := drop_rd l 0 (by have := HN.out; omega)
      have hbx := HB0.out (rd l ((0 : Nat) : Int)) (rd_mem l 0 (by have := HN.out; omega))
      have HAD := HS.out
      rw [← List.drop_zero (l := l), hdr, unstuffL, if_neg (by omega)] at HAD
      have HAD' := Aside0.mk HAD
      clear HAD hdr
      generalize hg : rd l ((0 : Nat) : Int) = x at *
      have HG := Aside0.mk hg
      clear hg
      obtain ⟨hb0, hb1⟩ := hbx
      by_cases h0 : x = 0
      · subst h0
        have hc0 : countOf 0 0 = 0 := rfl
        go_wp2_with (first | (at_builtin; refine app_int Try.underlying22 info5 rfl (by decide) (.tmp 14) (.tmp 20) rfl rfl rfl rfl HO HB HB.size (by simp) ?_; intro v1 w1 HO1 HB1 hB1; have hx1 := hr.cell_int HB1 0 hlt; rw [show ad.add 0 = ad from rfl, HG.out] at hx1) | (go_at_call 19; (with_reducible refine (count_ok _ _ _ (by omega) (by omega)).mono ?_); rintro e w' ⟨rfl, rfl⟩))
        go_step3
        exact ⟨2 * (n - 1) + 1, 1, 0, [0], _, _, _, _, _, _, _, _, _, _, _, _, _, _, _, _, _, _, _, _, _, _, _, _, _, _, _, _, _, _, _, _, _, _, _, rfl, by omega, by omega, by simp, .inl rfl, by simp, by have := HAD'.out; simpa [one] using this.symm, HO1, HB1⟩
      · have hone : (if 1 < x then 1 else x) = 1 := by split <;> omega
        have hc1 : countOf 0 x = 1 := by unfold countOf; rw [if_neg h0]; omega
        go_wp2_with (first | (at_builtin; refine app_int Try.underlying22 info5 rfl (by decide) (.tmp 14) (.tmp 20) rfl rfl rfl rfl HO HB HB.size (by simp) ?_; intro v1 w1 HO1 HB1 hB1; have hx1 := hr.cell_int HB1 0 hlt; rw [show ad.add 0 = ad from rfl, HG.out] at hx1) | (go_at_call 19; (with_reducible refine (count_ok _ _ _ (by omega) (by omega)).mono ?_); rintro e w' ⟨rfl, rfl⟩))
        go_step3
        exact ⟨2 * (n - 1) + 1, 1, 1, [1], _, _, _, _, _, _, _, _, _, _, _, _, _, _, _, _, _, _, _, _, _, _, _, _, _, _, _, _, _, _, _, _, _, _, _, rfl, by omega, by omega, by simp, .inl rfl, by simp, by have := HAD'.out; simpa [one, h0] using this.symm, HO1, HB1⟩
  · rintro N L a' w' ⟨i, m, acc, v4, u7, u8, u9, u10, u11, u12, u13, u14, u15, u16, u17, u18, u19, u20, u21, u22, u23, u24, u25, u26, u27, u28, u29, u30, u31, u32, u33, u34, u35, u36, u37, u38, u39, u40, rfl, hi, hm4, hNN, hL, hacc, hA, HO, HB⟩
    have HA := Aside0.mk hA
    clear hA
    rcases hL with rfl | ⟨rfl, rfl⟩
    · refine ⟨_, rfl, ?_⟩
      simp only [if_true] at hNN
      by_cases hm5 : m = 5
      · subst hm5
        go_wp2_with fail
        go_step3
        exact ⟨2 * (n - i), by omega, i, 5, acc, _, _, _, _, _, _, _, _, _, _, _, _, _, _, _, _, _, _, _, _, _, _, _, _, _, _, _, _, _, _, _, _, _, _, _, rfl, hi, by omega, by simp, .inr ⟨rfl, rfl⟩, hacc, HA.out, HO, HB⟩
      · by_cases hlt : i < n
        · obtain ⟨ad, hA⟩ := hr.some_at i hlt
          subst hA
          have hx := hr.cell_int HB i hlt
          have hdr := Aside0.mk (drop_rd l i (by have := HN.out; omega))
          have hbx := HB0.out (rd l i) (rd_mem l i (by have := HN.out; omega))
          have hle := HM.out
          have hln := HN.out
          clear hln
          generalize hg : rd l i = x at *
          have HG := Aside0.mk hg
          clear hg
          have HAD := HA.out
          rw [hdr.out, unstuffL, if_neg hm5] at HAD
          have HAD' := Aside0.mk HAD
          clear HAD
          obtain ⟨hb0, hb1⟩ := hbx
          by_cases h0 : x = 0
          · subst h0
            have hc0 : countOf m 0 = 0 := rfl
            go_wp2_with (first | (at_builtin; refine app_int Try.underlying22 info5 rfl (by decide) (.tmp 14) (.tmp 20) rfl rfl rfl rfl HO HB HB.size (by omega) ?_; intro v1 w1 HO1 HB1 hB1; have hx1 := hr.cell_int HB1 i hlt; rw [HG.out] at hx1) | (go_at_call 19; (with_reducible refine (count_ok _ _ _ (by omega) (by omega)).mono ?_); rintro e w' ⟨rfl, rfl⟩))
            go_step3
            exact ⟨2 * (n - (i + 1)) + 1, by omega, i + 1, 0, acc ++ [0], _, _, _, _, _, _, _, _, _, _, _, _, _, _, _, _, _, _, _, _, _, _, _, _, _, _, _, _, _, _, _, _, _, _, _, rfl, by omega, by omega, by simp, .inl rfl, by simp; omega, by have := HAD'.out; simpa [one] using this, HO1, HB1⟩
          · have hone : (if 1 < x then 1 else x) = 1 := by split <;> omega
            have hc1 : countOf m x = ((m + 1 : Nat) : Int) := by unfold countOf; rw [if_neg h0]; omega
            go_wp2_with (first | (at_builtin; refine app_int Try.underlying22 info5 rfl (by decide) (.tmp 14) (.tmp 20) rfl rfl rfl rfl HO HB HB.size (by omega) ?_; intro v1 w1 HO1 HB1 hB1; have hx1 := hr.cell_int HB1 i hlt; rw [HG.out] at hx1) | (go_at_call 19; (with_reducible refine (count_ok _ _ _ (by omega) (by omega)).mono ?_); rintro e w' ⟨rfl, rfl⟩))
            go_step3
            exact ⟨2 * (n - (i + 1)) + 1, by omega, i + 1, m + 1, acc ++ [1], _, _, _, _, _, _, _, _, _, _, _, _, _, _, _, _, _, _, _, _, _, _, _, _, _, _, _, _, _, _, _, _, _, _, _, rfl, by omega, by omega, by simp, .inl rfl, by simp; omega, by have := HAD'.out; simpa [one, h0] using this, HO1, HB1⟩
        · have hi2 : i = n := by omega
          subst hi2
          obtain ⟨A1, c1, rfl, hc1⟩ := HO.slice
          have hfin := HA.out
          rw [List.drop_eq_nil_of_le (by have := HN.out; omega), unstuffL, if_neg hm5] at hfin
          subst hfin
          go_wp2_with fail
          go_ret2
          exact ⟨A1, c1, rfl, HO, HB⟩

    · refine ⟨_, rfl, ?_⟩
      by_cases hlt : i < n
      · obtain ⟨ad, hA⟩ := hr.some_at i hlt
        subst hA
        have hx := hr.cell_int HB i hlt
        have hdr := drop_rd l i (by have := HN.out; omega)
        have HAD := HA.out
        rw [hdr, unstuffL, if_pos rfl] at HAD
        have hle := HM.out
        clear hdr
        generalize hg : rd l i = x at *
        clear hg
        by_cases h0 : x = 0
        · subst h0
          rw [if_pos rfl] at HAD
          have HAD' := Aside0.mk HAD
          clear HAD
          go_wp2_with fail
          go_step3
          exact ⟨2 * (n - (i + 1)) + 1, by simp at hNN; omega, i + 1, 0, acc, _, _, _, _, _, _, _, _, _, _, _, _, _, _, _, _, _, _, _, _, _, _, _, _, _, _, _, _, _, _, _, _, _, _, _, rfl, by omega, by omega, by simp, .inl rfl, by omega, HAD'.out, HO, HB⟩
        · rw [if_neg h0] at HAD
          subst HAD
          have h1 : (x != 0) = true := by simp [h0]
          go_wp2_with fail
          go_ret2
          exact ⟨none, 0, rfl, Own.nil _ _ _ _, HB⟩
      · have hi2 : i = n := by omega
        subst hi2
        have hfin := HA.out
        rw [List.drop_eq_nil_of_le (by have := HN.out; omega), unstuffL, if_pos rfl] at hfin
        subst hfin
        go_wp2_with fail
        go_ret2
        exact ⟨none, 0, rfl, Own.nil _ _ _ _, HB⟩

end Go.Proofs.Ytcmacdjocbeeaaa.BitsW
