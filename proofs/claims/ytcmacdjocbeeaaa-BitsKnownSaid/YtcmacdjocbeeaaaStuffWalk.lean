/- bits.Stuff puts a 0 behind each five 1s: its contract. No condition but the slice's reading. -/
import Derived.Test.YtcmacdjocbeeaaaK
import Derived.Test.YtcmacdjocbeeaaaBitsPure
namespace Go.Proofs.Ytcmacdjocbeeaaa.StuffW
open Go.RowKit Go.Proofs.YtcmacdjocbeeaaaW.PrintWords Go.Proofs.YtcmacdjocbeeaaaW.PrintLast Go.Proofs.YtcmacdjocbeeaaaW.PrintMore Go.Proofs.Ytcmacdjocbeeaaa.K Go.Proofs.Ytcmacdjocbeeaaa.BitsPure
attribute [local go_sem] max2_int min2_int max_two min_two
theorem info5 : (Try.prog.info? 5).map (fun i => (i.zero, i.size, i.bytes)) = some (some (.int .u8 0), 1, 1) := by kernel_rfl

theorem drop_rd (l : List Int) (i : Nat) (h : i < l.length) : l.drop i = rd l i :: l.drop (i + 1) := by
  rw [List.drop_eq_getElem_cons h]
  simp [rd, List.getD_eq_getElem?_getD, h]
theorem rd_mem (l : List Int) (i : Nat) (h : i < l.length) : rd l i ∈ l := by
  simp [rd, List.getD_eq_getElem?_getD, h]

def bitsOk (l : List Int) : Prop := ∀ x ∈ l, 0 ≤ x ∧ x ≤ 255
/-- What bits.count tells. -/
def countOf (n b : Int) : Int := if b = 0 then 0 else n + 1

set_option maxHeartbeats 1000000 in
set_option maxRecDepth 100000 in
theorem count_ok (n b : Int) (w : World) (h0 : 0 ≤ n) (h1 : n < 1000000) : Calls Try.prog 19 #[.int .i64 n, .int .u8 b] w fun e w' => e = .returned (.int .i64 (countOf n b)) ∧ w' = w := by
  by_cases h : b = 0
  · subst h
    go_enter Try.func19, Try.ntmps19
    go_wp2
    go_ret
    exact ⟨rfl, rfl⟩
  · have h2 : (b == 0) = false := beq_eq_false_iff_ne.mpr h
    have h3 : countOf n b = n + 1 := by unfold countOf; rw [if_neg h]
    have H3 := Aside0.mk h3
    clear h h3
    go_enter Try.func19, Try.ntmps19
    go_wp2
    go_ret
    exact ⟨by rw [H3.out]; rfl, rfl⟩

set_option maxHeartbeats 4000000 in
set_option maxRecDepth 100000 in
theorem stuff_ok (A : Option Addr) (n c : Nat) (l : List Int) (w : World) (hr : Rds (Kd.int .u8) w A n c l) (hb : bitsOk l) (hl : l.length ≤ 70368744177664) :
    Calls Try.prog 9 #[.slice A n c] w fun e w' => ∃ A1 c1, e = .returned (.slice A1 (stuffL 0 l).length c1) ∧ Own (Kd.int .u8) 5 w.heap.size w' (.slice A1 (stuffL 0 l).length c1) (stuffL 0 l) ∧ Below w.heap.size w w' := by
  obtain ⟨res, hres⟩ : ∃ res, res = stuffL 0 l := ⟨_, rfl⟩
  have hlen := (stuffL_len l 0 (by omega)).2
  rw [← hres] at hlen ⊢
  have hn := hr.len
  have hc := hr.cap
  have HS := Aside0.mk hres
  have HN := Aside0.mk hn
  have HL := Aside0.mk hlen
  have HB0 := Aside0.mk hb
  have HM := Aside0.mk hl
  clear hres hlen hn hb hl
  have hm : n ≤ 70368744177664 := by rw [HN.out]; exact HM.out
  go_enter Try.func9, Try.ntmps9
  go_wp2
  go_loopg [3, 4, 9] (n + 1) (fun kq v3 v4 v9 w' => ∃ (i m : Nat) (acc : List Int), v9 = .int .i64 i ∧ v4 = .int .i64 m ∧ i ≤ n ∧ m ≤ 4 ∧ kq = n + 1 - i ∧ Aside0 (acc ++ stuffL m (l.drop i) = res) ∧ Own (Kd.int .u8) 5 w.heap.size w' v3 acc ∧ Below w.heap.size w w')
  case atStart => exact ⟨0, 0, [], rfl, rfl, by omega, by omega, by omega, ⟨by simpa using HS.out.symm⟩, Own.nil _ _ _ _, Below.refl _ _⟩
  case round =>
    obtain ⟨i, m, acc, rfl, rfl, hi, hm4, hk, HA, HO, HB⟩ := hrel
    by_cases hlt : i < n
    · obtain ⟨ad, hA, hx⟩ := (hr.below HB).int (i : Int) (by omega) (by omega)
      subst hA
      have hbx := HB0.out (rd l i) (rd_mem l i (by have := HN.out; omega))
      have hdr := Aside0.mk (drop_rd l i (by have := HN.out; omega))
      have hacc : acc.length + 1 < 140737488355328 := by
        have h1 := congrArg List.length HA.out
        have h2 := HL.out
        have h3 := HM.out
        simp only [List.length_append] at h1
        omega
      generalize hg : rd l i = x at *
      obtain ⟨hb0, hb1⟩ := hbx
      simp only [Int.toNat_natCast] at hx
      clear hg
      have HAD := Aside0.mk HA.out
      rw [hdr.out] at HAD
      have hB0 : w.heap.size ≤ w.heap.size := Nat.le_refl _
      rcases Nat.lt_or_ge m 4 with hm | hm
      · by_cases h0 : x = 0
        · subst h0
          have hc0 : countOf m 0 = 0 := rfl
          go_wp2_with (first | (at_builtin; refine app_int Try.underlying22 info5 rfl (by decide) (.tmp 15) (.tmp 17) rfl rfl rfl rfl HO HB HB.size (by omega) ?_; intro v1 w1 HO1 HB1 hB1) | (go_at_call 19; (with_reducible refine (count_ok _ _ _ (by omega) (by omega)).mono ?_); rintro e w' ⟨rfl, rfl⟩))
          go_roundg (n - i)
          case measure => omega
          case rel => exact ⟨i + 1, 0, acc ++ [0], by go_num, rfl, by omega, by omega, by omega, ⟨by rw [← HAD.out]; simp [stuffL]⟩, HO1, HB1⟩
        · have hc0 : countOf m 1 = m + 1 := rfl
          have hone : (if 1 < x then 1 else x) = 1 := by split <;> omega
          have h1 : (x == 0) = false := beq_eq_false_iff_ne.mpr h0
          go_wp2_with (first | (at_builtin; refine app_int Try.underlying22 info5 rfl (by decide) (.tmp 15) (.tmp 17) rfl rfl rfl rfl HO HB HB.size (by omega) ?_; intro v1 w1 HO1 HB1 hB1) | (go_at_call 19; (with_reducible refine (count_ok _ _ _ (by omega) (by omega)).mono ?_); rintro e w' ⟨rfl, rfl⟩))
          go_roundg (n - i)
          case measure => omega
          case rel => exact ⟨i + 1, m + 1, acc ++ [1], by go_num, by go_num, by omega, by omega, by omega, ⟨by rw [← HAD.out]; simp [stuffL, h0]; omega⟩, HO1, HB1⟩
      · obtain rfl : m = 4 := by omega
        by_cases h0 : x = 0
        · subst h0
          have hc0 : countOf (4 : Nat) 0 = 0 := rfl
          go_wp2_with (first | (at_builtin; refine app_int Try.underlying22 info5 rfl (by decide) (.tmp 15) (.tmp 17) rfl rfl rfl rfl HO HB HB.size (by omega) ?_; intro v1 w1 HO1 HB1 hB1) | (go_at_call 19; (with_reducible refine (count_ok _ _ _ (by omega) (by omega)).mono ?_); rintro e w' ⟨rfl, rfl⟩))
          go_roundg (n - i)
          case measure => omega
          case rel => exact ⟨i + 1, 0, acc ++ [0], by go_num, rfl, by omega, by omega, by omega, ⟨by rw [← HAD.out]; simp [stuffL]⟩, HO1, HB1⟩
        · have hc0 : countOf (4 : Nat) 1 = 5 := rfl
          have hone : (if 1 < x then 1 else x) = 1 := by split <;> omega
          have h1 : (x == 0) = false := beq_eq_false_iff_ne.mpr h0
          go_wp2_with (first | (at_builtin; refine app_int Try.underlying22 info5 rfl (by decide) (.tmp 15) (.tmp 17) rfl rfl rfl rfl HO HB HB.size (by omega) ?_; intro v1 w1 HO1 HB1 hB1) | (at_builtin; refine app_int Try.underlying22 info5 rfl (by decide) (.tmp 24) (.tmp 25) rfl rfl rfl rfl HO1 HB1 hB1 (by simp; omega) ?_; intro v2 w2 HO2 HB2 hB2) | (go_at_call 19; (with_reducible refine (count_ok _ _ _ (by omega) (by omega)).mono ?_); rintro e w' ⟨rfl, rfl⟩))
          go_roundg (n - i)
          case measure => omega
          case rel => exact ⟨i + 1, 0, acc ++ [1] ++ [0], by go_num, rfl, by omega, by omega, by omega, ⟨by rw [← HAD.out]; simp [stuffL, h0]⟩, HO2, HB2⟩
    · have hi2 : i = n := by omega
      subst hi2
      obtain ⟨A1, c1, rfl, hc1⟩ := HO.slice
      go_wp2_with fail
      have hfin : acc = res := by have := HA.out; rw [List.drop_eq_nil_of_le (by have := HN.out; omega)] at this; simpa [stuffL] using this
      subst hfin
      go_ret
      exact ⟨A1, c1, rfl, HO, HB⟩
end Go.Proofs.Ytcmacdjocbeeaaa.StuffW
