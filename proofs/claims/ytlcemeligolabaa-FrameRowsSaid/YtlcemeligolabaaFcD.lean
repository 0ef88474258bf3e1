/- Contracts of Equal, Clone, Check. -/
import Derived.Test.YtlcemeligolabaaFcR
import Derived.Lib.LazyBuf
namespace Go.Proofs.Ytlcemeligolabaa.FcD
open Go.RowKit Go.Proofs.YtlcemeligolabaaW.PrintWords Go.Proofs.YtlcemeligolabaaW.PrintLast Go.Proofs.YtlcemeligolabaaW.PrintMore Go.Proofs.Ytlcemeligolabaa.K Go.Proofs.Ytlcemeligolabaa.FcP Go.Proofs.Ytlcemeligolabaa.FcA Go.Proofs.Ytlcemeligolabaa.FcB Go.Proofs.Ytlcemeligolabaa.FcC Go.Proofs.Ytlcemeligolabaa.FcR
set_option linter.unusedVariables false
set_option linter.unusedSimpArgs false
attribute [local go_sem] max2_int min2_int max_two min_two

theorem list_eq_of_rd {l1 l2 : List Int} (h : l1.length = l2.length) (he : ∀ i : Nat, i < l1.length → rd l1 i = rd l2 i) : l1 = l2 := by
  apply List.ext_getElem h
  intro i h1 h2
  have := he i h1
  unfold rd at this
  simpa [h1, h2] using this

set_option maxHeartbeats 8000000 in
set_option maxRecDepth 100000 in
theorem equal_true (A1 A2 : Option Addr) (n1 n2 c1 c2 : Nat) (l1 l2 : List Int) (w : World) (r1 : Rds (Kd.int .u8) w A1 n1 c1 l1) (r2 : Rds (Kd.int .u8) w A2 n2 c2 l2) (h1 : n1 ≤ 9223372036854775806) (h2 : n2 ≤ 9223372036854775806) (he : l1 = l2) :
    Calls Try.prog 41 #[.slice A1 n1 c1, .slice A2 n2 c2] w fun e w' => e = .returned (.bool true) ∧ Below w.heap.size w w' := by
  have R1 := Aside0.mk r1
  have R2 := Aside0.mk r2
  obtain rfl : n1 = n2 := by rw [r1.len, r2.len, he]
  have HQ := Aside0.mk he
  clear r1 r2 he
  go_enter Try.func41, Try.ntmps41
  go_wp2
  go_loopg [5, 13] (n1 + 1) (fun kq v5 v13 w' => ∃ j : Nat, v13 = .int .i64 j ∧ j ≤ n1 ∧ kq = n1 + 1 - j ∧ Aside0 (Below w.heap.size w w') ∧ Aside0 (∀ i : Nat, i < j → rd l1 i = rd l2 i))
  case atStart => exact ⟨0, by simp, by omega, by omega, ⟨Below.refl _ _⟩, ⟨fun i hi => absurd hi (by omega)⟩⟩
  case round =>
    obtain ⟨j, rfl, hj, hkq, HB, HE⟩ := hrel
    by_cases hjl : j < n1
    · obtain ⟨a1, hA1, p0⟩ := (R1.out.below HB.out).int (j : Int) (by omega) (by omega)
      obtain ⟨a2, hA2, q0⟩ := (R2.out.below HB.out).int (j : Int) (by omega) (by omega)
      subst hA1 hA2
      simp only [Int.toNat_natCast] at p0 q0
      obtain ⟨x, hx⟩ : ∃ x, x = rd l1 j := ⟨_, rfl⟩
      obtain ⟨y, hy⟩ : ∃ y, y = rd l2 j := ⟨_, rfl⟩
      rw [← hx] at p0
      rw [← hy] at q0
      have HX := Aside0.mk hx
      have HY := Aside0.mk hy
      clear hx hy
      obtain rfl : x = y := HX.out.trans ((show rd l1 j = rd l2 j by rw [HQ.out]).trans HY.out.symm)
      go_wp2
      refine region_still (by kernel_rfl) (by kernel_rfl) ?_
      intro w3 hb3 hc3 hf3 hh3
      replace p0 := (hc3 _).trans p0
      replace q0 := (hc3 _).trans q0
      have HB3 := Aside0.mk (below_step HB.out hb3)
      clear hb3 hc3 hf3 hh3
      repeat still_step
      refine wpStill_nil ?_
      go_wp2_with fail
      go_roundg (n1 - j)
      case measure => omega
      case rel => exact ⟨j + 1, by go_num, by omega, by omega, HB3, ⟨fun i hi => by
        by_cases hij : i = j
        · subst hij; rw [← HX.out, ← HY.out]
        · exact HE.out i (by omega)⟩⟩
    · go_wp2_with fail
      go_ret
      exact ⟨rfl, HB.out⟩

set_option maxHeartbeats 8000000 in
set_option maxRecDepth 100000 in
theorem equal_false (A1 A2 : Option Addr) (n1 n2 c1 c2 : Nat) (l1 l2 : List Int) (w : World) (r1 : Rds (Kd.int .u8) w A1 n1 c1 l1) (r2 : Rds (Kd.int .u8) w A2 n2 c2 l2) (h1 : n1 ≤ 9223372036854775806) (h2 : n2 ≤ 9223372036854775806) (he : l1 ≠ l2) :
    Calls Try.prog 41 #[.slice A1 n1 c1, .slice A2 n2 c2] w fun e w' => e = .returned (.bool false) ∧ Below w.heap.size w w' := by
  have R1 := Aside0.mk r1
  have R2 := Aside0.mk r2
  by_cases hn : n1 = n2
  · subst hn
    have HNE := Aside0.mk he
    clear r1 r2 he
    go_enter Try.func41, Try.ntmps41
    go_wp2
    go_loopg [5, 13] (n1 + 1) (fun kq v5 v13 w' => ∃ j : Nat, v13 = .int .i64 j ∧ j ≤ n1 ∧ kq = n1 + 1 - j ∧ Aside0 (Below w.heap.size w w') ∧ Aside0 (∀ i : Nat, i < j → rd l1 i = rd l2 i))
    case atStart => exact ⟨0, by simp, by omega, by omega, ⟨Below.refl _ _⟩, ⟨fun i hi => absurd hi (by omega)⟩⟩
    case round =>
      obtain ⟨j, rfl, hj, hkq, HB, HE⟩ := hrel
      by_cases hjl : j < n1
      · obtain ⟨a1, hA1, p0⟩ := (R1.out.below HB.out).int (j : Int) (by omega) (by omega)
        obtain ⟨a2, hA2, q0⟩ := (R2.out.below HB.out).int (j : Int) (by omega) (by omega)
        subst hA1 hA2
        simp only [Int.toNat_natCast] at p0 q0
        obtain ⟨x, hx⟩ : ∃ x, x = rd l1 j := ⟨_, rfl⟩
        obtain ⟨y, hy⟩ : ∃ y, y = rd l2 j := ⟨_, rfl⟩
        rw [← hx] at p0
        rw [← hy] at q0
        have HX := Aside0.mk hx
        have HY := Aside0.mk hy
        clear hx hy
        by_cases hxy : x = y
        · subst hxy
          go_wp2
          refine region_still (by kernel_rfl) (by kernel_rfl) ?_
          intro w3 hb3 hc3 hf3 hh3
          replace p0 := (hc3 _).trans p0
          replace q0 := (hc3 _).trans q0
          have HB3 := Aside0.mk (below_step HB.out hb3)
          clear hb3 hc3 hf3 hh3
          repeat still_step
          refine wpStill_nil ?_
          go_wp2_with fail
          go_roundg (n1 - j)
          case measure => omega
          case rel => exact ⟨j + 1, by go_num, by omega, by omega, HB3, ⟨fun i hi => by
            by_cases hij : i = j
            · subst hij; rw [← HX.out, ← HY.out]
            · exact HE.out i (by omega)⟩⟩
        · have bx : (x != y) = true := by simp [bne, beq_eq_false_iff_ne.mpr hxy]
          have bx2 : (x == y) = false := beq_eq_false_iff_ne.mpr hxy
          clear hxy
          go_wp2
          refine region_still (by kernel_rfl) (by kernel_rfl) ?_
          intro w3 hb3 hc3 hf3 hh3
          replace p0 := (hc3 _).trans p0
          replace q0 := (hc3 _).trans q0
          have HB3 := Aside0.mk (below_step HB.out hb3)
          clear hb3 hc3 hf3 hh3
          repeat still_step
          refine wpStill_nil ?_
          go_wp2_with fail
          go_ret
          exact ⟨rfl, HB3.out⟩
      · exact absurd (list_eq_of_rd (R1.out.len ▸ R2.out.len) (fun i hi => HE.out i (by have := R1.out.len; omega))) HNE.out
  · have b1 : ((n1 : Int) != (n2 : Int)) = true := by simp [bne]; omega
    have b2 : ((n1 : Int) == (n2 : Int)) = false := by simp; omega
    clear hn he r1 r2
    go_enter Try.func41, Try.ntmps41
    go_wp2
    go_ret
    exact ⟨rfl, Below.refl _ _⟩

theorem lit08 (B : Nat) (w : World) (hB : B ≤ w.heap.size) : Own (Kd.int .u8) 5 B (w.alloc (.cells #[] 5)) (.slice (some ⟨w.heap.size, 0, none⟩) 0 0) [] := lit8 B w [] hB (by simp)
set_option maxHeartbeats 8000000 in
set_option maxRecDepth 100000 in
theorem clone_ok (A : Option Addr) (n c : Nat) (xs : List Int) (w : World) (h : Rds (Kd.int .u8) w A n c xs) (hl : n * 1 ≤ 140737488355328) :
    Calls Try.prog 42 #[.slice A n c] w fun e w' => ∃ v', e = .returned v' ∧ Own (Kd.int .u8) 5 w.heap.size w' v' xs ∧ Below w.heap.size w w' := by
  have HR := Aside0.mk h
  have HL : Aside0 ((([] : List Int).length + n) * 1 ≤ 140737488355328) := ⟨by simpa using hl⟩
  cases A with
  | none =>
    have hn : n = 0 := by
      rcases Nat.eq_zero_or_pos n with h0 | h0
      · exact h0
      · obtain ⟨ad, ha⟩ := h.some_at 0 h0
        cases ha
    subst hn
    obtain rfl : xs = [] := List.eq_nil_of_length_eq_zero h.len.symm
    clear h hl
    have hb : (binOp .eql 24 (.slice none 0 c) (.slice none 0 0)).run Try.prog w = .ok (.bool true) w := Go.run_eql_slice_nil (P := Try.prog) w 24 5 none 0 c Try.underlying24
    go_enter Try.func42, Try.ntmps42
    go_wp2
    go_ret
    exact ⟨_, rfl, Own.nil _ _ _ _, Below.refl _ _⟩
  | some ad =>
    clear h hl
    have hb : (binOp .eql 24 (.slice (some ad) n c) (.slice none 0 0)).run Try.prog w = .ok (.bool false) w := Go.run_eql_slice_nil (P := Try.prog) w 24 5 (some ad) n c Try.underlying24
    go_enter Try.func42, Try.ntmps42
    go_wp2_with (first | (at_builtin; refine app_rowi Try.underlying24 info5 rfl (by decide) (.tmp 5) (.tmp 6) rfl rfl rfl rfl (lit08 w.heap.size w (Nat.le_refl _)) (HR.out.alloc _) (below_alloc (Below.refl _ _) _) (by simp) HL.out ?_; intro v2 w2 ho hb2 _; obtain ⟨A2, c2, hv2, _⟩ := ho.sliceN (n := n) (by simp [HR.out.len]); subst hv2; have O2 := Aside0.mk (show Own (Kd.int .u8) 5 w.heap.size w2 (.slice A2 n c2) xs by simpa using ho); have B2 := Aside0.mk hb2; clear ho hb2))
    go_ret
    exact ⟨_, rfl, O2.out, B2.out⟩

end Go.Proofs.Ytlcemeligolabaa.FcD
