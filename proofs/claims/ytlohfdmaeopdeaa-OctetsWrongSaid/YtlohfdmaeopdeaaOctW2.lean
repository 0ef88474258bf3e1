/- Contracts of the functions that unstuff octets, by walks. No condition but the slices' readings. -/
import Derived.Test.YtlohfdmaeopdeaaOctW
namespace Go.Proofs.Ytlohfdmaeopdeaa.OctW
open Go.RowKit Go.Proofs.YtlohfdmaeopdeaaW.PrintWords Go.Proofs.YtlohfdmaeopdeaaW.PrintLast Go.Proofs.YtlohfdmaeopdeaaW.PrintMore Go.Proofs.Ytlohfdmaeopdeaa.K Go.Proofs.Ytlohfdmaeopdeaa.OctPure
set_option linter.unusedVariables false
set_option linter.unusedSimpArgs false

/-- What holds at a label of octets.Unstuff. -/
def UnJ (A : Option Addr) (n c : Nat) (l : List Int) (w : World) (res : List Int × Int) (N L : Nat) (a' : Act) (w' : World) : Prop :=
  ∃ (i : Nat) (acc : List Int) (v4 u6 u7 u8 u9 u10 u11 u12 u13 u14 u15 u16 u17 u18 u19 u20 u21 u22 u23 u24 u25 u26 u27 u28 u29 u30 u31 u32 u33 u34 u35 u36 u37 u38 u39 u40 u41 u42 u43 u44 u45 u46 u47 u48 u49 u50 : Value), a' = { tmps := #[.slice A n c, undef, .slice none 0 0, .int .i64 0, v4, .int .i64 i, u6, u7, u8, u9, u10, u11, u12, u13, u14, u15, u16, u17, u18, u19, u20, u21, u22, u23, u24, u25, u26, u27, u28, u29, u30, u31, u32, u33, u34, u35, u36, u37, u38, u39, u40, u41, u42, u43, u44, u45, u46, u47, u48, u49, u50], defers := [] } ∧ i ≤ n ∧ N = n + 1 - i ∧ acc.length ≤ i ∧ ((L = 0 ∧ unO false (l.drop i) acc = res) ∨ (L = 1 ∧ unO true (l.drop i) acc = res)) ∧ Own (Kd.int .u8) 5 w.heap.size w' v4 acc ∧ Below w.heap.size w w'

set_option maxHeartbeats 8000000 in
set_option maxRecDepth 100000 in
theorem unstuff_ok (A : Option Addr) (n c : Nat) (l : List Int) (w : World) (hr : Rds (Kd.int .u8) w A n c l) (hl : l.length ≤ 35184372088832) :
    Calls Try.prog 10 #[.slice A n c] w fun e w' => ∃ A1 c1, e = .returned (.tuple #[.slice A1 (unO false l []).1.length c1, .int .i64 (unO false l []).2]) ∧ Own (Kd.int .u8) 5 w.heap.size w' (.slice A1 (unO false l []).1.length c1) (unO false l []).1 ∧ Below w.heap.size w w' := by
  obtain ⟨res, hres⟩ : ∃ res, res = unO false l [] := ⟨_, rfl⟩
  rw [← hres]
  have hc := hr.cap
  have HS := Aside0.mk hres
  have HN := Aside0.mk hr.len
  have hm : n ≤ 35184372088832 := by rw [HN.out]; exact hl
  clear hres hl
  go_enter Try.func10, Try.ntmps10
  go_wp2
  refine wp_scope_labels (UnJ A n c l w res) ?_ ?_
  · go_wp2
    go_step3
    have HO : Own (Kd.int .u8) 5 w.heap.size w (.slice none 0 0) [] := Own.nil _ _ _ _
    have HB := Below.refl w.heap.size w
    rcases Nat.eq_zero_or_pos n with hz | hlt
    · subst hz
      have hfin := HS.out
      rw [show l = [] from List.eq_nil_of_length_eq_zero HN.out.symm, unO] at hfin
      subst hfin
      go_wp2_with fail
      (try rw [jumps_ret])
      go_ret2
      exact ⟨none, 0, rfl, HO, HB⟩
    · obtain ⟨ad, hA⟩ := hr.some_at 0 hlt
      subst hA
      have hx := hr.cell_int HB 0 hlt
      rw [show ad.add 0 = ad from rfl] at hx
      have hdr := drop_rd l 0 (by have := HN.out; omega)
      have HAD := HS.out
      rw [← List.drop_zero (l := l), hdr, unO] at HAD
      have HAD' := Aside0.mk HAD
      clear HAD hdr
      generalize hg : rd l ((0 : Nat) : Int) = x at *
      have HG := Aside0.mk hg
      clear hg
      by_cases h0 : x = 125
      · subst h0
        go_wp2_with fail
        go_step3
        exact ⟨n, 1, [], _, _, _, _, _, _, _, _, _, _, _, _, _, _, _, _, _, _, _, _, _, _, _, _, _, _, _, _, _, _, _, _, _, _, _, _, _, _, _, _, _, _, _, _, _, _, rfl, by omega, by omega, by simp, .inr ⟨rfl, by have := HAD'.out; simpa using this.symm⟩, HO, HB⟩
      · have c0 : (x == 125) = false := beq_eq_false_iff_ne.mpr h0
        by_cases h1 : x = 126
        · subst h1
          have hfin := HAD'.out
          rw [if_neg (by omega), if_pos rfl] at hfin
          subst hfin
          go_wp2_with fail
          (try rw [jumps_ret])
          go_ret2
          exact ⟨none, 0, rfl, HO, HB⟩
        · have c1 : (x == 126) = false := beq_eq_false_iff_ne.mpr h1
          have HAD2 := HAD'.out
          rw [if_neg h0, if_neg h1] at HAD2
          have HAD3 := Aside0.mk HAD2
          clear HAD2
          go_wp2_with (first | (at_builtin; refine app_int Try.underlying22 info5 rfl (by decide) (.tmp 23) (.tmp 28) rfl rfl rfl rfl HO HB HB.size (by simp) ?_; intro v1 w1 HO1 HB1 hB1))
          go_step3
          exact ⟨n, 1, [x], _, _, _, _, _, _, _, _, _, _, _, _, _, _, _, _, _, _, _, _, _, _, _, _, _, _, _, _, _, _, _, _, _, _, _, _, _, _, _, _, _, _, _, _, _, _, rfl, by omega, by omega, by simp, .inl ⟨rfl, by have := HAD3.out; simpa using this.symm⟩, HO1, HB1⟩
  · rintro N L a' w' ⟨i, acc, v4, u6, u7, u8, u9, u10, u11, u12, u13, u14, u15, u16, u17, u18, u19, u20, u21, u22, u23, u24, u25, u26, u27, u28, u29, u30, u31, u32, u33, u34, u35, u36, u37, u38, u39, u40, u41, u42, u43, u44, u45, u46, u47, u48, u49, u50, rfl, hi, hNN, hacc, hL, HO, HB⟩
    rcases hL with ⟨rfl, hA⟩ | ⟨rfl, hA⟩
    · refine ⟨_, rfl, ?_⟩
      have HA := Aside0.mk hA
      clear hA
      by_cases hlt : i < n
      · obtain ⟨ad, hA⟩ := hr.some_at i hlt
        subst hA
        have hx := hr.cell_int HB i hlt
        have hdr := drop_rd l i (by have := HN.out; omega)
        have HAD := HA.out
        rw [hdr, unO] at HAD
        have HAD' := Aside0.mk HAD
        clear HAD hdr
        generalize hg : rd l i = x at *
        have HG := Aside0.mk hg
        clear hg
        by_cases h0 : x = 125
        · subst h0
          go_wp2_with fail
          go_step3
          exact ⟨n - i, by omega, i + 1, acc, _, _, _, _, _, _, _, _, _, _, _, _, _, _, _, _, _, _, _, _, _, _, _, _, _, _, _, _, _, _, _, _, _, _, _, _, _, _, _, _, _, _, _, _, _, _, rfl, by omega, by omega, by omega, .inr ⟨rfl, by have := HAD'.out; simpa using this⟩, HO, HB⟩
        · have c0 : (x == 125) = false := beq_eq_false_iff_ne.mpr h0
          by_cases h1 : x = 126
          · subst h1
            have hfin := HAD'.out
            rw [if_neg (by omega), if_pos rfl] at hfin
            subst hfin
            go_wp2_with fail
            (try rw [jumps_ret])
            go_ret2
            exact ⟨none, 0, rfl, Own.nil _ _ _ _, HB⟩
          · have c1 : (x == 126) = false := beq_eq_false_iff_ne.mpr h1
            have HAD2 := HAD'.out
            rw [if_neg h0, if_neg h1] at HAD2
            have HAD3 := Aside0.mk HAD2
            clear HAD2
            go_wp2_with (first | (at_builtin; refine app_int Try.underlying22 info5 rfl (by decide) (.tmp 23) (.tmp 28) rfl rfl rfl rfl HO HB HB.size (by omega) ?_; intro v1 w1 HO1 HB1 hB1))
            go_step3
            exact ⟨n - i, by omega, i + 1, acc ++ [x], _, _, _, _, _, _, _, _, _, _, _, _, _, _, _, _, _, _, _, _, _, _, _, _, _, _, _, _, _, _, _, _, _, _, _, _, _, _, _, _, _, _, _, _, _, _, rfl, by omega, by omega, by simp; omega, .inl ⟨rfl, HAD3.out⟩, HO1, HB1⟩
      · have hi2 : i = n := by omega
        subst hi2
        obtain ⟨A1, c1, rfl, hc1⟩ := HO.slice
        have hfin := HA.out
        rw [List.drop_eq_nil_of_le (by have := HN.out; omega), unO] at hfin
        subst hfin
        go_wp2_with fail
        (try rw [jumps_ret])
        go_ret2
        exact ⟨A1, c1, rfl, HO, HB⟩
    · refine ⟨_, rfl, ?_⟩
      have HA := Aside0.mk hA
      clear hA
      by_cases hlt : i < n
      · obtain ⟨ad, hA⟩ := hr.some_at i hlt
        subst hA
        have hx := hr.cell_int HB i hlt
        have hdr := drop_rd l i (by have := HN.out; omega)
        have HAD := HA.out
        rw [hdr, unO] at HAD
        have HAD' := Aside0.mk HAD
        clear HAD hdr
        generalize hg : rd l i = x at *
        have hx32 : bits .xor .u8 x 32 = x32 x := rfl
        clear hg
        by_cases h1 : x = 126
        · subst h1
          have hfin := HAD'.out
          rw [if_pos rfl] at hfin
          subst hfin
          go_wp2_with fail
          (try rw [jumps_ret])
          go_ret2
          exact ⟨none, 0, rfl, Own.nil _ _ _ _, HB⟩
        · have c1 : (x == 126) = false := beq_eq_false_iff_ne.mpr h1
          have HAD2 := HAD'.out
          rw [if_neg h1] at HAD2
          have HAD3 := Aside0.mk HAD2
          clear HAD2
          go_wp2_with (first | (at_builtin; refine app_int Try.underlying22 info5 rfl (by decide) (.tmp 41) (.tmp 47) rfl rfl rfl rfl HO HB HB.size (by omega) ?_; intro v1 w1 HO1 HB1 hB1))
          go_step3
          exact ⟨n - i, by omega, i + 1, acc ++ [x32 x], _, _, _, _, _, _, _, _, _, _, _, _, _, _, _, _, _, _, _, _, _, _, _, _, _, _, _, _, _, _, _, _, _, _, _, _, _, _, _, _, _, _, _, _, _, _, rfl, by omega, by omega, by simp; omega, .inl ⟨rfl, HAD3.out⟩, HO1, HB1⟩
      · have hi2 : i = n := by omega
        subst hi2
        have hfin := HA.out
        rw [List.drop_eq_nil_of_le (by have := HN.out; omega), unO] at hfin
        subst hfin
        go_wp2_with fail
        (try rw [jumps_ret])
        go_ret2
        exact ⟨none, 0, rfl, Own.nil _ _ _ _, HB⟩

set_option maxHeartbeats 8000000 in
set_option maxRecDepth 100000 in
theorem unref_ok (A : Option Addr) (n c : Nat) (l : List Int) (w : World) (hr : Rds (Kd.int .u8) w A n c l) (hl : l.length ≤ 35184372088832) :
    Calls Try.prog 13 #[.slice A n c] w fun e w' => ∃ A1 c1, e = .returned (.tuple #[.slice A1 (unO false l []).1.length c1, .int .i64 (unO false l []).2]) ∧ Own (Kd.int .u8) 5 w.heap.size w' (.slice A1 (unO false l []).1.length c1) (unO false l []).1 ∧ Below w.heap.size w w' := by
  obtain ⟨res, hres⟩ : ∃ res, res = unO false l [] := ⟨_, rfl⟩
  rw [← hres]
  have hc := hr.cap
  have HS := Aside0.mk hres
  have HN := Aside0.mk hr.len
  have hm : n ≤ 35184372088832 := by rw [HN.out]; exact hl
  clear hres hl
  go_enter Try.func13, Try.ntmps13
  go_wp2
  go_loopg [4, 5] (n + 1) (fun kq v4 v5 w' => ∃ (i : Nat) (acc : List Int), v5 = .int .i64 i ∧ i ≤ n ∧ kq = n + 1 - i ∧ Aside0 (acc.length ≤ i) ∧ Aside0 (unO false (l.drop i) acc = res) ∧ Own (Kd.int .u8) 5 w.heap.size w' v4 acc ∧ Below w.heap.size w w')
  case atStart => exact ⟨0, [], rfl, by omega, by omega, ⟨by simp⟩, ⟨by simpa using HS.out.symm⟩, Own.nil _ _ _ _, Below.refl _ _⟩
  case round =>
    obtain ⟨i, acc, rfl, hi, hk, HI, HA, HO, HB⟩ := hrel
    by_cases hlt : i < n
    · obtain ⟨ad, hA⟩ := hr.some_at i hlt
      subst hA
      have hx := hr.cell_int HB i hlt
      have hdr := drop_rd l i (by have := HN.out; omega)
      have HAD := HA.out
      rw [hdr, unO] at HAD
      have HAD' := Aside0.mk HAD
      clear HAD hdr
      have hacc : acc.length + 1 < 140737488355328 := by have := HI.out; omega
      have HR2 := Aside0.mk hr
      generalize hg : rd l i = x at *
      clear hg
      by_cases h0 : x = 125
      · subst h0
        by_cases hlt2 : i + 1 < n
        · have hx2 := HR2.out.cell_int HB (i + 1) hlt2
          rw [show ad.add (i + 1) = ⟨ad.block, ad.off + (i + 1), none⟩ from rfl] at hx2
          have hdr2 := drop_rd l (i + 1) (by have := HN.out; omega)
          have HAD := HAD'.out
          rw [if_pos rfl, hdr2, unO] at HAD
          have HAD2 := Aside0.mk HAD
          clear HAD hdr2
          generalize hg : rd l ((i + 1 : Nat) : Int) = y at *
          have hx32 : bits .xor .u8 y 32 = x32 y := rfl
          clear hg
          have hne : ((i : Int) + 1 == (n : Int)) = false := beq_eq_false_iff_ne.mpr (by omega)
          by_cases h1 : y = 126
          · subst h1
            have hfin := HAD2.out
            rw [if_pos rfl] at hfin
            subst hfin
            go_wp2_with fail
            go_ret2
            exact ⟨none, 0, rfl, Own.nil _ _ _ _, HB⟩
          · have c1 : (y == 126) = false := beq_eq_false_iff_ne.mpr h1
            go_wp2_with (first | (at_builtin; refine app_int Try.underlying22 info5 rfl (by decide) (.tmp 35) (.tmp 37) rfl rfl rfl rfl HO HB HB.size (by omega) ?_; intro v1 w1 HO1 HB1 hB1))
            go_roundg (n - i - 1)
            case measure => omega
            case rel => exact ⟨i + 2, acc ++ [x32 y], by go_num, by omega, by omega, ⟨by have := HI.out; simp; omega⟩, ⟨by have := HAD2.out; rw [if_neg h1] at this; exact this⟩, HO1, HB1⟩
        · have hne : ((i : Int) + 1 == (n : Int)) = true := beq_iff_eq.mpr (by omega)
          have hfin := HAD'.out
          rw [if_pos rfl, List.drop_eq_nil_of_le (by have := HN.out; omega), unO] at hfin
          subst hfin
          go_wp2_with fail
          go_ret2
          exact ⟨none, 0, rfl, Own.nil _ _ _ _, HB⟩
      · have c0 : (x == 125) = false := beq_eq_false_iff_ne.mpr h0
        by_cases h1 : x = 126
        · subst h1
          have hfin := HAD'.out
          rw [if_neg (by omega), if_pos rfl] at hfin
          subst hfin
          go_wp2_with fail
          go_ret2
          exact ⟨none, 0, rfl, Own.nil _ _ _ _, HB⟩
        · have c1 : (x == 126) = false := beq_eq_false_iff_ne.mpr h1
          go_wp2_with (first | (at_builtin; refine app_int Try.underlying22 info5 rfl (by decide) (.tmp 35) (.tmp 37) rfl rfl rfl rfl HO HB HB.size (by omega) ?_; intro v1 w1 HO1 HB1 hB1))
          go_roundg (n - i)
          case measure => omega
          case rel => exact ⟨i + 1, acc ++ [x], by go_num, by omega, by omega, ⟨by have := HI.out; simp; omega⟩, ⟨by have := HAD'.out; rw [if_neg h0, if_neg h1] at this; exact this⟩, HO1, HB1⟩
    · have hi2 : i = n := by omega
      subst hi2
      obtain ⟨A1, c1, rfl, hc1⟩ := HO.slice
      have hfin := HA.out
      rw [List.drop_eq_nil_of_le (by have := HN.out; omega), unO] at hfin
      subst hfin
      go_wp2_with fail
      go_ret2
      exact ⟨A1, c1, rfl, HO, HB⟩

end Go.Proofs.Ytlohfdmaeopdeaa.OctW
