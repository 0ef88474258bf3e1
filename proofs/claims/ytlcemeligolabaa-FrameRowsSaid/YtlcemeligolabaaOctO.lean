/- Contracts of the functions that stuff and unstuff octets, by walks. No condition but the slices' readings. -/
import Derived.Test.YtlcemeligolabaaK
import Derived.Test.YtlcemeligolabaaOctPure
namespace Go.Proofs.Ytlcemeligolabaa.OctO
open Go.RowKit Go.Proofs.YtlcemeligolabaaW.PrintWords Go.Proofs.YtlcemeligolabaaW.PrintLast Go.Proofs.YtlcemeligolabaaW.PrintMore Go.Proofs.Ytlcemeligolabaa.K Go.Proofs.Ytlcemeligolabaa.OctPure
set_option linter.unusedVariables false
set_option linter.unusedSimpArgs false

theorem info5 : (Try.prog.info? 5).map (fun i => (i.zero, i.size, i.bytes)) = some (some (.int .u8 0), 1, 1) := by kernel_rfl
theorem drop_rd (l : List Int) (i : Nat) (h : i < l.length) : l.drop i = rd l i :: l.drop (i + 1) := by
  rw [List.drop_eq_getElem_cons h]
  simp [rd, List.getD_eq_getElem?_getD, h]
theorem rd_mem (l : List Int) (i : Nat) (h : i < l.length) : rd l i ∈ l := by
  simp [rd, List.getD_eq_getElem?_getD, h]
theorem conv24 (A : Option Addr) (n c : Nat) (xs : List Int) (w : World) (h : Rds (Kd.int .u8) w A n c xs) : (convert 24 9 (.slice A n c)).run Try.prog w = .ok (.string (strOfNums xs)) w :=
  Kd.C_string Try.underlying24 Try.underlying5 Try.underlying9 h.row
set_option maxHeartbeats 8000000 in
set_option maxRecDepth 100000 in
theorem stuff_ok (A : Option Addr) (n c : Nat) (l : List Int) (w : World) (hr : Rds (Kd.int .u8) w A n c l) (hl : l.length ≤ 35184372088832) :
    Calls Try.prog 20 #[.slice A n c] w fun e w' => ∃ A1 c1, e = .returned (.slice A1 (stuffO l).length c1) ∧ Own (Kd.int .u8) 5 w.heap.size w' (.slice A1 (stuffO l).length c1) (stuffO l) ∧ Below w.heap.size w w' := by
  obtain ⟨res, hres⟩ : ∃ res, res = stuffO l := ⟨_, rfl⟩
  have hlen := (stuffO_len l).2
  rw [← hres] at hlen ⊢
  have hc := hr.cap
  have HS := Aside0.mk hres
  have HN := Aside0.mk hr.len
  have hm : n ≤ 35184372088832 := by rw [HN.out]; exact hl
  have HL := Aside0.mk hlen
  have HM := Aside0.mk hl
  clear hres hlen hl
  go_enter Try.func20, Try.ntmps20
  go_wp2
  go_loopg [3, 8] (n + 1) (fun kq v3 v8 w' => ∃ (i : Nat) (acc : List Int), v8 = .int .i64 i ∧ i ≤ n ∧ kq = n + 1 - i ∧ Aside0 (acc ++ stuffO (l.drop i) = res) ∧ Own (Kd.int .u8) 5 w.heap.size w' v3 acc ∧ Below w.heap.size w w')
  case atStart => exact ⟨0, [], rfl, by omega, by omega, ⟨by simpa using HS.out.symm⟩, Own.nil _ _ _ _, Below.refl _ _⟩
  case round =>
    obtain ⟨i, acc, rfl, hi, hk, HA, HO, HB⟩ := hrel
    by_cases hlt : i < n
    · obtain ⟨ad, hA⟩ := hr.some_at i hlt
      subst hA
      have hx := hr.cell_int HB i hlt
      have hdr := drop_rd l i (by have := HN.out; omega)
      have hacc : acc.length + 2 < 140737488355328 := by
        have h1 := congrArg List.length HA.out
        have h2 := HL.out
        have h3 := HM.out
        simp only [List.length_append] at h1
        omega
      have HAD := HA.out
      rw [hdr] at HAD
      have HAD' := Aside0.mk HAD
      clear HAD hdr
      have HR2 := hr
      generalize hg : rd l i = x at *
      have HG := Aside0.mk hg
      clear hg
      have hx32 : bits .xor .u8 x 32 = x32 x := rfl
      have hB := HB.size
      by_cases h0 : x = 126
      · subst h0
        go_wp2_with (first
          | (at_builtin; refine app_int Try.underlying24 info5 rfl (by decide) (.tmp 18) (.tmp 19) rfl rfl rfl rfl HO HB HB.size (by omega) ?_; intro v1 w1 HO1 HB1 hB1)
          | (at_builtin; refine app_int Try.underlying24 info5 rfl (by decide) (.tmp 23) (.tmp 25) rfl rfl rfl rfl HO1 HB1 hB1 (by simp; omega) ?_; intro v2 w2 HO2 HB2 hB2))
        have HOF := HO2
        have HBF := HB2
        go_roundg (n - i)
        case measure => omega
        case rel => exact ⟨i + 1, _, by go_num, by omega, by omega, ⟨by rw [← HAD'.out]; simp [stuffO]⟩, HOF, HBF⟩
      · by_cases h1 : x = 125
        · subst h1
          go_wp2_with (first
            | (at_builtin; refine app_int Try.underlying24 info5 rfl (by decide) (.tmp 18) (.tmp 19) rfl rfl rfl rfl HO HB HB.size (by omega) ?_; intro v1 w1 HO1 HB1 hB1)
            | (at_builtin; refine app_int Try.underlying24 info5 rfl (by decide) (.tmp 23) (.tmp 25) rfl rfl rfl rfl HO1 HB1 hB1 (by simp; omega) ?_; intro v2 w2 HO2 HB2 hB2))
          have HOF := HO2
          have HBF := HB2
          go_roundg (n - i)
          case measure => omega
          case rel => exact ⟨i + 1, _, by go_num, by omega, by omega, ⟨by rw [← HAD'.out]; simp [stuffO]⟩, HOF, HBF⟩
        · have c0 : (x == 126) = false := beq_eq_false_iff_ne.mpr h0
          have c1 : (x == 125) = false := beq_eq_false_iff_ne.mpr h1
          go_wp2_with (first | (at_builtin; refine app_int Try.underlying24 info5 rfl (by decide) (.tmp 23) (.tmp 25) rfl rfl rfl rfl HO HB HB.size (by omega) ?_; intro v3 w3 HO3 HB3 hB3))
          have HOF := HO3
          have HBF := HB3
          go_roundg (n - i)
          case measure => omega
          case rel => exact ⟨i + 1, _, by go_num, by omega, by omega, ⟨by rw [← HAD'.out]; simp [stuffO, h0, h1]⟩, HOF, HBF⟩
    · have hi2 : i = n := by omega
      subst hi2
      obtain ⟨A1, c1, rfl, hc1⟩ := HO.slice
      go_wp2_with fail
      have hfin : acc = res := by have := HA.out; rw [List.drop_eq_nil_of_le (by have := HN.out; omega)] at this; simpa [stuffO] using this
      subst hfin
      go_ret
      exact ⟨A1, c1, rfl, HO, HB⟩

set_option maxHeartbeats 8000000 in
set_option maxRecDepth 100000 in
theorem stuffref_ok (A : Option Addr) (n c : Nat) (l : List Int) (w : World) (hr : Rds (Kd.int .u8) w A n c l) (hl : l.length ≤ 35184372088832) :
    Calls Try.prog 22 #[.slice A n c] w fun e w' => ∃ A1 c1, e = .returned (.slice A1 (stuffO l).length c1) ∧ Own (Kd.int .u8) 5 w.heap.size w' (.slice A1 (stuffO l).length c1) (stuffO l) ∧ Below w.heap.size w w' := by
  obtain ⟨res, hres⟩ : ∃ res, res = stuffO l := ⟨_, rfl⟩
  have hlen := (stuffO_len l).2
  rw [← hres] at hlen ⊢
  have hc := hr.cap
  have HS := Aside0.mk hres
  have HN := Aside0.mk hr.len
  have hm : n ≤ 35184372088832 := by rw [HN.out]; exact hl
  have HL := Aside0.mk hlen
  have HM := Aside0.mk hl
  clear hres hlen hl
  go_enter Try.func22, Try.ntmps22
  go_wp2
  go_loopg [3, 4] (n + 1) (fun kq v3 v8 w' => ∃ (i : Nat) (acc : List Int), v8 = .int .i64 i ∧ i ≤ n ∧ kq = n + 1 - i ∧ Aside0 (acc ++ stuffO (l.drop i) = res) ∧ Own (Kd.int .u8) 5 w.heap.size w' v3 acc ∧ Below w.heap.size w w')
  case atStart => exact ⟨0, [], rfl, by omega, by omega, ⟨by simpa using HS.out.symm⟩, Own.nil _ _ _ _, Below.refl _ _⟩
  case round =>
    obtain ⟨i, acc, rfl, hi, hk, HA, HO, HB⟩ := hrel
    by_cases hlt : i < n
    · obtain ⟨ad, hA⟩ := hr.some_at i hlt
      subst hA
      have hx := hr.cell_int HB i hlt
      have hdr := drop_rd l i (by have := HN.out; omega)
      have hacc : acc.length + 2 < 140737488355328 := by
        have h1 := congrArg List.length HA.out
        have h2 := HL.out
        have h3 := HM.out
        simp only [List.length_append] at h1
        omega
      have HAD := HA.out
      rw [hdr] at HAD
      have HAD' := Aside0.mk HAD
      clear HAD hdr
      have HR2 := hr
      generalize hg : rd l i = x at *
      have HG := Aside0.mk hg
      clear hg
      have hx32 : bits .xor .u8 x 32 = x32 x := rfl
      have hB := HB.size
      by_cases h0 : x = 126
      · subst h0
        have HLIT : Own (Kd.int .u8) 5 0 (wr.alloc (.cells #[.int .u8 125, .int .u8 (x32 126)] 5)) (.slice (some ⟨wr.heap.size, 0, none⟩) 2 2) [125, x32 126] := lit_own (enc := Value.int .u8) (h1 := fun _ => rfl) 5 0 wr [125, x32 126] (Nat.zero_le _) (by simp)
        have HOA := HO.alloc (.cells #[.int .u8 125, .int .u8 (x32 126)] 5)
        have HBA := below_alloc HB (.cells #[.int .u8 125, .int .u8 (x32 126)] 5)
        go_wp2_with (first
          | (at_builtin; refine app_rowi Try.underlying24 info5 rfl (by decide) (.tmp 23) (.tmp 29) rfl rfl rfl rfl HOA HLIT.rds HBA HBA.size (by omega) ?_; intro v1 w1 HO1 HB1 hB1))
        have HOF := HO1
        have HBF := HB1
        go_roundg (n - i)
        case measure => omega
        case rel => exact ⟨i + 1, _, by go_num, by omega, by omega, ⟨by rw [← HAD'.out]; simp [stuffO]⟩, HOF, HBF⟩
      · by_cases h1 : x = 125
        · subst h1
          have HLIT : Own (Kd.int .u8) 5 0 (wr.alloc (.cells #[.int .u8 125, .int .u8 (x32 125)] 5)) (.slice (some ⟨wr.heap.size, 0, none⟩) 2 2) [125, x32 125] := lit_own (enc := Value.int .u8) (h1 := fun _ => rfl) 5 0 wr [125, x32 125] (Nat.zero_le _) (by simp)
          have HOA := HO.alloc (.cells #[.int .u8 125, .int .u8 (x32 125)] 5)
          have HBA := below_alloc HB (.cells #[.int .u8 125, .int .u8 (x32 125)] 5)
          go_wp2_with (first
            | (at_builtin; refine app_rowi Try.underlying24 info5 rfl (by decide) (.tmp 23) (.tmp 29) rfl rfl rfl rfl HOA HLIT.rds HBA HBA.size (by omega) ?_; intro v1 w1 HO1 HB1 hB1))
          have HOF := HO1
          have HBF := HB1
          go_roundg (n - i)
          case measure => omega
          case rel => exact ⟨i + 1, _, by go_num, by omega, by omega, ⟨by rw [← HAD'.out]; simp [stuffO]⟩, HOF, HBF⟩
        · have c0 : (x == 126) = false := beq_eq_false_iff_ne.mpr h0
          have c1 : (x == 125) = false := beq_eq_false_iff_ne.mpr h1
          go_wp2_with (first | (at_builtin; refine app_int Try.underlying24 info5 rfl (by decide) (.tmp 31) (.tmp 36) rfl rfl rfl rfl HO HB HB.size (by omega) ?_; intro v3 w3 HO3 HB3 hB3))
          have HOF := HO3
          have HBF := HB3
          go_roundg (n - i)
          case measure => omega
          case rel => exact ⟨i + 1, _, by go_num, by omega, by omega, ⟨by rw [← HAD'.out]; simp [stuffO, h0, h1]⟩, HOF, HBF⟩
    · have hi2 : i = n := by omega
      subst hi2
      obtain ⟨A1, c1, rfl, hc1⟩ := HO.slice
      go_wp2_with fail
      have hfin : acc = res := by have := HA.out; rw [List.drop_eq_nil_of_le (by have := HN.out; omega)] at this; simpa [stuffO] using this
      subst hfin
      go_ret
      exact ⟨A1, c1, rfl, HO, HB⟩

set_option maxHeartbeats 8000000 in
set_option maxRecDepth 100000 in
theorem unref_ok (A : Option Addr) (n c : Nat) (l : List Int) (w : World) (hr : Rds (Kd.int .u8) w A n c l) (hl : l.length ≤ 35184372088832) :
    Calls Try.prog 32 #[.slice A n c] w fun e w' => ∃ A1 c1, e = .returned (.tuple #[.slice A1 (unO false l []).1.length c1, .int .i64 (unO false l []).2]) ∧ Own (Kd.int .u8) 5 w.heap.size w' (.slice A1 (unO false l []).1.length c1) (unO false l []).1 ∧ Below w.heap.size w w' := by
  obtain ⟨res, hres⟩ : ∃ res, res = unO false l [] := ⟨_, rfl⟩
  rw [← hres]
  have hc := hr.cap
  have HS := Aside0.mk hres
  have HN := Aside0.mk hr.len
  have hm : n ≤ 35184372088832 := by rw [HN.out]; exact hl
  clear hres hl
  go_enter Try.func32, Try.ntmps32
  go_wp2
  go_loopg [4, 5] (n + 1) (fun kq v4 v5 w' => ∃ (i : Nat) (acc : List Int), v5 = .int .i64 i ∧ i ≤ n ∧ kq = n + 1 - i ∧ Aside0 (acc.length ≤ i) ∧ Aside0 (unO false (l.drop i) acc = res) ∧ Own (Kd.int .u8) 5 w.heap.size w' v4 acc ∧ Below w.heap.size w w')
  case atStart => exact ⟨0, [], rfl, by omega, by omega, ⟨by simp⟩, ⟨by simpa using HS.out.symm⟩, Own.nil _ _ _ _, Below.refl _ _⟩
  case round =>
    obtain ⟨i, acc, rfl, hi, hk, HI, HA, HO, HB⟩ := hrel
    by_cases hlt : i < n
    · obtain ⟨ad, hA⟩ := hr.some_at i hlt
      subst hA
      have hx := hr.cell_int HB i hlt
      have hdr := drop_rd l i (by have := HN.out; omega)
      have HAD := HA.out
      rw [hdr, unO] at HAD
      have HAD' := Aside0.mk HAD
      clear HAD hdr
      have hacc : acc.length + 1 < 140737488355328 := by have := HI.out; omega
      have HR2 := Aside0.mk hr
      generalize hg : rd l i = x at *
      clear hg
      by_cases h0 : x = 125
      · subst h0
        by_cases hlt2 : i + 1 < n
        · have hx2 := HR2.out.cell_int HB (i + 1) hlt2
          rw [show ad.add (i + 1) = ⟨ad.block, ad.off + (i + 1), none⟩ from rfl] at hx2
          have hdr2 := drop_rd l (i + 1) (by have := HN.out; omega)
          have HAD := HAD'.out
          rw [if_pos rfl, hdr2, unO] at HAD
          have HAD2 := Aside0.mk HAD
          clear HAD hdr2
          generalize hg : rd l ((i + 1 : Nat) : Int) = y at *
          have hx32 : bits .xor .u8 y 32 = x32 y := rfl
          clear hg
          have hne : ((i : Int) + 1 == (n : Int)) = false := beq_eq_false_iff_ne.mpr (by omega)
          by_cases h1 : y = 126
          · subst h1
            have hfin := HAD2.out
            rw [if_pos rfl] at hfin
            subst hfin
            go_wp2_with fail
            go_ret2
            exact ⟨none, 0, rfl, Own.nil _ _ _ _, HB⟩
          · have c1 : (y == 126) = false := beq_eq_false_iff_ne.mpr h1
            go_wp2_with (first | (at_builtin; refine app_int Try.underlying24 info5 rfl (by decide) (.tmp 35) (.tmp 37) rfl rfl rfl rfl HO HB HB.size (by omega) ?_; intro v1 w1 HO1 HB1 hB1))
            go_roundg (n - i - 1)
            case measure => omega
            case rel => exact ⟨i + 2, acc ++ [x32 y], by go_num, by omega, by omega, ⟨by have := HI.out; simp; omega⟩, ⟨by have := HAD2.out; rw [if_neg h1] at this; exact this⟩, HO1, HB1⟩
        · have hne : ((i : Int) + 1 == (n : Int)) = true := beq_iff_eq.mpr (by omega)
          have hfin := HAD'.out
          rw [if_pos rfl, List.drop_eq_nil_of_le (by have := HN.out; omega), unO] at hfin
          subst hfin
          go_wp2_with fail
          go_ret2
          exact ⟨none, 0, rfl, Own.nil _ _ _ _, HB⟩
      · have c0 : (x == 125) = false := beq_eq_false_iff_ne.mpr h0
        by_cases h1 : x = 126
        · subst h1
          have hfin := HAD'.out
          rw [if_neg (by omega), if_pos rfl] at hfin
          subst hfin
          go_wp2_with fail
          go_ret2
          exact ⟨none, 0, rfl, Own.nil _ _ _ _, HB⟩
        · have c1 : (x == 126) = false := beq_eq_false_iff_ne.mpr h1
          go_wp2_with (first | (at_builtin; refine app_int Try.underlying24 info5 rfl (by decide) (.tmp 35) (.tmp 37) rfl rfl rfl rfl HO HB HB.size (by omega) ?_; intro v1 w1 HO1 HB1 hB1))
          go_roundg (n - i)
          case measure => omega
          case rel => exact ⟨i + 1, acc ++ [x], by go_num, by omega, by omega, ⟨by have := HI.out; simp; omega⟩, ⟨by have := HAD'.out; rw [if_neg h0, if_neg h1] at this; exact this⟩, HO1, HB1⟩
    · have hi2 : i = n := by omega
      subst hi2
      obtain ⟨A1, c1, rfl, hc1⟩ := HO.slice
      have hfin := HA.out
      rw [List.drop_eq_nil_of_le (by have := HN.out; omega), unO] at hfin
      subst hfin
      go_wp2_with fail
      go_ret2
      exact ⟨A1, c1, rfl, HO, HB⟩

end Go.Proofs.Ytlcemeligolabaa.OctO
