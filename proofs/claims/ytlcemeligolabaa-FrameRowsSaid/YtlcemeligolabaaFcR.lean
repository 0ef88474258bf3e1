/- Contracts of the reference of sums. -/
import Derived.Test.YtlcemeligolabaaFcC
namespace Go.Proofs.Ytlcemeligolabaa.FcR
open Go.RowKit Go.Proofs.YtlcemeligolabaaW.PrintWords Go.Proofs.YtlcemeligolabaaW.PrintLast Go.Proofs.YtlcemeligolabaaW.PrintMore Go.Proofs.Ytlcemeligolabaa.K Go.Proofs.Ytlcemeligolabaa.FcP Go.Proofs.Ytlcemeligolabaa.FcA Go.Proofs.Ytlcemeligolabaa.FcB Go.Proofs.Ytlcemeligolabaa.FcC
set_option linter.unusedVariables false
set_option linter.unusedSimpArgs false
attribute [local go_sem] max2_int min2_int max_two min_two

set_option maxHeartbeats 8000000 in
set_option maxRecDepth 100000 in
theorem rshort_ok (A : Option Addr) (n c : Nat) (l : List Int) (w : World) (hr : Rds (Kd.int .u8) w A n c l) (hl : ∀ x ∈ l, 0 ≤ x ∧ x ≤ 255) (hn : n ≤ 9223372036854775806) :
    Calls Try.prog 35 #[.slice A n c] w fun e w' => e = .returned (.int .u16 ((shortN l : Nat) : Int)) ∧ w = w' := by
  have HR := Aside0.mk hr
  have HL := Aside0.mk hl
  clear hr hl
  go_enter Try.func35, Try.ntmps35
  go_wp2
  go_loopg [3, 4, 5, 6] (n + 1) (fun kq v3 v4 v5 v6 w' => ∃ (i y : Nat), v3 = .int .u16 (y : Int) ∧ v4 = .int .i64 i ∧ i ≤ n ∧ kq = n + 1 - i ∧ y < 65536 ∧ Aside0 (y = feed 33800 65535 (nat (l.take i))) ∧ w = w')
  case atStart => exact ⟨0, 65535, by simp, by simp, by omega, by omega, by omega, ⟨rfl⟩, rfl⟩
  case round =>
    obtain ⟨i, y, rfl, rfl, hi, hkq, hy, HY, rfl⟩ := hrel
    by_cases hlt : i < n
    · obtain ⟨ad, hA, h0⟩ := HR.out.int (i : Int) (by omega) (by omega)
      subst hA
      simp only [Int.toNat_natCast] at h0
      have hil : i < l.length := by have := HR.out.len; omega
      have hb := wf8 HL.out i hil
      obtain ⟨b, hbb⟩ : ∃ b : Nat, rd l i = (b : Int) := ⟨(rd l i).toNat, by omega⟩
      have HF := Aside0.mk (feed_take 33800 65535 l i hil)
      rw [hbb] at h0 hb HF
      have e1 : bits .xor .u16 (y : Int) (b : Int) = ((y ^^^ b : Nat) : Int) := xor_u16 y b hy (by omega)
      have hz : y ^^^ b < 65536 := Nat.xor_lt_two_pow (n := 16) hy (by omega)
      have ew : IntKind.u16.wrap (b : Int) = (b : Int) := by rw [u16_w]; omega
      have HZ : Aside0 (feed 33800 65535 (nat (l.take (i + 1))) = by8 33800 (y ^^^ b)) := ⟨by rw [HF.out, ← HY.out]; rfl⟩
      clear hbb HF hil
      generalize y ^^^ b = z at e1 hz HZ
      go_wp2_with fail
      go_loopg [3, 5, 6] 9 (fun kq v3 v5 v6 w' => ∃ (j y : Nat), v3 = .int .u16 (y : Int) ∧ v5 = .int .i64 j ∧ j ≤ 8 ∧ kq = 9 - j ∧ y < 65536 ∧ Aside0 (y = it 33800 j z) ∧ w = w')
      case atStart => exact ⟨0, z, rfl, by simp, by omega, by omega, hz, ⟨rfl⟩, rfl⟩
      case round =>
        clear e1 ew hy HY
        obtain ⟨j, y, rfl, rfl, hj, hkj, hy, HY, rfl⟩ := hrel
        by_cases hjl : j < 8
        · have e1 := and1_u16 y hy
          have e2 : bits .xor .u16 ((y : Int) / 2) 33800 = ((y / 2 ^^^ 33800 : Nat) : Int) := xor_u16 (y / 2) 33800 (by omega) (by decide)
          by_cases ho : y % 2 = 1
          · have HS : Aside0 (st 33800 y = y / 2 ^^^ 33800) := ⟨by unfold st; rw [if_pos ho]⟩
            have hb2 : y / 2 ^^^ 33800 < 65536 := Nat.xor_lt_two_pow (n := 16) (by omega) (by decide)
            rw [ho] at e1
            have e1 : bits .and .u16 (y : Int) 1 = 1 := e1
            clear ho
            generalize y / 2 ^^^ 33800 = z2 at e2 HS hb2
            go_wp2_with fail
            go_roundg (8 - j)
            case measure => omega
            case rel => exact ⟨j + 1, z2, rfl, by go_num, by omega, by omega, hb2, ⟨by rw [it_add, ← HY.out]; exact HS.out.symm⟩, rfl⟩
          · have ho : y % 2 = 0 := by omega
            have HS : Aside0 (st 33800 y = y / 2) := ⟨by unfold st; rw [if_neg (by omega)]⟩
            rw [ho] at e1
            have e1 : bits .and .u16 (y : Int) 1 = 0 := e1
            clear ho e2
            go_wp2_with fail
            go_roundg (8 - j)
            case measure => omega
            case rel => exact ⟨j + 1, y / 2, by simp, by go_num, by omega, by omega, by omega, ⟨by rw [it_add, ← HY.out]; exact HS.out.symm⟩, rfl⟩
        · have he : by8 33800 z = y := by rw [HY.out, show j = 8 by omega]; rfl
          have HE := Aside0.mk he
          clear he
          go_wp2_with fail
          go_roundg (n - i)
          case measure => omega
          case rel => exact ⟨i + 1, y, rfl, by go_num, by omega, by omega, hy, ⟨by rw [HZ.out]; exact HE.out.symm⟩, rfl⟩
    · have he : shortN l = com 16 y := by unfold shortN sumN; rw [HY.out, show l.take i = l from List.take_of_length_le (by have := HR.out.len; omega)] <;> rfl
      have HE := Aside0.mk he
      have e1 := not_u16 y hy
      clear he
      go_wp2_with fail
      go_ret
      exact ⟨by rw [HE.out]; rfl, rfl⟩

set_option maxHeartbeats 8000000 in
set_option maxRecDepth 100000 in
theorem rlong_ok (A : Option Addr) (n c : Nat) (l : List Int) (w : World) (hr : Rds (Kd.int .u8) w A n c l) (hl : ∀ x ∈ l, 0 ≤ x ∧ x ≤ 255) (hn : n ≤ 9223372036854775806) :
    Calls Try.prog 36 #[.slice A n c] w fun e w' => e = .returned (.int .u32 ((longN l : Nat) : Int)) ∧ w = w' := by
  have HR := Aside0.mk hr
  have HL := Aside0.mk hl
  clear hr hl
  go_enter Try.func36, Try.ntmps36
  go_wp2
  go_loopg [3, 4, 5, 6] (n + 1) (fun kq v3 v4 v5 v6 w' => ∃ (i y : Nat), v3 = .int .u32 (y : Int) ∧ v4 = .int .i64 i ∧ i ≤ n ∧ kq = n + 1 - i ∧ y < 4294967296 ∧ Aside0 (y = feed 3988292384 4294967295 (nat (l.take i))) ∧ w = w')
  case atStart => exact ⟨0, 4294967295, by simp, by simp, by omega, by omega, by omega, ⟨rfl⟩, rfl⟩
  case round =>
    obtain ⟨i, y, rfl, rfl, hi, hkq, hy, HY, rfl⟩ := hrel
    by_cases hlt : i < n
    · obtain ⟨ad, hA, h0⟩ := HR.out.int (i : Int) (by omega) (by omega)
      subst hA
      simp only [Int.toNat_natCast] at h0
      have hil : i < l.length := by have := HR.out.len; omega
      have hb := wf8 HL.out i hil
      obtain ⟨b, hbb⟩ : ∃ b : Nat, rd l i = (b : Int) := ⟨(rd l i).toNat, by omega⟩
      have HF := Aside0.mk (feed_take 3988292384 4294967295 l i hil)
      rw [hbb] at h0 hb HF
      have e1 : bits .xor .u32 (y : Int) (b : Int) = ((y ^^^ b : Nat) : Int) := xor_u32 y b hy (by omega)
      have hz : y ^^^ b < 4294967296 := Nat.xor_lt_two_pow (n := 32) hy (by omega)
      have ew : IntKind.u32.wrap (b : Int) = (b : Int) := by rw [u32_w]; omega
      have HZ : Aside0 (feed 3988292384 4294967295 (nat (l.take (i + 1))) = by8 3988292384 (y ^^^ b)) := ⟨by rw [HF.out, ← HY.out]; rfl⟩
      clear hbb HF hil
      generalize y ^^^ b = z at e1 hz HZ
      go_wp2_with fail
      go_loopg [3, 5, 6] 9 (fun kq v3 v5 v6 w' => ∃ (j y : Nat), v3 = .int .u32 (y : Int) ∧ v5 = .int .i64 j ∧ j ≤ 8 ∧ kq = 9 - j ∧ y < 4294967296 ∧ Aside0 (y = it 3988292384 j z) ∧ w = w')
      case atStart => exact ⟨0, z, rfl, by simp, by omega, by omega, hz, ⟨rfl⟩, rfl⟩
      case round =>
        clear e1 ew hy HY
        obtain ⟨j, y, rfl, rfl, hj, hkj, hy, HY, rfl⟩ := hrel
        by_cases hjl : j < 8
        · have e1 := and1_u32 y hy
          have e2 : bits .xor .u32 ((y : Int) / 2) 3988292384 = ((y / 2 ^^^ 3988292384 : Nat) : Int) := xor_u32 (y / 2) 3988292384 (by omega) (by decide)
          by_cases ho : y % 2 = 1
          · have HS : Aside0 (st 3988292384 y = y / 2 ^^^ 3988292384) := ⟨by unfold st; rw [if_pos ho]⟩
            have hb2 : y / 2 ^^^ 3988292384 < 4294967296 := Nat.xor_lt_two_pow (n := 32) (by omega) (by decide)
            rw [ho] at e1
            have e1 : bits .and .u32 (y : Int) 1 = 1 := e1
            clear ho
            generalize y / 2 ^^^ 3988292384 = z2 at e2 HS hb2
            go_wp2_with fail
            go_roundg (8 - j)
            case measure => omega
            case rel => exact ⟨j + 1, z2, rfl, by go_num, by omega, by omega, hb2, ⟨by rw [it_add, ← HY.out]; exact HS.out.symm⟩, rfl⟩
          · have ho : y % 2 = 0 := by omega
            have HS : Aside0 (st 3988292384 y = y / 2) := ⟨by unfold st; rw [if_neg (by omega)]⟩
            rw [ho] at e1
            have e1 : bits .and .u32 (y : Int) 1 = 0 := e1
            clear ho e2
            go_wp2_with fail
            go_roundg (8 - j)
            case measure => omega
            case rel => exact ⟨j + 1, y / 2, by simp, by go_num, by omega, by omega, by omega, ⟨by rw [it_add, ← HY.out]; exact HS.out.symm⟩, rfl⟩
        · have he : by8 3988292384 z = y := by rw [HY.out, show j = 8 by omega]; rfl
          have HE := Aside0.mk he
          clear he
          go_wp2_with fail
          go_roundg (n - i)
          case measure => omega
          case rel => exact ⟨i + 1, y, rfl, by go_num, by omega, by omega, hy, ⟨by rw [HZ.out]; exact HE.out.symm⟩, rfl⟩
    · have he : longN l = com 32 y := by unfold longN sumN; rw [HY.out, show l.take i = l from List.take_of_length_le (by have := HR.out.len; omega)] <;> rfl
      have HE := Aside0.mk he
      have e1 := not_u32 y hy
      clear he
      go_wp2_with fail
      go_ret
      exact ⟨by rw [HE.out]; rfl, rfl⟩

theorem and255_u16 (a : Nat) (ha : a < 65536) : bits .and .u16 (a : Int) 255 = ((a % 256 : Nat) : Int) := by
  rw [show (255 : Int) = ((255 : Nat) : Int) from rfl, and_u16 a 255 ha (by decide)]
  congr 1
  exact Nat.and_two_pow_sub_one_eq_mod a 8
theorem and255_u32 (a : Nat) (ha : a < 4294967296) : bits .and .u32 (a : Int) 255 = ((a % 256 : Nat) : Int) := by
  rw [show (255 : Int) = ((255 : Nat) : Int) from rfl, and_u32 a 255 ha (by decide)]
  congr 1
  exact Nat.and_two_pow_sub_one_eq_mod a 8
theorem lit8 (B : Nat) (w : World) (xs : List Int) (hB : B ≤ w.heap.size) (hm : xs.length ≤ 100) : Own (Kd.int .u8) 5 B (w.alloc (.cells (xs.map (Value.int .u8)).toArray 5)) (.slice (some ⟨w.heap.size, 0, none⟩) xs.length xs.length) xs :=
  lit_own (enc := Value.int .u8) (h1 := fun _ => rfl) 5 B w xs hB (by omega)
theorem byi2 (x : Nat) : byi 2 x = [((x % 256 : Nat) : Int), ((x / 256 % 256 : Nat) : Int)] := rfl
theorem byi4 (x : Nat) : byi 4 x = [((x % 256 : Nat) : Int), ((x / 256 % 256 : Nat) : Int), ((x / 256 / 256 % 256 : Nat) : Int), ((x / 256 / 256 / 256 % 256 : Nat) : Int)] := rfl
set_option maxHeartbeats 8000000 in
set_option maxRecDepth 100000 in
theorem rsum_false (A : Option Addr) (n c : Nat) (l : List Int) (w : World) (hr : Rds (Kd.int .u8) w A n c l) (hl : ∀ x ∈ l, 0 ≤ x ∧ x ≤ 255) (hn : n ≤ 9223372036854775806) :
    Calls Try.prog 29 #[.slice A n c, .bool false] w fun e w' => ∃ v, e = .returned v ∧ Own (Kd.int .u8) 5 w.heap.size w' v (byi 2 (shortN l)) ∧ Below w.heap.size w w' := by
  have CS := Aside0.mk (rshort_ok A n c l w hr hl hn)
  have l1 := shortN_lt l
  clear hr hl
  generalize shortN l = s at *
  rw [byi2]
  have e1 := and255_u16 s l1
  have e2 : IntKind.u8.wrap ((s % 256 : Nat) : Int) = ((s % 256 : Nat) : Int) := by rw [u8_w]; omega
  have e3 : IntKind.u8.wrap ((s : Int) / 256) = ((s / 256 % 256 : Nat) : Int) := by rw [u8_w]; omega
  have L := Aside0.mk (lit8 w.heap.size w [((s % 256 : Nat) : Int), ((s / 256 % 256 : Nat) : Int)] (Nat.le_refl _) (by simp))
  generalize s % 256 = a at *
  generalize s / 256 % 256 = b at *
  go_enter Try.func29, Try.ntmps29
  go_wp2_with (first | (go_at_call 35; (with_reducible refine CS.out.mono ?_); rintro e w' ⟨rfl, rfl⟩))
  go_ret
  exact ⟨_, rfl, L.out, below_alloc (Below.refl _ _) _⟩
set_option maxHeartbeats 8000000 in
set_option maxRecDepth 100000 in
theorem rsum_true (A : Option Addr) (n c : Nat) (l : List Int) (w : World) (hr : Rds (Kd.int .u8) w A n c l) (hl : ∀ x ∈ l, 0 ≤ x ∧ x ≤ 255) (hn : n ≤ 9223372036854775806) :
    Calls Try.prog 29 #[.slice A n c, .bool true] w fun e w' => ∃ v, e = .returned v ∧ Own (Kd.int .u8) 5 w.heap.size w' v (byi 4 (longN l)) ∧ Below w.heap.size w w' := by
  have CS := Aside0.mk (rlong_ok A n c l w hr hl hn)
  have l1 := longN_lt l
  clear hr hl
  generalize longN l = s at *
  rw [byi4]
  have e1 := and255_u32 s l1
  have e2 : bits .and .u32 ((s : Int) / 256) 255 = ((s / 256 % 256 : Nat) : Int) := by have := and255_u32 (s / 256) (by omega); simpa using this
  have e3 : bits .and .u32 ((s : Int) / 65536) 255 = ((s / 256 / 256 % 256 : Nat) : Int) := by have := and255_u32 (s / 65536) (by omega); rw [show s / 256 / 256 = s / 65536 by omega]; simpa using this
  have w1 : IntKind.u8.wrap ((s % 256 : Nat) : Int) = ((s % 256 : Nat) : Int) := by rw [u8_w]; omega
  have w2 : IntKind.u8.wrap ((s / 256 % 256 : Nat) : Int) = ((s / 256 % 256 : Nat) : Int) := by rw [u8_w]; omega
  have w3 : IntKind.u8.wrap ((s / 256 / 256 % 256 : Nat) : Int) = ((s / 256 / 256 % 256 : Nat) : Int) := by rw [u8_w]; omega
  have w4 : IntKind.u8.wrap ((s : Int) / 16777216) = ((s / 256 / 256 / 256 % 256 : Nat) : Int) := by rw [u8_w]; omega
  have L := Aside0.mk (lit8 w.heap.size w [((s % 256 : Nat) : Int), ((s / 256 % 256 : Nat) : Int), ((s / 256 / 256 % 256 : Nat) : Int), ((s / 256 / 256 / 256 % 256 : Nat) : Int)] (Nat.le_refl _) (by simp))
  generalize s % 256 = a at *
  generalize s / 256 % 256 = b at *
  generalize s / 256 / 256 % 256 = d at *
  generalize s / 256 / 256 / 256 % 256 = f at *
  go_enter Try.func29, Try.ntmps29
  go_wp2_with (first | (go_at_call 36; (with_reducible refine CS.out.mono ?_); rintro e w' ⟨rfl, rfl⟩))
  go_ret
  exact ⟨_, rfl, L.out, below_alloc (Below.refl _ _) _⟩
theorem rsum_ok (A : Option Addr) (n c : Nat) (l : List Int) (wide : Bool) (w : World) (hr : Rds (Kd.int .u8) w A n c l) (hl : ∀ x ∈ l, 0 ≤ x ∧ x ≤ 255) (hn : n ≤ 9223372036854775806) :
    Calls Try.prog 29 #[.slice A n c, .bool wide] w fun e w' => ∃ v, e = .returned v ∧ Own (Kd.int .u8) 5 w.heap.size w' v (tailL l wide) ∧ Below w.heap.size w w' := by
  cases wide
  · exact rsum_false A n c l w hr hl hn
  · exact rsum_true A n c l w hr hl hn
theorem sizeT_le (b : Bool) : sizeT b ≤ 4 := by unfold sizeT; split <;> omega
set_option maxHeartbeats 8000000 in
set_option maxRecDepth 100000 in
theorem rput_ok (A : Option Addr) (n c : Nat) (l : List Int) (wide : Bool) (w : World) (hr : Rds (Kd.int .u8) w A n c l) (hl : ∀ x ∈ l, 0 ≤ x ∧ x ≤ 255) (hn : n * 1 ≤ 140737488351232) :
    Calls Try.prog 18 #[.slice A n c, .bool wide] w fun e w' => ∃ v, e = .returned v ∧ Own (Kd.int .u8) 5 w.heap.size w' v (l ++ tailL l wide) ∧ Below w.heap.size w w' := by
  have HR := Aside0.mk hr
  have HL := Aside0.mk hl
  have CT := Aside0.mk (fun w' hb => rsum_ok A n c l wide w' (hr.below hb) hl (by omega))
  have TL := Aside0.mk (tailL_len l wide)
  have O0 := Aside0.mk (Own.nil (Kd.int .u8) 5 w.heap.size w)
  have b1 : Aside0 ((([] : List Int).length + n) * 1 ≤ 140737488355328) := ⟨by simp; omega⟩
  have b2 : Aside0 ((l.length + sizeT wide) * 1 ≤ 140737488355328) := ⟨by have := hr.len; have := sizeT_le wide; omega⟩
  clear hr hl hn
  generalize sizeT wide = q at TL b2
  generalize tailL l wide = tl at CT TL ⊢
  obtain ⟨k, hk⟩ : ∃ k, (l ++ tl).length = k := ⟨_, rfl⟩
  have HK := Aside0.mk hk
  clear hk
  go_enter Try.func18, Try.ntmps18
  go_wp2_with (first
    | (at_builtin; refine app_rowi Try.underlying24 info5 rfl (by decide) (.const (.slice none 0 0)) (.tmp 5) rfl rfl rfl rfl O0.out HR.out (Below.refl _ _) (Nat.le_refl _) b1.out ?_; intro v1 w1 ho hb _; obtain ⟨A1, c1, hv1, _⟩ := ho.sliceN (n := n) (by simp [HR.out.len]); subst hv1; have O1 := Aside0.mk (show Own (Kd.int .u8) 5 w.heap.size w1 (.slice A1 n c1) l by simpa using ho); have B1 := Aside0.mk hb; clear ho hb)
    | (go_at_call 29; (with_reducible refine (CT.out _ B1.out).mono ?_); rintro e w2 ⟨v2, rfl, ho, hb⟩; obtain ⟨A2, c2, hv2, _⟩ := ho.sliceN TL.out; subst hv2; have O2 := Aside0.mk ho; have B2 := Aside0.mk (below_step B1.out hb); have P2 := Aside0.mk (O1.out.below hb); clear ho hb)
    | (at_builtin; refine app_rowi Try.underlying24 info5 rfl (by decide) (.tmp 6) (.tmp 9) rfl rfl rfl rfl P2.out O2.out.rds B2.out B2.out.size b2.out ?_; intro v3 w3 ho hb _; obtain ⟨A3, c3, hv3, _⟩ := ho.sliceN HK.out; subst hv3; have O3 := Aside0.mk ho; have B3 := Aside0.mk hb; clear ho hb))
  go_ret
  exact ⟨_, rfl, O3.out, B3.out⟩

end Go.Proofs.Ytlcemeligolabaa.FcR
