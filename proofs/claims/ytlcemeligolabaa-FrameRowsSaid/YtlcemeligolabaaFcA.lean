/- Contracts of a register: eight steps, and over bytes. -/
import Derived.Test.YtlcemeligolabaaK2
import Derived.Test.YtlcemeligolabaaFcP
namespace Go.Proofs.Ytlcemeligolabaa.FcA
open Go.RowKit Go.Proofs.YtlcemeligolabaaW.PrintWords Go.Proofs.YtlcemeligolabaaW.PrintLast Go.Proofs.YtlcemeligolabaaW.PrintMore Go.Proofs.Ytlcemeligolabaa.K Go.Proofs.Ytlcemeligolabaa.FcP
set_option linter.unusedVariables false
set_option linter.unusedSimpArgs false
attribute [local go_sem] max2_int min2_int max_two min_two

theorem u8_w (x : Int) : IntKind.u8.wrap x = x % 256 := by simp [IntKind.wrap, IntKind.bits, IntKind.signed]
theorem ofn_u8 (a : Nat) (ha : a < 256) : (BitVec.ofInt IntKind.u8.bits (a : Int)).toNat = a := by
  have h : (BitVec.ofInt IntKind.u8.bits (a : Int)).toNat = ((a : Int) % 256).toNat := by rw [BitVec.toNat_ofInt]; rfl
  rw [h]
  omega
theorem xor_u8 (a b : Nat) (ha : a < 256) (hb : b < 256) : bits .xor .u8 (a : Int) (b : Int) = ((a ^^^ b : Nat) : Int) := by
  have h : a ^^^ b < 256 := Nat.xor_lt_two_pow (n := 8) ha hb
  simp only [bits]
  rw [BitVec.toNat_xor, ofn_u8 a ha, ofn_u8 b hb, u8_w]
  omega
theorem and_u8 (a b : Nat) (ha : a < 256) (hb : b < 256) : bits .and .u8 (a : Int) (b : Int) = ((a &&& b : Nat) : Int) := by
  have h : a &&& b ≤ a := Nat.and_le_left
  simp only [bits]
  rw [BitVec.toNat_and, ofn_u8 a ha, ofn_u8 b hb, u8_w]
  omega
theorem and1_u8 (a : Nat) (ha : a < 256) : bits .and .u8 (a : Int) 1 = ((a % 2 : Nat) : Int) := by
  rw [show (1 : Int) = ((1 : Nat) : Int) from rfl, and_u8 a 1 ha (by decide), show a &&& 1 = a % 2 from Nat.and_one_is_mod a]
theorem u16_w (x : Int) : IntKind.u16.wrap x = x % 65536 := by simp [IntKind.wrap, IntKind.bits, IntKind.signed]
theorem ofn_u16 (a : Nat) (ha : a < 65536) : (BitVec.ofInt IntKind.u16.bits (a : Int)).toNat = a := by
  have h : (BitVec.ofInt IntKind.u16.bits (a : Int)).toNat = ((a : Int) % 65536).toNat := by rw [BitVec.toNat_ofInt]; rfl
  rw [h]
  omega
theorem xor_u16 (a b : Nat) (ha : a < 65536) (hb : b < 65536) : bits .xor .u16 (a : Int) (b : Int) = ((a ^^^ b : Nat) : Int) := by
  have h : a ^^^ b < 65536 := Nat.xor_lt_two_pow (n := 16) ha hb
  simp only [bits]
  rw [BitVec.toNat_xor, ofn_u16 a ha, ofn_u16 b hb, u16_w]
  omega
theorem and_u16 (a b : Nat) (ha : a < 65536) (hb : b < 65536) : bits .and .u16 (a : Int) (b : Int) = ((a &&& b : Nat) : Int) := by
  have h : a &&& b ≤ a := Nat.and_le_left
  simp only [bits]
  rw [BitVec.toNat_and, ofn_u16 a ha, ofn_u16 b hb, u16_w]
  omega
theorem and1_u16 (a : Nat) (ha : a < 65536) : bits .and .u16 (a : Int) 1 = ((a % 2 : Nat) : Int) := by
  rw [show (1 : Int) = ((1 : Nat) : Int) from rfl, and_u16 a 1 ha (by decide), show a &&& 1 = a % 2 from Nat.and_one_is_mod a]
theorem u32_w (x : Int) : IntKind.u32.wrap x = x % 4294967296 := by simp [IntKind.wrap, IntKind.bits, IntKind.signed]
theorem ofn_u32 (a : Nat) (ha : a < 4294967296) : (BitVec.ofInt IntKind.u32.bits (a : Int)).toNat = a := by
  have h : (BitVec.ofInt IntKind.u32.bits (a : Int)).toNat = ((a : Int) % 4294967296).toNat := by rw [BitVec.toNat_ofInt]; rfl
  rw [h]
  omega
theorem xor_u32 (a b : Nat) (ha : a < 4294967296) (hb : b < 4294967296) : bits .xor .u32 (a : Int) (b : Int) = ((a ^^^ b : Nat) : Int) := by
  have h : a ^^^ b < 4294967296 := Nat.xor_lt_two_pow (n := 32) ha hb
  simp only [bits]
  rw [BitVec.toNat_xor, ofn_u32 a ha, ofn_u32 b hb, u32_w]
  omega
theorem and_u32 (a b : Nat) (ha : a < 4294967296) (hb : b < 4294967296) : bits .and .u32 (a : Int) (b : Int) = ((a &&& b : Nat) : Int) := by
  have h : a &&& b ≤ a := Nat.and_le_left
  simp only [bits]
  rw [BitVec.toNat_and, ofn_u32 a ha, ofn_u32 b hb, u32_w]
  omega
theorem and1_u32 (a : Nat) (ha : a < 4294967296) : bits .and .u32 (a : Int) 1 = ((a % 2 : Nat) : Int) := by
  rw [show (1 : Int) = ((1 : Nat) : Int) from rfl, and_u32 a 1 ha (by decide), show a &&& 1 = a % 2 from Nat.and_one_is_mod a]
set_option maxHeartbeats 8000000 in
set_option maxRecDepth 100000 in
theorem turned_ok (x p : Nat) (hx : x < 4294967296) (hp : p < 4294967296) (w : World) : Calls Try.prog 43 #[.int .u32 (x : Int), .int .u32 (p : Int)] w fun e w' => e = .returned (.int .u32 ((by8 p x : Nat) : Int)) ∧ w = w' := by
  go_enter Try.func43, Try.ntmps43
  go_wp2
  go_loopg [0, 5, 6] 9 (fun kq v0 v5 v6 w' => ∃ (i y : Nat), v0 = .int .u32 (y : Int) ∧ v6 = .int .i64 i ∧ i ≤ 8 ∧ kq = 9 - i ∧ y < 4294967296 ∧ Aside0 (y = it p i x) ∧ w = w')
  case atStart => exact ⟨0, x, rfl, by simp, by omega, by omega, hx, ⟨rfl⟩, rfl⟩
  case round =>
    obtain ⟨i, y, rfl, rfl, hi, hkq, hy, HY, rfl⟩ := hrel
    by_cases hlt : i < 8
    · have e1 := and1_u32 y hy
      have e2 : bits .xor .u32 ((y : Int) / 2) (p : Int) = ((y / 2 ^^^ p : Nat) : Int) := xor_u32 (y / 2) p (by omega) hp
      by_cases ho : y % 2 = 1
      · have HS : Aside0 (st p y = y / 2 ^^^ p) := ⟨by unfold st; rw [if_pos ho]⟩
        have hb : y / 2 ^^^ p < 4294967296 := Nat.xor_lt_two_pow (n := 32) (by omega) hp
        rw [ho] at e1
        have e1 : bits .and .u32 (y : Int) 1 = 1 := e1
        clear ho
        generalize y / 2 ^^^ p = z at e2 HS hb
        go_wp2_with fail
        go_roundg (8 - i)
        case measure => omega
        case rel => exact ⟨i + 1, z, rfl, by go_num, by omega, by omega, hb, ⟨by rw [it_add, ← HY.out]; exact HS.out.symm⟩, rfl⟩
      · have ho : y % 2 = 0 := by omega
        have HS : Aside0 (st p y = y / 2) := ⟨by unfold st; rw [if_neg (by omega)]⟩
        rw [ho] at e1
        have e1 : bits .and .u32 (y : Int) 1 = 0 := e1
        clear ho e2
        go_wp2_with fail
        go_roundg (8 - i)
        case measure => omega
        case rel => exact ⟨i + 1, y / 2, by simp, by go_num, by omega, by omega, by omega, ⟨by rw [it_add, ← HY.out]; exact HS.out.symm⟩, rfl⟩
    · have he : by8 p x = y := by rw [HY.out, show i = 8 by omega]; rfl
      have HE := Aside0.mk he
      clear he
      go_wp2_with fail
      go_ret
      exact ⟨by rw [HE.out]; rfl, rfl⟩
theorem rd_mem (l : List Int) (i : Nat) (h : i < l.length) : rd l i ∈ l := by
  unfold rd
  simp [h]
theorem not_u32 (y : Nat) (hy : y < 4294967296) : bits .xor .u32 IntKind.u32.max (y : Int) = ((com 32 y : Nat) : Int) := by
  rw [show IntKind.u32.max = ((4294967295 : Nat) : Int) from rfl, xor_u32 _ _ (by decide) hy, com_xor 32 y hy, Nat.xor_comm]
theorem not_u16 (y : Nat) (hy : y < 65536) : bits .xor .u16 IntKind.u16.max (y : Int) = ((com 16 y : Nat) : Int) := by
  rw [show IntKind.u16.max = ((65535 : Nat) : Int) from rfl, xor_u16 _ _ (by decide) hy, com_xor 16 y hy, Nat.xor_comm]
theorem wf8 {l : List Int} (h : ∀ x ∈ l, 0 ≤ x ∧ x ≤ 255) (i : Nat) (hi : i < l.length) : 0 ≤ rd l i ∧ rd l i ≤ 255 := h _ (rd_mem l i hi)
/-- Bytes, as numbers. -/
def nat (l : List Int) : List Nat := l.map Int.toNat
theorem nat_lt {l : List Int} (h : ∀ x ∈ l, 0 ≤ x ∧ x ≤ 255) : ∀ c ∈ nat l, c < 256 := by
  intro c hc
  unfold nat at hc
  rw [List.mem_map] at hc
  obtain ⟨x, hx, rfl⟩ := hc
  have := h x hx
  omega
theorem feed_take (p x : Nat) (l : List Int) (i : Nat) (hi : i < l.length) : feed p x (nat (l.take (i + 1))) = by8 p (feed p x (nat (l.take i)) ^^^ (rd l i).toNat) := by
  have e : l.take (i + 1) = l.take i ++ [rd l i] := by
    rw [List.take_succ_eq_append_getElem hi]
    unfold rd
    simp [hi]
  rw [e]
  unfold nat
  rw [List.map_append, feed_append]
  rfl
theorem by8_lt (p x : Nat) (hp : p < 4294967296) (hx : x < 4294967296) : by8 p x < 4294967296 := it_lt p 32 hp 8 x hx
set_option maxHeartbeats 8000000 in
set_option maxRecDepth 100000 in
theorem sum_ok (A : Option Addr) (n c x p : Nat) (l : List Int) (w : World) (hr : Rds (Kd.int .u8) w A n c l) (hl : ∀ x ∈ l, 0 ≤ x ∧ x ≤ 255) (hn : n ≤ 9223372036854775807) (hx : x < 4294967296) (hp : p < 4294967296) :
    Calls Try.prog 40 #[.slice A n c, .int .u32 (x : Int), .int .u32 (p : Int)] w fun e w' => e = .returned (.int .u32 ((com 32 (feed p x (nat l)) : Nat) : Int)) ∧ w = w' := by
  have HR := Aside0.mk hr
  have HL := Aside0.mk hl
  clear hr hl
  go_enter Try.func40, Try.ntmps40
  go_wp2
  go_loopg [1, 8, 11] (n + 1) (fun kq v1 v8 v11 w' => ∃ (i y : Nat), v1 = .int .u32 (y : Int) ∧ v11 = .int .i64 i ∧ i ≤ n ∧ kq = n + 1 - i ∧ y < 4294967296 ∧ Aside0 (y = feed p x (nat (l.take i))) ∧ w = w')
  case atStart => exact ⟨0, x, rfl, by simp, by omega, by omega, hx, ⟨rfl⟩, rfl⟩
  case round =>
    obtain ⟨i, y, rfl, rfl, hi, hkq, hy, HY, rfl⟩ := hrel
    by_cases hlt : i < n
    · obtain ⟨ad, hA, h0⟩ := HR.out.int (i : Int) (by omega) (by omega)
      subst hA
      simp only [Int.toNat_natCast] at h0
      have hil : i < l.length := by have := HR.out.len; omega
      have hb := wf8 HL.out i hil
      obtain ⟨b, hbb⟩ : ∃ b : Nat, rd l i = (b : Int) := ⟨(rd l i).toNat, by omega⟩
      have HF := Aside0.mk (feed_take p x l i hil)
      rw [hbb] at h0 hb HF
      have e1 : bits .xor .u32 (y : Int) (b : Int) = ((y ^^^ b : Nat) : Int) := xor_u32 y b hy (by omega)
      have hz : y ^^^ b < 4294967296 := Nat.xor_lt_two_pow (n := 32) hy (by omega)
      have ew : IntKind.u32.wrap (b : Int) = (b : Int) := by rw [u32_w]; omega
      have HZ : Aside0 (feed p x (nat (l.take (i + 1))) = by8 p (y ^^^ b)) := ⟨by rw [HF.out, ← HY.out]; rfl⟩
      have h8 := by8_lt p (y ^^^ b) hp hz
      clear hbb HF hil
      generalize y ^^^ b = z at e1 hz HZ h8
      go_wp2_with (first | (go_at_call 43; (with_reducible refine (turned_ok z p hz hp _).mono ?_); rintro e w' ⟨rfl, rfl⟩))
      go_roundg (n - i)
      case measure => omega
      case rel => exact ⟨i + 1, by8 p z, rfl, by go_num, by omega, by omega, h8, ⟨HZ.out.symm⟩, rfl⟩
    · have he : feed p x (nat l) = y := by rw [HY.out, show l.take i = l from List.take_of_length_le (by have := HR.out.len; omega)]
      have HE := Aside0.mk he
      have e1 := not_u32 y hy
      clear he
      go_wp2_with fail
      go_ret
      exact ⟨by rw [HE.out]; rfl, rfl⟩

end Go.Proofs.Ytlcemeligolabaa.FcA
