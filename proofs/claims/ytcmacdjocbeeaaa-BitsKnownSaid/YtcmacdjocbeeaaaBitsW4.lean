/- Contracts of the functions that tell bits' bytes, by walks. No condition but the slices' readings. -/
import Derived.Test.YtcmacdjocbeeaaaBitsW3
import Derived.StillTailTactics
import Derived.BigRegion
namespace Go.Proofs.Ytcmacdjocbeeaaa.BitsW
open Go.RowKit Go.Proofs.YtcmacdjocbeeaaaW.PrintWords Go.Proofs.YtcmacdjocbeeaaaW.PrintLast Go.Proofs.YtcmacdjocbeeaaaW.PrintMore Go.Proofs.Ytcmacdjocbeeaaa.K Go.Proofs.Ytcmacdjocbeeaaa.BitsPure Go.Proofs.Ytcmacdjocbeeaaa.StuffW
set_option linter.unusedVariables false
set_option linter.unusedSimpArgs false

theorem wrap_pow (r : Nat) (h : r < 8) : IntKind.u8.wrap (2 ^ r) = 2 ^ r := by
  have hc : r = 0 ∨ r = 1 ∨ r = 2 ∨ r = 3 ∨ r = 4 ∨ r = 5 ∨ r = 6 ∨ r = 7 := by omega
  rcases hc with rfl | rfl | rfl | rfl | rfl | rfl | rfl | rfl <;> decide
theorem pow_le8 (r : Nat) (h : r < 8) : (1 : Int) ≤ 2 ^ r ∧ (2 : Int) ^ r ≤ 128 := by
  have hc : r = 0 ∨ r = 1 ∨ r = 2 ∨ r = 3 ∨ r = 4 ∨ r = 5 ∨ r = 6 ∨ r = 7 := by omega
  rcases hc with rfl | rfl | rfl | rfl | rfl | rfl | rfl | rfl <;> decide
theorem or_bit (y : Int) (r : Nat) (h : r < 8) (h0 : 0 ≤ y) (h1 : y < 2 ^ r) : bits .or .u8 y (2 ^ r) = y + 2 ^ r := by
  have hp := pow_le8 r h
  rw [show bits .or .u8 y (2 ^ r) = bits .or .u8 (2 ^ r) y by simp only [bits, BitVec.or_comm]]
  rw [bits_join .u8 8 (by decide) wraps_u8 r (2 ^ r) y (by omega) Int.emod_self (by omega) h0 h1 (by omega)]
  omega
theorem or_zero (y : Int) (h0 : 0 ≤ y) (h1 : y < 256) : bits .or .u8 y 0 = y := by
  rw [show bits .or .u8 y 0 = bits .or .u8 0 y by simp only [bits, BitVec.or_comm]]
  rw [bits_join .u8 8 (by decide) wraps_u8 8 0 y (by omega) rfl (by omega) h0 (by omega) (by omega)]
  omega
theorem or_step (l : List Int) (q r : Nat) (x : Int) (h : r < 8) (hx : BitsPure.get l (8 * q + r) = x) (h0 : x ≠ 0) : bits .or .u8 (bv l q r) (IntKind.u8.wrap (2 ^ r)) = bv l q (r + 1) := by
  rw [wrap_pow r h, or_bit _ r h (bv_bound l q r).1 (bv_bound l q r).2]
  simp only [bv, hx, one, if_neg h0, Int.one_mul]
theorem outAt_same (l : List Int) (m q r : Nat) (h : r < 8) (hx : BitsPure.get l (8 * q + r) = 0) (hq : q < m) : (outAt l m (8 * q + r)).set q (bv l q (r + 1)) = outAt l m (8 * q + r) := by
  apply List.ext_getElem?
  intro j
  rw [List.getElem?_set]
  by_cases hj : q = j
  · subst hj
    rw [if_pos rfl, if_pos (by simpa [outAt] using hq)]
    simp only [outAt, List.getElem?_map, List.getElem?_range hq, Option.map_some, Option.some.injEq]
    rw [show min 8 (8 * q + r - 8 * q) = r by omega]
    simp [bv, hx, one]
  · rw [if_neg hj]
theorem rd_outAt (l : List Int) (m q r : Nat) (h : r < 8) (hq : q < m) : rdOf (0 : Int) (outAt l m (8 * q + r)) (q : Int) = bv l q r := by
  have := outAt_get l m (8 * q + r) q hq
  rw [show min 8 (8 * q + r - 8 * q) = r by omega] at this
  simpa [rdOf] using this

set_option maxHeartbeats 4000000 in
set_option maxRecDepth 100000 in
theorem bytes_ok (A : Option Addr) (n c : Nat) (l : List Int) (w : World) (hr : Rds (Kd.int .u8) w A n c l) (hb : bitsOk l) (hl : l.length ≤ 70368744177664) (h8 : n % 8 = 0) :
    Calls Try.prog 15 #[.slice A n c] w fun e w' => ∃ A1 c1, e = .returned (.tuple #[.slice A1 (n / 8) c1, .int .i64 0]) ∧ Own (Kd.int .u8) 5 w.heap.size w' (.slice A1 (n / 8) c1) (outAt l (n / 8) n) ∧ Below w.heap.size w w' := by
  have hn := hr.len
  have hc := hr.cap
  have hm : n ≤ 70368744177664 := by omega
  have HN := Aside0.mk hn
  have HB0 := Aside0.mk hb
  have H8 := Aside0.mk h8
  clear hn hb hl
  have h81 : ((n : Int) % 8 != 0) = false := by simp; omega
  clear h8
  go_enter Try.func15, Try.ntmps15
  go_wp2_with (first | (at_make; refine Kd.R_make (Kd.int .u8) (w0 := w) w.heap.size 5 rfl (N := 14) rfl 22 (.tmp 13) (.tmp 13) rfl ((n : Int) / 8) rfl rfl Try.underlying22 (.int .u8 0) 1 info5 rfl Nat.zero_lt_one (by decide) 0 (ok := fun _ => True) (okp := fun _ => True) rfl (fun _ h => h) trivial (by omega) (by omega) (Below.refl _ _) (Nat.le_refl _) ?_; intro v1 w1 ho1 HB1 _ _; have HO1 : Own (Kd.int .u8) 5 w.heap.size w1 v1 (outAt l (n / 8) 0) := ⟨by rw [outAt_zero, show n / 8 = ((n : Int) / 8).toNat by omega]; exact ho1⟩; clear ho1))
  obtain ⟨A1, c1, rfl, hc1⟩ := HO1.slice
  rw [outAt_len] at HO1 hc1 ⊢
  go_loopg [17] (n + 1) (fun kq v17 w' => ∃ (i : Nat), v17 = .int .i64 i ∧ i ≤ n ∧ kq = n + 1 - i ∧ Own (Kd.int .u8) 5 w.heap.size w' (.slice A1 (n / 8) c1) (outAt l (n / 8) i) ∧ Below w.heap.size w w')
  case atStart => exact ⟨0, rfl, by omega, by omega, HO1, HB1⟩
  case round =>
    clear HO1 HB1
    obtain ⟨i, rfl, hi, hk, HO, HB⟩ := hrel
    by_cases hlt : i < n
    · obtain ⟨ad, hA⟩ := hr.some_at i hlt
      subst hA
      have hx := hr.cell_int HB i hlt
      have hbx := HB0.out (rd l i) (rd_mem l i (by have := HN.out; omega))
      have hst := Aside0.mk (outAt_step l (n / 8) i (by have := H8.out; omega))
      have hget : rd l i = BitsPure.get l i := by simp [rd, BitsPure.get]
      generalize hg : rd l i = x at *
      have hgl : BitsPure.get l (8 * (i / 8) + i % 8) = x := by rw [show 8 * (i / 8) + i % 8 = i by omega]; exact hget.symm
      have HGL := Aside0.mk hgl
      clear hg hget hgl
      obtain ⟨hb0, hb1⟩ := hbx
      have hq : i / 8 < n / 8 := by have := H8.out; omega
      by_cases h0 : x = 0
      · subst h0
        have hsame : (outAt l (n / 8) i).set (i / 8) (bv l (i / 8) (i % 8 + 1)) = outAt l (n / 8) i := by
          have := outAt_same l (n / 8) (i / 8) (i % 8) (by omega) HGL.out hq
          rwa [show 8 * (i / 8) + i % 8 = i by omega] at this
        have HS := Aside0.mk hsame
        clear hsame
        go_wp2_with fail
        go_roundg (n - i)
        case measure => omega
        case rel => exact ⟨i + 1, by go_num, by omega, by omega, by rw [hst.out, HS.out]; exact HO, HB⟩
      · have h1 : (x != 0) = true := by simp [h0]
        obtain ⟨q, hqq⟩ : ∃ q, q = i / 8 := ⟨_, rfl⟩
        obtain ⟨r, hrr⟩ : ∃ r, r = i % 8 := ⟨_, rfl⟩
        obtain ⟨m, hmm⟩ : ∃ m, m = n / 8 := ⟨_, rfl⟩
        have dq1 : (i : Int) / 8 = q := by omega
        have dq2 : (i : Int).tdiv 8 = q := by rw [Int.tdiv_eq_ediv_of_nonneg (by omega)]; exact dq1
        have dq3 : IntKind.i64.wrap (q : Int) = q := IntWalk.i64_in _ (by omega)
        have dr1 : (i : Int) % 8 = r := by omega
        have dr2 : (i : Int).tmod 8 = r := by rw [Int.tmod_eq_emod_of_nonneg (by omega)]; exact dr1
        have dr3 : IntKind.i64.wrap (r : Int) = r := IntWalk.i64_in _ (by omega)
        have hr8 : (r : Int) < 8 := by omega
        have hqm : (q : Int) < (m : Int) := by omega
        have HQ := Aside0.mk hqq
        have HRR := Aside0.mk hrr
        have HMM := Aside0.mk hmm
        rw [← hqq, ← hmm] at hq
        rw [← hmm] at HO
        rw [← hqq, ← hrr, ← hmm] at hst
        rw [← hqq, ← hrr] at HGL
        clear hqq hrr hmm
        rw [← HMM.out]
        obtain ⟨g, hA, hg1, hg2, hcell, hfr, hput⟩ := HO.elem (0 : Int) q hq
        subst hA
        go_wp2_with fail
        have hor : bits .or .u8 (rdOf 0 (outAt l m i) q) (IntKind.u8.wrap (2 ^ r)) = bv l q (r + 1) := by
          have e1 : i = 8 * q + r := by have := HQ.out; have := HRR.out; omega
          have e2 := rd_outAt l m q r (by omega) hq
          rw [← e1] at e2
          rw [e2]
          exact or_step l q r x (by omega) HGL.out h0
        refine region_tail 10 (by kernel_rfl) (by kernel_rfl) ?_
        intro w2 hb2 hc2 hf2 hh2
        have HH2 := Aside0.mk hh2
        clear hh2
        have hcell2 := (hc2 _).trans hcell
        have hfr2 := (hf2 _).trans hfr
        clear hc2 hf2
        simp only [List.take_succ_cons, List.take_zero, List.drop_succ_cons, List.drop_zero]
        repeat still_step
        refine wpStill_nil ?_
        go_wp2_with fail
        obtain rfl := HMM.out
        go_roundg (n - i)
        case measure => omega
        case rel => exact ⟨i + 1, by go_num, by omega, by omega, by rw [hst.out]; exact (hput _).below2 hb2 HH2.out, (HB.trans (hb2.mono HB.size)).setCell (p := ⟨g, q, none⟩) hg1 _⟩
    · have hi2 : i = n := by omega
      subst hi2
      go_wp2_with fail
      go_ret2
      exact ⟨A1, c1, rfl, HO, HB⟩

set_option maxHeartbeats 4000000 in
set_option maxRecDepth 100000 in
theorem bytes_bad (A : Option Addr) (n c : Nat) (w : World) (hm : n ≤ 70368744177664) (h8 : n % 8 ≠ 0) :
    Calls Try.prog 15 #[.slice A n c] w fun e w' => e = .returned (.tuple #[.slice none 0 0, .int .i64 2]) ∧ w' = w := by
  have h81 : ((n : Int) % 8 != 0) = true := by simp; omega
  clear h8
  go_enter Try.func15, Try.ntmps15
  go_wp2_with fail
  go_ret2
  exact ⟨rfl, rfl⟩

set_option maxHeartbeats 4000000 in
set_option maxRecDepth 100000 in
theorem bytesref_bad (A : Option Addr) (n c : Nat) (w : World) (hm : n ≤ 70368744177664) (h8 : n % 8 ≠ 0) :
    Calls Try.prog 18 #[.slice A n c] w fun e w' => e = .returned (.tuple #[.slice none 0 0, .int .i64 2]) ∧ w' = w := by
  have h81 : 0 < (n : Int) % 8 := by omega
  clear h8
  go_enter Try.func18, Try.ntmps18
  go_wp2_with fail
  go_ret2
  exact ⟨rfl, rfl⟩

end Go.Proofs.Ytcmacdjocbeeaaa.BitsW
