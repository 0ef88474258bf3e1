/- Contracts of the functions that tell bits' bytes, by walks. No condition but the slices' readings. -/
import Derived.Test.YtcmacdjocbeeaaaBitsW4
import Derived.StillTailTactics
import Derived.BigRegion
namespace Go.Proofs.Ytcmacdjocbeeaaa.BitsW
open Go.RowKit Go.Proofs.YtcmacdjocbeeaaaW.PrintWords Go.Proofs.YtcmacdjocbeeaaaW.PrintLast Go.Proofs.YtcmacdjocbeeaaaW.PrintMore Go.Proofs.Ytcmacdjocbeeaaa.K Go.Proofs.Ytcmacdjocbeeaaa.BitsPure Go.Proofs.Ytcmacdjocbeeaaa.StuffW
set_option linter.unusedVariables false
set_option linter.unusedSimpArgs false

theorem wrap_zero : IntKind.u8.wrap 0 = 0 := by decide
theorem or_step0 (l : List Int) (q r : Nat) (h : r < 8) (hx : BitsPure.get l (8 * q + r) = 0) : bits .or .u8 (bv l q r) 0 = bv l q (r + 1) := by
  have hb := bv_bound l q r
  have hp := pow_le8 r h
  rw [or_zero _ hb.1 (by omega)]
  simp [bv, hx, one]

set_option maxHeartbeats 4000000 in
set_option maxRecDepth 100000 in
theorem bytesref_ok (A : Option Addr) (n c : Nat) (l : List Int) (w : World) (hr : Rds (Kd.int .u8) w A n c l) (hb : bitsOk l) (hl : l.length ≤ 70368744177664) (h8 : n % 8 = 0) :
    Calls Try.prog 18 #[.slice A n c] w fun e w' => ∃ A1 c1, e = .returned (.tuple #[.slice A1 (n / 8) c1, .int .i64 0]) ∧ Own (Kd.int .u8) 5 w.heap.size w' (.slice A1 (n / 8) c1) (outAt l (n / 8) n) ∧ Below w.heap.size w w' := by
  have hn := hr.len
  have hc := hr.cap
  have hm : n ≤ 70368744177664 := by omega
  have HN := Aside0.mk hn
  have HB0 := Aside0.mk hb
  have H8 := Aside0.mk h8
  clear hn hb hl
  have h81 : decide (0 < (n : Int) % 8) = false := decide_eq_false (by omega)
  clear h8
  go_enter Try.func18, Try.ntmps18
  go_wp2
  go_loopg [4, 5] (n + 1) (fun kq v4 v5 w' => ∃ (i : Nat), v5 = .int .i64 i ∧ i ≤ n ∧ kq = n + 1 - i ∧ Own (Kd.int .u8) 5 w.heap.size w' v4 (outAt l ((i + 7) / 8) i) ∧ Below w.heap.size w w')
  case atStart => exact ⟨0, rfl, by omega, by omega, by simpa [outAt] using Own.nil _ _ _ _, Below.refl _ _⟩
  case round =>
    obtain ⟨i, rfl, hi, hk, HO, HB⟩ := hrel
    by_cases hlt : i < n
    · obtain ⟨ad, hA⟩ := hr.some_at i hlt
      subst hA
      have hbx := HB0.out (rd l i) (rd_mem l i (by have := HN.out; omega))
      have hx := hr.cell_int HB i hlt
      obtain ⟨q, hqq⟩ : ∃ q, q = i / 8 := ⟨_, rfl⟩
      obtain ⟨r, hrr⟩ : ∃ r, r = i % 8 := ⟨_, rfl⟩
      have hget : rd l i = BitsPure.get l (8 * q + r) := by rw [show 8 * q + r = i by omega]; simp [rd, BitsPure.get]
      generalize hg : rd l i = x at *
      have HG := Aside0.mk hg
      have HGL := Aside0.mk hget.symm
      clear hg hget
      have dq1 : (i : Int) / 8 = q := by omega
      have dq2 : (i : Int).tdiv 8 = q := by rw [Int.tdiv_eq_ediv_of_nonneg (by omega)]; exact dq1
      have dq3 : IntKind.i64.wrap (q : Int) = q := IntWalk.i64_in _ (by omega)
      have dr1 : (i : Int) % 8 = r := by omega
      have dr2 : (i : Int).tmod 8 = r := by rw [Int.tmod_eq_emod_of_nonneg (by omega)]; exact dr1
      have dr3 : IntKind.i64.wrap (r : Int) = r := IntWalk.i64_in _ (by omega)
      have dr4 : IntKind.u64.wrap (r : Int) = r := by simp [IntKind.wrap, IntKind.signed, IntKind.bits]; omega
      have hr8 : (r : Int) < 8 := by omega
      have e1 : i = 8 * q + r := by omega
      have HE := Aside0.mk e1
      have hlen : (i + 7) / 8 < 140737488355328 - 2 := by omega
      have hB := HB.size
      clear hqq hrr e1
      obtain ⟨hb0, hb1⟩ := hbx
      by_cases hr0 : r = 0
      · have hr1 : ((r : Int) == 0) = true := by simp; omega
        have HR0 := Aside0.mk hr0
        clear hr0
        have HO' := HO
        rw [show (i + 7) / 8 = i / 8 by have := HE.out; have := HR0.out; omega] at HO'
        go_wp2_with (first | (at_builtin; refine app_int Try.underlying22 info5 rfl (by decide) (.tmp 19) (.tmp 20) rfl rfl rfl rfl HO' HB HB.size (by simp [outAt]; omega) ?_; intro v3 w3 HO3 HB3 hB3))
        rw [← outAt_more l i (by have := HE.out; have := HR0.out; omega), show i / 8 + 1 = q + 1 by have := HE.out; omega] at HO3
        have HO4 := HO3
        have HB4 := HB3
        clear HO3 HB3 HO HO'
        obtain ⟨A1, c1, rfl, hc1⟩ := HO4.slice
        rw [outAt_len] at HO4 ⊢
        obtain ⟨g, hA, hg1, hg2, hcell, hfr, hput⟩ := HO4.elem (0 : Int) q (by omega)
        subst hA
        have e2 := rd_outAt l (q + 1) q r (by omega) (by omega)
        rw [← HE.out] at e2
        have hx4 := hr.cell_int HB4 i hlt
        rw [HG.out] at hx4
        rw [e2] at hcell
        have hqq1 : (q : Int) < (q : Int) + 1 := by omega
        by_cases h0 : x = 0
        · subst h0
          have ho : one 0 = 0 := rfl
          have hor := or_step0 l q r (by omega) HGL.out
          refine region_tail 19 (by kernel_rfl) (by kernel_rfl) ?_
          intro w2 hb2 hc2 hf2 hh2
          have HH2 := Aside0.mk hh2
          clear hh2
          have hcell2 := (hc2 _).trans hcell
          have hfr2 := (hf2 _).trans hfr
          have hx2 := (hc2 _).trans hx4
          clear hc2 hf2
          simp only [List.take_succ_cons, List.take_zero, List.drop_succ_cons, List.drop_zero]
          repeat still_step
          still_call (one_ok _ _)
          repeat still_step
          refine wpStill_nil ?_
          go_wp2_with fail
          go_roundg (n - i)
          case measure => omega
          case rel => exact ⟨i + 1, by go_num, by omega, by omega, by rw [show (i + 1 + 7) / 8 = q + 1 by have := HE.out; omega, outAt_step l (q + 1) i (by have := HE.out; omega), show i / 8 = q by have := HE.out; omega, show i % 8 = r by have := HE.out; omega]; exact (hput _).below2 hb2 HH2.out, (HB4.trans (hb2.mono HB4.size)).setCell (p := ⟨g, q, none⟩) hg1 _⟩
        · have ho : one x = 1 := by unfold one; rw [if_neg h0]
          have hor := or_step l q r x (by omega) HGL.out h0
          refine region_tail 19 (by kernel_rfl) (by kernel_rfl) ?_
          intro w2 hb2 hc2 hf2 hh2
          have HH2 := Aside0.mk hh2
          clear hh2
          have hcell2 := (hc2 _).trans hcell
          have hfr2 := (hf2 _).trans hfr
          have hx2 := (hc2 _).trans hx4
          clear hc2 hf2
          simp only [List.take_succ_cons, List.take_zero, List.drop_succ_cons, List.drop_zero]
          repeat still_step
          still_call (one_ok _ _)
          repeat still_step
          refine wpStill_nil ?_
          go_wp2_with fail
          go_roundg (n - i)
          case measure => omega
          case rel => exact ⟨i + 1, by go_num, by omega, by omega, by rw [show (i + 1 + 7) / 8 = q + 1 by have := HE.out; omega, outAt_step l (q + 1) i (by have := HE.out; omega), show i / 8 = q by have := HE.out; omega, show i % 8 = r by have := HE.out; omega]; exact (hput _).below2 hb2 HH2.out, (HB4.trans (hb2.mono HB4.size)).setCell (p := ⟨g, q, none⟩) hg1 _⟩
      · have hr1 : ((r : Int) == 0) = false := by simp; omega
        have HR0 := Aside0.mk hr0
        clear hr0
        have HO4 := HO
        rw [show (i + 7) / 8 = q + 1 by have := HE.out; have := HR0.out; omega] at HO4
        have HB4 := HB
        go_wp2_with fail
        obtain ⟨A1, c1, rfl, hc1⟩ := HO4.slice
        rw [outAt_len] at HO4 ⊢
        obtain ⟨g, hA, hg1, hg2, hcell, hfr, hput⟩ := HO4.elem (0 : Int) q (by omega)
        subst hA
        have e2 := rd_outAt l (q + 1) q r (by omega) (by omega)
        rw [← HE.out] at e2
        have hx4 := hr.cell_int HB4 i hlt
        rw [HG.out] at hx4
        rw [e2] at hcell
        have hqq1 : (q : Int) < (q : Int) + 1 := by omega
        by_cases h0 : x = 0
        · subst h0
          have ho : one 0 = 0 := rfl
          have hor := or_step0 l q r (by omega) HGL.out
          refine region_tail 19 (by kernel_rfl) (by kernel_rfl) ?_
          intro w2 hb2 hc2 hf2 hh2
          have HH2 := Aside0.mk hh2
          clear hh2
          have hcell2 := (hc2 _).trans hcell
          have hfr2 := (hf2 _).trans hfr
          have hx2 := (hc2 _).trans hx4
          clear hc2 hf2
          simp only [List.take_succ_cons, List.take_zero, List.drop_succ_cons, List.drop_zero]
          repeat still_step
          still_call (one_ok _ _)
          repeat still_step
          refine wpStill_nil ?_
          go_wp2_with fail
          go_roundg (n - i)
          case measure => omega
          case rel => exact ⟨i + 1, by go_num, by omega, by omega, by rw [show (i + 1 + 7) / 8 = q + 1 by have := HE.out; omega, outAt_step l (q + 1) i (by have := HE.out; omega), show i / 8 = q by have := HE.out; omega, show i % 8 = r by have := HE.out; omega]; exact (hput _).below2 hb2 HH2.out, (HB4.trans (hb2.mono HB4.size)).setCell (p := ⟨g, q, none⟩) hg1 _⟩
        · have ho : one x = 1 := by unfold one; rw [if_neg h0]
          have hor := or_step l q r x (by omega) HGL.out h0
          refine region_tail 19 (by kernel_rfl) (by kernel_rfl) ?_
          intro w2 hb2 hc2 hf2 hh2
          have HH2 := Aside0.mk hh2
          clear hh2
          have hcell2 := (hc2 _).trans hcell
          have hfr2 := (hf2 _).trans hfr
          have hx2 := (hc2 _).trans hx4
          clear hc2 hf2
          simp only [List.take_succ_cons, List.take_zero, List.drop_succ_cons, List.drop_zero]
          repeat still_step
          still_call (one_ok _ _)
          repeat still_step
          refine wpStill_nil ?_
          go_wp2_with fail
          go_roundg (n - i)
          case measure => omega
          case rel => exact ⟨i + 1, by go_num, by omega, by omega, by rw [show (i + 1 + 7) / 8 = q + 1 by have := HE.out; omega, outAt_step l (q + 1) i (by have := HE.out; omega), show i / 8 = q by have := HE.out; omega, show i % 8 = r by have := HE.out; omega]; exact (hput _).below2 hb2 HH2.out, (HB4.trans (hb2.mono HB4.size)).setCell (p := ⟨g, q, none⟩) hg1 _⟩
    · have hi2 : i = n := by omega
      subst hi2
      obtain ⟨A1, c1, rfl, hc1⟩ := HO.slice
      rw [outAt_len, show (i + 7) / 8 = i / 8 by have := H8.out; omega] at HO hc1 ⊢
      go_wp2_with fail
      go_ret2
      exact ⟨A1, c1, rfl, HO, HB⟩

end Go.Proofs.Ytcmacdjocbeeaaa.BitsW
