/- bits: bytes' bits by the reference, and the examples of the document, by walks. No condition but the slices' readings. -/
import Derived.Test.YtcmacdjocbeeaaaBitsW5
namespace Go.Proofs.Ytcmacdjocbeeaaa.BitsW
open Go.RowKit Go.Proofs.YtcmacdjocbeeaaaW.PrintWords Go.Proofs.YtcmacdjocbeeaaaW.PrintLast Go.Proofs.YtcmacdjocbeeaaaW.PrintMore Go.Proofs.Ytcmacdjocbeeaaa.K Go.Proofs.Ytcmacdjocbeeaaa.BitsPure Go.Proofs.Ytcmacdjocbeeaaa.StuffW
set_option linter.unusedVariables false
set_option linter.unusedSimpArgs false

set_option maxHeartbeats 4000000 in
set_option maxRecDepth 100000 in
theorem bitsref_ok (A : Option Addr) (n c : Nat) (l : List Int) (w : World) (hr : Rds (Kd.int .u8) w A n c l) (hb : bitsOk l) (hl : l.length ≤ 7036874417766) :
    Calls Try.prog 16 #[.slice A n c] w fun e w' => ∃ A1 c1, e = .returned (.slice A1 (ofL l).length c1) ∧ Own (Kd.int .u8) 5 w.heap.size w' (.slice A1 (ofL l).length c1) (ofL l) ∧ Below w.heap.size w w' := by
  obtain ⟨res, hres⟩ : ∃ res, res = ofL l := ⟨_, rfl⟩
  have hlen := ofL_len l
  rw [← hres] at hlen ⊢
  have hn := hr.len
  have hc := hr.cap
  have HS := Aside0.mk hres
  have HN := Aside0.mk hn
  have HL := Aside0.mk hlen
  have HB0 := Aside0.mk hb
  have HM := Aside0.mk hl
  clear hres hlen hn hb hl
  have hm : n ≤ 7036874417766 := by rw [HN.out]; exact HM.out
  go_enter Try.func16, Try.ntmps16
  go_wp2
  go_loopg [3, 4] (n + 1) (fun kq v3 v9 w' => ∃ (i : Nat) (acc : List Int), v9 = .int .i64 i ∧ i ≤ n ∧ kq = n + 1 - i ∧ Aside0 (acc ++ ofL (l.drop i) = res) ∧ Own (Kd.int .u8) 5 w.heap.size w' v3 acc ∧ Below w.heap.size w w')
  case atStart => exact ⟨0, [], rfl, by omega, by omega, ⟨by simpa using HS.out.symm⟩, Own.nil _ _ _ _, Below.refl _ _⟩
  case round =>
    obtain ⟨i, acc, rfl, hi, hk, HA, HO, HB⟩ := hrel
    by_cases hlt : i < n
    · obtain ⟨ad, hA⟩ := hr.some_at i hlt
      subst hA
      have hbx := HB0.out (rd l i) (rd_mem l i (by have := HN.out; omega))
      have hdr := drop_rd l i (by have := HN.out; omega)
      have HAD := HA.out
      rw [hdr, ofL_cons] at HAD
      have HAD' := Aside0.mk HAD
      clear HAD hdr
      generalize hg : rd l i = x at *
      have HG := Aside0.mk hg
      clear hg
      obtain ⟨hb0, hb1⟩ := hbx
      go_wp2_with fail
      go_loopg [3, 5] 9 (fun kq v3 v13 w' => ∃ (j : Nat) (acc2 : List Int), v13 = .int .i64 j ∧ j ≤ 8 ∧ kq = 9 - j ∧ Aside0 (acc2 ++ ((byteBits x).drop j ++ ofL (l.drop (i + 1))) = res) ∧ Own (Kd.int .u8) 5 w.heap.size w' v3 acc2 ∧ Below w.heap.size w w')
      case atStart => exact ⟨0, acc, rfl, by omega, by omega, ⟨by simpa using HAD'.out⟩, HO, HB⟩
      case round =>
        clear HO HB HA HAD'
        obtain ⟨j, acc2, rfl, hj, hk2, HA2, HO2, HB2⟩ := hrel
        by_cases hj8 : j < 8
        · have hacc : acc2.length + 1 < 140737488355328 := by
            have h1 := congrArg List.length HA2.out
            have h2 := HL.out
            have h3 := HM.out
            rw [byteBits_drop x j hj8] at h1
            simp only [List.length_append, List.length_cons] at h1
            omega
          have hb2 := and_one x j hb0 hb1
          have hB2 := HB2.size
          have hx := hr.cell_int HB2 i hlt
          rw [HG.out] at hx
          go_wp2_with (first | (at_builtin; refine app_int Try.underlying22 info5 rfl (by decide) (.tmp 16) (.tmp 25) rfl rfl rfl rfl HO2 HB2 hB2 (by omega) ?_; intro v3 w3 HO3 HB3 hB3))
          go_roundg (8 - j)
          case measure => omega
          case rel => exact ⟨j + 1, acc2 ++ [bitAt x j], by go_num, by omega, by omega, ⟨by rw [← HA2.out, byteBits_drop x j hj8]; simp⟩, HO3, HB3⟩
        · have hj2 : j = 8 := by omega
          subst hj2
          go_wp2_with fail
          go_roundg (n - i)
          case measure => omega
          case rel => exact ⟨i + 1, acc2, by go_num, by omega, by omega, ⟨by rw [← HA2.out]; simp [byteBits]⟩, HO2, HB2⟩
    · have hi2 : i = n := by omega
      subst hi2
      obtain ⟨A1, c1, rfl, hc1⟩ := HO.slice
      go_wp2_with fail
      have hfin : acc = res := by have := HA.out; rw [List.drop_eq_nil_of_le (by have := HN.out; omega)] at this; simpa [ofL] using this
      subst hfin
      go_ret
      exact ⟨A1, c1, rfl, HO, HB⟩

set_option maxHeartbeats 400000 in
theorem num_ok (x : Int) (w : World) : Calls Try.prog 12 #[.int .i64 x] w fun e w' => e = .returned (.int .i64 x) ∧ w' = w := by
  go_enter Try.func12, Try.ntmps12
  go_wp2
  go_ret
  exact ⟨rfl, rfl⟩

theorem conv22 (A : Option Addr) (n c : Nat) (xs : List Int) (w : World) (h : Rds (Kd.int .u8) w A n c xs) : (convert 22 9 (.slice A n c)).run Try.prog w = .ok (.string (strOfNums xs)) w :=
  Kd.C_string Try.underlying22 Try.underlying5 Try.underlying9 h.row

set_option maxHeartbeats 4000000 in
set_option maxRecDepth 100000 in
theorem alive_ok (w : World) : Calls Try.prog 8 #[] w fun e w' => e = .returned (.bool true) ∧ Below w.heap.size w w' := by
  have hs : stuffL 0 [1, 1, 1, 1, 1] = [1, 1, 1, 1, 1, 0] := by decide
  have hstr : ((strOfNums [1, 1, 1, 1, 1, 0]).toList == ([1, 1, 1, 1, 1, 0] : List UInt8)) = true := by decide +kernel
  have ho : (ofL [3]).length = 8 := by decide
  have hbk1 : bitsOk [1, 1, 1, 1, 1] := by unfold bitsOk; decide
  have hbk2 : bitsOk [3] := by unfold bitsOk; decide
  go_enter Try.func8, Try.ntmps8
  go_wp2_with (first
    | (go_at_call 9; have hl1 : Rds (Kd.int .u8) (w.alloc (.cells #[.int .u8 1, .int .u8 1, .int .u8 1, .int .u8 1, .int .u8 1] 5)) (some ⟨w.heap.size, 0, none⟩) 5 5 [1, 1, 1, 1, 1] := (own_lit (enc := Value.int .u8) (h1 := fun _ => rfl) 5 0 w [1, 1, 1, 1, 1] (Nat.zero_le _) (by decide)).rds; (with_reducible refine (stuff_ok _ _ _ [1, 1, 1, 1, 1] _ hl1 hbk1 (by decide)).mono ?_); rintro e w2 ⟨A2, c2, rfl, HO2, hn⟩; have HB2 := below_step (below_alloc (Below.refl _ _) _) hn; clear hn; rw [hs] at HO2; have hcv : (convert 22 9 (.slice A2 6 c2)).run Try.prog w2 = .ok (.string (strOfNums [1, 1, 1, 1, 1, 0])) w2 := conv22 _ _ _ _ _ HO2.rds)
    | (go_at_call 14; have hl2 : Rds (Kd.int .u8) (w2.alloc (.cells #[.int .u8 3] 5)) (some ⟨w2.heap.size, 0, none⟩) 1 1 [3] := (own_lit (enc := Value.int .u8) (h1 := fun _ => rfl) 5 0 w2 [3] (Nat.zero_le _) (by decide)).rds; (with_reducible refine (of_ok _ _ _ [3] _ hl2 hbk2 (by decide)).mono ?_); rintro e w3 ⟨A3, c3, rfl, HO3, hn⟩; have HB3 := below_step (below_alloc HB2 _) hn; clear hn))
  go_ret
  exact ⟨rfl, HB3⟩

end Go.Proofs.Ytcmacdjocbeeaaa.BitsW
