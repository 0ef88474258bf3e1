/- Bits as they are written. -/
import Derived.Test.YtcmacdjocbeeaaaBitsW6
namespace Go.Proofs.Ytcmacdjocbeeaaa.BitsW
open Go.RowKit Go.Proofs.YtcmacdjocbeeaaaW.PrintWords Go.Proofs.YtcmacdjocbeeaaaW.PrintLast Go.Proofs.YtcmacdjocbeeaaaW.PrintMore Go.Proofs.Ytcmacdjocbeeaaa.K Go.Proofs.Ytcmacdjocbeeaaa.BitsPure Go.Proofs.Ytcmacdjocbeeaaa.StuffW
set_option linter.unusedVariables false
set_option linter.unusedSimpArgs false

def rowL (s : ByteArray) : List Int := (bytesOf s).map fun x => IntKind.u8.wrap (x - 48)

set_option maxHeartbeats 4000000 in
set_option maxRecDepth 100000 in
theorem row_ok (s : ByteArray) (w : World) (hl : s.size ≤ 70368744177664) :
    Calls Try.prog 13 #[.string s] w fun e w' => ∃ A1 c1, e = .returned (.slice A1 (rowL s).length c1) ∧ Own (Kd.int .u8) 5 w.heap.size w' (.slice A1 (rowL s).length c1) (rowL s) ∧ Below w.heap.size w w' := by
  have hn : (bytesOf s).length = s.size := bytesOf_length s
  have HN := Aside0.mk hn
  generalize hn2 : s.size = n at *
  obtain ⟨res, hres⟩ : ∃ res, res = rowL s := ⟨_, rfl⟩
  have hlen : res.length = n := by rw [hres, rowL, List.length_map, hn]
  rw [← hres]
  have HS := Aside0.mk hres
  have HL := Aside0.mk hlen
  have HM := Aside0.mk hl
  clear hres hlen hn
  go_enter Try.func13, Try.ntmps13
  go_wp2
  go_loopg [3, 4] (n + 1) (fun kq v3 v4 w' => ∃ (i : Nat) (acc : List Int), v4 = .int .i64 i ∧ i ≤ n ∧ kq = n + 1 - i ∧ Aside0 (acc ++ ((bytesOf s).drop i).map (fun x => IntKind.u8.wrap (x - 48)) = res) ∧ Own (Kd.int .u8) 5 w.heap.size w' v3 acc ∧ Below w.heap.size w w')
  case atStart => exact ⟨0, [], rfl, by omega, by omega, ⟨by simpa [rowL] using HS.out.symm⟩, Own.nil _ _ _ _, Below.refl _ _⟩
  case round =>
    obtain ⟨i, acc, rfl, hi, hk, HA, HO, HB⟩ := hrel
    by_cases hlt : i < n
    · have hdr := drop_rd (bytesOf s) i (by have := HN.out; omega)
      have hacc : acc.length + 1 < 140737488355328 := by
        have h1 := congrArg List.length HA.out
        have h2 := HL.out
        have h3 := HM.out
        simp only [List.length_append] at h1
        omega
      have HAD := Aside0.mk HA.out
      rw [hdr] at HAD
      clear hdr
      rw [rd_bytesOf] at HAD
      go_wp2_with (first | (at_builtin; refine app_int Try.underlying22 info5 rfl (by decide) (.tmp 11) (.tmp 16) rfl rfl rfl rfl HO HB HB.size (by omega) ?_; intro v1 w1 HO1 HB1 hB1))
      go_roundg (n - i)
      case measure => omega
      case rel => exact ⟨i + 1, acc ++ [IntKind.u8.wrap (bt s i - 48)], by go_num, by omega, by omega, ⟨by rw [← HAD.out]; simp⟩, by simp only [IntKind.wrap_u8]; have hb := bt_at s (i : Int) (by simp only [Int.toNat_natCast]; omega); simp only [Int.toNat_natCast] at hb; rw [hb] at HO1; exact HO1, HB1⟩
    · have hi2 : i = n := by omega
      subst hi2
      obtain ⟨A1, c1, rfl, hc1⟩ := HO.slice
      go_wp2_with fail
      have hfin : acc = res := by have := HA.out; rw [List.drop_eq_nil_of_le (by have := HN.out; omega)] at this; simpa using this
      subst hfin
      go_ret
      exact ⟨A1, c1, rfl, HO, HB⟩

end Go.Proofs.Ytcmacdjocbeeaaa.BitsW
