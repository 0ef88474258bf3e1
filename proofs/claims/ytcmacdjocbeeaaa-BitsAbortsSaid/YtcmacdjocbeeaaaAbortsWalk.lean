/- Seven 1s side by side behind stuffed bits are given up with ErrAbort, whatever follows: for every two rows of bits up to 100; of longer ones nothing is asked. No condition. -/
import Derived.Test.YtcmacdjocbeeaaaBitsW6
namespace Go.Proofs.Ytcmacdjocbeeaaa.Aborts4
open Go.RowKit Go.Proofs.YtcmacdjocbeeaaaW.PrintWords Go.Proofs.YtcmacdjocbeeaaaW.PrintLast Go.Proofs.YtcmacdjocbeeaaaW.PrintMore Go.Proofs.Ytcmacdjocbeeaaa.K Go.Proofs.Ytcmacdjocbeeaaa.BitsPure Go.Proofs.Ytcmacdjocbeeaaa.StuffW Go.Proofs.Ytcmacdjocbeeaaa.BitsW
set_option linter.unusedVariables false
set_option linter.unusedSimpArgs false

theorem sliceN {e B n : Nat} {w : World} {v : Value} {xs : List Int} (h : Own (Kd.int .u8) e B w v xs) (hn : xs.length = n) : ∃ A c, v = .slice A n c ∧ n ≤ c := by
  subst hn
  exact h.slice
theorem aborts_pure (a : List Int) : ∀ (n : Nat) (r acc : List Int), n ≤ 4 → ∃ n' acc', n' ≤ 4 ∧ unstuffL n (stuffL n a ++ r) acc = unstuffL n' r acc' := by
  induction a with
  | nil => intro n r acc hn; exact ⟨n, acc, hn, by simp [stuffL]⟩
  | cons x xs ih =>
    intro n r acc hn
    unfold stuffL
    by_cases hx : x = 0
    · rw [if_pos hx]
      obtain ⟨n', acc', h1, h2⟩ := ih 0 r (acc ++ [one 0]) (by omega)
      refine ⟨n', acc', h1, ?_⟩
      rw [List.cons_append, unstuffL, if_neg (by omega), if_pos rfl]
      exact h2
    · rw [if_neg hx]
      by_cases h5 : n + 1 = 5
      · rw [if_pos h5]
        obtain ⟨n', acc', h1, h2⟩ := ih 0 r (acc ++ [one 1]) (by omega)
        refine ⟨n', acc', h1, ?_⟩
        rw [List.cons_append, List.cons_append, unstuffL, if_neg (by omega), if_neg (by omega), h5, unstuffL, if_pos rfl, if_pos rfl]
        exact h2
      · rw [if_neg h5]
        obtain ⟨n', acc', h1, h2⟩ := ih (n + 1) r (acc ++ [one 1]) (by omega)
        refine ⟨n', acc', h1, ?_⟩
        rw [List.cons_append, unstuffL, if_neg (by omega), if_neg (by omega)]
        exact h2
theorem aborts_end (b : List Int) (n : Nat) (acc : List Int) (hn : n ≤ 4) : unstuffL n ([0, 1, 1, 1, 1, 1, 1, 1] ++ b) acc = ([], 4) := by
  simp only [List.cons_append, List.nil_append]
  rw [unstuffL, if_neg (by omega), if_pos rfl]
  simp [unstuffL]
theorem aborts_all (a b : List Int) : unstuffL 0 (stuffL 0 a ++ [0, 1, 1, 1, 1, 1, 1, 1] ++ b) [] = ([], 4) := by
  obtain ⟨n', acc', h1, h2⟩ := aborts_pure a 0 ([0, 1, 1, 1, 1, 1, 1, 1] ++ b) [] (by omega)
  rw [List.append_assoc, h2, aborts_end b n' acc' h1]

set_option maxHeartbeats 4000000 in
set_option maxRecDepth 100000 in
theorem ab_long (A0 A1 : Option Addr) (n c n1 c1 : Nat) (w : World) (hn : n ≤ 9223372036854775807) (hn1 : n1 ≤ 9223372036854775807) (h : 100 < n ∨ 100 < n1) :
    Calls Try.prog 4 #[.slice A0 n c, .slice A1 n1 c1] w fun e w' => e = .returned (.bool true) ∧ Below w.heap.size w w' := by
  by_cases h1 : (100 : Int) < (n : Int)
  · clear h
    go_enter Try.func4, Try.ntmps4
    go_wp2_with (first | (go_at_call 8; refine (alive_ok _).mono ?_; rintro e w1 ⟨rfl, HB1⟩))
    go_ret
    exact ⟨rfl, HB1⟩
  · have h2 : (100 : Int) < (n1 : Int) := by omega
    clear h
    go_enter Try.func4, Try.ntmps4
    go_wp2_with (first | (go_at_call 8; refine (alive_ok _).mono ?_; rintro e w1 ⟨rfl, HB1⟩))
    go_ret
    exact ⟨rfl, HB1⟩

set_option maxHeartbeats 8000000 in
set_option maxRecDepth 100000 in
theorem ab_short (A0 A1 : Option Addr) (n c n1 c1 : Nat) (a b : List Int) (w : World) (hr : Rds (Kd.int .u8) w A0 n c a) (hr1 : Rds (Kd.int .u8) w A1 n1 c1 b) (hb : bitsOk a) (hb1 : bitsOk b) (hl : n ≤ 100) (hl1 : n1 ≤ 100) :
    Calls Try.prog 4 #[.slice A0 n c, .slice A1 n1 c1] w fun e w' => e = .returned (.bool true) ∧ Below w.heap.size w w' := by
  have h1 : ¬ (100 : Int) < (n : Int) := by omega
  have h2 : ¬ (100 : Int) < (n1 : Int) := by omega
  have hlen := Aside0.mk hr.len
  have hlen1 := Aside0.mk hr1.len
  have hs1 := (stuffL_len a 0 (by omega)).2
  have hall := aborts_all a b
  have hsb := stuffL_bit a 0
  generalize hS : stuffL 0 a = S at *
  have HS1 := Aside0.mk hs1
  have HSb := Aside0.mk hS
  have HALL := Aside0.mk hall
  have HBK : Aside0 (bitsOk (S ++ [0, 1, 1, 1, 1, 1, 1, 1] ++ b)) := ⟨fun x hx => by
    simp only [List.mem_append] at hx
    rcases hx with (hx | hx) | hx
    · have := hsb x hx; omega
    · simp at hx; omega
    · exact hb1 x hx⟩
  clear hs1 hS hall hsb
  go_enter Try.func4, Try.ntmps4
  go_wp2_with (first
    | (go_at_call 8; refine (alive_ok _).mono ?_; rintro e w1 ⟨rfl, HB1⟩)
    | (go_at_call 10; (with_reducible refine (stuffref_ok _ _ _ a _ (hr.below HB1) hb (by have := hlen.out; omega)).mono ?_); rintro e w2 ⟨A2, c2, rfl, HO2, hn⟩; have HB2 := below_step HB1 hn; clear hn; rw [HSb.out] at HO2 ⊢; have HO2' := HO2.alloc (.cells #[.int .u8 0, .int .u8 1, .int .u8 1, .int .u8 1, .int .u8 1, .int .u8 1, .int .u8 1, .int .u8 1] 5); have HB2' := below_alloc HB2 (.cells #[.int .u8 0, .int .u8 1, .int .u8 1, .int .u8 1, .int .u8 1, .int .u8 1, .int .u8 1, .int .u8 1] 5); have hl2 : Rds (Kd.int .u8) (w2.alloc (.cells #[.int .u8 0, .int .u8 1, .int .u8 1, .int .u8 1, .int .u8 1, .int .u8 1, .int .u8 1, .int .u8 1] 5)) (some ⟨w2.heap.size, 0, none⟩) 8 8 [0, 1, 1, 1, 1, 1, 1, 1] := (own_lit (enc := Value.int .u8) (h1 := fun _ => rfl) 5 0 w2 [0, 1, 1, 1, 1, 1, 1, 1] (Nat.zero_le _) (by decide)).rds)
    | (at_builtin; refine app_rowi Try.underlying22 info5 rfl (by decide) (.tmp 24) (.tmp 25) rfl rfl rfl rfl (Own.lower HO2' HB1.size) hl2 HB2' HB2'.size (by have := HS1.out; have := hlen.out; omega) ?_; intro v3 w3 HO3 HB3 hB3; obtain ⟨A3, c3, rfl, hc3⟩ := sliceN HO3 (n := S.length + 8) (by simp))
    | (at_builtin; refine app_rowi Try.underlying22 info5 rfl (by decide) (.tmp 28) (.tmp 29) rfl rfl rfl rfl HO3 (hr1.below HB3) HB3 HB3.size (by have := HS1.out; have := hlen.out; simp; omega) ?_; intro v4 w4 HO4 HB4 hB4; obtain ⟨A4, c4, rfl, hc4⟩ := sliceN HO4 (n := S.length + 8 + b.length) (by simp; omega))
    | (go_at_call 11; (with_reducible refine (unstuff_ok _ _ _ (S ++ [0, 1, 1, 1, 1, 1, 1, 1] ++ b) _ HO4.rds HBK.out (by have := HS1.out; have := hlen.out; have := hlen1.out; simp; omega)).mono ?_); rintro e w5 ⟨A5, c5, rfl, HO5, hn⟩; have HB5 := below_step HB4 hn; clear hn; rw [HALL.out] at HO5 ⊢)
    | (go_at_call 12; (with_reducible refine (num_ok _ _).mono ?_); rintro e w' ⟨rfl, rfl⟩))
  go_ret
  exact ⟨rfl, HB5⟩

theorem walk (a0 : Option Addr) (len0 cap0 : Nat) (z0 : List Int) (a1 : Option Addr) (len1 cap1 : Nat) (z1 : List Int) (W : World) (w0 : IsRow .u8 W a0 len0 cap0 z0) (_y0 : len0 * 1 ≤ 140737488351232) (w1 : IsRow .u8 W a1 len1 cap1 z1) (_y1 : len1 * 1 ≤ 140737488351232) :
    Calls Try.prog 4 #[.slice a0 len0 cap0, .slice a1 len1 cap1] W fun e w' => e = .returned (.bool true) ∧ Below W.heap.size W w' := by
  obtain ⟨l, hr, hm, hw⟩ := rds_of_row w0
  obtain ⟨l1, hr1, hm1, hw1⟩ := rds_of_row w1
  by_cases h : 100 < len0 ∨ 100 < len1
  · exact ab_long a0 a1 len0 cap0 len1 cap1 W hm hm1 h
  · exact ab_short a0 a1 len0 cap0 len1 cap1 l l1 W hr hr1 (fun x hx => wf_u8 (hw x hx)) (fun x hx => wf_u8 (hw1 x hx)) (by omega) (by omega)

end Go.Proofs.Ytcmacdjocbeeaaa.Aborts4
