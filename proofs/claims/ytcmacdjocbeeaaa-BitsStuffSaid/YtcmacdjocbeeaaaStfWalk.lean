/- Stuff, Unstuff and Bytes are as defined, results and errors: for every row of bits up to 500; of a longer one nothing is asked. No condition. -/
import Derived.Test.YtcmacdjocbeeaaaBitsW6
namespace Go.Proofs.Ytcmacdjocbeeaaa.Stf7
open Go.RowKit Go.Proofs.YtcmacdjocbeeaaaW.PrintWords Go.Proofs.YtcmacdjocbeeaaaW.PrintLast Go.Proofs.YtcmacdjocbeeaaaW.PrintMore Go.Proofs.Ytcmacdjocbeeaaa.K Go.Proofs.Ytcmacdjocbeeaaa.BitsPure Go.Proofs.Ytcmacdjocbeeaaa.StuffW Go.Proofs.Ytcmacdjocbeeaaa.BitsW
set_option linter.unusedVariables false
set_option linter.unusedSimpArgs false

set_option maxHeartbeats 4000000 in
set_option maxRecDepth 100000 in
theorem stf_long (A0 : Option Addr) (n c : Nat) (w : World) (hl : 500 < n) (hn : n ≤ 9223372036854775807) :
    Calls Try.prog 7 #[.slice A0 n c] w fun e w' => e = .returned (.bool true) ∧ Below w.heap.size w w' := by
  have h1 : (500 : Int) < (n : Int) := by omega
  clear hl
  go_enter Try.func7, Try.ntmps7
  go_wp2_with (first | (go_at_call 8; refine (alive_ok _).mono ?_; rintro e w1 ⟨rfl, HB1⟩))
  go_ret
  exact ⟨rfl, HB1⟩

theorem outAt_bytes : True := trivial
set_option maxHeartbeats 8000000 in
set_option maxRecDepth 100000 in
theorem stf_short (A0 : Option Addr) (n c : Nat) (b : List Int) (w : World) (hr : Rds (Kd.int .u8) w A0 n c b) (hb : bitsOk b) (hl : n ≤ 500) :
    Calls Try.prog 7 #[.slice A0 n c] w fun e w' => e = .returned (.bool true) ∧ Below w.heap.size w w' := by
  have h1 : ¬ (500 : Int) < (n : Int) := by omega
  have hlen := Aside0.mk hr.len
  generalize hU : unstuffL 0 b [] = U at *
  have HU := Aside0.mk hU
  clear hU
  obtain ⟨u1, u2⟩ := U
  -- both Bytes agree
  obtain ⟨X, x2, hX⟩ : ∃ (X : List Int) (x2 : Int), ∀ w1, Below w.heap.size w w1 →
      (Calls Try.prog 15 #[.slice A0 n c] w1 fun e w' => ∃ A1 c1, e = .returned (.tuple #[.slice A1 X.length c1, .int .i64 x2]) ∧ Own (Kd.int .u8) 5 w1.heap.size w' (.slice A1 X.length c1) X ∧ Below w1.heap.size w1 w') ∧
      (Calls Try.prog 18 #[.slice A0 n c] w1 fun e w' => ∃ A1 c1, e = .returned (.tuple #[.slice A1 X.length c1, .int .i64 x2]) ∧ Own (Kd.int .u8) 5 w1.heap.size w' (.slice A1 X.length c1) X ∧ Below w1.heap.size w1 w') := by
    by_cases h8 : n % 8 = 0
    · refine ⟨outAt b (n / 8) n, 0, fun w1 hb1 => ?_⟩
      rw [outAt_len]
      exact ⟨bytes_ok _ _ _ _ _ (hr.below hb1) hb (by have := hlen.out; omega) h8, bytesref_ok _ _ _ _ _ (hr.below hb1) hb (by have := hlen.out; omega) h8⟩
    · refine ⟨[], 2, fun w1 hb1 => ⟨?_, ?_⟩⟩
      · refine (bytes_bad _ _ _ _ (by omega) h8).mono ?_
        rintro e w' ⟨rfl, rfl⟩
        exact ⟨none, 0, rfl, Own.nil _ _ _ _, Below.refl _ _⟩
      · refine (bytesref_bad _ _ _ _ (by omega) h8).mono ?_
        rintro e w' ⟨rfl, rfl⟩
        exact ⟨none, 0, rfl, Own.nil _ _ _ _, Below.refl _ _⟩
  have HX := Aside0.mk hX
  clear hX
  go_enter Try.func7, Try.ntmps7
  go_wp2_with (first
    | (go_at_call 8; refine (alive_ok _).mono ?_; rintro e w1 ⟨rfl, HB1⟩)
    | (at_builtin; refine app_rowi Try.underlying22 info5 rfl (by decide) (.const (.slice none 0 0)) (.tmp 22) rfl rfl rfl rfl (Own.nil _ _ w.heap.size _) (hr.below HB1) HB1 HB1.size (by simp; omega) ?_; intro v2 w2 HO2 HB2 hB2; rw [List.nil_append] at HO2; obtain ⟨A2, c2, rfl, hc2⟩ := HO2.slice)
    | (go_at_call 11; (with_reducible refine (unstuff_ok _ _ _ b _ HO2.rds hb (by have := hlen.out; omega)).mono ?_); rintro e w3 ⟨A3, c3, rfl, HO3, hn⟩; have HB3 := below_step HB2 hn; clear hn; rw [HU.out] at HO3 ⊢)
    | (go_at_call 17; (with_reducible refine (unref_ok _ _ _ b _ (hr.below HB3) hb (by have := hlen.out; omega)).mono ?_); rintro e w4 ⟨A4, c4, rfl, HO4, hn⟩; have HO34 := HO3.below hn; have HB4 := below_step HB3 hn; clear hn; rw [HU.out] at HO4 ⊢)
    | (go_at_call 15; (with_reducible refine (HX.out _ HB4).1.mono ?_); rintro e w5 ⟨A5, c5, rfl, HO5, hn⟩; have HO35 := HO34.below hn; have HO45 := HO4.below hn; have HB5 := below_step HB4 hn; clear hn)
    | (go_at_call 18; (with_reducible refine (HX.out _ HB5).2.mono ?_); rintro e w6 ⟨A6, c6, rfl, HO6, hn⟩; have HO36 := HO35.below hn; have HO46 := HO45.below hn; have HO56 := HO5.below hn; have HB6 := below_step HB5 hn; clear hn))
  have hr6 := (hr.below HB6)
  try simp only at HO36 HO46
  refine region_each (VT (fun i => match i with | 0 => .slice A0 n c | 2 => .string (strOfNums (stuffL 0 b)) | 3 => .slice A0 n c | 5 => .string (strOfNums (stuffL 0 b)) | 6 => .bool true | 7 => .bool true | 8 => .slice A3 u1.length c3 | 9 => .string (strOfNums u1) | 10 => .slice A4 u1.length c4 | 11 => .string (strOfNums u1) | 12 => .bool true | 13 => .bool true | 14 => .bool true | 15 => .int .i64 u2 | 16 => .int .i64 u2 | 17 => .int .i64 u2 | 18 => .bool true | 19 => .bool true | 20 => .bool true | 21 => .slice A5 X.length c5 | 22 => .string (strOfNums X) | 23 => .slice A6 X.length c6 | 24 => .string (strOfNums X) | 25 => .bool true | 26 => .bool true | 27 => .bool true | 28 => .int .i64 x2 | 29 => .int .i64 x2 | 30 => .int .i64 x2 | 31 => .bool true | 32 => .bool true | 33 => .bool true | _ => undef) [(1, (stuffL 0 b)), (4, (stuffL 0 b))]) (by kernel_rfl) (by kernel_rfl) (VT_stable _ _) ?_ ?_
  · refine ⟨?_, ?_, ?_, ?_, ?_, ?_, ?_, ?_, ?_, ?_, ?_, ?_, ?_, ?_, ?_, ?_, ?_, ?_, ?_, ?_, ?_, ?_, ?_, ?_, ?_, ?_, ?_, ?_, ?_, ?_, ?_, ?_, ?_, ?_, trivial⟩
    · intro a_ w_ st
      have e0 : a_.eval (.tmp 0) = .slice A0 n c := st.slot 0 (by kernel_rfl)
      exact op_yield (.slice A0 n c) (wanted_none rfl _) (by simp only [execOp, e0]; rfl) rfl
    · intro a_ w_ st
      have e42 : a_.eval (.tmp 42) = .slice A0 n c := st.dep 0 _ 42 rfl rfl (by kernel_rfl)
      skip
      exact op_call Try.func9 (by kernel_rfl) rfl #[.slice A0 n c] (wanted_none rfl _) rfl (by simp [e42]) (calls_sl (stuff_ok _ _ _ b w_ (hr6.below st.below) hb (by have := hlen.out; omega)))
    · intro a_ w_ st
      obtain ⟨A43_, c43_, e43, h43_⟩ : IsSl (stuffL 0 b) (a_.eval (.tmp 43)) w_ := st.dep 1 _ 43 rfl rfl (by kernel_rfl)
      have hc_ := conv22 _ _ _ _ w_ (h43_)
      exact op_yield (.string (strOfNums (stuffL 0 b))) (wanted_none rfl _) (by simp [execOp, e43, hc_]) rfl
    · intro a_ w_ st
      have e0 : a_.eval (.tmp 0) = .slice A0 n c := st.slot 0 (by kernel_rfl)
      exact op_yield (.slice A0 n c) (wanted_none rfl _) (by simp only [execOp, e0]; rfl) rfl
    · intro a_ w_ st
      have e45 : a_.eval (.tmp 45) = .slice A0 n c := st.dep 3 _ 45 rfl rfl (by kernel_rfl)
      skip
      exact op_call Try.func10 (by kernel_rfl) rfl #[.slice A0 n c] (wanted_none rfl _) rfl (by simp [e45]) (calls_sl (stuffref_ok _ _ _ b w_ (hr6.below st.below) hb (by have := hlen.out; omega)))
    · intro a_ w_ st
      obtain ⟨A46_, c46_, e46, h46_⟩ : IsSl (stuffL 0 b) (a_.eval (.tmp 46)) w_ := st.dep 4 _ 46 rfl rfl (by kernel_rfl)
      have hc_ := conv22 _ _ _ _ w_ (h46_)
      exact op_yield (.string (strOfNums (stuffL 0 b))) (wanted_none rfl _) (by simp [execOp, e46, hc_]) rfl
    · intro a_ w_ st
      have e44 : a_.eval (.tmp 44) = .string (strOfNums (stuffL 0 b)) := st.dep 2 _ 44 rfl rfl (by kernel_rfl)
      have e47 : a_.eval (.tmp 47) = .string (strOfNums (stuffL 0 b)) := st.dep 5 _ 47 rfl rfl (by kernel_rfl)
      exact op_yield (.bool true) (wanted_none rfl _) (by simp only [execOp, e44, e47]; go_simp) rfl
    · intro a_ w_ st
      have e48 : a_.eval (.tmp 48) = .bool true := st.dep 6 _ 48 rfl rfl (by kernel_rfl)
      exact op_yield (.bool true) (wanted_none rfl _) (by simp only [execOp, e48]; rfl) rfl
    · intro a_ w_ st
      have e49 : a_.eval (.tmp 49) = .bool true := st.dep 7 _ 49 rfl rfl (by kernel_rfl)
      have e4 : a_.eval (.tmp 4) = .slice A3 u1.length c3 := st.slot 4 (by kernel_rfl)
      exact op_yield (.slice A3 u1.length c3) (wanted_some rfl (st.yields 7 _ 49 rfl rfl (of_decide_eq_true (by kernel_rfl)) true e49)) (by simp only [execOp, e49, e4]; rfl) rfl
    · intro a_ w_ st
      have e49 : a_.eval (.tmp 49) = .bool true := st.dep 7 _ 49 rfl rfl (by kernel_rfl)
      have e50 : a_.eval (.tmp 50) = .slice A3 u1.length c3 := st.dep 8 _ 50 rfl rfl (by kernel_rfl)
      have hc_ := conv22 _ _ _ _ w_ (HO36.rds.below st.below)
      exact op_yield (.string (strOfNums u1)) (wanted_some rfl (st.yields 7 _ 49 rfl rfl (of_decide_eq_true (by kernel_rfl)) true e49)) (by simp [execOp, e49, e50, hc_]) rfl
    · intro a_ w_ st
      have e49 : a_.eval (.tmp 49) = .bool true := st.dep 7 _ 49 rfl rfl (by kernel_rfl)
      have e6 : a_.eval (.tmp 6) = .slice A4 u1.length c4 := st.slot 6 (by kernel_rfl)
      exact op_yield (.slice A4 u1.length c4) (wanted_some rfl (st.yields 7 _ 49 rfl rfl (of_decide_eq_true (by kernel_rfl)) true e49)) (by simp only [execOp, e49, e6]; rfl) rfl
    · intro a_ w_ st
      have e49 : a_.eval (.tmp 49) = .bool true := st.dep 7 _ 49 rfl rfl (by kernel_rfl)
      have e52 : a_.eval (.tmp 52) = .slice A4 u1.length c4 := st.dep 10 _ 52 rfl rfl (by kernel_rfl)
      have hc_ := conv22 _ _ _ _ w_ (HO46.rds.below st.below)
      exact op_yield (.string (strOfNums u1)) (wanted_some rfl (st.yields 7 _ 49 rfl rfl (of_decide_eq_true (by kernel_rfl)) true e49)) (by simp [execOp, e49, e52, hc_]) rfl
    · intro a_ w_ st
      have e49 : a_.eval (.tmp 49) = .bool true := st.dep 7 _ 49 rfl rfl (by kernel_rfl)
      have e51 : a_.eval (.tmp 51) = .string (strOfNums u1) := st.dep 9 _ 51 rfl rfl (by kernel_rfl)
      have e53 : a_.eval (.tmp 53) = .string (strOfNums u1) := st.dep 11 _ 53 rfl rfl (by kernel_rfl)
      exact op_yield (.bool true) (wanted_some rfl (st.yields 7 _ 49 rfl rfl (of_decide_eq_true (by kernel_rfl)) true e49)) (by simp only [execOp, e49, e51, e53]; go_simp) rfl
    · intro a_ w_ st
      have e49 : a_.eval (.tmp 49) = .bool true := st.dep 7 _ 49 rfl rfl (by kernel_rfl)
      have e54 : a_.eval (.tmp 54) = .bool true := st.dep 12 _ 54 rfl rfl (by kernel_rfl)
      exact op_yield (.bool true) (wanted_none rfl _) (by simp only [execOp, e49, e54]; rfl) rfl
    · intro a_ w_ st
      have e55 : a_.eval (.tmp 55) = .bool true := st.dep 13 _ 55 rfl rfl (by kernel_rfl)
      exact op_yield (.bool true) (wanted_none rfl _) (by simp only [execOp, e55]; rfl) rfl
    · intro a_ w_ st
      have e56 : a_.eval (.tmp 56) = .bool true := st.dep 14 _ 56 rfl rfl (by kernel_rfl)
      have e5 : a_.eval (.tmp 5) = .int .i64 u2 := st.slot 5 (by kernel_rfl)
      exact op_yield (.int .i64 u2) (wanted_some rfl (st.yields 14 _ 56 rfl rfl (of_decide_eq_true (by kernel_rfl)) true e56)) (by simp only [execOp, e56, e5]; rfl) rfl
    · intro a_ w_ st
      have e56 : a_.eval (.tmp 56) = .bool true := st.dep 14 _ 56 rfl rfl (by kernel_rfl)
      have e57 : a_.eval (.tmp 57) = .int .i64 u2 := st.dep 15 _ 57 rfl rfl (by kernel_rfl)
      skip
      exact op_call Try.func12 (by kernel_rfl) rfl #[.int .i64 u2] (wanted_some rfl (st.yields 14 _ 56 rfl rfl (of_decide_eq_true (by kernel_rfl)) true e56)) rfl (by simp [e56, e57]) (calls_same (num_ok _ _))
    · intro a_ w_ st
      have e56 : a_.eval (.tmp 56) = .bool true := st.dep 14 _ 56 rfl rfl (by kernel_rfl)
      have e7 : a_.eval (.tmp 7) = .int .i64 u2 := st.slot 7 (by kernel_rfl)
      exact op_yield (.int .i64 u2) (wanted_some rfl (st.yields 14 _ 56 rfl rfl (of_decide_eq_true (by kernel_rfl)) true e56)) (by simp only [execOp, e56, e7]; rfl) rfl
    · intro a_ w_ st
      have e56 : a_.eval (.tmp 56) = .bool true := st.dep 14 _ 56 rfl rfl (by kernel_rfl)
      have e58 : a_.eval (.tmp 58) = .int .i64 u2 := st.dep 16 _ 58 rfl rfl (by kernel_rfl)
      have e59 : a_.eval (.tmp 59) = .int .i64 u2 := st.dep 17 _ 59 rfl rfl (by kernel_rfl)
      exact op_yield (.bool true) (wanted_some rfl (st.yields 14 _ 56 rfl rfl (of_decide_eq_true (by kernel_rfl)) true e56)) (by simp only [execOp, e56, e58, e59]; go_simp) rfl
    · intro a_ w_ st
      have e56 : a_.eval (.tmp 56) = .bool true := st.dep 14 _ 56 rfl rfl (by kernel_rfl)
      have e60 : a_.eval (.tmp 60) = .bool true := st.dep 18 _ 60 rfl rfl (by kernel_rfl)
      exact op_yield (.bool true) (wanted_none rfl _) (by simp only [execOp, e56, e60]; rfl) rfl
    · intro a_ w_ st
      have e61 : a_.eval (.tmp 61) = .bool true := st.dep 19 _ 61 rfl rfl (by kernel_rfl)
      exact op_yield (.bool true) (wanted_none rfl _) (by simp only [execOp, e61]; rfl) rfl
    · intro a_ w_ st
      have e62 : a_.eval (.tmp 62) = .bool true := st.dep 20 _ 62 rfl rfl (by kernel_rfl)
      have e8 : a_.eval (.tmp 8) = .slice A5 X.length c5 := st.slot 8 (by kernel_rfl)
      exact op_yield (.slice A5 X.length c5) (wanted_some rfl (st.yields 20 _ 62 rfl rfl (of_decide_eq_true (by kernel_rfl)) true e62)) (by simp only [execOp, e62, e8]; rfl) rfl
    · intro a_ w_ st
      have e62 : a_.eval (.tmp 62) = .bool true := st.dep 20 _ 62 rfl rfl (by kernel_rfl)
      have e63 : a_.eval (.tmp 63) = .slice A5 X.length c5 := st.dep 21 _ 63 rfl rfl (by kernel_rfl)
      have hc_ := conv22 _ _ _ _ w_ (HO56.rds.below st.below)
      exact op_yield (.string (strOfNums X)) (wanted_some rfl (st.yields 20 _ 62 rfl rfl (of_decide_eq_true (by kernel_rfl)) true e62)) (by simp [execOp, e62, e63, hc_]) rfl
    · intro a_ w_ st
      have e62 : a_.eval (.tmp 62) = .bool true := st.dep 20 _ 62 rfl rfl (by kernel_rfl)
      have e10 : a_.eval (.tmp 10) = .slice A6 X.length c6 := st.slot 10 (by kernel_rfl)
      exact op_yield (.slice A6 X.length c6) (wanted_some rfl (st.yields 20 _ 62 rfl rfl (of_decide_eq_true (by kernel_rfl)) true e62)) (by simp only [execOp, e62, e10]; rfl) rfl
    · intro a_ w_ st
      have e62 : a_.eval (.tmp 62) = .bool true := st.dep 20 _ 62 rfl rfl (by kernel_rfl)
      have e65 : a_.eval (.tmp 65) = .slice A6 X.length c6 := st.dep 23 _ 65 rfl rfl (by kernel_rfl)
      have hc_ := conv22 _ _ _ _ w_ (HO6.rds.below st.below)
      exact op_yield (.string (strOfNums X)) (wanted_some rfl (st.yields 20 _ 62 rfl rfl (of_decide_eq_true (by kernel_rfl)) true e62)) (by simp [execOp, e62, e65, hc_]) rfl
    · intro a_ w_ st
      have e62 : a_.eval (.tmp 62) = .bool true := st.dep 20 _ 62 rfl rfl (by kernel_rfl)
      have e64 : a_.eval (.tmp 64) = .string (strOfNums X) := st.dep 22 _ 64 rfl rfl (by kernel_rfl)
      have e66 : a_.eval (.tmp 66) = .string (strOfNums X) := st.dep 24 _ 66 rfl rfl (by kernel_rfl)
      exact op_yield (.bool true) (wanted_some rfl (st.yields 20 _ 62 rfl rfl (of_decide_eq_true (by kernel_rfl)) true e62)) (by simp only [execOp, e62, e64, e66]; go_simp) rfl
    · intro a_ w_ st
      have e62 : a_.eval (.tmp 62) = .bool true := st.dep 20 _ 62 rfl rfl (by kernel_rfl)
      have e67 : a_.eval (.tmp 67) = .bool true := st.dep 25 _ 67 rfl rfl (by kernel_rfl)
      exact op_yield (.bool true) (wanted_none rfl _) (by simp only [execOp, e62, e67]; rfl) rfl
    · intro a_ w_ st
      have e68 : a_.eval (.tmp 68) = .bool true := st.dep 26 _ 68 rfl rfl (by kernel_rfl)
      exact op_yield (.bool true) (wanted_none rfl _) (by simp only [execOp, e68]; rfl) rfl
    · intro a_ w_ st
      have e69 : a_.eval (.tmp 69) = .bool true := st.dep 27 _ 69 rfl rfl (by kernel_rfl)
      have e9 : a_.eval (.tmp 9) = .int .i64 x2 := st.slot 9 (by kernel_rfl)
      exact op_yield (.int .i64 x2) (wanted_some rfl (st.yields 27 _ 69 rfl rfl (of_decide_eq_true (by kernel_rfl)) true e69)) (by simp only [execOp, e69, e9]; rfl) rfl
    · intro a_ w_ st
      have e69 : a_.eval (.tmp 69) = .bool true := st.dep 27 _ 69 rfl rfl (by kernel_rfl)
      have e70 : a_.eval (.tmp 70) = .int .i64 x2 := st.dep 28 _ 70 rfl rfl (by kernel_rfl)
      skip
      exact op_call Try.func12 (by kernel_rfl) rfl #[.int .i64 x2] (wanted_some rfl (st.yields 27 _ 69 rfl rfl (of_decide_eq_true (by kernel_rfl)) true e69)) rfl (by simp [e69, e70]) (calls_same (num_ok _ _))
    · intro a_ w_ st
      have e69 : a_.eval (.tmp 69) = .bool true := st.dep 27 _ 69 rfl rfl (by kernel_rfl)
      have e11 : a_.eval (.tmp 11) = .int .i64 x2 := st.slot 11 (by kernel_rfl)
      exact op_yield (.int .i64 x2) (wanted_some rfl (st.yields 27 _ 69 rfl rfl (of_decide_eq_true (by kernel_rfl)) true e69)) (by simp only [execOp, e69, e11]; rfl) rfl
    · intro a_ w_ st
      have e69 : a_.eval (.tmp 69) = .bool true := st.dep 27 _ 69 rfl rfl (by kernel_rfl)
      have e71 : a_.eval (.tmp 71) = .int .i64 x2 := st.dep 29 _ 71 rfl rfl (by kernel_rfl)
      have e72 : a_.eval (.tmp 72) = .int .i64 x2 := st.dep 30 _ 72 rfl rfl (by kernel_rfl)
      exact op_yield (.bool true) (wanted_some rfl (st.yields 27 _ 69 rfl rfl (of_decide_eq_true (by kernel_rfl)) true e69)) (by simp only [execOp, e69, e71, e72]; go_simp) rfl
    · intro a_ w_ st
      have e69 : a_.eval (.tmp 69) = .bool true := st.dep 27 _ 69 rfl rfl (by kernel_rfl)
      have e73 : a_.eval (.tmp 73) = .bool true := st.dep 31 _ 73 rfl rfl (by kernel_rfl)
      exact op_yield (.bool true) (wanted_none rfl _) (by simp only [execOp, e69, e73]; rfl) rfl
    · intro a_ w_ st
      have e74 : a_.eval (.tmp 74) = .bool true := st.dep 32 _ 74 rfl rfl (by kernel_rfl)
      exact op_yield (.bool true) (wanted_none rfl _) (by simp only [execOp, e74]; rfl) rfl
  · intro a_ w_ st
    go_step
    go_step
    refine wp_ret ?_
    exact ⟨st.defers, _, results_tmp rfl _ _ _, ⟨by rw [show a_.tmps.getD 2 undef = .bool true from st.val 33 _ 2 rfl trivial rfl], below_step HB6 st.below⟩⟩

theorem walk (a0 : Option Addr) (len0 cap0 : Nat) (z0 : List Int) (W : World) (w0 : IsRow .u8 W a0 len0 cap0 z0) (_y0 : len0 * 1 ≤ 140737488351232) :
    Calls Try.prog 7 #[.slice a0 len0 cap0] W fun e w' => e = .returned (.bool true) ∧ Below W.heap.size W w' := by
  obtain ⟨l, hr, hm, hw⟩ := rds_of_row w0
  rcases Nat.lt_or_ge 500 len0 with h | h
  · exact stf_long a0 len0 cap0 W h hm
  · exact stf_short a0 len0 cap0 l W hr (fun x hx => wf_u8 (hw x hx)) h

end Go.Proofs.Ytcmacdjocbeeaaa.Stf7
