/- Some rows of bits are stuffed and unstuffed as known. No condition. -/
import Derived.Test.YtcmacdjocbeeaaaKnW
namespace Go.Proofs.Ytcmacdjocbeeaaa.Kn5
open Go.RowKit Go.Proofs.YtcmacdjocbeeaaaW.PrintWords Go.Proofs.YtcmacdjocbeeaaaW.PrintLast Go.Proofs.YtcmacdjocbeeaaaW.PrintMore Go.Proofs.Ytcmacdjocbeeaaa.K Go.Proofs.Ytcmacdjocbeeaaa.BitsW Go.Proofs.Ytcmacdjocbeeaaa.BitsPure Go.Proofs.Ytcmacdjocbeeaaa.StuffW
set_option linter.unusedVariables false
set_option linter.unusedSimpArgs false

theorem lit5 (w : World) : Own Kd.string 9 0 (w.alloc (.cells #[.string { data := #[] }, .string { data := #[48] }, .string { data := #[49, 49, 49, 49, 49, 48] }, .string { data := #[49, 49, 49, 49, 49, 48, 49] }, .string { data := #[48, 49, 49, 49, 49, 49, 48, 48] }, .string { data := #[49, 49, 49, 49, 49, 48, 49, 49, 49, 49, 49, 48] }, .string { data := #[49, 49, 49, 49, 48, 49, 49, 49] }] 9)) (.slice (some ⟨w.heap.size, 0, none⟩) 7 7) [{ data := #[] }, { data := #[48] }, { data := #[49, 49, 49, 49, 49, 48] }, { data := #[49, 49, 49, 49, 49, 48, 49] }, { data := #[48, 49, 49, 49, 49, 49, 48, 48] }, { data := #[49, 49, 49, 49, 49, 48, 49, 49, 49, 49, 49, 48] }, { data := #[49, 49, 49, 49, 48, 49, 49, 49] }] :=
  own_lit (enc := Value.string) (h1 := fun _ => rfl) 9 0 w [{ data := #[] }, { data := #[48] }, { data := #[49, 49, 49, 49, 49, 48] }, { data := #[49, 49, 49, 49, 49, 48, 49] }, { data := #[48, 49, 49, 49, 49, 49, 48, 48] }, { data := #[49, 49, 49, 49, 49, 48, 49, 49, 49, 49, 49, 48] }, { data := #[49, 49, 49, 49, 48, 49, 49, 49] }] (Nat.zero_le _) (Nat.le_of_ble_eq_true rfl)
theorem at5 (b b' : Nat) (w : World) (xs : List ByteArray) (e B : Nat) (k : Nat) (x : ByteArray) (h : Own Kd.string e B w (.slice (some ⟨b, 0, none⟩) 7 7) xs) (hk : k < 7) (hx : rdOf ByteArray.empty xs (k : Int) = x) (hb : b = b') : w.cell? ⟨b', k, none⟩ = some (.string x) := by
  subst hb hx
  obtain ⟨ad, ha, hc⟩ := Kd.at_string h.rds.row (k : Int) (by omega) (by omega)
  injection ha with ha
  subst ha
  rwa [add_plain] at hc
set_option maxHeartbeats 8000000 in
set_option maxRecDepth 100000 in
theorem known0 (w : World) : Calls Try.prog 5 #[.int .i64 0] w fun e w' => e = .returned (.bool true) ∧ Below w.heap.size w w' := by
  have HR2 : Aside0 (rowL { data := #[] } = []) := ⟨by decide +kernel⟩
  have HR3 : Aside0 (rowL { data := #[] } = []) := ⟨by decide +kernel⟩
  have HR5 : Aside0 (rowL { data := #[48, 49, 49, 49, 49, 49, 49] } = [0, 1, 1, 1, 1, 1, 1]) := ⟨by decide +kernel⟩
  have HR7 : Aside0 (rowL { data := #[48, 49, 49, 49, 49, 49] } = [0, 1, 1, 1, 1, 1]) := ⟨by decide +kernel⟩
  have HZ2 : Aside0 (({ data := #[] } : ByteArray).size ≤ 70368744177664) := ⟨by decide⟩
  have HZ3 : Aside0 (({ data := #[] } : ByteArray).size ≤ 70368744177664) := ⟨by decide⟩
  have HZ5 : Aside0 (({ data := #[48, 49, 49, 49, 49, 49, 49] } : ByteArray).size ≤ 70368744177664) := ⟨by decide⟩
  have HZ7 : Aside0 (({ data := #[48, 49, 49, 49, 49, 49] } : ByteArray).size ≤ 70368744177664) := ⟨by decide⟩
  have HU4 : Aside0 (unstuffL 0 [] [] = ([], 0)) := ⟨by decide +kernel⟩
  have HU6 : Aside0 (unstuffL 0 [0, 1, 1, 1, 1, 1, 1] [] = ([], 4)) := ⟨by decide +kernel⟩
  have HU8 : Aside0 (unstuffL 0 [0, 1, 1, 1, 1, 1] [] = ([], 3)) := ⟨by decide +kernel⟩
  have HSA : Aside0 (stuffL 0 [] = []) := ⟨by decide +kernel⟩
  have HOa : Aside0 (bitsOk []) := ⟨by unfold bitsOk; decide⟩
  have HOb : Aside0 (bitsOk []) := ⟨by unfold bitsOk; decide⟩
  have HOx : Aside0 (bitsOk [0, 1, 1, 1, 1, 1, 1]) := ⟨by unfold bitsOk; decide⟩
  have HOy : Aside0 (bitsOk [0, 1, 1, 1, 1, 1]) := ⟨by unfold bitsOk; decide⟩
  go_enter Try.func5, Try.ntmps5
  go_wp2_with (first
    | (go_at_call 8; refine (alive_ok _).mono ?_; rintro e w1 ⟨rfl, HB1⟩; have T5 := lit5 (w1.alloc (.cells #[.string { data := #[] }, .string { data := #[48] }, .string { data := #[49, 49, 49, 49, 49] }, .string { data := #[49, 49, 49, 49, 49, 49] }, .string { data := #[48, 49, 49, 49, 49, 49, 48] }, .string { data := #[49, 49, 49, 49, 49, 49, 49, 49, 49, 49] }, .string { data := #[49, 49, 49, 49, 48, 49, 49, 49] }] 9)); have HBt : Below w.heap.size w ((w1.alloc (.cells #[.string { data := #[] }, .string { data := #[48] }, .string { data := #[49, 49, 49, 49, 49] }, .string { data := #[49, 49, 49, 49, 49, 49] }, .string { data := #[48, 49, 49, 49, 49, 49, 48] }, .string { data := #[49, 49, 49, 49, 49, 49, 49, 49, 49, 49] }, .string { data := #[49, 49, 49, 49, 48, 49, 49, 49] }] 9)).alloc (.cells #[.string { data := #[] }, .string { data := #[48] }, .string { data := #[49, 49, 49, 49, 49, 48] }, .string { data := #[49, 49, 49, 49, 49, 48, 49] }, .string { data := #[48, 49, 49, 49, 49, 49, 48, 48] }, .string { data := #[49, 49, 49, 49, 49, 48, 49, 49, 49, 49, 49, 48] }, .string { data := #[49, 49, 49, 49, 48, 49, 49, 49] }] 9)) := below_alloc (below_alloc HB1 _) _; obtain ⟨WW, hWW⟩ : ∃ WW, WW = ((w1.alloc (.cells #[.string { data := #[] }, .string { data := #[48] }, .string { data := #[49, 49, 49, 49, 49] }, .string { data := #[49, 49, 49, 49, 49, 49] }, .string { data := #[48, 49, 49, 49, 49, 49, 48] }, .string { data := #[49, 49, 49, 49, 49, 49, 49, 49, 49, 49] }, .string { data := #[49, 49, 49, 49, 48, 49, 49, 49] }] 9)).alloc (.cells #[.string { data := #[] }, .string { data := #[48] }, .string { data := #[49, 49, 49, 49, 49, 48] }, .string { data := #[49, 49, 49, 49, 49, 48, 49] }, .string { data := #[48, 49, 49, 49, 49, 49, 48, 48] }, .string { data := #[49, 49, 49, 49, 49, 48, 49, 49, 49, 49, 49, 48] }, .string { data := #[49, 49, 49, 49, 48, 49, 49, 49] }] 9)) := ⟨_, rfl⟩; rw [← hWW] at T5 HBt; have T5 := Aside0.mk T5; have HBt := Aside0.mk HBt; have hWW := Aside0.mk hWW.symm)
    | (go_at_call 13; rw [hWW.out]; (with_reducible refine (row_ok { data := #[] } _ HZ2.out).mono ?_); rintro e w2 ⟨A2, c2, rfl, HO, hn⟩; have HB2 := below_step HBt.out hn; have T5 := T5.out.below hn; have y5 := at5 ((w1.alloc (.cells #[.string { data := #[] }, .string { data := #[48] }, .string { data := #[49, 49, 49, 49, 49] }, .string { data := #[49, 49, 49, 49, 49, 49] }, .string { data := #[48, 49, 49, 49, 49, 49, 48] }, .string { data := #[49, 49, 49, 49, 49, 49, 49, 49, 49, 49] }, .string { data := #[49, 49, 49, 49, 48, 49, 49, 49] }] 9)).heap.size) (w1.heap.size + 1) w2 [{ data := #[] }, { data := #[48] }, { data := #[49, 49, 49, 49, 49, 48] }, { data := #[49, 49, 49, 49, 49, 48, 49] }, { data := #[48, 49, 49, 49, 49, 49, 48, 48] }, { data := #[49, 49, 49, 49, 49, 48, 49, 49, 49, 49, 49, 48] }, { data := #[49, 49, 49, 49, 48, 49, 49, 49] }] 9 0 0 { data := #[] } T5 (by decide) rfl (by simp); clear T5; clear hn; rw [HR2.out] at HO ⊢; have HO2 : Own (Kd.int .u8) 5 _ w2 (.slice A2 0 c2) [] := HO; clear HO)
    | (go_at_call 13; (with_reducible refine (row_ok { data := #[] } _ HZ3.out).mono ?_); rintro e w3 ⟨A3, c3, rfl, HO, hn⟩; have HB3 := below_step HB2 hn; have HO23 := HO2.below hn; clear hn; rw [HR3.out] at HO ⊢; have HO3 : Own (Kd.int .u8) 5 _ w3 (.slice A3 0 c3) [] := HO; clear HO)
    | (go_at_call 11; (with_reducible refine (unstuff_ok _ _ _ [] _ HO3.rds HOb.out (by decide)).mono ?_); rintro e w4 ⟨A4, c4, rfl, HO, hn⟩; have HB4 := below_step HB3 hn; have HO24 := HO23.below hn; have HO34 := HO3.below hn; clear hn; rw [HU4.out] at HO ⊢; have HO4 : Own (Kd.int .u8) 5 _ w4 (.slice A4 0 c4) [] := HO; clear HO)
    | (go_at_call 13; (with_reducible refine (row_ok { data := #[48, 49, 49, 49, 49, 49, 49] } _ HZ5.out).mono ?_); rintro e w5 ⟨A5, c5, rfl, HO, hn⟩; have HB5 := below_step HB4 hn; have HO25 := HO24.below hn; have HO35 := HO34.below hn; have HO45 := HO4.below hn; clear hn; rw [HR5.out] at HO ⊢; have HO5 : Own (Kd.int .u8) 5 _ w5 (.slice A5 7 c5) [0, 1, 1, 1, 1, 1, 1] := HO; clear HO)
    | (go_at_call 11; (with_reducible refine (unstuff_ok _ _ _ [0, 1, 1, 1, 1, 1, 1] _ HO5.rds HOx.out (by decide)).mono ?_); rintro e w6 ⟨A6, c6, rfl, HO, hn⟩; have HB6 := below_step HB5 hn; have HO26 := HO25.below hn; have HO36 := HO35.below hn; have HO46 := HO45.below hn; clear hn HO; rw [HU6.out])
    | (go_at_call 13; (with_reducible refine (row_ok { data := #[48, 49, 49, 49, 49, 49] } _ HZ7.out).mono ?_); rintro e w7 ⟨A7, c7, rfl, HO, hn⟩; have HB7 := below_step HB6 hn; have HO27 := HO26.below hn; have HO37 := HO36.below hn; have HO47 := HO46.below hn; clear hn; rw [HR7.out] at HO ⊢; have HO7 : Own (Kd.int .u8) 5 _ w7 (.slice A7 6 c7) [0, 1, 1, 1, 1, 1] := HO; clear HO)
    | (go_at_call 11; (with_reducible refine (unstuff_ok _ _ _ [0, 1, 1, 1, 1, 1] _ HO7.rds HOy.out (by decide)).mono ?_); rintro e w8 ⟨A8, c8, rfl, HO, hn⟩; have HB8 := below_step HB7 hn; have HO28 := HO27.below hn; have HO38 := HO37.below hn; have HO48 := HO47.below hn; clear hn HO; rw [HU8.out]))
  refine region_each (VT (fun i => match i with | 0 => .slice A2 0 c2 | 2 => .string (strOfNums (stuffL 0 [])) | 3 => .slice A3 0 c3 | 4 => .string (strOfNums []) | 5 => .bool true | 6 => .bool true | 7 => .int .i64 0 | 8 => .int .i64 0 | 9 => .bool true | 10 => .bool true | 11 => .bool true | 12 => .slice A4 0 c4 | 13 => .string (strOfNums []) | 14 => .slice A2 0 c2 | 15 => .string (strOfNums []) | 16 => .bool true | 17 => .bool true | 18 => .bool true | 19 => .int .i64 4 | 20 => .int .i64 4 | 21 => .bool true | 22 => .bool true | 23 => .bool true | 24 => .int .i64 3 | 25 => .int .i64 3 | 26 => .bool true | 27 => .bool true | 28 => .bool true | _ => undef) [(1, (stuffL 0 []))]) (by kernel_rfl) (by kernel_rfl) (VT_stable _ _) ?_ ?_
  · refine ⟨?_, ?_, ?_, ?_, ?_, ?_, ?_, ?_, ?_, ?_, ?_, ?_, ?_, ?_, ?_, ?_, ?_, ?_, ?_, ?_, ?_, ?_, ?_, ?_, ?_, ?_, ?_, ?_, ?_, trivial⟩
    · intro a_ w_ st
      have e6 : a_.eval (.tmp 6) = .slice A2 0 c2 := st.slot 6 (by kernel_rfl)
      exact op_yield (.slice A2 0 c2) (wanted_none rfl _) (by simp only [execOp, e6]; rfl) rfl
    · intro a_ w_ st
      have e55 : a_.eval (.tmp 55) = .slice A2 0 c2 := st.dep 0 _ 55 rfl rfl (by kernel_rfl)
      skip
      exact op_call Try.func9 (by kernel_rfl) rfl #[.slice A2 0 c2] (wanted_none rfl _) rfl (by simp [e55]) (calls_sl (stuff_ok _ _ _ [] w_ (HO28.rds.below st.below) HOa.out (by decide)))
    · intro a_ w_ st
      obtain ⟨A56_, c56_, e56, h56_⟩ : IsSl (stuffL 0 []) (a_.eval (.tmp 56)) w_ := st.dep 1 _ 56 rfl rfl (by kernel_rfl)
      have hc_ := conv22 _ _ _ _ w_ (h56_)
      exact op_yield (.string (strOfNums (stuffL 0 []))) (wanted_none rfl _) (by simp [execOp, e56, hc_]) rfl
    · intro a_ w_ st
      have e7 : a_.eval (.tmp 7) = .slice A3 0 c3 := st.slot 7 (by kernel_rfl)
      exact op_yield (.slice A3 0 c3) (wanted_none rfl _) (by simp only [execOp, e7]; rfl) rfl
    · intro a_ w_ st
      have e58 : a_.eval (.tmp 58) = .slice A3 0 c3 := st.dep 3 _ 58 rfl rfl (by kernel_rfl)
      have hc_ := conv22 _ _ _ _ w_ (HO38.rds.below st.below)
      exact op_yield (.string (strOfNums [])) (wanted_none rfl _) (by simp [execOp, e58, hc_]) rfl
    · intro a_ w_ st
      have e57 : a_.eval (.tmp 57) = .string (strOfNums (stuffL 0 [])) := st.dep 2 _ 57 rfl rfl (by kernel_rfl)
      have e59 : a_.eval (.tmp 59) = .string (strOfNums []) := st.dep 4 _ 59 rfl rfl (by kernel_rfl)
      exact op_yield (.bool true) (wanted_none rfl _) (by simp only [execOp, e57, e59, HSA.out]; go_simp) rfl
    · intro a_ w_ st
      have e60 : a_.eval (.tmp 60) = .bool true := st.dep 5 _ 60 rfl rfl (by kernel_rfl)
      exact op_yield (.bool true) (wanted_none rfl _) (by simp only [execOp, e60]; rfl) rfl
    · intro a_ w_ st
      have e61 : a_.eval (.tmp 61) = .bool true := st.dep 6 _ 61 rfl rfl (by kernel_rfl)
      have e9 : a_.eval (.tmp 9) = .int .i64 0 := st.slot 9 (by kernel_rfl)
      exact op_yield (.int .i64 0) (wanted_some rfl (st.yields 6 _ 61 rfl rfl (of_decide_eq_true (by kernel_rfl)) true e61)) (by simp only [execOp, e61, e9]; rfl) rfl
    · intro a_ w_ st
      have e61 : a_.eval (.tmp 61) = .bool true := st.dep 6 _ 61 rfl rfl (by kernel_rfl)
      have e62 : a_.eval (.tmp 62) = .int .i64 0 := st.dep 7 _ 62 rfl rfl (by kernel_rfl)
      skip
      exact op_call Try.func12 (by kernel_rfl) rfl #[.int .i64 0] (wanted_some rfl (st.yields 6 _ 61 rfl rfl (of_decide_eq_true (by kernel_rfl)) true e61)) rfl (by simp [e61, e62]) (calls_same (num_ok _ _))
    · intro a_ w_ st
      have e61 : a_.eval (.tmp 61) = .bool true := st.dep 6 _ 61 rfl rfl (by kernel_rfl)
      have e63 : a_.eval (.tmp 63) = .int .i64 0 := st.dep 8 _ 63 rfl rfl (by kernel_rfl)
      exact op_yield (.bool true) (wanted_some rfl (st.yields 6 _ 61 rfl rfl (of_decide_eq_true (by kernel_rfl)) true e61)) (by simp only [execOp, e61, e63]; go_simp) rfl
    · intro a_ w_ st
      have e61 : a_.eval (.tmp 61) = .bool true := st.dep 6 _ 61 rfl rfl (by kernel_rfl)
      have e64 : a_.eval (.tmp 64) = .bool true := st.dep 9 _ 64 rfl rfl (by kernel_rfl)
      exact op_yield (.bool true) (wanted_none rfl _) (by simp only [execOp, e61, e64]; rfl) rfl
    · intro a_ w_ st
      have e65 : a_.eval (.tmp 65) = .bool true := st.dep 10 _ 65 rfl rfl (by kernel_rfl)
      exact op_yield (.bool true) (wanted_none rfl _) (by simp only [execOp, e65]; rfl) rfl
    · intro a_ w_ st
      have e66 : a_.eval (.tmp 66) = .bool true := st.dep 11 _ 66 rfl rfl (by kernel_rfl)
      have e8 : a_.eval (.tmp 8) = .slice A4 0 c4 := st.slot 8 (by kernel_rfl)
      exact op_yield (.slice A4 0 c4) (wanted_some rfl (st.yields 11 _ 66 rfl rfl (of_decide_eq_true (by kernel_rfl)) true e66)) (by simp only [execOp, e66, e8]; rfl) rfl
    · intro a_ w_ st
      have e66 : a_.eval (.tmp 66) = .bool true := st.dep 11 _ 66 rfl rfl (by kernel_rfl)
      have e67 : a_.eval (.tmp 67) = .slice A4 0 c4 := st.dep 12 _ 67 rfl rfl (by kernel_rfl)
      have hc_ := conv22 _ _ _ _ w_ (HO48.rds.below st.below)
      exact op_yield (.string (strOfNums [])) (wanted_some rfl (st.yields 11 _ 66 rfl rfl (of_decide_eq_true (by kernel_rfl)) true e66)) (by simp [execOp, e66, e67, hc_]) rfl
    · intro a_ w_ st
      have e66 : a_.eval (.tmp 66) = .bool true := st.dep 11 _ 66 rfl rfl (by kernel_rfl)
      have e6 : a_.eval (.tmp 6) = .slice A2 0 c2 := st.slot 6 (by kernel_rfl)
      exact op_yield (.slice A2 0 c2) (wanted_some rfl (st.yields 11 _ 66 rfl rfl (of_decide_eq_true (by kernel_rfl)) true e66)) (by simp only [execOp, e66, e6]; rfl) rfl
    · intro a_ w_ st
      have e66 : a_.eval (.tmp 66) = .bool true := st.dep 11 _ 66 rfl rfl (by kernel_rfl)
      have e69 : a_.eval (.tmp 69) = .slice A2 0 c2 := st.dep 14 _ 69 rfl rfl (by kernel_rfl)
      have hc_ := conv22 _ _ _ _ w_ (HO28.rds.below st.below)
      exact op_yield (.string (strOfNums [])) (wanted_some rfl (st.yields 11 _ 66 rfl rfl (of_decide_eq_true (by kernel_rfl)) true e66)) (by simp [execOp, e66, e69, hc_]) rfl
    · intro a_ w_ st
      have e66 : a_.eval (.tmp 66) = .bool true := st.dep 11 _ 66 rfl rfl (by kernel_rfl)
      have e68 : a_.eval (.tmp 68) = .string (strOfNums []) := st.dep 13 _ 68 rfl rfl (by kernel_rfl)
      have e70 : a_.eval (.tmp 70) = .string (strOfNums []) := st.dep 15 _ 70 rfl rfl (by kernel_rfl)
      exact op_yield (.bool true) (wanted_some rfl (st.yields 11 _ 66 rfl rfl (of_decide_eq_true (by kernel_rfl)) true e66)) (by simp only [execOp, e66, e68, e70]; go_simp) rfl
    · intro a_ w_ st
      have e66 : a_.eval (.tmp 66) = .bool true := st.dep 11 _ 66 rfl rfl (by kernel_rfl)
      have e71 : a_.eval (.tmp 71) = .bool true := st.dep 16 _ 71 rfl rfl (by kernel_rfl)
      exact op_yield (.bool true) (wanted_none rfl _) (by simp only [execOp, e66, e71]; rfl) rfl
    · intro a_ w_ st
      have e72 : a_.eval (.tmp 72) = .bool true := st.dep 17 _ 72 rfl rfl (by kernel_rfl)
      exact op_yield (.bool true) (wanted_none rfl _) (by simp only [execOp, e72]; rfl) rfl
    · intro a_ w_ st
      have e73 : a_.eval (.tmp 73) = .bool true := st.dep 18 _ 73 rfl rfl (by kernel_rfl)
      have e11 : a_.eval (.tmp 11) = .int .i64 4 := st.slot 11 (by kernel_rfl)
      exact op_yield (.int .i64 4) (wanted_some rfl (st.yields 18 _ 73 rfl rfl (of_decide_eq_true (by kernel_rfl)) true e73)) (by simp only [execOp, e73, e11]; rfl) rfl
    · intro a_ w_ st
      have e73 : a_.eval (.tmp 73) = .bool true := st.dep 18 _ 73 rfl rfl (by kernel_rfl)
      have e74 : a_.eval (.tmp 74) = .int .i64 4 := st.dep 19 _ 74 rfl rfl (by kernel_rfl)
      skip
      exact op_call Try.func12 (by kernel_rfl) rfl #[.int .i64 4] (wanted_some rfl (st.yields 18 _ 73 rfl rfl (of_decide_eq_true (by kernel_rfl)) true e73)) rfl (by simp [e73, e74]) (calls_same (num_ok _ _))
    · intro a_ w_ st
      have e73 : a_.eval (.tmp 73) = .bool true := st.dep 18 _ 73 rfl rfl (by kernel_rfl)
      have e75 : a_.eval (.tmp 75) = .int .i64 4 := st.dep 20 _ 75 rfl rfl (by kernel_rfl)
      exact op_yield (.bool true) (wanted_some rfl (st.yields 18 _ 73 rfl rfl (of_decide_eq_true (by kernel_rfl)) true e73)) (by simp only [execOp, e73, e75]; go_simp) rfl
    · intro a_ w_ st
      have e73 : a_.eval (.tmp 73) = .bool true := st.dep 18 _ 73 rfl rfl (by kernel_rfl)
      have e76 : a_.eval (.tmp 76) = .bool true := st.dep 21 _ 76 rfl rfl (by kernel_rfl)
      exact op_yield (.bool true) (wanted_none rfl _) (by simp only [execOp, e73, e76]; rfl) rfl
    · intro a_ w_ st
      have e77 : a_.eval (.tmp 77) = .bool true := st.dep 22 _ 77 rfl rfl (by kernel_rfl)
      exact op_yield (.bool true) (wanted_none rfl _) (by simp only [execOp, e77]; rfl) rfl
    · intro a_ w_ st
      have e78 : a_.eval (.tmp 78) = .bool true := st.dep 23 _ 78 rfl rfl (by kernel_rfl)
      have e13 : a_.eval (.tmp 13) = .int .i64 3 := st.slot 13 (by kernel_rfl)
      exact op_yield (.int .i64 3) (wanted_some rfl (st.yields 23 _ 78 rfl rfl (of_decide_eq_true (by kernel_rfl)) true e78)) (by simp only [execOp, e78, e13]; rfl) rfl
    · intro a_ w_ st
      have e78 : a_.eval (.tmp 78) = .bool true := st.dep 23 _ 78 rfl rfl (by kernel_rfl)
      have e79 : a_.eval (.tmp 79) = .int .i64 3 := st.dep 24 _ 79 rfl rfl (by kernel_rfl)
      skip
      exact op_call Try.func12 (by kernel_rfl) rfl #[.int .i64 3] (wanted_some rfl (st.yields 23 _ 78 rfl rfl (of_decide_eq_true (by kernel_rfl)) true e78)) rfl (by simp [e78, e79]) (calls_same (num_ok _ _))
    · intro a_ w_ st
      have e78 : a_.eval (.tmp 78) = .bool true := st.dep 23 _ 78 rfl rfl (by kernel_rfl)
      have e80 : a_.eval (.tmp 80) = .int .i64 3 := st.dep 25 _ 80 rfl rfl (by kernel_rfl)
      exact op_yield (.bool true) (wanted_some rfl (st.yields 23 _ 78 rfl rfl (of_decide_eq_true (by kernel_rfl)) true e78)) (by simp only [execOp, e78, e80]; go_simp) rfl
    · intro a_ w_ st
      have e78 : a_.eval (.tmp 78) = .bool true := st.dep 23 _ 78 rfl rfl (by kernel_rfl)
      have e81 : a_.eval (.tmp 81) = .bool true := st.dep 26 _ 81 rfl rfl (by kernel_rfl)
      exact op_yield (.bool true) (wanted_none rfl _) (by simp only [execOp, e78, e81]; rfl) rfl
    · intro a_ w_ st
      have e82 : a_.eval (.tmp 82) = .bool true := st.dep 27 _ 82 rfl rfl (by kernel_rfl)
      exact op_yield (.bool true) (wanted_none rfl _) (by simp only [execOp, e82]; rfl) rfl
  · intro a_ w_ st
    go_step
    go_step
    refine wp_ret ?_
    exact ⟨st.defers, _, results_tmp rfl _ _ _, ⟨by rw [show a_.tmps.getD 2 undef = .bool true from st.val 28 _ 2 rfl trivial rfl], below_step HB8 st.below⟩⟩
set_option maxHeartbeats 8000000 in
set_option maxRecDepth 100000 in
theorem known1 (w : World) : Calls Try.prog 5 #[.int .i64 1] w fun e w' => e = .returned (.bool true) ∧ Below w.heap.size w w' := by
  have HR2 : Aside0 (rowL { data := #[48] } = [0]) := ⟨by decide +kernel⟩
  have HR3 : Aside0 (rowL { data := #[48] } = [0]) := ⟨by decide +kernel⟩
  have HR5 : Aside0 (rowL { data := #[48, 49, 49, 49, 49, 49, 49] } = [0, 1, 1, 1, 1, 1, 1]) := ⟨by decide +kernel⟩
  have HR7 : Aside0 (rowL { data := #[48, 49, 49, 49, 49, 49] } = [0, 1, 1, 1, 1, 1]) := ⟨by decide +kernel⟩
  have HZ2 : Aside0 (({ data := #[48] } : ByteArray).size ≤ 70368744177664) := ⟨by decide⟩
  have HZ3 : Aside0 (({ data := #[48] } : ByteArray).size ≤ 70368744177664) := ⟨by decide⟩
  have HZ5 : Aside0 (({ data := #[48, 49, 49, 49, 49, 49, 49] } : ByteArray).size ≤ 70368744177664) := ⟨by decide⟩
  have HZ7 : Aside0 (({ data := #[48, 49, 49, 49, 49, 49] } : ByteArray).size ≤ 70368744177664) := ⟨by decide⟩
  have HU4 : Aside0 (unstuffL 0 [0] [] = ([0], 0)) := ⟨by decide +kernel⟩
  have HU6 : Aside0 (unstuffL 0 [0, 1, 1, 1, 1, 1, 1] [] = ([], 4)) := ⟨by decide +kernel⟩
  have HU8 : Aside0 (unstuffL 0 [0, 1, 1, 1, 1, 1] [] = ([], 3)) := ⟨by decide +kernel⟩
  have HSA : Aside0 (stuffL 0 [0] = [0]) := ⟨by decide +kernel⟩
  have HOa : Aside0 (bitsOk [0]) := ⟨by unfold bitsOk; decide⟩
  have HOb : Aside0 (bitsOk [0]) := ⟨by unfold bitsOk; decide⟩
  have HOx : Aside0 (bitsOk [0, 1, 1, 1, 1, 1, 1]) := ⟨by unfold bitsOk; decide⟩
  have HOy : Aside0 (bitsOk [0, 1, 1, 1, 1, 1]) := ⟨by unfold bitsOk; decide⟩
  go_enter Try.func5, Try.ntmps5
  go_wp2_with (first
    | (go_at_call 8; refine (alive_ok _).mono ?_; rintro e w1 ⟨rfl, HB1⟩; have T5 := lit5 (w1.alloc (.cells #[.string { data := #[] }, .string { data := #[48] }, .string { data := #[49, 49, 49, 49, 49] }, .string { data := #[49, 49, 49, 49, 49, 49] }, .string { data := #[48, 49, 49, 49, 49, 49, 48] }, .string { data := #[49, 49, 49, 49, 49, 49, 49, 49, 49, 49] }, .string { data := #[49, 49, 49, 49, 48, 49, 49, 49] }] 9)); have HBt : Below w.heap.size w ((w1.alloc (.cells #[.string { data := #[] }, .string { data := #[48] }, .string { data := #[49, 49, 49, 49, 49] }, .string { data := #[49, 49, 49, 49, 49, 49] }, .string { data := #[48, 49, 49, 49, 49, 49, 48] }, .string { data := #[49, 49, 49, 49, 49, 49, 49, 49, 49, 49] }, .string { data := #[49, 49, 49, 49, 48, 49, 49, 49] }] 9)).alloc (.cells #[.string { data := #[] }, .string { data := #[48] }, .string { data := #[49, 49, 49, 49, 49, 48] }, .string { data := #[49, 49, 49, 49, 49, 48, 49] }, .string { data := #[48, 49, 49, 49, 49, 49, 48, 48] }, .string { data := #[49, 49, 49, 49, 49, 48, 49, 49, 49, 49, 49, 48] }, .string { data := #[49, 49, 49, 49, 48, 49, 49, 49] }] 9)) := below_alloc (below_alloc HB1 _) _; obtain ⟨WW, hWW⟩ : ∃ WW, WW = ((w1.alloc (.cells #[.string { data := #[] }, .string { data := #[48] }, .string { data := #[49, 49, 49, 49, 49] }, .string { data := #[49, 49, 49, 49, 49, 49] }, .string { data := #[48, 49, 49, 49, 49, 49, 48] }, .string { data := #[49, 49, 49, 49, 49, 49, 49, 49, 49, 49] }, .string { data := #[49, 49, 49, 49, 48, 49, 49, 49] }] 9)).alloc (.cells #[.string { data := #[] }, .string { data := #[48] }, .string { data := #[49, 49, 49, 49, 49, 48] }, .string { data := #[49, 49, 49, 49, 49, 48, 49] }, .string { data := #[48, 49, 49, 49, 49, 49, 48, 48] }, .string { data := #[49, 49, 49, 49, 49, 48, 49, 49, 49, 49, 49, 48] }, .string { data := #[49, 49, 49, 49, 48, 49, 49, 49] }] 9)) := ⟨_, rfl⟩; rw [← hWW] at T5 HBt; have T5 := Aside0.mk T5; have HBt := Aside0.mk HBt; have hWW := Aside0.mk hWW.symm)
    | (go_at_call 13; rw [hWW.out]; (with_reducible refine (row_ok { data := #[48] } _ HZ2.out).mono ?_); rintro e w2 ⟨A2, c2, rfl, HO, hn⟩; have HB2 := below_step HBt.out hn; have T5 := T5.out.below hn; have y5 := at5 ((w1.alloc (.cells #[.string { data := #[] }, .string { data := #[48] }, .string { data := #[49, 49, 49, 49, 49] }, .string { data := #[49, 49, 49, 49, 49, 49] }, .string { data := #[48, 49, 49, 49, 49, 49, 48] }, .string { data := #[49, 49, 49, 49, 49, 49, 49, 49, 49, 49] }, .string { data := #[49, 49, 49, 49, 48, 49, 49, 49] }] 9)).heap.size) (w1.heap.size + 1) w2 [{ data := #[] }, { data := #[48] }, { data := #[49, 49, 49, 49, 49, 48] }, { data := #[49, 49, 49, 49, 49, 48, 49] }, { data := #[48, 49, 49, 49, 49, 49, 48, 48] }, { data := #[49, 49, 49, 49, 49, 48, 49, 49, 49, 49, 49, 48] }, { data := #[49, 49, 49, 49, 48, 49, 49, 49] }] 9 0 1 { data := #[48] } T5 (by decide) rfl (by simp); clear T5; clear hn; rw [HR2.out] at HO ⊢; have HO2 : Own (Kd.int .u8) 5 _ w2 (.slice A2 1 c2) [0] := HO; clear HO)
    | (go_at_call 13; (with_reducible refine (row_ok { data := #[48] } _ HZ3.out).mono ?_); rintro e w3 ⟨A3, c3, rfl, HO, hn⟩; have HB3 := below_step HB2 hn; have HO23 := HO2.below hn; clear hn; rw [HR3.out] at HO ⊢; have HO3 : Own (Kd.int .u8) 5 _ w3 (.slice A3 1 c3) [0] := HO; clear HO)
    | (go_at_call 11; (with_reducible refine (unstuff_ok _ _ _ [0] _ HO3.rds HOb.out (by decide)).mono ?_); rintro e w4 ⟨A4, c4, rfl, HO, hn⟩; have HB4 := below_step HB3 hn; have HO24 := HO23.below hn; have HO34 := HO3.below hn; clear hn; rw [HU4.out] at HO ⊢; have HO4 : Own (Kd.int .u8) 5 _ w4 (.slice A4 1 c4) [0] := HO; clear HO)
    | (go_at_call 13; (with_reducible refine (row_ok { data := #[48, 49, 49, 49, 49, 49, 49] } _ HZ5.out).mono ?_); rintro e w5 ⟨A5, c5, rfl, HO, hn⟩; have HB5 := below_step HB4 hn; have HO25 := HO24.below hn; have HO35 := HO34.below hn; have HO45 := HO4.below hn; clear hn; rw [HR5.out] at HO ⊢; have HO5 : Own (Kd.int .u8) 5 _ w5 (.slice A5 7 c5) [0, 1, 1, 1, 1, 1, 1] := HO; clear HO)
    | (go_at_call 11; (with_reducible refine (unstuff_ok _ _ _ [0, 1, 1, 1, 1, 1, 1] _ HO5.rds HOx.out (by decide)).mono ?_); rintro e w6 ⟨A6, c6, rfl, HO, hn⟩; have HB6 := below_step HB5 hn; have HO26 := HO25.below hn; have HO36 := HO35.below hn; have HO46 := HO45.below hn; clear hn HO; rw [HU6.out])
    | (go_at_call 13; (with_reducible refine (row_ok { data := #[48, 49, 49, 49, 49, 49] } _ HZ7.out).mono ?_); rintro e w7 ⟨A7, c7, rfl, HO, hn⟩; have HB7 := below_step HB6 hn; have HO27 := HO26.below hn; have HO37 := HO36.below hn; have HO47 := HO46.below hn; clear hn; rw [HR7.out] at HO ⊢; have HO7 : Own (Kd.int .u8) 5 _ w7 (.slice A7 6 c7) [0, 1, 1, 1, 1, 1] := HO; clear HO)
    | (go_at_call 11; (with_reducible refine (unstuff_ok _ _ _ [0, 1, 1, 1, 1, 1] _ HO7.rds HOy.out (by decide)).mono ?_); rintro e w8 ⟨A8, c8, rfl, HO, hn⟩; have HB8 := below_step HB7 hn; have HO28 := HO27.below hn; have HO38 := HO37.below hn; have HO48 := HO47.below hn; clear hn HO; rw [HU8.out]))
  refine region_each (VT (fun i => match i with | 0 => .slice A2 1 c2 | 2 => .string (strOfNums (stuffL 0 [0])) | 3 => .slice A3 1 c3 | 4 => .string (strOfNums [0]) | 5 => .bool true | 6 => .bool true | 7 => .int .i64 0 | 8 => .int .i64 0 | 9 => .bool true | 10 => .bool true | 11 => .bool true | 12 => .slice A4 1 c4 | 13 => .string (strOfNums [0]) | 14 => .slice A2 1 c2 | 15 => .string (strOfNums [0]) | 16 => .bool true | 17 => .bool true | 18 => .bool true | 19 => .int .i64 4 | 20 => .int .i64 4 | 21 => .bool true | 22 => .bool true | 23 => .bool true | 24 => .int .i64 3 | 25 => .int .i64 3 | 26 => .bool true | 27 => .bool true | 28 => .bool true | _ => undef) [(1, (stuffL 0 [0]))]) (by kernel_rfl) (by kernel_rfl) (VT_stable _ _) ?_ ?_
  · refine ⟨?_, ?_, ?_, ?_, ?_, ?_, ?_, ?_, ?_, ?_, ?_, ?_, ?_, ?_, ?_, ?_, ?_, ?_, ?_, ?_, ?_, ?_, ?_, ?_, ?_, ?_, ?_, ?_, ?_, trivial⟩
    · intro a_ w_ st
      have e6 : a_.eval (.tmp 6) = .slice A2 1 c2 := st.slot 6 (by kernel_rfl)
      exact op_yield (.slice A2 1 c2) (wanted_none rfl _) (by simp only [execOp, e6]; rfl) rfl
    · intro a_ w_ st
      have e55 : a_.eval (.tmp 55) = .slice A2 1 c2 := st.dep 0 _ 55 rfl rfl (by kernel_rfl)
      skip
      exact op_call Try.func9 (by kernel_rfl) rfl #[.slice A2 1 c2] (wanted_none rfl _) rfl (by simp [e55]) (calls_sl (stuff_ok _ _ _ [0] w_ (HO28.rds.below st.below) HOa.out (by decide)))
    · intro a_ w_ st
      obtain ⟨A56_, c56_, e56, h56_⟩ : IsSl (stuffL 0 [0]) (a_.eval (.tmp 56)) w_ := st.dep 1 _ 56 rfl rfl (by kernel_rfl)
      have hc_ := conv22 _ _ _ _ w_ (h56_)
      exact op_yield (.string (strOfNums (stuffL 0 [0]))) (wanted_none rfl _) (by simp [execOp, e56, hc_]) rfl
    · intro a_ w_ st
      have e7 : a_.eval (.tmp 7) = .slice A3 1 c3 := st.slot 7 (by kernel_rfl)
      exact op_yield (.slice A3 1 c3) (wanted_none rfl _) (by simp only [execOp, e7]; rfl) rfl
    · intro a_ w_ st
      have e58 : a_.eval (.tmp 58) = .slice A3 1 c3 := st.dep 3 _ 58 rfl rfl (by kernel_rfl)
      have hc_ := conv22 _ _ _ _ w_ (HO38.rds.below st.below)
      exact op_yield (.string (strOfNums [0])) (wanted_none rfl _) (by simp [execOp, e58, hc_]) rfl
    · intro a_ w_ st
      have e57 : a_.eval (.tmp 57) = .string (strOfNums (stuffL 0 [0])) := st.dep 2 _ 57 rfl rfl (by kernel_rfl)
      have e59 : a_.eval (.tmp 59) = .string (strOfNums [0]) := st.dep 4 _ 59 rfl rfl (by kernel_rfl)
      exact op_yield (.bool true) (wanted_none rfl _) (by simp only [execOp, e57, e59, HSA.out]; go_simp) rfl
    · intro a_ w_ st
      have e60 : a_.eval (.tmp 60) = .bool true := st.dep 5 _ 60 rfl rfl (by kernel_rfl)
      exact op_yield (.bool true) (wanted_none rfl _) (by simp only [execOp, e60]; rfl) rfl
    · intro a_ w_ st
      have e61 : a_.eval (.tmp 61) = .bool true := st.dep 6 _ 61 rfl rfl (by kernel_rfl)
      have e9 : a_.eval (.tmp 9) = .int .i64 0 := st.slot 9 (by kernel_rfl)
      exact op_yield (.int .i64 0) (wanted_some rfl (st.yields 6 _ 61 rfl rfl (of_decide_eq_true (by kernel_rfl)) true e61)) (by simp only [execOp, e61, e9]; rfl) rfl
    · intro a_ w_ st
      have e61 : a_.eval (.tmp 61) = .bool true := st.dep 6 _ 61 rfl rfl (by kernel_rfl)
      have e62 : a_.eval (.tmp 62) = .int .i64 0 := st.dep 7 _ 62 rfl rfl (by kernel_rfl)
      skip
      exact op_call Try.func12 (by kernel_rfl) rfl #[.int .i64 0] (wanted_some rfl (st.yields 6 _ 61 rfl rfl (of_decide_eq_true (by kernel_rfl)) true e61)) rfl (by simp [e61, e62]) (calls_same (num_ok _ _))
    · intro a_ w_ st
      have e61 : a_.eval (.tmp 61) = .bool true := st.dep 6 _ 61 rfl rfl (by kernel_rfl)
      have e63 : a_.eval (.tmp 63) = .int .i64 0 := st.dep 8 _ 63 rfl rfl (by kernel_rfl)
      exact op_yield (.bool true) (wanted_some rfl (st.yields 6 _ 61 rfl rfl (of_decide_eq_true (by kernel_rfl)) true e61)) (by simp only [execOp, e61, e63]; go_simp) rfl
    · intro a_ w_ st
      have e61 : a_.eval (.tmp 61) = .bool true := st.dep 6 _ 61 rfl rfl (by kernel_rfl)
      have e64 : a_.eval (.tmp 64) = .bool true := st.dep 9 _ 64 rfl rfl (by kernel_rfl)
      exact op_yield (.bool true) (wanted_none rfl _) (by simp only [execOp, e61, e64]; rfl) rfl
    · intro a_ w_ st
      have e65 : a_.eval (.tmp 65) = .bool true := st.dep 10 _ 65 rfl rfl (by kernel_rfl)
      exact op_yield (.bool true) (wanted_none rfl _) (by simp only [execOp, e65]; rfl) rfl
    · intro a_ w_ st
      have e66 : a_.eval (.tmp 66) = .bool true := st.dep 11 _ 66 rfl rfl (by kernel_rfl)
      have e8 : a_.eval (.tmp 8) = .slice A4 1 c4 := st.slot 8 (by kernel_rfl)
      exact op_yield (.slice A4 1 c4) (wanted_some rfl (st.yields 11 _ 66 rfl rfl (of_decide_eq_true (by kernel_rfl)) true e66)) (by simp only [execOp, e66, e8]; rfl) rfl
    · intro a_ w_ st
      have e66 : a_.eval (.tmp 66) = .bool true := st.dep 11 _ 66 rfl rfl (by kernel_rfl)
      have e67 : a_.eval (.tmp 67) = .slice A4 1 c4 := st.dep 12 _ 67 rfl rfl (by kernel_rfl)
      have hc_ := conv22 _ _ _ _ w_ (HO48.rds.below st.below)
      exact op_yield (.string (strOfNums [0])) (wanted_some rfl (st.yields 11 _ 66 rfl rfl (of_decide_eq_true (by kernel_rfl)) true e66)) (by simp [execOp, e66, e67, hc_]) rfl
    · intro a_ w_ st
      have e66 : a_.eval (.tmp 66) = .bool true := st.dep 11 _ 66 rfl rfl (by kernel_rfl)
      have e6 : a_.eval (.tmp 6) = .slice A2 1 c2 := st.slot 6 (by kernel_rfl)
      exact op_yield (.slice A2 1 c2) (wanted_some rfl (st.yields 11 _ 66 rfl rfl (of_decide_eq_true (by kernel_rfl)) true e66)) (by simp only [execOp, e66, e6]; rfl) rfl
    · intro a_ w_ st
      have e66 : a_.eval (.tmp 66) = .bool true := st.dep 11 _ 66 rfl rfl (by kernel_rfl)
      have e69 : a_.eval (.tmp 69) = .slice A2 1 c2 := st.dep 14 _ 69 rfl rfl (by kernel_rfl)
      have hc_ := conv22 _ _ _ _ w_ (HO28.rds.below st.below)
      exact op_yield (.string (strOfNums [0])) (wanted_some rfl (st.yields 11 _ 66 rfl rfl (of_decide_eq_true (by kernel_rfl)) true e66)) (by simp [execOp, e66, e69, hc_]) rfl
    · intro a_ w_ st
      have e66 : a_.eval (.tmp 66) = .bool true := st.dep 11 _ 66 rfl rfl (by kernel_rfl)
      have e68 : a_.eval (.tmp 68) = .string (strOfNums [0]) := st.dep 13 _ 68 rfl rfl (by kernel_rfl)
      have e70 : a_.eval (.tmp 70) = .string (strOfNums [0]) := st.dep 15 _ 70 rfl rfl (by kernel_rfl)
      exact op_yield (.bool true) (wanted_some rfl (st.yields 11 _ 66 rfl rfl (of_decide_eq_true (by kernel_rfl)) true e66)) (by simp only [execOp, e66, e68, e70]; go_simp) rfl
    · intro a_ w_ st
      have e66 : a_.eval (.tmp 66) = .bool true := st.dep 11 _ 66 rfl rfl (by kernel_rfl)
      have e71 : a_.eval (.tmp 71) = .bool true := st.dep 16 _ 71 rfl rfl (by kernel_rfl)
      exact op_yield (.bool true) (wanted_none rfl _) (by simp only [execOp, e66, e71]; rfl) rfl
    · intro a_ w_ st
      have e72 : a_.eval (.tmp 72) = .bool true := st.dep 17 _ 72 rfl rfl (by kernel_rfl)
      exact op_yield (.bool true) (wanted_none rfl _) (by simp only [execOp, e72]; rfl) rfl
    · intro a_ w_ st
      have e73 : a_.eval (.tmp 73) = .bool true := st.dep 18 _ 73 rfl rfl (by kernel_rfl)
      have e11 : a_.eval (.tmp 11) = .int .i64 4 := st.slot 11 (by kernel_rfl)
      exact op_yield (.int .i64 4) (wanted_some rfl (st.yields 18 _ 73 rfl rfl (of_decide_eq_true (by kernel_rfl)) true e73)) (by simp only [execOp, e73, e11]; rfl) rfl
    · intro a_ w_ st
      have e73 : a_.eval (.tmp 73) = .bool true := st.dep 18 _ 73 rfl rfl (by kernel_rfl)
      have e74 : a_.eval (.tmp 74) = .int .i64 4 := st.dep 19 _ 74 rfl rfl (by kernel_rfl)
      skip
      exact op_call Try.func12 (by kernel_rfl) rfl #[.int .i64 4] (wanted_some rfl (st.yields 18 _ 73 rfl rfl (of_decide_eq_true (by kernel_rfl)) true e73)) rfl (by simp [e73, e74]) (calls_same (num_ok _ _))
    · intro a_ w_ st
      have e73 : a_.eval (.tmp 73) = .bool true := st.dep 18 _ 73 rfl rfl (by kernel_rfl)
      have e75 : a_.eval (.tmp 75) = .int .i64 4 := st.dep 20 _ 75 rfl rfl (by kernel_rfl)
      exact op_yield (.bool true) (wanted_some rfl (st.yields 18 _ 73 rfl rfl (of_decide_eq_true (by kernel_rfl)) true e73)) (by simp only [execOp, e73, e75]; go_simp) rfl
    · intro a_ w_ st
      have e73 : a_.eval (.tmp 73) = .bool true := st.dep 18 _ 73 rfl rfl (by kernel_rfl)
      have e76 : a_.eval (.tmp 76) = .bool true := st.dep 21 _ 76 rfl rfl (by kernel_rfl)
      exact op_yield (.bool true) (wanted_none rfl _) (by simp only [execOp, e73, e76]; rfl) rfl
    · intro a_ w_ st
      have e77 : a_.eval (.tmp 77) = .bool true := st.dep 22 _ 77 rfl rfl (by kernel_rfl)
      exact op_yield (.bool true) (wanted_none rfl _) (by simp only [execOp, e77]; rfl) rfl
    · intro a_ w_ st
      have e78 : a_.eval (.tmp 78) = .bool true := st.dep 23 _ 78 rfl rfl (by kernel_rfl)
      have e13 : a_.eval (.tmp 13) = .int .i64 3 := st.slot 13 (by kernel_rfl)
      exact op_yield (.int .i64 3) (wanted_some rfl (st.yields 23 _ 78 rfl rfl (of_decide_eq_true (by kernel_rfl)) true e78)) (by simp only [execOp, e78, e13]; rfl) rfl
    · intro a_ w_ st
      have e78 : a_.eval (.tmp 78) = .bool true := st.dep 23 _ 78 rfl rfl (by kernel_rfl)
      have e79 : a_.eval (.tmp 79) = .int .i64 3 := st.dep 24 _ 79 rfl rfl (by kernel_rfl)
      skip
      exact op_call Try.func12 (by kernel_rfl) rfl #[.int .i64 3] (wanted_some rfl (st.yields 23 _ 78 rfl rfl (of_decide_eq_true (by kernel_rfl)) true e78)) rfl (by simp [e78, e79]) (calls_same (num_ok _ _))
    · intro a_ w_ st
      have e78 : a_.eval (.tmp 78) = .bool true := st.dep 23 _ 78 rfl rfl (by kernel_rfl)
      have e80 : a_.eval (.tmp 80) = .int .i64 3 := st.dep 25 _ 80 rfl rfl (by kernel_rfl)
      exact op_yield (.bool true) (wanted_some rfl (st.yields 23 _ 78 rfl rfl (of_decide_eq_true (by kernel_rfl)) true e78)) (by simp only [execOp, e78, e80]; go_simp) rfl
    · intro a_ w_ st
      have e78 : a_.eval (.tmp 78) = .bool true := st.dep 23 _ 78 rfl rfl (by kernel_rfl)
      have e81 : a_.eval (.tmp 81) = .bool true := st.dep 26 _ 81 rfl rfl (by kernel_rfl)
      exact op_yield (.bool true) (wanted_none rfl _) (by simp only [execOp, e78, e81]; rfl) rfl
    · intro a_ w_ st
      have e82 : a_.eval (.tmp 82) = .bool true := st.dep 27 _ 82 rfl rfl (by kernel_rfl)
      exact op_yield (.bool true) (wanted_none rfl _) (by simp only [execOp, e82]; rfl) rfl
  · intro a_ w_ st
    go_step
    go_step
    refine wp_ret ?_
    exact ⟨st.defers, _, results_tmp rfl _ _ _, ⟨by rw [show a_.tmps.getD 2 undef = .bool true from st.val 28 _ 2 rfl trivial rfl], below_step HB8 st.below⟩⟩
set_option maxHeartbeats 8000000 in
set_option maxRecDepth 100000 in
theorem known2 (w : World) : Calls Try.prog 5 #[.int .i64 2] w fun e w' => e = .returned (.bool true) ∧ Below w.heap.size w w' := by
  have HR2 : Aside0 (rowL { data := #[49, 49, 49, 49, 49] } = [1, 1, 1, 1, 1]) := ⟨by decide +kernel⟩
  have HR3 : Aside0 (rowL { data := #[49, 49, 49, 49, 49, 48] } = [1, 1, 1, 1, 1, 0]) := ⟨by decide +kernel⟩
  have HR5 : Aside0 (rowL { data := #[48, 49, 49, 49, 49, 49, 49] } = [0, 1, 1, 1, 1, 1, 1]) := ⟨by decide +kernel⟩
  have HR7 : Aside0 (rowL { data := #[48, 49, 49, 49, 49, 49] } = [0, 1, 1, 1, 1, 1]) := ⟨by decide +kernel⟩
  have HZ2 : Aside0 (({ data := #[49, 49, 49, 49, 49] } : ByteArray).size ≤ 70368744177664) := ⟨by decide⟩
  have HZ3 : Aside0 (({ data := #[49, 49, 49, 49, 49, 48] } : ByteArray).size ≤ 70368744177664) := ⟨by decide⟩
  have HZ5 : Aside0 (({ data := #[48, 49, 49, 49, 49, 49, 49] } : ByteArray).size ≤ 70368744177664) := ⟨by decide⟩
  have HZ7 : Aside0 (({ data := #[48, 49, 49, 49, 49, 49] } : ByteArray).size ≤ 70368744177664) := ⟨by decide⟩
  have HU4 : Aside0 (unstuffL 0 [1, 1, 1, 1, 1, 0] [] = ([1, 1, 1, 1, 1], 0)) := ⟨by decide +kernel⟩
  have HU6 : Aside0 (unstuffL 0 [0, 1, 1, 1, 1, 1, 1] [] = ([], 4)) := ⟨by decide +kernel⟩
  have HU8 : Aside0 (unstuffL 0 [0, 1, 1, 1, 1, 1] [] = ([], 3)) := ⟨by decide +kernel⟩
  have HSA : Aside0 (stuffL 0 [1, 1, 1, 1, 1] = [1, 1, 1, 1, 1, 0]) := ⟨by decide +kernel⟩
  have HOa : Aside0 (bitsOk [1, 1, 1, 1, 1]) := ⟨by unfold bitsOk; decide⟩
  have HOb : Aside0 (bitsOk [1, 1, 1, 1, 1, 0]) := ⟨by unfold bitsOk; decide⟩
  have HOx : Aside0 (bitsOk [0, 1, 1, 1, 1, 1, 1]) := ⟨by unfold bitsOk; decide⟩
  have HOy : Aside0 (bitsOk [0, 1, 1, 1, 1, 1]) := ⟨by unfold bitsOk; decide⟩
  go_enter Try.func5, Try.ntmps5
  go_wp2_with (first
    | (go_at_call 8; refine (alive_ok _).mono ?_; rintro e w1 ⟨rfl, HB1⟩; have T5 := lit5 (w1.alloc (.cells #[.string { data := #[] }, .string { data := #[48] }, .string { data := #[49, 49, 49, 49, 49] }, .string { data := #[49, 49, 49, 49, 49, 49] }, .string { data := #[48, 49, 49, 49, 49, 49, 48] }, .string { data := #[49, 49, 49, 49, 49, 49, 49, 49, 49, 49] }, .string { data := #[49, 49, 49, 49, 48, 49, 49, 49] }] 9)); have HBt : Below w.heap.size w ((w1.alloc (.cells #[.string { data := #[] }, .string { data := #[48] }, .string { data := #[49, 49, 49, 49, 49] }, .string { data := #[49, 49, 49, 49, 49, 49] }, .string { data := #[48, 49, 49, 49, 49, 49, 48] }, .string { data := #[49, 49, 49, 49, 49, 49, 49, 49, 49, 49] }, .string { data := #[49, 49, 49, 49, 48, 49, 49, 49] }] 9)).alloc (.cells #[.string { data := #[] }, .string { data := #[48] }, .string { data := #[49, 49, 49, 49, 49, 48] }, .string { data := #[49, 49, 49, 49, 49, 48, 49] }, .string { data := #[48, 49, 49, 49, 49, 49, 48, 48] }, .string { data := #[49, 49, 49, 49, 49, 48, 49, 49, 49, 49, 49, 48] }, .string { data := #[49, 49, 49, 49, 48, 49, 49, 49] }] 9)) := below_alloc (below_alloc HB1 _) _; obtain ⟨WW, hWW⟩ : ∃ WW, WW = ((w1.alloc (.cells #[.string { data := #[] }, .string { data := #[48] }, .string { data := #[49, 49, 49, 49, 49] }, .string { data := #[49, 49, 49, 49, 49, 49] }, .string { data := #[48, 49, 49, 49, 49, 49, 48] }, .string { data := #[49, 49, 49, 49, 49, 49, 49, 49, 49, 49] }, .string { data := #[49, 49, 49, 49, 48, 49, 49, 49] }] 9)).alloc (.cells #[.string { data := #[] }, .string { data := #[48] }, .string { data := #[49, 49, 49, 49, 49, 48] }, .string { data := #[49, 49, 49, 49, 49, 48, 49] }, .string { data := #[48, 49, 49, 49, 49, 49, 48, 48] }, .string { data := #[49, 49, 49, 49, 49, 48, 49, 49, 49, 49, 49, 48] }, .string { data := #[49, 49, 49, 49, 48, 49, 49, 49] }] 9)) := ⟨_, rfl⟩; rw [← hWW] at T5 HBt; have T5 := Aside0.mk T5; have HBt := Aside0.mk HBt; have hWW := Aside0.mk hWW.symm)
    | (go_at_call 13; rw [hWW.out]; (with_reducible refine (row_ok { data := #[49, 49, 49, 49, 49] } _ HZ2.out).mono ?_); rintro e w2 ⟨A2, c2, rfl, HO, hn⟩; have HB2 := below_step HBt.out hn; have T5 := T5.out.below hn; have y5 := at5 ((w1.alloc (.cells #[.string { data := #[] }, .string { data := #[48] }, .string { data := #[49, 49, 49, 49, 49] }, .string { data := #[49, 49, 49, 49, 49, 49] }, .string { data := #[48, 49, 49, 49, 49, 49, 48] }, .string { data := #[49, 49, 49, 49, 49, 49, 49, 49, 49, 49] }, .string { data := #[49, 49, 49, 49, 48, 49, 49, 49] }] 9)).heap.size) (w1.heap.size + 1) w2 [{ data := #[] }, { data := #[48] }, { data := #[49, 49, 49, 49, 49, 48] }, { data := #[49, 49, 49, 49, 49, 48, 49] }, { data := #[48, 49, 49, 49, 49, 49, 48, 48] }, { data := #[49, 49, 49, 49, 49, 48, 49, 49, 49, 49, 49, 48] }, { data := #[49, 49, 49, 49, 48, 49, 49, 49] }] 9 0 2 { data := #[49, 49, 49, 49, 49, 48] } T5 (by decide) rfl (by simp); clear T5; clear hn; rw [HR2.out] at HO ⊢; have HO2 : Own (Kd.int .u8) 5 _ w2 (.slice A2 5 c2) [1, 1, 1, 1, 1] := HO; clear HO)
    | (go_at_call 13; (with_reducible refine (row_ok { data := #[49, 49, 49, 49, 49, 48] } _ HZ3.out).mono ?_); rintro e w3 ⟨A3, c3, rfl, HO, hn⟩; have HB3 := below_step HB2 hn; have HO23 := HO2.below hn; clear hn; rw [HR3.out] at HO ⊢; have HO3 : Own (Kd.int .u8) 5 _ w3 (.slice A3 6 c3) [1, 1, 1, 1, 1, 0] := HO; clear HO)
    | (go_at_call 11; (with_reducible refine (unstuff_ok _ _ _ [1, 1, 1, 1, 1, 0] _ HO3.rds HOb.out (by decide)).mono ?_); rintro e w4 ⟨A4, c4, rfl, HO, hn⟩; have HB4 := below_step HB3 hn; have HO24 := HO23.below hn; have HO34 := HO3.below hn; clear hn; rw [HU4.out] at HO ⊢; have HO4 : Own (Kd.int .u8) 5 _ w4 (.slice A4 5 c4) [1, 1, 1, 1, 1] := HO; clear HO)
    | (go_at_call 13; (with_reducible refine (row_ok { data := #[48, 49, 49, 49, 49, 49, 49] } _ HZ5.out).mono ?_); rintro e w5 ⟨A5, c5, rfl, HO, hn⟩; have HB5 := below_step HB4 hn; have HO25 := HO24.below hn; have HO35 := HO34.below hn; have HO45 := HO4.below hn; clear hn; rw [HR5.out] at HO ⊢; have HO5 : Own (Kd.int .u8) 5 _ w5 (.slice A5 7 c5) [0, 1, 1, 1, 1, 1, 1] := HO; clear HO)
    | (go_at_call 11; (with_reducible refine (unstuff_ok _ _ _ [0, 1, 1, 1, 1, 1, 1] _ HO5.rds HOx.out (by decide)).mono ?_); rintro e w6 ⟨A6, c6, rfl, HO, hn⟩; have HB6 := below_step HB5 hn; have HO26 := HO25.below hn; have HO36 := HO35.below hn; have HO46 := HO45.below hn; clear hn HO; rw [HU6.out])
    | (go_at_call 13; (with_reducible refine (row_ok { data := #[48, 49, 49, 49, 49, 49] } _ HZ7.out).mono ?_); rintro e w7 ⟨A7, c7, rfl, HO, hn⟩; have HB7 := below_step HB6 hn; have HO27 := HO26.below hn; have HO37 := HO36.below hn; have HO47 := HO46.below hn; clear hn; rw [HR7.out] at HO ⊢; have HO7 : Own (Kd.int .u8) 5 _ w7 (.slice A7 6 c7) [0, 1, 1, 1, 1, 1] := HO; clear HO)
    | (go_at_call 11; (with_reducible refine (unstuff_ok _ _ _ [0, 1, 1, 1, 1, 1] _ HO7.rds HOy.out (by decide)).mono ?_); rintro e w8 ⟨A8, c8, rfl, HO, hn⟩; have HB8 := below_step HB7 hn; have HO28 := HO27.below hn; have HO38 := HO37.below hn; have HO48 := HO47.below hn; clear hn HO; rw [HU8.out]))
  refine region_each (VT (fun i => match i with | 0 => .slice A2 5 c2 | 2 => .string (strOfNums (stuffL 0 [1, 1, 1, 1, 1])) | 3 => .slice A3 6 c3 | 4 => .string (strOfNums [1, 1, 1, 1, 1, 0]) | 5 => .bool true | 6 => .bool true | 7 => .int .i64 0 | 8 => .int .i64 0 | 9 => .bool true | 10 => .bool true | 11 => .bool true | 12 => .slice A4 5 c4 | 13 => .string (strOfNums [1, 1, 1, 1, 1]) | 14 => .slice A2 5 c2 | 15 => .string (strOfNums [1, 1, 1, 1, 1]) | 16 => .bool true | 17 => .bool true | 18 => .bool true | 19 => .int .i64 4 | 20 => .int .i64 4 | 21 => .bool true | 22 => .bool true | 23 => .bool true | 24 => .int .i64 3 | 25 => .int .i64 3 | 26 => .bool true | 27 => .bool true | 28 => .bool true | _ => undef) [(1, (stuffL 0 [1, 1, 1, 1, 1]))]) (by kernel_rfl) (by kernel_rfl) (VT_stable _ _) ?_ ?_
  · refine ⟨?_, ?_, ?_, ?_, ?_, ?_, ?_, ?_, ?_, ?_, ?_, ?_, ?_, ?_, ?_, ?_, ?_, ?_, ?_, ?_, ?_, ?_, ?_, ?_, ?_, ?_, ?_, ?_, ?_, trivial⟩
    · intro a_ w_ st
      have e6 : a_.eval (.tmp 6) = .slice A2 5 c2 := st.slot 6 (by kernel_rfl)
      exact op_yield (.slice A2 5 c2) (wanted_none rfl _) (by simp only [execOp, e6]; rfl) rfl
    · intro a_ w_ st
      have e55 : a_.eval (.tmp 55) = .slice A2 5 c2 := st.dep 0 _ 55 rfl rfl (by kernel_rfl)
      skip
      exact op_call Try.func9 (by kernel_rfl) rfl #[.slice A2 5 c2] (wanted_none rfl _) rfl (by simp [e55]) (calls_sl (stuff_ok _ _ _ [1, 1, 1, 1, 1] w_ (HO28.rds.below st.below) HOa.out (by decide)))
    · intro a_ w_ st
      obtain ⟨A56_, c56_, e56, h56_⟩ : IsSl (stuffL 0 [1, 1, 1, 1, 1]) (a_.eval (.tmp 56)) w_ := st.dep 1 _ 56 rfl rfl (by kernel_rfl)
      have hc_ := conv22 _ _ _ _ w_ (h56_)
      exact op_yield (.string (strOfNums (stuffL 0 [1, 1, 1, 1, 1]))) (wanted_none rfl _) (by simp [execOp, e56, hc_]) rfl
    · intro a_ w_ st
      have e7 : a_.eval (.tmp 7) = .slice A3 6 c3 := st.slot 7 (by kernel_rfl)
      exact op_yield (.slice A3 6 c3) (wanted_none rfl _) (by simp only [execOp, e7]; rfl) rfl
    · intro a_ w_ st
      have e58 : a_.eval (.tmp 58) = .slice A3 6 c3 := st.dep 3 _ 58 rfl rfl (by kernel_rfl)
      have hc_ := conv22 _ _ _ _ w_ (HO38.rds.below st.below)
      exact op_yield (.string (strOfNums [1, 1, 1, 1, 1, 0])) (wanted_none rfl _) (by simp [execOp, e58, hc_]) rfl
    · intro a_ w_ st
      have e57 : a_.eval (.tmp 57) = .string (strOfNums (stuffL 0 [1, 1, 1, 1, 1])) := st.dep 2 _ 57 rfl rfl (by kernel_rfl)
      have e59 : a_.eval (.tmp 59) = .string (strOfNums [1, 1, 1, 1, 1, 0]) := st.dep 4 _ 59 rfl rfl (by kernel_rfl)
      exact op_yield (.bool true) (wanted_none rfl _) (by simp only [execOp, e57, e59, HSA.out]; go_simp) rfl
    · intro a_ w_ st
      have e60 : a_.eval (.tmp 60) = .bool true := st.dep 5 _ 60 rfl rfl (by kernel_rfl)
      exact op_yield (.bool true) (wanted_none rfl _) (by simp only [execOp, e60]; rfl) rfl
    · intro a_ w_ st
      have e61 : a_.eval (.tmp 61) = .bool true := st.dep 6 _ 61 rfl rfl (by kernel_rfl)
      have e9 : a_.eval (.tmp 9) = .int .i64 0 := st.slot 9 (by kernel_rfl)
      exact op_yield (.int .i64 0) (wanted_some rfl (st.yields 6 _ 61 rfl rfl (of_decide_eq_true (by kernel_rfl)) true e61)) (by simp only [execOp, e61, e9]; rfl) rfl
    · intro a_ w_ st
      have e61 : a_.eval (.tmp 61) = .bool true := st.dep 6 _ 61 rfl rfl (by kernel_rfl)
      have e62 : a_.eval (.tmp 62) = .int .i64 0 := st.dep 7 _ 62 rfl rfl (by kernel_rfl)
      skip
      exact op_call Try.func12 (by kernel_rfl) rfl #[.int .i64 0] (wanted_some rfl (st.yields 6 _ 61 rfl rfl (of_decide_eq_true (by kernel_rfl)) true e61)) rfl (by simp [e61, e62]) (calls_same (num_ok _ _))
    · intro a_ w_ st
      have e61 : a_.eval (.tmp 61) = .bool true := st.dep 6 _ 61 rfl rfl (by kernel_rfl)
      have e63 : a_.eval (.tmp 63) = .int .i64 0 := st.dep 8 _ 63 rfl rfl (by kernel_rfl)
      exact op_yield (.bool true) (wanted_some rfl (st.yields 6 _ 61 rfl rfl (of_decide_eq_true (by kernel_rfl)) true e61)) (by simp only [execOp, e61, e63]; go_simp) rfl
    · intro a_ w_ st
      have e61 : a_.eval (.tmp 61) = .bool true := st.dep 6 _ 61 rfl rfl (by kernel_rfl)
      have e64 : a_.eval (.tmp 64) = .bool true := st.dep 9 _ 64 rfl rfl (by kernel_rfl)
      exact op_yield (.bool true) (wanted_none rfl _) (by simp only [execOp, e61, e64]; rfl) rfl
    · intro a_ w_ st
      have e65 : a_.eval (.tmp 65) = .bool true := st.dep 10 _ 65 rfl rfl (by kernel_rfl)
      exact op_yield (.bool true) (wanted_none rfl _) (by simp only [execOp, e65]; rfl) rfl
    · intro a_ w_ st
      have e66 : a_.eval (.tmp 66) = .bool true := st.dep 11 _ 66 rfl rfl (by kernel_rfl)
      have e8 : a_.eval (.tmp 8) = .slice A4 5 c4 := st.slot 8 (by kernel_rfl)
      exact op_yield (.slice A4 5 c4) (wanted_some rfl (st.yields 11 _ 66 rfl rfl (of_decide_eq_true (by kernel_rfl)) true e66)) (by simp only [execOp, e66, e8]; rfl) rfl
    · intro a_ w_ st
      have e66 : a_.eval (.tmp 66) = .bool true := st.dep 11 _ 66 rfl rfl (by kernel_rfl)
      have e67 : a_.eval (.tmp 67) = .slice A4 5 c4 := st.dep 12 _ 67 rfl rfl (by kernel_rfl)
      have hc_ := conv22 _ _ _ _ w_ (HO48.rds.below st.below)
      exact op_yield (.string (strOfNums [1, 1, 1, 1, 1])) (wanted_some rfl (st.yields 11 _ 66 rfl rfl (of_decide_eq_true (by kernel_rfl)) true e66)) (by simp [execOp, e66, e67, hc_]) rfl
    · intro a_ w_ st
      have e66 : a_.eval (.tmp 66) = .bool true := st.dep 11 _ 66 rfl rfl (by kernel_rfl)
      have e6 : a_.eval (.tmp 6) = .slice A2 5 c2 := st.slot 6 (by kernel_rfl)
      exact op_yield (.slice A2 5 c2) (wanted_some rfl (st.yields 11 _ 66 rfl rfl (of_decide_eq_true (by kernel_rfl)) true e66)) (by simp only [execOp, e66, e6]; rfl) rfl
    · intro a_ w_ st
      have e66 : a_.eval (.tmp 66) = .bool true := st.dep 11 _ 66 rfl rfl (by kernel_rfl)
      have e69 : a_.eval (.tmp 69) = .slice A2 5 c2 := st.dep 14 _ 69 rfl rfl (by kernel_rfl)
      have hc_ := conv22 _ _ _ _ w_ (HO28.rds.below st.below)
      exact op_yield (.string (strOfNums [1, 1, 1, 1, 1])) (wanted_some rfl (st.yields 11 _ 66 rfl rfl (of_decide_eq_true (by kernel_rfl)) true e66)) (by simp [execOp, e66, e69, hc_]) rfl
    · intro a_ w_ st
      have e66 : a_.eval (.tmp 66) = .bool true := st.dep 11 _ 66 rfl rfl (by kernel_rfl)
      have e68 : a_.eval (.tmp 68) = .string (strOfNums [1, 1, 1, 1, 1]) := st.dep 13 _ 68 rfl rfl (by kernel_rfl)
      have e70 : a_.eval (.tmp 70) = .string (strOfNums [1, 1, 1, 1, 1]) := st.dep 15 _ 70 rfl rfl (by kernel_rfl)
      exact op_yield (.bool true) (wanted_some rfl (st.yields 11 _ 66 rfl rfl (of_decide_eq_true (by kernel_rfl)) true e66)) (by simp only [execOp, e66, e68, e70]; go_simp) rfl
    · intro a_ w_ st
      have e66 : a_.eval (.tmp 66) = .bool true := st.dep 11 _ 66 rfl rfl (by kernel_rfl)
      have e71 : a_.eval (.tmp 71) = .bool true := st.dep 16 _ 71 rfl rfl (by kernel_rfl)
      exact op_yield (.bool true) (wanted_none rfl _) (by simp only [execOp, e66, e71]; rfl) rfl
    · intro a_ w_ st
      have e72 : a_.eval (.tmp 72) = .bool true := st.dep 17 _ 72 rfl rfl (by kernel_rfl)
      exact op_yield (.bool true) (wanted_none rfl _) (by simp only [execOp, e72]; rfl) rfl
    · intro a_ w_ st
      have e73 : a_.eval (.tmp 73) = .bool true := st.dep 18 _ 73 rfl rfl (by kernel_rfl)
      have e11 : a_.eval (.tmp 11) = .int .i64 4 := st.slot 11 (by kernel_rfl)
      exact op_yield (.int .i64 4) (wanted_some rfl (st.yields 18 _ 73 rfl rfl (of_decide_eq_true (by kernel_rfl)) true e73)) (by simp only [execOp, e73, e11]; rfl) rfl
    · intro a_ w_ st
      have e73 : a_.eval (.tmp 73) = .bool true := st.dep 18 _ 73 rfl rfl (by kernel_rfl)
      have e74 : a_.eval (.tmp 74) = .int .i64 4 := st.dep 19 _ 74 rfl rfl (by kernel_rfl)
      skip
      exact op_call Try.func12 (by kernel_rfl) rfl #[.int .i64 4] (wanted_some rfl (st.yields 18 _ 73 rfl rfl (of_decide_eq_true (by kernel_rfl)) true e73)) rfl (by simp [e73, e74]) (calls_same (num_ok _ _))
    · intro a_ w_ st
      have e73 : a_.eval (.tmp 73) = .bool true := st.dep 18 _ 73 rfl rfl (by kernel_rfl)
      have e75 : a_.eval (.tmp 75) = .int .i64 4 := st.dep 20 _ 75 rfl rfl (by kernel_rfl)
      exact op_yield (.bool true) (wanted_some rfl (st.yields 18 _ 73 rfl rfl (of_decide_eq_true (by kernel_rfl)) true e73)) (by simp only [execOp, e73, e75]; go_simp) rfl
    · intro a_ w_ st
      have e73 : a_.eval (.tmp 73) = .bool true := st.dep 18 _ 73 rfl rfl (by kernel_rfl)
      have e76 : a_.eval (.tmp 76) = .bool true := st.dep 21 _ 76 rfl rfl (by kernel_rfl)
      exact op_yield (.bool true) (wanted_none rfl _) (by simp only [execOp, e73, e76]; rfl) rfl
    · intro a_ w_ st
      have e77 : a_.eval (.tmp 77) = .bool true := st.dep 22 _ 77 rfl rfl (by kernel_rfl)
      exact op_yield (.bool true) (wanted_none rfl _) (by simp only [execOp, e77]; rfl) rfl
    · intro a_ w_ st
      have e78 : a_.eval (.tmp 78) = .bool true := st.dep 23 _ 78 rfl rfl (by kernel_rfl)
      have e13 : a_.eval (.tmp 13) = .int .i64 3 := st.slot 13 (by kernel_rfl)
      exact op_yield (.int .i64 3) (wanted_some rfl (st.yields 23 _ 78 rfl rfl (of_decide_eq_true (by kernel_rfl)) true e78)) (by simp only [execOp, e78, e13]; rfl) rfl
    · intro a_ w_ st
      have e78 : a_.eval (.tmp 78) = .bool true := st.dep 23 _ 78 rfl rfl (by kernel_rfl)
      have e79 : a_.eval (.tmp 79) = .int .i64 3 := st.dep 24 _ 79 rfl rfl (by kernel_rfl)
      skip
      exact op_call Try.func12 (by kernel_rfl) rfl #[.int .i64 3] (wanted_some rfl (st.yields 23 _ 78 rfl rfl (of_decide_eq_true (by kernel_rfl)) true e78)) rfl (by simp [e78, e79]) (calls_same (num_ok _ _))
    · intro a_ w_ st
      have e78 : a_.eval (.tmp 78) = .bool true := st.dep 23 _ 78 rfl rfl (by kernel_rfl)
      have e80 : a_.eval (.tmp 80) = .int .i64 3 := st.dep 25 _ 80 rfl rfl (by kernel_rfl)
      exact op_yield (.bool true) (wanted_some rfl (st.yields 23 _ 78 rfl rfl (of_decide_eq_true (by kernel_rfl)) true e78)) (by simp only [execOp, e78, e80]; go_simp) rfl
    · intro a_ w_ st
      have e78 : a_.eval (.tmp 78) = .bool true := st.dep 23 _ 78 rfl rfl (by kernel_rfl)
      have e81 : a_.eval (.tmp 81) = .bool true := st.dep 26 _ 81 rfl rfl (by kernel_rfl)
      exact op_yield (.bool true) (wanted_none rfl _) (by simp only [execOp, e78, e81]; rfl) rfl
    · intro a_ w_ st
      have e82 : a_.eval (.tmp 82) = .bool true := st.dep 27 _ 82 rfl rfl (by kernel_rfl)
      exact op_yield (.bool true) (wanted_none rfl _) (by simp only [execOp, e82]; rfl) rfl
  · intro a_ w_ st
    go_step
    go_step
    refine wp_ret ?_
    exact ⟨st.defers, _, results_tmp rfl _ _ _, ⟨by rw [show a_.tmps.getD 2 undef = .bool true from st.val 28 _ 2 rfl trivial rfl], below_step HB8 st.below⟩⟩
set_option maxHeartbeats 8000000 in
set_option maxRecDepth 100000 in
theorem known3 (w : World) : Calls Try.prog 5 #[.int .i64 3] w fun e w' => e = .returned (.bool true) ∧ Below w.heap.size w w' := by
  have HR2 : Aside0 (rowL { data := #[49, 49, 49, 49, 49, 49] } = [1, 1, 1, 1, 1, 1]) := ⟨by decide +kernel⟩
  have HR3 : Aside0 (rowL { data := #[49, 49, 49, 49, 49, 48, 49] } = [1, 1, 1, 1, 1, 0, 1]) := ⟨by decide +kernel⟩
  have HR5 : Aside0 (rowL { data := #[48, 49, 49, 49, 49, 49, 49] } = [0, 1, 1, 1, 1, 1, 1]) := ⟨by decide +kernel⟩
  have HR7 : Aside0 (rowL { data := #[48, 49, 49, 49, 49, 49] } = [0, 1, 1, 1, 1, 1]) := ⟨by decide +kernel⟩
  have HZ2 : Aside0 (({ data := #[49, 49, 49, 49, 49, 49] } : ByteArray).size ≤ 70368744177664) := ⟨by decide⟩
  have HZ3 : Aside0 (({ data := #[49, 49, 49, 49, 49, 48, 49] } : ByteArray).size ≤ 70368744177664) := ⟨by decide⟩
  have HZ5 : Aside0 (({ data := #[48, 49, 49, 49, 49, 49, 49] } : ByteArray).size ≤ 70368744177664) := ⟨by decide⟩
  have HZ7 : Aside0 (({ data := #[48, 49, 49, 49, 49, 49] } : ByteArray).size ≤ 70368744177664) := ⟨by decide⟩
  have HU4 : Aside0 (unstuffL 0 [1, 1, 1, 1, 1, 0, 1] [] = ([1, 1, 1, 1, 1, 1], 0)) := ⟨by decide +kernel⟩
  have HU6 : Aside0 (unstuffL 0 [0, 1, 1, 1, 1, 1, 1] [] = ([], 4)) := ⟨by decide +kernel⟩
  have HU8 : Aside0 (unstuffL 0 [0, 1, 1, 1, 1, 1] [] = ([], 3)) := ⟨by decide +kernel⟩
  have HSA : Aside0 (stuffL 0 [1, 1, 1, 1, 1, 1] = [1, 1, 1, 1, 1, 0, 1]) := ⟨by decide +kernel⟩
  have HOa : Aside0 (bitsOk [1, 1, 1, 1, 1, 1]) := ⟨by unfold bitsOk; decide⟩
  have HOb : Aside0 (bitsOk [1, 1, 1, 1, 1, 0, 1]) := ⟨by unfold bitsOk; decide⟩
  have HOx : Aside0 (bitsOk [0, 1, 1, 1, 1, 1, 1]) := ⟨by unfold bitsOk; decide⟩
  have HOy : Aside0 (bitsOk [0, 1, 1, 1, 1, 1]) := ⟨by unfold bitsOk; decide⟩
  go_enter Try.func5, Try.ntmps5
  go_wp2_with (first
    | (go_at_call 8; refine (alive_ok _).mono ?_; rintro e w1 ⟨rfl, HB1⟩; have T5 := lit5 (w1.alloc (.cells #[.string { data := #[] }, .string { data := #[48] }, .string { data := #[49, 49, 49, 49, 49] }, .string { data := #[49, 49, 49, 49, 49, 49] }, .string { data := #[48, 49, 49, 49, 49, 49, 48] }, .string { data := #[49, 49, 49, 49, 49, 49, 49, 49, 49, 49] }, .string { data := #[49, 49, 49, 49, 48, 49, 49, 49] }] 9)); have HBt : Below w.heap.size w ((w1.alloc (.cells #[.string { data := #[] }, .string { data := #[48] }, .string { data := #[49, 49, 49, 49, 49] }, .string { data := #[49, 49, 49, 49, 49, 49] }, .string { data := #[48, 49, 49, 49, 49, 49, 48] }, .string { data := #[49, 49, 49, 49, 49, 49, 49, 49, 49, 49] }, .string { data := #[49, 49, 49, 49, 48, 49, 49, 49] }] 9)).alloc (.cells #[.string { data := #[] }, .string { data := #[48] }, .string { data := #[49, 49, 49, 49, 49, 48] }, .string { data := #[49, 49, 49, 49, 49, 48, 49] }, .string { data := #[48, 49, 49, 49, 49, 49, 48, 48] }, .string { data := #[49, 49, 49, 49, 49, 48, 49, 49, 49, 49, 49, 48] }, .string { data := #[49, 49, 49, 49, 48, 49, 49, 49] }] 9)) := below_alloc (below_alloc HB1 _) _; obtain ⟨WW, hWW⟩ : ∃ WW, WW = ((w1.alloc (.cells #[.string { data := #[] }, .string { data := #[48] }, .string { data := #[49, 49, 49, 49, 49] }, .string { data := #[49, 49, 49, 49, 49, 49] }, .string { data := #[48, 49, 49, 49, 49, 49, 48] }, .string { data := #[49, 49, 49, 49, 49, 49, 49, 49, 49, 49] }, .string { data := #[49, 49, 49, 49, 48, 49, 49, 49] }] 9)).alloc (.cells #[.string { data := #[] }, .string { data := #[48] }, .string { data := #[49, 49, 49, 49, 49, 48] }, .string { data := #[49, 49, 49, 49, 49, 48, 49] }, .string { data := #[48, 49, 49, 49, 49, 49, 48, 48] }, .string { data := #[49, 49, 49, 49, 49, 48, 49, 49, 49, 49, 49, 48] }, .string { data := #[49, 49, 49, 49, 48, 49, 49, 49] }] 9)) := ⟨_, rfl⟩; rw [← hWW] at T5 HBt; have T5 := Aside0.mk T5; have HBt := Aside0.mk HBt; have hWW := Aside0.mk hWW.symm)
    | (go_at_call 13; rw [hWW.out]; (with_reducible refine (row_ok { data := #[49, 49, 49, 49, 49, 49] } _ HZ2.out).mono ?_); rintro e w2 ⟨A2, c2, rfl, HO, hn⟩; have HB2 := below_step HBt.out hn; have T5 := T5.out.below hn; have y5 := at5 ((w1.alloc (.cells #[.string { data := #[] }, .string { data := #[48] }, .string { data := #[49, 49, 49, 49, 49] }, .string { data := #[49, 49, 49, 49, 49, 49] }, .string { data := #[48, 49, 49, 49, 49, 49, 48] }, .string { data := #[49, 49, 49, 49, 49, 49, 49, 49, 49, 49] }, .string { data := #[49, 49, 49, 49, 48, 49, 49, 49] }] 9)).heap.size) (w1.heap.size + 1) w2 [{ data := #[] }, { data := #[48] }, { data := #[49, 49, 49, 49, 49, 48] }, { data := #[49, 49, 49, 49, 49, 48, 49] }, { data := #[48, 49, 49, 49, 49, 49, 48, 48] }, { data := #[49, 49, 49, 49, 49, 48, 49, 49, 49, 49, 49, 48] }, { data := #[49, 49, 49, 49, 48, 49, 49, 49] }] 9 0 3 { data := #[49, 49, 49, 49, 49, 48, 49] } T5 (by decide) rfl (by simp); clear T5; clear hn; rw [HR2.out] at HO ⊢; have HO2 : Own (Kd.int .u8) 5 _ w2 (.slice A2 6 c2) [1, 1, 1, 1, 1, 1] := HO; clear HO)
    | (go_at_call 13; (with_reducible refine (row_ok { data := #[49, 49, 49, 49, 49, 48, 49] } _ HZ3.out).mono ?_); rintro e w3 ⟨A3, c3, rfl, HO, hn⟩; have HB3 := below_step HB2 hn; have HO23 := HO2.below hn; clear hn; rw [HR3.out] at HO ⊢; have HO3 : Own (Kd.int .u8) 5 _ w3 (.slice A3 7 c3) [1, 1, 1, 1, 1, 0, 1] := HO; clear HO)
    | (go_at_call 11; (with_reducible refine (unstuff_ok _ _ _ [1, 1, 1, 1, 1, 0, 1] _ HO3.rds HOb.out (by decide)).mono ?_); rintro e w4 ⟨A4, c4, rfl, HO, hn⟩; have HB4 := below_step HB3 hn; have HO24 := HO23.below hn; have HO34 := HO3.below hn; clear hn; rw [HU4.out] at HO ⊢; have HO4 : Own (Kd.int .u8) 5 _ w4 (.slice A4 6 c4) [1, 1, 1, 1, 1, 1] := HO; clear HO)
    | (go_at_call 13; (with_reducible refine (row_ok { data := #[48, 49, 49, 49, 49, 49, 49] } _ HZ5.out).mono ?_); rintro e w5 ⟨A5, c5, rfl, HO, hn⟩; have HB5 := below_step HB4 hn; have HO25 := HO24.below hn; have HO35 := HO34.below hn; have HO45 := HO4.below hn; clear hn; rw [HR5.out] at HO ⊢; have HO5 : Own (Kd.int .u8) 5 _ w5 (.slice A5 7 c5) [0, 1, 1, 1, 1, 1, 1] := HO; clear HO)
    | (go_at_call 11; (with_reducible refine (unstuff_ok _ _ _ [0, 1, 1, 1, 1, 1, 1] _ HO5.rds HOx.out (by decide)).mono ?_); rintro e w6 ⟨A6, c6, rfl, HO, hn⟩; have HB6 := below_step HB5 hn; have HO26 := HO25.below hn; have HO36 := HO35.below hn; have HO46 := HO45.below hn; clear hn HO; rw [HU6.out])
    | (go_at_call 13; (with_reducible refine (row_ok { data := #[48, 49, 49, 49, 49, 49] } _ HZ7.out).mono ?_); rintro e w7 ⟨A7, c7, rfl, HO, hn⟩; have HB7 := below_step HB6 hn; have HO27 := HO26.below hn; have HO37 := HO36.below hn; have HO47 := HO46.below hn; clear hn; rw [HR7.out] at HO ⊢; have HO7 : Own (Kd.int .u8) 5 _ w7 (.slice A7 6 c7) [0, 1, 1, 1, 1, 1] := HO; clear HO)
    | (go_at_call 11; (with_reducible refine (unstuff_ok _ _ _ [0, 1, 1, 1, 1, 1] _ HO7.rds HOy.out (by decide)).mono ?_); rintro e w8 ⟨A8, c8, rfl, HO, hn⟩; have HB8 := below_step HB7 hn; have HO28 := HO27.below hn; have HO38 := HO37.below hn; have HO48 := HO47.below hn; clear hn HO; rw [HU8.out]))
  refine region_each (VT (fun i => match i with | 0 => .slice A2 6 c2 | 2 => .string (strOfNums (stuffL 0 [1, 1, 1, 1, 1, 1])) | 3 => .slice A3 7 c3 | 4 => .string (strOfNums [1, 1, 1, 1, 1, 0, 1]) | 5 => .bool true | 6 => .bool true | 7 => .int .i64 0 | 8 => .int .i64 0 | 9 => .bool true | 10 => .bool true | 11 => .bool true | 12 => .slice A4 6 c4 | 13 => .string (strOfNums [1, 1, 1, 1, 1, 1]) | 14 => .slice A2 6 c2 | 15 => .string (strOfNums [1, 1, 1, 1, 1, 1]) | 16 => .bool true | 17 => .bool true | 18 => .bool true | 19 => .int .i64 4 | 20 => .int .i64 4 | 21 => .bool true | 22 => .bool true | 23 => .bool true | 24 => .int .i64 3 | 25 => .int .i64 3 | 26 => .bool true | 27 => .bool true | 28 => .bool true | _ => undef) [(1, (stuffL 0 [1, 1, 1, 1, 1, 1]))]) (by kernel_rfl) (by kernel_rfl) (VT_stable _ _) ?_ ?_
  · refine ⟨?_, ?_, ?_, ?_, ?_, ?_, ?_, ?_, ?_, ?_, ?_, ?_, ?_, ?_, ?_, ?_, ?_, ?_, ?_, ?_, ?_, ?_, ?_, ?_, ?_, ?_, ?_, ?_, ?_, trivial⟩
    · intro a_ w_ st
      have e6 : a_.eval (.tmp 6) = .slice A2 6 c2 := st.slot 6 (by kernel_rfl)
      exact op_yield (.slice A2 6 c2) (wanted_none rfl _) (by simp only [execOp, e6]; rfl) rfl
    · intro a_ w_ st
      have e55 : a_.eval (.tmp 55) = .slice A2 6 c2 := st.dep 0 _ 55 rfl rfl (by kernel_rfl)
      skip
      exact op_call Try.func9 (by kernel_rfl) rfl #[.slice A2 6 c2] (wanted_none rfl _) rfl (by simp [e55]) (calls_sl (stuff_ok _ _ _ [1, 1, 1, 1, 1, 1] w_ (HO28.rds.below st.below) HOa.out (by decide)))
    · intro a_ w_ st
      obtain ⟨A56_, c56_, e56, h56_⟩ : IsSl (stuffL 0 [1, 1, 1, 1, 1, 1]) (a_.eval (.tmp 56)) w_ := st.dep 1 _ 56 rfl rfl (by kernel_rfl)
      have hc_ := conv22 _ _ _ _ w_ (h56_)
      exact op_yield (.string (strOfNums (stuffL 0 [1, 1, 1, 1, 1, 1]))) (wanted_none rfl _) (by simp [execOp, e56, hc_]) rfl
    · intro a_ w_ st
      have e7 : a_.eval (.tmp 7) = .slice A3 7 c3 := st.slot 7 (by kernel_rfl)
      exact op_yield (.slice A3 7 c3) (wanted_none rfl _) (by simp only [execOp, e7]; rfl) rfl
    · intro a_ w_ st
      have e58 : a_.eval (.tmp 58) = .slice A3 7 c3 := st.dep 3 _ 58 rfl rfl (by kernel_rfl)
      have hc_ := conv22 _ _ _ _ w_ (HO38.rds.below st.below)
      exact op_yield (.string (strOfNums [1, 1, 1, 1, 1, 0, 1])) (wanted_none rfl _) (by simp [execOp, e58, hc_]) rfl
    · intro a_ w_ st
      have e57 : a_.eval (.tmp 57) = .string (strOfNums (stuffL 0 [1, 1, 1, 1, 1, 1])) := st.dep 2 _ 57 rfl rfl (by kernel_rfl)
      have e59 : a_.eval (.tmp 59) = .string (strOfNums [1, 1, 1, 1, 1, 0, 1]) := st.dep 4 _ 59 rfl rfl (by kernel_rfl)
      exact op_yield (.bool true) (wanted_none rfl _) (by simp only [execOp, e57, e59, HSA.out]; go_simp) rfl
    · intro a_ w_ st
      have e60 : a_.eval (.tmp 60) = .bool true := st.dep 5 _ 60 rfl rfl (by kernel_rfl)
      exact op_yield (.bool true) (wanted_none rfl _) (by simp only [execOp, e60]; rfl) rfl
    · intro a_ w_ st
      have e61 : a_.eval (.tmp 61) = .bool true := st.dep 6 _ 61 rfl rfl (by kernel_rfl)
      have e9 : a_.eval (.tmp 9) = .int .i64 0 := st.slot 9 (by kernel_rfl)
      exact op_yield (.int .i64 0) (wanted_some rfl (st.yields 6 _ 61 rfl rfl (of_decide_eq_true (by kernel_rfl)) true e61)) (by simp only [execOp, e61, e9]; rfl) rfl
    · intro a_ w_ st
      have e61 : a_.eval (.tmp 61) = .bool true := st.dep 6 _ 61 rfl rfl (by kernel_rfl)
      have e62 : a_.eval (.tmp 62) = .int .i64 0 := st.dep 7 _ 62 rfl rfl (by kernel_rfl)
      skip
      exact op_call Try.func12 (by kernel_rfl) rfl #[.int .i64 0] (wanted_some rfl (st.yields 6 _ 61 rfl rfl (of_decide_eq_true (by kernel_rfl)) true e61)) rfl (by simp [e61, e62]) (calls_same (num_ok _ _))
    · intro a_ w_ st
      have e61 : a_.eval (.tmp 61) = .bool true := st.dep 6 _ 61 rfl rfl (by kernel_rfl)
      have e63 : a_.eval (.tmp 63) = .int .i64 0 := st.dep 8 _ 63 rfl rfl (by kernel_rfl)
      exact op_yield (.bool true) (wanted_some rfl (st.yields 6 _ 61 rfl rfl (of_decide_eq_true (by kernel_rfl)) true e61)) (by simp only [execOp, e61, e63]; go_simp) rfl
    · intro a_ w_ st
      have e61 : a_.eval (.tmp 61) = .bool true := st.dep 6 _ 61 rfl rfl (by kernel_rfl)
      have e64 : a_.eval (.tmp 64) = .bool true := st.dep 9 _ 64 rfl rfl (by kernel_rfl)
      exact op_yield (.bool true) (wanted_none rfl _) (by simp only [execOp, e61, e64]; rfl) rfl
    · intro a_ w_ st
      have e65 : a_.eval (.tmp 65) = .bool true := st.dep 10 _ 65 rfl rfl (by kernel_rfl)
      exact op_yield (.bool true) (wanted_none rfl _) (by simp only [execOp, e65]; rfl) rfl
    · intro a_ w_ st
      have e66 : a_.eval (.tmp 66) = .bool true := st.dep 11 _ 66 rfl rfl (by kernel_rfl)
      have e8 : a_.eval (.tmp 8) = .slice A4 6 c4 := st.slot 8 (by kernel_rfl)
      exact op_yield (.slice A4 6 c4) (wanted_some rfl (st.yields 11 _ 66 rfl rfl (of_decide_eq_true (by kernel_rfl)) true e66)) (by simp only [execOp, e66, e8]; rfl) rfl
    · intro a_ w_ st
      have e66 : a_.eval (.tmp 66) = .bool true := st.dep 11 _ 66 rfl rfl (by kernel_rfl)
      have e67 : a_.eval (.tmp 67) = .slice A4 6 c4 := st.dep 12 _ 67 rfl rfl (by kernel_rfl)
      have hc_ := conv22 _ _ _ _ w_ (HO48.rds.below st.below)
      exact op_yield (.string (strOfNums [1, 1, 1, 1, 1, 1])) (wanted_some rfl (st.yields 11 _ 66 rfl rfl (of_decide_eq_true (by kernel_rfl)) true e66)) (by simp [execOp, e66, e67, hc_]) rfl
    · intro a_ w_ st
      have e66 : a_.eval (.tmp 66) = .bool true := st.dep 11 _ 66 rfl rfl (by kernel_rfl)
      have e6 : a_.eval (.tmp 6) = .slice A2 6 c2 := st.slot 6 (by kernel_rfl)
      exact op_yield (.slice A2 6 c2) (wanted_some rfl (st.yields 11 _ 66 rfl rfl (of_decide_eq_true (by kernel_rfl)) true e66)) (by simp only [execOp, e66, e6]; rfl) rfl
    · intro a_ w_ st
      have e66 : a_.eval (.tmp 66) = .bool true := st.dep 11 _ 66 rfl rfl (by kernel_rfl)
      have e69 : a_.eval (.tmp 69) = .slice A2 6 c2 := st.dep 14 _ 69 rfl rfl (by kernel_rfl)
      have hc_ := conv22 _ _ _ _ w_ (HO28.rds.below st.below)
      exact op_yield (.string (strOfNums [1, 1, 1, 1, 1, 1])) (wanted_some rfl (st.yields 11 _ 66 rfl rfl (of_decide_eq_true (by kernel_rfl)) true e66)) (by simp [execOp, e66, e69, hc_]) rfl
    · intro a_ w_ st
      have e66 : a_.eval (.tmp 66) = .bool true := st.dep 11 _ 66 rfl rfl (by kernel_rfl)
      have e68 : a_.eval (.tmp 68) = .string (strOfNums [1, 1, 1, 1, 1, 1]) := st.dep 13 _ 68 rfl rfl (by kernel_rfl)
      have e70 : a_.eval (.tmp 70) = .string (strOfNums [1, 1, 1, 1, 1, 1]) := st.dep 15 _ 70 rfl rfl (by kernel_rfl)
      exact op_yield (.bool true) (wanted_some rfl (st.yields 11 _ 66 rfl rfl (of_decide_eq_true (by kernel_rfl)) true e66)) (by simp only [execOp, e66, e68, e70]; go_simp) rfl
    · intro a_ w_ st
      have e66 : a_.eval (.tmp 66) = .bool true := st.dep 11 _ 66 rfl rfl (by kernel_rfl)
      have e71 : a_.eval (.tmp 71) = .bool true := st.dep 16 _ 71 rfl rfl (by kernel_rfl)
      exact op_yield (.bool true) (wanted_none rfl _) (by simp only [execOp, e66, e71]; rfl) rfl
    · intro a_ w_ st
      have e72 : a_.eval (.tmp 72) = .bool true := st.dep 17 _ 72 rfl rfl (by kernel_rfl)
      exact op_yield (.bool true) (wanted_none rfl _) (by simp only [execOp, e72]; rfl) rfl
    · intro a_ w_ st
      have e73 : a_.eval (.tmp 73) = .bool true := st.dep 18 _ 73 rfl rfl (by kernel_rfl)
      have e11 : a_.eval (.tmp 11) = .int .i64 4 := st.slot 11 (by kernel_rfl)
      exact op_yield (.int .i64 4) (wanted_some rfl (st.yields 18 _ 73 rfl rfl (of_decide_eq_true (by kernel_rfl)) true e73)) (by simp only [execOp, e73, e11]; rfl) rfl
    · intro a_ w_ st
      have e73 : a_.eval (.tmp 73) = .bool true := st.dep 18 _ 73 rfl rfl (by kernel_rfl)
      have e74 : a_.eval (.tmp 74) = .int .i64 4 := st.dep 19 _ 74 rfl rfl (by kernel_rfl)
      skip
      exact op_call Try.func12 (by kernel_rfl) rfl #[.int .i64 4] (wanted_some rfl (st.yields 18 _ 73 rfl rfl (of_decide_eq_true (by kernel_rfl)) true e73)) rfl (by simp [e73, e74]) (calls_same (num_ok _ _))
    · intro a_ w_ st
      have e73 : a_.eval (.tmp 73) = .bool true := st.dep 18 _ 73 rfl rfl (by kernel_rfl)
      have e75 : a_.eval (.tmp 75) = .int .i64 4 := st.dep 20 _ 75 rfl rfl (by kernel_rfl)
      exact op_yield (.bool true) (wanted_some rfl (st.yields 18 _ 73 rfl rfl (of_decide_eq_true (by kernel_rfl)) true e73)) (by simp only [execOp, e73, e75]; go_simp) rfl
    · intro a_ w_ st
      have e73 : a_.eval (.tmp 73) = .bool true := st.dep 18 _ 73 rfl rfl (by kernel_rfl)
      have e76 : a_.eval (.tmp 76) = .bool true := st.dep 21 _ 76 rfl rfl (by kernel_rfl)
      exact op_yield (.bool true) (wanted_none rfl _) (by simp only [execOp, e73, e76]; rfl) rfl
    · intro a_ w_ st
      have e77 : a_.eval (.tmp 77) = .bool true := st.dep 22 _ 77 rfl rfl (by kernel_rfl)
      exact op_yield (.bool true) (wanted_none rfl _) (by simp only [execOp, e77]; rfl) rfl
    · intro a_ w_ st
      have e78 : a_.eval (.tmp 78) = .bool true := st.dep 23 _ 78 rfl rfl (by kernel_rfl)
      have e13 : a_.eval (.tmp 13) = .int .i64 3 := st.slot 13 (by kernel_rfl)
      exact op_yield (.int .i64 3) (wanted_some rfl (st.yields 23 _ 78 rfl rfl (of_decide_eq_true (by kernel_rfl)) true e78)) (by simp only [execOp, e78, e13]; rfl) rfl
    · intro a_ w_ st
      have e78 : a_.eval (.tmp 78) = .bool true := st.dep 23 _ 78 rfl rfl (by kernel_rfl)
      have e79 : a_.eval (.tmp 79) = .int .i64 3 := st.dep 24 _ 79 rfl rfl (by kernel_rfl)
      skip
      exact op_call Try.func12 (by kernel_rfl) rfl #[.int .i64 3] (wanted_some rfl (st.yields 23 _ 78 rfl rfl (of_decide_eq_true (by kernel_rfl)) true e78)) rfl (by simp [e78, e79]) (calls_same (num_ok _ _))
    · intro a_ w_ st
      have e78 : a_.eval (.tmp 78) = .bool true := st.dep 23 _ 78 rfl rfl (by kernel_rfl)
      have e80 : a_.eval (.tmp 80) = .int .i64 3 := st.dep 25 _ 80 rfl rfl (by kernel_rfl)
      exact op_yield (.bool true) (wanted_some rfl (st.yields 23 _ 78 rfl rfl (of_decide_eq_true (by kernel_rfl)) true e78)) (by simp only [execOp, e78, e80]; go_simp) rfl
    · intro a_ w_ st
      have e78 : a_.eval (.tmp 78) = .bool true := st.dep 23 _ 78 rfl rfl (by kernel_rfl)
      have e81 : a_.eval (.tmp 81) = .bool true := st.dep 26 _ 81 rfl rfl (by kernel_rfl)
      exact op_yield (.bool true) (wanted_none rfl _) (by simp only [execOp, e78, e81]; rfl) rfl
    · intro a_ w_ st
      have e82 : a_.eval (.tmp 82) = .bool true := st.dep 27 _ 82 rfl rfl (by kernel_rfl)
      exact op_yield (.bool true) (wanted_none rfl _) (by simp only [execOp, e82]; rfl) rfl
  · intro a_ w_ st
    go_step
    go_step
    refine wp_ret ?_
    exact ⟨st.defers, _, results_tmp rfl _ _ _, ⟨by rw [show a_.tmps.getD 2 undef = .bool true from st.val 28 _ 2 rfl trivial rfl], below_step HB8 st.below⟩⟩
set_option maxHeartbeats 8000000 in
set_option maxRecDepth 100000 in
theorem known4 (w : World) : Calls Try.prog 5 #[.int .i64 4] w fun e w' => e = .returned (.bool true) ∧ Below w.heap.size w w' := by
  have HR2 : Aside0 (rowL { data := #[48, 49, 49, 49, 49, 49, 48] } = [0, 1, 1, 1, 1, 1, 0]) := ⟨by decide +kernel⟩
  have HR3 : Aside0 (rowL { data := #[48, 49, 49, 49, 49, 49, 48, 48] } = [0, 1, 1, 1, 1, 1, 0, 0]) := ⟨by decide +kernel⟩
  have HR5 : Aside0 (rowL { data := #[48, 49, 49, 49, 49, 49, 49] } = [0, 1, 1, 1, 1, 1, 1]) := ⟨by decide +kernel⟩
  have HR7 : Aside0 (rowL { data := #[48, 49, 49, 49, 49, 49] } = [0, 1, 1, 1, 1, 1]) := ⟨by decide +kernel⟩
  have HZ2 : Aside0 (({ data := #[48, 49, 49, 49, 49, 49, 48] } : ByteArray).size ≤ 70368744177664) := ⟨by decide⟩
  have HZ3 : Aside0 (({ data := #[48, 49, 49, 49, 49, 49, 48, 48] } : ByteArray).size ≤ 70368744177664) := ⟨by decide⟩
  have HZ5 : Aside0 (({ data := #[48, 49, 49, 49, 49, 49, 49] } : ByteArray).size ≤ 70368744177664) := ⟨by decide⟩
  have HZ7 : Aside0 (({ data := #[48, 49, 49, 49, 49, 49] } : ByteArray).size ≤ 70368744177664) := ⟨by decide⟩
  have HU4 : Aside0 (unstuffL 0 [0, 1, 1, 1, 1, 1, 0, 0] [] = ([0, 1, 1, 1, 1, 1, 0], 0)) := ⟨by decide +kernel⟩
  have HU6 : Aside0 (unstuffL 0 [0, 1, 1, 1, 1, 1, 1] [] = ([], 4)) := ⟨by decide +kernel⟩
  have HU8 : Aside0 (unstuffL 0 [0, 1, 1, 1, 1, 1] [] = ([], 3)) := ⟨by decide +kernel⟩
  have HSA : Aside0 (stuffL 0 [0, 1, 1, 1, 1, 1, 0] = [0, 1, 1, 1, 1, 1, 0, 0]) := ⟨by decide +kernel⟩
  have HOa : Aside0 (bitsOk [0, 1, 1, 1, 1, 1, 0]) := ⟨by unfold bitsOk; decide⟩
  have HOb : Aside0 (bitsOk [0, 1, 1, 1, 1, 1, 0, 0]) := ⟨by unfold bitsOk; decide⟩
  have HOx : Aside0 (bitsOk [0, 1, 1, 1, 1, 1, 1]) := ⟨by unfold bitsOk; decide⟩
  have HOy : Aside0 (bitsOk [0, 1, 1, 1, 1, 1]) := ⟨by unfold bitsOk; decide⟩
  go_enter Try.func5, Try.ntmps5
  go_wp2_with (first
    | (go_at_call 8; refine (alive_ok _).mono ?_; rintro e w1 ⟨rfl, HB1⟩; have T5 := lit5 (w1.alloc (.cells #[.string { data := #[] }, .string { data := #[48] }, .string { data := #[49, 49, 49, 49, 49] }, .string { data := #[49, 49, 49, 49, 49, 49] }, .string { data := #[48, 49, 49, 49, 49, 49, 48] }, .string { data := #[49, 49, 49, 49, 49, 49, 49, 49, 49, 49] }, .string { data := #[49, 49, 49, 49, 48, 49, 49, 49] }] 9)); have HBt : Below w.heap.size w ((w1.alloc (.cells #[.string { data := #[] }, .string { data := #[48] }, .string { data := #[49, 49, 49, 49, 49] }, .string { data := #[49, 49, 49, 49, 49, 49] }, .string { data := #[48, 49, 49, 49, 49, 49, 48] }, .string { data := #[49, 49, 49, 49, 49, 49, 49, 49, 49, 49] }, .string { data := #[49, 49, 49, 49, 48, 49, 49, 49] }] 9)).alloc (.cells #[.string { data := #[] }, .string { data := #[48] }, .string { data := #[49, 49, 49, 49, 49, 48] }, .string { data := #[49, 49, 49, 49, 49, 48, 49] }, .string { data := #[48, 49, 49, 49, 49, 49, 48, 48] }, .string { data := #[49, 49, 49, 49, 49, 48, 49, 49, 49, 49, 49, 48] }, .string { data := #[49, 49, 49, 49, 48, 49, 49, 49] }] 9)) := below_alloc (below_alloc HB1 _) _; obtain ⟨WW, hWW⟩ : ∃ WW, WW = ((w1.alloc (.cells #[.string { data := #[] }, .string { data := #[48] }, .string { data := #[49, 49, 49, 49, 49] }, .string { data := #[49, 49, 49, 49, 49, 49] }, .string { data := #[48, 49, 49, 49, 49, 49, 48] }, .string { data := #[49, 49, 49, 49, 49, 49, 49, 49, 49, 49] }, .string { data := #[49, 49, 49, 49, 48, 49, 49, 49] }] 9)).alloc (.cells #[.string { data := #[] }, .string { data := #[48] }, .string { data := #[49, 49, 49, 49, 49, 48] }, .string { data := #[49, 49, 49, 49, 49, 48, 49] }, .string { data := #[48, 49, 49, 49, 49, 49, 48, 48] }, .string { data := #[49, 49, 49, 49, 49, 48, 49, 49, 49, 49, 49, 48] }, .string { data := #[49, 49, 49, 49, 48, 49, 49, 49] }] 9)) := ⟨_, rfl⟩; rw [← hWW] at T5 HBt; have T5 := Aside0.mk T5; have HBt := Aside0.mk HBt; have hWW := Aside0.mk hWW.symm)
    | (go_at_call 13; rw [hWW.out]; (with_reducible refine (row_ok { data := #[48, 49, 49, 49, 49, 49, 48] } _ HZ2.out).mono ?_); rintro e w2 ⟨A2, c2, rfl, HO, hn⟩; have HB2 := below_step HBt.out hn; have T5 := T5.out.below hn; have y5 := at5 ((w1.alloc (.cells #[.string { data := #[] }, .string { data := #[48] }, .string { data := #[49, 49, 49, 49, 49] }, .string { data := #[49, 49, 49, 49, 49, 49] }, .string { data := #[48, 49, 49, 49, 49, 49, 48] }, .string { data := #[49, 49, 49, 49, 49, 49, 49, 49, 49, 49] }, .string { data := #[49, 49, 49, 49, 48, 49, 49, 49] }] 9)).heap.size) (w1.heap.size + 1) w2 [{ data := #[] }, { data := #[48] }, { data := #[49, 49, 49, 49, 49, 48] }, { data := #[49, 49, 49, 49, 49, 48, 49] }, { data := #[48, 49, 49, 49, 49, 49, 48, 48] }, { data := #[49, 49, 49, 49, 49, 48, 49, 49, 49, 49, 49, 48] }, { data := #[49, 49, 49, 49, 48, 49, 49, 49] }] 9 0 4 { data := #[48, 49, 49, 49, 49, 49, 48, 48] } T5 (by decide) rfl (by simp); clear T5; clear hn; rw [HR2.out] at HO ⊢; have HO2 : Own (Kd.int .u8) 5 _ w2 (.slice A2 7 c2) [0, 1, 1, 1, 1, 1, 0] := HO; clear HO)
    | (go_at_call 13; (with_reducible refine (row_ok { data := #[48, 49, 49, 49, 49, 49, 48, 48] } _ HZ3.out).mono ?_); rintro e w3 ⟨A3, c3, rfl, HO, hn⟩; have HB3 := below_step HB2 hn; have HO23 := HO2.below hn; clear hn; rw [HR3.out] at HO ⊢; have HO3 : Own (Kd.int .u8) 5 _ w3 (.slice A3 8 c3) [0, 1, 1, 1, 1, 1, 0, 0] := HO; clear HO)
    | (go_at_call 11; (with_reducible refine (unstuff_ok _ _ _ [0, 1, 1, 1, 1, 1, 0, 0] _ HO3.rds HOb.out (by decide)).mono ?_); rintro e w4 ⟨A4, c4, rfl, HO, hn⟩; have HB4 := below_step HB3 hn; have HO24 := HO23.below hn; have HO34 := HO3.below hn; clear hn; rw [HU4.out] at HO ⊢; have HO4 : Own (Kd.int .u8) 5 _ w4 (.slice A4 7 c4) [0, 1, 1, 1, 1, 1, 0] := HO; clear HO)
    | (go_at_call 13; (with_reducible refine (row_ok { data := #[48, 49, 49, 49, 49, 49, 49] } _ HZ5.out).mono ?_); rintro e w5 ⟨A5, c5, rfl, HO, hn⟩; have HB5 := below_step HB4 hn; have HO25 := HO24.below hn; have HO35 := HO34.below hn; have HO45 := HO4.below hn; clear hn; rw [HR5.out] at HO ⊢; have HO5 : Own (Kd.int .u8) 5 _ w5 (.slice A5 7 c5) [0, 1, 1, 1, 1, 1, 1] := HO; clear HO)
    | (go_at_call 11; (with_reducible refine (unstuff_ok _ _ _ [0, 1, 1, 1, 1, 1, 1] _ HO5.rds HOx.out (by decide)).mono ?_); rintro e w6 ⟨A6, c6, rfl, HO, hn⟩; have HB6 := below_step HB5 hn; have HO26 := HO25.below hn; have HO36 := HO35.below hn; have HO46 := HO45.below hn; clear hn HO; rw [HU6.out])
    | (go_at_call 13; (with_reducible refine (row_ok { data := #[48, 49, 49, 49, 49, 49] } _ HZ7.out).mono ?_); rintro e w7 ⟨A7, c7, rfl, HO, hn⟩; have HB7 := below_step HB6 hn; have HO27 := HO26.below hn; have HO37 := HO36.below hn; have HO47 := HO46.below hn; clear hn; rw [HR7.out] at HO ⊢; have HO7 : Own (Kd.int .u8) 5 _ w7 (.slice A7 6 c7) [0, 1, 1, 1, 1, 1] := HO; clear HO)
    | (go_at_call 11; (with_reducible refine (unstuff_ok _ _ _ [0, 1, 1, 1, 1, 1] _ HO7.rds HOy.out (by decide)).mono ?_); rintro e w8 ⟨A8, c8, rfl, HO, hn⟩; have HB8 := below_step HB7 hn; have HO28 := HO27.below hn; have HO38 := HO37.below hn; have HO48 := HO47.below hn; clear hn HO; rw [HU8.out]))
  refine region_each (VT (fun i => match i with | 0 => .slice A2 7 c2 | 2 => .string (strOfNums (stuffL 0 [0, 1, 1, 1, 1, 1, 0])) | 3 => .slice A3 8 c3 | 4 => .string (strOfNums [0, 1, 1, 1, 1, 1, 0, 0]) | 5 => .bool true | 6 => .bool true | 7 => .int .i64 0 | 8 => .int .i64 0 | 9 => .bool true | 10 => .bool true | 11 => .bool true | 12 => .slice A4 7 c4 | 13 => .string (strOfNums [0, 1, 1, 1, 1, 1, 0]) | 14 => .slice A2 7 c2 | 15 => .string (strOfNums [0, 1, 1, 1, 1, 1, 0]) | 16 => .bool true | 17 => .bool true | 18 => .bool true | 19 => .int .i64 4 | 20 => .int .i64 4 | 21 => .bool true | 22 => .bool true | 23 => .bool true | 24 => .int .i64 3 | 25 => .int .i64 3 | 26 => .bool true | 27 => .bool true | 28 => .bool true | _ => undef) [(1, (stuffL 0 [0, 1, 1, 1, 1, 1, 0]))]) (by kernel_rfl) (by kernel_rfl) (VT_stable _ _) ?_ ?_
  · refine ⟨?_, ?_, ?_, ?_, ?_, ?_, ?_, ?_, ?_, ?_, ?_, ?_, ?_, ?_, ?_, ?_, ?_, ?_, ?_, ?_, ?_, ?_, ?_, ?_, ?_, ?_, ?_, ?_, ?_, trivial⟩
    · intro a_ w_ st
      have e6 : a_.eval (.tmp 6) = .slice A2 7 c2 := st.slot 6 (by kernel_rfl)
      exact op_yield (.slice A2 7 c2) (wanted_none rfl _) (by simp only [execOp, e6]; rfl) rfl
    · intro a_ w_ st
      have e55 : a_.eval (.tmp 55) = .slice A2 7 c2 := st.dep 0 _ 55 rfl rfl (by kernel_rfl)
      skip
      exact op_call Try.func9 (by kernel_rfl) rfl #[.slice A2 7 c2] (wanted_none rfl _) rfl (by simp [e55]) (calls_sl (stuff_ok _ _ _ [0, 1, 1, 1, 1, 1, 0] w_ (HO28.rds.below st.below) HOa.out (by decide)))
    · intro a_ w_ st
      obtain ⟨A56_, c56_, e56, h56_⟩ : IsSl (stuffL 0 [0, 1, 1, 1, 1, 1, 0]) (a_.eval (.tmp 56)) w_ := st.dep 1 _ 56 rfl rfl (by kernel_rfl)
      have hc_ := conv22 _ _ _ _ w_ (h56_)
      exact op_yield (.string (strOfNums (stuffL 0 [0, 1, 1, 1, 1, 1, 0]))) (wanted_none rfl _) (by simp [execOp, e56, hc_]) rfl
    · intro a_ w_ st
      have e7 : a_.eval (.tmp 7) = .slice A3 8 c3 := st.slot 7 (by kernel_rfl)
      exact op_yield (.slice A3 8 c3) (wanted_none rfl _) (by simp only [execOp, e7]; rfl) rfl
    · intro a_ w_ st
      have e58 : a_.eval (.tmp 58) = .slice A3 8 c3 := st.dep 3 _ 58 rfl rfl (by kernel_rfl)
      have hc_ := conv22 _ _ _ _ w_ (HO38.rds.below st.below)
      exact op_yield (.string (strOfNums [0, 1, 1, 1, 1, 1, 0, 0])) (wanted_none rfl _) (by simp [execOp, e58, hc_]) rfl
    · intro a_ w_ st
      have e57 : a_.eval (.tmp 57) = .string (strOfNums (stuffL 0 [0, 1, 1, 1, 1, 1, 0])) := st.dep 2 _ 57 rfl rfl (by kernel_rfl)
      have e59 : a_.eval (.tmp 59) = .string (strOfNums [0, 1, 1, 1, 1, 1, 0, 0]) := st.dep 4 _ 59 rfl rfl (by kernel_rfl)
      exact op_yield (.bool true) (wanted_none rfl _) (by simp only [execOp, e57, e59, HSA.out]; go_simp) rfl
    · intro a_ w_ st
      have e60 : a_.eval (.tmp 60) = .bool true := st.dep 5 _ 60 rfl rfl (by kernel_rfl)
      exact op_yield (.bool true) (wanted_none rfl _) (by simp only [execOp, e60]; rfl) rfl
    · intro a_ w_ st
      have e61 : a_.eval (.tmp 61) = .bool true := st.dep 6 _ 61 rfl rfl (by kernel_rfl)
      have e9 : a_.eval (.tmp 9) = .int .i64 0 := st.slot 9 (by kernel_rfl)
      exact op_yield (.int .i64 0) (wanted_some rfl (st.yields 6 _ 61 rfl rfl (of_decide_eq_true (by kernel_rfl)) true e61)) (by simp only [execOp, e61, e9]; rfl) rfl
    · intro a_ w_ st
      have e61 : a_.eval (.tmp 61) = .bool true := st.dep 6 _ 61 rfl rfl (by kernel_rfl)
      have e62 : a_.eval (.tmp 62) = .int .i64 0 := st.dep 7 _ 62 rfl rfl (by kernel_rfl)
      skip
      exact op_call Try.func12 (by kernel_rfl) rfl #[.int .i64 0] (wanted_some rfl (st.yields 6 _ 61 rfl rfl (of_decide_eq_true (by kernel_rfl)) true e61)) rfl (by simp [e61, e62]) (calls_same (num_ok _ _))
    · intro a_ w_ st
      have e61 : a_.eval (.tmp 61) = .bool true := st.dep 6 _ 61 rfl rfl (by kernel_rfl)
      have e63 : a_.eval (.tmp 63) = .int .i64 0 := st.dep 8 _ 63 rfl rfl (by kernel_rfl)
      exact op_yield (.bool true) (wanted_some rfl (st.yields 6 _ 61 rfl rfl (of_decide_eq_true (by kernel_rfl)) true e61)) (by simp only [execOp, e61, e63]; go_simp) rfl
    · intro a_ w_ st
      have e61 : a_.eval (.tmp 61) = .bool true := st.dep 6 _ 61 rfl rfl (by kernel_rfl)
      have e64 : a_.eval (.tmp 64) = .bool true := st.dep 9 _ 64 rfl rfl (by kernel_rfl)
      exact op_yield (.bool true) (wanted_none rfl _) (by simp only [execOp, e61, e64]; rfl) rfl
    · intro a_ w_ st
      have e65 : a_.eval (.tmp 65) = .bool true := st.dep 10 _ 65 rfl rfl (by kernel_rfl)
      exact op_yield (.bool true) (wanted_none rfl _) (by simp only [execOp, e65]; rfl) rfl
    · intro a_ w_ st
      have e66 : a_.eval (.tmp 66) = .bool true := st.dep 11 _ 66 rfl rfl (by kernel_rfl)
      have e8 : a_.eval (.tmp 8) = .slice A4 7 c4 := st.slot 8 (by kernel_rfl)
      exact op_yield (.slice A4 7 c4) (wanted_some rfl (st.yields 11 _ 66 rfl rfl (of_decide_eq_true (by kernel_rfl)) true e66)) (by simp only [execOp, e66, e8]; rfl) rfl
    · intro a_ w_ st
      have e66 : a_.eval (.tmp 66) = .bool true := st.dep 11 _ 66 rfl rfl (by kernel_rfl)
      have e67 : a_.eval (.tmp 67) = .slice A4 7 c4 := st.dep 12 _ 67 rfl rfl (by kernel_rfl)
      have hc_ := conv22 _ _ _ _ w_ (HO48.rds.below st.below)
      exact op_yield (.string (strOfNums [0, 1, 1, 1, 1, 1, 0])) (wanted_some rfl (st.yields 11 _ 66 rfl rfl (of_decide_eq_true (by kernel_rfl)) true e66)) (by simp [execOp, e66, e67, hc_]) rfl
    · intro a_ w_ st
      have e66 : a_.eval (.tmp 66) = .bool true := st.dep 11 _ 66 rfl rfl (by kernel_rfl)
      have e6 : a_.eval (.tmp 6) = .slice A2 7 c2 := st.slot 6 (by kernel_rfl)
      exact op_yield (.slice A2 7 c2) (wanted_some rfl (st.yields 11 _ 66 rfl rfl (of_decide_eq_true (by kernel_rfl)) true e66)) (by simp only [execOp, e66, e6]; rfl) rfl
    · intro a_ w_ st
      have e66 : a_.eval (.tmp 66) = .bool true := st.dep 11 _ 66 rfl rfl (by kernel_rfl)
      have e69 : a_.eval (.tmp 69) = .slice A2 7 c2 := st.dep 14 _ 69 rfl rfl (by kernel_rfl)
      have hc_ := conv22 _ _ _ _ w_ (HO28.rds.below st.below)
      exact op_yield (.string (strOfNums [0, 1, 1, 1, 1, 1, 0])) (wanted_some rfl (st.yields 11 _ 66 rfl rfl (of_decide_eq_true (by kernel_rfl)) true e66)) (by simp [execOp, e66, e69, hc_]) rfl
    · intro a_ w_ st
      have e66 : a_.eval (.tmp 66) = .bool true := st.dep 11 _ 66 rfl rfl (by kernel_rfl)
      have e68 : a_.eval (.tmp 68) = .string (strOfNums [0, 1, 1, 1, 1, 1, 0]) := st.dep 13 _ 68 rfl rfl (by kernel_rfl)
      have e70 : a_.eval (.tmp 70) = .string (strOfNums [0, 1, 1, 1, 1, 1, 0]) := st.dep 15 _ 70 rfl rfl (by kernel_rfl)
      exact op_yield (.bool true) (wanted_some rfl (st.yields 11 _ 66 rfl rfl (of_decide_eq_true (by kernel_rfl)) true e66)) (by simp only [execOp, e66, e68, e70]; go_simp) rfl
    · intro a_ w_ st
      have e66 : a_.eval (.tmp 66) = .bool true := st.dep 11 _ 66 rfl rfl (by kernel_rfl)
      have e71 : a_.eval (.tmp 71) = .bool true := st.dep 16 _ 71 rfl rfl (by kernel_rfl)
      exact op_yield (.bool true) (wanted_none rfl _) (by simp only [execOp, e66, e71]; rfl) rfl
    · intro a_ w_ st
      have e72 : a_.eval (.tmp 72) = .bool true := st.dep 17 _ 72 rfl rfl (by kernel_rfl)
      exact op_yield (.bool true) (wanted_none rfl _) (by simp only [execOp, e72]; rfl) rfl
    · intro a_ w_ st
      have e73 : a_.eval (.tmp 73) = .bool true := st.dep 18 _ 73 rfl rfl (by kernel_rfl)
      have e11 : a_.eval (.tmp 11) = .int .i64 4 := st.slot 11 (by kernel_rfl)
      exact op_yield (.int .i64 4) (wanted_some rfl (st.yields 18 _ 73 rfl rfl (of_decide_eq_true (by kernel_rfl)) true e73)) (by simp only [execOp, e73, e11]; rfl) rfl
    · intro a_ w_ st
      have e73 : a_.eval (.tmp 73) = .bool true := st.dep 18 _ 73 rfl rfl (by kernel_rfl)
      have e74 : a_.eval (.tmp 74) = .int .i64 4 := st.dep 19 _ 74 rfl rfl (by kernel_rfl)
      skip
      exact op_call Try.func12 (by kernel_rfl) rfl #[.int .i64 4] (wanted_some rfl (st.yields 18 _ 73 rfl rfl (of_decide_eq_true (by kernel_rfl)) true e73)) rfl (by simp [e73, e74]) (calls_same (num_ok _ _))
    · intro a_ w_ st
      have e73 : a_.eval (.tmp 73) = .bool true := st.dep 18 _ 73 rfl rfl (by kernel_rfl)
      have e75 : a_.eval (.tmp 75) = .int .i64 4 := st.dep 20 _ 75 rfl rfl (by kernel_rfl)
      exact op_yield (.bool true) (wanted_some rfl (st.yields 18 _ 73 rfl rfl (of_decide_eq_true (by kernel_rfl)) true e73)) (by simp only [execOp, e73, e75]; go_simp) rfl
    · intro a_ w_ st
      have e73 : a_.eval (.tmp 73) = .bool true := st.dep 18 _ 73 rfl rfl (by kernel_rfl)
      have e76 : a_.eval (.tmp 76) = .bool true := st.dep 21 _ 76 rfl rfl (by kernel_rfl)
      exact op_yield (.bool true) (wanted_none rfl _) (by simp only [execOp, e73, e76]; rfl) rfl
    · intro a_ w_ st
      have e77 : a_.eval (.tmp 77) = .bool true := st.dep 22 _ 77 rfl rfl (by kernel_rfl)
      exact op_yield (.bool true) (wanted_none rfl _) (by simp only [execOp, e77]; rfl) rfl
    · intro a_ w_ st
      have e78 : a_.eval (.tmp 78) = .bool true := st.dep 23 _ 78 rfl rfl (by kernel_rfl)
      have e13 : a_.eval (.tmp 13) = .int .i64 3 := st.slot 13 (by kernel_rfl)
      exact op_yield (.int .i64 3) (wanted_some rfl (st.yields 23 _ 78 rfl rfl (of_decide_eq_true (by kernel_rfl)) true e78)) (by simp only [execOp, e78, e13]; rfl) rfl
    · intro a_ w_ st
      have e78 : a_.eval (.tmp 78) = .bool true := st.dep 23 _ 78 rfl rfl (by kernel_rfl)
      have e79 : a_.eval (.tmp 79) = .int .i64 3 := st.dep 24 _ 79 rfl rfl (by kernel_rfl)
      skip
      exact op_call Try.func12 (by kernel_rfl) rfl #[.int .i64 3] (wanted_some rfl (st.yields 23 _ 78 rfl rfl (of_decide_eq_true (by kernel_rfl)) true e78)) rfl (by simp [e78, e79]) (calls_same (num_ok _ _))
    · intro a_ w_ st
      have e78 : a_.eval (.tmp 78) = .bool true := st.dep 23 _ 78 rfl rfl (by kernel_rfl)
      have e80 : a_.eval (.tmp 80) = .int .i64 3 := st.dep 25 _ 80 rfl rfl (by kernel_rfl)
      exact op_yield (.bool true) (wanted_some rfl (st.yields 23 _ 78 rfl rfl (of_decide_eq_true (by kernel_rfl)) true e78)) (by simp only [execOp, e78, e80]; go_simp) rfl
    · intro a_ w_ st
      have e78 : a_.eval (.tmp 78) = .bool true := st.dep 23 _ 78 rfl rfl (by kernel_rfl)
      have e81 : a_.eval (.tmp 81) = .bool true := st.dep 26 _ 81 rfl rfl (by kernel_rfl)
      exact op_yield (.bool true) (wanted_none rfl _) (by simp only [execOp, e78, e81]; rfl) rfl
    · intro a_ w_ st
      have e82 : a_.eval (.tmp 82) = .bool true := st.dep 27 _ 82 rfl rfl (by kernel_rfl)
      exact op_yield (.bool true) (wanted_none rfl _) (by simp only [execOp, e82]; rfl) rfl
  · intro a_ w_ st
    go_step
    go_step
    refine wp_ret ?_
    exact ⟨st.defers, _, results_tmp rfl _ _ _, ⟨by rw [show a_.tmps.getD 2 undef = .bool true from st.val 28 _ 2 rfl trivial rfl], below_step HB8 st.below⟩⟩
set_option maxHeartbeats 8000000 in
set_option maxRecDepth 100000 in
theorem known5 (w : World) : Calls Try.prog 5 #[.int .i64 5] w fun e w' => e = .returned (.bool true) ∧ Below w.heap.size w w' := by
  have HR2 : Aside0 (rowL { data := #[49, 49, 49, 49, 49, 49, 49, 49, 49, 49] } = [1, 1, 1, 1, 1, 1, 1, 1, 1, 1]) := ⟨by decide +kernel⟩
  have HR3 : Aside0 (rowL { data := #[49, 49, 49, 49, 49, 48, 49, 49, 49, 49, 49, 48] } = [1, 1, 1, 1, 1, 0, 1, 1, 1, 1, 1, 0]) := ⟨by decide +kernel⟩
  have HR5 : Aside0 (rowL { data := #[48, 49, 49, 49, 49, 49, 49] } = [0, 1, 1, 1, 1, 1, 1]) := ⟨by decide +kernel⟩
  have HR7 : Aside0 (rowL { data := #[48, 49, 49, 49, 49, 49] } = [0, 1, 1, 1, 1, 1]) := ⟨by decide +kernel⟩
  have HZ2 : Aside0 (({ data := #[49, 49, 49, 49, 49, 49, 49, 49, 49, 49] } : ByteArray).size ≤ 70368744177664) := ⟨by decide⟩
  have HZ3 : Aside0 (({ data := #[49, 49, 49, 49, 49, 48, 49, 49, 49, 49, 49, 48] } : ByteArray).size ≤ 70368744177664) := ⟨by decide⟩
  have HZ5 : Aside0 (({ data := #[48, 49, 49, 49, 49, 49, 49] } : ByteArray).size ≤ 70368744177664) := ⟨by decide⟩
  have HZ7 : Aside0 (({ data := #[48, 49, 49, 49, 49, 49] } : ByteArray).size ≤ 70368744177664) := ⟨by decide⟩
  have HU4 : Aside0 (unstuffL 0 [1, 1, 1, 1, 1, 0, 1, 1, 1, 1, 1, 0] [] = ([1, 1, 1, 1, 1, 1, 1, 1, 1, 1], 0)) := ⟨by decide +kernel⟩
  have HU6 : Aside0 (unstuffL 0 [0, 1, 1, 1, 1, 1, 1] [] = ([], 4)) := ⟨by decide +kernel⟩
  have HU8 : Aside0 (unstuffL 0 [0, 1, 1, 1, 1, 1] [] = ([], 3)) := ⟨by decide +kernel⟩
  have HSA : Aside0 (stuffL 0 [1, 1, 1, 1, 1, 1, 1, 1, 1, 1] = [1, 1, 1, 1, 1, 0, 1, 1, 1, 1, 1, 0]) := ⟨by decide +kernel⟩
  have HOa : Aside0 (bitsOk [1, 1, 1, 1, 1, 1, 1, 1, 1, 1]) := ⟨by unfold bitsOk; decide⟩
  have HOb : Aside0 (bitsOk [1, 1, 1, 1, 1, 0, 1, 1, 1, 1, 1, 0]) := ⟨by unfold bitsOk; decide⟩
  have HOx : Aside0 (bitsOk [0, 1, 1, 1, 1, 1, 1]) := ⟨by unfold bitsOk; decide⟩
  have HOy : Aside0 (bitsOk [0, 1, 1, 1, 1, 1]) := ⟨by unfold bitsOk; decide⟩
  go_enter Try.func5, Try.ntmps5
  go_wp2_with (first
    | (go_at_call 8; refine (alive_ok _).mono ?_; rintro e w1 ⟨rfl, HB1⟩; have T5 := lit5 (w1.alloc (.cells #[.string { data := #[] }, .string { data := #[48] }, .string { data := #[49, 49, 49, 49, 49] }, .string { data := #[49, 49, 49, 49, 49, 49] }, .string { data := #[48, 49, 49, 49, 49, 49, 48] }, .string { data := #[49, 49, 49, 49, 49, 49, 49, 49, 49, 49] }, .string { data := #[49, 49, 49, 49, 48, 49, 49, 49] }] 9)); have HBt : Below w.heap.size w ((w1.alloc (.cells #[.string { data := #[] }, .string { data := #[48] }, .string { data := #[49, 49, 49, 49, 49] }, .string { data := #[49, 49, 49, 49, 49, 49] }, .string { data := #[48, 49, 49, 49, 49, 49, 48] }, .string { data := #[49, 49, 49, 49, 49, 49, 49, 49, 49, 49] }, .string { data := #[49, 49, 49, 49, 48, 49, 49, 49] }] 9)).alloc (.cells #[.string { data := #[] }, .string { data := #[48] }, .string { data := #[49, 49, 49, 49, 49, 48] }, .string { data := #[49, 49, 49, 49, 49, 48, 49] }, .string { data := #[48, 49, 49, 49, 49, 49, 48, 48] }, .string { data := #[49, 49, 49, 49, 49, 48, 49, 49, 49, 49, 49, 48] }, .string { data := #[49, 49, 49, 49, 48, 49, 49, 49] }] 9)) := below_alloc (below_alloc HB1 _) _; obtain ⟨WW, hWW⟩ : ∃ WW, WW = ((w1.alloc (.cells #[.string { data := #[] }, .string { data := #[48] }, .string { data := #[49, 49, 49, 49, 49] }, .string { data := #[49, 49, 49, 49, 49, 49] }, .string { data := #[48, 49, 49, 49, 49, 49, 48] }, .string { data := #[49, 49, 49, 49, 49, 49, 49, 49, 49, 49] }, .string { data := #[49, 49, 49, 49, 48, 49, 49, 49] }] 9)).alloc (.cells #[.string { data := #[] }, .string { data := #[48] }, .string { data := #[49, 49, 49, 49, 49, 48] }, .string { data := #[49, 49, 49, 49, 49, 48, 49] }, .string { data := #[48, 49, 49, 49, 49, 49, 48, 48] }, .string { data := #[49, 49, 49, 49, 49, 48, 49, 49, 49, 49, 49, 48] }, .string { data := #[49, 49, 49, 49, 48, 49, 49, 49] }] 9)) := ⟨_, rfl⟩; rw [← hWW] at T5 HBt; have T5 := Aside0.mk T5; have HBt := Aside0.mk HBt; have hWW := Aside0.mk hWW.symm)
    | (go_at_call 13; rw [hWW.out]; (with_reducible refine (row_ok { data := #[49, 49, 49, 49, 49, 49, 49, 49, 49, 49] } _ HZ2.out).mono ?_); rintro e w2 ⟨A2, c2, rfl, HO, hn⟩; have HB2 := below_step HBt.out hn; have T5 := T5.out.below hn; have y5 := at5 ((w1.alloc (.cells #[.string { data := #[] }, .string { data := #[48] }, .string { data := #[49, 49, 49, 49, 49] }, .string { data := #[49, 49, 49, 49, 49, 49] }, .string { data := #[48, 49, 49, 49, 49, 49, 48] }, .string { data := #[49, 49, 49, 49, 49, 49, 49, 49, 49, 49] }, .string { data := #[49, 49, 49, 49, 48, 49, 49, 49] }] 9)).heap.size) (w1.heap.size + 1) w2 [{ data := #[] }, { data := #[48] }, { data := #[49, 49, 49, 49, 49, 48] }, { data := #[49, 49, 49, 49, 49, 48, 49] }, { data := #[48, 49, 49, 49, 49, 49, 48, 48] }, { data := #[49, 49, 49, 49, 49, 48, 49, 49, 49, 49, 49, 48] }, { data := #[49, 49, 49, 49, 48, 49, 49, 49] }] 9 0 5 { data := #[49, 49, 49, 49, 49, 48, 49, 49, 49, 49, 49, 48] } T5 (by decide) rfl (by simp); clear T5; clear hn; rw [HR2.out] at HO ⊢; have HO2 : Own (Kd.int .u8) 5 _ w2 (.slice A2 10 c2) [1, 1, 1, 1, 1, 1, 1, 1, 1, 1] := HO; clear HO)
    | (go_at_call 13; (with_reducible refine (row_ok { data := #[49, 49, 49, 49, 49, 48, 49, 49, 49, 49, 49, 48] } _ HZ3.out).mono ?_); rintro e w3 ⟨A3, c3, rfl, HO, hn⟩; have HB3 := below_step HB2 hn; have HO23 := HO2.below hn; clear hn; rw [HR3.out] at HO ⊢; have HO3 : Own (Kd.int .u8) 5 _ w3 (.slice A3 12 c3) [1, 1, 1, 1, 1, 0, 1, 1, 1, 1, 1, 0] := HO; clear HO)
    | (go_at_call 11; (with_reducible refine (unstuff_ok _ _ _ [1, 1, 1, 1, 1, 0, 1, 1, 1, 1, 1, 0] _ HO3.rds HOb.out (by decide)).mono ?_); rintro e w4 ⟨A4, c4, rfl, HO, hn⟩; have HB4 := below_step HB3 hn; have HO24 := HO23.below hn; have HO34 := HO3.below hn; clear hn; rw [HU4.out] at HO ⊢; have HO4 : Own (Kd.int .u8) 5 _ w4 (.slice A4 10 c4) [1, 1, 1, 1, 1, 1, 1, 1, 1, 1] := HO; clear HO)
    | (go_at_call 13; (with_reducible refine (row_ok { data := #[48, 49, 49, 49, 49, 49, 49] } _ HZ5.out).mono ?_); rintro e w5 ⟨A5, c5, rfl, HO, hn⟩; have HB5 := below_step HB4 hn; have HO25 := HO24.below hn; have HO35 := HO34.below hn; have HO45 := HO4.below hn; clear hn; rw [HR5.out] at HO ⊢; have HO5 : Own (Kd.int .u8) 5 _ w5 (.slice A5 7 c5) [0, 1, 1, 1, 1, 1, 1] := HO; clear HO)
    | (go_at_call 11; (with_reducible refine (unstuff_ok _ _ _ [0, 1, 1, 1, 1, 1, 1] _ HO5.rds HOx.out (by decide)).mono ?_); rintro e w6 ⟨A6, c6, rfl, HO, hn⟩; have HB6 := below_step HB5 hn; have HO26 := HO25.below hn; have HO36 := HO35.below hn; have HO46 := HO45.below hn; clear hn HO; rw [HU6.out])
    | (go_at_call 13; (with_reducible refine (row_ok { data := #[48, 49, 49, 49, 49, 49] } _ HZ7.out).mono ?_); rintro e w7 ⟨A7, c7, rfl, HO, hn⟩; have HB7 := below_step HB6 hn; have HO27 := HO26.below hn; have HO37 := HO36.below hn; have HO47 := HO46.below hn; clear hn; rw [HR7.out] at HO ⊢; have HO7 : Own (Kd.int .u8) 5 _ w7 (.slice A7 6 c7) [0, 1, 1, 1, 1, 1] := HO; clear HO)
    | (go_at_call 11; (with_reducible refine (unstuff_ok _ _ _ [0, 1, 1, 1, 1, 1] _ HO7.rds HOy.out (by decide)).mono ?_); rintro e w8 ⟨A8, c8, rfl, HO, hn⟩; have HB8 := below_step HB7 hn; have HO28 := HO27.below hn; have HO38 := HO37.below hn; have HO48 := HO47.below hn; clear hn HO; rw [HU8.out]))
  refine region_each (VT (fun i => match i with | 0 => .slice A2 10 c2 | 2 => .string (strOfNums (stuffL 0 [1, 1, 1, 1, 1, 1, 1, 1, 1, 1])) | 3 => .slice A3 12 c3 | 4 => .string (strOfNums [1, 1, 1, 1, 1, 0, 1, 1, 1, 1, 1, 0]) | 5 => .bool true | 6 => .bool true | 7 => .int .i64 0 | 8 => .int .i64 0 | 9 => .bool true | 10 => .bool true | 11 => .bool true | 12 => .slice A4 10 c4 | 13 => .string (strOfNums [1, 1, 1, 1, 1, 1, 1, 1, 1, 1]) | 14 => .slice A2 10 c2 | 15 => .string (strOfNums [1, 1, 1, 1, 1, 1, 1, 1, 1, 1]) | 16 => .bool true | 17 => .bool true | 18 => .bool true | 19 => .int .i64 4 | 20 => .int .i64 4 | 21 => .bool true | 22 => .bool true | 23 => .bool true | 24 => .int .i64 3 | 25 => .int .i64 3 | 26 => .bool true | 27 => .bool true | 28 => .bool true | _ => undef) [(1, (stuffL 0 [1, 1, 1, 1, 1, 1, 1, 1, 1, 1]))]) (by kernel_rfl) (by kernel_rfl) (VT_stable _ _) ?_ ?_
  · refine ⟨?_, ?_, ?_, ?_, ?_, ?_, ?_, ?_, ?_, ?_, ?_, ?_, ?_, ?_, ?_, ?_, ?_, ?_, ?_, ?_, ?_, ?_, ?_, ?_, ?_, ?_, ?_, ?_, ?_, trivial⟩
    · intro a_ w_ st
      have e6 : a_.eval (.tmp 6) = .slice A2 10 c2 := st.slot 6 (by kernel_rfl)
      exact op_yield (.slice A2 10 c2) (wanted_none rfl _) (by simp only [execOp, e6]; rfl) rfl
    · intro a_ w_ st
      have e55 : a_.eval (.tmp 55) = .slice A2 10 c2 := st.dep 0 _ 55 rfl rfl (by kernel_rfl)
      skip
      exact op_call Try.func9 (by kernel_rfl) rfl #[.slice A2 10 c2] (wanted_none rfl _) rfl (by simp [e55]) (calls_sl (stuff_ok _ _ _ [1, 1, 1, 1, 1, 1, 1, 1, 1, 1] w_ (HO28.rds.below st.below) HOa.out (by decide)))
    · intro a_ w_ st
      obtain ⟨A56_, c56_, e56, h56_⟩ : IsSl (stuffL 0 [1, 1, 1, 1, 1, 1, 1, 1, 1, 1]) (a_.eval (.tmp 56)) w_ := st.dep 1 _ 56 rfl rfl (by kernel_rfl)
      have hc_ := conv22 _ _ _ _ w_ (h56_)
      exact op_yield (.string (strOfNums (stuffL 0 [1, 1, 1, 1, 1, 1, 1, 1, 1, 1]))) (wanted_none rfl _) (by simp [execOp, e56, hc_]) rfl
    · intro a_ w_ st
      have e7 : a_.eval (.tmp 7) = .slice A3 12 c3 := st.slot 7 (by kernel_rfl)
      exact op_yield (.slice A3 12 c3) (wanted_none rfl _) (by simp only [execOp, e7]; rfl) rfl
    · intro a_ w_ st
      have e58 : a_.eval (.tmp 58) = .slice A3 12 c3 := st.dep 3 _ 58 rfl rfl (by kernel_rfl)
      have hc_ := conv22 _ _ _ _ w_ (HO38.rds.below st.below)
      exact op_yield (.string (strOfNums [1, 1, 1, 1, 1, 0, 1, 1, 1, 1, 1, 0])) (wanted_none rfl _) (by simp [execOp, e58, hc_]) rfl
    · intro a_ w_ st
      have e57 : a_.eval (.tmp 57) = .string (strOfNums (stuffL 0 [1, 1, 1, 1, 1, 1, 1, 1, 1, 1])) := st.dep 2 _ 57 rfl rfl (by kernel_rfl)
      have e59 : a_.eval (.tmp 59) = .string (strOfNums [1, 1, 1, 1, 1, 0, 1, 1, 1, 1, 1, 0]) := st.dep 4 _ 59 rfl rfl (by kernel_rfl)
      exact op_yield (.bool true) (wanted_none rfl _) (by simp only [execOp, e57, e59, HSA.out]; go_simp) rfl
    · intro a_ w_ st
      have e60 : a_.eval (.tmp 60) = .bool true := st.dep 5 _ 60 rfl rfl (by kernel_rfl)
      exact op_yield (.bool true) (wanted_none rfl _) (by simp only [execOp, e60]; rfl) rfl
    · intro a_ w_ st
      have e61 : a_.eval (.tmp 61) = .bool true := st.dep 6 _ 61 rfl rfl (by kernel_rfl)
      have e9 : a_.eval (.tmp 9) = .int .i64 0 := st.slot 9 (by kernel_rfl)
      exact op_yield (.int .i64 0) (wanted_some rfl (st.yields 6 _ 61 rfl rfl (of_decide_eq_true (by kernel_rfl)) true e61)) (by simp only [execOp, e61, e9]; rfl) rfl
    · intro a_ w_ st
      have e61 : a_.eval (.tmp 61) = .bool true := st.dep 6 _ 61 rfl rfl (by kernel_rfl)
      have e62 : a_.eval (.tmp 62) = .int .i64 0 := st.dep 7 _ 62 rfl rfl (by kernel_rfl)
      skip
      exact op_call Try.func12 (by kernel_rfl) rfl #[.int .i64 0] (wanted_some rfl (st.yields 6 _ 61 rfl rfl (of_decide_eq_true (by kernel_rfl)) true e61)) rfl (by simp [e61, e62]) (calls_same (num_ok _ _))
    · intro a_ w_ st
      have e61 : a_.eval (.tmp 61) = .bool true := st.dep 6 _ 61 rfl rfl (by kernel_rfl)
      have e63 : a_.eval (.tmp 63) = .int .i64 0 := st.dep 8 _ 63 rfl rfl (by kernel_rfl)
      exact op_yield (.bool true) (wanted_some rfl (st.yields 6 _ 61 rfl rfl (of_decide_eq_true (by kernel_rfl)) true e61)) (by simp only [execOp, e61, e63]; go_simp) rfl
    · intro a_ w_ st
      have e61 : a_.eval (.tmp 61) = .bool true := st.dep 6 _ 61 rfl rfl (by kernel_rfl)
      have e64 : a_.eval (.tmp 64) = .bool true := st.dep 9 _ 64 rfl rfl (by kernel_rfl)
      exact op_yield (.bool true) (wanted_none rfl _) (by simp only [execOp, e61, e64]; rfl) rfl
    · intro a_ w_ st
      have e65 : a_.eval (.tmp 65) = .bool true := st.dep 10 _ 65 rfl rfl (by kernel_rfl)
      exact op_yield (.bool true) (wanted_none rfl _) (by simp only [execOp, e65]; rfl) rfl
    · intro a_ w_ st
      have e66 : a_.eval (.tmp 66) = .bool true := st.dep 11 _ 66 rfl rfl (by kernel_rfl)
      have e8 : a_.eval (.tmp 8) = .slice A4 10 c4 := st.slot 8 (by kernel_rfl)
      exact op_yield (.slice A4 10 c4) (wanted_some rfl (st.yields 11 _ 66 rfl rfl (of_decide_eq_true (by kernel_rfl)) true e66)) (by simp only [execOp, e66, e8]; rfl) rfl
    · intro a_ w_ st
      have e66 : a_.eval (.tmp 66) = .bool true := st.dep 11 _ 66 rfl rfl (by kernel_rfl)
      have e67 : a_.eval (.tmp 67) = .slice A4 10 c4 := st.dep 12 _ 67 rfl rfl (by kernel_rfl)
      have hc_ := conv22 _ _ _ _ w_ (HO48.rds.below st.below)
      exact op_yield (.string (strOfNums [1, 1, 1, 1, 1, 1, 1, 1, 1, 1])) (wanted_some rfl (st.yields 11 _ 66 rfl rfl (of_decide_eq_true (by kernel_rfl)) true e66)) (by simp [execOp, e66, e67, hc_]) rfl
    · intro a_ w_ st
      have e66 : a_.eval (.tmp 66) = .bool true := st.dep 11 _ 66 rfl rfl (by kernel_rfl)
      have e6 : a_.eval (.tmp 6) = .slice A2 10 c2 := st.slot 6 (by kernel_rfl)
      exact op_yield (.slice A2 10 c2) (wanted_some rfl (st.yields 11 _ 66 rfl rfl (of_decide_eq_true (by kernel_rfl)) true e66)) (by simp only [execOp, e66, e6]; rfl) rfl
    · intro a_ w_ st
      have e66 : a_.eval (.tmp 66) = .bool true := st.dep 11 _ 66 rfl rfl (by kernel_rfl)
      have e69 : a_.eval (.tmp 69) = .slice A2 10 c2 := st.dep 14 _ 69 rfl rfl (by kernel_rfl)
      have hc_ := conv22 _ _ _ _ w_ (HO28.rds.below st.below)
      exact op_yield (.string (strOfNums [1, 1, 1, 1, 1, 1, 1, 1, 1, 1])) (wanted_some rfl (st.yields 11 _ 66 rfl rfl (of_decide_eq_true (by kernel_rfl)) true e66)) (by simp [execOp, e66, e69, hc_]) rfl
    · intro a_ w_ st
      have e66 : a_.eval (.tmp 66) = .bool true := st.dep 11 _ 66 rfl rfl (by kernel_rfl)
      have e68 : a_.eval (.tmp 68) = .string (strOfNums [1, 1, 1, 1, 1, 1, 1, 1, 1, 1]) := st.dep 13 _ 68 rfl rfl (by kernel_rfl)
      have e70 : a_.eval (.tmp 70) = .string (strOfNums [1, 1, 1, 1, 1, 1, 1, 1, 1, 1]) := st.dep 15 _ 70 rfl rfl (by kernel_rfl)
      exact op_yield (.bool true) (wanted_some rfl (st.yields 11 _ 66 rfl rfl (of_decide_eq_true (by kernel_rfl)) true e66)) (by simp only [execOp, e66, e68, e70]; go_simp) rfl
    · intro a_ w_ st
      have e66 : a_.eval (.tmp 66) = .bool true := st.dep 11 _ 66 rfl rfl (by kernel_rfl)
      have e71 : a_.eval (.tmp 71) = .bool true := st.dep 16 _ 71 rfl rfl (by kernel_rfl)
      exact op_yield (.bool true) (wanted_none rfl _) (by simp only [execOp, e66, e71]; rfl) rfl
    · intro a_ w_ st
      have e72 : a_.eval (.tmp 72) = .bool true := st.dep 17 _ 72 rfl rfl (by kernel_rfl)
      exact op_yield (.bool true) (wanted_none rfl _) (by simp only [execOp, e72]; rfl) rfl
    · intro a_ w_ st
      have e73 : a_.eval (.tmp 73) = .bool true := st.dep 18 _ 73 rfl rfl (by kernel_rfl)
      have e11 : a_.eval (.tmp 11) = .int .i64 4 := st.slot 11 (by kernel_rfl)
      exact op_yield (.int .i64 4) (wanted_some rfl (st.yields 18 _ 73 rfl rfl (of_decide_eq_true (by kernel_rfl)) true e73)) (by simp only [execOp, e73, e11]; rfl) rfl
    · intro a_ w_ st
      have e73 : a_.eval (.tmp 73) = .bool true := st.dep 18 _ 73 rfl rfl (by kernel_rfl)
      have e74 : a_.eval (.tmp 74) = .int .i64 4 := st.dep 19 _ 74 rfl rfl (by kernel_rfl)
      skip
      exact op_call Try.func12 (by kernel_rfl) rfl #[.int .i64 4] (wanted_some rfl (st.yields 18 _ 73 rfl rfl (of_decide_eq_true (by kernel_rfl)) true e73)) rfl (by simp [e73, e74]) (calls_same (num_ok _ _))
    · intro a_ w_ st
      have e73 : a_.eval (.tmp 73) = .bool true := st.dep 18 _ 73 rfl rfl (by kernel_rfl)
      have e75 : a_.eval (.tmp 75) = .int .i64 4 := st.dep 20 _ 75 rfl rfl (by kernel_rfl)
      exact op_yield (.bool true) (wanted_some rfl (st.yields 18 _ 73 rfl rfl (of_decide_eq_true (by kernel_rfl)) true e73)) (by simp only [execOp, e73, e75]; go_simp) rfl
    · intro a_ w_ st
      have e73 : a_.eval (.tmp 73) = .bool true := st.dep 18 _ 73 rfl rfl (by kernel_rfl)
      have e76 : a_.eval (.tmp 76) = .bool true := st.dep 21 _ 76 rfl rfl (by kernel_rfl)
      exact op_yield (.bool true) (wanted_none rfl _) (by simp only [execOp, e73, e76]; rfl) rfl
    · intro a_ w_ st
      have e77 : a_.eval (.tmp 77) = .bool true := st.dep 22 _ 77 rfl rfl (by kernel_rfl)
      exact op_yield (.bool true) (wanted_none rfl _) (by simp only [execOp, e77]; rfl) rfl
    · intro a_ w_ st
      have e78 : a_.eval (.tmp 78) = .bool true := st.dep 23 _ 78 rfl rfl (by kernel_rfl)
      have e13 : a_.eval (.tmp 13) = .int .i64 3 := st.slot 13 (by kernel_rfl)
      exact op_yield (.int .i64 3) (wanted_some rfl (st.yields 23 _ 78 rfl rfl (of_decide_eq_true (by kernel_rfl)) true e78)) (by simp only [execOp, e78, e13]; rfl) rfl
    · intro a_ w_ st
      have e78 : a_.eval (.tmp 78) = .bool true := st.dep 23 _ 78 rfl rfl (by kernel_rfl)
      have e79 : a_.eval (.tmp 79) = .int .i64 3 := st.dep 24 _ 79 rfl rfl (by kernel_rfl)
      skip
      exact op_call Try.func12 (by kernel_rfl) rfl #[.int .i64 3] (wanted_some rfl (st.yields 23 _ 78 rfl rfl (of_decide_eq_true (by kernel_rfl)) true e78)) rfl (by simp [e78, e79]) (calls_same (num_ok _ _))
    · intro a_ w_ st
      have e78 : a_.eval (.tmp 78) = .bool true := st.dep 23 _ 78 rfl rfl (by kernel_rfl)
      have e80 : a_.eval (.tmp 80) = .int .i64 3 := st.dep 25 _ 80 rfl rfl (by kernel_rfl)
      exact op_yield (.bool true) (wanted_some rfl (st.yields 23 _ 78 rfl rfl (of_decide_eq_true (by kernel_rfl)) true e78)) (by simp only [execOp, e78, e80]; go_simp) rfl
    · intro a_ w_ st
      have e78 : a_.eval (.tmp 78) = .bool true := st.dep 23 _ 78 rfl rfl (by kernel_rfl)
      have e81 : a_.eval (.tmp 81) = .bool true := st.dep 26 _ 81 rfl rfl (by kernel_rfl)
      exact op_yield (.bool true) (wanted_none rfl _) (by simp only [execOp, e78, e81]; rfl) rfl
    · intro a_ w_ st
      have e82 : a_.eval (.tmp 82) = .bool true := st.dep 27 _ 82 rfl rfl (by kernel_rfl)
      exact op_yield (.bool true) (wanted_none rfl _) (by simp only [execOp, e82]; rfl) rfl
  · intro a_ w_ st
    go_step
    go_step
    refine wp_ret ?_
    exact ⟨st.defers, _, results_tmp rfl _ _ _, ⟨by rw [show a_.tmps.getD 2 undef = .bool true from st.val 28 _ 2 rfl trivial rfl], below_step HB8 st.below⟩⟩
set_option maxHeartbeats 8000000 in
set_option maxRecDepth 100000 in
theorem known6 (w : World) : Calls Try.prog 5 #[.int .i64 6] w fun e w' => e = .returned (.bool true) ∧ Below w.heap.size w w' := by
  have HR2 : Aside0 (rowL { data := #[49, 49, 49, 49, 48, 49, 49, 49] } = [1, 1, 1, 1, 0, 1, 1, 1]) := ⟨by decide +kernel⟩
  have HR3 : Aside0 (rowL { data := #[49, 49, 49, 49, 48, 49, 49, 49] } = [1, 1, 1, 1, 0, 1, 1, 1]) := ⟨by decide +kernel⟩
  have HR5 : Aside0 (rowL { data := #[48, 49, 49, 49, 49, 49, 49] } = [0, 1, 1, 1, 1, 1, 1]) := ⟨by decide +kernel⟩
  have HR7 : Aside0 (rowL { data := #[48, 49, 49, 49, 49, 49] } = [0, 1, 1, 1, 1, 1]) := ⟨by decide +kernel⟩
  have HZ2 : Aside0 (({ data := #[49, 49, 49, 49, 48, 49, 49, 49] } : ByteArray).size ≤ 70368744177664) := ⟨by decide⟩
  have HZ3 : Aside0 (({ data := #[49, 49, 49, 49, 48, 49, 49, 49] } : ByteArray).size ≤ 70368744177664) := ⟨by decide⟩
  have HZ5 : Aside0 (({ data := #[48, 49, 49, 49, 49, 49, 49] } : ByteArray).size ≤ 70368744177664) := ⟨by decide⟩
  have HZ7 : Aside0 (({ data := #[48, 49, 49, 49, 49, 49] } : ByteArray).size ≤ 70368744177664) := ⟨by decide⟩
  have HU4 : Aside0 (unstuffL 0 [1, 1, 1, 1, 0, 1, 1, 1] [] = ([1, 1, 1, 1, 0, 1, 1, 1], 0)) := ⟨by decide +kernel⟩
  have HU6 : Aside0 (unstuffL 0 [0, 1, 1, 1, 1, 1, 1] [] = ([], 4)) := ⟨by decide +kernel⟩
  have HU8 : Aside0 (unstuffL 0 [0, 1, 1, 1, 1, 1] [] = ([], 3)) := ⟨by decide +kernel⟩
  have HSA : Aside0 (stuffL 0 [1, 1, 1, 1, 0, 1, 1, 1] = [1, 1, 1, 1, 0, 1, 1, 1]) := ⟨by decide +kernel⟩
  have HOa : Aside0 (bitsOk [1, 1, 1, 1, 0, 1, 1, 1]) := ⟨by unfold bitsOk; decide⟩
  have HOb : Aside0 (bitsOk [1, 1, 1, 1, 0, 1, 1, 1]) := ⟨by unfold bitsOk; decide⟩
  have HOx : Aside0 (bitsOk [0, 1, 1, 1, 1, 1, 1]) := ⟨by unfold bitsOk; decide⟩
  have HOy : Aside0 (bitsOk [0, 1, 1, 1, 1, 1]) := ⟨by unfold bitsOk; decide⟩
  go_enter Try.func5, Try.ntmps5
  go_wp2_with (first
    | (go_at_call 8; refine (alive_ok _).mono ?_; rintro e w1 ⟨rfl, HB1⟩; have T5 := lit5 (w1.alloc (.cells #[.string { data := #[] }, .string { data := #[48] }, .string { data := #[49, 49, 49, 49, 49] }, .string { data := #[49, 49, 49, 49, 49, 49] }, .string { data := #[48, 49, 49, 49, 49, 49, 48] }, .string { data := #[49, 49, 49, 49, 49, 49, 49, 49, 49, 49] }, .string { data := #[49, 49, 49, 49, 48, 49, 49, 49] }] 9)); have HBt : Below w.heap.size w ((w1.alloc (.cells #[.string { data := #[] }, .string { data := #[48] }, .string { data := #[49, 49, 49, 49, 49] }, .string { data := #[49, 49, 49, 49, 49, 49] }, .string { data := #[48, 49, 49, 49, 49, 49, 48] }, .string { data := #[49, 49, 49, 49, 49, 49, 49, 49, 49, 49] }, .string { data := #[49, 49, 49, 49, 48, 49, 49, 49] }] 9)).alloc (.cells #[.string { data := #[] }, .string { data := #[48] }, .string { data := #[49, 49, 49, 49, 49, 48] }, .string { data := #[49, 49, 49, 49, 49, 48, 49] }, .string { data := #[48, 49, 49, 49, 49, 49, 48, 48] }, .string { data := #[49, 49, 49, 49, 49, 48, 49, 49, 49, 49, 49, 48] }, .string { data := #[49, 49, 49, 49, 48, 49, 49, 49] }] 9)) := below_alloc (below_alloc HB1 _) _; obtain ⟨WW, hWW⟩ : ∃ WW, WW = ((w1.alloc (.cells #[.string { data := #[] }, .string { data := #[48] }, .string { data := #[49, 49, 49, 49, 49] }, .string { data := #[49, 49, 49, 49, 49, 49] }, .string { data := #[48, 49, 49, 49, 49, 49, 48] }, .string { data := #[49, 49, 49, 49, 49, 49, 49, 49, 49, 49] }, .string { data := #[49, 49, 49, 49, 48, 49, 49, 49] }] 9)).alloc (.cells #[.string { data := #[] }, .string { data := #[48] }, .string { data := #[49, 49, 49, 49, 49, 48] }, .string { data := #[49, 49, 49, 49, 49, 48, 49] }, .string { data := #[48, 49, 49, 49, 49, 49, 48, 48] }, .string { data := #[49, 49, 49, 49, 49, 48, 49, 49, 49, 49, 49, 48] }, .string { data := #[49, 49, 49, 49, 48, 49, 49, 49] }] 9)) := ⟨_, rfl⟩; rw [← hWW] at T5 HBt; have T5 := Aside0.mk T5; have HBt := Aside0.mk HBt; have hWW := Aside0.mk hWW.symm)
    | (go_at_call 13; rw [hWW.out]; (with_reducible refine (row_ok { data := #[49, 49, 49, 49, 48, 49, 49, 49] } _ HZ2.out).mono ?_); rintro e w2 ⟨A2, c2, rfl, HO, hn⟩; have HB2 := below_step HBt.out hn; have T5 := T5.out.below hn; have y5 := at5 ((w1.alloc (.cells #[.string { data := #[] }, .string { data := #[48] }, .string { data := #[49, 49, 49, 49, 49] }, .string { data := #[49, 49, 49, 49, 49, 49] }, .string { data := #[48, 49, 49, 49, 49, 49, 48] }, .string { data := #[49, 49, 49, 49, 49, 49, 49, 49, 49, 49] }, .string { data := #[49, 49, 49, 49, 48, 49, 49, 49] }] 9)).heap.size) (w1.heap.size + 1) w2 [{ data := #[] }, { data := #[48] }, { data := #[49, 49, 49, 49, 49, 48] }, { data := #[49, 49, 49, 49, 49, 48, 49] }, { data := #[48, 49, 49, 49, 49, 49, 48, 48] }, { data := #[49, 49, 49, 49, 49, 48, 49, 49, 49, 49, 49, 48] }, { data := #[49, 49, 49, 49, 48, 49, 49, 49] }] 9 0 6 { data := #[49, 49, 49, 49, 48, 49, 49, 49] } T5 (by decide) rfl (by simp); clear T5; clear hn; rw [HR2.out] at HO ⊢; have HO2 : Own (Kd.int .u8) 5 _ w2 (.slice A2 8 c2) [1, 1, 1, 1, 0, 1, 1, 1] := HO; clear HO)
    | (go_at_call 13; (with_reducible refine (row_ok { data := #[49, 49, 49, 49, 48, 49, 49, 49] } _ HZ3.out).mono ?_); rintro e w3 ⟨A3, c3, rfl, HO, hn⟩; have HB3 := below_step HB2 hn; have HO23 := HO2.below hn; clear hn; rw [HR3.out] at HO ⊢; have HO3 : Own (Kd.int .u8) 5 _ w3 (.slice A3 8 c3) [1, 1, 1, 1, 0, 1, 1, 1] := HO; clear HO)
    | (go_at_call 11; (with_reducible refine (unstuff_ok _ _ _ [1, 1, 1, 1, 0, 1, 1, 1] _ HO3.rds HOb.out (by decide)).mono ?_); rintro e w4 ⟨A4, c4, rfl, HO, hn⟩; have HB4 := below_step HB3 hn; have HO24 := HO23.below hn; have HO34 := HO3.below hn; clear hn; rw [HU4.out] at HO ⊢; have HO4 : Own (Kd.int .u8) 5 _ w4 (.slice A4 8 c4) [1, 1, 1, 1, 0, 1, 1, 1] := HO; clear HO)
    | (go_at_call 13; (with_reducible refine (row_ok { data := #[48, 49, 49, 49, 49, 49, 49] } _ HZ5.out).mono ?_); rintro e w5 ⟨A5, c5, rfl, HO, hn⟩; have HB5 := below_step HB4 hn; have HO25 := HO24.below hn; have HO35 := HO34.below hn; have HO45 := HO4.below hn; clear hn; rw [HR5.out] at HO ⊢; have HO5 : Own (Kd.int .u8) 5 _ w5 (.slice A5 7 c5) [0, 1, 1, 1, 1, 1, 1] := HO; clear HO)
    | (go_at_call 11; (with_reducible refine (unstuff_ok _ _ _ [0, 1, 1, 1, 1, 1, 1] _ HO5.rds HOx.out (by decide)).mono ?_); rintro e w6 ⟨A6, c6, rfl, HO, hn⟩; have HB6 := below_step HB5 hn; have HO26 := HO25.below hn; have HO36 := HO35.below hn; have HO46 := HO45.below hn; clear hn HO; rw [HU6.out])
    | (go_at_call 13; (with_reducible refine (row_ok { data := #[48, 49, 49, 49, 49, 49] } _ HZ7.out).mono ?_); rintro e w7 ⟨A7, c7, rfl, HO, hn⟩; have HB7 := below_step HB6 hn; have HO27 := HO26.below hn; have HO37 := HO36.below hn; have HO47 := HO46.below hn; clear hn; rw [HR7.out] at HO ⊢; have HO7 : Own (Kd.int .u8) 5 _ w7 (.slice A7 6 c7) [0, 1, 1, 1, 1, 1] := HO; clear HO)
    | (go_at_call 11; (with_reducible refine (unstuff_ok _ _ _ [0, 1, 1, 1, 1, 1] _ HO7.rds HOy.out (by decide)).mono ?_); rintro e w8 ⟨A8, c8, rfl, HO, hn⟩; have HB8 := below_step HB7 hn; have HO28 := HO27.below hn; have HO38 := HO37.below hn; have HO48 := HO47.below hn; clear hn HO; rw [HU8.out]))
  refine region_each (VT (fun i => match i with | 0 => .slice A2 8 c2 | 2 => .string (strOfNums (stuffL 0 [1, 1, 1, 1, 0, 1, 1, 1])) | 3 => .slice A3 8 c3 | 4 => .string (strOfNums [1, 1, 1, 1, 0, 1, 1, 1]) | 5 => .bool true | 6 => .bool true | 7 => .int .i64 0 | 8 => .int .i64 0 | 9 => .bool true | 10 => .bool true | 11 => .bool true | 12 => .slice A4 8 c4 | 13 => .string (strOfNums [1, 1, 1, 1, 0, 1, 1, 1]) | 14 => .slice A2 8 c2 | 15 => .string (strOfNums [1, 1, 1, 1, 0, 1, 1, 1]) | 16 => .bool true | 17 => .bool true | 18 => .bool true | 19 => .int .i64 4 | 20 => .int .i64 4 | 21 => .bool true | 22 => .bool true | 23 => .bool true | 24 => .int .i64 3 | 25 => .int .i64 3 | 26 => .bool true | 27 => .bool true | 28 => .bool true | _ => undef) [(1, (stuffL 0 [1, 1, 1, 1, 0, 1, 1, 1]))]) (by kernel_rfl) (by kernel_rfl) (VT_stable _ _) ?_ ?_
  · refine ⟨?_, ?_, ?_, ?_, ?_, ?_, ?_, ?_, ?_, ?_, ?_, ?_, ?_, ?_, ?_, ?_, ?_, ?_, ?_, ?_, ?_, ?_, ?_, ?_, ?_, ?_, ?_, ?_, ?_, trivial⟩
    · intro a_ w_ st
      have e6 : a_.eval (.tmp 6) = .slice A2 8 c2 := st.slot 6 (by kernel_rfl)
      exact op_yield (.slice A2 8 c2) (wanted_none rfl _) (by simp only [execOp, e6]; rfl) rfl
    · intro a_ w_ st
      have e55 : a_.eval (.tmp 55) = .slice A2 8 c2 := st.dep 0 _ 55 rfl rfl (by kernel_rfl)
      skip
      exact op_call Try.func9 (by kernel_rfl) rfl #[.slice A2 8 c2] (wanted_none rfl _) rfl (by simp [e55]) (calls_sl (stuff_ok _ _ _ [1, 1, 1, 1, 0, 1, 1, 1] w_ (HO28.rds.below st.below) HOa.out (by decide)))
    · intro a_ w_ st
      obtain ⟨A56_, c56_, e56, h56_⟩ : IsSl (stuffL 0 [1, 1, 1, 1, 0, 1, 1, 1]) (a_.eval (.tmp 56)) w_ := st.dep 1 _ 56 rfl rfl (by kernel_rfl)
      have hc_ := conv22 _ _ _ _ w_ (h56_)
      exact op_yield (.string (strOfNums (stuffL 0 [1, 1, 1, 1, 0, 1, 1, 1]))) (wanted_none rfl _) (by simp [execOp, e56, hc_]) rfl
    · intro a_ w_ st
      have e7 : a_.eval (.tmp 7) = .slice A3 8 c3 := st.slot 7 (by kernel_rfl)
      exact op_yield (.slice A3 8 c3) (wanted_none rfl _) (by simp only [execOp, e7]; rfl) rfl
    · intro a_ w_ st
      have e58 : a_.eval (.tmp 58) = .slice A3 8 c3 := st.dep 3 _ 58 rfl rfl (by kernel_rfl)
      have hc_ := conv22 _ _ _ _ w_ (HO38.rds.below st.below)
      exact op_yield (.string (strOfNums [1, 1, 1, 1, 0, 1, 1, 1])) (wanted_none rfl _) (by simp [execOp, e58, hc_]) rfl
    · intro a_ w_ st
      have e57 : a_.eval (.tmp 57) = .string (strOfNums (stuffL 0 [1, 1, 1, 1, 0, 1, 1, 1])) := st.dep 2 _ 57 rfl rfl (by kernel_rfl)
      have e59 : a_.eval (.tmp 59) = .string (strOfNums [1, 1, 1, 1, 0, 1, 1, 1]) := st.dep 4 _ 59 rfl rfl (by kernel_rfl)
      exact op_yield (.bool true) (wanted_none rfl _) (by simp only [execOp, e57, e59, HSA.out]; go_simp) rfl
    · intro a_ w_ st
      have e60 : a_.eval (.tmp 60) = .bool true := st.dep 5 _ 60 rfl rfl (by kernel_rfl)
      exact op_yield (.bool true) (wanted_none rfl _) (by simp only [execOp, e60]; rfl) rfl
    · intro a_ w_ st
      have e61 : a_.eval (.tmp 61) = .bool true := st.dep 6 _ 61 rfl rfl (by kernel_rfl)
      have e9 : a_.eval (.tmp 9) = .int .i64 0 := st.slot 9 (by kernel_rfl)
      exact op_yield (.int .i64 0) (wanted_some rfl (st.yields 6 _ 61 rfl rfl (of_decide_eq_true (by kernel_rfl)) true e61)) (by simp only [execOp, e61, e9]; rfl) rfl
    · intro a_ w_ st
      have e61 : a_.eval (.tmp 61) = .bool true := st.dep 6 _ 61 rfl rfl (by kernel_rfl)
      have e62 : a_.eval (.tmp 62) = .int .i64 0 := st.dep 7 _ 62 rfl rfl (by kernel_rfl)
      skip
      exact op_call Try.func12 (by kernel_rfl) rfl #[.int .i64 0] (wanted_some rfl (st.yields 6 _ 61 rfl rfl (of_decide_eq_true (by kernel_rfl)) true e61)) rfl (by simp [e61, e62]) (calls_same (num_ok _ _))
    · intro a_ w_ st
      have e61 : a_.eval (.tmp 61) = .bool true := st.dep 6 _ 61 rfl rfl (by kernel_rfl)
      have e63 : a_.eval (.tmp 63) = .int .i64 0 := st.dep 8 _ 63 rfl rfl (by kernel_rfl)
      exact op_yield (.bool true) (wanted_some rfl (st.yields 6 _ 61 rfl rfl (of_decide_eq_true (by kernel_rfl)) true e61)) (by simp only [execOp, e61, e63]; go_simp) rfl
    · intro a_ w_ st
      have e61 : a_.eval (.tmp 61) = .bool true := st.dep 6 _ 61 rfl rfl (by kernel_rfl)
      have e64 : a_.eval (.tmp 64) = .bool true := st.dep 9 _ 64 rfl rfl (by kernel_rfl)
      exact op_yield (.bool true) (wanted_none rfl _) (by simp only [execOp, e61, e64]; rfl) rfl
    · intro a_ w_ st
      have e65 : a_.eval (.tmp 65) = .bool true := st.dep 10 _ 65 rfl rfl (by kernel_rfl)
      exact op_yield (.bool true) (wanted_none rfl _) (by simp only [execOp, e65]; rfl) rfl
    · intro a_ w_ st
      have e66 : a_.eval (.tmp 66) = .bool true := st.dep 11 _ 66 rfl rfl (by kernel_rfl)
      have e8 : a_.eval (.tmp 8) = .slice A4 8 c4 := st.slot 8 (by kernel_rfl)
      exact op_yield (.slice A4 8 c4) (wanted_some rfl (st.yields 11 _ 66 rfl rfl (of_decide_eq_true (by kernel_rfl)) true e66)) (by simp only [execOp, e66, e8]; rfl) rfl
    · intro a_ w_ st
      have e66 : a_.eval (.tmp 66) = .bool true := st.dep 11 _ 66 rfl rfl (by kernel_rfl)
      have e67 : a_.eval (.tmp 67) = .slice A4 8 c4 := st.dep 12 _ 67 rfl rfl (by kernel_rfl)
      have hc_ := conv22 _ _ _ _ w_ (HO48.rds.below st.below)
      exact op_yield (.string (strOfNums [1, 1, 1, 1, 0, 1, 1, 1])) (wanted_some rfl (st.yields 11 _ 66 rfl rfl (of_decide_eq_true (by kernel_rfl)) true e66)) (by simp [execOp, e66, e67, hc_]) rfl
    · intro a_ w_ st
      have e66 : a_.eval (.tmp 66) = .bool true := st.dep 11 _ 66 rfl rfl (by kernel_rfl)
      have e6 : a_.eval (.tmp 6) = .slice A2 8 c2 := st.slot 6 (by kernel_rfl)
      exact op_yield (.slice A2 8 c2) (wanted_some rfl (st.yields 11 _ 66 rfl rfl (of_decide_eq_true (by kernel_rfl)) true e66)) (by simp only [execOp, e66, e6]; rfl) rfl
    · intro a_ w_ st
      have e66 : a_.eval (.tmp 66) = .bool true := st.dep 11 _ 66 rfl rfl (by kernel_rfl)
      have e69 : a_.eval (.tmp 69) = .slice A2 8 c2 := st.dep 14 _ 69 rfl rfl (by kernel_rfl)
      have hc_ := conv22 _ _ _ _ w_ (HO28.rds.below st.below)
      exact op_yield (.string (strOfNums [1, 1, 1, 1, 0, 1, 1, 1])) (wanted_some rfl (st.yields 11 _ 66 rfl rfl (of_decide_eq_true (by kernel_rfl)) true e66)) (by simp [execOp, e66, e69, hc_]) rfl
    · intro a_ w_ st
      have e66 : a_.eval (.tmp 66) = .bool true := st.dep 11 _ 66 rfl rfl (by kernel_rfl)
      have e68 : a_.eval (.tmp 68) = .string (strOfNums [1, 1, 1, 1, 0, 1, 1, 1]) := st.dep 13 _ 68 rfl rfl (by kernel_rfl)
      have e70 : a_.eval (.tmp 70) = .string (strOfNums [1, 1, 1, 1, 0, 1, 1, 1]) := st.dep 15 _ 70 rfl rfl (by kernel_rfl)
      exact op_yield (.bool true) (wanted_some rfl (st.yields 11 _ 66 rfl rfl (of_decide_eq_true (by kernel_rfl)) true e66)) (by simp only [execOp, e66, e68, e70]; go_simp) rfl
    · intro a_ w_ st
      have e66 : a_.eval (.tmp 66) = .bool true := st.dep 11 _ 66 rfl rfl (by kernel_rfl)
      have e71 : a_.eval (.tmp 71) = .bool true := st.dep 16 _ 71 rfl rfl (by kernel_rfl)
      exact op_yield (.bool true) (wanted_none rfl _) (by simp only [execOp, e66, e71]; rfl) rfl
    · intro a_ w_ st
      have e72 : a_.eval (.tmp 72) = .bool true := st.dep 17 _ 72 rfl rfl (by kernel_rfl)
      exact op_yield (.bool true) (wanted_none rfl _) (by simp only [execOp, e72]; rfl) rfl
    · intro a_ w_ st
      have e73 : a_.eval (.tmp 73) = .bool true := st.dep 18 _ 73 rfl rfl (by kernel_rfl)
      have e11 : a_.eval (.tmp 11) = .int .i64 4 := st.slot 11 (by kernel_rfl)
      exact op_yield (.int .i64 4) (wanted_some rfl (st.yields 18 _ 73 rfl rfl (of_decide_eq_true (by kernel_rfl)) true e73)) (by simp only [execOp, e73, e11]; rfl) rfl
    · intro a_ w_ st
      have e73 : a_.eval (.tmp 73) = .bool true := st.dep 18 _ 73 rfl rfl (by kernel_rfl)
      have e74 : a_.eval (.tmp 74) = .int .i64 4 := st.dep 19 _ 74 rfl rfl (by kernel_rfl)
      skip
      exact op_call Try.func12 (by kernel_rfl) rfl #[.int .i64 4] (wanted_some rfl (st.yields 18 _ 73 rfl rfl (of_decide_eq_true (by kernel_rfl)) true e73)) rfl (by simp [e73, e74]) (calls_same (num_ok _ _))
    · intro a_ w_ st
      have e73 : a_.eval (.tmp 73) = .bool true := st.dep 18 _ 73 rfl rfl (by kernel_rfl)
      have e75 : a_.eval (.tmp 75) = .int .i64 4 := st.dep 20 _ 75 rfl rfl (by kernel_rfl)
      exact op_yield (.bool true) (wanted_some rfl (st.yields 18 _ 73 rfl rfl (of_decide_eq_true (by kernel_rfl)) true e73)) (by simp only [execOp, e73, e75]; go_simp) rfl
    · intro a_ w_ st
      have e73 : a_.eval (.tmp 73) = .bool true := st.dep 18 _ 73 rfl rfl (by kernel_rfl)
      have e76 : a_.eval (.tmp 76) = .bool true := st.dep 21 _ 76 rfl rfl (by kernel_rfl)
      exact op_yield (.bool true) (wanted_none rfl _) (by simp only [execOp, e73, e76]; rfl) rfl
    · intro a_ w_ st
      have e77 : a_.eval (.tmp 77) = .bool true := st.dep 22 _ 77 rfl rfl (by kernel_rfl)
      exact op_yield (.bool true) (wanted_none rfl _) (by simp only [execOp, e77]; rfl) rfl
    · intro a_ w_ st
      have e78 : a_.eval (.tmp 78) = .bool true := st.dep 23 _ 78 rfl rfl (by kernel_rfl)
      have e13 : a_.eval (.tmp 13) = .int .i64 3 := st.slot 13 (by kernel_rfl)
      exact op_yield (.int .i64 3) (wanted_some rfl (st.yields 23 _ 78 rfl rfl (of_decide_eq_true (by kernel_rfl)) true e78)) (by simp only [execOp, e78, e13]; rfl) rfl
    · intro a_ w_ st
      have e78 : a_.eval (.tmp 78) = .bool true := st.dep 23 _ 78 rfl rfl (by kernel_rfl)
      have e79 : a_.eval (.tmp 79) = .int .i64 3 := st.dep 24 _ 79 rfl rfl (by kernel_rfl)
      skip
      exact op_call Try.func12 (by kernel_rfl) rfl #[.int .i64 3] (wanted_some rfl (st.yields 23 _ 78 rfl rfl (of_decide_eq_true (by kernel_rfl)) true e78)) rfl (by simp [e78, e79]) (calls_same (num_ok _ _))
    · intro a_ w_ st
      have e78 : a_.eval (.tmp 78) = .bool true := st.dep 23 _ 78 rfl rfl (by kernel_rfl)
      have e80 : a_.eval (.tmp 80) = .int .i64 3 := st.dep 25 _ 80 rfl rfl (by kernel_rfl)
      exact op_yield (.bool true) (wanted_some rfl (st.yields 23 _ 78 rfl rfl (of_decide_eq_true (by kernel_rfl)) true e78)) (by simp only [execOp, e78, e80]; go_simp) rfl
    · intro a_ w_ st
      have e78 : a_.eval (.tmp 78) = .bool true := st.dep 23 _ 78 rfl rfl (by kernel_rfl)
      have e81 : a_.eval (.tmp 81) = .bool true := st.dep 26 _ 81 rfl rfl (by kernel_rfl)
      exact op_yield (.bool true) (wanted_none rfl _) (by simp only [execOp, e78, e81]; rfl) rfl
    · intro a_ w_ st
      have e82 : a_.eval (.tmp 82) = .bool true := st.dep 27 _ 82 rfl rfl (by kernel_rfl)
      exact op_yield (.bool true) (wanted_none rfl _) (by simp only [execOp, e82]; rfl) rfl
  · intro a_ w_ st
    go_step
    go_step
    refine wp_ret ?_
    exact ⟨st.defers, _, results_tmp rfl _ _ _, ⟨by rw [show a_.tmps.getD 2 undef = .bool true from st.val 28 _ 2 rfl trivial rfl], below_step HB8 st.below⟩⟩
set_option maxHeartbeats 8000000 in
set_option maxRecDepth 100000 in
theorem known_out (a : Int) (w : World) (h : a < 0 ∨ 7 ≤ a) : Calls Try.prog 5 #[.int .i64 a] w fun e w' => e = .returned (.bool true) ∧ Below w.heap.size w w' := by
  rcases h with h | h
  all_goals
    go_enter Try.func5, Try.ntmps5
    go_wp2_with (first | (go_at_call 8; refine (alive_ok _).mono ?_; rintro e w1 ⟨rfl, HB1⟩; have HB1 := Aside0.mk HB1))
    go_ret
    exact ⟨rfl, below_alloc (below_alloc HB1.out _) _⟩

theorem walk (a : Int) (W : World) (_h : (Lit.int .i64 a).wf = true) : Calls Try.prog 5 #[.int .i64 a] W fun e w' => e = .returned (.bool true) ∧ Below W.heap.size W w' := by
  by_cases h : a < 0 ∨ 7 ≤ a
  · exact known_out a W h
  · have hc : a = 0 ∨ a = 1 ∨ a = 2 ∨ a = 3 ∨ a = 4 ∨ a = 5 ∨ a = 6 := by omega
    rcases hc with rfl | rfl | rfl | rfl | rfl | rfl | rfl
    · exact known0 W
    · exact known1 W
    · exact known2 W
    · exact known3 W
    · exact known4 W
    · exact known5 W
    · exact known6 W

end Go.Proofs.Ytcmacdjocbeeaaa.Kn5
