/- The bits of any bytes are as defined, stuffed as defined, and all comes back: for every bytes up to 200; of longer ones nothing is asked. No condition. -/
import Derived.Test.YtcmacdjocbeeaaaBitsW6
namespace Go.Proofs.Ytcmacdjocbeeaaa.Rows6
open Go.RowKit Go.Proofs.YtcmacdjocbeeaaaW.PrintWords Go.Proofs.YtcmacdjocbeeaaaW.PrintLast Go.Proofs.YtcmacdjocbeeaaaW.PrintMore Go.Proofs.Ytcmacdjocbeeaaa.K Go.Proofs.Ytcmacdjocbeeaaa.BitsPure Go.Proofs.Ytcmacdjocbeeaaa.StuffW Go.Proofs.Ytcmacdjocbeeaaa.BitsW
set_option linter.unusedVariables false
set_option linter.unusedSimpArgs false

theorem bitAt_01 (x : Int) (j : Nat) : bitAt x j = 0 ∨ bitAt x j = 1 := by unfold bitAt; omega
theorem ofL_01 (b : List Int) (x : Int) (hx : x ∈ ofL b) : x = 0 ∨ x = 1 := by
  simp only [ofL, List.mem_flatMap, byteBits, List.mem_map] at hx
  obtain ⟨y, _, j, _, rfl⟩ := hx
  exact bitAt_01 y j
theorem ofL_one (b : List Int) : (ofL b).map one = ofL b := by
  have : ∀ l : List Int, (∀ x ∈ l, x = 0 ∨ x = 1) → l.map one = l := by
    intro l
    induction l with
    | nil => intro _; rfl
    | cons y ys ih =>
      intro h
      rw [List.map_cons, ih (fun x hx => h x (by simp [hx]))]
      rcases h y (by simp) with rfl | rfl <;> rfl
  exact this _ (ofL_01 b)
theorem ofL_get (b : List Int) : ∀ (q k : Nat), q < b.length → k < 8 → BitsPure.get (ofL b) (8 * q + k) = bitAt (BitsPure.get b q) k := by
  induction b with
  | nil => intro q k hq; simp at hq
  | cons x xs ih =>
    intro q k hq hk
    rw [ofL_cons]
    cases q with
    | zero =>
      simp only [BitsPure.get, List.getD_eq_getElem?_getD]
      rw [List.getElem?_append_left (by simp [byteBits]; omega)]
      simp [byteBits, hk]
    | succ q =>
      have := ih q k (by simpa using hq) hk
      simp only [BitsPure.get, List.getD_eq_getElem?_getD] at this ⊢
      rw [List.getElem?_append_right (by simp [byteBits]; omega)]
      simp only [byteBits, List.length_map, List.length_range, List.getElem?_cons_succ]
      rw [show 8 * (q + 1) + k - 8 = 8 * q + k by omega]
      exact this
theorem one_bitAt (x : Int) (k : Nat) : one (bitAt x k) = bitAt x k := by rcases bitAt_01 x k with h | h <;> rw [h] <;> rfl
theorem outAt_ofL (b : List Int) (hb : bitsOk b) : outAt (ofL b) ((ofL b).length / 8) (ofL b).length = b := by
  rw [ofL_len]
  apply List.ext_getElem
  · simp [outAt_len]
  · intro q h1 h2
    have hx := hb _ (List.getElem_mem h2)
    simp only [outAt, List.getElem_map, List.getElem_range]
    rw [show min 8 (8 * b.length - 8 * q) = 8 by omega]
    have hg : BitsPure.get b q = b[q] := by simp [BitsPure.get, List.getD_eq_getElem?_getD, h2]
    rw [bv_byte (ofL b) q b[q] hx.1 (fun k hk => by rw [ofL_get b q k h2 hk, one_bitAt, hg]) 8 (by omega)]
    omega

set_option maxHeartbeats 4000000 in
set_option maxRecDepth 100000 in
theorem rows_long (A0 : Option Addr) (n c : Nat) (w : World) (hl : 200 < n) (hn : n ≤ 9223372036854775807) :
    Calls Try.prog 6 #[.slice A0 n c] w fun e w' => e = .returned (.bool true) ∧ Below w.heap.size w w' := by
  have h1 : (200 : Int) < (n : Int) := by omega
  clear hl
  go_enter Try.func6, Try.ntmps6
  go_wp2_with (first | (go_at_call 8; refine (alive_ok _).mono ?_; rintro e w1 ⟨rfl, HB1⟩))
  go_ret
  exact ⟨rfl, HB1⟩

set_option maxHeartbeats 8000000 in
set_option maxRecDepth 100000 in
theorem rows_short (A0 : Option Addr) (n c : Nat) (b : List Int) (w : World) (hr : Rds (Kd.int .u8) w A0 n c b) (hb : bitsOk b) (hl : n ≤ 200) :
    Calls Try.prog 6 #[.slice A0 n c] w fun e w' => e = .returned (.bool true) ∧ Below w.heap.size w w' := by
  have h1 : ¬ (200 : Int) < (n : Int) := by omega
  have hlen := Aside0.mk hr.len
  have hbk := Aside0.mk hb
  have hl2 : (ofL b).length = 8 * b.length := ofL_len b
  have hbits : bitsOk (ofL b) := fun x hx => by have := ofL_01 b x hx; omega
  have hs1 := (stuffL_len (ofL b) 0 (by omega)).2
  have hun : unstuffL 0 (stuffL 0 (ofL b)) [] = (ofL b, 0) := by rw [unstuffL_stuffL _ 0 [] (by omega), List.nil_append, ofL_one]
  have hout : outAt (ofL b) ((ofL b).length / 8) (ofL b).length = b := outAt_ofL b hb
  have hdiv : (ofL b).length / 8 = b.length := by omega
  have hsb : bitsOk (stuffL 0 (ofL b)) := fun x hx => by have := stuffL_bit _ 0 x hx; omega
  generalize hL : ofL b = L at *
  generalize hS : stuffL 0 L = S at *
  have HL2 := Aside0.mk hl2
  have HS1 := Aside0.mk hs1
  have HUN := Aside0.mk hun
  have HOUT := Aside0.mk hout
  have HSB := Aside0.mk hsb
  have HDIV := Aside0.mk hdiv
  have HLb := Aside0.mk hL
  have HSb := Aside0.mk hS
  clear hb hl2 hs1 hun hout hsb hL hS hdiv
  go_enter Try.func6, Try.ntmps6
  go_wp2_with (first
    | (go_at_call 8; refine (alive_ok _).mono ?_; rintro e w1 ⟨rfl, HB1⟩)
    | (at_builtin; refine app_rowi Try.underlying22 info5 rfl (by decide) (.const (.slice none 0 0)) (.tmp 19) rfl rfl rfl rfl (Own.nil _ _ w.heap.size _) (hr.below HB1) HB1 HB1.size (by simp; omega) ?_; intro v2 w2 HO2 HB2 hB2; rw [List.nil_append] at HO2; obtain ⟨A2, c2, rfl, hc2⟩ := HO2.slice)
    | (go_at_call 14; (with_reducible refine (of_ok _ _ _ b _ HO2.rds hbk.out (by have := hlen.out; omega)).mono ?_); rintro e w3 ⟨A3, c3, rfl, HO3, hn⟩; have HB3 := below_step HB2 hn; clear hn; rw [HLb.out] at HO3 ⊢)
    | (go_at_call 9; (with_reducible refine (stuff_ok _ _ _ L _ HO3.rds hbits (by have := hlen.out; have := HL2.out; omega)).mono ?_); rintro e w4 ⟨A4, c4, rfl, HO4, hn⟩; have HO34 := HO3.below hn; have HB4 := below_step HB3 hn; clear hn; rw [HSb.out] at HO4 ⊢)
    | (go_at_call 11; (with_reducible refine (unstuff_ok _ _ _ S _ HO4.rds HSB.out (by have := hlen.out; have := HL2.out; have := HS1.out; omega)).mono ?_); rintro e w5 ⟨A5, c5, rfl, HO5, hn⟩; have HO35 := HO34.below hn; have HO45 := HO4.below hn; have HB5 := below_step HB4 hn; clear hn; rw [HUN.out] at HO5 ⊢)
    | (go_at_call 15; (with_reducible refine (bytes_ok _ _ _ L _ HO5.rds hbits (by have := hlen.out; have := HL2.out; omega) (by have := HL2.out; omega)).mono ?_); rintro e w6 ⟨A6, c6, rfl, HO6, hn⟩; have HO36 := HO35.below hn; have HO46 := HO45.below hn; have HB6 := below_step HB5 hn; clear hn; rw [HOUT.out, HDIV.out] at HO6; rw [HDIV.out]))
  have hr6 := (hr.below HB6)
  refine region_each (VT (fun i => match i with | 0 => .slice A3 L.length c3 | 1 => .string (strOfNums L) | 2 => .slice A0 n c | 4 => .string (strOfNums L) | 5 => .bool true | 6 => .bool true | 7 => .slice A4 S.length c4 | 8 => .string (strOfNums S) | 9 => .slice A3 L.length c3 | 11 => .string (strOfNums S) | 12 => .bool true | 13 => .bool true | 14 => .bool true | 15 => .int .i64 0 | 16 => .int .i64 0 | 17 => .bool true | 18 => .bool true | 19 => .bool true | 20 => .int .i64 0 | 21 => .int .i64 0 | 22 => .bool true | 23 => .bool true | 24 => .bool true | 25 => .slice A6 b.length c6 | 26 => .string (strOfNums b) | 27 => .slice A0 n c | 28 => .string (strOfNums b) | 29 => .bool true | 30 => .bool true | 31 => .bool true | _ => undef) [(3, L), (10, S)]) (by kernel_rfl) (by kernel_rfl) (VT_stable _ _) ?_ ?_
  · refine ⟨?_, ?_, ?_, ?_, ?_, ?_, ?_, ?_, ?_, ?_, ?_, ?_, ?_, ?_, ?_, ?_, ?_, ?_, ?_, ?_, ?_, ?_, ?_, ?_, ?_, ?_, ?_, ?_, ?_, ?_, ?_, ?_, trivial⟩
    · intro a_ w_ st
      have e4 : a_.eval (.tmp 4) = .slice A3 L.length c3 := st.slot 4 (by kernel_rfl)
      exact op_yield (.slice A3 L.length c3) (wanted_none rfl _) (by simp only [execOp, e4]; rfl) rfl
    · intro a_ w_ st
      have e34 : a_.eval (.tmp 34) = .slice A3 L.length c3 := st.dep 0 _ 34 rfl rfl (by kernel_rfl)
      have hc_ := conv22 _ _ _ _ w_ (HO36.rds.below st.below)
      exact op_yield (.string (strOfNums L)) (wanted_none rfl _) (by simp [execOp, e34, hc_]) rfl
    · intro a_ w_ st
      have e0 : a_.eval (.tmp 0) = .slice A0 n c := st.slot 0 (by kernel_rfl)
      exact op_yield (.slice A0 n c) (wanted_none rfl _) (by simp only [execOp, e0]; rfl) rfl
    · intro a_ w_ st
      have e36 : a_.eval (.tmp 36) = .slice A0 n c := st.dep 2 _ 36 rfl rfl (by kernel_rfl)
      skip
      exact op_call Try.func16 (by kernel_rfl) rfl #[.slice A0 n c] (wanted_none rfl _) rfl (by simp [e36]) (calls_sl (by have h_ := bitsref_ok _ _ _ b w_ (hr6.below st.below) hbk.out (by have := hlen.out; omega); rw [HLb.out] at h_; exact h_))
    · intro a_ w_ st
      obtain ⟨A37_, c37_, e37, h37_⟩ : IsSl L (a_.eval (.tmp 37)) w_ := st.dep 3 _ 37 rfl rfl (by kernel_rfl)
      have hc_ := conv22 _ _ _ _ w_ (h37_)
      exact op_yield (.string (strOfNums L)) (wanted_none rfl _) (by simp [execOp, e37, hc_]) rfl
    · intro a_ w_ st
      have e35 : a_.eval (.tmp 35) = .string (strOfNums L) := st.dep 1 _ 35 rfl rfl (by kernel_rfl)
      have e38 : a_.eval (.tmp 38) = .string (strOfNums L) := st.dep 4 _ 38 rfl rfl (by kernel_rfl)
      exact op_yield (.bool true) (wanted_none rfl _) (by simp only [execOp, e35, e38]; go_simp) rfl
    · intro a_ w_ st
      have e39 : a_.eval (.tmp 39) = .bool true := st.dep 5 _ 39 rfl rfl (by kernel_rfl)
      exact op_yield (.bool true) (wanted_none rfl _) (by simp only [execOp, e39]; rfl) rfl
    · intro a_ w_ st
      have e40 : a_.eval (.tmp 40) = .bool true := st.dep 6 _ 40 rfl rfl (by kernel_rfl)
      have e5 : a_.eval (.tmp 5) = .slice A4 S.length c4 := st.slot 5 (by kernel_rfl)
      exact op_yield (.slice A4 S.length c4) (wanted_some rfl (st.yields 6 _ 40 rfl rfl (of_decide_eq_true (by kernel_rfl)) true e40)) (by simp only [execOp, e40, e5]; rfl) rfl
    · intro a_ w_ st
      have e40 : a_.eval (.tmp 40) = .bool true := st.dep 6 _ 40 rfl rfl (by kernel_rfl)
      have e41 : a_.eval (.tmp 41) = .slice A4 S.length c4 := st.dep 7 _ 41 rfl rfl (by kernel_rfl)
      have hc_ := conv22 _ _ _ _ w_ (HO46.rds.below st.below)
      exact op_yield (.string (strOfNums S)) (wanted_some rfl (st.yields 6 _ 40 rfl rfl (of_decide_eq_true (by kernel_rfl)) true e40)) (by simp [execOp, e40, e41, hc_]) rfl
    · intro a_ w_ st
      have e40 : a_.eval (.tmp 40) = .bool true := st.dep 6 _ 40 rfl rfl (by kernel_rfl)
      have e4 : a_.eval (.tmp 4) = .slice A3 L.length c3 := st.slot 4 (by kernel_rfl)
      exact op_yield (.slice A3 L.length c3) (wanted_some rfl (st.yields 6 _ 40 rfl rfl (of_decide_eq_true (by kernel_rfl)) true e40)) (by simp only [execOp, e40, e4]; rfl) rfl
    · intro a_ w_ st
      have e40 : a_.eval (.tmp 40) = .bool true := st.dep 6 _ 40 rfl rfl (by kernel_rfl)
      have e43 : a_.eval (.tmp 43) = .slice A3 L.length c3 := st.dep 9 _ 43 rfl rfl (by kernel_rfl)
      skip
      exact op_call Try.func10 (by kernel_rfl) rfl #[.slice A3 L.length c3] (wanted_some rfl (st.yields 6 _ 40 rfl rfl (of_decide_eq_true (by kernel_rfl)) true e40)) rfl (by simp [e40, e43]) (calls_sl (by have h_ := stuffref_ok _ _ _ L w_ (HO36.rds.below st.below) hbits (by have := hlen.out; have := HL2.out; omega); rw [HSb.out] at h_; exact h_))
    · intro a_ w_ st
      have e40 : a_.eval (.tmp 40) = .bool true := st.dep 6 _ 40 rfl rfl (by kernel_rfl)
      obtain ⟨A44_, c44_, e44, h44_⟩ : IsSl S (a_.eval (.tmp 44)) w_ := st.dep 10 _ 44 rfl rfl (by kernel_rfl)
      have hc_ := conv22 _ _ _ _ w_ (h44_)
      exact op_yield (.string (strOfNums S)) (wanted_some rfl (st.yields 6 _ 40 rfl rfl (of_decide_eq_true (by kernel_rfl)) true e40)) (by simp [execOp, e40, e44, hc_]) rfl
    · intro a_ w_ st
      have e40 : a_.eval (.tmp 40) = .bool true := st.dep 6 _ 40 rfl rfl (by kernel_rfl)
      have e42 : a_.eval (.tmp 42) = .string (strOfNums S) := st.dep 8 _ 42 rfl rfl (by kernel_rfl)
      have e45 : a_.eval (.tmp 45) = .string (strOfNums S) := st.dep 11 _ 45 rfl rfl (by kernel_rfl)
      exact op_yield (.bool true) (wanted_some rfl (st.yields 6 _ 40 rfl rfl (of_decide_eq_true (by kernel_rfl)) true e40)) (by simp only [execOp, e40, e42, e45]; go_simp) rfl
    · intro a_ w_ st
      have e40 : a_.eval (.tmp 40) = .bool true := st.dep 6 _ 40 rfl rfl (by kernel_rfl)
      have e46 : a_.eval (.tmp 46) = .bool true := st.dep 12 _ 46 rfl rfl (by kernel_rfl)
      exact op_yield (.bool true) (wanted_none rfl _) (by simp only [execOp, e40, e46]; rfl) rfl
    · intro a_ w_ st
      have e47 : a_.eval (.tmp 47) = .bool true := st.dep 13 _ 47 rfl rfl (by kernel_rfl)
      exact op_yield (.bool true) (wanted_none rfl _) (by simp only [execOp, e47]; rfl) rfl
    · intro a_ w_ st
      have e48 : a_.eval (.tmp 48) = .bool true := st.dep 14 _ 48 rfl rfl (by kernel_rfl)
      have e7 : a_.eval (.tmp 7) = .int .i64 0 := st.slot 7 (by kernel_rfl)
      exact op_yield (.int .i64 0) (wanted_some rfl (st.yields 14 _ 48 rfl rfl (of_decide_eq_true (by kernel_rfl)) true e48)) (by simp only [execOp, e48, e7]; rfl) rfl
    · intro a_ w_ st
      have e48 : a_.eval (.tmp 48) = .bool true := st.dep 14 _ 48 rfl rfl (by kernel_rfl)
      have e49 : a_.eval (.tmp 49) = .int .i64 0 := st.dep 15 _ 49 rfl rfl (by kernel_rfl)
      skip
      exact op_call Try.func12 (by kernel_rfl) rfl #[.int .i64 0] (wanted_some rfl (st.yields 14 _ 48 rfl rfl (of_decide_eq_true (by kernel_rfl)) true e48)) rfl (by simp [e48, e49]) (calls_same (num_ok _ _))
    · intro a_ w_ st
      have e48 : a_.eval (.tmp 48) = .bool true := st.dep 14 _ 48 rfl rfl (by kernel_rfl)
      have e50 : a_.eval (.tmp 50) = .int .i64 0 := st.dep 16 _ 50 rfl rfl (by kernel_rfl)
      exact op_yield (.bool true) (wanted_some rfl (st.yields 14 _ 48 rfl rfl (of_decide_eq_true (by kernel_rfl)) true e48)) (by simp only [execOp, e48, e50]; go_simp) rfl
    · intro a_ w_ st
      have e48 : a_.eval (.tmp 48) = .bool true := st.dep 14 _ 48 rfl rfl (by kernel_rfl)
      have e51 : a_.eval (.tmp 51) = .bool true := st.dep 17 _ 51 rfl rfl (by kernel_rfl)
      exact op_yield (.bool true) (wanted_none rfl _) (by simp only [execOp, e48, e51]; rfl) rfl
    · intro a_ w_ st
      have e52 : a_.eval (.tmp 52) = .bool true := st.dep 18 _ 52 rfl rfl (by kernel_rfl)
      exact op_yield (.bool true) (wanted_none rfl _) (by simp only [execOp, e52]; rfl) rfl
    · intro a_ w_ st
      have e53 : a_.eval (.tmp 53) = .bool true := st.dep 19 _ 53 rfl rfl (by kernel_rfl)
      have e9 : a_.eval (.tmp 9) = .int .i64 0 := st.slot 9 (by kernel_rfl)
      exact op_yield (.int .i64 0) (wanted_some rfl (st.yields 19 _ 53 rfl rfl (of_decide_eq_true (by kernel_rfl)) true e53)) (by simp only [execOp, e53, e9]; rfl) rfl
    · intro a_ w_ st
      have e53 : a_.eval (.tmp 53) = .bool true := st.dep 19 _ 53 rfl rfl (by kernel_rfl)
      have e54 : a_.eval (.tmp 54) = .int .i64 0 := st.dep 20 _ 54 rfl rfl (by kernel_rfl)
      skip
      exact op_call Try.func12 (by kernel_rfl) rfl #[.int .i64 0] (wanted_some rfl (st.yields 19 _ 53 rfl rfl (of_decide_eq_true (by kernel_rfl)) true e53)) rfl (by simp [e53, e54]) (calls_same (num_ok _ _))
    · intro a_ w_ st
      have e53 : a_.eval (.tmp 53) = .bool true := st.dep 19 _ 53 rfl rfl (by kernel_rfl)
      have e55 : a_.eval (.tmp 55) = .int .i64 0 := st.dep 21 _ 55 rfl rfl (by kernel_rfl)
      exact op_yield (.bool true) (wanted_some rfl (st.yields 19 _ 53 rfl rfl (of_decide_eq_true (by kernel_rfl)) true e53)) (by simp only [execOp, e53, e55]; go_simp) rfl
    · intro a_ w_ st
      have e53 : a_.eval (.tmp 53) = .bool true := st.dep 19 _ 53 rfl rfl (by kernel_rfl)
      have e56 : a_.eval (.tmp 56) = .bool true := st.dep 22 _ 56 rfl rfl (by kernel_rfl)
      exact op_yield (.bool true) (wanted_none rfl _) (by simp only [execOp, e53, e56]; rfl) rfl
    · intro a_ w_ st
      have e57 : a_.eval (.tmp 57) = .bool true := st.dep 23 _ 57 rfl rfl (by kernel_rfl)
      exact op_yield (.bool true) (wanted_none rfl _) (by simp only [execOp, e57]; rfl) rfl
    · intro a_ w_ st
      have e58 : a_.eval (.tmp 58) = .bool true := st.dep 24 _ 58 rfl rfl (by kernel_rfl)
      have e8 : a_.eval (.tmp 8) = .slice A6 b.length c6 := st.slot 8 (by kernel_rfl)
      exact op_yield (.slice A6 b.length c6) (wanted_some rfl (st.yields 24 _ 58 rfl rfl (of_decide_eq_true (by kernel_rfl)) true e58)) (by simp only [execOp, e58, e8]; rfl) rfl
    · intro a_ w_ st
      have e58 : a_.eval (.tmp 58) = .bool true := st.dep 24 _ 58 rfl rfl (by kernel_rfl)
      have e59 : a_.eval (.tmp 59) = .slice A6 b.length c6 := st.dep 25 _ 59 rfl rfl (by kernel_rfl)
      have hc_ := conv22 _ _ _ _ w_ (HO6.rds.below st.below)
      exact op_yield (.string (strOfNums b)) (wanted_some rfl (st.yields 24 _ 58 rfl rfl (of_decide_eq_true (by kernel_rfl)) true e58)) (by simp [execOp, e58, e59, hc_]) rfl
    · intro a_ w_ st
      have e58 : a_.eval (.tmp 58) = .bool true := st.dep 24 _ 58 rfl rfl (by kernel_rfl)
      have e0 : a_.eval (.tmp 0) = .slice A0 n c := st.slot 0 (by kernel_rfl)
      exact op_yield (.slice A0 n c) (wanted_some rfl (st.yields 24 _ 58 rfl rfl (of_decide_eq_true (by kernel_rfl)) true e58)) (by simp only [execOp, e58, e0]; rfl) rfl
    · intro a_ w_ st
      have e58 : a_.eval (.tmp 58) = .bool true := st.dep 24 _ 58 rfl rfl (by kernel_rfl)
      have e61 : a_.eval (.tmp 61) = .slice A0 n c := st.dep 27 _ 61 rfl rfl (by kernel_rfl)
      have hc_ := conv22 _ _ _ _ w_ (hr6.below st.below)
      exact op_yield (.string (strOfNums b)) (wanted_some rfl (st.yields 24 _ 58 rfl rfl (of_decide_eq_true (by kernel_rfl)) true e58)) (by simp [execOp, e58, e61, hc_]) rfl
    · intro a_ w_ st
      have e58 : a_.eval (.tmp 58) = .bool true := st.dep 24 _ 58 rfl rfl (by kernel_rfl)
      have e60 : a_.eval (.tmp 60) = .string (strOfNums b) := st.dep 26 _ 60 rfl rfl (by kernel_rfl)
      have e62 : a_.eval (.tmp 62) = .string (strOfNums b) := st.dep 28 _ 62 rfl rfl (by kernel_rfl)
      exact op_yield (.bool true) (wanted_some rfl (st.yields 24 _ 58 rfl rfl (of_decide_eq_true (by kernel_rfl)) true e58)) (by simp only [execOp, e58, e60, e62]; go_simp) rfl
    · intro a_ w_ st
      have e58 : a_.eval (.tmp 58) = .bool true := st.dep 24 _ 58 rfl rfl (by kernel_rfl)
      have e63 : a_.eval (.tmp 63) = .bool true := st.dep 29 _ 63 rfl rfl (by kernel_rfl)
      exact op_yield (.bool true) (wanted_none rfl _) (by simp only [execOp, e58, e63]; rfl) rfl
    · intro a_ w_ st
      have e64 : a_.eval (.tmp 64) = .bool true := st.dep 30 _ 64 rfl rfl (by kernel_rfl)
      exact op_yield (.bool true) (wanted_none rfl _) (by simp only [execOp, e64]; rfl) rfl
  · intro a_ w_ st
    go_step
    go_step
    refine wp_ret ?_
    exact ⟨st.defers, _, results_tmp rfl _ _ _, ⟨by rw [show a_.tmps.getD 2 undef = .bool true from st.val 31 _ 2 rfl trivial rfl], below_step HB6 st.below⟩⟩

theorem walk (a0 : Option Addr) (len0 cap0 : Nat) (z0 : List Int) (W : World) (w0 : IsRow .u8 W a0 len0 cap0 z0) (_y0 : len0 * 1 ≤ 140737488351232) :
    Calls Try.prog 6 #[.slice a0 len0 cap0] W fun e w' => e = .returned (.bool true) ∧ Below W.heap.size W w' := by
  obtain ⟨l, hr, hm, hw⟩ := rds_of_row w0
  rcases Nat.lt_or_ge 200 len0 with h | h
  · exact rows_long a0 len0 cap0 W h hm
  · exact rows_short a0 len0 cap0 l W hr (fun x hx => wf_u8 (hw x hx)) h

end Go.Proofs.Ytcmacdjocbeeaaa.Rows6
