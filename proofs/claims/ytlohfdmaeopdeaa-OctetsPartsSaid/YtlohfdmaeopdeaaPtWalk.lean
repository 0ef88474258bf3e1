/- Stuffing parts separately gives the same as stuffing the whole, at most twice as long: for every two rows of octets up to 300; of longer ones nothing is asked. No condition. -/
import Derived.Test.YtlohfdmaeopdeaaOctW3
namespace Go.Proofs.Ytlohfdmaeopdeaa.Pt5
open Go.RowKit Go.Proofs.YtlohfdmaeopdeaaW.PrintWords Go.Proofs.YtlohfdmaeopdeaaW.PrintLast Go.Proofs.YtlohfdmaeopdeaaW.PrintMore Go.Proofs.Ytlohfdmaeopdeaa.K Go.Proofs.Ytlohfdmaeopdeaa.OctPure Go.Proofs.Ytlohfdmaeopdeaa.OctW
set_option linter.unusedVariables false
set_option linter.unusedSimpArgs false

theorem strOfNums_append (a b : List Int) : strOfNums (a ++ b) = strOfNums a ++ strOfNums b := by
  apply ByteArray.ext
  simp [strOfNums]
theorem run_len {P : Program} {o : Oper} {a' : Act} {w' : World} {x : Operand} {t : TypeId} {A : Option Addr} {n c : Nat} {e : TypeId} (ht : P.underlying t = some (.slice e)) (hop : o.op = .call { callee := .builtin .len, args := #[x], argTypes := #[t] }) (hx : a'.eval x = .slice A n c) (hn : n ≤ 9223372036854775807) :
    (execOp a'.eval o).run P w' = .ok (.value (.int .i64 n)) w' := by
  unfold execOp
  rw [hop]
  have hn' : (n : Int) ≤ 9223372036854775807 := by omega
  simp [resolve, hx]
  go_simp
theorem strOfNums_size (l : List Int) : (strOfNums l).size = l.length := by simp [strOfNums, ByteArray.size]

set_option maxHeartbeats 8000000 in
set_option maxRecDepth 100000 in
theorem pt_long (A0 A1 : Option Addr) (n c n1 c1 : Nat) (w : World) (hn : n ≤ 9223372036854775807) (hn1 : n1 ≤ 9223372036854775807) (h : 300 < n ∨ 300 < n1) :
    Calls Try.prog 5 #[.slice A0 n c, .slice A1 n1 c1] w fun e w' => e = .returned (.bool true) ∧ Below w.heap.size w w' := by
  by_cases h1 : (300 : Int) < (n : Int)
  · clear h
    go_enter Try.func5, Try.ntmps5
    go_wp2_with (first | (go_at_call 8; refine (alive_ok _).mono ?_; rintro e w1 ⟨rfl, HB1⟩))
    go_ret
    exact ⟨rfl, HB1⟩
  · have h2 : (300 : Int) < (n1 : Int) := by omega
    clear h
    go_enter Try.func5, Try.ntmps5
    go_wp2_with (first | (go_at_call 8; refine (alive_ok _).mono ?_; rintro e w1 ⟨rfl, HB1⟩))
    go_ret
    exact ⟨rfl, HB1⟩

set_option maxHeartbeats 8000000 in
set_option maxRecDepth 100000 in
theorem pt_short (A0 A1 : Option Addr) (n c n1 c1 : Nat) (a b : List Int) (w : World) (hr : Rds (Kd.int .u8) w A0 n c a) (hr1 : Rds (Kd.int .u8) w A1 n1 c1 b) (hl : n ≤ 300) (hl1 : n1 ≤ 300) :
    Calls Try.prog 5 #[.slice A0 n c, .slice A1 n1 c1] w fun e w' => e = .returned (.bool true) ∧ Below w.heap.size w w' := by
  have h1 : ¬ (300 : Int) < (n : Int) := by omega
  have h2 : ¬ (300 : Int) < (n1 : Int) := by omega
  have hlen := Aside0.mk hr.len
  have hlen1 := Aside0.mk hr1.len
  have hap0 := stuffO_append a b
  have hla := Aside0.mk (stuffO_len (a ++ b))
  have hlsa := (stuffO_len a).2
  have hlsb := (stuffO_len b).2
  generalize hSA : stuffO a = SA at *
  generalize hSB : stuffO b = SB at *
  generalize hTT : stuffO (a ++ b) = T at *
  have HTT := Aside0.mk hTT
  have HT := Aside0.mk hap0.symm
  have HSA := Aside0.mk hSA
  have HSB := Aside0.mk hSB
  have hz : (strOfNums SA).size + (strOfNums SB).size ≤ 9223372036854775807 := by rw [strOfNums_size, strOfNums_size]; have := hlen.out; have := hlen1.out; omega
  have HZ := Aside0.mk hz
  clear hSA hSB hTT hap0 hlsa hlsb hz
  go_enter Try.func5, Try.ntmps5
  go_wp2_with (first
    | (go_at_call 8; refine (alive_ok _).mono ?_; rintro e w1 ⟨rfl, HB1⟩)
    | (at_builtin; refine app_rowi Try.underlying22 info5 rfl (by decide) (.const (.slice none 0 0)) (.tmp 21) rfl rfl rfl rfl (Own.nil _ _ w.heap.size _) (hr.below HB1) HB1 HB1.size (by simp; omega) ?_; intro v2 w2 HO2 HB2 hB2; rw [List.nil_append] at HO2; obtain ⟨A2, c2, rfl, hc2⟩ := HO2.slice)
    | (at_builtin; refine app_rowi Try.underlying22 info5 rfl (by decide) (.tmp 22) (.tmp 23) rfl rfl rfl rfl HO2 (hr1.below HB2) HB2 HB2.size (by have := hlen.out; omega) ?_; intro v3 w3 HO3 HB3 hB3; obtain ⟨A3, c3, rfl, hc3⟩ := HO3.sliceN (n := a.length + b.length) (by simp))
    | (go_at_call 9; (with_reducible refine (stuff_ok A3 (a.length + b.length) c3 (a ++ b) _ HO3.rds (by have := hlen.out; have := hlen1.out; simp; omega)).mono ?_); rintro e w4 ⟨A4, c4, rfl, HO4, hn⟩; have HB4 := below_step HB3 hn; clear hn; rw [HTT.out] at HO4 ⊢))
  have hr4 := hr.below HB4
  have hr14 := hr1.below HB4
  have hz := HZ.out
  have hw1 : IntKind.i64.wrap ((n : Int) + (n1 : Int)) = (n : Int) + (n1 : Int) := IntWalk.i64_in _ (by omega)
  have hw2 : IntKind.i64.wrap (2 * ((n : Int) + (n1 : Int))) = 2 * ((n : Int) + (n1 : Int)) := IntWalk.i64_in _ (by omega)
  have g1 : (n : Int) + (n1 : Int) ≤ (T.length : Int) := by have := hla.out; have := hlen.out; have := hlen1.out; simp at *; omega
  have g2 : (T.length : Int) ≤ 2 * ((n : Int) + (n1 : Int)) := by have := hla.out; have := hlen.out; have := hlen1.out; simp at *; omega
  refine region_each (VT (fun i => match i with | 0 => .slice A4 T.length c4 | 1 => .string (strOfNums T) | 2 => .slice A0 n c | 4 => .string (strOfNums SA) | 5 => .slice A1 n1 c1 | 7 => .string (strOfNums SB) | 8 => .string (strOfNums SA ++ strOfNums SB) | 9 => .bool true | 10 => .bool true | 11 => .slice A4 T.length c4 | 12 => .int .i64 ((T.length : Nat) : Int) | 13 => .slice A0 n c | 14 => .int .i64 ((n : Nat) : Int) | 15 => .slice A1 n1 c1 | 16 => .int .i64 ((n1 : Nat) : Int) | 17 => .int .i64 ((n : Int) + (n1 : Int)) | 18 => .bool true | 19 => .bool true | 20 => .bool true | 21 => .slice A4 T.length c4 | 22 => .int .i64 ((T.length : Nat) : Int) | 23 => .slice A0 n c | 24 => .int .i64 ((n : Nat) : Int) | 25 => .slice A1 n1 c1 | 26 => .int .i64 ((n1 : Nat) : Int) | 27 => .int .i64 ((n : Int) + (n1 : Int)) | 28 => .int .i64 (2 * ((n : Int) + (n1 : Int))) | 29 => .bool true | 30 => .bool true | 31 => .bool true | _ => undef) [(3, SA), (6, SB)]) (by kernel_rfl) (by kernel_rfl) (VT_stable _ _) ?_ ?_
  · refine ⟨?_, ?_, ?_, ?_, ?_, ?_, ?_, ?_, ?_, ?_, ?_, ?_, ?_, ?_, ?_, ?_, ?_, ?_, ?_, ?_, ?_, ?_, ?_, ?_, ?_, ?_, ?_, ?_, ?_, ?_, ?_, ?_, trivial⟩
    · intro a_ w_ st
      have e6 : a_.eval (.tmp 6) = .slice A4 T.length c4 := st.slot 6 (by kernel_rfl)
      exact op_yield (.slice A4 T.length c4) (wanted_none rfl _) (by simp only [execOp, e6]; rfl) rfl
    · intro a_ w_ st
      have e26 : a_.eval (.tmp 26) = .slice A4 T.length c4 := st.dep 0 _ 26 rfl rfl (by kernel_rfl)
      have hc_ := conv22 _ _ _ _ w_ (HO4.rds.below st.below)
      exact op_yield (.string (strOfNums T)) (wanted_none rfl _) (by simp [execOp, e26, hc_]) rfl
    · intro a_ w_ st
      have e0 : a_.eval (.tmp 0) = .slice A0 n c := st.slot 0 (by kernel_rfl)
      exact op_yield (.slice A0 n c) (wanted_none rfl _) (by simp only [execOp, e0]; rfl) rfl
    · intro a_ w_ st
      have e28 : a_.eval (.tmp 28) = .slice A0 n c := st.dep 2 _ 28 rfl rfl (by kernel_rfl)
      skip
      exact op_call Try.func9 (by kernel_rfl) rfl #[.slice A0 n c] (wanted_none rfl _) rfl (by simp [e28]) (calls_sl (by have h_ := stuff_ok _ _ _ a w_ (hr4.below st.below) (by have := hlen.out; omega); rw [HSA.out] at h_; exact h_))
    · intro a_ w_ st
      obtain ⟨A29_, c29_, e29, h29_⟩ : IsSl SA (a_.eval (.tmp 29)) w_ := st.dep 3 _ 29 rfl rfl (by kernel_rfl)
      have hc_ := conv22 _ _ _ _ w_ (h29_)
      exact op_yield (.string (strOfNums SA)) (wanted_none rfl _) (by simp [execOp, e29, hc_]) rfl
    · intro a_ w_ st
      have e1 : a_.eval (.tmp 1) = .slice A1 n1 c1 := st.slot 1 (by kernel_rfl)
      exact op_yield (.slice A1 n1 c1) (wanted_none rfl _) (by simp only [execOp, e1]; rfl) rfl
    · intro a_ w_ st
      have e31 : a_.eval (.tmp 31) = .slice A1 n1 c1 := st.dep 5 _ 31 rfl rfl (by kernel_rfl)
      skip
      exact op_call Try.func9 (by kernel_rfl) rfl #[.slice A1 n1 c1] (wanted_none rfl _) rfl (by simp [e31]) (calls_sl (by have h_ := stuff_ok _ _ _ b w_ (hr14.below st.below) (by have := hlen1.out; omega); rw [HSB.out] at h_; exact h_))
    · intro a_ w_ st
      obtain ⟨A32_, c32_, e32, h32_⟩ : IsSl SB (a_.eval (.tmp 32)) w_ := st.dep 6 _ 32 rfl rfl (by kernel_rfl)
      have hc_ := conv22 _ _ _ _ w_ (h32_)
      exact op_yield (.string (strOfNums SB)) (wanted_none rfl _) (by simp [execOp, e32, hc_]) rfl
    · intro a_ w_ st
      have e30 : a_.eval (.tmp 30) = .string (strOfNums SA) := st.dep 4 _ 30 rfl rfl (by kernel_rfl)
      have e33 : a_.eval (.tmp 33) = .string (strOfNums SB) := st.dep 7 _ 33 rfl rfl (by kernel_rfl)
      exact op_yield (.string (strOfNums SA ++ strOfNums SB)) (wanted_none rfl _) (by simp only [execOp, e30, e33]; go_simp) rfl
    · intro a_ w_ st
      have e27 : a_.eval (.tmp 27) = .string (strOfNums T) := st.dep 1 _ 27 rfl rfl (by kernel_rfl)
      have e34 : a_.eval (.tmp 34) = .string (strOfNums SA ++ strOfNums SB) := st.dep 8 _ 34 rfl rfl (by kernel_rfl)
      exact op_yield (.bool true) (wanted_none rfl _) (by simp only [execOp, e27, e34]; rw [← HT.out, strOfNums_append]; go_simp) rfl
    · intro a_ w_ st
      have e35 : a_.eval (.tmp 35) = .bool true := st.dep 9 _ 35 rfl rfl (by kernel_rfl)
      exact op_yield (.bool true) (wanted_none rfl _) (by simp only [execOp, e35]; rfl) rfl
    · intro a_ w_ st
      have e36 : a_.eval (.tmp 36) = .bool true := st.dep 10 _ 36 rfl rfl (by kernel_rfl)
      have e6 : a_.eval (.tmp 6) = .slice A4 T.length c4 := st.slot 6 (by kernel_rfl)
      exact op_yield (.slice A4 T.length c4) (wanted_some rfl (st.yields 10 _ 36 rfl rfl (of_decide_eq_true (by kernel_rfl)) true e36)) (by simp only [execOp, e36, e6]; rfl) rfl
    · intro a_ w_ st
      have e36 : a_.eval (.tmp 36) = .bool true := st.dep 10 _ 36 rfl rfl (by kernel_rfl)
      have e37 : a_.eval (.tmp 37) = .slice A4 T.length c4 := st.dep 11 _ 37 rfl rfl (by kernel_rfl)
      exact op_yield (.int .i64 ((T.length : Nat) : Int)) (wanted_some rfl (st.yields 10 _ 36 rfl rfl (of_decide_eq_true (by kernel_rfl)) true e36)) (run_len Try.underlying22 rfl e37 (by omega)) rfl
    · intro a_ w_ st
      have e36 : a_.eval (.tmp 36) = .bool true := st.dep 10 _ 36 rfl rfl (by kernel_rfl)
      have e0 : a_.eval (.tmp 0) = .slice A0 n c := st.slot 0 (by kernel_rfl)
      exact op_yield (.slice A0 n c) (wanted_some rfl (st.yields 10 _ 36 rfl rfl (of_decide_eq_true (by kernel_rfl)) true e36)) (by simp only [execOp, e36, e0]; rfl) rfl
    · intro a_ w_ st
      have e36 : a_.eval (.tmp 36) = .bool true := st.dep 10 _ 36 rfl rfl (by kernel_rfl)
      have e39 : a_.eval (.tmp 39) = .slice A0 n c := st.dep 13 _ 39 rfl rfl (by kernel_rfl)
      exact op_yield (.int .i64 ((n : Nat) : Int)) (wanted_some rfl (st.yields 10 _ 36 rfl rfl (of_decide_eq_true (by kernel_rfl)) true e36)) (run_len Try.underlying22 rfl e39 (by omega)) rfl
    · intro a_ w_ st
      have e36 : a_.eval (.tmp 36) = .bool true := st.dep 10 _ 36 rfl rfl (by kernel_rfl)
      have e1 : a_.eval (.tmp 1) = .slice A1 n1 c1 := st.slot 1 (by kernel_rfl)
      exact op_yield (.slice A1 n1 c1) (wanted_some rfl (st.yields 10 _ 36 rfl rfl (of_decide_eq_true (by kernel_rfl)) true e36)) (by simp only [execOp, e36, e1]; rfl) rfl
    · intro a_ w_ st
      have e36 : a_.eval (.tmp 36) = .bool true := st.dep 10 _ 36 rfl rfl (by kernel_rfl)
      have e41 : a_.eval (.tmp 41) = .slice A1 n1 c1 := st.dep 15 _ 41 rfl rfl (by kernel_rfl)
      exact op_yield (.int .i64 ((n1 : Nat) : Int)) (wanted_some rfl (st.yields 10 _ 36 rfl rfl (of_decide_eq_true (by kernel_rfl)) true e36)) (run_len Try.underlying22 rfl e41 (by omega)) rfl
    · intro a_ w_ st
      have e36 : a_.eval (.tmp 36) = .bool true := st.dep 10 _ 36 rfl rfl (by kernel_rfl)
      have e40 : a_.eval (.tmp 40) = .int .i64 ((n : Nat) : Int) := st.dep 14 _ 40 rfl rfl (by kernel_rfl)
      have e42 : a_.eval (.tmp 42) = .int .i64 ((n1 : Nat) : Int) := st.dep 16 _ 42 rfl rfl (by kernel_rfl)
      exact op_yield (.int .i64 ((n : Int) + (n1 : Int))) (wanted_some rfl (st.yields 10 _ 36 rfl rfl (of_decide_eq_true (by kernel_rfl)) true e36)) (by simp only [execOp, e36, e40, e42]; go_simp) rfl
    · intro a_ w_ st
      have e36 : a_.eval (.tmp 36) = .bool true := st.dep 10 _ 36 rfl rfl (by kernel_rfl)
      have e38 : a_.eval (.tmp 38) = .int .i64 ((T.length : Nat) : Int) := st.dep 12 _ 38 rfl rfl (by kernel_rfl)
      have e43 : a_.eval (.tmp 43) = .int .i64 ((n : Int) + (n1 : Int)) := st.dep 17 _ 43 rfl rfl (by kernel_rfl)
      exact op_yield (.bool true) (wanted_some rfl (st.yields 10 _ 36 rfl rfl (of_decide_eq_true (by kernel_rfl)) true e36)) (by simp only [execOp, e36, e38, e43]; go_simp) rfl
    · intro a_ w_ st
      have e36 : a_.eval (.tmp 36) = .bool true := st.dep 10 _ 36 rfl rfl (by kernel_rfl)
      have e44 : a_.eval (.tmp 44) = .bool true := st.dep 18 _ 44 rfl rfl (by kernel_rfl)
      exact op_yield (.bool true) (wanted_none rfl _) (by simp only [execOp, e36, e44]; rfl) rfl
    · intro a_ w_ st
      have e45 : a_.eval (.tmp 45) = .bool true := st.dep 19 _ 45 rfl rfl (by kernel_rfl)
      exact op_yield (.bool true) (wanted_none rfl _) (by simp only [execOp, e45]; rfl) rfl
    · intro a_ w_ st
      have e46 : a_.eval (.tmp 46) = .bool true := st.dep 20 _ 46 rfl rfl (by kernel_rfl)
      have e6 : a_.eval (.tmp 6) = .slice A4 T.length c4 := st.slot 6 (by kernel_rfl)
      exact op_yield (.slice A4 T.length c4) (wanted_some rfl (st.yields 20 _ 46 rfl rfl (of_decide_eq_true (by kernel_rfl)) true e46)) (by simp only [execOp, e46, e6]; rfl) rfl
    · intro a_ w_ st
      have e46 : a_.eval (.tmp 46) = .bool true := st.dep 20 _ 46 rfl rfl (by kernel_rfl)
      have e47 : a_.eval (.tmp 47) = .slice A4 T.length c4 := st.dep 21 _ 47 rfl rfl (by kernel_rfl)
      exact op_yield (.int .i64 ((T.length : Nat) : Int)) (wanted_some rfl (st.yields 20 _ 46 rfl rfl (of_decide_eq_true (by kernel_rfl)) true e46)) (run_len Try.underlying22 rfl e47 (by omega)) rfl
    · intro a_ w_ st
      have e46 : a_.eval (.tmp 46) = .bool true := st.dep 20 _ 46 rfl rfl (by kernel_rfl)
      have e0 : a_.eval (.tmp 0) = .slice A0 n c := st.slot 0 (by kernel_rfl)
      exact op_yield (.slice A0 n c) (wanted_some rfl (st.yields 20 _ 46 rfl rfl (of_decide_eq_true (by kernel_rfl)) true e46)) (by simp only [execOp, e46, e0]; rfl) rfl
    · intro a_ w_ st
      have e46 : a_.eval (.tmp 46) = .bool true := st.dep 20 _ 46 rfl rfl (by kernel_rfl)
      have e49 : a_.eval (.tmp 49) = .slice A0 n c := st.dep 23 _ 49 rfl rfl (by kernel_rfl)
      exact op_yield (.int .i64 ((n : Nat) : Int)) (wanted_some rfl (st.yields 20 _ 46 rfl rfl (of_decide_eq_true (by kernel_rfl)) true e46)) (run_len Try.underlying22 rfl e49 (by omega)) rfl
    · intro a_ w_ st
      have e46 : a_.eval (.tmp 46) = .bool true := st.dep 20 _ 46 rfl rfl (by kernel_rfl)
      have e1 : a_.eval (.tmp 1) = .slice A1 n1 c1 := st.slot 1 (by kernel_rfl)
      exact op_yield (.slice A1 n1 c1) (wanted_some rfl (st.yields 20 _ 46 rfl rfl (of_decide_eq_true (by kernel_rfl)) true e46)) (by simp only [execOp, e46, e1]; rfl) rfl
    · intro a_ w_ st
      have e46 : a_.eval (.tmp 46) = .bool true := st.dep 20 _ 46 rfl rfl (by kernel_rfl)
      have e51 : a_.eval (.tmp 51) = .slice A1 n1 c1 := st.dep 25 _ 51 rfl rfl (by kernel_rfl)
      exact op_yield (.int .i64 ((n1 : Nat) : Int)) (wanted_some rfl (st.yields 20 _ 46 rfl rfl (of_decide_eq_true (by kernel_rfl)) true e46)) (run_len Try.underlying22 rfl e51 (by omega)) rfl
    · intro a_ w_ st
      have e46 : a_.eval (.tmp 46) = .bool true := st.dep 20 _ 46 rfl rfl (by kernel_rfl)
      have e50 : a_.eval (.tmp 50) = .int .i64 ((n : Nat) : Int) := st.dep 24 _ 50 rfl rfl (by kernel_rfl)
      have e52 : a_.eval (.tmp 52) = .int .i64 ((n1 : Nat) : Int) := st.dep 26 _ 52 rfl rfl (by kernel_rfl)
      exact op_yield (.int .i64 ((n : Int) + (n1 : Int))) (wanted_some rfl (st.yields 20 _ 46 rfl rfl (of_decide_eq_true (by kernel_rfl)) true e46)) (by simp only [execOp, e46, e50, e52]; go_simp) rfl
    · intro a_ w_ st
      have e46 : a_.eval (.tmp 46) = .bool true := st.dep 20 _ 46 rfl rfl (by kernel_rfl)
      have e53 : a_.eval (.tmp 53) = .int .i64 ((n : Int) + (n1 : Int)) := st.dep 27 _ 53 rfl rfl (by kernel_rfl)
      exact op_yield (.int .i64 (2 * ((n : Int) + (n1 : Int)))) (wanted_some rfl (st.yields 20 _ 46 rfl rfl (of_decide_eq_true (by kernel_rfl)) true e46)) (by simp only [execOp, e46, e53]; go_simp) rfl
    · intro a_ w_ st
      have e46 : a_.eval (.tmp 46) = .bool true := st.dep 20 _ 46 rfl rfl (by kernel_rfl)
      have e48 : a_.eval (.tmp 48) = .int .i64 ((T.length : Nat) : Int) := st.dep 22 _ 48 rfl rfl (by kernel_rfl)
      have e54 : a_.eval (.tmp 54) = .int .i64 (2 * ((n : Int) + (n1 : Int))) := st.dep 28 _ 54 rfl rfl (by kernel_rfl)
      exact op_yield (.bool true) (wanted_some rfl (st.yields 20 _ 46 rfl rfl (of_decide_eq_true (by kernel_rfl)) true e46)) (by simp only [execOp, e46, e48, e54]; go_simp) rfl
    · intro a_ w_ st
      have e46 : a_.eval (.tmp 46) = .bool true := st.dep 20 _ 46 rfl rfl (by kernel_rfl)
      have e55 : a_.eval (.tmp 55) = .bool true := st.dep 29 _ 55 rfl rfl (by kernel_rfl)
      exact op_yield (.bool true) (wanted_none rfl _) (by simp only [execOp, e46, e55]; rfl) rfl
    · intro a_ w_ st
      have e56 : a_.eval (.tmp 56) = .bool true := st.dep 30 _ 56 rfl rfl (by kernel_rfl)
      exact op_yield (.bool true) (wanted_none rfl _) (by simp only [execOp, e56]; rfl) rfl
  · intro a_ w_ st
    go_step
    go_step
    refine wp_ret ?_
    exact ⟨st.defers, _, results_tmp rfl _ _ _, ⟨by rw [show a_.tmps.getD 4 undef = .bool true from st.val 31 _ 4 rfl trivial rfl], below_step HB4 st.below⟩⟩

theorem walk (a0 : Option Addr) (len0 cap0 : Nat) (z0 : List Int) (a1 : Option Addr) (len1 cap1 : Nat) (z1 : List Int) (W : World) (w0 : IsRow .u8 W a0 len0 cap0 z0) (_y0 : len0 * 1 ≤ 140737488351232) (w1 : IsRow .u8 W a1 len1 cap1 z1) (_y1 : len1 * 1 ≤ 140737488351232) :
    Calls Try.prog 5 #[.slice a0 len0 cap0, .slice a1 len1 cap1] W fun e w' => e = .returned (.bool true) ∧ Below W.heap.size W w' := by
  obtain ⟨l, hr, hm, hw⟩ := rds_of_row w0
  obtain ⟨l1, hr1, hm1, hw1⟩ := rds_of_row w1
  by_cases h : 300 < len0 ∨ 300 < len1
  · exact pt_long a0 a1 len0 cap0 len1 cap1 W hm hm1 h
  · exact pt_short a0 a1 len0 cap0 len1 cap1 l l1 W hr hr1 (by omega) (by omega)

end Go.Proofs.Ytlohfdmaeopdeaa.Pt5
