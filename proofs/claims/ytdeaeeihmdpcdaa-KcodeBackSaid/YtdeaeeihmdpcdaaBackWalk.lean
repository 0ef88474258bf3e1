/- Every request and line is read as it was written, and a turned bit is told. No condition. -/
import Derived.Test.YtdeaeeihmdpcdaaKW3
namespace Go.Proofs.Ytdeaeeihmdpcdaa.Back4
open Go.RowKit Go.Proofs.YtdeaeeihmdpcdaaW.PrintWords Go.Proofs.YtdeaeeihmdpcdaaW.PrintLast Go.Proofs.YtdeaeeihmdpcdaaW.PrintMore Go.Proofs.Ytdeaeeihmdpcdaa.K Go.Proofs.Ytdeaeeihmdpcdaa.KW
set_option linter.unusedVariables false
set_option linter.unusedSimpArgs false

theorem flip_all : ∀ n : Fin 256, ∀ j : Fin 8, bits .xor .u8 (n.val : Int) (IntKind.u8.wrap (2 ^ j.val)) ≠ (n.val : Int) := by decide +kernel
theorem flip_ne (x : Int) (j : Nat) (h0 : 0 ≤ x) (h1 : x ≤ 255) (hj : j < 8) : bits .xor .u8 x (IntKind.u8.wrap (2 ^ j)) ≠ x := by
  have := flip_all ⟨x.toNat, by omega⟩ ⟨j, hj⟩
  simpa only [Int.toNat_of_nonneg h0] using this
theorem flip_in_all : ∀ n : Fin 256, ∀ j : Fin 8, 0 ≤ bits .xor .u8 (n.val : Int) (IntKind.u8.wrap (2 ^ j.val)) ∧ bits .xor .u8 (n.val : Int) (IntKind.u8.wrap (2 ^ j.val)) ≤ 255 := by decide +kernel
theorem flip_in (x : Int) (j : Nat) (h0 : 0 ≤ x) (h1 : x ≤ 255) (hj : j < 8) : 0 ≤ bits .xor .u8 x (IntKind.u8.wrap (2 ^ j)) ∧ bits .xor .u8 x (IntKind.u8.wrap (2 ^ j)) ≤ 255 := by
  have := flip_in_all ⟨x.toNat, by omega⟩ ⟨j, hj⟩
  simpa only [Int.toNat_of_nonneg h0] using this
theorem and15_i64 (x : Int) : 0 ≤ bits .and .i64 x 15 ∧ bits .and .i64 x 15 ≤ 15 := by
  simp only [bits]
  have h1 : (BitVec.ofInt IntKind.i64.bits x &&& BitVec.ofInt IntKind.i64.bits 15).toNat ≤ 15 := by
    rw [BitVec.toNat_and]
    exact Nat.and_le_right
  generalize (BitVec.ofInt IntKind.i64.bits x &&& BitVec.ofInt IntKind.i64.bits 15).toNat = m at *
  rw [IntKind.wrap_i64]
  omega

theorem rd_put (q line : Int) (h0 : 0 ≤ q ∧ q ≤ 8) (h1 : 0 ≤ line ∧ line ≤ 1) : putB q line = 16 * q + line ∧ readK [putB q line, 255 - putB q line] = (q, line, 0) := by
  have e1 : putB q line = 16 * q + line := by
    unfold putB codeOf
    rw [if_pos h0]
    split <;> omega
  refine ⟨e1, ?_⟩
  rw [e1]
  have a1 : (16 * q + line) / 16 = q := by omega
  have a2 : (16 * q + line) % 16 = line := by omega
  simp only [readK, a1, a2]
  rw [if_pos ⟨trivial, h0.2, h1.2⟩]
theorem rd_bad (x y : Int) (h : y ≠ 255 - x) : readK [x, y] = (0, 0, 2) := by
  simp only [readK]
  rw [if_neg (fun hh => h hh.1)]

set_option maxHeartbeats 8000000 in
set_option maxRecDepth 100000 in
theorem back_out (q line bit : Int) (w : World) (h : ¬ ((0 ≤ q ∧ q ≤ 8) ∧ (0 ≤ line ∧ line ≤ 1))) :
    Calls Try.prog 4 #[.int .i64 q, .int .i64 line, .int .i64 bit] w fun e w' => e = .returned (.bool true) ∧ Below w.heap.size w w' := by
  have H := Aside0.mk h
  clear h
  by_cases h1 : q < 0 <;> by_cases h2 : q > 8 <;> by_cases h3 : line < 0 <;> by_cases h4 : line > 1
  all_goals first | (exfalso; have := H.out; omega) | skip
  all_goals
    go_enter Try.func4, Try.ntmps4
    go_wp2_with (first | (go_at_call 5; refine (alive_ok _).mono ?_; rintro e w1 ⟨rfl, HB1⟩))
    go_ret
    exact ⟨rfl, HB1⟩

set_option maxHeartbeats 8000000 in
set_option maxRecDepth 100000 in
theorem back_in0 (q line bit : Int) (w : World) (h0 : 0 ≤ q ∧ q ≤ 8) (h1 : 0 ≤ line ∧ line ≤ 1) (hs : bits .and .i64 bit 15 < 8) :
    Calls Try.prog 4 #[.int .i64 q, .int .i64 line, .int .i64 bit] w fun e w' => e = .returned (.bool true) ∧ Below w.heap.size w w' := by
  obtain ⟨hp, hr⟩ := rd_put q line h0 h1
  have hk := and15_i64 bit
  have hq2 : 0 ≤ putB q line ∧ putB q line ≤ 255 := by omega
  generalize hc : putB q line = c at *
  have HC := Aside0.mk hc
  have HR := Aside0.mk hr
  have HOK : Aside0 (octOk [c, 255 - c]) := ⟨by unfold octOk; intro x hx; simp at hx; omega⟩
  generalize hkk : bits .and .i64 bit 15 = k at *
  obtain ⟨K, hK⟩ : ∃ K : Nat, k = K := ⟨k.toNat, by omega⟩
  subst hK
  have hK8 : K ≤ 15 := by omega
  have dr1 : (K : Int) % 8 = ((K % 8 : Nat) : Int) := by omega
  have dr2 : (K : Int) / 8 = 0 := by omega
  have hj : K % 8 < 8 := Nat.mod_lt _ (by omega)
  generalize K % 8 = j at dr1 hj
  have HN := Aside0.mk (flip_ne c j (by omega) (by omega) hj)
  have HI := Aside0.mk (flip_in c j (by omega) (by omega) hj)
  generalize hx1 : bits .xor .u8 c (IntKind.u8.wrap (2 ^ j)) = x1 at HN HI
  rw [IntKind.wrap_u8] at hx1
  have HOK2 : Aside0 (octOk [x1, 255 - c]) := ⟨by unfold octOk; intro x hx; have := HI.out; simp at hx; omega⟩
  have HR2 := Aside0.mk (rd_bad x1 (255 - c) (by have := HN.out; omega))
  clear hp hr hc hq2 hk HN HI
  obtain ⟨h01, h02⟩ := h0
  obtain ⟨h11, h12⟩ := h1
  go_enter Try.func4, Try.ntmps4
  go_wp2_with (first
    | (go_at_call 5; refine (alive_ok _).mono ?_; rintro e w1 ⟨rfl, HB1⟩)
    | (go_at_call 8; (with_reducible refine (put_ok _ _ _).mono ?_); rintro e w2 ⟨A2, c2, rfl, HO2, hn⟩; have HB2 := below_step HB1 hn; clear hn; rw [HC.out] at HO2)
    | (go_at_call 6; (with_reducible refine (read_ok _ _ _ [c, 255 - c] _ HO2.rds HOK.out (by decide)).mono ?_); rintro e w3 ⟨rfl, hn⟩; have HB3 := below_step HB2 hn; have HO3 := HO2.below hn; clear hn; rw [HR.out]; clear HO2; obtain ⟨g, rfl, hg1, hg2, hcell, hfrz, hput⟩ := HO3.elem (0 : Int) 0 (by decide); rw [show rdOf (0 : Int) [c, 255 - c] ((0 : Nat) : Int) = c from rfl] at hcell; have hput := Aside0.mk hput)
    | (go_at_call 6; have HB4 := below_set (j := 0) (v := Value.int .u8 x1) HB3 (Nat.le_trans HB1.size hg1); have hr5 := (hput.out x1).rds; change Rds (Kd.int .u8) _ _ _ _ [x1, 255 - c] at hr5; (with_reducible refine (read_ok _ _ _ [x1, 255 - c] _ hr5 HOK2.out (by decide)).mono ?_); rintro e w5 ⟨rfl, hn⟩; have HB5 := below_step HB4 hn; clear hn; rw [HR2.out])
    | (go_at_call 10; (with_reducible refine (num_ok _ _).mono ?_); rintro e w' ⟨rfl, rfl⟩))
  go_ret
  exact ⟨rfl, HB5⟩

set_option maxHeartbeats 8000000 in
set_option maxRecDepth 100000 in
theorem back_in1 (q line bit : Int) (w : World) (h0 : 0 ≤ q ∧ q ≤ 8) (h1 : 0 ≤ line ∧ line ≤ 1) (hs : 8 ≤ bits .and .i64 bit 15) :
    Calls Try.prog 4 #[.int .i64 q, .int .i64 line, .int .i64 bit] w fun e w' => e = .returned (.bool true) ∧ Below w.heap.size w w' := by
  obtain ⟨hp, hr⟩ := rd_put q line h0 h1
  have hk := and15_i64 bit
  have hq2 : 0 ≤ putB q line ∧ putB q line ≤ 255 := by omega
  generalize hc : putB q line = c at *
  have HC := Aside0.mk hc
  have HR := Aside0.mk hr
  have HOK : Aside0 (octOk [c, 255 - c]) := ⟨by unfold octOk; intro x hx; simp at hx; omega⟩
  generalize hkk : bits .and .i64 bit 15 = k at *
  obtain ⟨K, hK⟩ : ∃ K : Nat, k = K := ⟨k.toNat, by omega⟩
  subst hK
  have hK8 : K ≤ 15 := by omega
  have dr1 : (K : Int) % 8 = ((K % 8 : Nat) : Int) := by omega
  have dr2 : (K : Int) / 8 = 1 := by omega
  have hj : K % 8 < 8 := Nat.mod_lt _ (by omega)
  generalize K % 8 = j at dr1 hj
  have HN := Aside0.mk (flip_ne (255 - c) j (by omega) (by omega) hj)
  have HI := Aside0.mk (flip_in (255 - c) j (by omega) (by omega) hj)
  generalize hx1 : bits .xor .u8 (255 - c) (IntKind.u8.wrap (2 ^ j)) = x1 at HN HI
  rw [IntKind.wrap_u8] at hx1
  have HOK2 : Aside0 (octOk [c, x1]) := ⟨by unfold octOk; intro x hx; have := HI.out; simp at hx; omega⟩
  have HR2 := Aside0.mk (rd_bad c x1 (by have := HN.out; omega))
  clear hp hr hc hq2 hk HN HI
  obtain ⟨h01, h02⟩ := h0
  obtain ⟨h11, h12⟩ := h1
  go_enter Try.func4, Try.ntmps4
  go_wp2_with (first
    | (go_at_call 5; refine (alive_ok _).mono ?_; rintro e w1 ⟨rfl, HB1⟩)
    | (go_at_call 8; (with_reducible refine (put_ok _ _ _).mono ?_); rintro e w2 ⟨A2, c2, rfl, HO2, hn⟩; have HB2 := below_step HB1 hn; clear hn; rw [HC.out] at HO2)
    | (go_at_call 6; (with_reducible refine (read_ok _ _ _ [c, 255 - c] _ HO2.rds HOK.out (by decide)).mono ?_); rintro e w3 ⟨rfl, hn⟩; have HB3 := below_step HB2 hn; have HO3 := HO2.below hn; clear hn; rw [HR.out]; clear HO2; obtain ⟨g, rfl, hg1, hg2, hcell, hfrz, hput⟩ := HO3.elem (0 : Int) 1 (by decide); rw [show rdOf (0 : Int) [c, 255 - c] ((1 : Nat) : Int) = (255 - c) from rfl] at hcell; have hput := Aside0.mk hput)
    | (go_at_call 6; have HB4 := below_set (j := 1) (v := Value.int .u8 x1) HB3 (Nat.le_trans HB1.size hg1); have hr5 := (hput.out x1).rds; change Rds (Kd.int .u8) _ _ _ _ [c, x1] at hr5; (with_reducible refine (read_ok _ _ _ [c, x1] _ hr5 HOK2.out (by decide)).mono ?_); rintro e w5 ⟨rfl, hn⟩; have HB5 := below_step HB4 hn; clear hn; rw [HR2.out])
    | (go_at_call 10; (with_reducible refine (num_ok _ _).mono ?_); rintro e w' ⟨rfl, rfl⟩))
  go_ret
  exact ⟨rfl, HB5⟩


theorem walk (q line bit : Int) (W : World) (_h0 : (Lit.int .i64 q).wf = true) (_h1 : (Lit.int .i64 line).wf = true) (_h2 : (Lit.int .i64 bit).wf = true) :
    Calls Try.prog 4 #[.int .i64 q, .int .i64 line, .int .i64 bit] W fun e w' => e = .returned (.bool true) ∧ Below W.heap.size W w' := by
  by_cases h : (0 ≤ q ∧ q ≤ 8) ∧ (0 ≤ line ∧ line ≤ 1)
  · obtain ⟨hp, hr⟩ := rd_put q line h.1 h.2
    have hk := and15_i64 bit
    by_cases h8 : bits .and .i64 bit 15 < 8
    · exact back_in0 q line bit W h.1 h.2 h8
    · exact back_in1 q line bit W h.1 h.2 (by omega)
  · exact back_out q line bit W h

end Go.Proofs.Ytdeaeeihmdpcdaa.Back4
