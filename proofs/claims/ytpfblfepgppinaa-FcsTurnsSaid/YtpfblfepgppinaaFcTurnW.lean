/- A few bits side by side that are turned are always told: the walk. -/
import Derived.Test.YtpfblfepgppinaaFcE
namespace Go.Proofs.Ytpfblfepgppinaa.FcTurnW
open Go.RowKit Go.Proofs.YtpfblfepgppinaaW.PrintWords Go.Proofs.YtpfblfepgppinaaW.PrintLast Go.Proofs.YtpfblfepgppinaaW.PrintMore Go.Proofs.Ytpfblfepgppinaa.K Go.Proofs.Ytpfblfepgppinaa.FcP Go.Proofs.Ytpfblfepgppinaa.FcA Go.Proofs.Ytpfblfepgppinaa.FcB Go.Proofs.Ytpfblfepgppinaa.FcC Go.Proofs.Ytpfblfepgppinaa.FcR Go.Proofs.Ytpfblfepgppinaa.FcD Go.Proofs.Ytpfblfepgppinaa.FcE
set_option linter.unusedVariables false
set_option linter.unusedSimpArgs false
attribute [local go_sem] max2_int min2_int max_two min_two

theorem nat_append (l m : List Int) : nat (l ++ m) = nat l ++ nat m := by simp [nat]
theorem nat_byi (n x : Nat) : nat (byi n x) = bys n x := by
  unfold nat byi
  rw [List.map_map]
  conv => rhs; rw [← List.map_id (bys n x)]
  apply List.map_congr_left
  intro c _
  rfl
theorem both_b {l m : List Int} (h1 : ∀ x ∈ l, 0 ≤ x ∧ x ≤ 255) (h2 : ∀ x ∈ m, 0 ≤ x ∧ x ≤ 255) : ∀ x ∈ l ++ m, 0 ≤ x ∧ x ≤ 255 := by
  intro x hx
  rcases List.mem_append.1 hx with h | h
  · exact h1 x h
  · exact h2 x h
theorem nat_set (P : List Int) (j z : Nat) : nat (P.set j (z : Int)) = (nat P).set j z := by simp [nat, List.map_set]
theorem nat_getD (P : List Int) (j : Nat) (h : j < P.length) : (nat P).getD j 0 = (rd P j).toNat := by simp [nat, rd, h]
/-- P is P0 with some of i bits from k on turned: m tells which. -/
structure Tn (P0 P : List Int) (k i m : Nat) : Prop where
  len : P.length = P0.length
  b : ∀ x ∈ P, 0 ≤ x ∧ x ≤ 255
  val : val (nat P) = val (nat P0) ^^^ (m * 2 ^ k)
  lt : m < 2 ^ i
theorem Tn.start (P0 : List Int) (k : Nat) (hb : ∀ x ∈ P0, 0 ≤ x ∧ x ≤ 255) : Tn P0 P0 k 0 0 := ⟨rfl, hb, by simp, by simp⟩
theorem Tn.next {P0 P : List Int} {k i m : Nat} (h : Tn P0 P k i m) : Tn P0 P k (i + 1) m := ⟨h.len, h.b, h.val, by have := h.lt; rw [Nat.pow_succ]; omega⟩
theorem xor_pow (m i k : Nat) : (m * 2 ^ k) ^^^ 2 ^ (k + i) = (m ^^^ 2 ^ i) * 2 ^ k := by
  have h := Nat.shiftLeft_xor_distrib (a := m) (b := 2 ^ i) (i := k)
  rw [Nat.shiftLeft_eq, Nat.shiftLeft_eq, Nat.shiftLeft_eq] at h
  rw [h, Nat.pow_add, Nat.mul_comm (2 ^ k)]
theorem Tn.step {P0 P : List Int} {k i m : Nat} (h : Tn P0 P k i m) (j r : Nat) (hj : j < P.length) (hr : r < 8) (hjr : 8 * j + r = k + i) : Tn P0 (P.set j ((((rd P j).toNat ^^^ 2 ^ r : Nat)) : Int)) k (i + 1) (m ^^^ 2 ^ i) ∧ m ^^^ 2 ^ i ≠ 0 := by
  have hb := wf8 h.b j hj
  refine ⟨⟨by rw [List.length_set]; exact h.len, ?_, ?_, Nat.xor_lt_two_pow (by have := h.lt; rw [Nat.pow_succ]; omega) (by rw [Nat.pow_succ]; have : 0 < 2 ^ i := Nat.pow_pos (by omega); omega)⟩, xor_ne _ _ (by have := h.lt; omega)⟩
  · intro x hx
    rcases List.mem_or_eq_of_mem_set hx with hx | hx
    · exact h.b x hx
    · have : (rd P j).toNat ^^^ 2 ^ r < 2 ^ 8 := Nat.xor_lt_two_pow (by omega) (Nat.pow_lt_pow_right (by omega) hr)
      rw [hx]
      omega
  · rw [nat_set, ← nat_getD P j hj, val_set (nat P) j r (by simpa [nat] using hj), h.val, hjr, Nat.xor_assoc, xor_pow]
theorem xor_bit (y r : Nat) (hy : y < 256) (hr : r < 8) : bits .xor .u8 (y : Int) (2 ^ r % 256) = ((y ^^^ 2 ^ r : Nat) : Int) := by
  have h : r = 0 ∨ r = 1 ∨ r = 2 ∨ r = 3 ∨ r = 4 ∨ r = 5 ∨ r = 6 ∨ r = 7 := by omega
  rcases h with rfl | rfl | rfl | rfl | rfl | rfl | rfl | rfl
  · exact xor_u8 y 1 hy (by decide)
  · exact xor_u8 y 2 hy (by decide)
  · exact xor_u8 y 4 hy (by decide)
  · exact xor_u8 y 8 hy (by decide)
  · exact xor_u8 y 16 hy (by decide)
  · exact xor_u8 y 32 hy (by decide)
  · exact xor_u8 y 64 hy (by decide)
  · exact xor_u8 y 128 hy (by decide)
theorem told (l P : List Int) (wide : Bool) (k i m : Nat) (hl : ∀ x ∈ l, 0 ≤ x ∧ x ≤ 255) (T : Tn (l ++ tailL l wide) P k i m) (hi : i ≤ 16) (hm : m ≠ 0) (hk : k < 8 * (l.length + sizeT wide)) : tailL (P.take l.length) wide ≠ P.drop l.length := by
  intro he
  have hlen : P.length = l.length + sizeT wide := by rw [T.len, List.length_append, tailL_len]
  have hm2 : m < 2 ^ 16 := Nat.lt_of_lt_of_le T.lt (Nat.pow_le_pow_right (by omega) hi)
  have hv := T.val
  have hsplit : nat P = nat (P.take l.length) ++ nat (P.drop l.length) := by rw [← nat_append, List.take_append_drop]
  have hlt : ∀ c ∈ nat (P.take l.length), c < 256 := nat_lt (fun x hx => T.b x (List.mem_of_mem_take hx))
  have hdt : ∀ c ∈ nat (P.drop l.length), c < 256 := nat_lt (fun x hx => T.b x (List.mem_of_mem_drop hx))
  have ht : (nat (P.take l.length)).length = (nat l).length := by simp [nat]; omega
  have hd : (nat (P.drop l.length)).length = sizeT wide := by simp [nat]; omega
  have hnl : (nat l).length = l.length := by simp [nat]
  rw [hsplit] at hv
  cases wide
  · have e1 : nat (l ++ tailL l false) = nat l ++ bys 2 (sumN 33800 16 (nat l)) := by rw [nat_append]; unfold tailL; rw [if_neg (by simp), nat_byi]; rfl
    rw [e1] at hv
    refine turned_told 33800 15 2 (by decide) (by decide) (by decide) (by decide) (nat l) _ _ (nat_lt hl) hlt hdt hd ht k m (by rw [hnl]; simp only [sizeT] at hk; simp at hk; omega) hm (by omega) hv ?_
    rw [← he]
    unfold tailL
    rw [if_neg (by simp), nat_byi]
    rfl
  · have e1 : nat (l ++ tailL l true) = nat l ++ bys 4 (sumN 3988292384 32 (nat l)) := by rw [nat_append]; unfold tailL; rw [if_pos rfl, nat_byi]; rfl
    rw [e1] at hv
    refine turned_told 3988292384 31 4 (by decide) (by decide) (by decide) (by decide) (nat l) _ _ (nat_lt hl) hlt hdt hd ht k m (by rw [hnl]; simp only [sizeT] at hk; simp at hk; omega) hm (by omega) hv ?_
    rw [← he]
    unfold tailL
    rw [if_pos rfl, nat_byi]
    rfl
set_option maxHeartbeats 8000000 in
set_option maxRecDepth 100000 in
theorem num_ok (x : Int) (w : World) : Calls Try.prog 15 #[.int .i64 x] w fun e w' => e = .returned (.int .i64 x) ∧ w = w' := by
  go_enter Try.func15, Try.ntmps15
  go_wp2
  go_ret
  exact ⟨rfl, rfl⟩
set_option maxHeartbeats 8000000 in
set_option maxRecDepth 100000 in
theorem turn_in (A : Option Addr) (n c : Nat) (l : List Int) (wide : Bool) (at_ mask : Int) (w : World) (hr : Rds (Kd.int .u8) w A n c l) (hl : ∀ x ∈ l, 0 ≤ x ∧ x ≤ 255) (hn : n ≤ 300) (ha : 0 ≤ at_) (ha2 : at_ ≤ 9223372036854775807) (hb : ¬ bits .and .i64 mask 65535 = 0) :
    Calls Try.prog 7 #[.slice A n c, .bool wide, .int .i64 at_, .int .i64 mask] w fun e w' => e = .returned (.bool true) ∧ Below w.heap.size w w' := by
  have CP := Aside0.mk (fun w' hb => rput_ok A n c l wide w' (hr.below hb) hl (by omega))
  have hs := sizeT_le wide
  obtain ⟨L, hL⟩ : ∃ L, L = (l ++ tailL l wide).length := ⟨_, rfl⟩
  have hL2 : L = n + sizeT wide := by rw [hL, List.length_append, tailL_len, hr.len]
  have hL3 : 1 ≤ sizeT wide := by unfold sizeT; split <;> omega
  have LL := Aside0.mk hL.symm
  have hL4 : 1 ≤ L := by omega
  have hL5 : L ≤ 400 := by omega
  have bm : (bits .and .i64 mask 65535 == 0) = false := beq_eq_false_iff_ne.mpr hb
  have HL2 := Aside0.mk hL2
  obtain ⟨k, ek⟩ : ∃ k : Nat, at_ % (8 * (L : Int)) = (k : Int) := ⟨(at_ % (8 * (L : Int))).toNat, by have := Int.emod_nonneg at_ (show (8 * (L : Int)) ≠ 0 by omega); omega⟩
  have hk8 : k < 8 * L := by have := Int.emod_lt_of_pos at_ (show 0 < (8 * (L : Int)) by omega); omega
  have PB := Aside0.mk (both_b hl (tailL_b l wide))
  have HLB := Aside0.mk hl
  have HLN := Aside0.mk hr.len
  clear hr hl hb hL hL2 hL3 hs
  go_enter Try.func7, Try.ntmps7
  go_wp2_with (first
      | (go_at_call 9; (with_reducible refine (alive_ok _).mono ?_); rintro e w1 ⟨rfl, hb1⟩; have HB1 := Aside0.mk hb1; clear hb1)
      | (go_at_call 16; (with_reducible refine (CP.out _ HB1.out).mono ?_); rintro e w2 ⟨v2, rfl, ho, hb⟩; obtain ⟨A2, c2, hv2, _⟩ := ho.sliceN LL.out; subst hv2; have O2 := Aside0.mk ho; have HB2 := Aside0.mk (below_step HB1.out hb); clear ho hb))
  have I0 := Aside0.mk (Tn.start (l ++ tailL l wide) k PB.out)
  rw [ek]
  clear PB ek
  go_loopg [12, 13] 17 (fun kq v12 v13 w' => ∃ (i m : Nat) (P : List Int) (tb : Bool), v12 = .bool tb ∧ v13 = .int .i64 i ∧ i ≤ 16 ∧ kq = 17 - i ∧ Aside0 (tb = decide (m ≠ 0)) ∧ Aside0 (Tn (l ++ tailL l wide) P k i m) ∧ Aside0 (Own (Kd.int .u8) 5 w.heap.size w' (.slice A2 L c2) P) ∧ Aside0 (Below w.heap.size w w'))
  case atStart => exact ⟨0, 0, _, false, rfl, by simp, by omega, by omega, ⟨by simp⟩, I0, ⟨O2.out.lower HB1.out.size⟩, HB2⟩
  case round =>
    clear I0 O2 HB2 HB1 CP
    obtain ⟨i, m, P, tb, rfl, rfl, hi, hkq, TB, T3, O3, HB3⟩ := hrel
    have PL : Aside0 (P.length = L) := ⟨T3.out.len.trans LL.out⟩
    by_cases h16 : i < 16
    · by_cases hkl : (k : Int) + (i : Int) < 8 * (L : Int)
      · have ej : ((k : Int) + (i : Int)) / 8 = (((k + i) / 8 : Nat) : Int) := by omega
        have er : ((k : Int) + (i : Int)) % 8 = (((k + i) % 8 : Nat) : Int) := by omega
        have hj : (k + i) / 8 < L := by omega
        have hr8 : (k + i) % 8 < 8 := by omega
        have hjr : 8 * ((k + i) / 8) + (k + i) % 8 = k + i := by omega
        have TS := Aside0.mk (T3.out.step ((k + i) / 8) ((k + i) % 8) (by rw [PL.out]; exact hj) hr8 hjr)
        obtain ⟨g, hA, hg0, hg1, p0, f0, HS⟩ := Own.elem (enc := Value.int .u8) (h1 := fun _ => rfl) (0 : Int) O3.out ((k + i) / 8) hj
        clear hjr
        generalize (k + i) / 8 = j at *
        generalize (k + i) % 8 = r at *
        subst hA
        have hb8 := wf8 T3.out.b j (by rw [PL.out]; exact hj)
        obtain ⟨y, hy⟩ : ∃ y : Nat, rd P j = (y : Int) := ⟨(rd P j).toNat, by omega⟩
        have hy2 : y < 256 := by omega
        have hy3 : rdOf (0 : Int) P (j : Int) = (y : Int) := hy
        rw [hy3] at p0
        have q1 : bits .xor .u8 (y : Int) (2 ^ r % 256) = ((y ^^^ 2 ^ r : Nat) : Int) := xor_bit y r hy2 hr8
        have TSy := TS.out
        rw [hy, Int.toNat_natCast] at TSy
        have TS := Aside0.mk TSy
        have HS := Aside0.mk HS
        obtain ⟨X, hX⟩ : ∃ X, bits .and .i64 (mask / 2 ^ i) 1 = X := ⟨_, rfl⟩
        clear TSy hy hy3 hb8 hy2
        generalize y ^^^ 2 ^ r = z at q1 TS
        by_cases hx1 : X = 1
        · subst hx1
          go_wp2_with fail
          go_roundg (16 - i)
          case measure => omega
          case rel => exact ⟨i + 1, m ^^^ 2 ^ i, _, true, rfl, by go_num, by omega, by omega, ⟨by simp [TS.out.2]⟩, ⟨TS.out.1⟩, ⟨HS.out _⟩, ⟨Fr.above HB3.out HB3.out.size (Fr.put (Fr.refl (fun x => x = g) wr) j (.int .u8 z)) (fun a ha e => by omega)⟩⟩
        · have bx : (X == 1) = false := beq_eq_false_iff_ne.mpr hx1
          clear hx1
          go_wp2_with fail
          go_roundg (16 - i)
          case measure => omega
          case rel => exact ⟨i + 1, m, P, tb, rfl, by go_num, by omega, by omega, TB, ⟨T3.out.next⟩, O3, HB3⟩
      · have hge : 8 * (L : Int) ≤ (k : Int) + (i : Int) := by omega
        clear hkl
        have TD := Aside0.mk (fun hm => told l P wide k _ m HLB.out T3.out (by omega) hm (by rw [← HLN.out, ← HL2.out]; exact hk8))
        rw [← HLN.out] at TD
        by_cases he : tailL (P.take n) wide = P.drop n
        · have HE := Aside0.mk he
          clear he
          cases tb
          · go_wp2_with (first
      | (go_at_call 13; have hcall := check_good A2 L c2 n P wide _ O3.out.rds T3.out.b (by omega) HL2.out HE.out; (with_reducible refine hcall.mono ?_); clear hcall; rintro e w5 ⟨v5, rfl, ho, hb⟩; have HB5 := Aside0.mk (below_step HB3.out hb); clear ho hb)
      | (go_at_call 15; (with_reducible refine (num_ok _ _).mono ?_); rintro e w' ⟨rfl, rfl⟩))
            go_ret
            exact ⟨rfl, HB5.out⟩
          · exact absurd HE.out (TD.out (by have := TB.out; simpa using this))
        · have HE := Aside0.mk he
          clear he
          cases tb
          · go_wp2_with (first
      | (go_at_call 13; have hcall := check_bad A2 L c2 n P wide _ O3.out.rds T3.out.b (by omega) HL2.out HE.out; (with_reducible refine hcall.mono ?_); clear hcall; rintro e w5 ⟨rfl, hb⟩; have HB5 := Aside0.mk (below_step HB3.out hb); clear hb)
      | (go_at_call 15; (with_reducible refine (num_ok _ _).mono ?_); rintro e w' ⟨rfl, rfl⟩))
            go_ret
            exact ⟨rfl, HB5.out⟩
          · go_wp2_with (first
      | (go_at_call 13; have hcall := check_bad A2 L c2 n P wide _ O3.out.rds T3.out.b (by omega) HL2.out HE.out; (with_reducible refine hcall.mono ?_); clear hcall; rintro e w5 ⟨rfl, hb⟩; have HB5 := Aside0.mk (below_step HB3.out hb); clear hb)
      | (go_at_call 15; (with_reducible refine (num_ok _ _).mono ?_); rintro e w' ⟨rfl, rfl⟩))
            go_ret
            exact ⟨rfl, HB5.out⟩
    · obtain rfl : i = 16 := by omega
      have TD := Aside0.mk (fun hm => told l P wide k _ m HLB.out T3.out (by omega) hm (by rw [← HLN.out, ← HL2.out]; exact hk8))
      rw [← HLN.out] at TD
      by_cases he : tailL (P.take n) wide = P.drop n
      · have HE := Aside0.mk he
        clear he
        cases tb
        · go_wp2_with (first
      | (go_at_call 13; have hcall := check_good A2 L c2 n P wide _ O3.out.rds T3.out.b (by omega) HL2.out HE.out; (with_reducible refine hcall.mono ?_); clear hcall; rintro e w5 ⟨v5, rfl, ho, hb⟩; have HB5 := Aside0.mk (below_step HB3.out hb); clear ho hb)
      | (go_at_call 15; (with_reducible refine (num_ok _ _).mono ?_); rintro e w' ⟨rfl, rfl⟩))
          go_ret
          exact ⟨rfl, HB5.out⟩
        · exact absurd HE.out (TD.out (by have := TB.out; simpa using this))
      · have HE := Aside0.mk he
        clear he
        cases tb
        · go_wp2_with (first
      | (go_at_call 13; have hcall := check_bad A2 L c2 n P wide _ O3.out.rds T3.out.b (by omega) HL2.out HE.out; (with_reducible refine hcall.mono ?_); clear hcall; rintro e w5 ⟨rfl, hb⟩; have HB5 := Aside0.mk (below_step HB3.out hb); clear hb)
      | (go_at_call 15; (with_reducible refine (num_ok _ _).mono ?_); rintro e w' ⟨rfl, rfl⟩))
          go_ret
          exact ⟨rfl, HB5.out⟩
        · go_wp2_with (first
      | (go_at_call 13; have hcall := check_bad A2 L c2 n P wide _ O3.out.rds T3.out.b (by omega) HL2.out HE.out; (with_reducible refine hcall.mono ?_); clear hcall; rintro e w5 ⟨rfl, hb⟩; have HB5 := Aside0.mk (below_step HB3.out hb); clear hb)
      | (go_at_call 15; (with_reducible refine (num_ok _ _).mono ?_); rintro e w' ⟨rfl, rfl⟩))
          go_ret
          exact ⟨rfl, HB5.out⟩

set_option maxHeartbeats 8000000 in
set_option maxRecDepth 100000 in
theorem turn_out (A : Option Addr) (n c : Nat) (l : List Int) (wide : Bool) (at_ mask : Int) (w : World) (hr : Rds (Kd.int .u8) w A n c l) (hl : ∀ x ∈ l, 0 ≤ x ∧ x ≤ 255) (hm : n * 1 ≤ 140737488351232) (h : 300 < n ∨ (n ≤ 300 ∧ at_ < 0) ∨ (n ≤ 300 ∧ ¬ at_ < 0 ∧ bits .and .i64 mask 65535 = 0)) :
    Calls Try.prog 7 #[.slice A n c, .bool wide, .int .i64 at_, .int .i64 mask] w fun e w' => e = .returned (.bool true) ∧ Below w.heap.size w w' := by
  have CP := Aside0.mk (fun w' hb => rput_ok A n c l wide w' (hr.below hb) hl hm)
  obtain ⟨L, hL⟩ : ∃ L, L = (l ++ tailL l wide).length := ⟨_, rfl⟩
  have LL := Aside0.mk hL.symm
  clear hr hl hL
  rcases h with h | ⟨h0, h⟩ | ⟨h0, h1, h⟩
  · have h2 : (300 : Int) < (n : Int) := by omega
    clear h
    go_enter Try.func7, Try.ntmps7
    go_wp2_with (first
      | (go_at_call 9; (with_reducible refine (alive_ok _).mono ?_); rintro e w1 ⟨rfl, hb1⟩; have HB1 := Aside0.mk hb1; clear hb1)
      | (go_at_call 16; (with_reducible refine (CP.out _ HB1.out).mono ?_); rintro e w2 ⟨v2, rfl, ho, hb⟩; obtain ⟨A2, c2, hv2, _⟩ := ho.sliceN LL.out; subst hv2; have HB2 := Aside0.mk (below_step HB1.out hb); clear ho hb))
    go_ret
    exact ⟨rfl, HB2.out⟩
  · clear hm
    go_enter Try.func7, Try.ntmps7
    go_wp2_with (first
      | (go_at_call 9; (with_reducible refine (alive_ok _).mono ?_); rintro e w1 ⟨rfl, hb1⟩; have HB1 := Aside0.mk hb1; clear hb1)
      | (go_at_call 16; (with_reducible refine (CP.out _ HB1.out).mono ?_); rintro e w2 ⟨v2, rfl, ho, hb⟩; obtain ⟨A2, c2, hv2, _⟩ := ho.sliceN LL.out; subst hv2; have HB2 := Aside0.mk (below_step HB1.out hb); clear ho hb))
    go_ret
    exact ⟨rfl, HB2.out⟩
  · have bm : (bits .and .i64 mask 65535 == 0) = true := beq_iff_eq.mpr h
    clear hm h
    go_enter Try.func7, Try.ntmps7
    go_wp2_with (first
      | (go_at_call 9; (with_reducible refine (alive_ok _).mono ?_); rintro e w1 ⟨rfl, hb1⟩; have HB1 := Aside0.mk hb1; clear hb1)
      | (go_at_call 16; (with_reducible refine (CP.out _ HB1.out).mono ?_); rintro e w2 ⟨v2, rfl, ho, hb⟩; obtain ⟨A2, c2, hv2, _⟩ := ho.sliceN LL.out; subst hv2; have HB2 := Aside0.mk (below_step HB1.out hb); clear ho hb))
    go_ret
    exact ⟨rfl, HB2.out⟩
theorem walk (a0 : Option Addr) (len0 cap0 : Nat) (z0 : List Int) (a1 : Bool) (a2 a3 : Int) (W : World) (w0 : IsRow .u8 W a0 len0 cap0 z0) (_y0 : len0 * 1 ≤ 140737488351232) (_h2 : (Lit.int .i64 a2).wf = true) (_h3 : (Lit.int .i64 a3).wf = true) :
    Calls Try.prog 7 #[.slice a0 len0 cap0, .bool a1, .int .i64 a2, .int .i64 a3] W fun e w' => e = .returned (.bool true) ∧ Below W.heap.size W w' := by
  obtain ⟨l, hr, hm, hw⟩ := rds_of_row w0
  have hu : a2 ≤ 9223372036854775807 := by
    have h2 : IntKind.i64.max = 9223372036854775807 := by decide
    simp [Lit.wf, h2] at _h2
    exact _h2.2
  by_cases h : 300 < len0 ∨ (len0 ≤ 300 ∧ a2 < 0) ∨ (len0 ≤ 300 ∧ ¬ a2 < 0 ∧ bits .and .i64 a3 65535 = 0)
  · exact turn_out a0 len0 cap0 l a1 a2 a3 W hr (fun x hx => wf_u8 (hw x hx)) _y0 h
  · have h1 : len0 ≤ 300 := by rcases Nat.lt_or_ge 300 len0 with g | g; exact absurd (.inl g) h; exact g
    have h2 : ¬ a2 < 0 := fun g => h (.inr (.inl ⟨h1, g⟩))
    have h3 : ¬ bits .and .i64 a3 65535 = 0 := fun g => h (.inr (.inr ⟨h1, h2, g⟩))
    exact turn_in a0 len0 cap0 l a1 a2 a3 W hr (fun x hx => wf_u8 (hw x hx)) h1 (by omega) hu h3

end Go.Proofs.Ytpfblfepgppinaa.FcTurnW
