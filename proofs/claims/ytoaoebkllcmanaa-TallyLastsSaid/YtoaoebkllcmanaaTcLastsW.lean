/- The law TallyLasts. -/
import Derived.Test.YtoaoebkllcmanaaTcA
import Derived.Test.YtoaoebkllcmanaaOpenB
namespace Go.Proofs.Ytoaoebkllcmanaa.TcLastsW
open Go.RowKit Go.Proofs.YtoaoebkllcmanaaW.PrintWords Go.Proofs.YtoaoebkllcmanaaW.PrintLast Go.Proofs.YtoaoebkllcmanaaW.PrintMore Go.Proofs.Ytoaoebkllcmanaa.K Go.Proofs.Ytoaoebkllcmanaa.TaP Go.Proofs.Ytoaoebkllcmanaa.TaA Go.Proofs.Ytoaoebkllcmanaa.TaB Go.Proofs.Ytoaoebkllcmanaa.TaR Go.Proofs.Ytoaoebkllcmanaa.TcA Go.Proofs.Ytoaoebkllcmanaa.OpenB
set_option linter.unusedVariables false
set_option linter.unusedSimpArgs false
attribute [local go_sem] max2_int min2_int max_two min_two

/-- What a window of n keeps of the first i notes. -/
def kept (n : Nat) (l : List Bool) : Nat → List Bool
  | 0 => []
  | i + 1 => keep n (kept n l i) (l.getD i false)
theorem kept_is (n : Nat) (hn : 1 ≤ n) (l : List Bool) : ∀ i, i ≤ l.length → kept n l i = (l.take i).drop (i - n) := by
  intro i
  induction i with
  | zero => intro _; simp [kept]
  | succ i ih =>
    intro hi
    have e := ih (by omega)
    have hlen : (kept n l i).length = i - (i - n) := by rw [e]; simp; omega
    rw [kept, keep, hlen, e]
    have ht : l.take (i + 1) = l.take i ++ [l.getD i false] := by
      rw [List.take_succ_eq_append_getElem (by omega)]
      simp [List.getD, show i < l.length by omega]
    rw [ht]
    by_cases h : i - (i - n) = n
    · rw [if_pos h, List.tail_drop, show i + 1 - n = i - n + 1 by omega, List.drop_append_of_le_length (by simp; omega)]
    · rw [if_neg h, show i - n = 0 by omega, show i + 1 - n = 0 by omega]
      simp
/-- The last j of them. -/
theorem last_step (l : List Bool) (j : Nat) (h : j < l.length) : l.drop (l.length - (j + 1)) = l.getD (l.length - (j + 1)) false :: l.drop (l.length - j) := by
  rw [List.drop_eq_getElem_cons (by omega)]
  congr 1
  · simp [List.getD, show l.length - (j + 1) < l.length by omega]
  · congr 1
    omega
set_option maxHeartbeats 8000000 in
set_option maxRecDepth 100000 in
theorem lasts_in (m : Nat) (A : Option Addr) (n c0 : Nat) (l : List Bool) (w : World) (hr : IsBools w A n c0 l) (h1 : 1 ≤ m) (h2 : m ≤ 1000) (hn : n ≤ 200) :
    Calls Try.prog 3 #[.int .i64 m, .slice A n c0] w fun e w' => e = .returned (.bool true) ∧ Below w.heap.size w w' := by
  have HR := Aside0.mk hr
  have hln := hr.len.1
  have SZ : Aside0 (sizeW (m : Int) = m) := ⟨by unfold sizeW; rw [if_neg (by omega), if_neg (by omega)]; simp⟩
  have KI := Aside0.mk (kept_is m h1 l)
  have LS := Aside0.mk (last_step l)
  rw [hln] at KI LS
  have HLN := Aside0.mk hln
  clear hr hln
  go_enter Try.func3, Try.ntmps3
  go_wp2_with (first
      | (go_at_call 6; have hcall := alive_ok w; (with_reducible refine hcall.mono ?_); clear hcall; rintro e w1 ⟨rfl, hb⟩; have B1 := Aside0.mk hb; clear hb)
      | (go_at_call 7; (with_reducible refine (v_new m _).mono ?_); rintro e w2 ⟨g, c, rfl, hg, hc, i, hb⟩; rw [SZ.out] at i; have HG := Aside0.mk (Nat.le_trans B1.out.size hg); have HC := Aside0.mk (Nat.le_trans B1.out.size hc); have I2 := Aside0.mk i; have B2 := Aside0.mk (below_step B1.out hb); clear hg hc i hb))
  go_loopg [7] (n + 1) (fun kq v7 w' => ∃ (i : Nat), v7 = .int .i64 i ∧ i ≤ n ∧ kq = n + 1 - i ∧ Aside0 (IsV w' g c m (kept m l i)) ∧ Aside0 (Below w.heap.size w w'))
  case atStart => exact ⟨0, rfl, by omega, by omega, I2, B2⟩
  case round =>
    clear I2 B2
    obtain ⟨i, rfl, hi, hkq, I3, B3⟩ := hrel
    by_cases hlt : i < n
    · obtain ⟨ad, hA, x0⟩ := (HR.out.below B3.out).at_ i hlt
      subst hA
      have hkl : (kept m l i).length ≤ 200 := by rw [KI.out i hi]; simp; omega
      obtain ⟨x, hx⟩ : ∃ x, x = l.getD i false := ⟨_, rfl⟩
      have EK : Aside0 (keep m (kept m l i) x = kept m l (i + 1)) := ⟨by rw [hx]; rfl⟩
      rw [← hx] at x0
      clear hx
      go_wp2_with (first
      | (go_at_call 8; (with_reducible refine (v_note g c m (kept m l i) x hkl _ I3.out).mono ?_); rintro e w4 ⟨rfl, i4, f4⟩; rw [EK.out] at i4; have I4 := Aside0.mk i4; have B4 := Aside0.mk (Fr.above B3.out B3.out.size f4 (fun i hi he => by have := HG.out; have := HC.out; omega)); clear i4 f4 I3 B3))
      go_roundg (n - i)
      case measure => omega
      case rel => exact ⟨i + 1, by go_num, by omega, by omega, I4, B4⟩
    · obtain rfl : i = n := by omega
      have e0 : IntKind.i64.wrap ((i : Int) - 1) = (i : Int) - 1 := w64 (by omega) (by omega)
      go_wp2_with fail
      go_loopg [8, 9, 10] (i + 1) (fun kq v8 v9 v10 w' => ∃ (j a b : Nat), v10 = .int .i64 ((i : Int) - 1 - (j : Int)) ∧ v8 = .int .i64 a ∧ v9 = .int .i64 b ∧ j ≤ i ∧ j ≤ m ∧ kq = i + 1 - j ∧ a + b = j ∧ Aside0 (a = (l.drop (i - j)).count true) ∧ Aside0 (b = (l.drop (i - j)).count false) ∧ w' = wr)
      case atStart => exact ⟨0, 0, 0, by simp, rfl, rfl, by omega, by omega, by omega, by omega, ⟨by rw [Nat.sub_zero, List.drop_of_length_le (by rw [HLN.out]; exact Nat.le_refl _)]; rfl⟩, ⟨by rw [Nat.sub_zero, List.drop_of_length_le (by rw [HLN.out]; exact Nat.le_refl _)]; rfl⟩, rfl⟩
      case round =>
        obtain ⟨j, a, b, rfl, rfl, rfl, hj, hjm, hkq2, hab, CA, CB, rfl⟩ := hrel
        have e3 : IntKind.i64.wrap ((a : Int) + (b : Int)) = (a : Int) + (b : Int) := w64 (by omega) (by omega)
        by_cases hc : j < i ∧ j < m
        · obtain ⟨ad, hA, x0⟩ := (HR.out.below B3.out).at_ (i - (j + 1)) (by omega)
          subst hA
          have hs := LS.out j hc.1
          obtain ⟨x, hx⟩ : ∃ x, x = l.getD (i - (j + 1)) false := ⟨_, rfl⟩
          rw [← hx] at x0 hs
          obtain ⟨q, hq⟩ : ∃ q : Nat, q = i - (j + 1) := ⟨_, rfl⟩
          have eq : (i : Int) - 1 - (j : Int) = (q : Int) := by omega
          have eq2 : (i : Int) - 1 - ((j + 1 : Nat) : Int) = (q : Int) - 1 := by omega
          have e4 : IntKind.i64.wrap ((q : Int) - 1) = (q : Int) - 1 := w64 (by omega) (by omega)
          have e5 : IntKind.i64.wrap ((a : Int) + 1) = (a : Int) + 1 := w64 (by omega) (by omega)
          have e6 : IntKind.i64.wrap ((b : Int) + 1) = (b : Int) + 1 := w64 (by omega) (by omega)
          have g2 : (a : Int) + (b : Int) < (m : Int) := by omega
          have hqn : q < i := by omega
          rw [← hq] at x0
          rw [eq]
          have HS := Aside0.mk hs
          have EQ2 := Aside0.mk eq2
          clear hs hx eq eq2 hq
          cases x
          · go_wp2_with fail
            go_roundg (i - j)
            case measure => omega
            case rel => exact ⟨j + 1, a, b + 1, by rw [EQ2.out], rfl, by go_num, by omega, by omega, by omega, by omega, ⟨by rw [HS.out, CA.out]; simp⟩, ⟨by rw [HS.out, CB.out]; simp⟩, rfl⟩
          · go_wp2_with fail
            go_roundg (i - j)
            case measure => omega
            case rel => exact ⟨j + 1, a + 1, b, by rw [EQ2.out], by go_num, rfl, by omega, by omega, by omega, by omega, ⟨by rw [HS.out, CA.out]; simp⟩, ⟨by rw [HS.out, CB.out]; simp⟩, rfl⟩
        · have KE : kept m l i = l.drop (i - j) := by
            rw [KI.out i (Nat.le_refl _), show i - m = i - j by omega]
            rw [List.take_of_length_le (by rw [HLN.out]; exact Nat.le_refl _)]
          have SA : Aside0 ((kept m l i).count true = a ∧ (kept m l i).count false = b) := ⟨by rw [KE, ← CA.out, ← CB.out]; exact ⟨rfl, rfl⟩⟩
          have oa : (FloatKind.f64.format.order (fl a) (fl a) == some .eq) = true := by rw [ordE a (by omega)]; rfl
          have ob : (FloatKind.f64.format.order (fl b) (fl b) == some .eq) = true := by rw [ordE b (by omega)]; rfl
          have HAB : Aside0 (a ≤ 4294967295 ∧ b ≤ 4294967295) := ⟨by omega⟩
          by_cases hji : j = i
          · subst hji
            have eq : (j : Int) - 1 - (j : Int) = -1 := by omega
            rw [eq]
            clear KE eq hc
            go_wp2_with (first
      | (go_at_call 9; (with_reducible refine (v_sum g c m _ _ I3.out).mono ?_); rintro e wK ⟨rfl, rfl⟩; rw [SA.out.1, SA.out.2])
      | (go_at_call 10; (with_reducible refine (of_s a b HAB.out.1 HAB.out.2 _).mono ?_); rintro e wK ⟨rfl, rfl⟩))
            first | go_ret | go_ret2 | ((try simp only [Exit.inBlock, Exit.then]); refine bodyPost_ret (results_tmp3 rfl _ _ _) rfl ?_) | go_end0 | refine bodyPost_ret0 rfl rfl ?_
            exact ⟨rfl, B3.out⟩
          · have g2 : ¬ (a : Int) + (b : Int) < (m : Int) := by omega
            have g3 : 0 ≤ (i : Int) - 1 - (j : Int) := by omega
            clear KE hc
            go_wp2_with (first
      | (go_at_call 9; (with_reducible refine (v_sum g c m _ _ I3.out).mono ?_); rintro e wK ⟨rfl, rfl⟩; rw [SA.out.1, SA.out.2])
      | (go_at_call 10; (with_reducible refine (of_s a b HAB.out.1 HAB.out.2 _).mono ?_); rintro e wK ⟨rfl, rfl⟩))
            first | go_ret | go_ret2 | ((try simp only [Exit.inBlock, Exit.then]); refine bodyPost_ret (results_tmp3 rfl _ _ _) rfl ?_) | go_end0 | refine bodyPost_ret0 rfl rfl ?_
            exact ⟨rfl, B3.out⟩
set_option maxHeartbeats 8000000 in
set_option maxRecDepth 100000 in
theorem lasts_out (m : Int) (A : Option Addr) (n c0 : Nat) (w : World) (h : ¬ (1 ≤ m ∧ m ≤ 1000 ∧ n ≤ 200)) (hm : n ≤ 9223372036854775807) :
    Calls Try.prog 3 #[.int .i64 m, .slice A n c0] w fun e w' => e = .returned (.bool true) ∧ Below w.heap.size w w' := by
  have key : m < 1 ∨ (¬ m < 1 ∧ m > 1000) ∨ (¬ m < 1 ∧ ¬ m > 1000 ∧ (200 : Int) < (n : Int)) := by omega
  clear h
  rcases key with h1 | ⟨h1, h2⟩ | ⟨h1, h2, h3⟩
  all_goals
    go_enter Try.func3, Try.ntmps3
    go_wp2_with (first
      | (go_at_call 6; have hcall := alive_ok w; (with_reducible refine hcall.mono ?_); clear hcall; rintro e w1 ⟨rfl, hb⟩; have B1 := Aside0.mk hb; clear hb))
    first | go_ret | go_ret2 | ((try simp only [Exit.inBlock, Exit.then]); refine bodyPost_ret (results_tmp3 rfl _ _ _) rfl ?_) | go_end0 | refine bodyPost_ret0 rfl rfl ?_
    exact ⟨rfl, B1.out⟩
theorem walk (a0 : Int) (a1 : Option Addr) (len1 cap1 : Nat) (z1 : List Bool) (W : World) (w0 : (Lit.int .i64 a0).wf = true) (w1 : IsBools W a1 len1 cap1 z1) :
    Calls Try.prog 3 #[.int .i64 a0, .slice a1 len1 cap1] W fun e W' => e = .returned (.bool true) ∧ Below W.heap.size W W' := by
  by_cases h : 1 ≤ a0 ∧ a0 ≤ 1000 ∧ len1 ≤ 200
  · obtain ⟨m, rfl⟩ : ∃ n : Nat, a0 = n := ⟨a0.toNat, by omega⟩
    exact lasts_in m a1 len1 cap1 z1 W w1 (by omega) (by omega) h.2.2
  · exact lasts_out a0 a1 len1 cap1 W h w1.len.2

end Go.Proofs.Ytoaoebkllcmanaa.TcLastsW
