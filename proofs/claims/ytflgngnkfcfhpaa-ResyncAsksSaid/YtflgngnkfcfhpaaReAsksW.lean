/- An end that nobody answers asks again and again: the walk. -/
import Derived.Test.YtflgngnkfcfhpaaReF
namespace Go.Proofs.Ytflgngnkfcfhpaa.ReAsksW
open Go.RowKit Go.Proofs.YtflgngnkfcfhpaaW.PrintWords Go.Proofs.YtflgngnkfcfhpaaW.PrintLast Go.Proofs.YtflgngnkfcfhpaaW.PrintMore Go.Proofs.Ytflgngnkfcfhpaa.K Go.Proofs.Ytflgngnkfcfhpaa.ReP Go.Proofs.Ytflgngnkfcfhpaa.ReA Go.Proofs.Ytflgngnkfcfhpaa.ReB Go.Proofs.Ytflgngnkfcfhpaa.ReC Go.Proofs.Ytflgngnkfcfhpaa.ReD Go.Proofs.Ytflgngnkfcfhpaa.ReF
set_option linter.unusedVariables false
set_option linter.unusedSimpArgs false
attribute [local go_sem] max2_int min2_int max_two min_two

attribute [local go_sem] eq39
def stE (f a : Int) (i : Nat) : En := if (i : Int) < f then ⟨f, a, 1, 1, f - i, []⟩ else ⟨f, a, 2, 1, a, [(1, 1)]⟩
def endE (f a m : Int) : En := ⟨f, a, 2, 1, a - m % a, List.replicate ((m / a).toNat + 1) (1, 1)⟩
theorem start_eq (f a : Int) (h1 : 1 ≤ f) (h2 : f ≤ 50) (h3 : 1 ≤ a) (h4 : a ≤ 100) : failE (newE f a) = stE f a 0 := by
  have e1 : cutQ f 1 1000 = f := by unfold cutQ; (repeat' split) <;> omega
  have e2 : cutQ a 1 1048576 = a := by unfold cutQ; (repeat' split) <;> omega
  unfold stE failE newE
  rw [if_pos (by omega), e1, e2]
  simp
theorem note_eq (f a : Int) (i : Nat) (h : (i : Int) < f) : noteE (stE f a i) true = stE f a (i + 1) := by
  unfold noteE
  have es : stE f a i = ⟨f, a, 1, 1, f - i, []⟩ := by unfold stE; rw [if_pos h]
  rw [es]
  simp only [noteL]
  rw [if_neg (by simp)]
  simp only [if_true]
  by_cases hz : f - (i : Int) - 1 = 0
  · rw [if_pos hz]
    unfold stE
    rw [if_neg (by omega)]
    rfl
  · rw [if_neg hz]
    unfold stE
    rw [if_pos (by omega)]
    simp [leftE]
    omega
theorem stE_ok (f a : Int) (i : Nat) (h1 : 1 ≤ f) (h2 : f ≤ 50) (h3 : 1 ≤ a) (h4 : a ≤ 100) : Ok (stE f a i) := by
  unfold stE
  split <;> (refine ⟨?_, ?_, ?_, ?_, ?_, ?_, ?_, ?_, ?_⟩ <;> simp <;> omega)
theorem stE_end (f a : Int) (i : Nat) (h : ¬ (i : Int) < f) : stE f a i = ⟨f, a, 2, 1, a, [(1, 1)]⟩ := by unfold stE; rw [if_neg h]
theorem pass_eq (f a m : Int) (h3 : 1 ≤ a) (h0 : 0 ≤ m) (h1 : m ≤ 1000) : passE ⟨f, a, 2, 1, a, [(1, 1)]⟩ m = endE f a m := by
  have e1 : passN m = m := by unfold passN cutQ; (repeat' split) <;> omega
  have hq : 0 ≤ m / a := Int.ediv_nonneg h0 (by omega)
  have hle : m / a ≤ m := Int.ediv_le_self a h0
  have hr := Int.emod_nonneg m (show a ≠ 0 by omega)
  have hr2 := Int.emod_lt_of_pos m (show 0 < a by omega)
  have hd : ((m / a).toNat : Int) * a + m % a = m := by rw [Int.toNat_of_nonneg hq, Int.mul_comm]; exact Int.mul_ediv_add_emod m a
  have h := passL_asks (m / a).toNat ((passN m).toNat + 1) ⟨f, a, 2, 1, a, [(1, 1)]⟩ (m % a) rfl rfl hr hr2 (by rw [e1]; omega)
  simp only [hd] at h
  unfold passE
  rw [if_neg (by simp), e1]
  rw [e1] at h
  rw [h]
  simp [leftE, endE, List.replicate_succ]
theorem endE_ok (f a m : Int) (h1 : 1 ≤ f) (h2 : f ≤ 50) (h3 : 1 ≤ a) (h4 : a ≤ 100) : Ok (endE f a m) := by
  have hr := Int.emod_nonneg m (show a ≠ 0 by omega)
  have hr2 := Int.emod_lt_of_pos m (show 0 < a by omega)
  unfold endE
  refine ⟨?_, ?_, ?_, ?_, ?_, ?_, ?_, ?_, ?_⟩ <;> simp <;> omega
theorem endE_len (f a m : Int) : (endE f a m).out.length = (m / a).toNat + 1 := by simp [endE]
theorem endE_at (f a m : Int) (i : Nat) (h : i < (m / a).toNat + 1) : (endE f a m).out.getD i (0, 0) = (1, 1) := by
  have e : (endE f a m).out = List.replicate ((m / a).toNat + 1) (1, 1) := rfl
  rw [e, List.getD_eq_getElem?_getD, List.getElem?_replicate, if_pos h]
  rfl
set_option maxHeartbeats 8000000 in
set_option maxRecDepth 100000 in
theorem asks_in (f a m : Int) (w : World) (h1 : 1 ≤ f) (h2 : f ≤ 20) (h3 : 1 ≤ a) (h4 : a ≤ 100) (h5 : 0 ≤ m) (h6 : m ≤ 1000) :
    Calls Try.prog 6 #[.int .i64 f, .int .i64 a, .int .i64 m] w fun e w' => e = .returned (.bool true) ∧ Below w.heap.size w w' := by
  have HB0 := Aside0.mk (Below.refl w.heap.size w)
  have ST := Aside0.mk (start_eq f a h1 (by omega) h3 h4)
  have NT := Aside0.mk (note_eq f a)
  have OK := Aside0.mk (fun i => stE_ok f a i h1 (by omega) h3 h4)
  have EN := Aside0.mk (stE_end f a)
  have PE := Aside0.mk (pass_eq f a m h3 h5 h6)
  have OK2 := Aside0.mk (endE_ok f a m h1 (by omega) h3 h4)
  obtain ⟨p, hp⟩ : ∃ p : Nat, (p : Int) = f := ⟨f.toNat, by omega⟩
  obtain ⟨q, hq⟩ : ∃ q : Nat, (q : Int) = m / a := ⟨(m / a).toNat, by have := Int.ediv_nonneg h5 (show 0 ≤ a by omega); omega⟩
  have hq2 : q ≤ 1000 := by have := Int.ediv_le_self a h5; omega
  have HQ := Aside0.mk hq
  have ed : m.tdiv a = (q : Int) := by rw [Int.tdiv_eq_ediv_of_nonneg h5, hq]
  clear hq
  have AT : Aside0 (∀ i, i < q + 1 → (endE f a m).out.getD i (0, 0) = (1, 1)) := ⟨fun i hi => endE_at f a m i (by rw [← HQ.out]; omega)⟩
  have LN : Aside0 ((endE f a m).out.length = q + 1) := ⟨by rw [endE_len, ← HQ.out]; simp⟩
  go_enter Try.func6, Try.ntmps6
  go_wp2_with (first
      | (go_at_call 7; (with_reducible refine (alive_ok _).mono ?_); rintro e w1 ⟨rfl, hb1⟩; have HB1 := Aside0.mk hb1; clear hb1)
      | (go_at_call 8; have hcall := new_ok f a w.heap.size _ HB1.out.size; (with_reducible refine hcall.mono ?_); clear hcall; rintro e w2 ⟨g, rfl, hg, i, hb⟩; have HG := Aside0.mk (Nat.le_trans HB1.out.size hg); have HB2 := Aside0.mk (below_step HB1.out hb); have I2 := Aside0.mk i; clear hg i hb)
      | (go_at_call 9; have hcall := fail_ok w.heap.size g _ (newE f a) (Ok.new f a) _ HB2.out.size I2.out; (with_reducible refine hcall.mono ?_); clear hcall; rintro e w3 ⟨rfl, i, m⟩; have HB3 := Aside0.mk (I2.out.down HG.out m HB2.out); have I3 := Aside0.mk i; clear i m))
  have I3 : Aside0 (IsO 42 w.heap.size w3 g (.slice none 0 0) (stE f a 0).cells (stE f a 0).out) := ⟨by rw [← ST.out]; exact I3.out⟩
  go_loopg [9] (p + 1) (fun kq v9 w' => ∃ (i : Nat) (u : Value), v9 = .int .i64 i ∧ i ≤ p ∧ kq = p + 1 - i ∧ Aside0 (IsO 42 w.heap.size w' g u (stE f a i).cells (stE f a i).out) ∧ Aside0 (Below w.heap.size w w'))
  case atStart => exact ⟨0, _, rfl, by omega, by omega, I3, HB3⟩
  case round =>
    clear I3 HB3
    obtain ⟨i, u, rfl, hi, hkq, I4, HB4⟩ := hrel
    by_cases hlt : (i : Int) < f
    · have e1 : (stE f a i).state = 1 := by unfold stE; rw [if_pos hlt]
      have L : Aside0 (((stE f a i).out.length + 1) * 16 ≤ 140737488355328) := ⟨by unfold stE; rw [if_pos hlt]; simp⟩
      go_wp2_with (first
      | (go_at_call 10; have hcall := state_ok w.heap.size g _ (stE f a i) _ HB4.out.size I4.out; (with_reducible refine hcall.mono ?_); clear hcall; rintro e w' ⟨rfl, rfl⟩)
      | (go_at_call 11; have hcall := note_ok w.heap.size g _ (stE f a i) true (OK.out i) L.out _ HB4.out.size I4.out; (with_reducible refine hcall.mono ?_); clear hcall; rintro e w5 ⟨rfl, u2, i, m⟩; have HB5 := Aside0.mk (I4.out.down HG.out m HB4.out); have I5 := Aside0.mk i; clear i m))
      go_roundg (p - i)
      case measure => omega
      case rel => exact ⟨i + 1, u2, by go_num, by omega, by omega, ⟨by rw [← NT.out i hlt]; exact I5.out⟩, HB5⟩
    · have I4' := I4.out
      rw [EN.out i (by omega)] at I4'
      replace I4 := Aside0.mk I4'
      have OK1' := OK.out i
      rw [EN.out i (by omega)] at OK1'
      have OK1 := Aside0.mk OK1'
      clear I4' OK1'
      have L : Aside0 (((En.mk f a 2 1 a [(1, 1)]).out.length + (passN m).toNat + 2) * 16 ≤ 140737488355328) := ⟨by have := passN_b m; simp; omega⟩
      have L5 : Aside0 ((endE f a m).out.length * 16 ≤ 140737488355328) := ⟨by rw [LN.out]; omega⟩
      have e3 : (outE (endE f a m) []).state = 2 := rfl
      have e4 : (inputE (outE (endE f a m) []) false 2).state = 2 := rfl
      have e5 : (inputE (inputE (outE (endE f a m) []) false 2) false 1).state = 0 := rfl
      clear hi hkq
      go_wp2_with (first
      | (go_at_call 16; have hcall := pass_ok w.heap.size g _ (En.mk f a 2 1 a [(1, 1)]) m OK1.out L.out _ HB4.out.size I4.out; (with_reducible refine hcall.mono ?_); clear hcall; rintro e w5 ⟨rfl, u2, i, m⟩; have HB5 := Aside0.mk (I4.out.down HG.out m HB4.out); rw [PE.out] at i; have I5 := Aside0.mk i; clear i m)
      | (go_at_call 20; have hcall := output_ok w.heap.size g _ (endE f a m) L5.out _ HB5.out.size I5.out; (with_reducible refine hcall.mono ?_); clear hcall; rintro e w6 ⟨v1, rfl, o1, i, m⟩; obtain ⟨b6, c6, hv6, _, _, pp⟩ := own_pair (n := q + 1) o1 LN.out (by omega); subst hv6; have PP := Aside0.mk pp; clear pp; have O6 := Aside0.mk o1; clear o1; have HB6 := Aside0.mk (I5.out.down HG.out m HB5.out); have I6 := Aside0.mk i; clear i m)
      | (go_at_call 10; have hcall := state_ok w.heap.size g _ (outE (endE f a m) []) _ HB6.out.size I6.out; (with_reducible refine hcall.mono ?_); clear hcall; rintro e w' ⟨rfl, rfl⟩))
      go_loopg [11] (q + 2) (fun kq v11 w' => ∃ (j : Nat), v11 = .int .i64 j ∧ j ≤ q + 1 ∧ kq = q + 2 - j ∧ w6 = w')
      case atStart => exact ⟨0, rfl, by omega, by omega, rfl⟩
      case round =>
        obtain ⟨j, rfl, hj, hkq, rfl⟩ := hrel
        by_cases hjl : j < q + 1
        · obtain ⟨p0, p1⟩ := PP.out j hjl
          rw [AT.out j hjl] at p0 p1
          go_wp2_with fail
          go_roundg (q + 1 - j)
          case measure => omega
          case rel => exact ⟨j + 1, by go_num, by omega, by omega, rfl⟩
        · have J6 : Aside0 (IsO 42 w.heap.size w6 g (.slice none 0 0) (outE (endE f a m) []).cells (outE (endE f a m) []).out) := I6
          clear I6
          have OK3 : Aside0 (Ok (outE (endE f a m) [])) := ⟨OK2.out.out []⟩
          have OK4 : Aside0 (Ok (inputE (outE (endE f a m) []) false 2)) := ⟨OK3.out.input false 2⟩
          have L8 : Aside0 (((inputE (outE (endE f a m) []) false 2).out.length + 1) * 16 ≤ 140737488355328) := ⟨by show (0 + 1) * 16 ≤ 140737488355328; decide⟩
          go_wp2_with (first
      | (go_at_call 12; have hcall := input_ok w.heap.size g _ (outE (endE f a m) []) false 2 (by omega) (by omega) OK3.out (by simp [outE]) _ HB6.out.size J6.out; (with_reducible refine hcall.mono ?_); clear hcall; rintro e w7 ⟨rfl, u2, i, m⟩; have HB7 := Aside0.mk (J6.out.down HG.out m HB6.out); have I7 := Aside0.mk i; clear i m)
      | (go_at_call 10; have hcall := state_ok w.heap.size g _ (inputE (outE (endE f a m) []) false 2) _ HB7.out.size I7.out; (with_reducible refine hcall.mono ?_); clear hcall; rintro e w' ⟨rfl, rfl⟩)
      | (go_at_call 12; have hcall := input_ok w.heap.size g _ (inputE (outE (endE f a m) []) false 2) false 1 (by omega) (by omega) OK4.out L8.out _ HB7.out.size I7.out; (with_reducible refine hcall.mono ?_); clear hcall; rintro e w8 ⟨rfl, u3, i, m⟩; have HB8 := Aside0.mk (I7.out.down HG.out m HB7.out); have I8 := Aside0.mk i; clear i m)
      | (go_at_call 10; have hcall := state_ok w.heap.size g _ (inputE (inputE (outE (endE f a m) []) false 2) false 1) _ HB8.out.size I8.out; (with_reducible refine hcall.mono ?_); clear hcall; rintro e w' ⟨rfl, rfl⟩))
          go_ret
          exact ⟨rfl, HB8.out⟩
theorem walk (a0 a1 a2 : Int) (W : World) (_h0 : (Lit.int .i64 a0).wf = true) (_h1 : (Lit.int .i64 a1).wf = true) (_h2 : (Lit.int .i64 a2).wf = true) :
    Calls Try.prog 6 #[.int .i64 a0, .int .i64 a1, .int .i64 a2] W fun e w' => e = .returned (.bool true) ∧ Below W.heap.size W w' := by
  have HB0 := Aside0.mk (Below.refl W.heap.size W)
  by_cases h : (1 ≤ a0 ∧ a0 ≤ 20) ∧ (1 ≤ a1 ∧ a1 ≤ 100) ∧ (0 ≤ a2 ∧ a2 ≤ 1000)
  · exact asks_in a0 a1 a2 W h.1.1 h.1.2 h.2.1.1 h.2.1.2 h.2.2.1 h.2.2.2
  · have h : a0 < 1 ∨ 20 < a0 ∨ a1 < 1 ∨ 100 < a1 ∨ a2 < 0 ∨ 1000 < a2 := by omega
    clear _h0 _h1 _h2
    by_cases a1_ : a0 < 1
    · clear h
      go_enter Try.func6, Try.ntmps6
      go_wp2_with (first
      | (go_at_call 7; (with_reducible refine (alive_ok _).mono ?_); rintro e w1 ⟨rfl, hb1⟩; have HB1 := Aside0.mk hb1; clear hb1))
      go_ret
      exact ⟨rfl, HB1.out⟩
    · by_cases a2_ : 20 < a0
      · clear h
        go_enter Try.func6, Try.ntmps6
        go_wp2_with (first
      | (go_at_call 7; (with_reducible refine (alive_ok _).mono ?_); rintro e w1 ⟨rfl, hb1⟩; have HB1 := Aside0.mk hb1; clear hb1))
        go_ret
        exact ⟨rfl, HB1.out⟩
      · by_cases a3_ : a1 < 1
        · clear h
          go_enter Try.func6, Try.ntmps6
          go_wp2_with (first
      | (go_at_call 7; (with_reducible refine (alive_ok _).mono ?_); rintro e w1 ⟨rfl, hb1⟩; have HB1 := Aside0.mk hb1; clear hb1))
          go_ret
          exact ⟨rfl, HB1.out⟩
        · by_cases a4_ : 100 < a1
          · clear h
            go_enter Try.func6, Try.ntmps6
            go_wp2_with (first
      | (go_at_call 7; (with_reducible refine (alive_ok _).mono ?_); rintro e w1 ⟨rfl, hb1⟩; have HB1 := Aside0.mk hb1; clear hb1))
            go_ret
            exact ⟨rfl, HB1.out⟩
          · by_cases a5_ : a2 < 0
            · clear h
              go_enter Try.func6, Try.ntmps6
              go_wp2_with (first
      | (go_at_call 7; (with_reducible refine (alive_ok _).mono ?_); rintro e w1 ⟨rfl, hb1⟩; have HB1 := Aside0.mk hb1; clear hb1))
              go_ret
              exact ⟨rfl, HB1.out⟩
            · have a6_ : 1000 < a2 := by omega
              clear h
              go_enter Try.func6, Try.ntmps6
              go_wp2_with (first
      | (go_at_call 7; (with_reducible refine (alive_ok _).mono ?_); rintro e w1 ⟨rfl, hb1⟩; have HB1 := Aside0.mk hb1; clear hb1))
              go_ret
              exact ⟨rfl, HB1.out⟩

end Go.Proofs.Ytflgngnkfcfhpaa.ReAsksW
