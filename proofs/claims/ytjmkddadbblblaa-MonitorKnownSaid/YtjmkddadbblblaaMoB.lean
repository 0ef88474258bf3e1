/- Contracts of a monitor and of its reference: Pass. -/
import Derived.Test.YtjmkddadbblblaaMoR
namespace Go.Proofs.Ytjmkddadbblblaa.MoB
open Go.Proofs.Ytjmkddadbblblaa.MoP (Mo Ok)
open Go.RowKit Go.Proofs.YtjmkddadbblblaaW.PrintWords Go.Proofs.YtjmkddadbblblaaW.PrintLast Go.Proofs.YtjmkddadbblblaaW.PrintMore Go.Proofs.Ytjmkddadbblblaa.K Go.Proofs.Ytjmkddadbblblaa.TaP Go.Proofs.Ytjmkddadbblblaa.TaA Go.Proofs.Ytjmkddadbblblaa.TaB Go.Proofs.Ytjmkddadbblblaa.TaR Go.Proofs.Ytjmkddadbblblaa.MoA Go.Proofs.Ytjmkddadbblblaa.MoR
set_option linter.unusedVariables false
set_option linter.unusedSimpArgs false
attribute [local go_sem] max2_int min2_int max_two min_two

set_option maxHeartbeats 8000000 in
set_option maxRecDepth 100000 in
theorem passm_ok (p g c : Nat) (M : Mo) (n : Int) (k : Ok M) (w : World) (i : IsM w p g c M) :
    Calls Try.prog 14 #[.pointer (some ⟨p, 0, none⟩), .int .i64 n] w fun e w' => e = .returned (.int .i64 (MoP.passM M n).state) ∧ IsM w' p g c (MoP.passM M n) ∧ Fr (fun k => k = p ∨ k = g ∨ k = c) w w' := by
  have k1 := k.q0
  have k2 := k.q1
  have kb := MoP.cutQ_b n 0 1073741824 (by omega)
  have qb := MoP.quiet_b k n
  have c2 := i.tab.at_ 2 (v := .int .i64 M.silent) rfl
  have c4 := i.tab.at_ 4 (v := .int .i64 M.side) rfl
  have c5 := i.tab.at_ 5 (v := .int .i64 M.quiet) rfl
  have c6 := i.tab.at_ 6 (v := .int .i64 M.state) rfl
  have f4 := i.tab.frozen 4
  have f5 := i.tab.frozen 5
  have f6 := i.tab.frozen 6
  have I0 := Aside0.mk i
  have F0 := Aside0.mk (Fr.refl (fun k => k = p ∨ k = g ∨ k = c) w)
  obtain ⟨x, hx⟩ : ∃ x, x = MoP.cutQ n 0 1073741824 := ⟨_, rfl⟩
  obtain ⟨q, hq⟩ : ∃ q, q = MoP.quietM M n := ⟨_, rfl⟩
  obtain ⟨y, hy⟩ : ∃ y, y = M.quiet + x := ⟨_, rfl⟩
  have hq2 : q = if y < 1073741824 then y else 1073741824 := by rw [hq, hy, hx]; rfl
  rw [← hx] at kb
  rw [← hq] at qb
  have EP : Aside0 (MoP.passM M n = if M.silent ≤ q then ⟨M.bad, M.good, M.silent, 0, q, 2, M.h⟩ else ⟨M.bad, M.good, M.silent, M.side, q, M.state, M.h⟩) := ⟨by rw [hq]; rfl⟩
  have e1 : IntKind.i64.wrap (M.quiet + x) = y := by rw [hy]; exact w64 (by omega) (by omega)
  have CX := Aside0.mk hx
  clear i k hx hq hy
  rcases Int.lt_trichotomy y 1073741824 with hm | hm | hm
  · rw [if_pos hm] at hq2
    by_cases hs : M.silent ≤ q
    · rw [if_pos hs] at EP
      have EQ := Aside0.mk EP.out
      clear EP
      subst hq2
      go_enter Try.func14, Try.ntmps14
      go_wp2_with fail
      refine region_tail 11 (by kernel_rfl) (by kernel_rfl) ?_
      intro w1 hb1 hc1 hf1 hh1
      replace c5 := (hc1 _).trans c5
      replace f5 := (hf1 _).trans f5
      have I1 := Aside0.mk (I0.out.heap hh1 hb1)
      have F1 := Aside0.mk (F0.out.comp (Fr.of_below hb1))
      clear hb1 hc1 hf1 hh1 I0 F0
      simp only [List.take_succ_cons, List.take_zero, List.drop_succ_cons, List.drop_zero]
      repeat still_step
      still_call (cutm_ok n 0 1073741824 (by decide) _)
      rw [← CX.out]
      repeat still_step
      refine wpStill_nil ?_
      go_wp2_with fail
      have i2 := (IsM.put I1.out 5 (.int .i64 q) (Mo.mk M.bad M.good M.silent M.side q M.state M.h) rfl rfl)
      have f2 := fr3 (i := 5) F1.out (.int .i64 q)
      clear c2 c4 c5 c6 f4 f5 f6 I1 F1
      generalize w1.setCell ⟨p, 5, none⟩ (.int .i64 q) = w2 at i2 f2 ⊢
      have c2 := i2.tab.at_ 2 (v := .int .i64 M.silent) rfl
      have c4 := i2.tab.at_ 4 (v := .int .i64 M.side) rfl
      have c5 := i2.tab.at_ 5 (v := .int .i64 q) rfl
      have c6 := i2.tab.at_ 6 (v := .int .i64 M.state) rfl
      have f4 := i2.tab.frozen 4
      have f6 := i2.tab.frozen 6
      have I2 := Aside0.mk i2
      have F2 := Aside0.mk f2
      clear i2 f2
      go_region
      have I3 := Aside0.mk (I2.out.below (below_drew (Below.refl _ _)))
      have F3 := Aside0.mk (F2.out.comp (Fr.of_below (below_drew (Below.refl _ _))))
      clear I2 F2
      go_wp2_with fail
      go_ret
      exact ⟨by rw [EQ.out]; rfl, by rw [EQ.out]; exact (IsM.put (IsM.put I3.out 6 (.int .i64 2) (Mo.mk M.bad M.good M.silent M.side q 2 M.h) rfl rfl) 4 (.int .i64 0) (Mo.mk M.bad M.good M.silent 0 q 2 M.h) rfl rfl), fr3 (i := 4) (fr3 (i := 6) F3.out _) _⟩
    · rw [if_neg hs] at EP
      have EQ := Aside0.mk EP.out
      clear EP
      subst hq2
      go_enter Try.func14, Try.ntmps14
      go_wp2_with fail
      refine region_tail 11 (by kernel_rfl) (by kernel_rfl) ?_
      intro w1 hb1 hc1 hf1 hh1
      replace c5 := (hc1 _).trans c5
      replace f5 := (hf1 _).trans f5
      have I1 := Aside0.mk (I0.out.heap hh1 hb1)
      have F1 := Aside0.mk (F0.out.comp (Fr.of_below hb1))
      clear hb1 hc1 hf1 hh1 I0 F0
      simp only [List.take_succ_cons, List.take_zero, List.drop_succ_cons, List.drop_zero]
      repeat still_step
      still_call (cutm_ok n 0 1073741824 (by decide) _)
      rw [← CX.out]
      repeat still_step
      refine wpStill_nil ?_
      go_wp2_with fail
      have i2 := (IsM.put I1.out 5 (.int .i64 q) (Mo.mk M.bad M.good M.silent M.side q M.state M.h) rfl rfl)
      have f2 := fr3 (i := 5) F1.out (.int .i64 q)
      clear c2 c4 c5 c6 f4 f5 f6 I1 F1
      generalize w1.setCell ⟨p, 5, none⟩ (.int .i64 q) = w2 at i2 f2 ⊢
      have c2 := i2.tab.at_ 2 (v := .int .i64 M.silent) rfl
      have c4 := i2.tab.at_ 4 (v := .int .i64 M.side) rfl
      have c5 := i2.tab.at_ 5 (v := .int .i64 q) rfl
      have c6 := i2.tab.at_ 6 (v := .int .i64 M.state) rfl
      have f4 := i2.tab.frozen 4
      have f6 := i2.tab.frozen 6
      have I2 := Aside0.mk i2
      have F2 := Aside0.mk f2
      clear i2 f2
      go_region
      have I3 := Aside0.mk (I2.out.below (below_drew (Below.refl _ _)))
      have F3 := Aside0.mk (F2.out.comp (Fr.of_below (below_drew (Below.refl _ _))))
      clear I2 F2
      go_wp2_with fail
      go_ret
      exact ⟨by rw [EQ.out]; rfl, by rw [EQ.out]; exact I3.out, F3.out⟩
  · rw [if_neg (by omega)] at hq2
    by_cases hs : M.silent ≤ q
    · rw [if_pos hs] at EP
      have EQ := Aside0.mk EP.out
      clear EP
      subst hq2 hm
      go_enter Try.func14, Try.ntmps14
      go_wp2_with fail
      refine region_tail 11 (by kernel_rfl) (by kernel_rfl) ?_
      intro w1 hb1 hc1 hf1 hh1
      replace c5 := (hc1 _).trans c5
      replace f5 := (hf1 _).trans f5
      have I1 := Aside0.mk (I0.out.heap hh1 hb1)
      have F1 := Aside0.mk (F0.out.comp (Fr.of_below hb1))
      clear hb1 hc1 hf1 hh1 I0 F0
      simp only [List.take_succ_cons, List.take_zero, List.drop_succ_cons, List.drop_zero]
      repeat still_step
      still_call (cutm_ok n 0 1073741824 (by decide) _)
      rw [← CX.out]
      repeat still_step
      refine wpStill_nil ?_
      go_wp2_with fail
      have i2 := (IsM.put I1.out 5 (.int .i64 1073741824) (Mo.mk M.bad M.good M.silent M.side 1073741824 M.state M.h) rfl rfl)
      have f2 := fr3 (i := 5) F1.out (.int .i64 1073741824)
      clear c2 c4 c5 c6 f4 f5 f6 I1 F1
      generalize w1.setCell ⟨p, 5, none⟩ (.int .i64 1073741824) = w2 at i2 f2 ⊢
      have c2 := i2.tab.at_ 2 (v := .int .i64 M.silent) rfl
      have c4 := i2.tab.at_ 4 (v := .int .i64 M.side) rfl
      have c5 := i2.tab.at_ 5 (v := .int .i64 1073741824) rfl
      have c6 := i2.tab.at_ 6 (v := .int .i64 M.state) rfl
      have f4 := i2.tab.frozen 4
      have f6 := i2.tab.frozen 6
      have I2 := Aside0.mk i2
      have F2 := Aside0.mk f2
      clear i2 f2
      go_region
      have I3 := Aside0.mk (I2.out.below (below_drew (Below.refl _ _)))
      have F3 := Aside0.mk (F2.out.comp (Fr.of_below (below_drew (Below.refl _ _))))
      clear I2 F2
      go_wp2_with fail
      go_ret
      exact ⟨by rw [EQ.out]; rfl, by rw [EQ.out]; exact (IsM.put (IsM.put I3.out 6 (.int .i64 2) (Mo.mk M.bad M.good M.silent M.side 1073741824 2 M.h) rfl rfl) 4 (.int .i64 0) (Mo.mk M.bad M.good M.silent 0 1073741824 2 M.h) rfl rfl), fr3 (i := 4) (fr3 (i := 6) F3.out _) _⟩
    · rw [if_neg hs] at EP
      have EQ := Aside0.mk EP.out
      clear EP
      subst hq2 hm
      go_enter Try.func14, Try.ntmps14
      go_wp2_with fail
      refine region_tail 11 (by kernel_rfl) (by kernel_rfl) ?_
      intro w1 hb1 hc1 hf1 hh1
      replace c5 := (hc1 _).trans c5
      replace f5 := (hf1 _).trans f5
      have I1 := Aside0.mk (I0.out.heap hh1 hb1)
      have F1 := Aside0.mk (F0.out.comp (Fr.of_below hb1))
      clear hb1 hc1 hf1 hh1 I0 F0
      simp only [List.take_succ_cons, List.take_zero, List.drop_succ_cons, List.drop_zero]
      repeat still_step
      still_call (cutm_ok n 0 1073741824 (by decide) _)
      rw [← CX.out]
      repeat still_step
      refine wpStill_nil ?_
      go_wp2_with fail
      have i2 := (IsM.put I1.out 5 (.int .i64 1073741824) (Mo.mk M.bad M.good M.silent M.side 1073741824 M.state M.h) rfl rfl)
      have f2 := fr3 (i := 5) F1.out (.int .i64 1073741824)
      clear c2 c4 c5 c6 f4 f5 f6 I1 F1
      generalize w1.setCell ⟨p, 5, none⟩ (.int .i64 1073741824) = w2 at i2 f2 ⊢
      have c2 := i2.tab.at_ 2 (v := .int .i64 M.silent) rfl
      have c4 := i2.tab.at_ 4 (v := .int .i64 M.side) rfl
      have c5 := i2.tab.at_ 5 (v := .int .i64 1073741824) rfl
      have c6 := i2.tab.at_ 6 (v := .int .i64 M.state) rfl
      have f4 := i2.tab.frozen 4
      have f6 := i2.tab.frozen 6
      have I2 := Aside0.mk i2
      have F2 := Aside0.mk f2
      clear i2 f2
      go_region
      have I3 := Aside0.mk (I2.out.below (below_drew (Below.refl _ _)))
      have F3 := Aside0.mk (F2.out.comp (Fr.of_below (below_drew (Below.refl _ _))))
      clear I2 F2
      go_wp2_with fail
      go_ret
      exact ⟨by rw [EQ.out]; rfl, by rw [EQ.out]; exact I3.out, F3.out⟩
  · rw [if_neg (by omega)] at hq2
    by_cases hs : M.silent ≤ q
    · rw [if_pos hs] at EP
      have EQ := Aside0.mk EP.out
      clear EP
      subst hq2
      go_enter Try.func14, Try.ntmps14
      go_wp2_with fail
      refine region_tail 11 (by kernel_rfl) (by kernel_rfl) ?_
      intro w1 hb1 hc1 hf1 hh1
      replace c5 := (hc1 _).trans c5
      replace f5 := (hf1 _).trans f5
      have I1 := Aside0.mk (I0.out.heap hh1 hb1)
      have F1 := Aside0.mk (F0.out.comp (Fr.of_below hb1))
      clear hb1 hc1 hf1 hh1 I0 F0
      simp only [List.take_succ_cons, List.take_zero, List.drop_succ_cons, List.drop_zero]
      repeat still_step
      still_call (cutm_ok n 0 1073741824 (by decide) _)
      rw [← CX.out]
      repeat still_step
      refine wpStill_nil ?_
      go_wp2_with fail
      have i2 := (IsM.put I1.out 5 (.int .i64 1073741824) (Mo.mk M.bad M.good M.silent M.side 1073741824 M.state M.h) rfl rfl)
      have f2 := fr3 (i := 5) F1.out (.int .i64 1073741824)
      clear c2 c4 c5 c6 f4 f5 f6 I1 F1
      generalize w1.setCell ⟨p, 5, none⟩ (.int .i64 1073741824) = w2 at i2 f2 ⊢
      have c2 := i2.tab.at_ 2 (v := .int .i64 M.silent) rfl
      have c4 := i2.tab.at_ 4 (v := .int .i64 M.side) rfl
      have c5 := i2.tab.at_ 5 (v := .int .i64 1073741824) rfl
      have c6 := i2.tab.at_ 6 (v := .int .i64 M.state) rfl
      have f4 := i2.tab.frozen 4
      have f6 := i2.tab.frozen 6
      have I2 := Aside0.mk i2
      have F2 := Aside0.mk f2
      clear i2 f2
      go_region
      have I3 := Aside0.mk (I2.out.below (below_drew (Below.refl _ _)))
      have F3 := Aside0.mk (F2.out.comp (Fr.of_below (below_drew (Below.refl _ _))))
      clear I2 F2
      go_wp2_with fail
      go_ret
      exact ⟨by rw [EQ.out]; rfl, by rw [EQ.out]; exact (IsM.put (IsM.put I3.out 6 (.int .i64 2) (Mo.mk M.bad M.good M.silent M.side 1073741824 2 M.h) rfl rfl) 4 (.int .i64 0) (Mo.mk M.bad M.good M.silent 0 1073741824 2 M.h) rfl rfl), fr3 (i := 4) (fr3 (i := 6) F3.out _) _⟩
    · rw [if_neg hs] at EP
      have EQ := Aside0.mk EP.out
      clear EP
      subst hq2
      go_enter Try.func14, Try.ntmps14
      go_wp2_with fail
      refine region_tail 11 (by kernel_rfl) (by kernel_rfl) ?_
      intro w1 hb1 hc1 hf1 hh1
      replace c5 := (hc1 _).trans c5
      replace f5 := (hf1 _).trans f5
      have I1 := Aside0.mk (I0.out.heap hh1 hb1)
      have F1 := Aside0.mk (F0.out.comp (Fr.of_below hb1))
      clear hb1 hc1 hf1 hh1 I0 F0
      simp only [List.take_succ_cons, List.take_zero, List.drop_succ_cons, List.drop_zero]
      repeat still_step
      still_call (cutm_ok n 0 1073741824 (by decide) _)
      rw [← CX.out]
      repeat still_step
      refine wpStill_nil ?_
      go_wp2_with fail
      have i2 := (IsM.put I1.out 5 (.int .i64 1073741824) (Mo.mk M.bad M.good M.silent M.side 1073741824 M.state M.h) rfl rfl)
      have f2 := fr3 (i := 5) F1.out (.int .i64 1073741824)
      clear c2 c4 c5 c6 f4 f5 f6 I1 F1
      generalize w1.setCell ⟨p, 5, none⟩ (.int .i64 1073741824) = w2 at i2 f2 ⊢
      have c2 := i2.tab.at_ 2 (v := .int .i64 M.silent) rfl
      have c4 := i2.tab.at_ 4 (v := .int .i64 M.side) rfl
      have c5 := i2.tab.at_ 5 (v := .int .i64 1073741824) rfl
      have c6 := i2.tab.at_ 6 (v := .int .i64 M.state) rfl
      have f4 := i2.tab.frozen 4
      have f6 := i2.tab.frozen 6
      have I2 := Aside0.mk i2
      have F2 := Aside0.mk f2
      clear i2 f2
      go_region
      have I3 := Aside0.mk (I2.out.below (below_drew (Below.refl _ _)))
      have F3 := Aside0.mk (F2.out.comp (Fr.of_below (below_drew (Below.refl _ _))))
      clear I2 F2
      go_wp2_with fail
      go_ret
      exact ⟨by rw [EQ.out]; rfl, by rw [EQ.out]; exact I3.out, F3.out⟩

set_option maxHeartbeats 8000000 in
set_option maxRecDepth 100000 in
theorem passr_ok (B p r : Nat) (M : Mo) (n : Int) (k : Ok M) (w : World) (hp : p < B) (i : IsN B w p r M) :
    Calls Try.prog 16 #[.pointer (some ⟨p, 0, none⟩), .int .i64 n] w fun e w' => e = .returned (.int .i64 (MoP.passM M n).state) ∧ IsN B w' p r (MoP.passM M n) ∧ Fr (fun k => k = p ∨ k = r) w w' := by
  have k1 := k.q0
  have k2 := k.q1
  have kb := MoP.cutQ_b n 0 1073741824 (by omega)
  have qb := MoP.quiet_b k n
  have QC0 := quiet_cut M k n
  have c2 := i.tab.at_ 2 (v := .int .i64 M.silent) rfl
  have c4 := i.tab.at_ 4 (v := .int .i64 M.side) rfl
  have c5 := i.tab.at_ 5 (v := .int .i64 M.quiet) rfl
  have c6 := i.tab.at_ 6 (v := .int .i64 M.state) rfl
  have f4 := i.tab.frozen 4
  have f5 := i.tab.frozen 5
  have f6 := i.tab.frozen 6
  have I0 := Aside0.mk i
  have F0 := Aside0.mk (Fr.refl (fun k => k = p ∨ k = r) w)
  have HP := Aside0.mk hp
  obtain ⟨x, hx⟩ : ∃ x, x = MoP.cutQ n 0 1073741824 := ⟨_, rfl⟩
  obtain ⟨q, hq⟩ : ∃ q, q = MoP.quietM M n := ⟨_, rfl⟩
  obtain ⟨y, hy⟩ : ∃ y, y = M.quiet + x := ⟨_, rfl⟩
  have hq2 : q = if y < 1073741824 then y else 1073741824 := by rw [hq, hy, hx]; rfl
  rw [← hx, ← hq] at QC0
  rw [← hx] at kb
  rw [← hq] at qb
  have EP : Aside0 (MoP.passM M n = if M.silent ≤ q then ⟨M.bad, M.good, M.silent, 0, q, 2, M.h⟩ else ⟨M.bad, M.good, M.silent, M.side, q, M.state, M.h⟩) := ⟨by rw [hq]; rfl⟩
  have e1 : IntKind.i64.wrap (M.quiet + x) = y := by rw [hy]; exact w64 (by omega) (by omega)
  have CX := Aside0.mk hx
  rw [← hy] at QC0
  have QC := Aside0.mk QC0
  clear i k hx hq hy hp QC0
  rcases Int.lt_trichotomy y 1073741824 with hm | hm | hm
  · rw [if_pos hm] at hq2
    by_cases hs : M.silent ≤ q
    · rw [if_pos hs] at EP
      have EQ := Aside0.mk EP.out
      clear EP
      subst hq2
      go_enter Try.func16, Try.ntmps16
      go_wp2_with fail
      refine region_tail 11 (by kernel_rfl) (by kernel_rfl) ?_
      intro w1 hb1 hc1 hf1 hh1
      replace c5 := (hc1 _).trans c5
      replace f5 := (hf1 _).trans f5
      have I1 := Aside0.mk (I0.out.heap hh1 hb1)
      have F1 := Aside0.mk (F0.out.comp (Fr.of_below hb1))
      clear hb1 hc1 hf1 hh1 I0 F0
      simp only [List.take_succ_cons, List.take_zero, List.drop_succ_cons, List.drop_zero]
      repeat still_step
      still_call (cutr_s n 0 1073741824 (by decide) _)
      rw [← CX.out]
      repeat still_step
      still_call (cutr_s q 0 1073741824 (by decide) _)
      rw [QC.out]
      repeat still_step
      refine wpStill_nil ?_
      go_wp2_with fail
      have i2 := (IsN.put HP.out I1.out 5 (.int .i64 q) (Mo.mk M.bad M.good M.silent M.side q M.state M.h) rfl rfl)
      have f2 := fr2 (i := 5) F1.out (.int .i64 q)
      clear c2 c4 c5 c6 f4 f5 f6 I1 F1
      generalize w1.setCell ⟨p, 5, none⟩ (.int .i64 q) = w2 at i2 f2 ⊢
      have c2 := i2.tab.at_ 2 (v := .int .i64 M.silent) rfl
      have c4 := i2.tab.at_ 4 (v := .int .i64 M.side) rfl
      have c5 := i2.tab.at_ 5 (v := .int .i64 q) rfl
      have c6 := i2.tab.at_ 6 (v := .int .i64 M.state) rfl
      have f4 := i2.tab.frozen 4
      have f6 := i2.tab.frozen 6
      have I2 := Aside0.mk i2
      have F2 := Aside0.mk f2
      clear i2 f2
      go_region
      have I3 := Aside0.mk (I2.out.below (below_drew (Below.refl _ _)))
      have F3 := Aside0.mk (F2.out.comp (Fr.of_below (below_drew (Below.refl _ _))))
      clear I2 F2
      go_wp2_with fail
      go_ret
      exact ⟨by rw [EQ.out]; rfl, by rw [EQ.out]; exact (IsN.put HP.out (IsN.put HP.out I3.out 6 (.int .i64 2) (Mo.mk M.bad M.good M.silent M.side q 2 M.h) rfl rfl) 4 (.int .i64 0) (Mo.mk M.bad M.good M.silent 0 q 2 M.h) rfl rfl), fr2 (i := 4) (fr2 (i := 6) F3.out _) _⟩
    · rw [if_neg hs] at EP
      have EQ := Aside0.mk EP.out
      clear EP
      subst hq2
      go_enter Try.func16, Try.ntmps16
      go_wp2_with fail
      refine region_tail 11 (by kernel_rfl) (by kernel_rfl) ?_
      intro w1 hb1 hc1 hf1 hh1
      replace c5 := (hc1 _).trans c5
      replace f5 := (hf1 _).trans f5
      have I1 := Aside0.mk (I0.out.heap hh1 hb1)
      have F1 := Aside0.mk (F0.out.comp (Fr.of_below hb1))
      clear hb1 hc1 hf1 hh1 I0 F0
      simp only [List.take_succ_cons, List.take_zero, List.drop_succ_cons, List.drop_zero]
      repeat still_step
      still_call (cutr_s n 0 1073741824 (by decide) _)
      rw [← CX.out]
      repeat still_step
      still_call (cutr_s q 0 1073741824 (by decide) _)
      rw [QC.out]
      repeat still_step
      refine wpStill_nil ?_
      go_wp2_with fail
      have i2 := (IsN.put HP.out I1.out 5 (.int .i64 q) (Mo.mk M.bad M.good M.silent M.side q M.state M.h) rfl rfl)
      have f2 := fr2 (i := 5) F1.out (.int .i64 q)
      clear c2 c4 c5 c6 f4 f5 f6 I1 F1
      generalize w1.setCell ⟨p, 5, none⟩ (.int .i64 q) = w2 at i2 f2 ⊢
      have c2 := i2.tab.at_ 2 (v := .int .i64 M.silent) rfl
      have c4 := i2.tab.at_ 4 (v := .int .i64 M.side) rfl
      have c5 := i2.tab.at_ 5 (v := .int .i64 q) rfl
      have c6 := i2.tab.at_ 6 (v := .int .i64 M.state) rfl
      have f4 := i2.tab.frozen 4
      have f6 := i2.tab.frozen 6
      have I2 := Aside0.mk i2
      have F2 := Aside0.mk f2
      clear i2 f2
      go_region
      have I3 := Aside0.mk (I2.out.below (below_drew (Below.refl _ _)))
      have F3 := Aside0.mk (F2.out.comp (Fr.of_below (below_drew (Below.refl _ _))))
      clear I2 F2
      go_wp2_with fail
      go_ret
      exact ⟨by rw [EQ.out]; rfl, by rw [EQ.out]; exact I3.out, F3.out⟩
  · rw [if_neg (by omega)] at hq2
    by_cases hs : M.silent ≤ q
    · rw [if_pos hs] at EP
      have EQ := Aside0.mk EP.out
      clear EP
      subst hq2 hm
      go_enter Try.func16, Try.ntmps16
      go_wp2_with fail
      refine region_tail 11 (by kernel_rfl) (by kernel_rfl) ?_
      intro w1 hb1 hc1 hf1 hh1
      replace c5 := (hc1 _).trans c5
      replace f5 := (hf1 _).trans f5
      have I1 := Aside0.mk (I0.out.heap hh1 hb1)
      have F1 := Aside0.mk (F0.out.comp (Fr.of_below hb1))
      clear hb1 hc1 hf1 hh1 I0 F0
      simp only [List.take_succ_cons, List.take_zero, List.drop_succ_cons, List.drop_zero]
      repeat still_step
      still_call (cutr_s n 0 1073741824 (by decide) _)
      rw [← CX.out]
      repeat still_step
      still_call (cutr_s 1073741824 0 1073741824 (by decide) _)
      rw [QC.out]
      repeat still_step
      refine wpStill_nil ?_
      go_wp2_with fail
      have i2 := (IsN.put HP.out I1.out 5 (.int .i64 1073741824) (Mo.mk M.bad M.good M.silent M.side 1073741824 M.state M.h) rfl rfl)
      have f2 := fr2 (i := 5) F1.out (.int .i64 1073741824)
      clear c2 c4 c5 c6 f4 f5 f6 I1 F1
      generalize w1.setCell ⟨p, 5, none⟩ (.int .i64 1073741824) = w2 at i2 f2 ⊢
      have c2 := i2.tab.at_ 2 (v := .int .i64 M.silent) rfl
      have c4 := i2.tab.at_ 4 (v := .int .i64 M.side) rfl
      have c5 := i2.tab.at_ 5 (v := .int .i64 1073741824) rfl
      have c6 := i2.tab.at_ 6 (v := .int .i64 M.state) rfl
      have f4 := i2.tab.frozen 4
      have f6 := i2.tab.frozen 6
      have I2 := Aside0.mk i2
      have F2 := Aside0.mk f2
      clear i2 f2
      go_region
      have I3 := Aside0.mk (I2.out.below (below_drew (Below.refl _ _)))
      have F3 := Aside0.mk (F2.out.comp (Fr.of_below (below_drew (Below.refl _ _))))
      clear I2 F2
      go_wp2_with fail
      go_ret
      exact ⟨by rw [EQ.out]; rfl, by rw [EQ.out]; exact (IsN.put HP.out (IsN.put HP.out I3.out 6 (.int .i64 2) (Mo.mk M.bad M.good M.silent M.side 1073741824 2 M.h) rfl rfl) 4 (.int .i64 0) (Mo.mk M.bad M.good M.silent 0 1073741824 2 M.h) rfl rfl), fr2 (i := 4) (fr2 (i := 6) F3.out _) _⟩
    · rw [if_neg hs] at EP
      have EQ := Aside0.mk EP.out
      clear EP
      subst hq2 hm
      go_enter Try.func16, Try.ntmps16
      go_wp2_with fail
      refine region_tail 11 (by kernel_rfl) (by kernel_rfl) ?_
      intro w1 hb1 hc1 hf1 hh1
      replace c5 := (hc1 _).trans c5
      replace f5 := (hf1 _).trans f5
      have I1 := Aside0.mk (I0.out.heap hh1 hb1)
      have F1 := Aside0.mk (F0.out.comp (Fr.of_below hb1))
      clear hb1 hc1 hf1 hh1 I0 F0
      simp only [List.take_succ_cons, List.take_zero, List.drop_succ_cons, List.drop_zero]
      repeat still_step
      still_call (cutr_s n 0 1073741824 (by decide) _)
      rw [← CX.out]
      repeat still_step
      still_call (cutr_s 1073741824 0 1073741824 (by decide) _)
      rw [QC.out]
      repeat still_step
      refine wpStill_nil ?_
      go_wp2_with fail
      have i2 := (IsN.put HP.out I1.out 5 (.int .i64 1073741824) (Mo.mk M.bad M.good M.silent M.side 1073741824 M.state M.h) rfl rfl)
      have f2 := fr2 (i := 5) F1.out (.int .i64 1073741824)
      clear c2 c4 c5 c6 f4 f5 f6 I1 F1
      generalize w1.setCell ⟨p, 5, none⟩ (.int .i64 1073741824) = w2 at i2 f2 ⊢
      have c2 := i2.tab.at_ 2 (v := .int .i64 M.silent) rfl
      have c4 := i2.tab.at_ 4 (v := .int .i64 M.side) rfl
      have c5 := i2.tab.at_ 5 (v := .int .i64 1073741824) rfl
      have c6 := i2.tab.at_ 6 (v := .int .i64 M.state) rfl
      have f4 := i2.tab.frozen 4
      have f6 := i2.tab.frozen 6
      have I2 := Aside0.mk i2
      have F2 := Aside0.mk f2
      clear i2 f2
      go_region
      have I3 := Aside0.mk (I2.out.below (below_drew (Below.refl _ _)))
      have F3 := Aside0.mk (F2.out.comp (Fr.of_below (below_drew (Below.refl _ _))))
      clear I2 F2
      go_wp2_with fail
      go_ret
      exact ⟨by rw [EQ.out]; rfl, by rw [EQ.out]; exact I3.out, F3.out⟩
  · rw [if_neg (by omega)] at hq2
    by_cases hs : M.silent ≤ q
    · rw [if_pos hs] at EP
      have EQ := Aside0.mk EP.out
      clear EP
      subst hq2
      go_enter Try.func16, Try.ntmps16
      go_wp2_with fail
      refine region_tail 11 (by kernel_rfl) (by kernel_rfl) ?_
      intro w1 hb1 hc1 hf1 hh1
      replace c5 := (hc1 _).trans c5
      replace f5 := (hf1 _).trans f5
      have I1 := Aside0.mk (I0.out.heap hh1 hb1)
      have F1 := Aside0.mk (F0.out.comp (Fr.of_below hb1))
      clear hb1 hc1 hf1 hh1 I0 F0
      simp only [List.take_succ_cons, List.take_zero, List.drop_succ_cons, List.drop_zero]
      repeat still_step
      still_call (cutr_s n 0 1073741824 (by decide) _)
      rw [← CX.out]
      repeat still_step
      still_call (cutr_s y 0 1073741824 (by decide) _)
      rw [QC.out]
      repeat still_step
      refine wpStill_nil ?_
      go_wp2_with fail
      have i2 := (IsN.put HP.out I1.out 5 (.int .i64 1073741824) (Mo.mk M.bad M.good M.silent M.side 1073741824 M.state M.h) rfl rfl)
      have f2 := fr2 (i := 5) F1.out (.int .i64 1073741824)
      clear c2 c4 c5 c6 f4 f5 f6 I1 F1
      generalize w1.setCell ⟨p, 5, none⟩ (.int .i64 1073741824) = w2 at i2 f2 ⊢
      have c2 := i2.tab.at_ 2 (v := .int .i64 M.silent) rfl
      have c4 := i2.tab.at_ 4 (v := .int .i64 M.side) rfl
      have c5 := i2.tab.at_ 5 (v := .int .i64 1073741824) rfl
      have c6 := i2.tab.at_ 6 (v := .int .i64 M.state) rfl
      have f4 := i2.tab.frozen 4
      have f6 := i2.tab.frozen 6
      have I2 := Aside0.mk i2
      have F2 := Aside0.mk f2
      clear i2 f2
      go_region
      have I3 := Aside0.mk (I2.out.below (below_drew (Below.refl _ _)))
      have F3 := Aside0.mk (F2.out.comp (Fr.of_below (below_drew (Below.refl _ _))))
      clear I2 F2
      go_wp2_with fail
      go_ret
      exact ⟨by rw [EQ.out]; rfl, by rw [EQ.out]; exact (IsN.put HP.out (IsN.put HP.out I3.out 6 (.int .i64 2) (Mo.mk M.bad M.good M.silent M.side 1073741824 2 M.h) rfl rfl) 4 (.int .i64 0) (Mo.mk M.bad M.good M.silent 0 1073741824 2 M.h) rfl rfl), fr2 (i := 4) (fr2 (i := 6) F3.out _) _⟩
    · rw [if_neg hs] at EP
      have EQ := Aside0.mk EP.out
      clear EP
      subst hq2
      go_enter Try.func16, Try.ntmps16
      go_wp2_with fail
      refine region_tail 11 (by kernel_rfl) (by kernel_rfl) ?_
      intro w1 hb1 hc1 hf1 hh1
      replace c5 := (hc1 _).trans c5
      replace f5 := (hf1 _).trans f5
      have I1 := Aside0.mk (I0.out.heap hh1 hb1)
      have F1 := Aside0.mk (F0.out.comp (Fr.of_below hb1))
      clear hb1 hc1 hf1 hh1 I0 F0
      simp only [List.take_succ_cons, List.take_zero, List.drop_succ_cons, List.drop_zero]
      repeat still_step
      still_call (cutr_s n 0 1073741824 (by decide) _)
      rw [← CX.out]
      repeat still_step
      still_call (cutr_s y 0 1073741824 (by decide) _)
      rw [QC.out]
      repeat still_step
      refine wpStill_nil ?_
      go_wp2_with fail
      have i2 := (IsN.put HP.out I1.out 5 (.int .i64 1073741824) (Mo.mk M.bad M.good M.silent M.side 1073741824 M.state M.h) rfl rfl)
      have f2 := fr2 (i := 5) F1.out (.int .i64 1073741824)
      clear c2 c4 c5 c6 f4 f5 f6 I1 F1
      generalize w1.setCell ⟨p, 5, none⟩ (.int .i64 1073741824) = w2 at i2 f2 ⊢
      have c2 := i2.tab.at_ 2 (v := .int .i64 M.silent) rfl
      have c4 := i2.tab.at_ 4 (v := .int .i64 M.side) rfl
      have c5 := i2.tab.at_ 5 (v := .int .i64 1073741824) rfl
      have c6 := i2.tab.at_ 6 (v := .int .i64 M.state) rfl
      have f4 := i2.tab.frozen 4
      have f6 := i2.tab.frozen 6
      have I2 := Aside0.mk i2
      have F2 := Aside0.mk f2
      clear i2 f2
      go_region
      have I3 := Aside0.mk (I2.out.below (below_drew (Below.refl _ _)))
      have F3 := Aside0.mk (F2.out.comp (Fr.of_below (below_drew (Below.refl _ _))))
      clear I2 F2
      go_wp2_with fail
      go_ret
      exact ⟨by rw [EQ.out]; rfl, by rw [EQ.out]; exact I3.out, F3.out⟩

end Go.Proofs.Ytjmkddadbblblaa.MoB
