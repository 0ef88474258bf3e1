/- Any row of calls makes the same of an end and of the reference: the walk. -/
import Derived.Test.YtflgngnkfcfhpaaReT
import Derived.Test.YtflgngnkfcfhpaaOpenA
namespace Go.Proofs.Ytflgngnkfcfhpaa.RePlaysW
open Go.RowKit Go.Proofs.YtflgngnkfcfhpaaW.PrintWords Go.Proofs.YtflgngnkfcfhpaaW.PrintLast Go.Proofs.YtflgngnkfcfhpaaW.PrintMore Go.Proofs.Ytflgngnkfcfhpaa.K Go.Proofs.Ytflgngnkfcfhpaa.ReP Go.Proofs.Ytflgngnkfcfhpaa.ReA Go.Proofs.Ytflgngnkfcfhpaa.ReB Go.Proofs.Ytflgngnkfcfhpaa.ReC Go.Proofs.Ytflgngnkfcfhpaa.ReD Go.Proofs.Ytflgngnkfcfhpaa.RrP Go.Proofs.Ytflgngnkfcfhpaa.ReR Go.Proofs.Ytflgngnkfcfhpaa.ReS Go.Proofs.Ytflgngnkfcfhpaa.ReF Go.Proofs.Ytflgngnkfcfhpaa.ReO Go.Proofs.Ytflgngnkfcfhpaa.ReT Go.Proofs.Ytflgngnkfcfhpaa.OpenA
set_option linter.unusedVariables false
set_option linter.unusedSimpArgs false
attribute [local go_sem] max2_int min2_int max_two min_two

set_option maxHeartbeats 8000000 in
set_option maxRecDepth 100000 in
theorem plays_in (f a0 : Int) (A : Option Addr) (n c : Nat) (z : List (Int × Int × Bool)) (w : World) (hr : IsActs w A n c z) (hn : n ≤ 100) :
    Calls Try.prog 4 #[.int .i64 f, .int .i64 a0, .slice A n c] w fun e w' => e = .returned (.bool true) ∧ Below w.heap.size w w' := by
  have HB0 := Aside0.mk (Below.refl w.heap.size w)
  have HR := Aside0.mk hr
  clear hr
  go_enter Try.func4, Try.ntmps4
  go_wp2_with (first
      | (go_at_call 7; (with_reducible refine (alive_ok _).mono ?_); rintro e w1 ⟨rfl, hb1⟩; have HB1 := Aside0.mk hb1; clear hb1)
      | (go_at_call 8; have hcall := new_ok f a0 w.heap.size _ HB1.out.size; (with_reducible refine hcall.mono ?_); clear hcall; rintro e w2 ⟨g, rfl, hg, i, hb⟩; have G_e := Aside0.mk (Nat.le_trans HB1.out.size hg); have B2 := Aside0.mk (below_step HB1.out hb); have I_e2 := Aside0.mk i; clear hg i hb)
      | (go_at_call 8; have hcall := new_ok 1 1 w.heap.size _ B2.out.size; (with_reducible refine hcall.mono ?_); clear hcall; rintro e w3 ⟨go, rfl, hg, i, hb⟩; have G_o := Aside0.mk (Nat.le_trans B2.out.size hg); have B3 := Aside0.mk (below_step B2.out hb); have I_o3 := Aside0.mk i; have I_e3 := Aside0.mk (I_e2.out.below hb); have X_eo := Aside0.mk (apart_new I_e2.out hg); clear hg i hb)
      | (go_at_call 13; have hcall := newr_ok f a0 w.heap.size w3; (with_reducible refine hcall.mono ?_); clear hcall; rintro e w4 ⟨gr, rfl, hg, i, hb⟩; have G_r := Aside0.mk (Nat.le_trans B3.out.size hg); have B4 := Aside0.mk (below_step B3.out hb); have I_r4 := Aside0.mk i; have I_o4 := Aside0.mk (I_o3.out.below hb); have I_e4 := Aside0.mk (I_e3.out.below hb); have X_er := Aside0.mk (apart_new I_e3.out hg); have X_or := Aside0.mk (apart_new I_o3.out hg); have T4 : Aside0 (Three w w4 g go gr (.slice none 0 0) (.slice none 0 0) (.slice none 0 0) (newE f a0) (newE 1 1) (newR f a0)) := Aside0.mk ⟨I_e4.out, I_o4.out, I_r4.out, X_eo.out, X_er.out, X_or.out, G_e.out, G_o.out, G_r.out, B4.out⟩; clear hg i hb))
  clear I_e2 I_e3 I_e4 I_o3 I_o4 I_r4 B2 B3 B4
  go_loopg [11] (n + 1) (fun kq v11 w' => ∃ (k : Nat) (E Eo : En) (R : Rn) (u uo ur : Value), v11 = .int .i64 k ∧ k ≤ n ∧ kq = n + 1 - k ∧ Aside0 (Pl E Eo R k) ∧ Aside0 (Three w w' g go gr u uo ur E Eo R))
  case atStart => exact ⟨0, _, _, _, _, _, _, by simp, by omega, by omega, ⟨Pl.start f a0⟩, T4⟩
  case round =>
    clear T4
    obtain ⟨k, E, Eo, R, u, uo, ur, rfl, hk, hkq, PL, T5⟩ := hrel
    have SL := PL.out.len
    by_cases hlt : k < n
    · obtain ⟨ad, hA, x0, x1, x2⟩ := (HR.out.below T5.out.below).at_ k hlt
      subst hA
      obtain ⟨x, hz⟩ : ∃ x, x = z.getD k (0, 0, false) := ⟨_, rfl⟩
      rw [← hz] at x0 x1 x2
      clear hz
      obtain ⟨way, a, b⟩ := x
      simp only at x0 x1 x2
      rw [add_field ad _ 1 (by decide)] at x1
      rw [add_field ad _ 2 (by decide)] at x2
      have OF := Aside0.mk PL.out.ok.fail
      have OL : Aside0 (((failE Eo).out.length + 1) * 16 ≤ 140737488355328) := ⟨Nat.le_trans (Nat.mul_le_mul_right 16 (show Eo.out.length + 1 ≤ 201 by have := PL.out.olen; omega)) (by decide)⟩
      have EL1 : Aside0 ((E.out.length + 1) * 16 ≤ 140737488355328) := ⟨Nat.le_trans (Nat.mul_le_mul_right 16 (show E.out.length + 1 ≤ 600000 by omega)) (by decide)⟩
      have RL1 : Aside0 ((R.out.length + 1) * 16 ≤ 140737488355328) := ⟨by rw [PL.out.sim.out]; exact EL1.out⟩
      have RT0 : Aside0 (0 ≤ R.token) := ⟨by rw [PL.out.sim.token]; exact PL.out.sim.ok.t0⟩
      have RT1 : Aside0 (R.token < 256) := ⟨by rw [PL.out.sim.token]; exact PL.out.sim.ok.t1⟩
      have RF0 : Aside0 (1 ≤ R.flush) := ⟨by rw [PL.out.sim.flush]; exact PL.out.sim.ok.f0⟩
      have RA0 : Aside0 (1 ≤ R.again) := ⟨by rw [PL.out.sim.again]; exact PL.out.sim.ok.a0⟩
      have RA1 : Aside0 (R.again ≤ 1048576) := ⟨by rw [PL.out.sim.again]; exact PL.out.sim.ok.a1⟩
      have RL0 : Aside0 (R.state = 2 → 1 ≤ R.left) := ⟨fun h => by have hs := PL.out.sim.state.symm.trans h; rw [PL.out.sim.left hs]; exact PL.out.sim.ok.l2 (.inr hs)⟩
      go_upto_block 2 with (first
      | (go_at_call 9; have TA := T5.out.step (below_alloc (Below.refl _ _) (.cells #[.int .i64 way, .int .i64 a, .bool b] 27)); have AA := Ob.new wr 27 [.int .i64 way, .int .i64 a, .bool b]; generalize hwA : wr.alloc (.cells #[.int .i64 way, .int .i64 a, .bool b] 27) = wA at TA AA ⊢; generalize wr.heap.size = gA at AA ⊢; clear hwA; have y0 := AA.at_ 0 (v := .int .i64 way) rfl; have y1 := AA.at_ 1 (v := .int .i64 a) rfl; have y2 := AA.at_ 2 (v := .bool b) rfl; have A6 := Aside0.mk AA; have T6 := Aside0.mk TA; clear AA TA; have hcall := fail_ok w.heap.size go _ Eo PL.out.ok _ T6.out.below.size T6.out.o; (with_reducible refine hcall.mono ?_); clear hcall; rintro e w7 ⟨rfl, i, m⟩; have A7 := Aside0.mk (ob_mvt A6.out T6.out.o m (by decide) (by decide)); clear y0 y1 y2; have y0 := A7.out.at_ 0 (v := _) rfl; have y1 := A7.out.at_ 1 (v := _) rfl; have y2 := A7.out.at_ 2 (v := _) rfl; have T7 := Aside0.mk (T6.out.moveO m i); clear i m)
      | (go_at_call 11; have hcall := note_ok w.heap.size go _ (failE Eo) true OF.out OL.out _ T7.out.below.size T7.out.o; (with_reducible refine hcall.mono ?_); clear hcall; rintro e w8 ⟨rfl, u2, i, m⟩; have A8 := Aside0.mk (ob_mvt A7.out T7.out.o m (by decide) (by decide)); clear y0 y1 y2; have y0 := A8.out.at_ 0 (v := _) rfl; have y1 := A8.out.at_ 1 (v := _) rfl; have y2 := A8.out.at_ 2 (v := _) rfl; have T8 := Aside0.mk (T7.out.moveO m i); clear i m))
      clear x0 x1 x2
      go_cut [] (fun wc => ∃ (E1 : En) (R1 : Rn) (u1 u2 u3 : Value), Aside0 (Pl E1 (noteE (failE Eo) true) R1 (k + 1)) ∧ Aside0 (Three w wc g go gr u1 u2 u3 E1 (noteE (failE Eo) true) R1))
      case first =>
        by_cases hw0 : way = 0
        · subst hw0
          have S1 := Aside0.mk PL.out.sim.fail
          go_wp2_with (first
      | (go_at_call 9; have hcall := fail_ok w.heap.size g _ E PL.out.sim.ok _ T8.out.below.size T8.out.e; (with_reducible refine hcall.mono ?_); clear hcall; rintro e w9 ⟨rfl, i, m⟩; have A9 := Aside0.mk (ob_mvt A8.out T8.out.e m (by decide) (by decide)); clear y0 y1 y2; have y0 := A9.out.at_ 0 (v := _) rfl; have y1 := A9.out.at_ 1 (v := _) rfl; have y2 := A9.out.at_ 2 (v := _) rfl; have T9 := Aside0.mk (T8.out.moveE m i); clear i m)
      | (go_at_call 14; have hcall := failr_ok w.heap.size gr _ R RT0.out RT1.out _ T9.out.below.size T9.out.r; (with_reducible refine hcall.mono ?_); clear hcall; rintro e w10 ⟨rfl, i, m⟩; have A10 := Aside0.mk (ob_mvt A9.out T9.out.r m (by decide) (by decide)); clear y0 y1 y2; have y0 := A10.out.at_ 0 (v := _) rfl; have y1 := A10.out.at_ 1 (v := _) rfl; have y2 := A10.out.at_ 2 (v := _) rfl; have T10 := Aside0.mk (T9.out.moveR m i); clear i m))
          go_meet
          case rel => exact ⟨_, _, _, _, _, ⟨PL.out.next (PL.out.wide S1.out) (by simp [failE])⟩, T10⟩
        · have bw0 : (way == 0) = false := beq_eq_false_iff_ne.mpr hw0
          by_cases hw1 : way = 1
          · subst hw1
            have S1 := Aside0.mk (PL.out.sim.note (by omega) b)
            have NL := Aside0.mk (note_len E b)
            clear hw0
            go_wp2_with (first
      | (go_at_call 11; have hcall := note_ok w.heap.size g _ E b PL.out.sim.ok EL1.out _ T8.out.below.size T8.out.e; (with_reducible refine hcall.mono ?_); clear hcall; rintro e w9 ⟨rfl, u2, i, m⟩; have A9 := Aside0.mk (ob_mvt A8.out T8.out.e m (by decide) (by decide)); clear y0 y1 y2; have y0 := A9.out.at_ 0 (v := _) rfl; have y1 := A9.out.at_ 1 (v := _) rfl; have y2 := A9.out.at_ 2 (v := _) rfl; have T9 := Aside0.mk (T8.out.moveE m i); clear i m)
      | (go_at_call 15; have hcall := noter_ok w.heap.size gr _ R b PL.out.sim.n0 PL.out.sim.n1 RF0.out RL1.out _ T9.out.below.size T9.out.r; (with_reducible refine hcall.mono ?_); clear hcall; rintro e w10 ⟨rfl, u3, i, m⟩; have A10 := Aside0.mk (ob_mvt A9.out T9.out.r m (by decide) (by decide)); clear y0 y1 y2; have y0 := A10.out.at_ 0 (v := _) rfl; have y1 := A10.out.at_ 1 (v := _) rfl; have y2 := A10.out.at_ 2 (v := _) rfl; have T10 := Aside0.mk (T9.out.moveR m i); clear i m))
            go_meet
            case rel => exact ⟨_, _, _, _, _, ⟨PL.out.next (PL.out.wide S1.out) (by have := NL.out; omega)⟩, T10⟩
          · have bw1 : (way == 1) = false := beq_eq_false_iff_ne.mpr hw1
            by_cases hw2 : way = 2
            · subst hw2
              clear hw0 hw1
              by_cases ha : 5000 < a
              · go_wp2_with fail
                go_ret
                exact ⟨rfl, T8.out.below⟩
              · have S1 := Aside0.mk (PL.out.sim.pass (by omega) a)
                have PA := Aside0.mk (passE_ok PL.out.sim.ok a)
                have PN : Aside0 (passN a ≤ 5000) := ⟨by unfold passN cutQ; (repeat' split) <;> omega⟩
                have EL2 : Aside0 ((E.out.length + (passN a).toNat + 2) * 16 ≤ 140737488355328) := ⟨Nat.le_trans (Nat.mul_le_mul_right 16 (show E.out.length + (passN a).toNat + 2 ≤ 600000 by have := PN.out; omega)) (by decide)⟩
                have RL2 : Aside0 ((R.out.length + (passN a).toNat + 2) * 16 ≤ 140737488355328) := ⟨by rw [PL.out.sim.out]; exact EL2.out⟩
                go_wp2_with (first
      | (go_at_call 16; have hcall := pass_ok w.heap.size g _ E a PL.out.sim.ok EL2.out _ T8.out.below.size T8.out.e; (with_reducible refine hcall.mono ?_); clear hcall; rintro e w9 ⟨rfl, u2, i, m⟩; have A9 := Aside0.mk (ob_mvt A8.out T8.out.e m (by decide) (by decide)); clear y0 y1 y2; have y0 := A9.out.at_ 0 (v := _) rfl; have y1 := A9.out.at_ 1 (v := _) rfl; have y2 := A9.out.at_ 2 (v := _) rfl; have T9 := Aside0.mk (T8.out.moveE m i); clear i m)
      | (go_at_call 17; have hcall := passr_ok w.heap.size gr _ R a (1048576 * k) (by omega) (by omega) RA0.out RA1.out PL.out.sim.lo PL.out.sim.hi RL0.out RL2.out _ T9.out.below.size T9.out.r; (with_reducible refine hcall.mono ?_); clear hcall; rintro e w10 ⟨rfl, u3, i, m⟩; have A10 := Aside0.mk (ob_mvt A9.out T9.out.r m (by decide) (by decide)); clear y0 y1 y2; have y0 := A10.out.at_ 0 (v := _) rfl; have y1 := A10.out.at_ 1 (v := _) rfl; have y2 := A10.out.at_ 2 (v := _) rfl; have T10 := Aside0.mk (T9.out.moveR m i); clear i m))
                go_meet
                case rel => exact ⟨_, _, _, _, _, ⟨PL.out.next (by have := S1.out; rwa [show (1048576 * (k : Int) + 1048576) = 1048576 * ((k + 1 : Nat) : Int) by omega] at this) (by have := PA.out.2; have := PN.out; omega)⟩, T10⟩
            · have bw2 : (way == 2) = false := beq_eq_false_iff_ne.mpr hw2
              by_cases hw3 : way = 3
              · subst hw3
                have ex : IntKind.u8.wrap a = a % 256 := u8w a
                have hx0 : 0 ≤ a % 256 := by omega
                have hx1 : a % 256 < 256 := by omega
                generalize a % 256 = x at ex hx0 hx1
                have S1 := Aside0.mk (PL.out.sim.input b x)
                have NL := Aside0.mk (input_len E b x)
                clear hw0 hw1 hw2
                go_wp2_with (first
      | (go_at_call 12; have hcall := input_ok w.heap.size g _ E b x hx0 hx1 PL.out.sim.ok EL1.out _ T8.out.below.size T8.out.e; (with_reducible refine hcall.mono ?_); clear hcall; rintro e w9 ⟨rfl, u2, i, m⟩; have A9 := Aside0.mk (ob_mvt A8.out T8.out.e m (by decide) (by decide)); clear y0 y1 y2; have y0 := A9.out.at_ 0 (v := _) rfl; have y1 := A9.out.at_ 1 (v := _) rfl; have y2 := A9.out.at_ 2 (v := _) rfl; have T9 := Aside0.mk (T8.out.moveE m i); clear i m)
      | (go_at_call 18; have hcall := inputr_ok w.heap.size gr _ R b x hx0 hx1 RL1.out _ T9.out.below.size T9.out.r; (with_reducible refine hcall.mono ?_); clear hcall; rintro e w10 ⟨rfl, u3, i, m⟩; have A10 := Aside0.mk (ob_mvt A9.out T9.out.r m (by decide) (by decide)); clear y0 y1 y2; have y0 := A10.out.at_ 0 (v := _) rfl; have y1 := A10.out.at_ 1 (v := _) rfl; have y2 := A10.out.at_ 2 (v := _) rfl; have T10 := Aside0.mk (T9.out.moveR m i); clear i m))
                go_meet
                case rel => exact ⟨_, _, _, _, _, ⟨PL.out.next (PL.out.wide S1.out) (by have := NL.out; omega)⟩, T10⟩
              · have bw3 : (way == 3) = false := beq_eq_false_iff_ne.mpr hw3
                by_cases hw4 : way = 4
                · subst hw4
                  have S1 := Aside0.mk PL.out.sim.clear
                  obtain ⟨q, hq⟩ : ∃ q, q = E.out.length := ⟨_, rfl⟩
                  have LE : Aside0 (E.out.length = q) := ⟨hq.symm⟩
                  have LR : Aside0 (R.out.length = q) := ⟨by rw [PL.out.sim.out]; exact hq.symm⟩
                  have OEQ : Aside0 (R.out = E.out) := ⟨PL.out.sim.out⟩
                  have EL : Aside0 (E.out.length * 16 ≤ 140737488355328) := ⟨Nat.le_trans (Nat.mul_le_mul_right 16 (Nat.le_succ _)) EL1.out⟩
                  have hq2 : q ≤ 600000 := by omega
                  clear hw0 hw1 hw2 hw3 hq
                  go_wp2_with (first
      | (go_at_call 20; have hcall := output_ok w.heap.size g _ E EL.out _ T8.out.below.size T8.out.e; (with_reducible refine hcall.mono ?_); clear hcall; rintro e w9 ⟨v1, rfl, o1, i, m⟩; have O1 := Aside0.mk (o1.lower T8.out.below.size); have T9 : Aside0 (Three w w9 g go gr _ _ _ (outE E []) _ R) := Aside0.mk (T8.out.moveE m i); clear i m o1)
      | (go_at_call 21; have hcall := outputr_ok w.heap.size gr _ R _ T9.out.below.size T9.out.r; (with_reducible refine hcall.mono ?_); clear hcall; rintro e w10 ⟨rfl, o2, i, fr⟩; have O1' := own_fr O1.out fr (own_ne O1.out T9.out.r.tab (by decide)); have m : Mv gr ur (.slice none 0 0) w9 w10 := Mv.nil (v1 := ur) ⟨fr.mono (fun _ e => .inl e), fun _ e => .inl e⟩; have T10 : Aside0 (Three w w10 g go gr _ _ _ (outE E []) _ (outR R [])) := Aside0.mk (T9.out.moveR m i); obtain ⟨Ae, ce, hve, _⟩ := O1'.sliceN LE.out; subst hve; obtain ⟨Ar, cr, hvr, _⟩ := o2.sliceN LR.out; subst hvr; have RE := Aside0.mk O1'.rds; have RR := Aside0.mk o2.rds; clear i m o2 fr O1')
      | (go_at_call 19; have hcall := same_ok Ae Ar q ce cr _ _ RE.out (OEQ.out ▸ RR.out) (by omega); (with_reducible refine hcall.mono ?_); clear hcall; rintro e w11 ⟨rfl, hb⟩; have T11 := Aside0.mk (T10.out.step hb); clear hb))
                  go_meet
                  case rel => exact ⟨_, _, _, _, _, ⟨PL.out.next (PL.out.wide S1.out) (by simp [outE])⟩, T11⟩
                · have bw4 : (way == 4) = false := beq_eq_false_iff_ne.mpr hw4
                  clear hw0 hw1 hw2 hw3 hw4
                  go_wp2_with fail
                  go_meet
                  case rel => exact ⟨_, _, _, _, _, ⟨PL.out.next (PL.out.wide PL.out.sim) (by omega)⟩, T8⟩
      case rest =>
        clear y0 y1 y2 A6 A7 A8 T5 T6 T7 T8 SL
        obtain ⟨E1, R1, u1, u2, u3, PL1, T9⟩ := hcut
        have e1 : R1.state = E1.state := PL1.out.sim.state
        go_wp2_with (first
      | (go_at_call 10; have hcall := state_ok w.heap.size g _ E1 _ T9.out.below.size T9.out.e; (with_reducible refine hcall.mono ?_); clear hcall; rintro e w' ⟨rfl, rfl⟩)
      | (go_at_call 22; have hcall := stater_ok w.heap.size gr _ R1 _ T9.out.below.size T9.out.r; (with_reducible refine hcall.mono ?_); clear hcall; rintro e w' ⟨rfl, rfl⟩))
        go_roundg (n - k)
        case measure => omega
        case rel => exact ⟨k + 1, _, _, _, _, _, _, by go_num, by omega, by omega, PL1, T9⟩
    · obtain ⟨q, hq⟩ : ∃ q, q = E.out.length := ⟨_, rfl⟩
      have LE : Aside0 (E.out.length = q) := ⟨hq.symm⟩
      have LR : Aside0 (R.out.length = q) := ⟨by rw [PL.out.sim.out]; exact hq.symm⟩
      have OEQ : Aside0 (R.out = E.out) := ⟨PL.out.sim.out⟩
      have EL : Aside0 (E.out.length * 16 ≤ 140737488355328) := ⟨Nat.le_trans (Nat.mul_le_mul_right 16 (show E.out.length ≤ 600000 by omega)) (by decide)⟩
      have hq2 : q ≤ 600000 := by omega
      clear hq SL
      go_wp2_with (first
      | (go_at_call 20; have hcall := output_ok w.heap.size g _ E EL.out _ T5.out.below.size T5.out.e; (with_reducible refine hcall.mono ?_); clear hcall; rintro e w6 ⟨v1, rfl, o1, i, m⟩; have O1 := Aside0.mk (o1.lower T5.out.below.size); have T6 : Aside0 (Three w w6 g go gr _ _ _ (outE E []) _ R) := Aside0.mk (T5.out.moveE m i); clear i m o1)
      | (go_at_call 21; have hcall := outputr_ok w.heap.size gr _ R _ T6.out.below.size T6.out.r; (with_reducible refine hcall.mono ?_); clear hcall; rintro e w7 ⟨rfl, o2, i, fr⟩; have O1' := own_fr O1.out fr (own_ne O1.out T6.out.r.tab (by decide)); have m : Mv gr ur (.slice none 0 0) w6 w7 := Mv.nil (v1 := ur) ⟨fr.mono (fun _ e => .inl e), fun _ e => .inl e⟩; have T7 : Aside0 (Three w w7 g go gr _ _ _ (outE E []) _ (outR R [])) := Aside0.mk (T6.out.moveR m i); obtain ⟨Ae, ce, hve, _⟩ := O1'.sliceN LE.out; subst hve; obtain ⟨Ar, cr, hvr, _⟩ := o2.sliceN LR.out; subst hvr; have RE := Aside0.mk O1'.rds; have RR := Aside0.mk o2.rds; clear i m o2 fr O1')
      | (go_at_call 19; have hcall := same_ok Ae Ar q ce cr _ _ RE.out (OEQ.out ▸ RR.out) (by omega); (with_reducible refine hcall.mono ?_); clear hcall; rintro e w8 ⟨rfl, hb⟩; have T8 := Aside0.mk (T7.out.step hb); clear hb))
      go_ret
      exact ⟨rfl, T8.out.below⟩
set_option maxHeartbeats 8000000 in
set_option maxRecDepth 100000 in
theorem plays_long (f a0 : Int) (A : Option Addr) (n c : Nat) (w : World) (hl : 100 < n) (hm : n ≤ 9223372036854775807) : Calls Try.prog 4 #[.int .i64 f, .int .i64 a0, .slice A n c] w fun e w' => e = .returned (.bool true) ∧ Below w.heap.size w w' := by
  have h2 : (100 : Int) < (n : Int) := by omega
  clear hl
  go_enter Try.func4, Try.ntmps4
  go_wp2_with (first
      | (go_at_call 7; (with_reducible refine (alive_ok _).mono ?_); rintro e w1 ⟨rfl, hb1⟩; have HB1 := Aside0.mk hb1; clear hb1))
  go_ret
  exact ⟨rfl, HB1.out⟩
theorem walk (a0 a1 : Int) (a2 : Option Addr) (len2 cap2 : Nat) (z2 : List (Int × Int × Bool)) (W : World) (_h0 : (Lit.int .i64 a0).wf = true) (_h1 : (Lit.int .i64 a1).wf = true) (w2 : IsActs W a2 len2 cap2 z2) :
    Calls Try.prog 4 #[.int .i64 a0, .int .i64 a1, .slice a2 len2 cap2] W fun e w' => e = .returned (.bool true) ∧ Below W.heap.size W w' := by
  rcases Nat.lt_or_ge 100 len2 with h | h
  · exact plays_long a0 a1 a2 len2 cap2 W h w2.len.2
  · exact plays_in a0 a1 a2 len2 cap2 z2 W w2 h

end Go.Proofs.Ytflgngnkfcfhpaa.RePlaysW
