/- An end that failed opens again only behind enough good notes, and by its answer: the walk. -/
import Derived.Test.YtflgngnkfcfhpaaReF
import Derived.Test.YtflgngnkfcfhpaaReO
import Derived.Test.YtflgngnkfcfhpaaOpenA
namespace Go.Proofs.Ytflgngnkfcfhpaa.ReOpensW
open Go.RowKit Go.Proofs.YtflgngnkfcfhpaaW.PrintWords Go.Proofs.YtflgngnkfcfhpaaW.PrintLast Go.Proofs.YtflgngnkfcfhpaaW.PrintMore Go.Proofs.Ytflgngnkfcfhpaa.K Go.Proofs.Ytflgngnkfcfhpaa.ReP Go.Proofs.Ytflgngnkfcfhpaa.ReA Go.Proofs.Ytflgngnkfcfhpaa.ReB Go.Proofs.Ytflgngnkfcfhpaa.ReC Go.Proofs.Ytflgngnkfcfhpaa.ReD Go.Proofs.Ytflgngnkfcfhpaa.ReF Go.Proofs.Ytflgngnkfcfhpaa.ReO Go.Proofs.Ytflgngnkfcfhpaa.OpenA
set_option linter.unusedVariables false
set_option linter.unusedSimpArgs false
attribute [local go_sem] max2_int min2_int max_two min_two

theorem ob_mv {w w1 : World} {gA t B g : Nat} {v v1 : Value} {l l' : List Value} {out : List (Int × Int)} (h : Ob w gA t l) (i : IsO 42 B w g v l' out) (m : Mv g v v1 w w1) (h1 : t ≠ 42) (h2 : 39 ≠ t) : Ob w1 gA t l :=
  h.fr m.fr (fun hf => hf.elim (blk_ne h i.tab h1) (fun e => own_ne i.row h h2 gA e rfl))
set_option maxHeartbeats 8000000 in
set_option maxRecDepth 100000 in
theorem opens_in (f : Int) (A : Option Addr) (n c : Nat) (z : List (Int × Int × Bool)) (w : World) (hr : IsActs w A n c z) (hn : n ≤ 200) (q0 : 1 ≤ f) (q1 : f ≤ 50) :
    Calls Try.prog 3 #[.int .i64 f, .slice A n c] w fun e w' => e = .returned (.bool true) ∧ Below w.heap.size w w' := by
  have HB0 := Aside0.mk (Below.refl w.heap.size w)
  have HR := Aside0.mk hr
  have IV := Aside0.mk (Inv.start f q0 q1)
  clear hr
  go_enter Try.func3, Try.ntmps3
  go_wp2_with (first
      | (go_at_call 7; (with_reducible refine (alive_ok _).mono ?_); rintro e w1 ⟨rfl, hb1⟩; have HB1 := Aside0.mk hb1; clear hb1)
      | (go_at_call 8; have hcall := new_ok f 10 w.heap.size _ HB1.out.size; (with_reducible refine hcall.mono ?_); clear hcall; rintro e w2 ⟨g, rfl, hg, i, hb⟩; have HG := Aside0.mk (Nat.le_trans HB1.out.size hg); have HB2 := Aside0.mk (below_step HB1.out hb); have I2 := Aside0.mk i; clear hg i hb)
      | (go_at_call 9; have hcall := fail_ok w.heap.size g _ (newE f 10) (Ok.new f 10) _ HB2.out.size I2.out; (with_reducible refine hcall.mono ?_); clear hcall; rintro e w3 ⟨rfl, i, m⟩; have HB3 := Aside0.mk (I2.out.down HG.out m HB2.out); have I3 := Aside0.mk i; clear i m))
  clear I2 HB2
  go_loopg [7, 8, 9, 10] (n + 1) (fun kq v7 v8 v9 v10 w' => ∃ (k : Nat) (E : En) (u : Value) (side : Int) (enough : Bool) (token : Int), v7 = .int .i64 side ∧ v8 = .bool enough ∧ v9 = .int .i64 token ∧ v10 = .int .i64 k ∧ k ≤ n ∧ kq = n + 1 - k ∧ Aside0 (Inv f E side enough token k) ∧ Aside0 (IsO 42 w.heap.size w' g u E.cells E.out) ∧ Aside0 (Below w.heap.size w w'))
  case atStart => exact ⟨0, _, _, 0, false, 1, rfl, rfl, rfl, by simp, by omega, by omega, IV, I3, HB3⟩
  case round =>
    clear I3 HB3 IV
    obtain ⟨k, E, u, side, enough, token, rfl, rfl, rfl, rfl, hk, hkq, IV, I4, HB4⟩ := hrel
    by_cases hlt : k < n
    · obtain ⟨ad, hA, x0, x1, x2⟩ := (HR.out.below HB4.out).at_ k hlt
      subst hA
      obtain ⟨x, hz⟩ : ∃ x, x = z.getD k (0, 0, false) := ⟨_, rfl⟩
      rw [← hz] at x0 x1 x2
      clear hz
      obtain ⟨way, a, b⟩ := x
      simp only at x0 x1 x2
      rw [add_field ad _ 1 (by decide)] at x1
      rw [add_field ad _ 2 (by decide)] at x2
      go_upto_block 2 with (first
      | (go_at_call 10; have IA := IsO.below I4.out (below_alloc (Below.refl _ _) (.cells #[.int .i64 way, .int .i64 a, .bool b] 27)); have BA := below_step HB4.out (below_alloc (Below.refl wr.heap.size wr) (.cells #[.int .i64 way, .int .i64 a, .bool b] 27)); have AA := Ob.new wr 27 [.int .i64 way, .int .i64 a, .bool b]; generalize hwA : wr.alloc (.cells #[.int .i64 way, .int .i64 a, .bool b] 27) = wA at IA BA AA ⊢; generalize wr.heap.size = gA at AA ⊢; clear hwA; have y0 := AA.at_ 0 (v := .int .i64 way) rfl; have y1 := AA.at_ 1 (v := .int .i64 a) rfl; have y2 := AA.at_ 2 (v := .bool b) rfl; have A5 := Aside0.mk AA; have I5 := Aside0.mk IA; have HB5 := Aside0.mk BA; clear AA IA BA; have hcall := state_ok w.heap.size g _ E _ HB5.out.size I5.out; (with_reducible refine hcall.mono ?_); clear hcall; rintro e w' ⟨rfl, rfl⟩))
      go_cut [7, 8, 9, 13] (fun v7 v8 v9 v13 wc => ∃ (E1 : En) (u1 : Value) (side : Int) (enough answer : Bool) (token : Int), v7 = .int .i64 side ∧ v8 = .bool enough ∧ v9 = .int .i64 token ∧ v13 = .bool answer ∧ Aside0 (Inv f E1 side enough token (k + 1)) ∧ Aside0 (Chk E.state E1.state enough answer) ∧ Aside0 (IsO 42 w.heap.size wc g u1 E1.cells E1.out) ∧ Aside0 (Below w.heap.size w wc))
      case first =>
        have HLEN : Aside0 ((E.out.length + 1) * 16 ≤ 140737488355328) := ⟨Nat.le_trans (Nat.mul_le_mul_right 16 (show E.out.length + 1 ≤ 201 by have := IV.out.len; omega)) (by decide)⟩
        have t0 := IV.out.ok.t0
        have t1 := IV.out.ok.t1
        rw [IV.out.tok] at t0 t1
        have l0 := IV.out.lo
        have l1 := IV.out.hi
        by_cases hw0 : way = 0
        · subst hw0
          have HI := Aside0.mk IV.out.fail
          have e3 : IntKind.i64.wrap (token + 1) = token + 1 := w64 (by omega) (by omega)
          have e4 : bits .and .i64 (token + 1) 255 = (token + 1) % 256 := and255 _
          clear x0 x1 x2
          go_wp2_with (first
      | (go_at_call 9; have hcall := fail_ok w.heap.size g _ E IV.out.ok _ HB5.out.size I5.out; (with_reducible refine hcall.mono ?_); clear hcall; rintro e w6 ⟨rfl, i, m⟩; have HB6 := Aside0.mk (I5.out.down HG.out m HB5.out); have I6 := Aside0.mk i; clear i m))
          go_meet
          case rel => exact ⟨failE E, _, 0, false, false, (token + 1) % 256, rfl, rfl, rfl, rfl, HI, ⟨⟨fun _ h => absurd h (by simp [failE]), fun _ h => by cases h⟩⟩, I6, HB6⟩
        · have bw0 : (way == 0) = false := beq_eq_false_iff_ne.mpr hw0
          by_cases hw1 : way = 1
          · subst hw1
            have HN := Aside0.mk (IV.out.note b)
            have e3 : IntKind.i64.wrap (side + 1) = side + 1 := w64 (by omega) (by omega)
            clear x0 x1 x2 hw0
            cases b
            · cases enough
              · have hd : decide (f ≤ 0) = false := by simp; omega
                go_wp2_with (first
      | (go_at_call 11; have hcall := note_ok w.heap.size g _ E false IV.out.ok HLEN.out _ HB5.out.size I5.out; (with_reducible refine hcall.mono ?_); clear hcall; rintro e w6 ⟨rfl, u2, i, m⟩; have AA := ob_mv A5.out I5.out m (by decide) (by decide); clear y0 y1 y2; have y2 := AA.at_ 2 (v := .bool false) rfl; have y1 := AA.at_ 1 (v := .int .i64 a) rfl; clear AA; have HB6 := Aside0.mk (I5.out.down HG.out m HB5.out); have I6 := Aside0.mk i; clear i m))
                go_meet
                case rel => exact ⟨noteE E false, _, 0, false, false, token, rfl, rfl, rfl, rfl, ⟨by have := HN.out.1; simpa [hd] using this⟩, ⟨⟨fun h1 h2 => absurd (HN.out.2.1 h2) h1, fun _ h => by cases h⟩⟩, I6, HB6⟩
              · go_wp2_with (first
      | (go_at_call 11; have hcall := note_ok w.heap.size g _ E false IV.out.ok HLEN.out _ HB5.out.size I5.out; (with_reducible refine hcall.mono ?_); clear hcall; rintro e w6 ⟨rfl, u2, i, m⟩; have AA := ob_mv A5.out I5.out m (by decide) (by decide); clear y0 y1 y2; have y2 := AA.at_ 2 (v := .bool false) rfl; have y1 := AA.at_ 1 (v := .int .i64 a) rfl; clear AA; have HB6 := Aside0.mk (I5.out.down HG.out m HB5.out); have I6 := Aside0.mk i; clear i m))
                go_meet
                case rel => exact ⟨noteE E false, _, 0, true, false, token, rfl, rfl, rfl, rfl, ⟨by have := HN.out.1; simpa using this⟩, ⟨⟨fun h1 h2 => absurd (HN.out.2.1 h2) h1, fun _ h => by cases h⟩⟩, I6, HB6⟩
            · cases enough
              · by_cases hf : f ≤ side + 1
                · have HF := Aside0.mk hf
                  go_wp2_with (first
      | (go_at_call 11; have hcall := note_ok w.heap.size g _ E true IV.out.ok HLEN.out _ HB5.out.size I5.out; (with_reducible refine hcall.mono ?_); clear hcall; rintro e w6 ⟨rfl, u2, i, m⟩; have AA := ob_mv A5.out I5.out m (by decide) (by decide); clear y0 y1 y2; have y2 := AA.at_ 2 (v := .bool true) rfl; have y1 := AA.at_ 1 (v := .int .i64 a) rfl; clear AA; have HB6 := Aside0.mk (I5.out.down HG.out m HB5.out); have I6 := Aside0.mk i; clear i m))
                  go_meet
                  case rel => exact ⟨noteE E true, _, side + 1, true, false, token, rfl, rfl, rfl, rfl, ⟨by have := HN.out.1; simpa [HF.out] using this⟩, ⟨⟨fun h1 h2 => absurd (HN.out.2.1 h2) h1, fun _ h => by cases h⟩⟩, I6, HB6⟩
                · have HF := Aside0.mk hf
                  have hf2 : decide (f ≤ side + 1) = false := decide_eq_false hf
                  go_wp2_with (first
      | (go_at_call 11; have hcall := note_ok w.heap.size g _ E true IV.out.ok HLEN.out _ HB5.out.size I5.out; (with_reducible refine hcall.mono ?_); clear hcall; rintro e w6 ⟨rfl, u2, i, m⟩; have AA := ob_mv A5.out I5.out m (by decide) (by decide); clear y0 y1 y2; have y2 := AA.at_ 2 (v := .bool true) rfl; have y1 := AA.at_ 1 (v := .int .i64 a) rfl; clear AA; have HB6 := Aside0.mk (I5.out.down HG.out m HB5.out); have I6 := Aside0.mk i; clear i m))
                  go_meet
                  case rel => exact ⟨noteE E true, _, side + 1, false, false, token, rfl, rfl, rfl, rfl, ⟨by have := HN.out.1; have hd : decide (f ≤ side + 1) = false := decide_eq_false (by omega); simpa [hd] using this⟩, ⟨⟨fun h1 h2 => absurd (HN.out.2.1 h2) h1, fun _ h => by cases h⟩⟩, I6, HB6⟩
              · go_wp2_with (first
      | (go_at_call 11; have hcall := note_ok w.heap.size g _ E true IV.out.ok HLEN.out _ HB5.out.size I5.out; (with_reducible refine hcall.mono ?_); clear hcall; rintro e w6 ⟨rfl, u2, i, m⟩; have AA := ob_mv A5.out I5.out m (by decide) (by decide); clear y0 y1 y2; have y2 := AA.at_ 2 (v := .bool true) rfl; have y1 := AA.at_ 1 (v := .int .i64 a) rfl; clear AA; have HB6 := Aside0.mk (I5.out.down HG.out m HB5.out); have I6 := Aside0.mk i; clear i m))
                go_meet
                case rel => exact ⟨noteE E true, _, side + 1, true, false, token, rfl, rfl, rfl, rfl, ⟨by have := HN.out.1; simpa using this⟩, ⟨⟨fun h1 h2 => absurd (HN.out.2.1 h2) h1, fun _ h => by cases h⟩⟩, I6, HB6⟩
          · have bw1 : (way == 1) = false := beq_eq_false_iff_ne.mpr hw1
            by_cases hw3 : way = 3
            · subst hw3
              have ex : IntKind.u8.wrap a = a % 256 := u8w a
              have ea : bits .and .i64 a 255 = a % 256 := and255 a
              have hx0 : 0 ≤ a % 256 := by omega
              have hx1 : a % 256 < 256 := by omega
              generalize a % 256 = x at ex ea hx0 hx1
              have HI := Aside0.mk (IV.out.input b x)
              clear x0 x1 x2 hw0 hw1
              cases b
              · by_cases hx : x = token
                · have HX := Aside0.mk hx
                  have bx : (x == token) = true := beq_iff_eq.mpr hx
                  clear hx
                  go_wp2_with (first
      | (go_at_call 12; have hcall := input_ok w.heap.size g _ E false x (by omega) (by omega) IV.out.ok HLEN.out _ HB5.out.size I5.out; (with_reducible refine hcall.mono ?_); clear hcall; rintro e w6 ⟨rfl, u2, i, m⟩; have AA := ob_mv A5.out I5.out m (by decide) (by decide); clear y0 y1 y2; have y2 := AA.at_ 2 (v := .bool false) rfl; have y1 := AA.at_ 1 (v := .int .i64 a) rfl; clear AA; have HB6 := Aside0.mk (I5.out.down HG.out m HB5.out); have I6 := Aside0.mk i; clear i m))
                  go_meet
                  case rel => exact ⟨inputE E false x, _, side, enough, true, token, rfl, rfl, rfl, rfl, ⟨HI.out.1⟩, ⟨by
                    refine ⟨fun h1 h2 => ⟨?_, rfl⟩, fun h1 _ => (HI.out.2.2.1 (by first | rfl | trivial) HX.out h1).1⟩
                    by_cases hs : E.state = 2
                    · exact (HI.out.2.2.1 (by first | rfl | trivial) HX.out hs).2
                    · exact absurd ((HI.out.2.2.2 hs).symm.trans h2) h1⟩, I6, HB6⟩
                · have HX := Aside0.mk hx
                  have bx : (x == token) = false := beq_eq_false_iff_ne.mpr hx
                  clear hx
                  go_wp2_with (first
      | (go_at_call 12; have hcall := input_ok w.heap.size g _ E false x (by omega) (by omega) IV.out.ok HLEN.out _ HB5.out.size I5.out; (with_reducible refine hcall.mono ?_); clear hcall; rintro e w6 ⟨rfl, u2, i, m⟩; have AA := ob_mv A5.out I5.out m (by decide) (by decide); clear y0 y1 y2; have y2 := AA.at_ 2 (v := .bool false) rfl; have y1 := AA.at_ 1 (v := .int .i64 a) rfl; clear AA; have HB6 := Aside0.mk (I5.out.down HG.out m HB5.out); have I6 := Aside0.mk i; clear i m))
                  go_meet
                  case rel => exact ⟨inputE E false x, _, side, enough, false, token, rfl, rfl, rfl, rfl, ⟨HI.out.1⟩, ⟨⟨fun h1 h2 => absurd ((HI.out.2.1 (.inr HX.out)).symm.trans h2) h1, fun _ h => by cases h⟩⟩, I6, HB6⟩
              · go_wp2_with (first
      | (go_at_call 12; have hcall := input_ok w.heap.size g _ E true x (by omega) (by omega) IV.out.ok HLEN.out _ HB5.out.size I5.out; (with_reducible refine hcall.mono ?_); clear hcall; rintro e w6 ⟨rfl, u2, i, m⟩; have AA := ob_mv A5.out I5.out m (by decide) (by decide); clear y0 y1 y2; have y2 := AA.at_ 2 (v := .bool true) rfl; have y1 := AA.at_ 1 (v := .int .i64 a) rfl; clear AA; have HB6 := Aside0.mk (I5.out.down HG.out m HB5.out); have I6 := Aside0.mk i; clear i m))
                go_meet
                case rel => exact ⟨inputE E true x, _, side, enough, false, token, rfl, rfl, rfl, rfl, ⟨HI.out.1⟩, ⟨⟨fun h1 h2 => absurd ((HI.out.2.1 (.inl (by first | rfl | trivial))).symm.trans h2) h1, fun _ h => by cases h⟩⟩, I6, HB6⟩
            · have bw3 : (way == 3) = false := beq_eq_false_iff_ne.mpr hw3
              clear x0 x1 x2 hw0 hw1 hw3
              go_wp2_with fail
              go_meet
              case rel => exact ⟨E, _, side, enough, false, token, rfl, rfl, rfl, rfl, ⟨IV.out.next⟩, ⟨⟨fun h1 h2 => absurd h2 h1, fun _ h => by cases h⟩⟩, I5, HB5⟩
      case rest =>
        clear x0 x1 x2 y0 y1 y2 A5 I5 HB5 I4 HB4
        obtain ⟨E1, u1, side1, enough1, answer, token1, rfl, rfl, rfl, rfl, IV1, CK, I6, HB6⟩ := hcut
        by_cases hs : E.state = 0
        · have b0 : (E.state != 0) = false := by simp [bne, hs]
          have b2 : (E.state == 2) = false := beq_eq_false_iff_ne.mpr (by omega)
          clear hs
          go_wp2_with (first
      | (go_at_call 10; have hcall := state_ok w.heap.size g _ E1 _ HB6.out.size I6.out; (with_reducible refine hcall.mono ?_); clear hcall; rintro e w' ⟨rfl, rfl⟩))
          go_roundg (n - k)
          case measure => omega
          case rel => exact ⟨k + 1, E1, u1, _, _, _, rfl, rfl, rfl, by go_num, by omega, by omega, IV1, I6, HB6⟩
        · have b0 : (E.state != 0) = true := by simp [bne, hs]
          by_cases h2 : E1.state = 0
          · obtain ⟨he, ha⟩ := CK.out.1 hs h2
            subst he ha
            have b1 : (E1.state == 0) = true := beq_iff_eq.mpr h2
            have c1 : (E1.state != 0) = false := by simp [bne, h2]
            clear hs h2
            by_cases h3 : E.state = 2
            · have b2 : (E.state == 2) = true := beq_iff_eq.mpr h3
              clear h3
              go_wp2_with (first
      | (go_at_call 10; have hcall := state_ok w.heap.size g _ E1 _ HB6.out.size I6.out; (with_reducible refine hcall.mono ?_); clear hcall; rintro e w' ⟨rfl, rfl⟩))
              go_roundg (n - k)
              case measure => omega
              case rel => exact ⟨k + 1, E1, u1, _, _, _, rfl, rfl, rfl, by go_num, by omega, by omega, IV1, I6, HB6⟩
            · have b2 : (E.state == 2) = false := beq_eq_false_iff_ne.mpr h3
              clear h3
              go_wp2_with (first
      | (go_at_call 10; have hcall := state_ok w.heap.size g _ E1 _ HB6.out.size I6.out; (with_reducible refine hcall.mono ?_); clear hcall; rintro e w' ⟨rfl, rfl⟩))
              go_roundg (n - k)
              case measure => omega
              case rel => exact ⟨k + 1, E1, u1, _, _, _, rfl, rfl, rfl, by go_num, by omega, by omega, IV1, I6, HB6⟩
          · have b1 : (E1.state == 0) = false := beq_eq_false_iff_ne.mpr h2
            by_cases h3 : E.state = 2
            · have b2 : (E.state == 2) = true := beq_iff_eq.mpr h3
              cases answer
              · clear h3 h2 hs
                go_wp2_with (first
      | (go_at_call 10; have hcall := state_ok w.heap.size g _ E1 _ HB6.out.size I6.out; (with_reducible refine hcall.mono ?_); clear hcall; rintro e w' ⟨rfl, rfl⟩))
                go_roundg (n - k)
                case measure => omega
                case rel => exact ⟨k + 1, E1, u1, _, _, _, rfl, rfl, rfl, by go_num, by omega, by omega, IV1, I6, HB6⟩
              · exact absurd (CK.out.2 h3 rfl) h2
            · have b2 : (E.state == 2) = false := beq_eq_false_iff_ne.mpr h3
              clear h3 h2 hs
              go_wp2_with (first
      | (go_at_call 10; have hcall := state_ok w.heap.size g _ E1 _ HB6.out.size I6.out; (with_reducible refine hcall.mono ?_); clear hcall; rintro e w' ⟨rfl, rfl⟩))
              go_roundg (n - k)
              case measure => omega
              case rel => exact ⟨k + 1, E1, u1, _, _, _, rfl, rfl, rfl, by go_num, by omega, by omega, IV1, I6, HB6⟩
    · go_wp2_with fail
      go_ret
      exact ⟨rfl, HB4.out⟩

set_option maxHeartbeats 8000000 in
set_option maxRecDepth 100000 in
theorem opens_low (f : Int) (A : Option Addr) (n c : Nat) (w : World) (h : f < 1) : Calls Try.prog 3 #[.int .i64 f, .slice A n c] w fun e w' => e = .returned (.bool true) ∧ Below w.heap.size w w' := by
  go_enter Try.func3, Try.ntmps3
  go_wp2_with (first
      | (go_at_call 7; (with_reducible refine (alive_ok _).mono ?_); rintro e w1 ⟨rfl, hb1⟩; have HB1 := Aside0.mk hb1; clear hb1))
  go_ret
  exact ⟨rfl, HB1.out⟩
set_option maxHeartbeats 8000000 in
set_option maxRecDepth 100000 in
theorem opens_high (f : Int) (A : Option Addr) (n c : Nat) (w : World) (h0 : ¬ f < 1) (h : 50 < f) : Calls Try.prog 3 #[.int .i64 f, .slice A n c] w fun e w' => e = .returned (.bool true) ∧ Below w.heap.size w w' := by
  go_enter Try.func3, Try.ntmps3
  go_wp2_with (first
      | (go_at_call 7; (with_reducible refine (alive_ok _).mono ?_); rintro e w1 ⟨rfl, hb1⟩; have HB1 := Aside0.mk hb1; clear hb1))
  go_ret
  exact ⟨rfl, HB1.out⟩
set_option maxHeartbeats 8000000 in
set_option maxRecDepth 100000 in
theorem opens_long (f : Int) (A : Option Addr) (n c : Nat) (w : World) (h0 : ¬ f < 1) (h1 : ¬ 50 < f) (hl : 200 < n) (hm : n ≤ 9223372036854775807) : Calls Try.prog 3 #[.int .i64 f, .slice A n c] w fun e w' => e = .returned (.bool true) ∧ Below w.heap.size w w' := by
  have h2 : (200 : Int) < (n : Int) := by omega
  clear hl
  go_enter Try.func3, Try.ntmps3
  go_wp2_with (first
      | (go_at_call 7; (with_reducible refine (alive_ok _).mono ?_); rintro e w1 ⟨rfl, hb1⟩; have HB1 := Aside0.mk hb1; clear hb1))
  go_ret
  exact ⟨rfl, HB1.out⟩
theorem walk (a0 : Int) (a1 : Option Addr) (len1 cap1 : Nat) (z1 : List (Int × Int × Bool)) (W : World) (_h0 : (Lit.int .i64 a0).wf = true) (w1 : IsActs W a1 len1 cap1 z1) :
    Calls Try.prog 3 #[.int .i64 a0, .slice a1 len1 cap1] W fun e w' => e = .returned (.bool true) ∧ Below W.heap.size W w' := by
  by_cases h0 : a0 < 1
  · exact opens_low a0 a1 len1 cap1 W h0
  · by_cases h1 : 50 < a0
    · exact opens_high a0 a1 len1 cap1 W h0 h1
    · rcases Nat.lt_or_ge 200 len1 with h | h
      · exact opens_long a0 a1 len1 cap1 W h0 h1 h w1.len.2
      · exact opens_in a0 a1 len1 cap1 z1 W w1 h (by omega) (by omega)

end Go.Proofs.Ytflgngnkfcfhpaa.ReOpensW
